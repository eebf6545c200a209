/- The law BankPlays: for every script the call returns true (no conditions). -/
import Derived.Test.YtpogcehbciacdaaPXx12
import Derived.Test.YtpogcehbciacdaaFkG
namespace Go.Proofs.Ytpogcehbciacdaa.PX
open Go.RowKit Go.Proofs.YtpogcehbciacdaaW.PrintWords Go.Proofs.YtpogcehbciacdaaW.PrintLast Go.Proofs.YtpogcehbciacdaaW.PrintMore
set_option linter.unusedVariables false
set_option linter.unusedSimpArgs false
theorem bgood_put {L : List S32} : ∀ {n age m : Int}, bgood n age L = true → 0 ≤ age → 1 ≤ m → m ≤ 1000000000000000 - n - bsum L → bgood n age (L ++ [⟨m, 0⟩]) = true ∧ bsum (L ++ [⟨m, 0⟩]) = bsum L + m := by
  induction L with
  | nil =>
    intro n age m _ ha h1 h2
    simp only [bsum] at h2
    exact ⟨bgood_cons.mpr ⟨h1, by simp only []; omega, Int.le_refl _, ha, rfl⟩, by simp [bsum]⟩
  | cons x L ih =>
    intro n age m h ha h1 h2
    obtain ⟨g1, g2, g3, g4, g5⟩ := bgood_cons.mp h
    simp only [bsum] at h2
    obtain ⟨i1, i2⟩ := ih g5 g3 h1 (by omega)
    exact ⟨bgood_cons.mpr ⟨g1, g2, g3, g4, i1⟩, by simp only [List.cons_append, bsum, i2]; omega⟩
/-- what stands at a round's head -/
structure BI (L : List S32) (put out : Int) (i : Nat) : Prop where
  g : bgood 0 36 L = true
  s : bsum L = put - out
  o : 0 ≤ out
  p : 0 ≤ put ∧ put ≤ 2305843009213693952
  l : L.length ≤ i
theorem plays_j2 {m : Nat} {ops : List S44} (hl : ops.length ≤ 3000)
    (ih : ∀ (k : Nat) (i : Nat) (L : List S32) (put out : Int), 3 * m + 9000 ≤ k → i + m = ops.length → BI L put out i → pylonlaw19_BankPlays.l0 k ops L L put out ops.length i = some true)
    {k i : Nat} {L : List S32} {put out : Int} (hk : 3 * m + 9001 ≤ k) (hi : i + (m + 1) = ops.length) (g : bgood 0 36 L = true) (s : bsum L = put - out) (o : 0 ≤ out) (p : 0 ≤ put ∧ put ≤ 2400000000000000000) (ll : L.length ≤ i + 1) :
    pylonlaw19_BankPlays.j2 k ops L L put out ops.length i = some true := by
  obtain ⟨k, rfl⟩ : ∃ q, k = q + 1 := ⟨k - 1, by omega⟩
  have s0 := bgood_sum0 g
  rw [pylonlaw19_BankPlays.j2, copyf (by omega)]
  simp only [Option.bind_some]
  rw [bbal (by omega) (by omega), if_pos g]
  simp only [Option.bind_some, if_true]
  rw [if_pos (by rw [wr (by omega) (by omega)]; exact s), bcheck (by omega) (by omega), if_pos g]
  simp only [Option.bind_some, if_true]
  rw [samelots (by omega) (by omega)]
  simp only [Option.bind_some, if_true]
  by_cases c : put > 2305843009213693952
  · rw [if_pos c, decide_eq_true c]
  · rw [if_neg c, wr (n := (i : Int) + 1) (by omega) (by omega), show (i : Int) + 1 = ((i + 1 : Nat) : Int) by omega]
    exact ih k (i + 1) L put out (by omega) (by omega) ⟨g, s, o, ⟨p.1, by omega⟩, ll⟩
theorem playsloop {ops : List S44} (hl : ops.length ≤ 3000) (hw : ∀ p ∈ ops, W44 p) (m : Nat) : ∀ (k : Nat) (i : Nat) (L : List S32) (put out : Int), 3 * m + 9000 ≤ k → i + m = ops.length → BI L put out i → pylonlaw19_BankPlays.l0 k ops L L put out ops.length i = some true := by
  induction m with
  | zero =>
    intro k i L put out hk hi b
    obtain ⟨k, rfl⟩ : ∃ q, k = q + 1 := ⟨k - 1, by omega⟩
    rw [pylonlaw19_BankPlays.l0, if_neg (by omega)]
  | succ m ih =>
    intro k i L put out hk hi b
    obtain ⟨g, s, o, p, l⟩ := b
    obtain ⟨k, rfl⟩ : ∃ q, k = q + 1 := ⟨k - 1, by omega⟩
    have s0 := bgood_sum0 g
    have hi' : i < ops.length := by omega
    have hx : rd_T44 ops (i : Int) = ops[i] := by
      unfold rd_T44
      simp [List.getD_eq_getElem?_getD, hi']
    have wx := hw ops[i] (List.getElem_mem hi')
    rw [pylonlaw19_BankPlays.l0, if_pos (by omega), if_pos (by omega), if_pos (by omega), hx]
    generalize ops[i] = x at *
    have w1 := wf64 wx.2
    have same : pylonlaw19_BankPlays.j2 k ops L L put out ops.length i = some true := plays_j2 hl ih (by omega) hi g s o ⟨p.1, by omega⟩ (by omega)
    by_cases c1 : x.f0 = 1
    · rw [if_pos c1, copyf (by omega)]
      simp only [Option.bind_some]
      have ta := tmod_pos x.f1 (show (0:Int) < 37 by omega)
      generalize Int.tmod (IntKind.u64.wrap x.f1) 37 = keep at *
      obtain ⟨q, M, e1, e2, e3, e4, e5, e6, e7⟩ := bage_end (keep := keep) g (by omega) (by omega)
      have s1 := bgood_sum0 e7
      have ln := bage_len keep L
      have ck : bgood 0 36 L = true ∧ 0 ≤ keep ∧ keep ≤ 36 := ⟨g, by omega, by omega⟩
      rw [wr (n := keep) (by omega) (by omega), bagef (by omega) (by omega), refbagef (by omega) (by omega), if_pos ck]
      simp only [Option.bind_some, if_true]
      rw [wr (n := put - out) (by omega) (by omega), wr (n := out + (bage keep L).2) (by omega) (by omega), if_neg (by omega), if_neg (by omega)]
      exact plays_j2 hl ih (by omega) hi e7 (by omega) (by omega) ⟨p.1, by omega⟩ (by omega)
    rw [if_neg c1]
    by_cases c2 : x.f0 = 2
    · rw [if_pos c2, copyf (by omega)]
      simp only [Option.bind_some]
      rw [bputf (by omega) (by omega), refbputf (by omega) (by omega)]
      simp only [Option.bind_some, if_true]
      unfold bput
      rw [if_pos g]
      by_cases c3 : x.f1 < 0 ∨ x.f1 > 1000000000000000 - bsum L
      · rw [if_pos c3]
        simp only []
        rw [if_neg (by omega)]
        exact same
      · rw [if_neg c3]
        simp only [if_true]
        rw [wr (n := put + x.f1) (by omega) (by omega)]
        by_cases c4 : x.f1 > 0
        · rw [if_pos c4]
          obtain ⟨b1, b2⟩ := bgood_put (m := x.f1) g (by omega) (by omega) (by omega)
          exact plays_j2 hl ih (by omega) hi b1 (by omega) o ⟨by omega, by omega⟩ (by simp; omega)
        · rw [if_neg c4]
          exact plays_j2 hl ih (by omega) hi g (by omega) o ⟨by omega, by omega⟩ (by omega)
    rw [if_neg c2]
    by_cases c3 : x.f0 = 3
    · rw [if_pos c3, copyf (by omega)]
      simp only [Option.bind_some]
      rw [btakef (by omega) (by omega) x.f1 (by omega), refbtakef (by omega) (by omega) x.f1 (by omega), if_pos g]
      simp only [Option.bind_some, if_true]
      obtain ⟨k, rfl⟩ : ∃ q, k = q + 1 := ⟨k - 1, by omega⟩
      by_cases c4 : x.f1 < 0
      · rw [if_pos c4]
        simp only []
        rw [if_neg (by omega), if_neg (by omega), pylonlaw19_BankPlays.j1, if_neg (by simp), if_neg (by omega)]
        exact plays_j2 hl ih (by omega) hi g s o ⟨p.1, by omega⟩ (by omega)
      · rw [if_neg c4]
        simp only [if_true]
        obtain ⟨i1, i2, i3, i4, i5, i6⟩ := btake_bd (w := x.f1) g (by omega)
        have mm : ¬ (btake x.f1 L).2 > mn x.f1 (put - out) := by unfold mn; split <;> omega
        rw [if_neg (by omega), wr (n := put - out) (by omega) (by omega), decide_eq_false mm, pylonlaw19_BankPlays.j1, if_neg (by simp), if_pos rfl, wr (n := out + (btake x.f1 L).2) (by omega) (by omega)]
        exact plays_j2 hl ih (by omega) hi i6 (by omega) (by omega) ⟨p.1, by omega⟩ (by omega)
    rw [if_neg c3]
    exact same
theorem BankPlays_pure (l0 : (List S44)) (h0 : (l0.length * 16 ≤ 140737488351232 ∧ ∀ p ∈ l0, W44 p)) : ∃ k, pylonlaw19_BankPlays.f k l0 = some true := by
  refine ⟨20000, ?_⟩
  unfold pylonlaw19_BankPlays.f
  rw [bawake (by omega)]
  simp only [Option.bind_some, if_true]
  by_cases c : (l0.length : Int) > 3000
  · rw [if_pos c]
  · rw [if_neg c]
    exact playsloop (by omega) h0.2 l0.length 20000 0 [] 0 0 (by omega) (by omega) ⟨rfl, by simp [bsum], by omega, by omega, by simp⟩
end Go.Proofs.Ytpogcehbciacdaa.PX
