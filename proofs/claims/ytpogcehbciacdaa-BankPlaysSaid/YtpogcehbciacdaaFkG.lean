/- The law BankAges: for all lots and every number the call returns true (no conditions). -/
import Derived.Test.YtpogcehbciacdaaPXx9
import Derived.Test.YtpogcehbciacdaaFkC
namespace Go.Proofs.Ytpogcehbciacdaa.PX
open Go.RowKit Go.Proofs.YtpogcehbciacdaaW.PrintWords Go.Proofs.YtpogcehbciacdaaW.PrintLast Go.Proofs.YtpogcehbciacdaaW.PrintMore
set_option linter.unusedVariables false
set_option linter.unusedSimpArgs false
/-- what is left: the end of the lots, a period older; what has gone stood ahead of it -/
theorem bage_end : ∀ {L : List S32} {n age keep : Int}, bgood n age L = true → 0 ≤ keep → keep ≤ 36 → ∃ p M, L = p ++ M ∧ (bage keep L).1 = M.map (fun y => ⟨y.f0, y.f1 + 1⟩) ∧ (∀ y ∈ M, 0 ≤ y.f1 ∧ y.f1 < keep) ∧ (∀ q y, p = q ++ [y] → keep ≤ y.f1) ∧ 0 ≤ (bage keep L).2 ∧ (bage keep L).2 + bsum (bage keep L).1 = bsum L ∧ bgood n 36 (bage keep L).1 = true
  | [], n, age, keep, _, _, _ => ⟨[], [], rfl, rfl, (fun y h => by cases h), (fun q y h => by simp at h), by simp [bage], by simp [bage, bsum], rfl⟩
  | x :: L, n, age, keep, h, h0, h36 => by
    obtain ⟨g1, g2, g3, g4, g5⟩ := bgood_cons.mp h
    simp only [bage]
    by_cases c : keep ≤ x.f1
    · rw [if_pos c]
      obtain ⟨p, M, e1, e2, e3, e4, e5, e6, e7⟩ := bage_end g5 h0 h36
      refine ⟨x :: p, M, by rw [e1]; rfl, e2, e3, fun q y hq => ?_, by simp only []; omega, by simp only [bsum]; omega, bgood_mono e7 (by omega) (Int.le_refl _)⟩
      cases q with
      | nil =>
        simp only [List.nil_append, List.cons.injEq] at hq
        rw [← hq.1]; exact c
      | cons z q =>
        simp only [List.cons_append, List.cons.injEq] at hq
        exact e4 q y hq.2
    · rw [if_neg c]
      have inc : ∀ {L : List S32} {n age : Int}, bgood n age L = true → bgood n (age + 1) (L.map (fun y => (⟨y.f0, y.f1 + 1⟩ : S32))) = true ∧ bsum (L.map (fun y => (⟨y.f0, y.f1 + 1⟩ : S32))) = bsum L := by
        intro L
        induction L with
        | nil => intro n age _; exact ⟨rfl, rfl⟩
        | cons y L ih =>
          intro n age hy
          obtain ⟨b1, b2, b3, b4, b5⟩ := bgood_cons.mp hy
          obtain ⟨i1, i2⟩ := ih b5
          exact ⟨bgood_cons.mpr ⟨b1, b2, by simp only []; omega, by simp only []; omega, i1⟩, by simp only [List.map_cons, bsum, i2]⟩
      have hc : bgood n (keep - 1) (x :: L) = true := bgood_cons.mpr ⟨g1, g2, g3, by omega, g5⟩
      obtain ⟨i1, i2⟩ := inc hc
      exact ⟨[], x :: L, rfl, rfl, fun y hy => by have := bgood_young hc y hy; omega, fun q y hq => by simp at hq, Int.le_refl _, by simp only []; rw [i2]; omega, bgood_mono i1 (Int.le_refl _) (by omega)⟩
theorem bage_none {L : List S32} {n age : Int} (h : bgood n age L = true) : bage 0 L = ([], bsum L) := by
  induction L generalizing n age with
  | nil => rfl
  | cons x L ih =>
    obtain ⟨g1, g2, g3, g4, g5⟩ := bgood_cons.mp h
    simp only [bage]
    rw [if_pos g3, ih g5]
    rfl
theorem agesloop (keep : Int) (hk36 : 0 ≤ keep ∧ keep ≤ 36) (p M : List S32) (hM : ∀ y ∈ M, 0 ≤ y.f1 ∧ y.f1 < keep) (hp : ∀ q y, p = q ++ [y] → keep ≤ y.f1) (hl : p.length + M.length ≤ 9000000000000) (m : Nat) : ∀ (k : Nat) (i : Nat), m + 1 ≤ k → i + m = M.length →
    pylonlaw19_BankAges.l0 k (p ++ M) keep (M.map (fun y => (⟨y.f0, y.f1 + 1⟩ : S32))) M.length i = some true := by
  have e1 : ((p ++ M).length : Int) = p.length + M.length := by simp
  have e2 : ((M.map (fun y => (⟨y.f0, y.f1 + 1⟩ : S32))).length : Int) = M.length := by simp
  have w0 : wrap64 (((p ++ M).length : Int) - ((M.map (fun y => (⟨y.f0, y.f1 + 1⟩ : S32))).length : Int)) = p.length := by rw [e1, e2, wr (by omega) (by omega)]; omega
  induction m with
  | zero =>
    intro k i hk hi
    obtain ⟨k, rfl⟩ : ∃ q, k = q + 1 := ⟨k - 1, by omega⟩
    rw [pylonlaw19_BankAges.l0, w0, if_neg (by omega)]
    rcases List.eq_nil_or_concat p with e | ⟨q, y, e⟩
    · rw [if_pos (by rw [e]; simp)]
    · rw [List.concat_eq_append] at e
      have lp : (p.length : Int) = q.length + 1 := by rw [e]; simp
      rw [if_neg (by rw [e1, e2]; omega), wr (n := (p.length : Int) - 1) (by omega) (by omega), if_pos (by omega), if_pos (by omega)]
      rw [show rd_T32 (p ++ M) ((p.length : Int) - 1) = y by rw [e, List.append_assoc, List.singleton_append]; exact rd_mid q M y _ (by simp)]
      rw [decide_eq_true (hp q y e)]
  | succ m ih =>
    intro k i hk hi
    obtain ⟨k, rfl⟩ : ∃ q, k = q + 1 := ⟨k - 1, by omega⟩
    have hi' : i < M.length := by omega
    have r1 : rd_T32 (p ++ M) ((p.length : Int) + (i : Int)) = M[i] := by
      rw [rd_off p M _ i rfl]
      unfold rd_T32
      simp [List.getD_eq_getElem?_getD, hi']
    have r2 : rd_T32 (M.map (fun y => (⟨y.f0, y.f1 + 1⟩ : S32))) (i : Int) = ⟨M[i].f0, M[i].f1 + 1⟩ := by
      unfold rd_T32
      simp [List.getD_eq_getElem?_getD, hi']
    have hy := hM M[i] (List.getElem_mem hi')
    rw [pylonlaw19_BankAges.l0, w0, if_pos (by omega), wr (n := (p.length : Int) + (i : Int)) (by omega) (by omega), if_pos (by omega), if_pos (by omega), if_pos (by omega), if_pos (by omega), r1, r2]
    simp only [if_true]
    rw [if_pos (by rw [wr (by omega) (by omega)]), if_neg (by omega), wr (n := (i : Int) + 1) (by omega) (by omega), show (i : Int) + 1 = ((i + 1 : Nat) : Int) by omega]
    exact ih k (i + 1) (by omega) (by omega)
theorem BankAges_pure (l0 : (List S32)) (a1 : Int) (h0 : (l0.length * 16 ≤ 140737488351232 ∧ ∀ p ∈ l0, W32 p)) (h1 : (Lit.int .i64 a1).wf = true) : ∃ k, pylonlaw19_BankAges.f k l0 a1 = some true := by
  refine ⟨2 * l0.length + 21, ?_⟩
  have hl : l0.length ≤ 8796093022000 := by omega
  unfold pylonlaw19_BankAges.f
  rw [bawake (by omega)]
  simp only [Option.bind_some, if_true]
  have ta := tmod_pos a1 (show (0:Int) < 37 by omega)
  generalize Int.tmod (IntKind.u64.wrap a1) 37 = keep at *
  rw [wr (n := keep) (by omega) (by omega), copyf hl]
  simp only [Option.bind_some]
  rw [bbal (by omega) (by omega), bagef (by omega) hl, refbcheck (by omega) (by omega)]
  simp only [Option.bind_some]
  by_cases c : bgood 0 36 l0 = true
  · obtain ⟨p, M, e1, e2, e3, e4, e5, e6, e7⟩ := bage_end (keep := keep) c (by omega) (by omega)
    have s0 := bgood_sum0 c
    have s1 := bgood_sum0 e7
    have ln := bage_len keep l0
    have ck : bgood 0 36 l0 = true ∧ 0 ≤ keep ∧ keep ≤ 36 := ⟨c, by omega, by omega⟩
    rw [if_pos c, if_pos c, if_pos ck]
    simp only [if_true]
    rw [copyf (by omega)]
    simp only [Option.bind_some]
    rw [bbal (by omega) (by omega), if_pos e7]
    simp only [Option.bind_some]
    have c0 : bgood 0 36 l0 = true ∧ (0 : Int) ≤ 0 ∧ (0 : Int) ≤ 36 := ⟨c, by omega, by omega⟩
    rw [bagef (by omega) hl, if_pos c0, bage_none c]
    simp only [Option.bind_some, if_true]
    rw [if_neg (by omega), if_neg (by omega), if_pos (by rw [wr (by omega) (by omega)]; omega), if_pos (by simp), decide_eq_false (by omega), show 2 * l0.length + 21 = (2 * l0.length + 20) + 1 from rfl, pylonlaw19_BankAges.j0, if_neg (by simp), e2]
    have ll : l0.length = p.length + M.length := by rw [e1]; simp
    have h := agesloop keep (by omega) p M e3 e4 (by omega) M.length (2 * l0.length + 20) 0 (by omega) (by omega)
    rw [← e1] at h
    rw [List.length_map]
    exact h
  · have ck : ¬ (bgood 0 36 l0 = true ∧ 0 ≤ keep ∧ keep ≤ 36) := fun h => c h.1
    rw [if_neg c, if_neg c, if_neg ck]
    rfl
end Go.Proofs.Ytpogcehbciacdaa.PX
