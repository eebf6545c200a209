/- The law BankOldest: for all lots and both numbers the call returns true (no conditions). -/
import Derived.Test.YtpogcehbciacdaaPXx8
import Derived.Test.YtpogcehbciacdaaFkA
namespace Go.Proofs.Ytpogcehbciacdaa.PX
open Go.RowKit Go.Proofs.YtpogcehbciacdaaW.PrintWords Go.Proofs.YtpogcehbciacdaaW.PrintLast Go.Proofs.YtpogcehbciacdaaW.PrintMore
set_option linter.unusedVariables false
set_option linter.unusedSimpArgs false
theorem btake_two : ∀ {L : List S32} {n age a b : Int}, bgood n age L = true → 0 ≤ a → 0 ≤ b → btake b (btake a L).1 = ((btake (a + b) L).1, (btake (a + b) L).2 - (btake a L).2)
  | [], _, _, _, _, _, _, _ => by simp [btake]
  | x :: L, n, age, a, b, h, ha, hb => by
    obtain ⟨g1, g2, g3, g4, g5⟩ := bgood_cons.mp h
    simp only [btake]
    by_cases c : x.f0 ≤ a
    · rw [if_pos c, if_pos (by omega)]
      simp only []
      rw [btake_two g5 (by omega) hb, show a - x.f0 + b = a + b - x.f0 by omega]
      simp only [Prod.mk.injEq, true_and]
      omega
    · rw [if_neg c]
      simp only [btake]
      by_cases c2 : x.f0 - a ≤ b
      · rw [if_pos c2, if_pos (by omega), show b - (x.f0 - a) = a + b - x.f0 by omega]
        simp only [Prod.mk.injEq, true_and]
        omega
      · rw [if_neg c2, if_neg (by omega)]
        simp only [Prod.mk.injEq, List.cons.injEq, and_true]
        refine ⟨?_, by omega⟩
        congr 1
        omega
/-- what is left: nothing, or the end of the lots, its first one made smaller -/
theorem btake_end : ∀ {L : List S32} {n age w : Int}, bgood n age L = true → 0 ≤ w → (btake w L).1 = [] ∨ ∃ p y M v, L = p ++ y :: M ∧ (btake w L).1 = ⟨y.f0 - v, y.f1⟩ :: M ∧ 0 ≤ v ∧ v < y.f0
  | [], _, _, _, _, _ => .inl rfl
  | x :: L, n, age, w, h, hw => by
    obtain ⟨g1, g2, g3, g4, g5⟩ := bgood_cons.mp h
    simp only [btake]
    by_cases c : x.f0 ≤ w
    · rw [if_pos c]
      rcases btake_end (w := w - x.f0) g5 (by omega) with e | ⟨p, y, M, v, e1, e2, e3, e4⟩
      · exact .inl e
      · exact .inr ⟨x :: p, y, M, v, by rw [e1]; rfl, e2, e3, e4⟩
    · rw [if_neg c]
      exact .inr ⟨[], x, L, w, rfl, rfl, hw, by omega⟩
theorem oldestloop (p M : List S32) (y h : S32) (hf : h.f1 = y.f1) (h1 : 1 ≤ h.f0) (h2 : h.f0 ≤ y.f0) (hl : p.length + M.length ≤ 9000000000000) (m : Nat) : ∀ (k : Nat) (i : Nat), m + 1 ≤ k → i + m = M.length + 1 → 1 ≤ i →
    pylonlaw19_BankOldest.l0 k (p ++ y :: M) (h :: M) i = some true := by
  have e1 : ((p ++ y :: M).length : Int) = p.length + M.length + 1 := by simp; omega
  have e2 : ((h :: M).length : Int) = M.length + 1 := by simp
  have w0 : wrap64 (((p ++ y :: M).length : Int) - ((h :: M).length : Int)) = p.length := by rw [e1, e2, wr (by omega) (by omega)]; omega
  induction m with
  | zero =>
    intro k i hk hi h0
    obtain ⟨k, rfl⟩ : ∃ q, k = q + 1 := ⟨k - 1, by omega⟩
    rw [pylonlaw19_BankOldest.l0, w0, if_neg (by omega), if_neg (by omega), if_pos (by omega), if_pos (by omega), if_pos (by omega), rd_hd h M, rd_mid p M y _ rfl, if_pos hf, if_pos (by omega), decide_eq_true h2]
  | succ m ih =>
    intro k i hk hi h0
    obtain ⟨k, rfl⟩ : ∃ q, k = q + 1 := ⟨k - 1, by omega⟩
    obtain ⟨j, rfl⟩ : ∃ j, i = j + 1 := ⟨i - 1, by omega⟩
    have r1 : rd_T32 (h :: M) ((j + 1 : Nat) : Int) = rd_T32 M j := rd_off [h] M _ j (by simp; omega)
    have r2 : rd_T32 (p ++ y :: M) ((p.length : Int) + ((j + 1 : Nat) : Int)) = rd_T32 M j := by
      have := rd_off (p ++ [y]) M ((p.length : Int) + ((j + 1 : Nat) : Int)) j (by simp; omega)
      rwa [List.append_assoc, List.singleton_append] at this
    rw [pylonlaw19_BankOldest.l0, w0, if_pos (by omega), if_pos (by omega), wr (n := (p.length : Int) + ((j + 1 : Nat) : Int)) (by omega) (by omega), if_pos (by omega), if_pos (by omega), r1, r2, if_neg (by simp), wr (n := ((j + 1 : Nat) : Int) + 1) (by omega) (by omega), show ((j + 1 : Nat) : Int) + 1 = ((j + 1 + 1 : Nat) : Int) by omega]
    exact ih k (j + 1 + 1) (by omega) (by omega) (by omega)
theorem BankOldest_pure (l0 : (List S32)) (a1 : Int) (a2 : Int) (h0 : (l0.length * 16 ≤ 140737488351232 ∧ ∀ p ∈ l0, W32 p)) (h1 : (Lit.int .i64 a1).wf = true) (h2 : (Lit.int .i64 a2).wf = true) : ∃ k, pylonlaw19_BankOldest.f k l0 a1 a2 = some true := by
  refine ⟨2 * l0.length + 20, ?_⟩
  have hl : l0.length ≤ 8796093022000 := by omega
  unfold pylonlaw19_BankOldest.f
  rw [bawake (by omega)]
  simp only [Option.bind_some, if_true]
  have ta := tmod_pos a1 (show (0:Int) < 1000000000000000 by omega)
  have tb := tmod_pos a2 (show (0:Int) < 1000000000000000 by omega)
  generalize Int.tmod (IntKind.u64.wrap a1) 1000000000000000 = a at *
  generalize Int.tmod (IntKind.u64.wrap a2) 1000000000000000 = b at *
  rw [wr (n := a) (by omega) (by omega), wr (n := b) (by omega) (by omega), wr (n := a + b) (by omega) (by omega), copyf hl]
  simp only [Option.bind_some]
  rw [btakef (by omega) hl a (by omega), refbcheck (by omega) (by omega)]
  simp only [Option.bind_some]
  by_cases c : bgood 0 36 l0 = true
  · rw [if_pos c, if_pos c, if_neg (show ¬ a < 0 by omega)]
    obtain ⟨i1, i2, i3, i4, i5, i6⟩ := btake_bd (w := a) c ta.1
    simp only [if_true]
    rw [copyf (by omega)]
    simp only [Option.bind_some]
    obtain ⟨j1, j2, j3, j4, j5, j6⟩ := btake_bd (w := b) i6 tb.1
    obtain ⟨q1, q2, q3, q4, q5, q6⟩ := btake_bd (w := a + b) c (by omega)
    have s0 := bgood_sum0 c
    have tt := btake_two c ta.1 tb.1
    rw [btakef (by omega) (by omega) b (by omega), if_pos i6, if_neg (show ¬ b < 0 by omega)]
    simp only [Option.bind_some]
    rw [btakef (by omega) hl (a + b) (by omega), if_pos c, if_neg (show ¬ a + b < 0 by omega)]
    simp only [Option.bind_some, if_true]
    have t1 : (btake b (btake a l0).1).1 = (btake (a + b) l0).1 := by rw [tt]
    have t2 : (btake b (btake a l0).1).2 = (btake (a + b) l0).2 - (btake a l0).2 := by rw [tt]
    rw [if_neg (show ¬ (btake a l0).2 < 0 by omega), if_neg (show ¬ (btake b (btake a l0).1).2 < 0 by omega), if_neg (show ¬ (btake a l0).2 > a by omega), if_neg (show ¬ (btake b (btake a l0).1).2 > b by omega), if_pos (by rw [wr (by omega) (by omega), t2]; omega), t1, samelots (by omega) (by omega)]
    simp only [Option.bind_some, if_true]
    rw [decide_eq_false (by omega), show 2 * l0.length + 20 = (2 * l0.length + 19) + 1 by omega, pylonlaw19_BankOldest.j0, if_neg (by simp)]
    rcases btake_end c ta.1 with e | ⟨p, y, M, v, e1, e2, e3, e4⟩
    · rw [e, show 2 * l0.length + 19 = (2 * l0.length + 18) + 1 by omega, pylonlaw19_BankOldest.l0, if_neg (by simp), if_pos (by simp)]
    · rw [e2]
      have ll : l0.length = p.length + M.length + 1 := by rw [e1]; simp; omega
      rw [e1]
      rw [e1] at hl
      exact oldestloop p M y ⟨y.f0 - v, y.f1⟩ rfl (by simp only []; omega) (by simp only []; omega) (by omega) M.length (2 * (p ++ y :: M).length + 19) 1 (by simp; omega) (by omega) (by omega)
  · rw [if_neg c, if_neg c]
    rfl
end Go.Proofs.Ytpogcehbciacdaa.PX
