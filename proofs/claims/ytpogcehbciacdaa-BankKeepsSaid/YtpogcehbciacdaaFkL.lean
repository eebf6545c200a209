/- The law BankKeeps: for all lots and numbers the calls answer as the document's (no conditions). -/
import Derived.Test.YtpogcehbciacdaaPXx9
import Derived.Test.YtpogcehbciacdaaFkB
import Derived.Test.YtpogcehbciacdaaRd
namespace Go.Proofs.Ytpogcehbciacdaa.PX
open Go.RowKit Go.Proofs.YtpogcehbciacdaaW.PrintWords Go.Proofs.YtpogcehbciacdaaW.PrintLast Go.Proofs.YtpogcehbciacdaaW.PrintMore
set_option linter.unusedVariables false
set_option linter.unusedSimpArgs false
theorem bage_lenk (keep : Int) : ∀ L : List S32, (bage keep L).1.length ≤ L.length
  | [] => by simp [bage]
  | x :: L => by
    have := bage_lenk keep L
    unfold bage
    split <;> simp <;> omega
theorem btake_lenk : ∀ (L : List S32) (w : Int), (btake w L).1.length ≤ L.length
  | [], _ => by simp [btake]
  | x :: L, w => by
    have := btake_lenk L (w - x.f0)
    unfold btake
    split <;> simp <;> omega
theorem bput_lenk (L : List S32) (n : Int) : (bput L n).1.length ≤ L.length + 1 := by
  unfold bput
  (repeat' split) <;> simp
theorem BankKeeps_pure (l0 : (List S32)) (a1 : Int) (a2 : Int) (h0 : (l0.length * 16 ≤ 140737488351232 ∧ ∀ p ∈ l0, W32 p)) (h1 : (Lit.int .i64 a1).wf = true) (h2 : (Lit.int .i64 a2).wf = true) : ∃ k, pylonlaw19_BankKeeps.f k l0 a1 a2 = some true := by
  refine ⟨2 * l0.length + 21, ?_⟩
  have hl : l0.length ≤ 8796093022000 := by omega
  have w1 := wf64 h1
  obtain ⟨A, hA⟩ : ∃ A : List S32 × Int × Int, A = if bgood 0 36 l0 = true ∧ 0 ≤ a2 ∧ a2 ≤ 36 then ((bage a2 l0).1, (bage a2 l0).2, 0) else ([], 0, 8) := ⟨_, rfl⟩
  obtain ⟨T, hT⟩ : ∃ T : List S32 × Int × Int, T = if bgood 0 36 l0 = true then if a1 < 0 then ([], 0, 5) else ((btake a1 l0).1, (btake a1 l0).2, 0) else ([], 0, 8) := ⟨_, rfl⟩
  have lA : A.1.length ≤ l0.length := by rw [hA]; split; exact bage_lenk _ _; simp
  have lT : T.1.length ≤ l0.length := by
    rw [hT]; split
    · split
      · simp
      · exact btake_lenk _ _
    · simp
  have lP := bput_lenk l0 a1
  unfold pylonlaw19_BankKeeps.f
  rw [if_pos]
  exact ⟨bawake (by omega), by omega, copyf hl, samelots (by omega) (by omega), A.1, A.2.1, A.2.2, (bput l0 a1).1, (bput l0 a1).2, T.1, T.2.1, T.2.2,
    by rw [bagef (by omega) hl, ← hA], by rw [refbagef (by omega) hl, ← hA], by rw [bputf (by omega) hl], by rw [refbputf (by omega) hl], by rw [btakef (by omega) hl a1 (by omega), ← hT], by rw [refbtakef (by omega) hl a1 (by omega), ← hT], by omega, by omega,
    samelots (by omega) (by omega), samelots (by omega) (by omega), samelots (by omega) (by omega)⟩
end Go.Proofs.Ytpogcehbciacdaa.PX
