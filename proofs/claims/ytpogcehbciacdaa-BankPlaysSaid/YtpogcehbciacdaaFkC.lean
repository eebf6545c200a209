/- The law BankCalls: for all lots and numbers the call returns true (no conditions). -/
import Derived.Test.YtpogcehbciacdaaPXx11
import Derived.Test.YtpogcehbciacdaaFkB
namespace Go.Proofs.Ytpogcehbciacdaa.PX
open Go.RowKit Go.Proofs.YtpogcehbciacdaaW.PrintWords Go.Proofs.YtpogcehbciacdaaW.PrintLast Go.Proofs.YtpogcehbciacdaaW.PrintMore
set_option linter.unusedVariables false
set_option linter.unusedSimpArgs false
theorem bage_len (keep : Int) : ∀ L : List S32, (bage keep L).1.length ≤ L.length
  | [] => by simp [bage]
  | x :: L => by
    simp only [bage]
    split
    · have := bage_len keep L; simp only [List.length_cons]; omega
    · simp
theorem btake_len : ∀ (L : List S32) (w : Int), (btake w L).1.length ≤ L.length
  | [], w => by simp [btake]
  | x :: L, w => by
    simp only [btake]
    split
    · have := btake_len L (w - x.f0); simp only [List.length_cons]; omega
    · simp
theorem bput_len (L : List S32) (n : Int) : (bput L n).1.length ≤ L.length + 1 := by
  unfold bput
  split
  · split
    · simp
    · simp only []; split <;> simp
  · simp
theorem BankCalls_pure (l0 : (List S32)) (a1 : Int) (a2 : Int) (h0 : (l0.length * 16 ≤ 140737488351232 ∧ ∀ p ∈ l0, W32 p)) (h1 : (Lit.int .i64 a1).wf = true) (h2 : (Lit.int .i64 a2).wf = true) : ∃ k, pylonlaw19_BankCalls.f k l0 a1 a2 = some true := by
  refine ⟨2 * l0.length + 21, ?_⟩
  have hl : l0.length ≤ 8796093022000 := by omega
  have w1 := wf64 h1
  obtain ⟨A, hA⟩ : ∃ A : List S32 × Int × Int, A = if bgood 0 36 l0 = true ∧ 0 ≤ a2 ∧ a2 ≤ 36 then ((bage a2 l0).1, (bage a2 l0).2, 0) else ([], 0, 8) := ⟨_, rfl⟩
  obtain ⟨T, hT⟩ : ∃ T : List S32 × Int × Int, T = if bgood 0 36 l0 = true then if a1 < 0 then ([], 0, 5) else ((btake a1 l0).1, (btake a1 l0).2, 0) else ([], 0, 8) := ⟨_, rfl⟩
  have lA : A.1.length ≤ l0.length := by rw [hA]; split; exact bage_len _ _; simp
  have lT : T.1.length ≤ l0.length := by
    rw [hT]; split
    · split
      · simp
      · exact btake_len _ _
    · simp
  have lP := bput_len l0 a1
  unfold pylonlaw19_BankCalls.f
  rw [bawake (by omega)]
  simp only [Option.bind_some, if_true]
  rw [refbagef (by omega) hl, refbputf (by omega) hl, refbtakef (by omega) hl a1 (by omega), refbbal (by omega) (by omega), copyf hl]
  simp only [Option.bind_some]
  rw [bagef (by omega) hl, bputf (by omega) hl, btakef (by omega) hl a1 (by omega), bbal (by omega) (by omega), bcheck (by omega) (by omega), refbcheck (by omega) (by omega), ← hA, ← hT]
  simp only [Option.bind_some, if_true]
  rw [show 2 * l0.length + 21 = (2 * l0.length + 20) + 1 from rfl, pylonlaw19_BankCalls.j0, if_neg (by simp), samelots (by omega) (by omega)]
  simp only [Option.bind_some, if_true]
  rw [samelots (by omega) (by omega)]
  simp only [Option.bind_some, if_true]
  rw [samelots (by omega) (by omega)]
  rfl
end Go.Proofs.Ytpogcehbciacdaa.PX
