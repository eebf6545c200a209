/- Windows: the document's loop, by the plain list search. -/
import Derived.Test.YtkggjjggcbcdiaaPXx8
import Derived.Test.YtkggjjggcbcdiaaFa
import Derived.Test.YtkggjjggcbcdiaaRd
namespace Go.Proofs.Ytkggjjggcbcdiaa.PX
open Go.RowKit Go.Proofs.YtkggjjggcbcdiaaW.PrintWords Go.Proofs.YtkggjjggcbcdiaaW.PrintLast Go.Proofs.YtkggjjggcbcdiaaW.PrintMore
set_option linter.unusedVariables false
set_option linter.unusedSimpArgs false
theorem window_bd (s : ByteArray) (c m : Int) (L : List S60) : ∀ i : Int, (tou_Window.l L s c m i).2 = 0 → i ≤ (tou_Window.l L s c m i).1 ∧ (tou_Window.l L s c m i).1 < i + (L.length : Int) := by
  induction L with
  | nil => intro i h; simp [tou_Window.l] at h
  | cons x L ih =>
    intro i h
    simp only [tou_Window.l, List.length_cons] at h ⊢
    split at h
    · rename_i q
      rw [if_pos q]
      simp only []
      omega
    · rename_i q
      rw [if_neg q]
      have := ih (i + 1) h
      omega
end Go.Proofs.Ytkggjjggcbcdiaa.PX
