/- Holidays: the document's Check, On and Is, by the same plain rules. -/
import Derived.Test.YtkggjjggcbcdiaaFhA
import Derived.Test.YtkggjjggcbcdiaaFaR
import Derived.Test.YtkggjjggcbcdiaaFeRef
namespace Go.Proofs.Ytkggjjggcbcdiaa.PX
open Go.RowKit Go.Proofs.YtkggjjggcbcdiaaW.PrintWords Go.Proofs.YtkggjjggcbcdiaaW.PrintLast Go.Proofs.YtkggjjggcbcdiaaW.PrintMore
set_option linter.unusedVariables false
set_option linter.unusedSimpArgs false
def hit3 (y m d : Int) (h : S65) : Bool := pm h (y - 1) y m d || (pm h y y m d || pm h (y + 1) y m d)
theorem pm_year {h : S65} (k3 : h.f0 ≠ 3) {Y y m d : Int} (p : pm h Y y m d = true) : Y = y := by
  unfold pm at p
  simp only [Bool.and_eq_true, decide_eq_true_eq, beq_iff_eq] at p
  obtain ⟨p1, p2, -, -⟩ := p
  unfold hon at p1 p2
  by_cases g : hgood h.f0 h.f1 h.f2 h.f3
  · rw [if_pos g] at p1 p2
    by_cases cy : 1 ≤ Y ∧ Y ≤ 9999
    · rw [if_pos cy] at p1 p2
      by_cases k1 : h.f0 = 1
      · rw [if_pos k1] at p1 p2
        split at p2
        · exact p2
        · rename_i q; rw [if_neg q] at p1; simp at p1
      · rw [if_neg k1] at p1 p2
        by_cases k2 : h.f0 = 2
        · rw [if_pos k2] at p2; exact p2
        · exfalso; unfold hgood at g; omega
    · rw [if_neg cy] at p1; simp at p1
  · rw [if_neg g] at p1; simp at p1
theorem hit_same (y m d : Int) (h : S65) : hit3 y m d h = hit y m d h := by
  unfold hit3 hit
  by_cases k3 : h.f0 = 3
  · rw [decide_eq_true k3, Bool.true_and]
    cases pm h (y - 1) y m d <;> cases pm h y y m d <;> rfl
  · rw [decide_eq_false k3, Bool.false_and, Bool.or_false]
    have a : pm h (y - 1) y m d = false := Bool.eq_false_iff.mpr (fun q => by have := pm_year k3 q; omega)
    have b : pm h (y + 1) y m d = false := Bool.eq_false_iff.mpr (fun q => by have := pm_year k3 q; omega)
    rw [a, b, Bool.false_or, Bool.or_false]
end Go.Proofs.Ytkggjjggcbcdiaa.PX
