/- Holidays: the document's Check, On and Is, by the same plain rules. -/
import Derived.Test.YtkggjjggcbcdiaaPXx10
import Derived.Test.YtkggjjggcbcdiaaFhA
import Derived.Test.YtkggjjggcbcdiaaFaR
import Derived.Test.YtkggjjggcbcdiaaFeRef
namespace Go.Proofs.Ytkggjjggcbcdiaa.PX
open Go.RowKit Go.Proofs.YtkggjjggcbcdiaaW.PrintWords Go.Proofs.YtkggjjggcbcdiaaW.PrintLast Go.Proofs.YtkggjjggcbcdiaaW.PrintMore
set_option linter.unusedVariables false
set_option linter.unusedSimpArgs false
theorem refhcheck (k : Nat) (kd a b c : Int) : pylonref05_Check.f (k + 2) kd a b c = some (if hgood kd a b c then 0 else 8) := by
  unfold pylonref05_Check.f
  by_cases k1 : kd = 1
  · rw [if_pos k1, reflen]
    unfold Civ.lenE
    by_cases ca : 1 ≤ a ∧ a ≤ 12
    · rw [if_pos (show (1 : Int) ≤ 2000 ∧ (2000 : Int) ≤ 9999 ∧ 1 ≤ a ∧ a ≤ 12 from ⟨by omega, by omega, ca.1, ca.2⟩)]
      simp only [Option.bind_some, if_true]
      have h : hgood kd a b c ↔ b ≥ 1 ∧ b ≤ Civ.len 2000 a ∧ c = 0 := by unfold hgood; omega
      by_cases c1 : b ≥ 1
      · rw [if_pos c1]
        by_cases c2 : b ≤ Civ.len 2000 a
        · rw [if_pos c2]
          by_cases c3 : c = 0
          · rw [if_pos c3, if_pos (h.mpr ⟨c1, c2, c3⟩)]
          · rw [if_neg c3, if_neg (fun q => c3 (h.mp q).2.2)]
        · rw [if_neg c2, if_neg (fun q => c2 (h.mp q).2.1)]
      · rw [if_neg c1, if_neg (fun q => c1 (h.mp q).1)]
    · rw [if_neg (show ¬ ((1 : Int) ≤ 2000 ∧ (2000 : Int) ≤ 9999 ∧ 1 ≤ a ∧ a ≤ 12) from fun q => ca ⟨q.2.2.1, q.2.2.2⟩)]
      simp only [Option.bind_some]
      rw [if_neg (by omega), if_neg (by unfold hgood; omega)]
  rw [if_neg k1]
  by_cases k2 : kd = 2
  · rw [if_pos k2]
    repeat' split
    all_goals first | (unfold hgood at *; omega) | rfl
  rw [if_neg k2]
  by_cases k3 : kd = 3
  · rw [if_pos k3]
    repeat' split
    all_goals first | (unfold hgood at *; omega) | rfl
  rw [if_neg k3, if_neg (by unfold hgood; omega)]
def hit3 (y m d : Int) (h : S65) : Bool := pm h (y - 1) y m d || (pm h y y m d || pm h (y + 1) y m d)
theorem pm_year {h : S65} (k3 : h.f0 ≠ 3) {Y y m d : Int} (p : pm h Y y m d = true) : Y = y := by
  unfold pm at p
  simp only [Bool.and_eq_true, decide_eq_true_eq, beq_iff_eq] at p
  obtain ⟨p1, p2, -, -⟩ := p
  unfold hon at p1 p2
  by_cases g : hgood h.f0 h.f1 h.f2 h.f3
  · rw [if_pos g] at p1 p2
    by_cases cy : 1 ≤ Y ∧ Y ≤ 9999
    · rw [if_pos cy] at p1 p2
      by_cases k1 : h.f0 = 1
      · rw [if_pos k1] at p1 p2
        split at p2
        · exact p2
        · rename_i q; rw [if_neg q] at p1; simp at p1
      · rw [if_neg k1] at p1 p2
        by_cases k2 : h.f0 = 2
        · rw [if_pos k2] at p2; exact p2
        · exfalso; unfold hgood at g; omega
    · rw [if_neg cy] at p1; simp at p1
  · rw [if_neg g] at p1; simp at p1
theorem hit_same (y m d : Int) (h : S65) : hit3 y m d h = hit y m d h := by
  unfold hit3 hit
  by_cases k3 : h.f0 = 3
  · rw [decide_eq_true k3, Bool.true_and]
    cases pm h (y - 1) y m d <;> cases pm h y y m d <;> rfl
  · rw [decide_eq_false k3, Bool.false_and, Bool.or_false]
    have a : pm h (y - 1) y m d = false := Bool.eq_false_iff.mpr (fun q => by have := pm_year k3 q; omega)
    have b : pm h (y + 1) y m d = false := Bool.eq_false_iff.mpr (fun q => by have := pm_year k3 q; omega)
    rw [a, b, Bool.false_or, Bool.or_false]
end Go.Proofs.Ytkggjjggcbcdiaa.PX
