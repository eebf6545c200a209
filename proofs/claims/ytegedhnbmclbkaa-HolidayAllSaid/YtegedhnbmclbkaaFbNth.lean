/- The n-th weekday of a month, as the program has it. -/
import Derived.Test.YtegedhnbmclbkaaPXx2
import Derived.Test.YtegedhnbmclbkaaFa
namespace Go.Proofs.Ytegedhnbmclbkaa.PX
open Go.RowKit Go.Proofs.YtegedhnbmclbkaaW.PrintWords Go.Proofs.YtegedhnbmclbkaaW.PrintLast Go.Proofs.YtegedhnbmclbkaaW.PrintMore
set_option linter.unusedVariables false
set_option linter.unusedSimpArgs false
/-- the n-th weekday of a month, as the program has it -/
theorem civnth (k : Nat) (y m w d : Int) (hw : -9223372036854775808 ≤ w ∧ w ≤ 9223372036854775807) (hd : -9223372036854775808 ≤ d ∧ d ≤ 9223372036854775807) :
    civil_Nth.f (k + 1) y m w d = some (if 1 ≤ y ∧ y ≤ 9999 ∧ 1 ≤ m ∧ m ≤ 12 then if 1 ≤ w ∧ w ≤ 5 ∧ 0 ≤ d ∧ d ≤ 6 then (y, m, Civ.nth y m w d, 0) else (0, 0, 0, 8) else (0, 0, 0, 5)) := by
  unfold civil_Nth.f civil_Length.f Civ.lenE
  by_cases c : 1 ≤ y ∧ y ≤ 9999 ∧ 1 ≤ m ∧ m ≤ 12
  · rw [if_pos c, if_pos c]
    simp only [Option.bind_some, if_true]
    by_cases a1 : w < 1
    · rw [if_pos a1, if_neg (by omega)]; rfl
    · rw [if_neg a1]
      by_cases a2 : w > 5
      · rw [if_pos a2, if_neg (by omega)]; rfl
      · rw [if_neg a2]
        by_cases a3 : d < 0
        · rw [if_pos a3, if_neg (by omega)]; rfl
        · rw [if_neg a3]
          by_cases a4 : d > 6
          · rw [decide_eq_true a4, if_neg (by omega)]; rfl
          · rw [decide_eq_false a4, if_pos (by omega), civil_Nth.j0, if_neg (by simp), civwd]
            have l := Civ.len_bd y m
            have o : Civ.ok y m 1 := ⟨c.1, c.2.1, c.2.2.1, c.2.2.2, by omega, by omega⟩
            rw [if_pos o]
            simp only [Option.bind_some]
            have g : 0 ≤ (Civ.dn y m 1 + 719162) % 7 ∧ (Civ.dn y m 1 + 719162) % 7 ≤ 6 := by omega
            unfold Civ.nth
            generalize (Civ.dn y m 1 + 719162) % 7 = b at *
            simp (disch := omega) only [wr, tm]
            by_cases q : 1 + (d - b + 7) % 7 + 7 * (w - 1) > Civ.len y m
            · rw [if_pos q, if_pos q]
            · rw [if_neg q, if_neg q]
  · rw [if_neg c, if_neg c]; rfl
end Go.Proofs.Ytegedhnbmclbkaa.PX
