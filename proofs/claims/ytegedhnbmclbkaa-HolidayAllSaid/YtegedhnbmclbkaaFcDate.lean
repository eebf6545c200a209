/- A day number's date, and dates by days further. -/
import Derived.Test.YtegedhnbmclbkaaPXx3
import Derived.Test.YtegedhnbmclbkaaFa
namespace Go.Proofs.Ytegedhnbmclbkaa.PX
open Go.RowKit Go.Proofs.YtegedhnbmclbkaaW.PrintWords Go.Proofs.YtegedhnbmclbkaaW.PrintLast Go.Proofs.YtegedhnbmclbkaaW.PrintMore
set_option linter.unusedVariables false
set_option linter.unusedSimpArgs false
/-- the date of a day number, and the error -/
def ofE4 (n : Int) : Int × Int × Int × Int := if -719162 ≤ n ∧ n ≤ 2932896 then (Civ.ofY n, Civ.ofM n, Civ.ofD n, 0) else (0, 0, 0, 5)
theorem civof (n : Int) : civil_Of.f n = some (ofE4 n) := by unfold civil_Of.f ofE4; split <;> rfl
theorem civadd (y m d n : Int) : civil_Add.f y m d n = some (if Civ.ok y m d then ofE4 (Civ.dn y m d + n) else (0, 0, 0, 5)) := by
  unfold civil_Add.f
  rw [civdays]
  simp only [Option.bind_some]
  by_cases c : Civ.ok y m d
  · rw [if_pos c, if_pos c]
    have r := Civ.dn_range c
    simp only [if_true]
    by_cases h1 : n < -3652058
    · rw [if_pos h1, ofE4, if_neg (by omega)]
    · rw [if_neg h1]
      by_cases h2 : n > 3652058
      · rw [if_pos h2, ofE4, if_neg (by omega)]
      · rw [if_neg h2, wr (by omega) (by omega), civof]; rfl
  · rw [if_neg c, if_neg c]; rfl
theorem ofE4_in {n : Int} (h1 : -719162 ≤ n) (h2 : n ≤ 2932896) : ofE4 n = (Civ.ofY n, Civ.ofM n, Civ.ofD n, 0) := if_pos ⟨h1, h2⟩
theorem ofE4_out {n : Int} (h : n < -719162 ∨ 2932896 < n) : ofE4 n = (0, 0, 0, 5) := if_neg (by omega)
end Go.Proofs.Ytegedhnbmclbkaa.PX
