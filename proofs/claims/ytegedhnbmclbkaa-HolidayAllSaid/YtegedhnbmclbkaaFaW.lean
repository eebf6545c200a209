/- The document's weekday. -/
import Derived.Test.YtegedhnbmclbkaaPXx9
import Derived.Test.YtegedhnbmclbkaaFaR
namespace Go.Proofs.Ytegedhnbmclbkaa.PX
open Go.RowKit Go.Proofs.YtegedhnbmclbkaaW.PrintWords Go.Proofs.YtegedhnbmclbkaaW.PrintLast Go.Proofs.YtegedhnbmclbkaaW.PrintMore
set_option linter.unusedVariables false
set_option linter.unusedSimpArgs false
theorem refwd (k : Nat) (y m d : Int) : pylonref03_Weekday.f (k + 20) y m d = some (if Civ.ok y m d then ((Civ.dn y m d + 719162) % 7, 0) else (0, 5)) := by
  unfold pylonref03_Weekday.f
  rw [refdays]
  simp only [Option.bind_some]
  by_cases c : Civ.ok y m d
  · rw [if_pos c, if_pos c, if_pos rfl]
    have r := Civ.dn_range c
    simp (disch := omega) only [wr, tm]
  · rw [if_neg c, if_neg c]; rfl
end Go.Proofs.Ytegedhnbmclbkaa.PX
