/- HolidayEaster: for every year the call returns true (no conditions beyond an int). -/
import Derived.Test.YtegedhnbmclbkaaPXx2
import Derived.Test.YtegedhnbmclbkaaFa
import Derived.Test.YtegedhnbmclbkaaEas
import Derived.Test.YtegedhnbmclbkaaFaR
import Derived.Test.YtegedhnbmclbkaaFaW
namespace Go.Proofs.Ytegedhnbmclbkaa.PX
open Go.RowKit Go.Proofs.YtegedhnbmclbkaaW.PrintWords Go.Proofs.YtegedhnbmclbkaaW.PrintLast Go.Proofs.YtegedhnbmclbkaaW.PrintMore
set_option linter.unusedVariables false
set_option linter.unusedSimpArgs false
theorem easter_f (y : Int) : holiday_Easter.f y = some (if 1 ≤ y ∧ y ≤ 9999 then (y, Civ.eNum y / 31, Civ.eNum y % 31 + 1, 0) else (0, 0, 0, 5)) := by
  unfold holiday_Easter.f
  split <;> rfl
theorem easterawake : pylonlaw05_awake.f = some true := by
  unfold pylonlaw05_awake.f
  rw [easter_f]
  rfl
end Go.Proofs.Ytegedhnbmclbkaa.PX
