/- HolidayEaster: for every year the call returns true (no conditions beyond an int). -/
import Derived.Test.YtipldjcncfoffaaPXx10
import Derived.Test.YtipldjcncfoffaaFa
import Derived.Test.YtipldjcncfoffaaEas
namespace Go.Proofs.Ytipldjcncfoffaa.PX
open Go.RowKit Go.Proofs.YtipldjcncfoffaaW.PrintWords Go.Proofs.YtipldjcncfoffaaW.PrintLast Go.Proofs.YtipldjcncfoffaaW.PrintMore
set_option linter.unusedVariables false
set_option linter.unusedSimpArgs false
theorem easter_f (y : Int) : holiday_Easter.f y = some (if 1 ≤ y ∧ y ≤ 9999 then (y, Civ.eNum y / 31, Civ.eNum y % 31 + 1, 0) else (0, 0, 0, 5)) := by
  unfold holiday_Easter.f
  split <;> rfl
theorem easterawake : pylonlaw05_awake.f = some true := by
  unfold pylonlaw05_awake.f
  rw [easter_f]
  rfl
theorem HolidayEaster_pure : pylonlaw05_HolidayEaster.Pure := by
  intro y hy
  refine ⟨22, ?_⟩
  unfold pylonlaw05_HolidayEaster.f
  rw [easterawake, easter_f]
  simp only [Option.bind_some, if_true]
  by_cases h1 : y < 1
  · rw [if_pos h1, if_neg (by omega)]; rfl
  · rw [if_neg h1]
    by_cases h2 : y > 9999
    · rw [decide_eq_true h2, if_neg (by omega)]; rfl
    · rw [decide_eq_false h2, if_pos (by omega), pylonlaw05_HolidayEaster.j0, if_neg (by simp)]
      by_cases h3 : y < 1583
      · rw [if_pos h3, if_pos rfl]; simp
      · obtain ⟨ha1, ha2, hok, hw⟩ := Civ.easter_at (y := y) (by omega) (by omega)
        rw [if_neg h3, refwd 1, if_pos hok]
        simp only [Option.bind_some]
        simp only [if_true, if_pos hw]
        have r1 : 3 ≤ Civ.eNum y / 31 ∧ Civ.eNum y / 31 ≤ 4 := by omega
        simp (disch := omega) only [wr]
        rw [if_pos (by omega), decide_eq_true (by omega)]
end Go.Proofs.Ytipldjcncfoffaa.PX
