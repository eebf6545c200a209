/- Seasons: the program's and the document's answers are the same. -/
import Derived.Test.YtkggjjggcbcdiaaPXx10
import Derived.Test.YtkggjjggcbcdiaaPXx11
import Derived.Test.YtkggjjggcbcdiaaFa
import Derived.Test.YtkggjjggcbcdiaaFaR
import Derived.Test.YtkggjjggcbcdiaaFbNth
import Derived.Test.YtkggjjggcbcdiaaRd
namespace Go.Proofs.Ytkggjjggcbcdiaa.PX
open Go.RowKit Go.Proofs.YtkggjjggcbcdiaaW.PrintWords Go.Proofs.YtkggjjggcbcdiaaW.PrintLast Go.Proofs.YtkggjjggcbcdiaaW.PrintMore
set_option linter.unusedVariables false
set_option linter.unusedSimpArgs false
theorem civyd2 (y m d : Int) : civil_YearDay.f y m d = some (if Civ.ok y m d then (Civ.cum y m + d, 0) else (0, 5)) := by
  unfold civil_YearDay.f
  rw [civdays, civdays]
  simp only [Option.bind_some]
  by_cases c : Civ.ok y m d
  · rw [if_pos c, if_pos c, if_pos rfl]
    have r := Civ.dn_range c
    obtain ⟨c1, c2, c3, c4, c5, c6⟩ := c
    have l := Civ.len_bd y 1
    have c' : Civ.ok y 1 1 := ⟨c1, c2, by omega, by omega, by omega, by omega⟩
    have r' := Civ.dn_range c'
    rw [if_pos c']
    have e1 : Civ.cum y 1 = 0 := by simp [Civ.cum]
    have e : Civ.dn y m d - Civ.dn y 1 1 + 1 = Civ.cum y m + d := by unfold Civ.dn; omega
    simp (disch := omega) only [wr]
    rw [e]
  · rw [if_neg c, if_neg c]; rfl
def dayE (a : Int) : Int × Int := if Civ.ok 2000 (Int.tdiv a 100) (Int.tmod a 100) then (Civ.cum 2000 (Int.tdiv a 100) + Int.tmod a 100, 0) else (0, 8)
theorem soundday {a : Int} (ha : -9223372036854775808 ≤ a ∧ a ≤ 9223372036854775807) : sound_Day.f a = some (dayE a) := by
  have t := Int.tmod_add_mul_tdiv a 100
  have t1 := Int.lt_tmod_of_pos a (show (0:Int) < 100 by omega)
  have t2 := Int.tmod_lt_of_pos a (show (0:Int) < 100 by omega)
  unfold sound_Day.f dayE
  rw [wr (n := Int.tdiv a 100) (by omega) (by omega), civyd2]
  simp only [Option.bind_some]
  by_cases c : Civ.ok 2000 (Int.tdiv a 100) (Int.tmod a 100)
  · rw [if_pos c, if_pos c]; rfl
  · rw [if_neg c, if_neg c]; rfl
theorem wrap_in (x : Int) : -9223372036854775808 ≤ wrap64 x ∧ wrap64 x ≤ 9223372036854775807 := by unfold wrap64; omega
end Go.Proofs.Ytkggjjggcbcdiaa.PX
