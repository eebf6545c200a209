/- Billing periods' first days: the program's and the document's, by one plain reckoning. -/
import Derived.Test.YtddkckpfmleffaaPXx21
import Derived.Test.YtddkckpfmleffaaPXx22
import Derived.Test.YtddkckpfmleffaaPXx24
import Derived.Test.YtddkckpfmleffaaPXx26
import Derived.Test.YtddkckpfmleffaaFa
import Derived.Test.YtddkckpfmleffaaFaR
import Derived.Test.YtddkckpfmleffaaFaW
namespace Go.Proofs.Ytddkckpfmleffaa.PX
open Go.RowKit Go.Proofs.YtddkckpfmleffaaW.PrintWords Go.Proofs.YtddkckpfmleffaaW.PrintLast Go.Proofs.YtddkckpfmleffaaW.PrintMore
set_option linter.unusedVariables false
set_option linter.unusedSimpArgs false
/-- the billing day of the month numbered n, January of the year 1 being 1 -/
def perOf (n day : Int) : Int × Int × Int × Int := if n < 1 ∨ (n + 11) / 12 > 9999 then (0, 0, 0, 5) else ((n + 11) / 12, (n + 11) % 12 + 1, day, 0)
def perNo (y m d day : Int) : Int := if d < day then 12 * (y - 1) + m - 1 else 12 * (y - 1) + m
def perB (y m d day : Int) (j : Int) : Int × Int × Int × Int := if 1 ≤ day ∧ day ≤ 28 then if Civ.ok y m d then perOf (perNo y m d day + j) day else (0, 0, 0, 5) else (0, 0, 0, 8)
theorem placef (k : Nat) (y m d day : Int) (hd : -9223372036854775808 ≤ day ∧ day ≤ 9223372036854775807) :
    period_place.f (k + 1) y m d day = some (if 1 ≤ day ∧ day ≤ 28 then if Civ.ok y m d then (perNo y m d day, 0) else (0, 5) else (0, 8)) := by
  unfold period_place.f
  by_cases h1 : day < 1
  · rw [if_pos h1, if_neg (by omega)]; rfl
  · rw [if_neg h1]
    by_cases h2 : day > 28
    · rw [decide_eq_true h2, if_neg (by omega)]; rfl
    · rw [decide_eq_false h2, if_pos (by omega), period_place.j0, if_neg (by simp), civdays]
      simp only [Option.bind_some]
      by_cases c : Civ.ok y m d
      · rw [if_pos c, if_pos c]
        obtain ⟨c1, c2, c3, c4, c5, c6⟩ := c
        have l := Civ.len_bd y m
        simp only [if_true]
        unfold perNo
        simp (disch := omega) only [wr]
        split <;> rfl
      · rw [if_neg c, if_neg c]; rfl
theorem monthf (n day : Int) (h1 : -1000 ≤ n) (h2 : n ≤ 1000000) : period_month.f n day = some (perOf n day) := by
  unfold period_month.f perOf
  by_cases h : n < 1
  · rw [if_pos h, if_pos (.inl h)]
  · rw [if_neg h]
    simp (disch := omega) only [wr, td, tm]
    by_cases q : (n + 11) / 12 > 9999
    · rw [if_pos q, if_pos (.inr q)]
    · rw [if_neg q, if_neg (by omega)]
theorem perNo_bd {y m d : Int} (c : Civ.ok y m d) (day : Int) : 0 ≤ perNo y m d day ∧ perNo y m d day ≤ 119988 := by
  obtain ⟨c1, c2, c3, c4, c5, c6⟩ := c
  unfold perNo; split <;> omega
theorem beginf (k : Nat) (y m d day : Int) (hd : -9223372036854775808 ≤ day ∧ day ≤ 9223372036854775807) : period_Begin.f (k + 1) y m d day = some (perB y m d day 0) := by
  unfold period_Begin.f perB
  rw [placef k y m d day hd]
  simp only [Option.bind_some]
  by_cases h : 1 ≤ day ∧ day ≤ 28
  · rw [if_pos h, if_pos h]
    by_cases c : Civ.ok y m d
    · rw [if_pos c, if_pos c]
      have b := perNo_bd c day
      simp only [if_true]
      rw [monthf _ _ (by omega) (by omega), Int.add_zero]; rfl
    · rw [if_neg c, if_neg c]; rfl
  · rw [if_neg h, if_neg h]; rfl
theorem nextf (k : Nat) (y m d day : Int) (hd : -9223372036854775808 ≤ day ∧ day ≤ 9223372036854775807) : period_Next.f (k + 1) y m d day = some (perB y m d day 1) := by
  unfold period_Next.f perB
  rw [placef k y m d day hd]
  simp only [Option.bind_some]
  by_cases h : 1 ≤ day ∧ day ≤ 28
  · rw [if_pos h, if_pos h]
    by_cases c : Civ.ok y m d
    · rw [if_pos c, if_pos c]
      have b := perNo_bd c day
      simp only [if_true]
      rw [wr (by omega) (by omega), monthf _ _ (by omega) (by omega)]; rfl
    · rw [if_neg c, if_neg c]; rfl
  · rw [if_neg h, if_neg h]; rfl
theorem refbeginf (k : Nat) (y m d day : Int) : pylonref13_Begin.f (k + 10) y m d day = some (perB y m d day 0) := by
  unfold pylonref13_Begin.f perB
  by_cases h1 : day < 1
  · rw [if_pos h1, if_neg (by omega)]; rfl
  · rw [if_neg h1]
    by_cases h2 : day > 28
    · rw [decide_eq_true h2, if_neg (by omega)]; rfl
    · rw [decide_eq_false h2, if_pos (by omega), pylonref13_Begin.j0, if_neg (by simp), show k + 9 = (k + 7) + 2 from rfl, refis]
      simp only [Option.bind_some]
      by_cases c : Civ.ok y m d
      · rw [if_pos (decide_eq_true c), if_pos c]
        obtain ⟨c1, c2, c3, c4, c5, c6⟩ := c
        have l := Civ.len_bd y m
        rw [show k + 7 + 2 = (k + 8) + 1 from rfl]
        unfold perOf perNo
        by_cases q : d < day
        · rw [if_pos q, if_pos q, pylonref13_Begin.j1]
          simp (disch := omega) only [wr]
          by_cases z : m - 1 = 0
          · rw [if_pos z]
            by_cases y1 : y - 1 < 1
            · rw [if_pos y1, if_pos (by omega)]
            · rw [if_neg y1, if_neg (by omega)]; simp only [Option.some.injEq, Prod.mk.injEq, and_true]; omega
          · rw [if_neg z, if_neg (by omega), if_neg (by omega)]; simp only [Option.some.injEq, Prod.mk.injEq, and_true]; omega
        · rw [if_neg q, if_neg q, pylonref13_Begin.j1, if_neg (by omega), if_neg (by omega), if_neg (by omega)]
          simp only [Option.some.injEq, Prod.mk.injEq, and_true]; omega
      · rw [if_neg (by simp [c]), if_neg c]
theorem perawake (k : Nat) : pylonlaw13_awake.f (k + 1) = some true := by
  unfold pylonlaw13_awake.f
  rw [beginf k _ _ _ _ (by omega)]
  rfl
end Go.Proofs.Ytddkckpfmleffaa.PX
