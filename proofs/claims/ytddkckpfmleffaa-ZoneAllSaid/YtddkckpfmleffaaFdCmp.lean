/- Dates side by side: their order, the next day. -/
import Derived.Test.YtddkckpfmleffaaFa
import Derived.Test.YtddkckpfmleffaaFaR
import Derived.Test.YtddkckpfmleffaaFaW
namespace Go.Proofs.Ytddkckpfmleffaa.PX
open Go.RowKit Go.Proofs.YtddkckpfmleffaaW.PrintWords Go.Proofs.YtddkckpfmleffaaW.PrintLast Go.Proofs.YtddkckpfmleffaaW.PrintMore
set_option linter.unusedVariables false
set_option linter.unusedSimpArgs false
theorem cmp_dn {y m d y' m' d' : Int} (h : Civ.ok y m d) (h' : Civ.ok y' m' d') : Civ.cmp y m d y' m' d' = if Civ.dn y m d < Civ.dn y' m' d' then -1 else if Civ.dn y' m' d' < Civ.dn y m d then 1 else 0 := by
  obtain ⟨a1, a2, a3, a4, a5, a6⟩ := h
  obtain ⟨b1, b2, b3, b4, b5, b6⟩ := h'
  have da := Civ.doy_bd a3 a4 a5 a6
  have db := Civ.doy_bd b3 b4 b5 b6
  have sa := Civ.ahead_succ y
  have sb := Civ.ahead_succ y'
  have e1 : Civ.dn y m d = Civ.ahead y + Civ.cum y m + d - 1 - 719162 := rfl
  have e2 : Civ.dn y' m' d' = Civ.ahead y' + Civ.cum y' m' + d' - 1 - 719162 := rfl
  unfold Civ.cmp
  by_cases y1 : y < y'
  · have := Civ.ahead_mono (a := y + 1) (b := y') (by omega)
    rw [if_pos y1, if_pos (by omega)]
  · rw [if_neg y1]
    by_cases y2 : y' < y
    · have := Civ.ahead_mono (a := y' + 1) (b := y) (by omega)
      rw [if_pos y2, if_neg (by omega), if_pos (by omega)]
    · rw [if_neg y2]
      obtain rfl : y = y' := by omega
      have sm := Civ.cum_succ y m a3 a4
      have sm' := Civ.cum_succ y m' b3 b4
      by_cases m1 : m < m'
      · have := Civ.cum_mono y (a := m + 1) (b := m') (by omega) (by omega) (by omega)
        rw [if_pos m1, if_pos (by omega)]
      · rw [if_neg m1]
        by_cases m2 : m' < m
        · have := Civ.cum_mono y (a := m' + 1) (b := m) (by omega) (by omega) (by omega)
          rw [if_pos m2, if_neg (by omega), if_pos (by omega)]
        · rw [if_neg m2]
          obtain rfl : m = m' := by omega
          by_cases d1 : d < d'
          · rw [if_pos d1, if_pos (by omega)]
          · rw [if_neg d1]
            by_cases d2 : d' < d
            · rw [if_pos d2, if_neg (by omega), if_pos (by omega)]
            · rw [if_neg d2, if_neg (by omega), if_neg (by omega)]
/-- two dates side by side -/
theorem next_yd {y m d y' m' d' : Int} (h : Civ.ok y m d) (h' : Civ.ok y' m' d') (e : Civ.dn y' m' d' = Civ.dn y m d + 1) :
    (y' = y ∧ Civ.cum y' m' + d' = Civ.cum y m + d + 1) ∨ (y' = y + 1 ∧ Civ.cum y' m' + d' = 1 ∧ (Civ.cum y m + d = 365 ∨ Civ.cum y m + d = 366)) := by
  obtain ⟨a1, a2, a3, a4, a5, a6⟩ := h
  obtain ⟨b1, b2, b3, b4, b5, b6⟩ := h'
  have da := Civ.doy_bd a3 a4 a5 a6
  have db := Civ.doy_bd b3 b4 b5 b6
  have sa := Civ.ahead_succ y
  have sb := Civ.ahead_succ y'
  have sc := Civ.ahead_succ (y + 1)
  have l1 := Civ.lp_01 y
  have l2 := Civ.lp_01 (y + 1)
  have e1 : Civ.dn y m d = Civ.ahead y + Civ.cum y m + d - 1 - 719162 := rfl
  have e2 : Civ.dn y' m' d' = Civ.ahead y' + Civ.cum y' m' + d' - 1 - 719162 := rfl
  rcases (by omega : y' < y ∨ y' = y ∨ y' = y + 1 ∨ y + 1 < y') with q | q | q | q
  · have := Civ.ahead_mono (a := y' + 1) (b := y) (by omega); omega
  · subst q; exact .inl ⟨rfl, by omega⟩
  · subst q; exact .inr ⟨rfl, by omega, by omega⟩
  · have := Civ.ahead_mono (a := y + 1 + 1) (b := y') (by omega); omega
end Go.Proofs.Ytddkckpfmleffaa.PX
