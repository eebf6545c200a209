/- CivilNext: for every day number the call returns true (no conditions). -/
import Derived.Test.YtipldjcncfoffaaPXx11
import Derived.Test.YtipldjcncfoffaaPXx24
import Derived.Test.YtipldjcncfoffaaFcCivil
namespace Go.Proofs.Ytipldjcncfoffaa.PX
open Go.RowKit Go.Proofs.YtipldjcncfoffaaW.PrintWords Go.Proofs.YtipldjcncfoffaaW.PrintLast Go.Proofs.YtipldjcncfoffaaW.PrintMore
set_option linter.unusedVariables false
set_option linter.unusedSimpArgs false
theorem cmp_dn {y m d y' m' d' : Int} (h : Civ.ok y m d) (h' : Civ.ok y' m' d') : Civ.cmp y m d y' m' d' = if Civ.dn y m d < Civ.dn y' m' d' then -1 else if Civ.dn y' m' d' < Civ.dn y m d then 1 else 0 := by
  obtain ⟨a1, a2, a3, a4, a5, a6⟩ := h
  obtain ⟨b1, b2, b3, b4, b5, b6⟩ := h'
  have da := Civ.doy_bd a3 a4 a5 a6
  have db := Civ.doy_bd b3 b4 b5 b6
  have sa := Civ.ahead_succ y
  have sb := Civ.ahead_succ y'
  have e1 : Civ.dn y m d = Civ.ahead y + Civ.cum y m + d - 1 - 719162 := rfl
  have e2 : Civ.dn y' m' d' = Civ.ahead y' + Civ.cum y' m' + d' - 1 - 719162 := rfl
  unfold Civ.cmp
  by_cases y1 : y < y'
  · have := Civ.ahead_mono (a := y + 1) (b := y') (by omega)
    rw [if_pos y1, if_pos (by omega)]
  · rw [if_neg y1]
    by_cases y2 : y' < y
    · have := Civ.ahead_mono (a := y' + 1) (b := y) (by omega)
      rw [if_pos y2, if_neg (by omega), if_pos (by omega)]
    · rw [if_neg y2]
      obtain rfl : y = y' := by omega
      have sm := Civ.cum_succ y m a3 a4
      have sm' := Civ.cum_succ y m' b3 b4
      by_cases m1 : m < m'
      · have := Civ.cum_mono y (a := m + 1) (b := m') (by omega) (by omega) (by omega)
        rw [if_pos m1, if_pos (by omega)]
      · rw [if_neg m1]
        by_cases m2 : m' < m
        · have := Civ.cum_mono y (a := m' + 1) (b := m) (by omega) (by omega) (by omega)
          rw [if_pos m2, if_neg (by omega), if_pos (by omega)]
        · rw [if_neg m2]
          obtain rfl : m = m' := by omega
          by_cases d1 : d < d'
          · rw [if_pos d1, if_pos (by omega)]
          · rw [if_neg d1]
            by_cases d2 : d' < d
            · rw [if_pos d2, if_neg (by omega), if_pos (by omega)]
            · rw [if_neg d2, if_neg (by omega), if_neg (by omega)]
/-- two dates side by side -/
theorem next_yd {y m d y' m' d' : Int} (h : Civ.ok y m d) (h' : Civ.ok y' m' d') (e : Civ.dn y' m' d' = Civ.dn y m d + 1) :
    (y' = y ∧ Civ.cum y' m' + d' = Civ.cum y m + d + 1) ∨ (y' = y + 1 ∧ Civ.cum y' m' + d' = 1 ∧ (Civ.cum y m + d = 365 ∨ Civ.cum y m + d = 366)) := by
  obtain ⟨a1, a2, a3, a4, a5, a6⟩ := h
  obtain ⟨b1, b2, b3, b4, b5, b6⟩ := h'
  have da := Civ.doy_bd a3 a4 a5 a6
  have db := Civ.doy_bd b3 b4 b5 b6
  have sa := Civ.ahead_succ y
  have sb := Civ.ahead_succ y'
  have sc := Civ.ahead_succ (y + 1)
  have l1 := Civ.lp_01 y
  have l2 := Civ.lp_01 (y + 1)
  have e1 : Civ.dn y m d = Civ.ahead y + Civ.cum y m + d - 1 - 719162 := rfl
  have e2 : Civ.dn y' m' d' = Civ.ahead y' + Civ.cum y' m' + d' - 1 - 719162 := rfl
  rcases (by omega : y' < y ∨ y' = y ∨ y' = y + 1 ∨ y + 1 < y') with q | q | q | q
  · have := Civ.ahead_mono (a := y' + 1) (b := y) (by omega); omega
  · subst q; exact .inl ⟨rfl, by omega⟩
  · subst q; exact .inr ⟨rfl, by omega, by omega⟩
  · have := Civ.ahead_mono (a := y + 1 + 1) (b := y') (by omega); omega
theorem CivilNext_pure : pylonlaw03_CivilNext.Pure := by
  intro n hn
  refine ⟨3, ?_⟩
  obtain ⟨D, hD, h1, h2⟩ := dayf n
  obtain ⟨ok1, dn1⟩ := Civ.of_ok h1 h2
  unfold pylonlaw03_CivilNext.f
  rw [civawake]
  simp only [Option.bind_some, if_true, hD]
  rw [civof, ofE4_in h1 h2]
  simp only [Option.bind_some]
  rw [civadd, if_pos ok1, dn1]
  simp only [Option.bind_some]
  by_cases hl : D = 2932896
  · rw [if_pos hl, ofE4_out (by omega)]; rfl
  · rw [if_neg hl, ofE4_in (n := D + 1) (by omega) (by omega)]
    obtain ⟨ok2, dn2⟩ := Civ.of_ok (n := D + 1) (by omega) (by omega)
    have nx := next_yd ok1 ok2 (by omega)
    have k1 := cmp_dn ok1 ok2
    have k2 := cmp_dn ok2 ok1
    have k3 := cmp_dn ok1 ok1
    rw [dn1, dn2] at k1 k2
    rw [dn1] at k3
    rw [if_pos (by omega)] at k1
    rw [if_neg (by omega), if_pos (by omega)] at k2
    rw [if_neg (by omega), if_neg (by omega)] at k3
    simp only []
    rw [civdays, civwd, civwd, if_pos ok1, if_pos ok2, if_pos ok2, dn1, dn2]
    simp only [Option.bind_some, if_true]
    rw [wr (n := D + 1) (by omega) (by omega), if_pos rfl, if_neg (by omega), if_neg (by omega), wr (by omega) (by omega), tm (by omega), if_pos (by omega)]
    unfold civil_Compare.f
    rw [k1, k2, k3]
    simp only [Option.bind_some, if_true]
    rw [pylonlaw03_CivilNext.j0, if_neg (by simp), civyd, civyd, if_pos ok1, if_pos ok2]
    simp only [Option.bind_some, if_true]
    rw [pylonlaw03_CivilNext.j1, if_neg (by simp)]
    have o1 := ok1
    have o2 := ok2
    obtain ⟨a1, a2, a3, a4, a5, a6⟩ := o1
    have da := Civ.doy_bd a3 a4 a5 a6
    have l1 := Civ.lp_01 (Civ.ofY D)
    rcases nx with ⟨e1, e2⟩ | ⟨e1, e2, e3⟩
    · rw [if_pos e1, wr (by omega) (by omega), e2]; simp
    · rw [if_neg (by omega), if_pos e2, wr (by omega) (by omega), if_pos e1]
      rcases e3 with e3 | e3
      · rw [if_pos e3]
      · rw [if_neg (by omega), e3]; rfl
end Go.Proofs.Ytipldjcncfoffaa.PX
