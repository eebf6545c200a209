/- The printed functions of the document's calendar, by the plain arithmetic. -/
import Derived.Test.YtegedhnbmclbkaaPXx8
import Derived.Test.YtegedhnbmclbkaaPXx9
import Derived.Test.YtegedhnbmclbkaaFa
namespace Go.Proofs.Ytegedhnbmclbkaa.PX
open Go.RowKit Go.Proofs.YtegedhnbmclbkaaW.PrintWords Go.Proofs.YtegedhnbmclbkaaW.PrintLast Go.Proofs.YtegedhnbmclbkaaW.PrintMore
set_option linter.unusedVariables false
set_option linter.unusedSimpArgs false
theorem refleap (y : Int) : pylonref03_leap.f y = some (decide (Civ.lp y = 1)) := by
  unfold pylonref03_leap.f Civ.lp
  simp only [tmod0]
  by_cases h4 : y % 4 = 0
  · by_cases h100 : y % 100 = 0
    · by_cases h400 : y % 400 = 0
      · simp [h4, h100, h400, tmod0]
      · have : ¬ Int.tmod y 400 = 0 := by rw [tmod0]; exact h400
        simp [h4, h100, h400, this]
    · simp [h4, h100]
  · simp [h4]
theorem reflen (k : Nat) (y m : Int) : pylonref03_Length.f (k + 2) y m = some (Civ.lenE y m) := by
  have hl := Civ.lp_01 y
  have hle := refleap y
  unfold pylonref03_Length.f Civ.lenE
  by_cases h1 : y < 1
  · rw [if_pos h1, if_neg (by omega)]; rfl
  · rw [if_neg h1]
    by_cases h2 : y > 9999
    · rw [if_pos h2, if_neg (by omega)]; rfl
    · rw [if_neg h2]
      by_cases h3 : m < 1
      · rw [if_pos h3, if_neg (by omega)]; rfl
      · rw [if_neg h3]
        by_cases h4 : m > 12
        · rw [decide_eq_true h4, if_neg (by omega)]; rfl
        · rw [decide_eq_false h4, if_pos (by omega)]
          have hm : m = 1 ∨ m = 2 ∨ m = 3 ∨ m = 4 ∨ m = 5 ∨ m = 6 ∨ m = 7 ∨ m = 8 ∨ m = 9 ∨ m = 10 ∨ m = 11 ∨ m = 12 := by omega
          rcases hm with h | h | h | h | h | h | h | h | h | h | h | h <;> subst h <;> simp [pylonref03_Length.j0, pylonref03_Length.j1, Civ.len, hle]
          by_cases e : Civ.lp y = 1
          · simp [e]
          · simp [e]; omega
theorem refis (k : Nat) (y m d : Int) : pylonref03_Is.f (k + 2) y m d = some (decide (Civ.ok y m d)) := by
  unfold pylonref03_Is.f
  rw [reflen]
  unfold Civ.lenE Civ.ok
  by_cases c : 1 ≤ y ∧ y ≤ 9999 ∧ 1 ≤ m ∧ m ≤ 12
  · rw [if_pos c]
    by_cases c5 : 1 ≤ d
    · simp [c, c5]
    · simp [c5]
  · rw [if_neg c]
    have : ¬ (1 ≤ y ∧ y ≤ 9999 ∧ 1 ≤ m ∧ m ≤ 12 ∧ 1 ≤ d ∧ d ≤ Civ.len y m) := fun h => c ⟨h.1, h.2.1, h.2.2.1, h.2.2.2.1⟩
    simp [this]
theorem refyd_l (y : Int) (hy : 1 ≤ y ∧ y ≤ 9999) (M D : Int) (hM : M ≤ 12) (j : Nat) : ∀ (m : Int) (n : Int) (k : Nat), 1 ≤ m → M - m = j → 0 ≤ n → n + Civ.cum y M - Civ.cum y m ≤ 400 → j + 3 ≤ k → Civ.cum y m ≤ Civ.cum y M →
    pylonref03_YearDay.l0 k n m y M D = some (n + Civ.cum y M - Civ.cum y m, 0) := by
  induction j with
  | zero =>
    intro m n k h1 h2 h3 h4 h5 _
    obtain ⟨k, rfl⟩ : ∃ q, k = q + 1 := ⟨k - 1, by omega⟩
    obtain rfl : m = M := by omega
    simp only [pylonref03_YearDay.l0]
    rw [if_neg (by omega), show n + Civ.cum y m - Civ.cum y m = n by omega]
  | succ j ih =>
    intro m n k h1 h2 h3 h4 h5 h6
    obtain ⟨k, rfl⟩ : ∃ q, k = q + 3 := ⟨k - 3, by omega⟩
    have e := Civ.cum_succ y m h1 (by omega)
    have l := Civ.len_bd y m
    have mo := Civ.cum_mono y (a := m + 1) (b := M) (by omega) (by omega) (by omega)
    rw [show k + 3 = (k + 2) + 1 from rfl, pylonref03_YearDay.l0]
    rw [if_pos (by omega), reflen, Civ.lenE, if_pos (by omega)]
    simp only [Option.bind_some]
    rw [wr (by omega) (by omega), wr (by omega) (by omega), ih (m + 1) (n + Civ.len y m) (k + 2) (by omega) (by omega) (by omega) (by omega) (by omega) mo]
    rw [e]; congr 2; omega
theorem refyd (k : Nat) (y m d : Int) : pylonref03_YearDay.f (k + 20) y m d = some (if Civ.ok y m d then (Civ.cum y m + d, 0) else (0, 5)) := by
  unfold pylonref03_YearDay.f
  rw [show k + 20 = (k + 18) + 2 from rfl, refis]
  simp only [Option.bind_some]
  by_cases c : Civ.ok y m d
  · rw [if_pos (decide_eq_true c), if_pos c]
    obtain ⟨c1, c2, c3, c4, c5, c6⟩ := c
    have b := Civ.doy_bd c3 c4 c5 c6
    have l := Civ.len_bd y m
    have q := Civ.lp_01 y
    have mo := Civ.cum_mono y (a := 1) (b := m) (by omega) (by omega) (by omega)
    have e1 : Civ.cum y 1 = 0 := by simp [Civ.cum]
    rw [refyd_l y ⟨c1, c2⟩ m d c4 (m - 1).toNat 1 d (k + 18 + 2) (by omega) (by omega) (by omega) (by omega) (by omega) mo, e1]
    congr 2; omega
  · rw [if_neg (by simp [c]), if_neg c]
theorem refahead (y : Int) (h1 : 1 ≤ y) (h2 : y ≤ 10000) : pylonref03_ahead.f y = some (Civ.ahead y) := by
  unfold pylonref03_ahead.f Civ.ahead
  simp (disch := omega) only [wr, td]
theorem refdays (k : Nat) (y m d : Int) : pylonref03_Days.f (k + 20) y m d = some (if Civ.ok y m d then (Civ.dn y m d, 0) else (0, 5)) := by
  unfold pylonref03_Days.f
  rw [refyd]
  simp only [Option.bind_some]
  by_cases c : Civ.ok y m d
  · rw [if_pos c, if_pos c, if_pos rfl]
    have r := Civ.dn_range c
    obtain ⟨c1, c2, c3, c4, c5, c6⟩ := c
    rw [refahead y c1 (by omega)]
    simp only [Option.bind_some]
    unfold Civ.dn at r ⊢
    rw [show Civ.ahead y + Civ.cum y m + d - 1 - 719162 = Civ.ahead y + (Civ.cum y m + d) - 1 - 719162 by omega] at r ⊢
    simp (disch := omega) only [wr]
  · rw [if_neg c, if_neg c]; rfl
end Go.Proofs.Ytegedhnbmclbkaa.PX
