/- The printed functions of the calendar, by the plain arithmetic. -/
import Derived.Test.YtipldjcncfoffaaPXx3
import Derived.Test.YtipldjcncfoffaaPXx4
import Derived.Test.YtipldjcncfoffaaPXx5
import Derived.IntWalk
import Derived.OpenShut
namespace Go.Proofs.Ytipldjcncfoffaa.PX
open Go.RowKit Go.Proofs.YtipldjcncfoffaaW.PrintWords Go.Proofs.YtipldjcncfoffaaW.PrintLast Go.Proofs.YtipldjcncfoffaaW.PrintMore
set_option linter.unusedVariables false
set_option linter.unusedSimpArgs false
/-- Rounds let go: from some k on. -/
theorem Ev.at_ {α : Type} {g : Nat → Option α} {r : α} (n : Nat) (h : ∀ k, g (k + n) = some r) : Ev g r := ⟨n, fun k hk => by rw [show k = k - n + n by omega]; exact h _⟩
theorem wr {n : Int} (h1 : -9223372036854775808 ≤ n) (h2 : n ≤ 9223372036854775807) : wrap64 n = n := Go.IntWalk.wrap64_in n ⟨h1, h2⟩
theorem td {a b : Int} (h : 0 ≤ a) : Int.tdiv a b = a / b := Int.tdiv_eq_ediv_of_nonneg h
theorem tm {a b : Int} (h : 0 ≤ a) : Int.tmod a b = a % b := Int.tmod_eq_emod_of_nonneg h
theorem tmod0 (a b : Int) : (Int.tmod a b = 0) = (a % b = 0) := by
  rw [eq_iff_iff, ← Int.dvd_iff_emod_eq_zero, Int.dvd_iff_tmod_eq_zero]
theorem wf64 {a : Int} (h : (Lit.int .i64 a).wf = true) : -9223372036854775808 ≤ a ∧ a ≤ 9223372036854775807 := Go.bounds_i64 h
theorem refleap (y : Int) : pylonref03_leap.f y = some (decide (Civ.lp y = 1)) := by
  unfold pylonref03_leap.f Civ.lp
  simp only [tmod0]
  by_cases h4 : y % 4 = 0
  · by_cases h100 : y % 100 = 0
    · by_cases h400 : y % 400 = 0
      · simp [h4, h100, h400, tmod0]
      · have : ¬ Int.tmod y 400 = 0 := by rw [tmod0]; exact h400
        simp [h4, h100, h400, this]
    · simp [h4, h100]
  · simp [h4]
theorem reflen (k : Nat) (y m : Int) : pylonref03_Length.f (k + 2) y m = some (Civ.lenE y m) := by
  have hl := Civ.lp_01 y
  have hle := refleap y
  unfold pylonref03_Length.f Civ.lenE
  by_cases h1 : y < 1
  · rw [if_pos h1, if_neg (by omega)]; rfl
  · rw [if_neg h1]
    by_cases h2 : y > 9999
    · rw [if_pos h2, if_neg (by omega)]; rfl
    · rw [if_neg h2]
      by_cases h3 : m < 1
      · rw [if_pos h3, if_neg (by omega)]; rfl
      · rw [if_neg h3]
        by_cases h4 : m > 12
        · rw [decide_eq_true h4, if_neg (by omega)]; rfl
        · rw [decide_eq_false h4, if_pos (by omega)]
          have hm : m = 1 ∨ m = 2 ∨ m = 3 ∨ m = 4 ∨ m = 5 ∨ m = 6 ∨ m = 7 ∨ m = 8 ∨ m = 9 ∨ m = 10 ∨ m = 11 ∨ m = 12 := by omega
          rcases hm with h | h | h | h | h | h | h | h | h | h | h | h <;> subst h <;> simp [pylonref03_Length.j0, pylonref03_Length.j1, Civ.len, hle]
          by_cases e : Civ.lp y = 1
          · simp [e]
          · simp [e]; omega
theorem refis (k : Nat) (y m d : Int) : pylonref03_Is.f (k + 2) y m d = some (decide (Civ.ok y m d)) := by
  unfold pylonref03_Is.f
  rw [reflen]
  unfold Civ.lenE Civ.ok
  by_cases c : 1 ≤ y ∧ y ≤ 9999 ∧ 1 ≤ m ∧ m ≤ 12
  · rw [if_pos c]
    by_cases c5 : 1 ≤ d
    · simp [c, c5]
    · simp [c5]
  · rw [if_neg c]
    have : ¬ (1 ≤ y ∧ y ≤ 9999 ∧ 1 ≤ m ∧ m ≤ 12 ∧ 1 ≤ d ∧ d ≤ Civ.len y m) := fun h => c ⟨h.1, h.2.1, h.2.2.1, h.2.2.2.1⟩
    simp [this]
theorem refyd_l (y : Int) (hy : 1 ≤ y ∧ y ≤ 9999) (M D : Int) (hM : M ≤ 12) (j : Nat) : ∀ (m : Int) (n : Int) (k : Nat), 1 ≤ m → M - m = j → 0 ≤ n → n + Civ.cum y M - Civ.cum y m ≤ 400 → j + 3 ≤ k → Civ.cum y m ≤ Civ.cum y M →
    pylonref03_YearDay.l0 k n m y M D = some (n + Civ.cum y M - Civ.cum y m, 0) := by
  induction j with
  | zero =>
    intro m n k h1 h2 h3 h4 h5 _
    obtain ⟨k, rfl⟩ : ∃ q, k = q + 1 := ⟨k - 1, by omega⟩
    obtain rfl : m = M := by omega
    simp only [pylonref03_YearDay.l0]
    rw [if_neg (by omega), show n + Civ.cum y m - Civ.cum y m = n by omega]
  | succ j ih =>
    intro m n k h1 h2 h3 h4 h5 h6
    obtain ⟨k, rfl⟩ : ∃ q, k = q + 3 := ⟨k - 3, by omega⟩
    have e := Civ.cum_succ y m h1 (by omega)
    have l := Civ.len_bd y m
    have mo := Civ.cum_mono y (a := m + 1) (b := M) (by omega) (by omega) (by omega)
    rw [show k + 3 = (k + 2) + 1 from rfl, pylonref03_YearDay.l0]
    rw [if_pos (by omega), reflen, Civ.lenE, if_pos (by omega)]
    simp only [Option.bind_some]
    rw [wr (by omega) (by omega), wr (by omega) (by omega), ih (m + 1) (n + Civ.len y m) (k + 2) (by omega) (by omega) (by omega) (by omega) (by omega) mo]
    rw [e]; congr 2; omega
/-- what Days-like functions of a date say -/
def pick {α : Type} (y m d : Int) (x z : α) : α := if Civ.ok y m d then x else z
theorem refyd (k : Nat) (y m d : Int) : pylonref03_YearDay.f (k + 20) y m d = some (if Civ.ok y m d then (Civ.cum y m + d, 0) else (0, 5)) := by
  unfold pylonref03_YearDay.f
  rw [show k + 20 = (k + 18) + 2 from rfl, refis]
  simp only [Option.bind_some]
  by_cases c : Civ.ok y m d
  · rw [if_pos (decide_eq_true c), if_pos c]
    obtain ⟨c1, c2, c3, c4, c5, c6⟩ := c
    have b := Civ.doy_bd c3 c4 c5 c6
    have l := Civ.len_bd y m
    have q := Civ.lp_01 y
    have mo := Civ.cum_mono y (a := 1) (b := m) (by omega) (by omega) (by omega)
    have e1 : Civ.cum y 1 = 0 := by simp [Civ.cum]
    rw [refyd_l y ⟨c1, c2⟩ m d c4 (m - 1).toNat 1 d (k + 18 + 2) (by omega) (by omega) (by omega) (by omega) (by omega) mo, e1]
    congr 2; omega
  · rw [if_neg (by simp [c]), if_neg c]
theorem refahead (y : Int) (h1 : 1 ≤ y) (h2 : y ≤ 10000) : pylonref03_ahead.f y = some (Civ.ahead y) := by
  unfold pylonref03_ahead.f Civ.ahead
  simp (disch := omega) only [wr, td]
theorem refdays (k : Nat) (y m d : Int) : pylonref03_Days.f (k + 20) y m d = some (if Civ.ok y m d then (Civ.dn y m d, 0) else (0, 5)) := by
  unfold pylonref03_Days.f
  rw [refyd]
  simp only [Option.bind_some]
  by_cases c : Civ.ok y m d
  · rw [if_pos c, if_pos c, if_pos rfl]
    have r := Civ.dn_range c
    obtain ⟨c1, c2, c3, c4, c5, c6⟩ := c
    rw [refahead y c1 (by omega)]
    simp only [Option.bind_some]
    unfold Civ.dn at r ⊢
    rw [show Civ.ahead y + Civ.cum y m + d - 1 - 719162 = Civ.ahead y + (Civ.cum y m + d) - 1 - 719162 by omega] at r ⊢
    simp (disch := omega) only [wr]
  · rw [if_neg c, if_neg c]; rfl
theorem refwd (k : Nat) (y m d : Int) : pylonref03_Weekday.f (k + 20) y m d = some (if Civ.ok y m d then ((Civ.dn y m d + 719162) % 7, 0) else (0, 5)) := by
  unfold pylonref03_Weekday.f
  rw [refdays]
  simp only [Option.bind_some]
  by_cases c : Civ.ok y m d
  · rw [if_pos c, if_pos c, if_pos rfl]
    have r := Civ.dn_range c
    simp (disch := omega) only [wr, tm]
  · rw [if_neg c, if_neg c]; rfl
theorem civgood (y m d : Int) : civil_good.f y m d = some (decide (Civ.ok y m d)) := by
  unfold civil_good.f civil_Length.f Civ.lenE Civ.ok
  by_cases c : 1 ≤ y ∧ y ≤ 9999 ∧ 1 ≤ m ∧ m ≤ 12
  · rw [if_pos c]
    by_cases c5 : 1 ≤ d
    · simp [c, c5]
    · simp [c5]
  · rw [if_neg c]
    have : ¬ (1 ≤ y ∧ y ≤ 9999 ∧ 1 ≤ m ∧ m ≤ 12 ∧ 1 ≤ d ∧ d ≤ Civ.len y m) := fun h => c ⟨h.1, h.2.1, h.2.2.1, h.2.2.2.1⟩
    simp [this]
theorem civdays (y m d : Int) : civil_Days.f y m d = some (if Civ.ok y m d then (Civ.dn y m d, 0) else (0, 5)) := by
  unfold civil_Days.f
  rw [civgood]
  simp only [Option.bind_some]
  by_cases c : Civ.ok y m d
  · rw [if_pos (decide_eq_true c), if_pos c]
    have r := Civ.dn_range c
    obtain ⟨c1, c2, c3, c4, c5, c6⟩ := c
    have l := Civ.len_bd y m
    have e := Civ.pdays_eq (y := y) (d := d) c3 c4
    unfold Civ.pdays at e
    rw [wr (n := m - 3) (by omega) (by omega)]
    by_cases h : m - 3 < 0
    · rw [if_pos h]
      simp only [if_pos h] at e
      have b1 : 0 ≤ (y - 1) / 400 ∧ (y - 1) / 400 ≤ 25 := by omega
      have b2 : 0 ≤ (y - 1) % 400 ∧ (y - 1) % 400 ≤ 399 := by omega
      simp (disch := omega) only [wr, td, tm]
      rw [e]
    · rw [if_neg h]
      simp only [if_neg h] at e
      have b1 : 0 ≤ y / 400 ∧ y / 400 ≤ 25 := by omega
      have b2 : 0 ≤ y % 400 ∧ y % 400 ≤ 399 := by omega
      simp (disch := omega) only [wr, td, tm]
      rw [e]
  · rw [if_neg (by simp [c]), if_neg c]
theorem civawake : pylonlaw03_awake.f = some true := by
  unfold pylonlaw03_awake.f
  rw [civdays]
  simp only [Option.bind_some]
  rw [show (if Civ.ok 2000 3 1 then (Civ.dn 2000 3 1, (0 : Int)) else (0, 5)) = (11017, 0) by decide]
  rfl
theorem civyd (y m d : Int) : civil_YearDay.f y m d = some (if Civ.ok y m d then (Civ.cum y m + d, 0) else (0, 5)) := by
  unfold civil_YearDay.f
  rw [civdays, civdays]
  simp only [Option.bind_some]
  by_cases c : Civ.ok y m d
  · rw [if_pos c, if_pos c, if_pos rfl]
    have r := Civ.dn_range c
    obtain ⟨c1, c2, c3, c4, c5, c6⟩ := c
    have l := Civ.len_bd y 1
    have c' : Civ.ok y 1 1 := ⟨c1, c2, by omega, by omega, by omega, by omega⟩
    have r' := Civ.dn_range c'
    rw [if_pos c']
    have e1 : Civ.cum y 1 = 0 := by simp [Civ.cum]
    have e : Civ.dn y m d - Civ.dn y 1 1 + 1 = Civ.cum y m + d := by unfold Civ.dn; omega
    simp (disch := omega) only [wr]
    rw [e]
  · rw [if_neg c, if_neg c]; rfl
theorem civwd (y m d : Int) : civil_Weekday.f y m d = some (if Civ.ok y m d then ((Civ.dn y m d + 719162) % 7, 0) else (0, 5)) := by
  unfold civil_Weekday.f
  rw [civdays]
  simp only [Option.bind_some]
  by_cases c : Civ.ok y m d
  · rw [if_pos c, if_pos c, if_pos rfl]
    have r := Civ.dn_range c
    rw [wr (n := Civ.dn y m d + 3) (by omega) (by omega)]
    have t := Int.tmod_add_mul_tdiv (Civ.dn y m d + 3) 7
    have t1 := Int.lt_tmod_of_pos (Civ.dn y m d + 3) (show (0:Int) < 7 by omega)
    have t2 := Int.tmod_lt_of_pos (Civ.dn y m d + 3) (show (0:Int) < 7 by omega)
    generalize Int.tmod (Civ.dn y m d + 3) 7 = x at *
    generalize Int.tdiv (Civ.dn y m d + 3) 7 = z at *
    rw [wr (by omega) (by omega), tm (by omega)]
    congr 2; omega
  · rw [if_neg c, if_neg c]; rfl
end Go.Proofs.Ytipldjcncfoffaa.PX
