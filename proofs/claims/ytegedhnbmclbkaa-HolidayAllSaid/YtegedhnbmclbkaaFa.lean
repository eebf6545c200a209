/- The printed functions of the program's calendar, by the plain arithmetic. -/
import Derived.Test.YtegedhnbmclbkaaPXx2
import Derived.IntWalk
import Derived.OpenShut
namespace Go.Proofs.Ytegedhnbmclbkaa.PX
open Go.RowKit Go.Proofs.YtegedhnbmclbkaaW.PrintWords Go.Proofs.YtegedhnbmclbkaaW.PrintLast Go.Proofs.YtegedhnbmclbkaaW.PrintMore
set_option linter.unusedVariables false
set_option linter.unusedSimpArgs false
/-- Rounds let go: from some k on. -/
theorem Ev.at_ {α : Type} {g : Nat → Option α} {r : α} (n : Nat) (h : ∀ k, g (k + n) = some r) : Ev g r := ⟨n, fun k hk => by rw [show k = k - n + n by omega]; exact h _⟩
theorem wr {n : Int} (h1 : -9223372036854775808 ≤ n) (h2 : n ≤ 9223372036854775807) : wrap64 n = n := Go.IntWalk.wrap64_in n ⟨h1, h2⟩
theorem td {a b : Int} (h : 0 ≤ a) : Int.tdiv a b = a / b := Int.tdiv_eq_ediv_of_nonneg h
theorem tm {a b : Int} (h : 0 ≤ a) : Int.tmod a b = a % b := Int.tmod_eq_emod_of_nonneg h
theorem tmod0 (a b : Int) : (Int.tmod a b = 0) = (a % b = 0) := by
  rw [eq_iff_iff, ← Int.dvd_iff_emod_eq_zero, Int.dvd_iff_tmod_eq_zero]
theorem wf64 {a : Int} (h : (Lit.int .i64 a).wf = true) : -9223372036854775808 ≤ a ∧ a ≤ 9223372036854775807 := Go.bounds_i64 h
/-- what Days-like functions of a date say -/
def pick {α : Type} (y m d : Int) (x z : α) : α := if Civ.ok y m d then x else z
theorem civgood (y m d : Int) : civil_good.f y m d = some (decide (Civ.ok y m d)) := by
  unfold civil_good.f civil_Length.f Civ.lenE Civ.ok
  by_cases c : 1 ≤ y ∧ y ≤ 9999 ∧ 1 ≤ m ∧ m ≤ 12
  · rw [if_pos c]
    by_cases c5 : 1 ≤ d
    · simp [c, c5]
    · simp [c5]
  · rw [if_neg c]
    have : ¬ (1 ≤ y ∧ y ≤ 9999 ∧ 1 ≤ m ∧ m ≤ 12 ∧ 1 ≤ d ∧ d ≤ Civ.len y m) := fun h => c ⟨h.1, h.2.1, h.2.2.1, h.2.2.2.1⟩
    simp [this]
theorem civdays (y m d : Int) : civil_Days.f y m d = some (if Civ.ok y m d then (Civ.dn y m d, 0) else (0, 5)) := by
  unfold civil_Days.f
  rw [civgood]
  simp only [Option.bind_some]
  by_cases c : Civ.ok y m d
  · rw [if_pos (decide_eq_true c), if_pos c]
    have r := Civ.dn_range c
    obtain ⟨c1, c2, c3, c4, c5, c6⟩ := c
    have l := Civ.len_bd y m
    have e := Civ.pdays_eq (y := y) (d := d) c3 c4
    unfold Civ.pdays at e
    rw [wr (n := m - 3) (by omega) (by omega)]
    by_cases h : m - 3 < 0
    · rw [if_pos h]
      simp only [if_pos h] at e
      have b1 : 0 ≤ (y - 1) / 400 ∧ (y - 1) / 400 ≤ 25 := by omega
      have b2 : 0 ≤ (y - 1) % 400 ∧ (y - 1) % 400 ≤ 399 := by omega
      simp (disch := omega) only [wr, td, tm]
      rw [e]
    · rw [if_neg h]
      simp only [if_neg h] at e
      have b1 : 0 ≤ y / 400 ∧ y / 400 ≤ 25 := by omega
      have b2 : 0 ≤ y % 400 ∧ y % 400 ≤ 399 := by omega
      simp (disch := omega) only [wr, td, tm]
      rw [e]
  · rw [if_neg (by simp [c]), if_neg c]
theorem civwd (y m d : Int) : civil_Weekday.f y m d = some (if Civ.ok y m d then ((Civ.dn y m d + 719162) % 7, 0) else (0, 5)) := by
  unfold civil_Weekday.f
  rw [civdays]
  simp only [Option.bind_some]
  by_cases c : Civ.ok y m d
  · rw [if_pos c, if_pos c, if_pos rfl]
    have r := Civ.dn_range c
    rw [wr (n := Civ.dn y m d + 3) (by omega) (by omega)]
    have t := Int.tmod_add_mul_tdiv (Civ.dn y m d + 3) 7
    have t1 := Int.lt_tmod_of_pos (Civ.dn y m d + 3) (show (0:Int) < 7 by omega)
    have t2 := Int.tmod_lt_of_pos (Civ.dn y m d + 3) (show (0:Int) < 7 by omega)
    generalize Int.tmod (Civ.dn y m d + 3) 7 = x at *
    generalize Int.tdiv (Civ.dn y m d + 3) 7 = z at *
    rw [wr (by omega) (by omega), tm (by omega)]
    congr 2; omega
  · rw [if_neg c, if_neg c]; rfl
end Go.Proofs.Ytegedhnbmclbkaa.PX
