/- The document's date of a day number. -/
import Derived.Test.YtegedhnbmclbkaaPXx10
import Derived.Test.YtegedhnbmclbkaaFcDate
import Derived.Test.YtegedhnbmclbkaaFaR
import Derived.Test.YtegedhnbmclbkaaFaW
namespace Go.Proofs.Ytegedhnbmclbkaa.PX
open Go.RowKit Go.Proofs.YtegedhnbmclbkaaW.PrintWords Go.Proofs.YtegedhnbmclbkaaW.PrintLast Go.Proofs.YtegedhnbmclbkaaW.PrintMore
set_option linter.unusedVariables false
set_option linter.unusedSimpArgs false
theorem refof_l1 (y : Int) (hy : 1 ≤ y ∧ y ≤ 9999) (q : Int) (hq : 0 ≤ q) (hq2 : q < 365 + Civ.lp y) (j : Nat) : ∀ (m : Int) (k : Nat), 1 ≤ m → 13 - m = j → Civ.cum y m ≤ q → j + 5 ≤ k →
    ∃ M D, pylonref03_Of.l1 k (q - Civ.cum y m) y m = some (y, M, D, 0) ∧ Civ.ok y M D ∧ Civ.cum y M + D - 1 = q := by
  have hl := Civ.lp_01 y
  induction j with
  | zero =>
    intro m k h1 h2 h3 h4
    obtain rfl : m = 13 := by omega
    rw [Civ.cum_13] at h3
    omega
  | succ j ih =>
    intro m k h1 h2 h3 h4
    obtain ⟨k, rfl⟩ : ∃ p, k = p + 3 := ⟨k - 3, by omega⟩
    have e := Civ.cum_succ y m h1 (by omega)
    have l := Civ.len_bd y m
    have b2 := Civ.cum_mono y (a := 1) (b := m) (by omega) (by omega) (by omega)
    have e1 : Civ.cum y 1 = 0 := by simp [Civ.cum]
    rw [show k + 3 = (k + 2) + 1 from rfl, pylonref03_Of.l1, if_pos (by omega), reflen, Civ.lenE, if_pos (by omega)]
    simp only [Option.bind_some]
    by_cases c : q - Civ.cum y m < Civ.len y m
    · rw [if_pos c, wr (by omega) (by omega)]
      exact ⟨m, q - Civ.cum y m + 1, rfl, ⟨hy.1, hy.2, h1, by omega, by omega, by omega⟩, by omega⟩
    · rw [if_neg c, wr (by omega) (by omega), wr (by omega) (by omega), show q - Civ.cum y m - Civ.len y m = q - Civ.cum y (m + 1) by omega]
      exact ih (m + 1) (k + 2) (by omega) (by omega) (by omega) (by omega)
theorem refof_l0 (N : Int) (h0 : 0 ≤ N) (hN : N ≤ 3652058) (j : Nat) : ∀ (y : Int) (k : Nat), 1 ≤ y → y ≤ 9999 → 9999 - y = j → Civ.ahead y ≤ N → j + 40 ≤ k →
    ∃ Y M D, pylonref03_Of.l0 k N y = some (Y, M, D, 0) ∧ Civ.ok Y M D ∧ Civ.ahead Y + Civ.cum Y M + D - 1 = N := by
  have fin : ∀ (y : Int) (k : Nat), 1 ≤ y → y ≤ 9999 → Civ.ahead y ≤ N → N < Civ.ahead (y + 1) → ∃ Y M D, pylonref03_Of.j2 (k + 30) N y = some (Y, M, D, 0) ∧ Civ.ok Y M D ∧ Civ.ahead Y + Civ.cum Y M + D - 1 = N := by
    intro y k h1 h2 h3 h4
    have s := Civ.ahead_succ y
    rw [pylonref03_Of.j2, refahead y h1 (by omega)]
    simp only [Option.bind_some]
    have a0 := Civ.ahead_mono (a := 1) (b := y) h1
    have a1 : Civ.ahead 1 = 0 := by decide
    have e1 : Civ.cum y 1 = 0 := by simp [Civ.cum]
    rw [wr (by omega) (by omega)]
    obtain ⟨M, D, q1, q2, q3⟩ := refof_l1 y ⟨h1, h2⟩ (N - Civ.ahead y) (by omega) (by omega) 12 1 (k + 29) (by omega) (by omega) (by omega) (by omega)
    rw [e1, Int.sub_zero] at q1
    exact ⟨y, M, D, q1, q2, by omega⟩
  induction j with
  | zero =>
    intro y k h1 h2 h3 h4 h5
    obtain rfl : y = 9999 := by omega
    obtain ⟨k, rfl⟩ : ∃ p, k = p + 31 := ⟨k - 31, by omega⟩
    rw [show k + 31 = (k + 30) + 1 from rfl, pylonref03_Of.l0, if_neg (by omega)]
    have e : Civ.ahead (9999 + 1) = 3652059 := by decide
    exact fin 9999 k h1 h2 h4 (by omega)
  | succ j ih =>
    intro y k h1 h2 h3 h4 h5
    obtain ⟨k, rfl⟩ : ∃ p, k = p + 31 := ⟨k - 31, by omega⟩
    rw [show k + 31 = (k + 30) + 1 from rfl, pylonref03_Of.l0, if_pos (by omega), wr (by omega) (by omega), refahead (y + 1) (by omega) (by omega)]
    simp only [Option.bind_some]
    by_cases c : Civ.ahead (y + 1) ≤ N
    · rw [if_pos c]
      exact ih (y + 1) (k + 30) (by omega) (by omega) (by omega) c (by omega)
    · rw [if_neg c]
      exact fin y k h1 h2 h4 (by omega)
theorem refof (k : Nat) (n : Int) (hn : -9223372036854775808 ≤ n ∧ n ≤ 9223372036854775807) : pylonref03_Of.f (k + 11000) n = some (ofE4 n) := by
  unfold pylonref03_Of.f
  by_cases h1 : n < -719162
  · rw [if_pos h1, ofE4_out (.inl h1)]; rfl
  · rw [if_neg h1]
    by_cases h2 : n > 2932896
    · rw [decide_eq_true h2, ofE4_out (.inr h2)]; rfl
    · rw [decide_eq_false h2, ofE4_in (by omega) (by omega), show k + 11000 = (k + 10999) + 1 from rfl, pylonref03_Of.j0, if_neg (by simp)]
      have q : 0 ≤ (n + 719162) / 366 ∧ (n + 719162) / 366 ≤ 9978 := by omega
      rw [wr (n := n + 719162) (by omega) (by omega), td (by omega)]
      simp (disch := omega) only [wr]
      have ha : Civ.ahead ((n + 719162) / 366 + 1) ≤ n + 719162 := by unfold Civ.ahead; omega
      obtain ⟨Y, M, D, e, ok, s⟩ := refof_l0 (n + 719162) (by omega) (by omega) (9998 - (n + 719162) / 366).toNat ((n + 719162) / 366 + 1) (k + 10999) (by omega) (by omega) (by omega) ha (by omega)
      rw [e]
      obtain ⟨ok1, dn1⟩ := Civ.of_ok (n := n) (by omega) (by omega)
      obtain ⟨rfl, rfl, rfl⟩ := Civ.dn_inj ok ok1 (by rw [dn1]; unfold Civ.dn; omega)
      rfl
theorem u64_nonneg (a : Int) : 0 ≤ IntKind.u64.wrap a := by unfold IntKind.wrap; simp [IntKind.signed, IntKind.bits]; omega
theorem ok_day {y m d : Int} (h1 : 1 ≤ y) (h2 : y ≤ 9999) (h3 : 1 ≤ m) (h4 : m ≤ 12) (h5 : 1 ≤ d) (h6 : d ≤ 28) : Civ.ok y m d := by
  have := Civ.len_bd y m
  exact ⟨h1, h2, h3, h4, h5, by omega⟩
theorem tmod_pos (n : Int) {d : Int} (hd : 0 < d) : 0 ≤ Int.tmod (IntKind.u64.wrap n) d ∧ Int.tmod (IntKind.u64.wrap n) d < d :=
  ⟨Int.tmod_nonneg _ (u64_nonneg n), Int.tmod_lt_of_pos _ hd⟩
end Go.Proofs.Ytegedhnbmclbkaa.PX
