/- CivilYears, CivilNths: for every argument the call returns true (no conditions beyond ints). -/
import Derived.Test.YtipldjcncfoffaaPXx11
import Derived.Test.YtipldjcncfoffaaPXx12
import Derived.Test.YtipldjcncfoffaaFa
namespace Go.Proofs.Ytipldjcncfoffaa.PX
open Go.RowKit Go.Proofs.YtipldjcncfoffaaW.PrintWords Go.Proofs.YtipldjcncfoffaaW.PrintLast Go.Proofs.YtipldjcncfoffaaW.PrintMore
set_option linter.unusedVariables false
set_option linter.unusedSimpArgs false
theorem years_l (y : Int) (h1 : 1 ≤ y) (h2 : y ≤ 9599) (j : Nat) : ∀ (m s : Int) (k : Nat), 1 ≤ m → 13 - m = j → s = Civ.cum y m → j + 3 ≤ k → pylonlaw03_CivilYears.l0 k y s m = some true := by
  have hl := Civ.lp_01 y
  induction j with
  | zero =>
    intro m s k a1 a2 a3 a4
    obtain ⟨k, rfl⟩ : ∃ q, k = q + 1 := ⟨k - 1, by omega⟩
    obtain rfl : m = 13 := by omega
    rw [pylonlaw03_CivilYears.l0, if_neg (by omega), wr (by omega) (by omega), civyd, civdays, civdays]
    have o1 : Civ.ok y 12 31 := ⟨h1, by omega, by omega, by omega, by omega, by simp [Civ.len]⟩
    have o2 : Civ.ok y 3 1 := ⟨h1, by omega, by omega, by omega, by omega, by simp [Civ.len]⟩
    have o3 : Civ.ok (y + 400) 3 1 := ⟨by omega, by omega, by omega, by omega, by omega, by simp [Civ.len]⟩
    have r := Civ.dn_range o2
    rw [if_pos o1, if_pos o2, if_pos o3]
    simp only [Option.bind_some]
    simp only [if_true]
    rw [wr (by omega) (by omega), if_pos (by rw [a3]; simp [Civ.cum]; omega)]
    have e : Civ.dn (y + 400) 3 1 = Civ.dn y 3 1 + 146097 := by
      have l4 : Civ.lp (y + 400) = Civ.lp y := by unfold Civ.lp; congr 1; simp only [eq_iff_iff]; omega
      unfold Civ.dn Civ.ahead
      simp [Civ.cum, l4]
      omega
    rw [e]; simp
  | succ j ih =>
    intro m s k a1 a2 a3 a4
    obtain ⟨k, rfl⟩ : ∃ q, k = q + 1 := ⟨k - 1, by omega⟩
    have e := Civ.cum_succ y m a1 (by omega)
    have l := Civ.len_bd y m
    have b := Civ.cum_mono y (a := m) (b := 13) a1 (by omega) (by omega)
    have b2 := Civ.cum_mono y (a := 1) (b := m) (by omega) (by omega) (by omega)
    rw [Civ.cum_13] at b
    have e1 : Civ.cum y 1 = 0 := by simp [Civ.cum]
    rw [pylonlaw03_CivilYears.l0, if_pos (by omega)]
    unfold civil_Length.f Civ.lenE
    by_cases hy : y ≤ 9999
    · rw [if_pos (by omega)]
      simp only [Option.bind_some]
      simp only [if_true]
      rw [wr (by omega) (by omega), wr (by omega) (by omega)]
      exact ih (m + 1) (s + Civ.len y m) k (by omega) (by omega) (by omega) (by omega)
    · omega
theorem CivilYears_pure : pylonlaw03_CivilYears.Pure := by
  intro y hy
  refine ⟨20, ?_⟩
  unfold pylonlaw03_CivilYears.f
  rw [civawake]
  simp only [Option.bind_some, if_true]
  have hu : 0 ≤ IntKind.u64.wrap y := by unfold IntKind.wrap; simp [IntKind.signed, IntKind.bits]; omega
  rw [tm hu]
  simp (disch := omega) only [wr]
  exact years_l _ (by omega) (by omega) 12 1 0 20 (by omega) (by omega) (by simp [Civ.cum]) (by omega)
/-- the n-th weekday of a month, as the program has it -/
theorem civnth (k : Nat) (y m w d : Int) (hw : -9223372036854775808 ≤ w ∧ w ≤ 9223372036854775807) (hd : -9223372036854775808 ≤ d ∧ d ≤ 9223372036854775807) :
    civil_Nth.f (k + 1) y m w d = some (if 1 ≤ y ∧ y ≤ 9999 ∧ 1 ≤ m ∧ m ≤ 12 then if 1 ≤ w ∧ w ≤ 5 ∧ 0 ≤ d ∧ d ≤ 6 then (y, m, Civ.nth y m w d, 0) else (0, 0, 0, 8) else (0, 0, 0, 5)) := by
  unfold civil_Nth.f civil_Length.f Civ.lenE
  by_cases c : 1 ≤ y ∧ y ≤ 9999 ∧ 1 ≤ m ∧ m ≤ 12
  · rw [if_pos c, if_pos c]
    simp only [Option.bind_some, if_true]
    by_cases a1 : w < 1
    · rw [if_pos a1, if_neg (by omega)]; rfl
    · rw [if_neg a1]
      by_cases a2 : w > 5
      · rw [if_pos a2, if_neg (by omega)]; rfl
      · rw [if_neg a2]
        by_cases a3 : d < 0
        · rw [if_pos a3, if_neg (by omega)]; rfl
        · rw [if_neg a3]
          by_cases a4 : d > 6
          · rw [decide_eq_true a4, if_neg (by omega)]; rfl
          · rw [decide_eq_false a4, if_pos (by omega), civil_Nth.j0, if_neg (by simp), civwd]
            have l := Civ.len_bd y m
            have o : Civ.ok y m 1 := ⟨c.1, c.2.1, c.2.2.1, c.2.2.2, by omega, by omega⟩
            rw [if_pos o]
            simp only [Option.bind_some]
            have g : 0 ≤ (Civ.dn y m 1 + 719162) % 7 ∧ (Civ.dn y m 1 + 719162) % 7 ≤ 6 := by omega
            unfold Civ.nth
            generalize (Civ.dn y m 1 + 719162) % 7 = b at *
            simp (disch := omega) only [wr, tm]
            by_cases q : 1 + (d - b + 7) % 7 + 7 * (w - 1) > Civ.len y m
            · rw [if_pos q, if_pos q]
            · rw [if_neg q, if_neg q]
  · rw [if_neg c, if_neg c]; rfl
theorem CivilNths_pure : pylonlaw03_CivilNths.Pure := by
  intro y m w d hy hm hw hd
  refine ⟨5, ?_⟩
  unfold pylonlaw03_CivilNths.f
  rw [civawake, civnth 4 y m w d (wf64 hw) (wf64 hd)]
  simp only [Option.bind_some, if_true]
  unfold civil_Length.f Civ.lenE
  by_cases c : 1 ≤ y ∧ y ≤ 9999 ∧ 1 ≤ m ∧ m ≤ 12
  · rw [if_pos c, if_pos c]
    simp only [Option.bind_some, if_true]
    by_cases a1 : w < 1
    · rw [if_pos a1, if_neg (by omega)]; rfl
    · rw [if_neg a1]
      by_cases a2 : w > 5
      · rw [if_pos a2, if_neg (by omega)]; rfl
      · rw [if_neg a2]
        by_cases a3 : d < 0
        · rw [if_pos a3, if_neg (by omega)]; rfl
        · rw [if_neg a3]
          by_cases a4 : d > 6
          · rw [decide_eq_true a4, if_neg (by omega)]; rfl
          · rw [decide_eq_false a4, if_pos (by omega), pylonlaw03_CivilNths.j0, if_neg (by simp)]
            obtain ⟨n1, n2, n3, n4, n5⟩ := Civ.nth_ok (y := y) (m := m) (w := w) (d := d) c (by omega) (by omega) (by omega) (by omega)
            have l := Civ.len_bd y m
            have o : Civ.ok y m (Civ.nth y m w d) := ⟨c.1, c.2.1, c.2.2.1, c.2.2.2, n1, n2⟩
            simp only []
            rw [civwd, if_pos o]
            simp only [Option.bind_some]
            simp only [if_true, if_pos n3]
            rw [if_neg (by omega), decide_eq_false (by omega), pylonlaw03_CivilNths.j1, if_neg (by simp)]
            by_cases w5 : w = 5
            · rw [if_pos w5, wr (by omega) (by omega), decide_eq_true (n4 w5)]
            · rw [if_neg w5, wr (n := Civ.nth y m w d + 6) (by omega) (by omega), td (by omega), wr (by omega) (by omega)]
              have := n5 w5
              simp [this]
  · rw [if_neg c, if_neg c]
    simp
end Go.Proofs.Ytipldjcncfoffaa.PX
