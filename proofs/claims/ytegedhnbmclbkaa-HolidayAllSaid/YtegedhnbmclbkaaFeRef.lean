/- The document's Add and Nth. -/
import Derived.Test.YtegedhnbmclbkaaPXx10
import Derived.Test.YtegedhnbmclbkaaFcRef
import Derived.Test.YtegedhnbmclbkaaFbNth
import Derived.Test.YtegedhnbmclbkaaFaR
import Derived.Test.YtegedhnbmclbkaaFaW
namespace Go.Proofs.Ytegedhnbmclbkaa.PX
open Go.RowKit Go.Proofs.YtegedhnbmclbkaaW.PrintWords Go.Proofs.YtegedhnbmclbkaaW.PrintLast Go.Proofs.YtegedhnbmclbkaaW.PrintMore
set_option linter.unusedVariables false
set_option linter.unusedSimpArgs false
theorem refadd (k : Nat) (y m d n : Int) (hn : -9223372036854775808 ≤ n ∧ n ≤ 9223372036854775807) : pylonref03_Add.f (k + 11000) y m d n = some (if Civ.ok y m d then ofE4 (Civ.dn y m d + n) else (0, 0, 0, 5)) := by
  unfold pylonref03_Add.f
  rw [show k + 11000 = (k + 10980) + 20 by omega, refdays]
  simp only [Option.bind_some]
  by_cases c : Civ.ok y m d
  · rw [if_pos c, if_pos c]
    have r := Civ.dn_range c
    simp only [if_true]
    by_cases h1 : n > 5000000
    · rw [if_pos h1, ofE4_out (.inr (by omega))]
    · rw [if_neg h1]
      by_cases h2 : n < -5000000
      · rw [if_pos h2, ofE4_out (.inl (by omega))]
      · rw [if_neg h2, wr (by omega) (by omega), show k + 10980 + 20 = k + 11000 by omega, refof k _ (by omega)]; rfl
  · rw [if_neg c, if_neg c]; rfl
theorem refnth_l (y m w d f : Int) (c : 1 ≤ y ∧ y ≤ 9999 ∧ 1 ≤ m ∧ m ≤ 12) (hw : 1 ≤ w) (hw2 : w ≤ 5) (hd : 0 ≤ d ∧ d ≤ 6) (hf : f = 1 + (d - (Civ.dn y m 1 + 719162) % 7 + 7) % 7) (j : Nat) :
    ∀ (n last day : Int) (k : Nat), 1 ≤ day → Civ.len y m + 1 - day = j → n = (day - f + 6) / 7 → n < w → (n = 0 ∨ last = f + 7 * (n - 1)) → j + 30 ≤ k →
    pylonref03_Nth.l0 k y m w d (Civ.len y m) n last day = some (y, m, Civ.nth y m w d, 0) := by
  have l := Civ.len_bd y m
  have hnth : Civ.nth y m w d = if f + 7 * (w - 1) > Civ.len y m then f + 7 * (w - 1) - 7 else f + 7 * (w - 1) := by rw [hf]; rfl
  have fb : 1 ≤ f ∧ f ≤ 7 := by omega
  induction j with
  | zero =>
    intro n last day k h1 h2 h3 h4 h5 h6
    obtain ⟨k, rfl⟩ : ∃ p, k = p + 1 := ⟨k - 1, by omega⟩
    rw [pylonref03_Nth.l0, if_neg (by omega), hnth, if_pos (by omega), show last = f + 7 * (w - 1) - 7 by omega]
  | succ j ih =>
    intro n last day k h1 h2 h3 h4 h5 h6
    obtain ⟨k, rfl⟩ : ∃ p, k = p + 21 := ⟨k - 21, by omega⟩
    have o : Civ.ok y m day := ⟨c.1, c.2.1, c.2.2.1, c.2.2.2, h1, by omega⟩
    rw [show k + 21 = (k + 20) + 1 from rfl, pylonref03_Nth.l0, if_pos (by omega), refwd, if_pos o]
    simp only [Option.bind_some]
    have e := Civ.dn_day y m day
    have g : ((Civ.dn y m day + 719162) % 7 = d) ↔ (day - f) % 7 = 0 := by rw [e, hf]; omega
    simp (disch := omega) only [wr]
    by_cases q : (Civ.dn y m day + 719162) % 7 = d
    · rw [if_pos q]
      have q' := g.mp q
      by_cases z : n + 1 = w
      · rw [if_pos z, hnth, if_neg (by omega), show day = f + 7 * (w - 1) by omega]
      · rw [if_neg z]
        exact ih (n + 1) day (day + 1) (k + 20) (by omega) (by omega) (by omega) (by omega) (.inr (by omega)) (by omega)
    · rw [if_neg q]
      have q' : ¬ (day - f) % 7 = 0 := fun x => q (g.mpr x)
      exact ih n last (day + 1) (k + 20) (by omega) (by omega) (by omega) (by omega) h5 (by omega)
theorem refnth (k : Nat) (y m w d : Int) (hw : -9223372036854775808 ≤ w ∧ w ≤ 9223372036854775807) (hd : -9223372036854775808 ≤ d ∧ d ≤ 9223372036854775807) :
    pylonref03_Nth.f (k + 100) y m w d = some (if 1 ≤ y ∧ y ≤ 9999 ∧ 1 ≤ m ∧ m ≤ 12 then if 1 ≤ w ∧ w ≤ 5 ∧ 0 ≤ d ∧ d ≤ 6 then (y, m, Civ.nth y m w d, 0) else (0, 0, 0, 8) else (0, 0, 0, 5)) := by
  unfold pylonref03_Nth.f
  rw [show k + 100 = (k + 98) + 2 by omega, reflen]
  unfold Civ.lenE
  by_cases c : 1 ≤ y ∧ y ≤ 9999 ∧ 1 ≤ m ∧ m ≤ 12
  · rw [if_pos c, if_pos c]
    simp only [Option.bind_some, if_true]
    rw [show k + 98 + 2 = (k + 99) + 1 by omega]
    by_cases a1 : w < 1
    · rw [if_pos a1, if_neg (by omega)]; rfl
    · rw [if_neg a1]
      by_cases a2 : w > 5
      · rw [if_pos a2, if_neg (by omega)]; rfl
      · rw [if_neg a2]
        by_cases a3 : d < 0
        · rw [if_pos a3, if_neg (by omega)]; rfl
        · rw [if_neg a3]
          by_cases a4 : d > 6
          · rw [decide_eq_true a4, if_neg (by omega)]; rfl
          · rw [decide_eq_false a4, if_pos (by omega), pylonref03_Nth.j0, if_neg (by simp)]
            have l := Civ.len_bd y m
            exact refnth_l y m w d _ c (by omega) (by omega) (by omega) rfl (Civ.len y m).toNat 0 0 1 (k + 99) (by omega) (by omega) (by omega) (by omega) (.inl rfl) (by omega)
  · rw [if_neg c, if_neg c]; rfl
end Go.Proofs.Ytegedhnbmclbkaa.PX
