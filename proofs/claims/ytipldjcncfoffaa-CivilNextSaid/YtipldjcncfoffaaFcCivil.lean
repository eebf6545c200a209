/- CivilAdds, CivilReads, CivilBack: for every argument the call returns true (no conditions beyond the parameters' types). -/
import Derived.Test.YtipldjcncfoffaaPXx7
import Derived.Test.YtipldjcncfoffaaPXx19
import Derived.Test.YtipldjcncfoffaaPXx20
import Derived.Test.YtipldjcncfoffaaPXx23
import Derived.Test.YtipldjcncfoffaaFa
namespace Go.Proofs.Ytipldjcncfoffaa.PX
open Go.RowKit Go.Proofs.YtipldjcncfoffaaW.PrintWords Go.Proofs.YtipldjcncfoffaaW.PrintLast Go.Proofs.YtipldjcncfoffaaW.PrintMore
set_option linter.unusedVariables false
set_option linter.unusedSimpArgs false
/-- the date of a day number, and the error -/
def ofE4 (n : Int) : Int × Int × Int × Int := if -719162 ≤ n ∧ n ≤ 2932896 then (Civ.ofY n, Civ.ofM n, Civ.ofD n, 0) else (0, 0, 0, 5)
theorem civof (n : Int) : civil_Of.f n = some (ofE4 n) := by unfold civil_Of.f ofE4; split <;> rfl
theorem civadd (y m d n : Int) : civil_Add.f y m d n = some (if Civ.ok y m d then ofE4 (Civ.dn y m d + n) else (0, 0, 0, 5)) := by
  unfold civil_Add.f
  rw [civdays]
  simp only [Option.bind_some]
  by_cases c : Civ.ok y m d
  · rw [if_pos c, if_pos c]
    have r := Civ.dn_range c
    simp only [if_true]
    by_cases h1 : n < -3652058
    · rw [if_pos h1, ofE4, if_neg (by omega)]
    · rw [if_neg h1]
      by_cases h2 : n > 3652058
      · rw [if_pos h2, ofE4, if_neg (by omega)]
      · rw [if_neg h2, wr (by omega) (by omega), civof]; rfl
  · rw [if_neg c, if_neg c]; rfl
theorem dayf (n : Int) : ∃ D, pylonlaw03_day.f n = some D ∧ -719162 ≤ D ∧ D ≤ 2932896 := by
  unfold pylonlaw03_day.f
  have t1 := Int.lt_tmod_of_pos n (show (0:Int) < 3652059 by omega)
  have t2 := Int.tmod_lt_of_pos n (show (0:Int) < 3652059 by omega)
  by_cases h : Int.tmod n 3652059 < 0
  · rw [if_pos h]
    simp (disch := omega) only [wr]
    exact ⟨_, rfl, by omega, by omega⟩
  · rw [if_neg h]
    simp (disch := omega) only [wr]
    exact ⟨_, rfl, by omega, by omega⟩
theorem ofE4_in {n : Int} (h1 : -719162 ≤ n) (h2 : n ≤ 2932896) : ofE4 n = (Civ.ofY n, Civ.ofM n, Civ.ofD n, 0) := if_pos ⟨h1, h2⟩
theorem ofE4_out {n : Int} (h : n < -719162 ∨ 2932896 < n) : ofE4 n = (0, 0, 0, 5) := if_neg (by omega)
theorem wf32 {a : Int} (h : (Lit.int .i32 a).wf = true) : -2147483648 ≤ a ∧ a ≤ 2147483647 := Go.bounds_i32 h
theorem CivilAdds_pure : pylonlaw03_CivilAdds.Pure := by
  intro n a b hn ha hb
  have ra := wf32 ha
  have rb := wf32 hb
  obtain ⟨D, hD, h1, h2⟩ := dayf n
  unfold pylonlaw03_CivilAdds.f
  rw [civawake]
  simp only [Option.bind_some, if_true, hD]
  rw [wr (n := a) (by omega) (by omega), wr (n := b) (by omega) (by omega), wr (n := a + b) (by omega) (by omega), civof, ofE4_in h1 h2]
  simp only [Option.bind_some]
  obtain ⟨ok1, dn1⟩ := Civ.of_ok h1 h2
  rw [civadd, civadd, if_pos ok1, if_pos ok1, dn1]
  simp only [Option.bind_some]
  by_cases h : -719162 ≤ D + a ∧ D + a ≤ 2932896
  · obtain ⟨ok2, dn2⟩ := Civ.of_ok h.1 h.2
    rw [ofE4_in h.1 h.2]
    simp only [if_true]
    rw [civadd, if_pos ok2, dn2, show D + a + b = D + (a + b) by omega]
    simp
  · rw [ofE4_out (n := D + a) (by omega)]
    simp only [civadd, Option.bind_some, if_true]
    rw [if_neg (by omega), if_pos (by decide), wr (by omega) (by omega)]
    by_cases q : D + a < -719162
    · rw [if_pos q]
    · rw [if_neg q, decide_eq_true (by omega)]
theorem CivilReads_pure : pylonlaw03_CivilReads.Pure := by
  intro s hs
  unfold pylonlaw03_CivilReads.f
  rw [civawake]
  simp only [Option.bind_some, if_true]
  unfold civil_Read.f
  split
  · rename_i c
    obtain ⟨c1, c2, c3⟩ := c
    simp only [Option.bind_some, if_true]
    unfold civil_Text.f Civ.textE
    rw [if_pos c2]
    simp [c3]
  · simp
theorem dig_toNat (n : Int) : ((Civ.dig n).toNat : Int) = 48 + n % 10 := by
  unfold Civ.dig
  rw [UInt8.toNat_ofNat']
  omega
theorem bt_text (y m d : Int) : bt (Civ.text y m d) 0 = 48 + y / 1000 % 10 ∧ bt (Civ.text y m d) 1 = 48 + y / 100 % 10 ∧ bt (Civ.text y m d) 2 = 48 + y / 10 % 10 ∧ bt (Civ.text y m d) 3 = 48 + y % 10 ∧
    bt (Civ.text y m d) 5 = 48 + m / 10 % 10 ∧ bt (Civ.text y m d) 6 = 48 + m % 10 ∧ bt (Civ.text y m d) 8 = 48 + d / 10 % 10 ∧ bt (Civ.text y m d) 9 = 48 + d % 10 :=
  ⟨dig_toNat _, dig_toNat _, dig_toNat _, dig_toNat _, dig_toNat _, dig_toNat _, dig_toNat _, dig_toNat _⟩
theorem read_text {y m d : Int} (c : Civ.ok y m d) : civil_Read.f (Civ.text y m d) = some (y, m, d, 0) := by
  have c0 := c
  obtain ⟨c1, c2, c3, c4, c5, c6⟩ := c
  have l := Civ.len_bd y m
  obtain ⟨b0, b1, b2, b3, b5, b6, b8, b9⟩ := bt_text y m d
  have e0 : civil_Read.n0 (Civ.text y m d) = y := by unfold civil_Read.n0; rw [b0, b1, b2, b3]; omega
  have e5 : civil_Read.n5 (Civ.text y m d) = m := by unfold civil_Read.n5; rw [b5, b6]; omega
  have e8 : civil_Read.n8 (Civ.text y m d) = d := by unfold civil_Read.n8; rw [b8, b9]; omega
  unfold civil_Read.f
  rw [e0, e5, e8, if_pos ⟨rfl, c0, rfl⟩]
theorem CivilBack_pure : pylonlaw03_CivilBack.Pure := by
  intro n hn
  obtain ⟨D, hD, h1, h2⟩ := dayf n
  obtain ⟨ok1, dn1⟩ := Civ.of_ok h1 h2
  unfold pylonlaw03_CivilBack.f
  rw [civawake]
  simp only [Option.bind_some, if_true, hD]
  rw [civof, ofE4_in h1 h2]
  simp only [Option.bind_some]
  rw [civdays, if_pos ok1]
  unfold civil_Text.f Civ.textE
  rw [if_pos ok1]
  simp only [Option.bind_some]
  rw [read_text ok1]
  simp [dn1]
  rfl
end Go.Proofs.Ytipldjcncfoffaa.PX
