/- Easter Sunday of the years 1 to 9999: its date, that it is one, and a Sunday. No program in sight. -/
import Derived.Test.YtegedhnbmclbkaaCiv
namespace Go.Proofs.Ytegedhnbmclbkaa.Civ
/-- Easter's number: month times 31 and the day less one; its parts. -/
def eGold (y : Int) : Int := y % 19
def eCent (y : Int) : Int := y / 100
def eOf (y : Int) : Int := y % 100
def eLeaps (y : Int) : Int := (eCent y - (eCent y + 8) / 25 + 1) / 3
def eMoon (y : Int) : Int := (19 * eGold y + eCent y - eCent y / 4 - eLeaps y + 15) % 30
def eSun (y : Int) : Int := (32 + 2 * (eCent y % 4) + 2 * (eOf y / 4) - eMoon y - eOf y % 4) % 7
def eNum (y : Int) : Int := eMoon y + eSun y - 7 * ((eGold y + 11 * eMoon y + 22 * eSun y) / 451) + 114
theorem e_bd {y : Int} (h1 : 1 ≤ y) (h2 : y ≤ 9999) : (0 ≤ eGold y ∧ eGold y ≤ 18) ∧ (0 ≤ eCent y ∧ eCent y ≤ 99) ∧ (0 ≤ eOf y ∧ eOf y ≤ 99) ∧ (0 ≤ eLeaps y ∧ 3 * eLeaps y ≤ eCent y + 1) ∧ (0 ≤ eMoon y ∧ eMoon y ≤ 29) ∧ (0 ≤ eSun y ∧ eSun y ≤ 6) := by
  have g1 : 0 ≤ eGold y ∧ eGold y ≤ 18 := by unfold eGold; omega
  have g2 : 0 ≤ eCent y ∧ eCent y ≤ 99 := by unfold eCent; omega
  have g3 : 0 ≤ eOf y ∧ eOf y ≤ 99 := by unfold eOf; omega
  have g4 : 0 ≤ eLeaps y ∧ 3 * eLeaps y ≤ eCent y + 1 := by unfold eLeaps; omega
  have g5 : 0 ≤ eMoon y ∧ eMoon y ≤ 29 := by unfold eMoon; omega
  have g6 : 0 ≤ eSun y ∧ eSun y ≤ 6 := by unfold eSun; omega
  exact ⟨g1, g2, g3, g4, g5, g6⟩
def eCen (c : Nat) : Nat := Nat.sub (Nat.sub (Nat.add c 15) (Nat.div c 4)) (Nat.div (Nat.sub (Nat.add c 1) (Nat.div (Nat.add c 8) 25)) 3)
theorem eCen_eq : ∀ c : Nat, c < 100 → (c : Int) - (c : Int) / 4 - ((c : Int) - ((c : Int) + 8) / 25 + 1) / 3 + 15 = (eCen c : Int) := by decide
def eMoonN (y : Nat) : Nat := Nat.mod (Nat.add (Nat.mul 19 (Nat.mod y 19)) (eCen (Nat.div y 100))) 30
def eSunN (y M : Nat) : Nat := Nat.mod (Nat.sub (Nat.sub (Nat.add (Nat.add 32 (Nat.mul 2 (Nat.mod (Nat.div y 100) 4))) (Nat.mul 2 (Nat.div (Nat.mod y 100) 4))) M) (Nat.mod y 4)) 7
def eNumN (y M S : Nat) : Nat := Nat.sub (Nat.add (Nat.add M S) 114) (Nat.mul 7 (Nat.div (Nat.add (Nat.add (Nat.mod y 19) (Nat.mul 11 M)) (Nat.mul 22 S)) 451))
/-- days ahead of the first of March of a year, in Nat -/
def marN (y : Nat) : Nat := Nat.add (Nat.sub (Nat.add (Nat.mul 365 y) (Nat.div y 4)) (Nat.div y 100)) (Nat.div y 400)
def eChk (i : Nat) : Bool :=
  let y := i + 1; let n := eNumN y (eMoonN y) (eSunN y (eMoonN y))
  Nat.ble 114 n && Nat.ble n 148 && Nat.beq (Nat.mod (Nat.sub (Nat.add (marN y) n) 399) 7) 6
theorem eChk_all : all eChk 9999 = true := by decide +kernel
theorem eMoon_eq (n : Nat) (h : n ≤ 9999) : eMoon n = (eMoonN n : Nat) := by
  have hd : ∀ a b, Nat.div a b = a / b := fun _ _ => rfl
  have hm : ∀ a b, Nat.mod a b = a % b := fun _ _ => rfl
  have e := eCen_eq (n / 100) (by omega)
  unfold eMoon eLeaps eGold eCent eMoonN
  simp only [hd, hm, Nat.add_eq, Nat.mul_eq]
  rw [show (n : Int) / 100 = ((n / 100 : Nat) : Int) by omega]
  generalize n / 100 = c at *
  generalize eCen c = W at *
  generalize (c : Int) / 4 = X at *
  generalize ((c : Int) - ((c : Int) + 8) / 25 + 1) / 3 = Y at *
  omega
theorem eSun_eq (n : Nat) (h : n ≤ 9999) : eSun n = (eSunN n (eMoonN n) : Nat) := by
  have hd : ∀ a b, Nat.div a b = a / b := fun _ _ => rfl
  have hm : ∀ a b, Nat.mod a b = a % b := fun _ _ => rfl
  have hb : eMoonN n < 30 := Nat.mod_lt _ (by omega)
  unfold eSun eCent eOf
  rw [eMoon_eq n h]
  generalize eMoonN n = M at *
  unfold eSunN
  simp only [hd, hm, Nat.add_eq, Nat.mul_eq, Nat.sub_eq]
  rw [show (n : Int) / 100 % 4 = ((n / 100 % 4 : Nat) : Int) by omega, show (n : Int) % 100 / 4 = ((n % 100 / 4 : Nat) : Int) by omega, show (n : Int) % 100 % 4 = ((n % 4 : Nat) : Int) by omega]
  have h4 : n % 4 < 4 := by omega
  generalize n / 100 % 4 = a at *
  generalize n % 100 / 4 = b at *
  generalize n % 4 = c at *
  omega
theorem eNum_eq (n : Nat) (h : n ≤ 9999) : eNum n = (eNumN n (eMoonN n) (eSunN n (eMoonN n)) : Nat) := by
  have hd : ∀ a b, Nat.div a b = a / b := fun _ _ => rfl
  have hm : ∀ a b, Nat.mod a b = a % b := fun _ _ => rfl
  have hb : eMoonN n < 30 := Nat.mod_lt _ (by omega)
  have hs : eSunN n (eMoonN n) < 7 := Nat.mod_lt _ (by omega)
  unfold eNum eGold
  rw [eSun_eq n h, eMoon_eq n h]
  generalize eSunN n (eMoonN n) = S at *
  generalize eMoonN n = M at *
  unfold eNumN
  simp only [hd, hm, Nat.add_eq, Nat.mul_eq, Nat.sub_eq]
  omega
theorem easter_at {y : Int} (h1 : 1 ≤ y) (h2 : y ≤ 9999) : 114 ≤ eNum y ∧ eNum y ≤ 148 ∧ ok y (eNum y / 31) (eNum y % 31 + 1) ∧ (dn y (eNum y / 31) (eNum y % 31 + 1) + 719162) % 7 = 6 := by
  obtain ⟨n, rfl⟩ := Int.eq_ofNat_of_zero_le (show 0 ≤ y by omega)
  have hd : ∀ a b, Nat.div a b = a / b := fun _ _ => rfl
  have hm : ∀ a b, Nat.mod a b = a % b := fun _ _ => rfl
  have e := eNum_eq n (by omega)
  have c := all_of eChk_all (n - 1) (by omega)
  unfold eChk at c
  simp only [show n - 1 + 1 = n by omega, Bool.and_eq_true, Nat.ble_eq, Nat.beq_eq] at c
  rw [e]
  generalize eNumN n (eMoonN n) (eSunN n (eMoonN n)) = N at *
  unfold marN at c
  simp only [hd, hm, Nat.add_eq, Nat.mul_eq, Nat.sub_eq] at c
  obtain ⟨⟨c1, c2⟩, c3⟩ := c
  have hs := ahead_succ (n : Int)
  have ha : ahead ((n : Int) + 1) = 365 * (n : Int) + (n : Int) / 4 - (n : Int) / 100 + (n : Int) / 400 := by unfold ahead; rw [show (n : Int) + 1 - 1 = n by omega]
  refine ⟨by omega, by omega, ?_⟩
  by_cases h : N < 124
  · have e3 : (N : Int) / 31 = 3 := by omega
    rw [e3]
    refine ⟨⟨by omega, by omega, by omega, by omega, by omega, ?_⟩, ?_⟩
    · simp [len]; omega
    · unfold dn; simp [cum]; omega
  · have e3 : (N : Int) / 31 = 4 := by omega
    rw [e3]
    refine ⟨⟨by omega, by omega, by omega, by omega, by omega, ?_⟩, ?_⟩
    · simp [len]; omega
    · unfold dn; simp [cum]; omega
end Go.Proofs.Ytegedhnbmclbkaa.Civ
