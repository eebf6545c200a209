/- Plain calendar arithmetic: day numbers and dates, both ways. No program in sight. -/
namespace Go.Proofs.Ytegedhnbmclbkaa.Civ

def leapB (y : Int) : Bool := y % 4 == 0 && (!(y % 100 == 0) || y % 400 == 0)
def lp (y : Int) : Int := if y % 4 = 0 ∧ (y % 100 ≠ 0 ∨ y % 400 = 0) then 1 else 0
def len (y m : Int) : Int :=
  if m = 2 then 28 + lp y else if m = 4 ∨ m = 6 ∨ m = 9 ∨ m = 11 then 30 else 31
/-- days ahead of month m in its year -/
def cum (y m : Int) : Int :=
  if m ≤ 1 then 0 else if m = 2 then 31 else
    (if m = 3 then 59 else if m = 4 then 90 else if m = 5 then 120 else if m = 6 then 151 else if m = 7 then 181
     else if m = 8 then 212 else if m = 9 then 243 else if m = 10 then 273 else if m = 11 then 304 else if m = 12 then 334 else 365) + lp y
def ahead (y : Int) : Int := 365 * (y - 1) + (y - 1) / 4 - (y - 1) / 100 + (y - 1) / 400
def dn (y m d : Int) : Int := ahead y + cum y m + d - 1 - 719162
def ok (y m d : Int) : Prop := 1 ≤ y ∧ y ≤ 9999 ∧ 1 ≤ m ∧ m ≤ 12 ∧ 1 ≤ d ∧ d ≤ len y m
instance (y m d : Int) : Decidable (ok y m d) := by unfold ok; infer_instance

theorem lp_01 (y : Int) : 0 ≤ lp y ∧ lp y ≤ 1 := by unfold lp; split <;> omega
theorem ahead_succ (y : Int) : ahead (y + 1) = ahead y + 365 + lp y := by unfold ahead lp; split <;> omega
theorem ahead_mono {a b : Int} (h : a ≤ b) : ahead a ≤ ahead b := by unfold ahead; omega
theorem cum_succ (y m : Int) (h1 : 1 ≤ m) (h2 : m ≤ 12) : cum y (m + 1) = cum y m + len y m := by
  have : m = 1 ∨ m = 2 ∨ m = 3 ∨ m = 4 ∨ m = 5 ∨ m = 6 ∨ m = 7 ∨ m = 8 ∨ m = 9 ∨ m = 10 ∨ m = 11 ∨ m = 12 := by omega
  rcases this with h | h | h | h | h | h | h | h | h | h | h | h <;> subst h <;> simp [cum, len] <;> omega
theorem len_bd (y m : Int) : 28 ≤ len y m ∧ len y m ≤ 31 := by
  have := lp_01 y
  unfold len; split
  · omega
  · split <;> omega
theorem cum_13 (y : Int) : cum y 13 = 365 + lp y := by simp [cum]
theorem cum_mono_aux (y : Int) (k : Nat) : ∀ a : Int, 1 ≤ a → a + k ≤ 13 → cum y a ≤ cum y (a + k) := by
  induction k with
  | zero => intro a _ _; simp
  | succ k ih =>
    intro a h1 h2
    have := ih a h1 (by omega)
    have e := cum_succ y (a + k) (by omega) (by omega)
    have l := len_bd y (a + k)
    rw [show a + ((k + 1 : Nat) : Int) = a + k + 1 by omega, e]
    omega
theorem cum_mono (y : Int) {a b : Int} (h1 : 1 ≤ a) (h : a ≤ b) (h2 : b ≤ 13) : cum y a ≤ cum y b := by
  have := cum_mono_aux y (b - a).toNat a h1 (by omega)
  rwa [show a + ((b - a).toNat : Int) = b by omega] at this
theorem doy_bd {y m d : Int} (h1 : 1 ≤ m) (h2 : m ≤ 12) (h3 : 1 ≤ d) (h4 : d ≤ len y m) : 0 ≤ cum y m + d - 1 ∧ cum y m + d - 1 < 365 + lp y := by
  have a := cum_succ y m h1 h2
  have b := cum_mono y (a := m + 1) (b := 13) (by omega) (by omega) (by omega)
  have c := cum_mono y (a := 1) (b := m) (by omega) h1 (by omega)
  have e : cum y 1 = 0 := by simp [cum]
  rw [cum_13] at b
  omega
theorem dn_inj {y m d y' m' d' : Int} (h : ok y m d) (h' : ok y' m' d') (e : dn y m d = dn y' m' d') : y = y' ∧ m = m' ∧ d = d' := by
  obtain ⟨a1, a2, a3, a4, a5, a6⟩ := h
  obtain ⟨b1, b2, b3, b4, b5, b6⟩ := h'
  have da := doy_bd a3 a4 a5 a6
  have db := doy_bd b3 b4 b5 b6
  have sa := ahead_succ y
  have sb := ahead_succ y'
  unfold dn at e
  have ey : y = y' := by
    rcases Int.lt_trichotomy y y' with hl | hl | hl
    · have := ahead_mono (a := y + 1) (b := y') (by omega); omega
    · exact hl
    · have := ahead_mono (a := y' + 1) (b := y) (by omega); omega
  subst ey
  have sm := cum_succ y m a3 a4
  have sm' := cum_succ y m' b3 b4
  have em : m = m' := by
    rcases Int.lt_trichotomy m m' with hl | hl | hl
    · have := cum_mono y (a := m + 1) (b := m') (by omega) (by omega) (by omega); omega
    · exact hl
    · have := cum_mono y (a := m' + 1) (b := m) (by omega) (by omega) (by omega); omega
  subst em
  exact ⟨rfl, rfl, by omega⟩
theorem dn_range {y m d : Int} (h : ok y m d) : -719162 ≤ dn y m d ∧ dn y m d ≤ 2932896 := by
  obtain ⟨a1, a2, a3, a4, a5, a6⟩ := h
  have da := doy_bd a3 a4 a5 a6
  have sa := ahead_succ y
  have := ahead_mono (a := 1) (b := y) a1
  have := ahead_mono (a := y + 1) (b := 10000) (by omega)
  have e1 : ahead 1 = 0 := by decide
  have e2 : ahead 10000 = 3652059 := by decide
  unfold dn; omega

/-- the program's own reckoning of a day number -/
def pdays (y m d : Int) : Int :=
  let Y := if m - 3 < 0 then y - 1 else y
  let M := if m - 3 < 0 then m - 3 + 12 else m - 3
  (Y / 400) * 146097 + (Y % 400) * 365 + (Y % 400) / 4 - (Y % 400) / 100 + (153 * M + 2) / 5 + d - 1 - 719468
theorem pdays_core (Y c : Int) : (Y / 400) * 146097 + (Y % 400) * 365 + (Y % 400) / 4 - (Y % 400) / 100 + c = 365 * Y + Y / 4 - Y / 100 + Y / 400 + c := by omega
theorem pdays_eq {y m d : Int} (h3 : 1 ≤ m) (h4 : m ≤ 12) : pdays y m d = dn y m d := by
  have : m = 1 ∨ m = 2 ∨ m = 3 ∨ m = 4 ∨ m = 5 ∨ m = 6 ∨ m = 7 ∨ m = 8 ∨ m = 9 ∨ m = 10 ∨ m = 11 ∨ m = 12 := by omega
  have hs := ahead_succ y
  have e := pdays_core y 0
  have e' := pdays_core (y - 1) 0
  have ea : ahead y = 365 * (y - 1) + (y - 1) / 4 - (y - 1) / 100 + (y - 1) / 400 := rfl
  have eb : ahead (y + 1) = 365 * y + y / 4 - y / 100 + y / 400 := by unfold ahead; rw [show y + 1 - 1 = y by omega]
  rcases this with h | h | h | h | h | h | h | h | h | h | h | h <;> subst h <;> simp [pdays, dn, cum] <;> omega
/-- the program's date of a day number -/
def pdoy (n : Int) : Int := (n + 719468) % 146097
def pof (n : Int) : Int := let day := (n + 719468) % 146097; (day - day / 1460 + day / 36524 - day / 146096) / 365
def all (f : Nat → Bool) : Nat → Bool
  | 0 => true
  | n + 1 => f n && all f n
theorem all_of {f : Nat → Bool} {n : Nat} (h : all f n = true) : ∀ i, i < n → f i = true := by
  induction n with
  | zero => intro i hi; omega
  | succ n ih =>
    intro i hi
    unfold all at h
    rw [Bool.and_eq_true] at h
    by_cases e : i = n
    · subst e; exact h.1
    · exact ih h.2 i (by omega)
def ofC (day : Nat) : Nat → Bool
  | 0 => Nat.ble day 364
  | k + 1 => Nat.ble (Nat.add (Nat.mul 365 (k + 1)) (Nat.div (k + 1) 4)) (Nat.add day (Nat.div (k + 1) 100)) && Nat.ble (Nat.add day (Nat.add (Nat.div (k + 2) 100) 1)) (Nat.add (Nat.mul 365 (k + 2)) (Nat.add (Nat.div (k + 2) 4) (Nat.div (k + 2) 400))) && Nat.ble k 398
def ofB (day : Nat) : Bool :=
  Nat.ble 146097 day || ofC day (Nat.div (Nat.sub (Nat.sub (Nat.add day (Nat.div day 36524)) (Nat.div day 1460)) (Nat.div day 146096)) 365)
theorem ofB_all : all (fun q => all (fun r => ofB (q * 1461 + r)) 1461) 100 = true := by decide +kernel
theorem of_core (day : Int) (h0 : 0 ≤ day) (h1 : day ≤ 146096) : 
    0 ≤ (day - day / 1460 + day / 36524 - day / 146096) / 365 ∧ (day - day / 1460 + day / 36524 - day / 146096) / 365 ≤ 399 ∧
    365 * ((day - day / 1460 + day / 36524 - day / 146096) / 365) + ((day - day / 1460 + day / 36524 - day / 146096) / 365) / 4 - ((day - day / 1460 + day / 36524 - day / 146096) / 365) / 100 ≤ day ∧
    day < 365 * ((day - day / 1460 + day / 36524 - day / 146096) / 365 + 1) + ((day - day / 1460 + day / 36524 - day / 146096) / 365 + 1) / 4 - ((day - day / 1460 + day / 36524 - day / 146096) / 365 + 1) / 100 + ((day - day / 1460 + day / 36524 - day / 146096) / 365 + 1) / 400 := by
  obtain ⟨n, rfl⟩ := Int.eq_ofNat_of_zero_le h0
  have h := all_of (all_of ofB_all (n / 1461) (by omega)) (n % 1461) (by omega)
  rw [show n / 1461 * 1461 + n % 1461 = n by omega] at h
  have e : ((n : Int) - n / 1460 + n / 36524 - n / 146096) / 365 = (((n + n / 36524 - n / 1460 - n / 146096) / 365 : Nat) : Int) := by
    have : n / 1460 + n / 146096 ≤ n + n / 36524 := by omega
    omega
  rw [e]
  rw [show ofB n = (Nat.ble 146097 n || ofC n ((n + n / 36524 - n / 1460 - n / 146096) / 365)) from rfl, Bool.or_eq_true] at h
  generalize (n + n / 36524 - n / 1460 - n / 146096) / 365 = g at h
  clear e
  rcases h with h | h
  · rw [Nat.ble_eq] at h; omega
  · cases g with
    | zero => unfold ofC at h; rw [Nat.ble_eq] at h; omega
    | succ k =>
      unfold ofC at h
      have hd : ∀ a b, Nat.div a b = a / b := fun _ _ => rfl
      simp only [Bool.and_eq_true, Nat.ble_eq, Nat.add_eq, Nat.mul_eq, hd] at h
      clear hd
      obtain ⟨m, hm⟩ : ∃ m, m = k + 2 := ⟨_, rfl⟩
      rw [← hm] at h
      rw [show ((k + 1 : Nat) : Int) + 1 = (m : Int) by omega]
      omega
/-- the program's own date of a day number: its year counted from March on, that year's day, the month from March on -/
def ofE (n : Int) : Int := (n + 719468) / 146097
def ofday (n : Int) : Int := (n + 719468) % 146097
def ofof (n : Int) : Int := (ofday n - ofday n / 1460 + ofday n / 36524 - ofday n / 146096) / 365
def ofdoy (n : Int) : Int := ofday n - (365 * ofof n + ofof n / 4 - ofof n / 100)
def ofmp (n : Int) : Int := (5 * ofdoy n + 2) / 153
def ofY (n : Int) : Int := if 12 < ofmp n + 3 then ofE n * 400 + ofof n + 1 else ofE n * 400 + ofof n
def ofM (n : Int) : Int := if 12 < ofmp n + 3 then ofmp n + 3 - 12 else ofmp n + 3
def ofD (n : Int) : Int := ofdoy n - (153 * ofmp n + 2) / 5 + 1
theorem ok_of_range {y m d : Int} (h1 : 1 ≤ m) (h2 : m ≤ 12) (h3 : 1 ≤ d) (h4 : d ≤ len y m) (h5 : -719162 ≤ dn y m d) (h6 : dn y m d ≤ 2932896) : ok y m d := by
  have da := doy_bd h1 h2 h3 h4
  have sa := ahead_succ y
  have e1 : ahead 1 = 0 := by decide
  have e2 : ahead 10000 = 3652059 := by decide
  unfold dn at h5 h6
  refine ⟨?_, ?_, h1, h2, h3, h4⟩
  · rcases (by omega : y < 1 ∨ 1 ≤ y) with h | h
    · have := ahead_mono (a := y + 1) (b := 1) (by omega); omega
    · exact h
  · rcases (by omega : 9999 < y ∨ y ≤ 9999) with h | h
    · have := ahead_mono (a := 10000) (b := y) (by omega); omega
    · exact h
theorem aheadE (E o : Int) : ahead (E * 400 + o + 1) = E * 146097 + (365 * o + o / 4 - o / 100 + o / 400) := by
  unfold ahead
  have a : (E * 400 + o + 1 - 1) / 4 = E * 100 + o / 4 := by omega
  have b : (E * 400 + o + 1 - 1) / 100 = E * 4 + o / 100 := by omega
  have c : (E * 400 + o + 1 - 1) / 400 = E + o / 400 := by omega
  rw [a, b, c]; omega
theorem ofdoy_bd (n : Int) : 0 ≤ ofdoy n ∧ ofdoy n ≤ 364 + lp (ofE n * 400 + ofof n + 1) ∧ n = ahead (ofE n * 400 + ofof n + 1) + ofdoy n - 719468 ∧ 0 ≤ ofof n ∧ ofof n ≤ 399 := by
  have hd : 0 ≤ ofday n ∧ ofday n ≤ 146096 := by unfold ofday; omega
  have h := of_core (ofday n) hd.1 hd.2
  have hn : n + 719468 = ofE n * 146097 + ofday n := by unfold ofE ofday; omega
  have e : ofdoy n = ofday n - (365 * ofof n + ofof n / 4 - ofof n / 100) := rfl
  rw [show (ofday n - ofday n / 1460 + ofday n / 36524 - ofday n / 146096) / 365 = ofof n from rfl] at h
  have es := ahead_succ (ofE n * 400 + ofof n + 1)
  generalize ofof n = o at *
  generalize ofE n = E at *
  generalize ofday n = q at *
  rw [e]
  have ea := aheadE E o
  have eb := aheadE E (o + 1)
  rw [show E * 400 + (o + 1) + 1 = E * 400 + o + 1 + 1 by omega] at eb
  omega
theorem of_ok {n : Int} (h1 : -719162 ≤ n) (h2 : n ≤ 2932896) : ok (ofY n) (ofM n) (ofD n) ∧ dn (ofY n) (ofM n) (ofD n) = n := by
  obtain ⟨a, b, c, -, -⟩ := ofdoy_bd n
  have hl := lp_01 (ofE n * 400 + ofof n + 1)
  have hs := ahead_succ (ofE n * 400 + ofof n)
  have hm : ofmp n = (5 * ofdoy n + 2) / 153 := rfl
  have key : (1 ≤ ofM n ∧ ofM n ≤ 12 ∧ 1 ≤ ofD n ∧ ofD n ≤ len (ofY n) (ofM n)) ∧ dn (ofY n) (ofM n) (ofD n) = n := by
    have : ofmp n = 0 ∨ ofmp n = 1 ∨ ofmp n = 2 ∨ ofmp n = 3 ∨ ofmp n = 4 ∨ ofmp n = 5 ∨ ofmp n = 6 ∨ ofmp n = 7 ∨ ofmp n = 8 ∨ ofmp n = 9 ∨ ofmp n = 10 ∨ ofmp n = 11 := by omega
    unfold ofM ofD ofY
    generalize ofE n * 400 + ofof n = y at *
    generalize ofdoy n = q at *
    rcases this with h | h | h | h | h | h | h | h | h | h | h | h <;> rw [h] at hm ⊢ <;> simp [len, dn, cum] <;> omega
  obtain ⟨⟨k1, k2, k3, k4⟩, k5⟩ := key
  exact ⟨ok_of_range k1 k2 k3 k4 (by omega) (by omega), k5⟩
/-- a month's length, and the error -/
def lenE (y m : Int) : Int × Int := if 1 ≤ y ∧ y ≤ 9999 ∧ 1 ≤ m ∧ m ≤ 12 then (len y m, 0) else (0, 5)
/-- dates compared -/
def cmp (y m d y' m' d' : Int) : Int := if y < y' then -1 else if y' < y then 1 else if m < m' then -1 else if m' < m then 1 else if d < d' then -1 else if d' < d then 1 else 0
def dig (n : Int) : UInt8 := UInt8.ofNat (48 + n % 10).toNat
/-- a date as a text -/
def text (y m d : Int) : ByteArray := ⟨#[dig (y / 1000), dig (y / 100), dig (y / 10), dig y, 45, dig (m / 10), dig m, 45, dig (d / 10), dig d]⟩
def textE (y m d : Int) : ByteArray × Int := if ok y m d then (text y m d, 0) else (⟨#[]⟩, 5)
/-- the w-th weekday d of a month (5: the last) -/
def nth (y m w d : Int) : Int :=
  if 1 + (d - (dn y m 1 + 719162) % 7 + 7) % 7 + 7 * (w - 1) > len y m then 1 + (d - (dn y m 1 + 719162) % 7 + 7) % 7 + 7 * (w - 1) - 7 else 1 + (d - (dn y m 1 + 719162) % 7 + 7) % 7 + 7 * (w - 1)
theorem dn_day (y m d : Int) : dn y m d = dn y m 1 + d - 1 := by unfold dn; omega
theorem nth_ok {y m w d : Int} (_c : 1 ≤ y ∧ y ≤ 9999 ∧ 1 ≤ m ∧ m ≤ 12) (h1 : 1 ≤ w) (h2 : w ≤ 5) (h3 : 0 ≤ d) (h4 : d ≤ 6) :
    1 ≤ nth y m w d ∧ nth y m w d ≤ len y m ∧ (dn y m (nth y m w d) + 719162) % 7 = d ∧ (w = 5 → nth y m w d + 7 > len y m) ∧ (w ≠ 5 → (nth y m w d + 6) / 7 = w) := by
  have l := len_bd y m
  rw [dn_day]
  unfold nth
  generalize dn y m 1 = b at *
  split <;> omega
end Go.Proofs.Ytegedhnbmclbkaa.Civ
