/- The stable sort of whole numbers by a key, in plain terms: insertion sort of blocks, rotation, symmetric merge. No program in sight. -/
import Derived.Sort.LotA
namespace Go.Proofs.Ythhifeefkmaeiaa.Stb
open Go.Sort
def ltK (key : Int → Int) (x y : Int) : Bool := decide (key y < key x)
/-- greater key first; of equal keys the smaller number first -/
def ltT (key : Int → Int) (x y : Int) : Bool := decide (key y < key x ∨ (key x = key y ∧ x < y))
theorem swo_T (key : Int → Int) : SWO (ltT key) where
  irrefl x := by simp [ltT]
  trans x y z h1 h2 := by simp only [ltT, decide_eq_true_eq] at *; omega
  ntrans x y z h1 h2 := by simp only [ltT, decide_eq_false_iff_not] at *; omega
theorem ltK_T (key : Int → Int) {x y : Int} (h : y < x) : ltK key x y = ltT key x y := by
  unfold ltK ltT; exact decide_eq_decide.2 (by omega)
variable {key : Int → Int}
theorem T_trans {x y z : Int} (h1 : ltT key x y = true) (h2 : ltT key y z = true) : ltT key x z = true := (swo_T key).trans _ _ _ h1 h2
/-- x is not behind y -/
theorem le_trans {x y z : Int} (h1 : ltT key y x = false) (h2 : ltT key z y = false) : ltT key z x = false := (swo_T key).ntrans _ _ _ h2 h1
theorem le_of_lt {x y : Int} (h : ltT key x y = true) : ltT key y x = false := by
  simp only [ltT, decide_eq_true_eq, decide_eq_false_iff_not] at *; omega
theorem le_lt {x y z : Int} (h1 : ltT key y x = false) (h2 : ltT key y z = true) : ltT key x z = true := by
  simp only [ltT, decide_eq_true_eq, decide_eq_false_iff_not] at *; omega
theorem lt_le {x y z : Int} (h1 : ltT key x y = true) (h2 : ltT key z y = false) : ltT key x z = true := by
  simp only [ltT, decide_eq_true_eq, decide_eq_false_iff_not] at *; omega
theorem lt_of_not {x y : Int} (h : ltT key y x = false) (hne : x ≠ y) : ltT key x y = true := by
  simp only [ltT, decide_eq_true_eq, decide_eq_false_iff_not] at *; omega
theorem srt_le {d : Array Int} {a b i j : Nat} (h : SortedIn (ltT key) a b d) (h1 : a ≤ i) (h2 : i ≤ j) (h3 : j < b) : ltT key d[j]! d[i]! = false := by
  rcases Nat.lt_or_eq_of_le h2 with h | h
  · exact ‹SortedIn _ _ _ _› i j h1 h h3
  · subst h; exact (swo_T key).irrefl _

/-! ### insertion sort -/
theorem insInner_T (a : Nat) : ∀ (j : Nat) (d : Array Int), j < d.size → (∀ t, t < j → a ≤ t → d[t]! < d[j]!) → insInner (ltK key) a j d = insInner (ltT key) a j d := by
  intro j
  induction j with
  | zero => intro d _ _; rfl
  | succ j ih =>
    intro d hs hd
    unfold insInner
    by_cases ha : j + 1 > a
    · have e : ltK key d[j + 1]! d[j]! = ltT key d[j + 1]! d[j]! := ltK_T key (hd j (by omega) (by omega))
      rw [e]
      split
      · refine ih _ (by rw [size_swp]; omega) (fun t ht hat => ?_)
        rw [swp_other _ _ _ _ (by omega) (by omega), swp_right _ _ _ (by omega)]
        exact hd t (by omega) hat
      · rfl
    · simp [ha]
theorem insOuter_T (a b : Nat) : ∀ (n i : Nat) (d : Array Int), b - i = n → a < i → b ≤ d.size → (∀ s t, a ≤ s → s < t → i ≤ t → t < b → d[s]! < d[t]!) → SortedIn (ltT key) a i d →
    insOuter (ltK key) a b i d = insOuter (ltT key) a b i d := by
  intro n
  induction n with
  | zero => intro i d hn _ _ _ _; rw [insOuter, if_neg (by omega), insOuter, if_neg (by omega)]
  | succ n ih =>
    intro i d hn hai hb hd hS
    rw [insOuter, if_pos (by omega), insInner_T a i d (by omega) (fun t ht hat => hd t i hat ht (Nat.le_refl _) (by omega))]
    conv => rhs; rw [insOuter, if_pos (show i < b by omega)]
    have hsp := insInner_spec (swo_T key) swp_permIn permIn_refl permIn_trans a (i + 1) i (by omega) i d (by omega) (Nat.le_refl _) (by omega) ⟨fun p q hap hpq hqi _ hq => hS p q hap hpq (by omega), fun q h1 h2 => by omega⟩
    refine ih (i + 1) _ (by omega) (by omega) (by rw [hsp.1.1]; exact hb) (fun s t has hst hit htb => ?_) hsp.2
    rw [hsp.1.2.1 t (by omega)]
    by_cases hs : s < i + 1
    · exact permIn_all d _ a (i + 1) (fun x => x < d[t]!) (by omega) hsp.1 (fun k h1 h2 => hd k t h1 (by omega) (by omega) htb) s has hs
    · rw [hsp.1.2.1 s (by omega)]; exact hd s t has hst (by omega) htb
theorem insertionSort_T (d : Array Int) (a b : Nat) (hab : a ≤ b) (hb : b ≤ d.size) (hd : ∀ s t, a ≤ s → s < t → t < b → d[s]! < d[t]!) :
    PermIn a b d (insertionSort (ltK key) d a b) ∧ SortedIn (ltT key) a b (insertionSort (ltK key) d a b) := by
  have e : insertionSort (ltK key) d a b = insertionSort (ltT key) d a b := by
    unfold insertionSort
    exact insOuter_T a b _ (a + 1) d rfl (by omega) hb (fun s t h1 h2 _ h4 => hd s t h1 h2 h4) (fun i j h1 h2 h3 => by omega)
  rw [e]; exact insertionSort_holds (swo_T key) d a b hab hb
/-! ### rotation -/
def swr (f : Nat → Int) (a b n t : Nat) : Int := if a ≤ t ∧ t < a + n then f (b + (t - a)) else if b ≤ t ∧ t < b + n then f (a + (t - b)) else f t
def rot (f : Nat → Int) (a m b t : Nat) : Int := if a ≤ t ∧ t < a + (b - m) then f (t + (m - a)) else if a + (b - m) ≤ t ∧ t < b then f (t - (b - m)) else f t
theorem fcong {f : Nat → Int} {s t : Nat} (h : s = t) : f s = f t := by rw [h]
theorem rot_left (f : Nat → Int) (m i j t : Nat) (h : j < i) (hm : i ≤ m) (hj : 0 < j) : rot (swr f (m - i) m j) (m - (i - j)) m (m + j) t = rot f (m - i) m (m + j) t := by
  unfold rot swr
  (repeat' split) <;> first | omega | (apply fcong; omega)
theorem rot_right (f : Nat → Int) (m i j t : Nat) (h : i < j) (hm : i ≤ m) (hj : 0 < i) : rot (swr f (m - i) (m + j - i) i) (m - i) m (m + (j - i)) t = rot f (m - i) m (m + j) t := by
  unfold rot swr
  (repeat' split) <;> first | omega | (apply fcong; omega)
theorem rot_last (f : Nat → Int) (m i t : Nat) (hm : i ≤ m) : swr f (m - i) m i t = rot f (m - i) m (m + i) t := by
  unfold rot swr
  (repeat' split) <;> first | omega | (apply fcong; omega)
theorem swr_zero (f : Nat → Int) (a b t : Nat) : swr f a b 0 t = f t := by
  unfold swr; rw [if_neg (by omega), if_neg (by omega)]
theorem swr_succ (d0 d : Array Int) (a b n : Nat) (hab : a + n < b) (hb : b + n < d.size) (hd : ∀ t, d[t]! = swr (fun t => d0[t]!) a b n t) (t : Nat) :
    (swp d (a + n) (b + n))[t]! = swr (fun t => d0[t]!) a b (n + 1) t := by
  rw [swp_get d (by omega) (by omega)]
  rw [hd (b + n), hd (a + n), hd t]
  unfold swr
  (repeat' split) <;> first | omega | (apply fcong (f := fun t => d0[t]!); omega)
/-! ### the symmetric merge -/
def Apart (a m b : Nat) (d : Array Int) : Prop := ∀ i j, a ≤ i → i < m → m ≤ j → j < b → d[i]! < d[j]!
theorem ap_K {a m b i j : Nat} {d : Array Int} (h : Apart a m b d) (h1 : a ≤ i) (h2 : i < m) (h3 : m ≤ j) (h4 : j < b) : ltK key d[j]! d[i]! = ltT key d[j]! d[i]! := ltK_T key (h i j h1 h2 h3 h4)
section
variable {a m b : Nat} {d : Array Int}
/-- one number ahead of a run: how far it goes -/
theorem one_up (hS : SortedIn (ltT key) m b d) (hA : Apart a m b d) (ham : a < m) {h : Nat} (hh : h < b) (hl : ltK key d[h]! d[a]! = true) : ∀ t, m ≤ t → t < h + 1 → ltK key d[t]! d[a]! = true := by
  intro t h1 h2
  rw [ap_K hA (Nat.le_refl _) ham (by omega) hh] at hl
  rw [ap_K hA (Nat.le_refl _) ham h1 (by omega)]
  exact le_lt (srt_le hS h1 (by omega) hh) hl
theorem one_dn (hS : SortedIn (ltT key) m b d) (hA : Apart a m b d) (ham : a < m) {h : Nat} (hm : m ≤ h) (hh : h < b) (hl : ltK key d[h]! d[a]! = false) : ∀ t, h ≤ t → t < b → ltK key d[t]! d[a]! = false := by
  intro t h1 h2
  rw [ap_K hA (Nat.le_refl _) ham hm hh] at hl
  rw [ap_K hA (Nat.le_refl _) ham (by omega) h2]
  exact le_trans hl (srt_le hS hm h1 h2)
def mvu (f : Nat → Int) (a k t : Nat) : Int := if a ≤ t ∧ t < k then f (t + 1) else if t = k then f a else f t
theorem mvu_zero (f : Nat → Int) (a t : Nat) : mvu f a a t = f t := by
  unfold mvu; (repeat' split) <;> first | omega | (apply fcong; omega)
theorem mvu_succ (d0 d : Array Int) (a k : Nat) (hak : a ≤ k) (hk : k + 1 < d.size) (hd : ∀ t, d[t]! = mvu (fun t => d0[t]!) a k t) (t : Nat) : (swp d k (k + 1))[t]! = mvu (fun t => d0[t]!) a (k + 1) t := by
  rw [swp_get d (by omega) hk, hd k, hd (k + 1), hd t]
  unfold mvu
  (repeat' split) <;> first | omega | (apply fcong (f := fun t => d0[t]!); omega)
theorem one_done {d' : Array Int} {i : Nat} (hS : SortedIn (ltT key) (a + 1) b d) (hA : Apart a (a + 1) b d) (hi : a + 1 ≤ i) (hib : i ≤ b) (h1 : ∀ t, a + 1 ≤ t → t < i → ltK key d[t]! d[a]! = true) (h2 : ∀ t, i ≤ t → t < b → ltK key d[t]! d[a]! = false)
    (hd : ∀ t, d'[t]! = mvu (fun t => d[t]!) a (i - 1) t) : SortedIn (ltT key) a b d' := by
  intro p q hp hpq hq
  rw [hd p, hd q]
  have k1 : ∀ t, a + 1 ≤ t → t < i → ltT key d[a]! d[t]! = false := fun t ht ht' => by
    have := h1 t ht ht'; rw [ap_K hA (Nat.le_refl _) (by omega) ht (by omega)] at this; exact le_of_lt this
  have k2 : ∀ t, i ≤ t → t < b → ltT key d[t]! d[a]! = false := fun t ht ht' => by
    have := h2 t ht ht'; rwa [ap_K hA (Nat.le_refl _) (by omega) (by omega) ht'] at this
  unfold mvu
  by_cases c1 : p < i - 1
  · rw [if_pos (show a ≤ p ∧ p < i - 1 from ⟨hp, c1⟩)]
    by_cases c2 : q < i - 1
    · rw [if_pos (show a ≤ q ∧ q < i - 1 by omega)]; exact hS _ _ (by omega) (by omega) (by omega)
    · rw [if_neg (show ¬ (a ≤ q ∧ q < i - 1) by omega)]
      by_cases c3 : q = i - 1
      · rw [if_pos c3]; exact k1 _ (by omega) (by omega)
      · rw [if_neg c3]; exact hS _ _ (by omega) (by omega) (by omega)
  · rw [if_neg (show ¬ (a ≤ p ∧ p < i - 1) by omega), if_neg (show ¬ (a ≤ q ∧ q < i - 1) by omega), if_neg (show ¬ q = i - 1 by omega)]
    by_cases c3 : p = i - 1
    · rw [if_pos c3]; exact k2 _ (by omega) hq
    · rw [if_neg c3]; exact hS _ _ (by omega) (by omega) (by omega)
/-- one number behind a run -/
theorem last_dn (hS : SortedIn (ltT key) a m d) (hA : Apart a m b d) (hmb : m < b) {h : Nat} (hh : h < m) (ha : a ≤ h) (hl : ltK key d[m]! d[h]! = false) : ∀ t, a ≤ t → t < h + 1 → ltK key d[m]! d[t]! = false := by
  intro t h1 h2
  rw [ap_K hA ha hh (Nat.le_refl _) hmb] at hl
  rw [ap_K hA h1 (by omega) (Nat.le_refl _) hmb]
  exact le_trans (srt_le hS h1 (by omega) hh) hl
theorem last_up (hS : SortedIn (ltT key) a m d) (hA : Apart a m b d) (hmb : m < b) {h : Nat} (hh : h < m) (ha : a ≤ h) (hl : ltK key d[m]! d[h]! = true) : ∀ t, h ≤ t → t < m → ltK key d[m]! d[t]! = true := by
  intro t h1 h2
  rw [ap_K hA ha hh (Nat.le_refl _) hmb] at hl
  rw [ap_K hA (by omega) h2 (Nat.le_refl _) hmb]
  exact lt_le hl (srt_le hS ha h1 h2)
def mvd (f : Nat → Int) (m k t : Nat) : Int := if t = k then f m else if k < t ∧ t ≤ m then f (t - 1) else f t
theorem mvd_zero (f : Nat → Int) (m t : Nat) : mvd f m m t = f t := by
  unfold mvd; (repeat' split) <;> first | omega | (apply fcong; omega)
theorem mvd_succ (d0 d : Array Int) (m k : Nat) (hkm : k + 1 ≤ m) (hm : m < d.size) (hd : ∀ t, d[t]! = mvd (fun t => d0[t]!) m (k + 1) t) (t : Nat) : (swp d (k + 1) k)[t]! = mvd (fun t => d0[t]!) m k t := by
  rw [swp_get d (by omega) (by omega), hd k, hd (k + 1), hd t]
  unfold mvd
  (repeat' split) <;> first | omega | (apply fcong (f := fun t => d0[t]!); omega)
theorem last_done {d' : Array Int} {i : Nat} (hS : SortedIn (ltT key) a m d) (hA : Apart a m (m + 1) d) (hi : a ≤ i) (him : i ≤ m) (h1 : ∀ t, a ≤ t → t < i → ltK key d[m]! d[t]! = false) (h2 : ∀ t, i ≤ t → t < m → ltK key d[m]! d[t]! = true)
    (hd : ∀ t, d'[t]! = mvd (fun t => d[t]!) m i t) : SortedIn (ltT key) a (m + 1) d' := by
  intro p q hp hpq hq
  rw [hd p, hd q]
  have k1 : ∀ t, a ≤ t → t < i → ltT key d[m]! d[t]! = false := fun t ht ht' => by
    have := h1 t ht ht'; rwa [ap_K hA ht (by omega) (Nat.le_refl _) (by omega)] at this
  have k2 : ∀ t, i ≤ t → t < m → ltT key d[t]! d[m]! = false := fun t ht ht' => by
    have := h2 t ht ht'; rw [ap_K hA (by omega) ht' (Nat.le_refl _) (by omega)] at this; exact le_of_lt this
  unfold mvd
  by_cases c1 : p < i
  · rw [if_neg (show ¬ p = i by omega), if_neg (show ¬ (i < p ∧ p ≤ m) by omega)]
    by_cases c2 : q = i
    · rw [if_pos c2]; exact k1 _ hp c1
    · rw [if_neg c2]
      by_cases c3 : i < q ∧ q ≤ m
      · rw [if_pos c3]; exact srt_le hS hp (by omega) (by omega)
      · rw [if_neg c3]; exact hS _ _ hp hpq (by omega)
  · rw [if_neg (show ¬ q = i by omega), if_pos (show i < q ∧ q ≤ m by omega)]
    by_cases c2 : p = i
    · rw [if_pos c2]; exact k2 _ (by omega) (by omega)
    · rw [if_neg c2, if_pos (show i < p ∧ p ≤ m by omega)]; exact hS _ _ (by omega) (by omega) (by omega)
/-- the search for the place to turn about -/
theorem gen_dn (h1 : SortedIn (ltT key) a m d) (h2 : SortedIn (ltT key) m b d) (hA : Apart a m b d) {p c : Nat} (hc : a ≤ c ∧ c < m ∧ m ≤ p - c ∧ p - c < b) (hl : ltK key d[p - c]! d[c]! = false)
    {c' : Nat} (hcc : c' ≤ c) (hc' : a ≤ c' ∧ c' < m ∧ m ≤ p - c' ∧ p - c' < b) : ltK key d[p - c']! d[c']! = false := by
  rw [ap_K hA hc.1 hc.2.1 hc.2.2.1 hc.2.2.2] at hl
  rw [ap_K hA hc'.1 hc'.2.1 hc'.2.2.1 hc'.2.2.2]
  exact le_trans (le_trans (srt_le h1 hc'.1 hcc hc.2.1) hl) (srt_le h2 hc.2.2.1 (by omega) hc'.2.2.2)
theorem gen_up (h1 : SortedIn (ltT key) a m d) (h2 : SortedIn (ltT key) m b d) (hA : Apart a m b d) {p c : Nat} (hc : a ≤ c ∧ c < m ∧ m ≤ p - c ∧ p - c < b) (hl : ltK key d[p - c]! d[c]! = true)
    {c' : Nat} (hcc : c ≤ c') (hc' : a ≤ c' ∧ c' < m ∧ m ≤ p - c' ∧ p - c' < b) : ltK key d[p - c']! d[c']! = true := by
  rw [ap_K hA hc.1 hc.2.1 hc.2.2.1 hc.2.2.2] at hl
  rw [ap_K hA hc'.1 hc'.2.1 hc'.2.2.1 hc'.2.2.2]
  exact lt_le (le_lt (srt_le h2 hc'.2.2.1 (by omega) hc.2.2.2) hl) (srt_le h1 hc.1 hcc hc'.2.1)
/-- behind the turn: four runs, the first two not behind the last two -/
theorem gen_rot {d' : Array Int} {s e mid lo hi : Nat} (hmid : a + b - 1 ≤ 2 * mid ∧ 2 * mid ≤ a + b) (ham : a < m) (hmb : m < b)
    (h1 : SortedIn (ltT key) a m d) (h2 : SortedIn (ltT key) m b d) (hA : Apart a m b d)
    (hlh : (mid < m ∧ lo = mid + m - b ∧ hi = mid) ∨ (m ≤ mid ∧ lo = a ∧ hi = m)) (hs1 : lo ≤ s) (hs2 : s ≤ hi) (he : e + s = mid + m)
    (k1 : ∀ c, lo ≤ c → c < s → ltK key d[mid + m - 1 - c]! d[c]! = false) (k2 : ∀ c, s ≤ c → c < hi → ltK key d[mid + m - 1 - c]! d[c]! = true)
    (hd : ∀ t, d'[t]! = rot (fun t => d[t]!) s m e t) :
    SortedIn (ltT key) a s d' ∧ SortedIn (ltT key) s mid d' ∧ SortedIn (ltT key) mid e d' ∧ SortedIn (ltT key) e b d' ∧ Apart a s mid d' ∧ Apart mid e b d' ∧ (∀ i j, a ≤ i → i < mid → mid ≤ j → j < b → ltT key d'[j]! d'[i]! = false) := by
  have g1 : ∀ t, t < s → d'[t]! = d[t]! := fun t ht => by rw [hd]; unfold rot; rw [if_neg (by omega), if_neg (by omega)]
  have g2 : ∀ t, s ≤ t → t < mid → d'[t]! = d[t + (m - s)]! := fun t ht ht' => by rw [hd]; unfold rot; rw [if_pos (by omega)]
  have g3 : ∀ t, mid ≤ t → t < e → d'[t]! = d[t - (e - m)]! := fun t ht ht' => by rw [hd]; unfold rot; rw [if_neg (by omega), if_pos (by omega)]
  have g4 : ∀ t, e ≤ t → mid ≤ t → d'[t]! = d[t]! := fun t ht ht' => by rw [hd]; unfold rot; rw [if_neg (by omega), if_neg (by omega)]
  refine ⟨?_, ?_, ?_, ?_, ?_, ?_, ?_⟩
  · intro i j hi hij hj; rw [g1 i (by omega), g1 j (by omega)]; exact h1 _ _ hi hij (by omega)
  · intro i j hi hij hj; rw [g2 i hi (by omega), g2 j (by omega) hj]; exact h2 _ _ (by omega) (by omega) (by omega)
  · intro i j hi hij hj; rw [g3 i hi (by omega), g3 j (by omega) hj]; exact h1 _ _ (by omega) (by omega) (by omega)
  · intro i j hi hij hj; rw [g4 i hi (by omega), g4 j (by omega) (by omega)]; exact h2 _ _ (by omega) (by omega) (by omega)
  · intro i j hi his hj hj'; rw [g1 i his, g2 j hj hj']; exact hA _ _ hi (by omega) (by omega) (by omega)
  · intro i j hi his hj hj'; rw [g3 i hi his, g4 j hj (by omega)]; exact hA _ _ (by omega) (by omega) (by omega) hj'
  · intro i j hi him hj hjb
    by_cases ci : i < s
    · rw [g1 i ci]
      by_cases cj : j < e
      · rw [g3 j hj cj]; exact srt_le h1 hi (by omega) (by omega)
      · rw [g4 j (by omega) hj]
        have hk := k1 (s - 1) (by omega) (by omega)
        rw [ap_K hA (by omega) (by omega) (by omega) (by omega)] at hk
        exact le_trans (le_trans (srt_le h1 hi (show i ≤ s - 1 by omega) (by omega)) hk) (srt_le h2 (by omega) (by omega) hjb)
    · rw [g2 i (by omega) him]
      by_cases cj : j < e
      · rw [g3 j hj cj]
        have hk := k2 s (Nat.le_refl _) (by omega)
        rw [ap_K hA (by omega) (by omega) (by omega) (by omega)] at hk
        exact le_of_lt (lt_le (le_lt (srt_le h2 (by omega) (show i + (m - s) ≤ mid + m - 1 - s by omega) (by omega)) hk) (srt_le h1 (by omega) (by omega) (by omega)))
      · rw [g4 j (by omega) hj]; exact srt_le h2 (by omega) (by omega) hjb
theorem cross_l {d' : Array Int} {mid : Nat} (hb : mid ≤ d.size) (hP : PermIn a mid d d') (h : ∀ i j, a ≤ i → i < mid → mid ≤ j → j < b → ltT key d[j]! d[i]! = false) : ∀ i j, a ≤ i → i < mid → mid ≤ j → j < b → ltT key d'[j]! d'[i]! = false := by
  intro i j h1 h2 h3 h4
  rw [hP.2.1 j (by omega)]
  exact permIn_all d d' a mid (fun x => ltT key d[j]! x = false) hb hP (fun k k1 k2 => h k j k1 k2 h3 h4) i h1 h2
theorem cross_r {d' : Array Int} {mid : Nat} (hb : b ≤ d.size) (hP : PermIn mid b d d') (h : ∀ i j, a ≤ i → i < mid → mid ≤ j → j < b → ltT key d[j]! d[i]! = false) : ∀ i j, a ≤ i → i < mid → mid ≤ j → j < b → ltT key d'[j]! d'[i]! = false := by
  intro i j h1 h2 h3 h4
  rw [hP.2.1 i (by omega)]
  exact permIn_all d d' mid b (fun x => ltT key x d[i]! = false) hb hP (fun k k1 k2 => h i k h1 h2 k1 k2) j h3 h4
theorem srt_join {mid : Nat} (h1 : SortedIn (ltT key) a mid d) (h2 : SortedIn (ltT key) mid b d) (h : ∀ i j, a ≤ i → i < mid → mid ≤ j → j < b → ltT key d[j]! d[i]! = false) : SortedIn (ltT key) a b d := by
  intro i j hi hij hj
  by_cases c1 : j < mid
  · exact h1 i j hi hij c1
  · by_cases c2 : i < mid
    · exact h i j hi c2 (by omega) hj
    · exact h2 i j (by omega) hij hj
theorem srt_out {d' : Array Int} {u v : Nat} (hP : PermIn u v d d') (h : SortedIn (ltT key) a b d) (ho : b ≤ u ∨ v ≤ a) : SortedIn (ltT key) a b d' := by
  intro i j hi hij hj; rw [hP.2.1 i (by omega), hP.2.1 j (by omega)]; exact h i j hi hij hj
theorem ap_out {d' : Array Int} {u v : Nat} (hP : PermIn u v d d') (h : Apart a m b d) (ho : b ≤ u ∨ v ≤ a) : Apart a m b d' := by
  intro i j hi him hj hjb; rw [hP.2.1 i (by omega), hP.2.1 j (by omega)]; exact h i j hi him hj hjb
/-- a run that is sorted, and holds numbers of its own places alone -/
def Sg (key : Int → Int) (lo hi : Nat) (d : Array Int) : Prop := SortedIn (ltT key) lo hi d ∧ ∀ t, lo ≤ t → t < hi → (lo : Int) ≤ d[t]! ∧ d[t]! < hi
theorem Sg.apart (h1 : Sg key a m d) (h2 : Sg key m b d) : Apart a m b d := fun i j hi him hj hjb => by
  have := h1.2 i hi him; have := h2.2 j hj hjb; omega
theorem Sg.out {d' : Array Int} {u v : Nat} (hP : PermIn u v d d') (h : Sg key a b d) (ho : b ≤ u ∨ v ≤ a) : Sg key a b d' :=
  ⟨srt_out hP h.1 ho, fun t h1 h2 => by rw [hP.2.1 t (by omega)]; exact h.2 t h1 h2⟩
theorem Sg.merge {d' : Array Int} (h1 : Sg key a m d) (h2 : Sg key m b d) (ham : a ≤ m) (hmb : m ≤ b) (hb : b ≤ d.size) (hP : PermIn a b d d') (hS : SortedIn (ltT key) a b d') : Sg key a b d' :=
  ⟨hS, permIn_all d d' a b (fun x => (a : Int) ≤ x ∧ x < b) hb hP (fun t k1 k2 => by
    by_cases c : t < m
    · have := h1.2 t k1 c; omega
    · have := h2.2 t (by omega) k2; omega)⟩
end
end Go.Proofs.Ythhifeefkmaeiaa.Stb
