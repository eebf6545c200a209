/- Time zones in plain arithmetic: when daylight time is on, in seconds of standard local time. No program in sight. -/
import Derived.Test.YtkggjjggcbcdiaaEas
namespace Go.Proofs.Ytkggjjggcbcdiaa.Civ
/-- a zone: its offset, its shift, the rule of the beginning, the rule of the end -/
structure Zn where
  o : Int
  s : Int
  m1 : Int
  w1 : Int
  d1 : Int
  t1 : Int
  m2 : Int
  w2 : Int
  d2 : Int
  t2 : Int
def rok (m w d t : Int) : Prop := 1 ≤ m ∧ m ≤ 12 ∧ 1 ≤ w ∧ w ≤ 5 ∧ 0 ≤ d ∧ d ≤ 6 ∧ 60 ≤ t ∧ t ≤ 1380
instance (m w d t : Int) : Decidable (rok m w d t) := by unfold rok; infer_instance
def zok (z : Zn) : Prop := -720 ≤ z.o ∧ z.o ≤ 840 ∧ z.o % 15 = 0 ∧ (z.s = 0 ∨ ((z.s = 30 ∨ z.s = 60) ∧ rok z.m1 z.w1 z.d1 z.t1 ∧ rok z.m2 z.w2 z.d2 z.t2 ∧ z.m1 ≠ z.m2))
instance (z : Zn) : Decidable (zok z) := by unfold zok; infer_instance
/-- the day number of a rule's day in a year -/
def rday (y m w d : Int) : Int := dn y m (nth y m w d)
/-- when daylight time begins and ends in a year, by standard local time -/
def BL (z : Zn) (y : Int) : Int := rday y z.m1 z.w1 z.d1 * 86400 + 60 * z.t1
def FL (z : Zn) (y : Int) : Int := rday y z.m2 z.w2 z.d2 * 86400 + 60 * (z.t2 - z.s)
/-- daylight time in a year -/
def dlY (z : Zn) (y L : Int) : Prop := z.s ≠ 0 ∧ ((BL z y < FL z y ∧ BL z y ≤ L ∧ L < FL z y) ∨ (FL z y < BL z y ∧ (L < FL z y ∨ BL z y ≤ L)))
instance (z : Zn) (y L : Int) : Decidable (dlY z y L) := by unfold dlY; infer_instance
def dl (z : Zn) (L : Int) : Prop := dlY z (ofY (L / 86400)) L
instance (z : Zn) (L : Int) : Decidable (dl z L) := by unfold dl; infer_instance
def inr (n : Int) : Prop := -719162 ≤ n ∧ n ≤ 2932896
instance (n : Int) : Decidable (inr n) := by unfold inr; infer_instance
theorem rday_bd {y m w d t : Int} (hy : 1 ≤ y ∧ y ≤ 9999) (h : rok m w d t) : ahead y ≤ rday y m w d + 719162 ∧ rday y m w d + 719162 < ahead (y + 1) := by
  obtain ⟨h1, h2, h3, h4, h5, h6, h7, h8⟩ := h
  obtain ⟨n1, n2, n3, n4, n5⟩ := nth_ok (y := y) (m := m) (w := w) (d := d) ⟨hy.1, hy.2, h1, h2⟩ h3 h4 h5 h6
  have b := doy_bd (y := y) h1 h2 n1 n2
  have s := ahead_succ y
  unfold rday dn
  omega
theorem rday_lt {y m w d t m' w' d' t' : Int} (hy : 1 ≤ y ∧ y ≤ 9999) (h : rok m w d t) (h' : rok m' w' d' t') (c : m < m') : rday y m w d + 1 ≤ rday y m' w' d' := by
  obtain ⟨h1, h2, h3, h4, h5, h6, h7, h8⟩ := h
  obtain ⟨g1, g2, g3, g4, g5, g6, g7, g8⟩ := h'
  obtain ⟨n1, n2, n3, n4, n5⟩ := nth_ok (y := y) (m := m) (w := w) (d := d) ⟨hy.1, hy.2, h1, h2⟩ h3 h4 h5 h6
  obtain ⟨k1, k2, k3, k4, k5⟩ := nth_ok (y := y) (m := m') (w := w') (d := d') ⟨hy.1, hy.2, g1, g2⟩ g3 g4 g5 g6
  have e := cum_succ y m h1 h2
  have b := cum_mono y (a := m + 1) (b := m') (by omega) (by omega) (by omega)
  unfold rday dn
  omega
/-- what a year's turns satisfy -/
theorem turns_bd {z : Zn} {y : Int} (hy : 1 ≤ y ∧ y ≤ 9999) (h : zok z) (hs : z.s ≠ 0) :
    (∃ N1 N2, BL z y = N1 * 86400 + 60 * z.t1 ∧ FL z y = N2 * 86400 + 60 * (z.t2 - z.s) ∧ ahead y ≤ N1 + 719162 ∧ N1 + 719162 < ahead (y + 1) ∧ ahead y ≤ N2 + 719162 ∧ N2 + 719162 < ahead (y + 1)) ∧
    (60 ≤ z.t1 ∧ z.t1 ≤ 1380 ∧ 60 ≤ z.t2 ∧ z.t2 ≤ 1380 ∧ 30 ≤ z.s ∧ z.s ≤ 60) ∧ ((z.m1 < z.m2 ∧ BL z y < FL z y) ∨ (z.m2 < z.m1 ∧ FL z y < BL z y)) := by
  obtain ⟨a1, a2, a3, a4⟩ := h
  obtain a4 | ⟨a4, r1, r2, a5⟩ := a4
  · exact absurd a4 hs
  have b1 := rday_bd hy r1
  have b2 := rday_bd hy r2
  refine ⟨⟨_, _, rfl, rfl, b1.1, b1.2, b2.1, b2.2⟩, ?_, ?_⟩
  · obtain ⟨_, _, _, _, _, _, _, _⟩ := r1
    obtain ⟨_, _, _, _, _, _, _, _⟩ := r2
    omega
  · have q1 := r1.2.2.2.2.2.2
    have q2 := r2.2.2.2.2.2.2
    unfold BL FL
    by_cases c : z.m1 < z.m2
    · have := rday_lt hy r1 r2 c
      exact .inl ⟨c, by omega⟩
    · have c' : z.m2 < z.m1 := by omega
      have := rday_lt hy r2 r1 c'
      exact .inr ⟨c', by omega⟩
theorem year_of {n : Int} (h : inr n) : 1 ≤ ofY n ∧ ofY n ≤ 9999 ∧ ahead (ofY n) ≤ n + 719162 ∧ n + 719162 < ahead (ofY n + 1) := by
  obtain ⟨o, e⟩ := of_ok h.1 h.2
  obtain ⟨o1, o2, o3, o4, o5, o6⟩ := o
  have b := doy_bd (y := ofY n) o3 o4 o5 o6
  have s := ahead_succ (ofY n)
  unfold dn at e
  omega
theorem year_uniq {y y' N : Int} (h1 : ahead y ≤ N) (h2 : N < ahead (y + 1)) (h3 : ahead y' ≤ N) (h4 : N < ahead (y' + 1)) : y = y' := by
  by_cases c : y < y'
  · have := ahead_mono (a := y + 1) (b := y') (by omega); omega
  · by_cases c' : y' < y
    · have := ahead_mono (a := y' + 1) (b := y) (by omega); omega
    · omega
/-- a day's year, and the next day's -/
theorem year_next {n : Int} (h : inr (n - 1)) (h' : inr n) : ofY n = ofY (n - 1) ∨ (ofY n = ofY (n - 1) + 1 ∧ ahead (ofY n) = n + 719162) := by
  obtain ⟨a1, a2, a3, a4⟩ := year_of h
  obtain ⟨b1, b2, b3, b4⟩ := year_of h'
  by_cases c : n + 719162 < ahead (ofY (n - 1) + 1)
  · exact .inl (year_uniq b3 b4 (by omega) c)
  · have e : n + 719162 = ahead (ofY (n - 1) + 1) := by omega
    have s := ahead_succ (ofY (n - 1) + 1)
    have l := lp_01 (ofY (n - 1) + 1)
    have q : ofY n = ofY (n - 1) + 1 := year_uniq b3 b4 (by omega) (by omega)
    exact .inr ⟨q, by rw [q]; omega⟩
/-- towards midnight daylight time does not begin -/
theorem dl_off {z : Zn} {n L L' : Int} (h : zok z) (h1 : inr (n - 1)) (h2 : inr n) (a : n * 86400 - 60 * z.s ≤ L) (b : L ≤ L') (c : L' ≤ n * 86400) (o : ¬ dl z L) : ¬ dl z L' := by
  by_cases hs : z.s = 0
  · intro x; exact x.1 hs
  by_cases e : L = L'
  · rw [← e]; exact o
  have hs2 : z.s ≤ 60 := by obtain ⟨_, _, _, q | q⟩ := h <;> omega
  have d1 : L / 86400 = n - 1 := by obtain ⟨_, _, _, q | q⟩ := h <;> omega
  obtain ⟨y1, y2, y3, y4⟩ := year_of h1
  obtain ⟨⟨N1, N2, e1, e2, p1, p2, p3, p4⟩, q, r⟩ := turns_bd (z := z) ⟨y1, y2⟩ h hs
  unfold dl at o ⊢
  rw [d1] at o
  unfold dlY at o ⊢
  by_cases f : L' < n * 86400
  · rw [show L' / 86400 = n - 1 by omega]
    omega
  · rw [show L' / 86400 = n by omega]
    obtain g | ⟨g, g2⟩ := year_next h1 h2
    · rw [g]
      omega
    · have g3 : ahead (ofY (n - 1) + 1) = ahead (ofY n) := by rw [g]
      obtain ⟨x1, x2, x3, x4⟩ := year_of h2
      obtain ⟨⟨M1, M2, f1, f2, u1, u2, u3, u4⟩, q', r'⟩ := turns_bd (z := z) ⟨x1, x2⟩ h hs
      omega
/-- towards midnight daylight time does not end, but on the very stroke -/
theorem dl_on {z : Zn} {n L L' : Int} (h : zok z) (h1 : inr (n - 1)) (a : n * 86400 - 60 * z.s ≤ L) (b : L ≤ L') (c : L' < n * 86400) (o : dl z L) : dl z L' := by
  have hs : z.s ≠ 0 := o.1
  have d1 : L / 86400 = n - 1 := by obtain ⟨_, _, _, q | q⟩ := h <;> omega
  have d2 : L' / 86400 = n - 1 := by obtain ⟨_, _, _, q | q⟩ := h <;> omega
  obtain ⟨y1, y2, y3, y4⟩ := year_of h1
  obtain ⟨⟨N1, N2, e1, e2, p1, p2, p3, p4⟩, q, r⟩ := turns_bd (z := z) ⟨y1, y2⟩ h hs
  unfold dl at o ⊢
  rw [d1] at o
  rw [d2]
  unfold dlY at o ⊢
  omega
/-- how far clocks are ahead -/
def off (z : Zn) (t : Int) : Int := if dl z (t + 60 * z.o) then z.o + z.s else z.o
/-- a moment's local time: day number, minute, offset; and whether it is there -/
def seen (z : Zn) (t : Int) : Prop := inr ((t + 60 * z.o) / 86400) ∧ inr ((t + 60 * off z t) / 86400)
instance (z : Zn) (t : Int) : Decidable (seen z t) := by unfold seen; infer_instance
def at_ (z : Zn) (t : Int) : Int × Int × Int × Int × Int × Int :=
  if zok z then if seen z t then (ofY ((t + 60 * off z t) / 86400), ofM ((t + 60 * off z t) / 86400), ofD ((t + 60 * off z t) / 86400), (t + 60 * off z t) % 86400 / 60, off z t, 0) else (0, 0, 0, 0, 0, 5) else (0, 0, 0, 0, 0, 8)
theorem off_bd {z : Zn} (h : zok z) (t : Int) : -720 ≤ off z t ∧ off z t ≤ 900 ∧ (off z t = z.o ∨ off z t = z.o + z.s) := by
  obtain ⟨_, _, _, q | q⟩ := h <;> (unfold off; split <;> omega)
/-- the moments of a minute of a day -/
def mom (z : Zn) (n mi b : Int) : Int := n * 86400 + 60 * (mi - z.o) - 60 * b
def moms (z : Zn) (n mi : Int) : List Int :=
  (if seen z (mom z n mi z.s) ∧ off z (mom z n mi z.s) = z.o + z.s then [mom z n mi z.s] else []) ++ (if z.s ≠ 0 ∧ seen z (mom z n mi 0) ∧ off z (mom z n mi 0) = z.o then [mom z n mi 0] else [])
/-- the first moment of a day (not of the first of all) -/
def mid (z : Zn) (n : Int) : Int := if dl z (n * 86400 - 60 * z.s) then n * 86400 - 60 * z.o - 60 * z.s else n * 86400 - 60 * z.o
theorem moms_mid {z : Zn} (h : zok z) {n : Int} (h1 : inr (n - 1)) (h2 : inr n) : ∃ r, moms z n 0 = mid z n :: r := by
  have hs : 0 ≤ z.s ∧ z.s ≤ 60 := by obtain ⟨_, _, _, q | q⟩ := h <;> omega
  unfold moms mid
  have E : mom z n 0 z.s + 60 * z.o = n * 86400 - 60 * z.s := by unfold mom; omega
  have E0 : mom z n 0 0 + 60 * z.o = n * 86400 := by unfold mom; omega
  by_cases c : dl z (n * 86400 - 60 * z.s)
  · have o : off z (mom z n 0 z.s) = z.o + z.s := by unfold off; rw [E, if_pos c]
    have sn : seen z (mom z n 0 z.s) := by
      refine ⟨?_, ?_⟩
      · rw [E]; unfold inr at *; omega
      · rw [o, show mom z n 0 z.s + 60 * (z.o + z.s) = n * 86400 by unfold mom; omega]; unfold inr at *; omega
    rw [if_pos ⟨sn, o⟩, if_pos c]
    exact ⟨_, by rw [show mom z n 0 z.s = n * 86400 - 60 * z.o - 60 * z.s by unfold mom; omega]; rfl⟩
  · by_cases c0 : z.s = 0
    · have o : off z (mom z n 0 z.s) = z.o + z.s := by unfold off; split <;> omega
      have sn : seen z (mom z n 0 z.s) := by
        refine ⟨?_, ?_⟩
        · rw [E]; unfold inr at *; omega
        · rw [o, show mom z n 0 z.s + 60 * (z.o + z.s) = n * 86400 by unfold mom; omega]; unfold inr at *; omega
      rw [if_pos ⟨sn, o⟩, if_neg c]
      exact ⟨_, by rw [show mom z n 0 z.s = n * 86400 - 60 * z.o by unfold mom; omega]; rfl⟩
    · have c' : ¬ dl z (n * 86400) := dl_off h h1 h2 (Int.le_refl _) (by omega) (Int.le_refl _) c
      have o : off z (mom z n 0 z.s) = z.o := by unfold off; rw [E, if_neg c]
      have o0 : off z (mom z n 0 0) = z.o := by unfold off; rw [E0, if_neg c']
      have sn : seen z (mom z n 0 0) := by
        refine ⟨?_, ?_⟩
        · rw [E0]; unfold inr at *; omega
        · rw [o0, E0]; unfold inr at *; omega
      rw [if_neg (by omega), if_pos ⟨c0, sn, o0⟩, if_neg c]
      exact ⟨[], by rw [show mom z n 0 0 = n * 86400 - 60 * z.o by unfold mom; omega]; rfl⟩
/-- ahead of a day's first moment the date is smaller; there it is the day's -/
theorem mid_first {z : Zn} (h : zok z) {n : Int} (h1 : inr (n - 1)) (h2 : inr n) : seen z (mid z n) ∧ mid z n + 60 * off z (mid z n) = n * 86400 ∧ ∀ t, t < mid z n → t + 60 * off z t < n * 86400 := by
  have hs : 0 ≤ z.s ∧ z.s ≤ 60 := by obtain ⟨_, _, _, q | q⟩ := h <;> omega
  unfold mid
  by_cases c : dl z (n * 86400 - 60 * z.s)
  · rw [if_pos c]
    have o : off z (n * 86400 - 60 * z.o - 60 * z.s) = z.o + z.s := by unfold off; rw [show n * 86400 - 60 * z.o - 60 * z.s + 60 * z.o = n * 86400 - 60 * z.s by omega, if_pos c]
    refine ⟨⟨?_, ?_⟩, by rw [o]; omega, ?_⟩
    · unfold inr at *; omega
    · rw [o]; unfold inr at *; omega
    · intro t ht
      obtain ⟨_, _, q | q⟩ := off_bd h t <;> omega
  · rw [if_neg c]
    have c' : ¬ dl z (n * 86400) := dl_off h h1 h2 (Int.le_refl _) (by omega) (Int.le_refl _) c
    have o : off z (n * 86400 - 60 * z.o) = z.o := by unfold off; rw [show n * 86400 - 60 * z.o + 60 * z.o = n * 86400 by omega, if_neg c']
    refine ⟨⟨?_, ?_⟩, by rw [o]; omega, ?_⟩
    · unfold inr at *; omega
    · rw [o]; unfold inr at *; omega
    · intro t ht
      by_cases f : n * 86400 - 60 * z.s ≤ t + 60 * z.o
      · have := dl_off h h1 h2 (Int.le_refl _) f (by omega) c
        unfold off
        rw [if_neg this]
        omega
      · obtain ⟨_, _, q | q⟩ := off_bd h t <;> omega
end Go.Proofs.Ytkggjjggcbcdiaa.Civ
