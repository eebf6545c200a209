/- A tariff that breaks no rule has one season for each day of the year and one window for each season, kind of day and quarter of an hour; so a moment that has a local time has a bucket, whatever the order of the lists. -/
import Derived.Test.YtkggjjggcbcdiaaPXx6
import Derived.Test.YtkggjjggcbcdiaaPXx7
import Derived.Test.YtkggjjggcbcdiaaPXx10
import Derived.Test.YtkggjjggcbcdiaaPXx12
import Derived.Test.YtkggjjggcbcdiaaPXx18
import Derived.Test.YtkggjjggcbcdiaaPXx21
import Derived.Test.YtkggjjggcbcdiaaFtSa
import Derived.Test.YtkggjjggcbcdiaaFtWa
import Derived.Test.YtkggjjggcbcdiaaFhKa
import Derived.Test.YtkggjjggcbcdiaaFzA
import Derived.Test.YtkggjjggcbcdiaaRd
namespace Go.Proofs.Ytkggjjggcbcdiaa.PX
open Go.RowKit Go.Proofs.YtkggjjggcbcdiaaW.PrintWords Go.Proofs.YtkggjjggcbcdiaaW.PrintLast Go.Proofs.YtkggjjggcbcdiaaW.PrintMore
set_option linter.unusedVariables false
set_option linter.unusedSimpArgs false
def numl (p : Nat → Bool) : Nat → Nat
  | 0 => 0
  | j + 1 => numl p j + if p j = true then 1 else 0
theorem numl_zero {p : Nat → Bool} : ∀ {n : Nat}, numl p n = 0 → ∀ j, j < n → ¬ p j = true := by
  intro n
  induction n with
  | zero => intro _ j hj; omega
  | succ n ih =>
    intro h j hj
    rw [numl] at h
    by_cases c : p n = true
    · rw [if_pos c] at h; omega
    · rw [if_neg c] at h
      by_cases e : j = n
      · rw [e]; exact c
      · exact ih (by omega) j (by omega)
theorem numl_one {p : Nat → Bool} : ∀ {n : Nat}, numl p n = 1 → ∃ j, j < n ∧ p j = true ∧ ∀ i, i < n → p i = true → i = j := by
  intro n
  induction n with
  | zero => intro h; simp [numl] at h
  | succ n ih =>
    intro h
    rw [numl] at h
    by_cases c : p n = true
    · rw [if_pos c] at h
      have z := numl_zero (show numl p n = 0 by omega)
      refine ⟨n, by omega, c, fun i hi hp => ?_⟩
      by_cases e : i = n
      · exact e
      · exact absurd hp (z i (by omega))
    · rw [if_neg c] at h
      obtain ⟨j, h1, h2, h3⟩ := ih (by omega)
      refine ⟨j, by omega, h2, fun i hi hp => ?_⟩
      by_cases e : i = n
      · rw [e] at hp; exact absurd hp c
      · exact h3 i (by omega) hp
/-- does a season hold day t of the year? -/
def sholds (x : S58) (t : Nat) : Bool := pylonref09_seasons.hold (dayE x.f1).1 (dayE x.f2).1 t
def sday (x : S58) : Prop := (dayE x.f1).2 = 0 ∧ (dayE x.f2).2 = 0
theorem rdS_mem {l : List S58} {j : Nat} (h : j < l.length) : rd_T58 l (j : Int) ∈ l := by
  unfold rd_T58
  simp [List.getD_eq_getElem?_getD, h]
theorem rdW_mem {l : List S60} {j : Nat} (h : j < l.length) : rd_T60 l (j : Int) ∈ l := by
  unfold rd_T60
  simp [List.getD_eq_getElem?_getD, h]
theorem rdS_ex {l : List S58} {x : S58} (h : x ∈ l) : ∃ j : Nat, j < l.length ∧ rd_T58 l (j : Int) = x := by
  obtain ⟨j, hj, e⟩ := List.getElem_of_mem h
  refine ⟨j, hj, ?_⟩
  unfold rd_T58
  simp [List.getD_eq_getElem?_getD, hj, e]
theorem rdW_ex {l : List S60} {x : S60} (h : x ∈ l) : ∃ j : Nat, j < l.length ∧ rd_T60 l (j : Int) = x := by
  obtain ⟨j, hj, e⟩ := List.getElem_of_mem h
  refine ⟨j, hj, ?_⟩
  unfold rd_T60
  simp [List.getD_eq_getElem?_getD, hj, e]
theorem sgo {k : Nat} (hk : 50 ≤ k) (l : List S58) (hw : ∀ x ∈ l, W58 x) : ∀ d i h h', i + d ≤ l.length → pylonref09_seasons.go k l d i h = some (some h') → (∀ j : Nat, i ≤ j → j < i + d → sday (rd_T58 l (j : Int))) ∧ ∀ t : Nat, 1 ≤ t → h' t + (numl (fun j => sholds (rd_T58 l (j : Int)) t) i : Nat) = h t + (numl (fun j => sholds (rd_T58 l (j : Int)) t) (i + d) : Nat) := by
  intro d
  induction d with
  | zero =>
    intro i h h' hi e
    rw [pylonref09_seasons.go] at e
    simp only [Option.some.injEq] at e
    subst e
    exact ⟨fun j h1 h2 => by omega, fun t _ => by simp⟩
  | succ d ih =>
    intro i h h' hi e
    rw [pylonref09_seasons.go] at e
    have wx := hw _ (rdS_mem (show i < l.length by omega))
    generalize hx : rd_T58 l (i : Int) = x at e wx
    rw [refday (by omega) (wf64 wx.2.1), refday (by omega) (wf64 wx.2.2)] at e
    simp only [Option.bind_some] at e
    obtain ⟨nm, -, e⟩ := Option.bind_eq_some_iff.mp e
    by_cases c : nm = false ∨ (dayE x.f1).2 ≠ 0 ∨ (dayE x.f2).2 ≠ 0
    · rw [if_pos c] at e; simp at e
    rw [if_neg c] at e
    by_cases c2 : pylonref09_seasons.dup l i = true
    · rw [if_pos c2] at e; simp at e
    rw [if_neg c2] at e
    obtain ⟨i1, i2⟩ := ih (i + 1) _ h' (by omega) e
    refine ⟨fun j h1 h2 => ?_, fun t ht => ?_⟩
    · by_cases ej : j = i
      · rw [ej, hx]; unfold sday; omega
      · exact i1 j (by omega) (by omega)
    · have := i2 t ht
      rw [numl, show i + 1 + d = i + (d + 1) by omega, hx] at this
      unfold pylonref09_seasons.up at this
      have es : sholds x t = pylonref09_seasons.hold (dayE x.f1).1 (dayE x.f2).1 t := rfl
      by_cases cs : sholds x t = true
      · rw [if_pos cs, if_pos ⟨ht, by rw [← es]; exact cs⟩] at this
        omega
      · rw [if_neg cs, if_neg (by rw [← es]; exact fun q => cs q.2)] at this
        omega
theorem seasons_yes {k : Nat} (hk : 50 ≤ k) (l : List S58) (hw : ∀ x ∈ l, W58 x) (h : pylonref09_seasons.f k l = some true) : (∀ x ∈ l, sday x) ∧ ∀ t : Nat, 1 ≤ t → t ≤ 366 → ∃ x, x ∈ l ∧ sholds x t = true ∧ ∀ y, y ∈ l → sholds y t = true → y = x := by
  unfold pylonref09_seasons.f at h
  by_cases c : l.length < 1 ∨ 64 < l.length
  · rw [if_pos c] at h; simp at h
  rw [if_neg c] at h
  obtain ⟨r, hr, h⟩ := Option.bind_eq_some_iff.mp h
  cases r with
  | none => simp at h
  | some h' =>
    simp only [Option.some.injEq] at h
    obtain ⟨g1, g2⟩ := sgo hk l hw l.length 0 _ h' (by omega) hr
    refine ⟨fun x hx => ?_, fun t h1 h2 => ?_⟩
    · obtain ⟨j, hj, e⟩ := rdS_ex hx
      rw [← e]; exact g1 j (by omega) (by omega)
    · have hh : h' t = 1 := by
        unfold pylonref09_seasons.once at h
        have := (List.all_eq_true.mp h) (t - 1) (List.mem_range.2 (by omega))
        rw [show t - 1 + 1 = t by omega] at this
        simpa using this
      have q := g2 t h1
      rw [hh, numl, Nat.zero_add] at q
      obtain ⟨j, h3, h4, h5⟩ := numl_one (show numl (fun j => sholds (rd_T58 l (j : Int)) t) l.length = 1 by omega)
      refine ⟨_, rdS_mem h3, h4, fun y hy e => ?_⟩
      obtain ⟨i, hi, e2⟩ := rdS_ex hy
      rw [← e2] at e ⊢
      rw [h5 i hi e]
theorem ok2000 {y m d : Int} (h : Civ.ok y m d) : Civ.ok 2000 m d := by
  obtain ⟨h1, h2, h3, h4, h5, h6⟩ := h
  refine ⟨by omega, by omega, h3, h4, h5, ?_⟩
  have l0 := Civ.lp_01 y
  have l1 : Civ.lp 2000 = 1 := by decide
  unfold Civ.len at h6 ⊢
  split
  · rename_i c; rw [if_pos c] at h6; omega
  · rename_i c; rw [if_neg c] at h6; exact h6
/-- the day of a leap year -/
def dyr (m d : Int) : Nat := (Civ.cum 2000 m + d).toNat
theorem dyr_bd {y m d : Int} (h : Civ.ok y m d) : 1 ≤ dyr m d ∧ dyr m d ≤ 366 ∧ ((dyr m d : Nat) : Int) = Civ.cum 2000 m + d := by
  obtain ⟨-, -, h3, h4, h5, h6⟩ := ok2000 h
  have q := Civ.doy_bd h3 h4 h5 h6
  have l1 : Civ.lp 2000 = 1 := by decide
  unfold dyr
  omega
theorem dayE_md {y m d : Int} (h : Civ.ok y m d) : wrap64 (wrap64 (100 * m) + d) = 100 * m + d ∧ dayE (100 * m + d) = (((dyr m d : Nat) : Int), 0) := by
  have o := ok2000 h
  have q := dyr_bd h
  obtain ⟨-, -, h3, h4, h5, h6⟩ := o
  have l := Civ.len_bd 2000 m
  refine ⟨by rw [wr (n := 100 * m) (by omega) (by omega), wr (by omega) (by omega)], ?_⟩
  unfold dayE
  rw [td (by omega), tm (by omega), show (100 * m + d) / 100 = m by omega, show (100 * m + d) % 100 = d by omega, if_pos ⟨by omega, by omega, h3, h4, h5, h6⟩, q.2.2]
theorem holds_md {k : Nat} {y m d : Int} (h : Civ.ok y m d) {x : S58} (hw : W58 x) (hd : sday x) : sound_Holds.f (k + 1) x.f0 x.f1 x.f2 (wrap64 (wrap64 (100 * m) + d)) = some (sholds x (dyr m d)) := by
  obtain ⟨e1, e2⟩ := dayE_md h
  obtain ⟨-, -, h3, h4, h5, h6⟩ := ok2000 h
  have l := Civ.len_bd 2000 m
  unfold sound_Holds.f
  rw [e1, soundday (by omega), soundday (wf64 hw.2.1), soundday (wf64 hw.2.2), e2]
  simp only [Option.bind_some, if_true]
  rw [if_pos hd.1, hd.2, sound_Holds.j0, if_neg (by simp)]
  unfold sholds pylonref09_seasons.hold
  generalize (dayE x.f1).1 = a
  generalize (dayE x.f2).1 = b
  generalize ((dyr m d : Nat) : Int) = t
  by_cases c1 : a ≤ b
  · by_cases c2 : a ≤ t
    · simp [c1, c2, show ¬ b < a by omega]
    · simp [c1, c2, show ¬ b < a by omega]
  · by_cases c2 : a ≤ t
    · simp [c1, c2, show b < a by omega]
    · simp [c1, c2, show b < a by omega]
theorem sfind {y m d : Int} (ho : Civ.ok y m d) (L : List S58) (hw : ∀ x ∈ L, W58 x) (hd : ∀ x ∈ L, sday x) (hl : L.length ≤ 9000000000000) : ∀ (n k i : Nat), i + n = L.length → n + 2 ≤ k → (∃ j : Nat, i ≤ j ∧ j < L.length ∧ sholds (rd_T58 L (j : Int)) (dyr m d) = true) → ∃ j : Nat, j < L.length ∧ sholds (rd_T58 L (j : Int)) (dyr m d) = true ∧ tou_Season.l0 k L L.length i y m d = some ((j : Int), 0) := by
  intro n
  induction n with
  | zero => intro k i hi hk ⟨j, h1, h2, h3⟩; omega
  | succ n ih =>
    intro k i hi hk hj
    obtain ⟨k, rfl⟩ : ∃ q, k = q + 2 := ⟨k - 2, by omega⟩
    rw [tou_Season.l0, if_pos (by omega), if_pos (by omega), if_pos (by omega), holds_md ho (hw _ (rdS_mem (by omega))) (hd _ (rdS_mem (by omega)))]
    simp only [Option.bind_some]
    by_cases c : sholds (rd_T58 L (i : Int)) (dyr m d) = true
    · rw [if_pos c]
      exact ⟨i, by omega, c, rfl⟩
    · rw [if_neg c, wr (n := (i : Int) + 1) (by omega) (by omega)]
      obtain ⟨j, h1, h2, h3⟩ := hj
      exact ih (k + 1) (i + 1) (by omega) (by omega) ⟨j, by
        rcases Nat.lt_or_ge i j with q | q
        · exact q
        · have : j = i := by omega
          subst this; exact absurd h3 c, h2, h3⟩
/-- windows -/
theorem wfind (s : ByteArray) (c m : Int) : ∀ (L : List S60) (i : Int), (∃ x ∈ L, x.f0.toList = s.toList ∧ x.f1 = c ∧ x.f2 ≤ m ∧ m < x.f3) → ∃ j : Nat, j < L.length ∧ tou_Window.l L s c m i = (i + j, 0) ∧ (rd_T60 L (j : Int)).f0.toList = s.toList ∧ (rd_T60 L (j : Int)).f1 = c ∧ (rd_T60 L (j : Int)).f2 ≤ m ∧ m < (rd_T60 L (j : Int)).f3 := by
  intro L
  induction L with
  | nil => rintro i ⟨x, hx, -⟩; simp at hx
  | cons a L ih =>
    rintro i ⟨x, hx, hm⟩
    by_cases c1 : a.f0.toList = s.toList ∧ a.f1 = c ∧ a.f2 ≤ m ∧ m < a.f3
    · refine ⟨0, by simp, ?_, ?_⟩
      · rw [tou_Window.l, if_pos c1]; simp
      · unfold rd_T60; simpa using c1
    · have hx2 : x ∈ L := by
        rcases List.mem_cons.1 hx with q | q
        · subst q; exact absurd hm c1
        · exact q
      obtain ⟨j, h1, h2, h3⟩ := ih (i + 1) ⟨x, hx2, hm⟩
      refine ⟨j + 1, by simp; omega, ?_, ?_⟩
      · rw [tou_Window.l, if_neg c1, h2]
        simp; omega
      · have e : rd_T60 (a :: L) ((j + 1 : Nat) : Int) = rd_T60 L (j : Int) := by unfold rd_T60; simp
        rw [e]; exact h3
theorem cnt_numl (l : List S60) (s : ByteArray) (kd q : Nat) : ∀ j, pylonref09_windows.cnt l s kd q j = numl (fun t => pylonref09_windows.fits (rd_T60 l (t : Int)) s kd q) j := by
  intro j
  induction j with
  | zero => rfl
  | succ j ih => rw [pylonref09_windows.cnt, numl, ih]
theorem once_ex {ss : List S58} {ws : List S60} (h : pylonref09_windows.once ss ws = true) {x : S58} (hx : x ∈ ss) {kd q : Nat} (hk : kd < 4) (hq : q < 96) : ∃ p, p ∈ ws ∧ pylonref09_windows.fits p x.f0 kd q = true ∧ ∀ p', p' ∈ ws → pylonref09_windows.fits p' x.f0 kd q = true → p' = p := by
  obtain ⟨s, hs, e⟩ := rdS_ex hx
  unfold pylonref09_windows.once at h
  simp only [List.all_eq_true, List.mem_range, beq_iff_eq] at h
  have := h s hs kd hk q hq
  rw [e, cnt_numl] at this
  obtain ⟨j, h1, h2, h3⟩ := numl_one this
  refine ⟨_, rdW_mem h1, h2, fun p' hp e2 => ?_⟩
  obtain ⟨i, hi, e3⟩ := rdW_ex hp
  rw [← e3] at e2 ⊢
  rw [h3 i hi e2]
theorem fits_iff {ss : List S58} {bs : List S63} {p : S60} (hg : pylonref09_windows.good ss bs p = true) {s : ByteArray} {kd : Nat} {m : Int} (h0 : 0 ≤ m) : pylonref09_windows.fits p s kd (m / 15).toNat = true ↔ (p.f0.toList = s.toList ∧ p.f1 = (kd : Int) ∧ p.f2 ≤ m ∧ m < p.f3) := by
  unfold pylonref09_windows.good at hg
  simp only [Bool.and_eq_true, decide_eq_true_eq, beq_iff_eq] at hg
  obtain ⟨-, -, -, -, g1, g2, -, g3, g4⟩ := hg
  rw [tm (by omega)] at g3 g4
  unfold pylonref09_windows.fits
  simp only [Bool.and_eq_true, decide_eq_true_eq, beq_iff_eq]
  have : 0 ≤ m / 15 := by omega
  constructor
  · rintro ⟨a, b, c, d⟩
    exact ⟨a, b, by omega, by omega⟩
  · rintro ⟨a, b, c, d⟩
    exact ⟨a, b, by omega, by omega⟩
theorem kindE_bd {L : List S65} (hg : allg L = true) {y m d : Int} (ho : Civ.ok y m d) : ∃ kd : Nat, kd < 4 ∧ kindE L y m d = ((kd : Int), 0) := by
  unfold kindE hisE
  rw [if_pos hg, if_pos ho]
  simp only [if_true]
  split
  · exact ⟨3, by omega, rfl⟩
  · split
    · exact ⟨2, by omega, rfl⟩
    · split
      · exact ⟨1, by omega, rfl⟩
      · exact ⟨0, by omega, rfl⟩
/-- the window of a day, a kind and a quarter -/
def Hit (l15 : List S58) (l17 : List S60) (t kd q : Nat) (p : S60) : Prop := ∃ x, x ∈ l15 ∧ sholds x t = true ∧ p ∈ l17 ∧ pylonref09_windows.fits p x.f0 kd q = true
/-- what the rules say of seasons, holidays and windows -/
structure Rules (l15 : List S58) (l16 : List S65) (l17 : List S60) (l18 : List S63) : Prop where
  w15 : ∀ x ∈ l15, W58 x
  w16 : ∀ x ∈ l16, W65 x
  day : ∀ x ∈ l15, sday x
  one : ∀ t : Nat, 1 ≤ t → t ≤ 366 → ∃ x, x ∈ l15 ∧ sholds x t = true ∧ ∀ y, y ∈ l15 → sholds y t = true → y = x
  hol : allg l16 = true
  win : pylonref09_windows.once l15 l17 = true
  good : ∀ p ∈ l17, pylonref09_windows.good l15 l18 p = true
  n15 : l15.length ≤ 9000000000000
  n16 : l16.length ≤ 9000000000000
  n17 : l17.length ≤ 9000000000000
theorem Hit.one {l15 : List S58} {l16 : List S65} {l17 : List S60} {l18 : List S63} (R : Rules l15 l16 l17 l18) {t kd q : Nat} (h1 : 1 ≤ t) (h2 : t ≤ 366) (hk : kd < 4) (hq : q < 96) {p p' : S60} (h : Hit l15 l17 t kd q p) (h' : Hit l15 l17 t kd q p') : p = p' := by
  obtain ⟨x, a1, a2, a3, a4⟩ := h
  obtain ⟨x', b1, b2, b3, b4⟩ := h'
  obtain ⟨u, -, -, u3⟩ := R.one t h1 h2
  have e := (u3 x a1 a2).trans (u3 x' b1 b2).symm
  subst e
  obtain ⟨v, -, -, v3⟩ := once_ex R.win a1 hk hq
  exact (v3 p a3 a4).trans (v3 p' b3 b4).symm
theorem touHas {l15 : List S58} {l16 : List S65} {l17 : List S60} {l18 : List S63} (R : Rules l15 l16 l17 l18) (a0 : ByteArray) (z : Civ.Zn) (a11 : Int) (a12 : Int) (a13 : Int) (a14 : Int) (a19 : Int) (a20 : Int) (a21 : Int) (a22 : Int) (a23 : Int) (a24 : Int) (a25 : Int) (a26 : Int) (a27 : Int) {t : Int} (hz : zwf z) (ht : i64 t) {y m d mi o : Int} (hat : Civ.at_ z t = (y, m, d, mi, o, 0)) (ho : Civ.ok y m d) (hm : 0 ≤ mi ∧ mi < 1440) {kd : Nat} (hkd : kd < 4) (hkE : kindE l16 y m d = ((kd : Int), 0)) {k : Nat} (hk : 30 * l16.length + l15.length + 100 ≤ k) {L15 : List S58} {L17 : List S60} (m15 : ∀ x, x ∈ L15 ↔ x ∈ l15) (m17 : ∀ x, x ∈ L17 ↔ x ∈ l17) (e15 : L15.length = l15.length) (e17 : L17.length = l17.length) :
    ∃ p, Hit l15 l17 (dyr m d) kd (mi / 15).toNat p ∧ p ∈ L17 ∧ tou_At.f k a0 z.o z.s z.m1 z.w1 z.d1 z.t1 z.m2 z.w2 z.d2 z.t2 a11 a12 a13 a14 L15 l16 L17 l18 a19 a20 a21 a22 a23 a24 a25 a26 a27 t = some (p.f4, 0) := by
  have q := dyr_bd ho
  obtain ⟨x, x1, x2, x3⟩ := R.one _ q.1 q.2.1
  obtain ⟨i, hi, ei⟩ := rdS_ex ((m15 x).2 x1)
  have n15 := R.n15
  have n17 := R.n17
  obtain ⟨j, j1, j2, j3⟩ := sfind ho L15 (fun v hv => R.w15 v ((m15 v).1 hv)) (fun v hv => R.day v ((m15 v).1 hv)) (by omega) L15.length k 0 (by omega) (by omega) ⟨i, by omega, hi, by rw [ei]; exact x2⟩
  have ex : rd_T58 L15 (j : Int) = x := x3 _ ((m15 _).1 (rdS_mem j1)) j2
  obtain ⟨p, p1, p2, p3⟩ := once_ex R.win x1 hkd (show (mi / 15).toNat < 96 by omega)
  obtain ⟨n, n1, n2, n3⟩ := wfind x.f0 (kd : Int) mi L17 0 ⟨p, (m17 p).2 p1, (fits_iff (R.good p p1) hm.1).1 p2⟩
  have hp : rd_T60 L17 (n : Int) = p := p3 _ ((m17 _).1 (rdW_mem n1)) ((fits_iff (R.good _ ((m17 _).1 (rdW_mem n1))) hm.1).2 n3)
  refine ⟨p, ⟨x, x1, x2, p1, p2⟩, (m17 p).2 p1, ?_⟩
  unfold tou_At.f
  rw [zAt (by omega) z hz ht, hat]
  simp only [Option.bind_some, if_true]
  unfold tou_Season.f
  rw [civdays, if_pos ho]
  simp only [Option.bind_some, if_true]
  rw [show ((0 : Nat) : Int) = 0 from rfl] at j3
  rw [j3, kindf l16 R.w16 (by omega) R.n16, hkE]
  simp only [Option.bind_some, if_true]
  rw [if_pos (by omega), if_pos (by omega), ex]
  unfold tou_Window.f
  rw [n2]
  simp only [Option.bind_some, if_true, Int.zero_add]
  rw [if_pos (by omega), if_pos (by omega), hp]
end Go.Proofs.Ytkggjjggcbcdiaa.PX
