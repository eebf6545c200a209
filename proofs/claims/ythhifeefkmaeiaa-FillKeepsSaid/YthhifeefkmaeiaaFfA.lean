/- A line's numbers: the document's way of finding them, and the program's, come to the same list. -/
import Derived.Test.YthhifeefkmaeiaaPXx3
import Derived.Test.YthhifeefkmaeiaaPXx4
import Derived.Test.YthhifeefkmaeiaaPXx12
import Derived.Test.YthhifeefkmaeiaaLin
import Derived.IntWalk
namespace Go.Proofs.Ythhifeefkmaeiaa.PX
open Go.RowKit Go.Proofs.YthhifeefkmaeiaaW.PrintWords Go.Proofs.YthhifeefkmaeiaaW.PrintLast Go.Proofs.YthhifeefkmaeiaaW.PrintMore
set_option linter.unusedVariables false
set_option linter.unusedSimpArgs false
theorem fw {n : Int} (h1 : -9223372036854775808 ≤ n) (h2 : n ≤ 9223372036854775807) : wrap64 n = n := Go.IntWalk.wrap64_in n ⟨h1, h2⟩
/-- a list told by a function -/
def fl (f : Nat → Int) (n : Nat) : List Int := (List.range n).map f
theorem fl_len (f : Nat → Int) (n : Nat) : (fl f n).length = n := by simp [fl]
theorem fl_rd (f : Nat → Int) {n j : Nat} (hj : j < n) : rd (fl f n) j = f j := by simp [fl, rd, hj]
theorem fl_congr {f g : Nat → Int} {n : Nat} (h : ∀ t, t < n → f t = g t) : fl f n = fl g n := List.map_congr_left fun t ht => h t (List.mem_range.1 ht)
theorem fl_set {f g : Nat → Int} {n k : Nat} {v : Int} (hk : g k = v) (ho : ∀ t, t < n → t ≠ k → g t = f t) : (fl f n).set k v = fl g n := by
  apply List.ext_getElem?
  intro t
  rw [List.getElem?_set]
  by_cases c : k = t
  · subst c
    by_cases c2 : k < n
    · simp [fl, c2, hk]
    · simp [fl, c2]
  · simp only [c, if_false]
    by_cases c2 : t < n
    · simp only [fl, List.getElem?_map, List.getElem?_range c2, Option.map_some]; rw [ho t c2 (fun e => c e.symm)]
    · simp [fl, c2]
theorem fl_zero (n : Nat) : List.replicate n (0 : Int) = fl (fun _ => 0) n := by
  simp [fl, List.map_const']
theorem samenum (xs : List Int) (hl : xs.length ≤ 9000000000000) (d : Nat) : ∀ (k : Nat) (i : Nat), i + d = xs.length → d < k → pylonref01_SameNumbers.l0 k xs xs (xs.length : Int) i = some true := by
  induction d with
  | zero =>
    intro k i hi hk
    obtain ⟨k, rfl⟩ : ∃ m, k = m + 1 := ⟨k - 1, by omega⟩
    rw [pylonref01_SameNumbers.l0, if_neg (by omega)]
  | succ d ih =>
    intro k i hi hk
    obtain ⟨k, rfl⟩ : ∃ m, k = m + 1 := ⟨k - 1, by omega⟩
    rw [pylonref01_SameNumbers.l0, if_pos (by omega), if_pos (by omega), if_pos (by omega), if_pos (by omega), if_pos rfl, fw (by omega) (by omega)]
    exact ih k (i + 1) (by omega) (by omega)
theorem samenum_f (xs : List Int) (hl : xs.length ≤ 9000000000000) {k : Nat} (hk : xs.length < k) : pylonref01_SameNumbers.f k xs xs = some true := by
  rw [pylonref01_SameNumbers.f, if_pos rfl]; exact samenum xs hl xs.length k 0 (by omega) hk
theorem fawake {k : Nat} (hk : 4 < k) : pylonlaw11_awake.f k = some true := by
  have e : fill_Line.f 0 10 4 = some ([2, 4, 6, 8], 0) := by decide
  rw [pylonlaw11_awake.f, e]
  simp only [Option.bind_some, if_true]
  rw [samenum_f _ (by simp) (by simpa using hk)]; rfl
section
variable {a b : Int} {n : Nat}
theorem rline_l2 (hn : n ≤ 40000) (O A : Nat → Int) (m : Int) (r : Option (List Int × Int)) (k0 : Nat) (hr : ∀ (k : Nat) (c : Nat), k0 ≤ k → c < n → (∀ t : Nat, t < n → A t ≤ A c) → (∀ t : Nat, t < c → A t < A c) → pylonref11_Line.l1 k ((fl O n).set c (wrap64 (rd (fl O n) c + 1))) ((fl A n).set c (-1)) (wrap64 (m - 1)) = r) (d : Nat) :
    ∀ (k : Nat) (c i : Nat), i + d = n → c < n → k0 + d < k → (∀ t : Nat, t < i → A t ≤ A c) → (∀ t : Nat, t < c → A t < A c) → c ≤ i → pylonref11_Line.l2 k (fl O n) (fl A n) m c n i = r := by
  induction d with
  | zero =>
    intro k c i hi hc hk h1 h2 hci
    obtain ⟨k, rfl⟩ : ∃ m, k = m + 1 := ⟨k - 1, by omega⟩
    rw [pylonref11_Line.l2, if_neg (by omega), if_pos (by omega), if_pos (by rw [fl_len]; omega), if_pos (by rw [fl_len]; omega), Int.toNat_natCast]
    exact hr k c (by omega) hc (fun t ht => h1 t (by omega)) h2
  | succ d ih =>
    intro k c i hi hc hk h1 h2 hci
    obtain ⟨k, rfl⟩ : ∃ m, k = m + 1 := ⟨k - 1, by omega⟩
    rw [pylonref11_Line.l2, if_pos (by omega), if_pos (by omega), if_pos (by rw [fl_len]; omega), if_pos (by omega), if_pos (by rw [fl_len]; omega), fl_rd A (by omega), fl_rd A hc, fw (n := (i : Int) + 1) (by omega) (by omega)]
    by_cases c1 : A i > A c
    · rw [if_pos c1]
      exact ih k i (i + 1) (by omega) (by omega) (by omega) (fun t ht => by
        by_cases e : t = i
        · subst e; omega
        · have := h1 t (by omega); omega) (fun t ht => by have := h1 t ht; omega) (by omega)
    · rw [if_neg c1]
      exact ih k c (i + 1) (by omega) hc (by omega) (fun t ht => by
        by_cases e : t = i
        · subst e; omega
        · exact h1 t (by omega)) h2 (by omega)
def lO (a b : Int) (n i : Nat) (t : Nat) : Int := Lin.lq a b n t + if Lin.rank (Lin.lr a b n) n t < i then 1 else 0
def lA (a b : Int) (n i : Nat) (t : Nat) : Int := if Lin.rank (Lin.lr a b n) n t < i then -1 else Lin.lr a b n t
theorem lr_nonneg (t : Nat) : 0 ≤ Lin.lr a b n t := Int.emod_nonneg _ (by omega)
theorem rline_l1 (ha1 : -10000000 ≤ a) (ha2 : a ≤ 10000000) (hb1 : -10000000 ≤ b) (hb2 : b ≤ 10000000) (hn : n ≤ 40000) (m : Nat) (hm : m ≤ n) (d : Nat) : ∀ (k : Nat) (i : Nat), i + d = m → d * (n + 2) < k →
    pylonref11_Line.l1 k (fl (lO a b n i) n) (fl (lA a b n i) n) ((m : Int) - i) = some (fl (lO a b n m) n, 0) := by
  induction d with
  | zero =>
    intro k i hi hk
    obtain ⟨k, rfl⟩ : ∃ m, k = m + 1 := ⟨k - 1, by omega⟩
    obtain rfl : i = m := by omega
    rw [pylonref11_Line.l1, if_neg (by omega)]
  | succ d ih =>
    intro k i hi hk
    rw [Nat.succ_mul] at hk
    obtain ⟨k, rfl⟩ : ∃ m, k = m + 1 := ⟨k - 1, by omega⟩
    rw [pylonref11_Line.l1, if_pos (by omega), fl_len]
    refine rline_l2 hn (lO a b n i) (lA a b n i) _ _ (d * (n + 2) + 1) ?_ n k 0 0 (by omega) (by omega) (by omega) (fun t ht => by omega) (fun t ht => by omega) (Nat.le_refl _)
    intro k' c hk' hc h1 h2
    have hrk : Lin.rank (Lin.lr a b n) n c = i := Lin.best_rank (by omega) hc lr_nonneg (fun t _ => rfl) h1 h2
    have hq := Lin.lq_bd (g := (n : Int)) (k := c) ha1 ha2 hb1 hb2 (by omega) (by omega)
    have e1 : (fl (lO a b n i) n).set c (wrap64 (rd (fl (lO a b n i) n) c + 1)) = fl (lO a b n (i + 1)) n := by
      rw [fl_rd _ hc]
      have e : lO a b n i c = Lin.lq a b n c := by unfold lO; rw [hrk, if_neg (by omega)]; omega
      rw [e, fw (by omega) (by omega)]
      refine fl_set (by unfold lO; rw [hrk, if_pos (by omega)]) fun t ht htc => ?_
      have : Lin.rank (Lin.lr a b n) n t ≠ i := fun e => htc (Lin.rank_inj ht hc (e.trans hrk.symm))
      unfold lO; simp only [show Lin.rank (Lin.lr a b n) n t < i + 1 ↔ Lin.rank (Lin.lr a b n) n t < i by omega]
    have e2 : (fl (lA a b n i) n).set c (-1) = fl (lA a b n (i + 1)) n := by
      refine fl_set (by unfold lA; rw [hrk, if_pos (by omega)]) fun t ht htc => ?_
      have : Lin.rank (Lin.lr a b n) n t ≠ i := fun e => htc (Lin.rank_inj ht hc (e.trans hrk.symm))
      unfold lA; simp only [show Lin.rank (Lin.lr a b n) n t < i + 1 ↔ Lin.rank (Lin.lr a b n) n t < i by omega]
    rw [e1, e2, fw (by omega) (by omega), show (m : Int) - i - 1 = m - ((i + 1 : Nat) : Int) by omega]
    exact ih k' (i + 1) (by omega) (by omega)
theorem rline_l0 (ha1 : -10000000 ≤ a) (ha2 : a ≤ 10000000) (hb1 : -10000000 ≤ b) (hb2 : b ≤ 10000000) (hn : n ≤ 40000) (M : Int) (hM1 : -1000000000000 ≤ M) (hM2 : M ≤ 1000000000000) (r : Option (List Int × Int)) (k0 : Nat)
    (hr : ∀ k, k0 ≤ k → pylonref11_Line.l1 k (fl (fun t => Lin.lq a b n t) n) (fl (fun t => Lin.lr a b n t) n) (M - Lin.sumq a b n n) = r) (d : Nat) :
    ∀ (k j : Nat), j + d = n → k0 + d < k → pylonref11_Line.l0 k a b n (fl (fun t => if t < j then Lin.lq a b n t else 0) n) (fl (fun t => if t < j then Lin.lr a b n t else 0) n) (M - Lin.sumq a b n j) ((j : Int) + 1) = r := by
  induction d with
  | zero =>
    intro k j hj hk
    obtain ⟨k, rfl⟩ : ∃ m, k = m + 1 := ⟨k - 1, by omega⟩
    obtain rfl : j = n := by omega
    rw [pylonref11_Line.l0, if_neg (by omega), ← hr k (by omega), fl_congr (f := fun t => if t < j then Lin.lq a b j t else 0) (g := fun t => Lin.lq a b j t) (fun t ht => if_pos ht), fl_congr (f := fun t => if t < j then Lin.lr a b j t else 0) (g := fun t => Lin.lr a b j t) (fun t ht => if_pos ht)]
  | succ d ih =>
    intro k j hj hk
    obtain ⟨k, rfl⟩ : ∃ m, k = m + 1 := ⟨k - 1, by omega⟩
    have hq := Lin.lq_bd (g := (n : Int)) (k := j) ha1 ha2 hb1 hb2 (by omega) (by omega)
    have hs := Lin.sumq_bd (a := a) (b := b) (g := (n : Int)) ha1 ha2 hb1 hb2 j (by omega)
    have hnb := Lin.num_bd (g := (n : Int)) (k := j) ha1 ha2 hb1 hb2 (by omega) (by omega)
    have x1 : a * ((n : Int) + 1 - ((j : Int) + 1)) ≤ 1000000000000 ∧ -1000000000000 ≤ a * ((n : Int) + 1 - ((j : Int) + 1)) := by
      have p1 := Int.mul_le_mul_of_nonneg_right ha1 (show 0 ≤ (n : Int) + 1 - (j + 1) by omega)
      have p2 := Int.mul_le_mul_of_nonneg_right ha2 (show 0 ≤ (n : Int) + 1 - (j + 1) by omega)
      omega
    have x2 : b * ((j : Int) + 1) ≤ 1000000000000 ∧ -1000000000000 ≤ b * ((j : Int) + 1) := by
      have p1 := Int.mul_le_mul_of_nonneg_right hb1 (show 0 ≤ (j : Int) + 1 by omega)
      have p2 := Int.mul_le_mul_of_nonneg_right hb2 (show 0 ≤ (j : Int) + 1 by omega)
      omega
    have hd : pylonref01_Div.f (Lin.num a b n j) ((n : Int) + 1) = some (Lin.lq a b n j, Lin.lr a b n j, 0) := by
      unfold pylonref01_Div.f; rw [if_pos ⟨by omega, by omega, by omega, by omega⟩]; rfl
    have e1 : (fl (fun t => if t < j then Lin.lq a b n t else 0) n).set j (Lin.lq a b n j) = fl (fun t => if t < j + 1 then Lin.lq a b n t else 0) n :=
      fl_set (by simp) fun t ht htj => by simp only [show t < j + 1 ↔ t < j by omega]
    have e2 : (fl (fun t => if t < j then Lin.lr a b n t else 0) n).set j (Lin.lr a b n j) = fl (fun t => if t < j + 1 then Lin.lr a b n t else 0) n :=
      fl_set (by simp) fun t ht htj => by simp only [show t < j + 1 ↔ t < j by omega]
    rw [pylonref11_Line.l0, if_pos (by omega), fw (n := (n : Int) + 1) (by omega) (by omega), fw (n := (n : Int) + 1 - _) (by omega) (by omega), fw (n := a * _) (by omega) (by omega), fw (n := b * _) (by omega) (by omega),
      fw (n := a * _ + _) (by unfold Lin.num at hnb; omega) (by unfold Lin.num at hnb; omega), show a * ((n : Int) + 1 - ((j : Int) + 1)) + b * ((j : Int) + 1) = Lin.num a b n j from rfl, hd]
    simp only [Option.bind_some]
    rw [fw (n := (j : Int) + 1 - 1) (by omega) (by omega), if_pos (by omega), if_pos (by rw [fl_len]; omega), if_pos (by rw [fl_len]; omega), show ((j : Int) + 1 - 1).toNat = j by omega, e1, e2, fw (n := M - _ - _) (by omega) (by omega), fw (n := (j : Int) + 1 + 1) (by omega) (by omega)]
    have := ih k (j + 1) (by omega) (by omega)
    rw [show Lin.sumq a b n (j + 1) = Lin.sumq a b n j + Lin.lq a b n j from rfl, show M - (Lin.sumq a b n j + Lin.lq a b n j) = M - Lin.sumq a b n j - Lin.lq a b n j by omega] at this
    exact this
end
/-- the document's line is the program's, its rounds told -/
theorem rline (a b g : Int) {k : Nat} (hk : 2000000000 ≤ k) : pylonref11_Line.f k a b g = fill_Line.f a b g := by
  obtain ⟨k, rfl⟩ : ∃ m, k = m + 1 := ⟨k - 1, by omega⟩
  have jt : pylonref11_Line.j0 (k + 1) a b g true = some ([], 8) := by rw [pylonref11_Line.j0, if_pos rfl]
  have hnear : ∀ x, pylonref11_near.f x = some (decide (-10000000 ≤ x ∧ x ≤ 10000000)) := fun x => by
    unfold pylonref11_near.f
    by_cases c : x ≥ -10000000
    · rw [if_pos c]; simp [c]
    · rw [if_neg c]; simp; omega
  unfold pylonref11_Line.f fill_Line.f
  by_cases c0 : g < 0
  · rw [if_pos c0, jt, if_pos (.inl c0)]
  · rw [if_neg c0]
    by_cases c1 : g > 40000
    · rw [if_pos c1, jt, if_pos (.inr (.inl c1))]
    · rw [if_neg c1, hnear, hnear]
      simp only [Option.bind_some, decide_eq_true_eq]
      by_cases c2 : -10000000 ≤ a ∧ a ≤ 10000000
      · rw [if_pos c2]
        by_cases c3 : -10000000 ≤ b ∧ b ≤ 10000000
        · rw [if_neg (by omega)]
          obtain ⟨n, rfl⟩ : ∃ n : Nat, g = n := ⟨g.toNat, by omega⟩
          have hn : n ≤ 40000 := by omega
          have hT : (n : Int) * (a + b) ≤ 1000000000000 ∧ -1000000000000 ≤ (n : Int) * (a + b) := by
            have p1 := Int.mul_le_mul_of_nonneg_left (show a + b ≤ 20000000 by omega) (show 0 ≤ (n : Int) by omega)
            have p2 := Int.mul_le_mul_of_nonneg_left (show -20000000 ≤ a + b by omega) (show 0 ≤ (n : Int) by omega)
            omega
          have hd : pylonref01_Div.f ((n : Int) * (a + b)) 2 = some ((n : Int) * (a + b) / 2, (n : Int) * (a + b) % 2, 0) := by
            unfold pylonref01_Div.f; rw [if_pos ⟨by omega, by omega, by omega, by omega⟩]
          have hmb := Lin.miss_bounds a b n (by omega)
          unfold Lin.miss at hmb
          simp only [Int.toNat_natCast] at hmb
          obtain ⟨m, hm⟩ : ∃ m : Nat, (n : Int) * (a + b) / 2 - Lin.sumq a b n n = m := ⟨((n : Int) * (a + b) / 2 - Lin.sumq a b n n).toNat, by omega⟩
          have hmn : m ≤ n := by omega
          have hmm := Nat.mul_le_mul (show m ≤ 40000 by omega) (show n + 2 ≤ 40002 by omega)
          have e0 : List.replicate n (0 : Int) = fl (fun t => if t < 0 then Lin.lq a b n t else 0) n := (fl_zero n).trans (fl_congr fun t _ => by simp)
          have e1 : List.replicate n (0 : Int) = fl (fun t => if t < 0 then Lin.lr a b n t else 0) n := (fl_zero n).trans (fl_congr fun t _ => by simp)
          have h1 : ∀ k, 1600080001 ≤ k → pylonref11_Line.l1 k (fl (fun t => Lin.lq a b n t) n) (fl (fun t => Lin.lr a b n t) n) ((n : Int) * (a + b) / 2 - Lin.sumq a b n n) = some (fl (lO a b n m) n, 0) := fun k hk => by
            have := rline_l1 (a := a) (b := b) c2.1 c2.2 c3.1 c3.2 hn m hmn m k 0 (by omega) (by omega)
            rw [hm, show (m : Int) = (m : Int) - ((0 : Nat) : Int) by omega, ← this]
            congr 1 <;> first | (exact fl_congr fun t ht => by unfold lO; simp) | (exact fl_congr fun t ht => by unfold lA; simp)
          have h0 := rline_l0 (a := a) (b := b) c2.1 c2.2 c3.1 c3.2 hn ((n : Int) * (a + b) / 2) (by omega) (by omega) _ 1600080001 h1 n k 0 (by omega) (by omega)
          rw [show ((decide (-10000000 ≤ b ∧ b ≤ 10000000)) : Bool) = true from decide_eq_true c3, Bool.not_true, pylonref11_Line.j0, if_neg (by decide), if_pos (by omega), if_pos (by omega), fw (n := a + b) (by omega) (by omega), fw (n := (n : Int) * (a + b)) (by omega) (by omega), hd]
          simp only [Option.bind_some, Int.toNat_natCast]
          have e2 : List.map (fun t : Nat => Lin.out a b n (Lin.miss a b n n) t) (List.range n) = fl (lO a b n m) n := fl_congr fun t ht => by
            unfold Lin.out lO Lin.miss
            rw [Int.toNat_natCast, hm]
            simp only [show (Lin.rank (Lin.lr a b n) n t : Int) < (m : Int) ↔ Lin.rank (Lin.lr a b n) n t < m by omega]
          rw [e2, ← h0]
          congr 1
          · simp [Lin.sumq]
        · rw [show ((decide (-10000000 ≤ b ∧ b ≤ 10000000)) : Bool) = false from decide_eq_false c3, Bool.not_false, jt, if_pos (by omega)]
      · rw [if_neg c2, jt, if_pos (by omega)]
theorem fline_some (a b g : Int) : ∃ l e, fill_Line.f a b g = some (l, e) ∧ l.length ≤ 40000 := by
  unfold fill_Line.f
  split
  · exact ⟨_, _, rfl, by simp⟩
  · rename_i h
    exact ⟨_, _, rfl, by simp; omega⟩
theorem FillLines_pure (a0 : Int) (a1 : Int) (a2 : Int) (h0 : (Lit.int .i64 a0).wf = true) (h1 : (Lit.int .i64 a1).wf = true) (h2 : (Lit.int .i64 a2).wf = true) : ∃ k, pylonlaw11_FillLines.f k a0 a1 a2 = some true := by
  obtain ⟨K, hK⟩ : ∃ K : Nat, 2000000000 ≤ K := ⟨_, Nat.le_refl _⟩
  refine ⟨K + 3, ?_⟩
  have key : ∀ g, ((pylonref11_Line.f (K + 2) a0 a1 g).bind fun bt142 => ((fill_Line.f a0 a1 g).bind fun bt146 => (if bt146.2 = bt142.2 then ((pylonref01_SameNumbers.f (K + 2) bt146.1 bt142.1).bind fun t150 => (some t150)) else (some false)))) = some true := fun g => by
    rw [rline a0 a1 g (by omega)]
    obtain ⟨l, e, h, hl⟩ := fline_some a0 a1 g
    rw [h]
    simp only [Option.bind_some, if_true]
    rw [samenum_f l (by omega) (by omega)]; rfl
  rw [pylonlaw11_FillLines.f, fawake (by omega)]
  simp only [Option.bind_some, if_true]
  have j : ∀ x, pylonlaw11_FillLines.j0 (K + 3) a0 a1 a2 x = some true := fun x => by
    rw [pylonlaw11_FillLines.j0]
    split
    · exact key _
    · exact key _
  split <;> exact j _
end Go.Proofs.Ythhifeefkmaeiaa.PX
