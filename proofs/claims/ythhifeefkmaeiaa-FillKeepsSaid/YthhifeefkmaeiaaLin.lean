/- The numbers of a line in plain arithmetic: the whole parts, the rests, which places get one more. No program in sight. -/
import Derived.Test.YthhifeefkmaeiaaStb
namespace Go.Proofs.Ythhifeefkmaeiaa.Lin
open Go.Sort Go.Proofs.Ythhifeefkmaeiaa.Stb
/-- place k (from 0) of g between a and b: whole part and rest over g + 1 -/
def num (a b g k : Int) : Int := a * (g + 1 - (k + 1)) + b * (k + 1)
def lq (a b g k : Int) : Int := num a b g k / (g + 1)
def lr (a b g k : Int) : Int := num a b g k % (g + 1)
def sumq (a b g : Int) : Nat → Int
  | 0 => 0
  | n + 1 => sumq a b g n + lq a b g n
def miss (a b g : Int) (n : Nat) : Int := g * (a + b) / 2 - sumq a b g n
/-- how many of the first n places stand ahead of t -/
def rank (key : Int → Int) (n : Nat) (t : Int) : Nat := (List.range n).countP fun (x : Nat) => ltT key (x : Int) t
def out (a b g : Int) (m : Int) (t : Int) : Int := lq a b g t + if (rank (lr a b g) g.toNat t : Int) < m then 1 else 0
theorem countP_lt (j : Nat) : ∀ n, (List.range n).countP (fun i => decide (i < j)) = min n j := by
  intro n
  induction n with
  | zero => simp
  | succ n ih => rw [List.range_succ, List.countP_append, ih]; simp [List.countP_cons]; split <;> omega
theorem countP_congr' {α : Type} {p q : α → Bool} : ∀ (l : List α), (∀ x ∈ l, p x = q x) → l.countP p = l.countP q := by
  intro l h
  induction l with
  | nil => rfl
  | cons x l ih =>
    have e := h x (List.mem_cons_self ..)
    have e2 := ih (fun y hy => h y (List.mem_cons_of_mem _ hy))
    rw [List.countP_cons, List.countP_cons, e, e2]
section
variable {key : Int → Int} {n : Nat} {d d' : Array Int}
theorem perm_list (hd : d.size = n) (hid : ∀ t, t < n → d[t]! = t) (hP : PermIn 0 n d d') : ((List.range n).map (fun i => d'[i]!)).Perm ((List.range n).map (fun (i : Nat) => (i : Int))) := by
  have h := hP.2.2
  rw [extract_toList d' 0 n (by rw [hP.1]; omega), extract_toList d 0 n (by omega)] at h
  simp only [Nat.sub_zero, ← List.range_eq_range'] at h
  have e : (List.range n).map (fun i => d[i]!) = (List.range n).map (fun (i : Nat) => (i : Int)) := List.map_congr_left (fun i hi => hid i (List.mem_range.1 hi))
  rwa [e] at h
theorem inj_of (hd : d.size = n) (hid : ∀ t, t < n → d[t]! = t) (hP : PermIn 0 n d d') {i j : Nat} (hi : i < n) (hj : j < n) (he : d'[i]! = d'[j]!) : i = j := by
  have hn : ((List.range n).map (fun i => d'[i]!)).Nodup := (perm_list hd hid hP).nodup_iff.2 (List.Pairwise.map _ (fun x y h e => h (Int.ofNat.inj e)) List.nodup_range)
  have h2 := List.pairwise_iff_getElem.1 (List.pairwise_map.1 hn)
  rcases Nat.lt_trichotomy i j with h | h | h
  · exact absurd he (by have := h2 i j (by simpa using hi) (by simpa using hj) h; simpa using this)
  · exact h
  · exact absurd he.symm (by have := h2 j i (by simpa using hj) (by simpa using hi) h; simpa using this)
theorem surj_of (hd : d.size = n) (hid : ∀ t, t < n → d[t]! = t) (hP : PermIn 0 n d d') {t : Nat} (ht : t < n) : ∃ j, j < n ∧ d'[j]! = t := by
  have h : (t : Int) ∈ (List.range n).map (fun i => d'[i]!) := (perm_list hd hid hP).mem_iff.2 (List.mem_map.2 ⟨t, List.mem_range.2 ht, rfl⟩)
  obtain ⟨j, hj, e⟩ := List.mem_map.1 h
  exact ⟨j, List.mem_range.1 hj, e⟩
theorem rank_of (hd : d.size = n) (hid : ∀ t, t < n → d[t]! = t) (hP : PermIn 0 n d d') (hS : SortedIn (ltT key) 0 n d') {j : Nat} (hj : j < n) : rank key n d'[j]! = j := by
  have h1 : rank key n d'[j]! = ((List.range n).map (fun (i : Nat) => (i : Int))).countP fun x => ltT key x d'[j]! := by rw [List.countP_map]; rfl
  rw [h1, ← (perm_list hd hid hP).countP_eq, List.countP_map]
  rw [countP_congr' (q := fun i => decide (i < j)) _ (fun i hi => ?_), countP_lt, Nat.min_eq_right (by omega)]
  have hi := List.mem_range.1 hi
  show ltT key d'[i]! d'[j]! = decide (i < j)
  by_cases c : i < j
  · have := hS i j (Nat.zero_le _) c hj
    rw [lt_of_not this (fun e => by have := inj_of hd hid hP hi hj e; omega)]; simp [c]
  · by_cases c2 : i = j
    · subst c2; rw [(swo_T key).irrefl]; simp
    · rw [hS j i (Nat.zero_le _) (by omega) hi]; simp [c]
end
/-! ### the order of the rests -/
structure Rnk (key : Int → Int) (n : Nat) (d : Array Int) : Prop where
  perm : ((List.range n).map (fun i => d[i]!)).Perm ((List.range n).map (fun i : Nat => (i : Int)))
  at_ : ∀ j, j < n → rank key n d[j]! = j
  lo : ∀ j, j < n → (0 : Int) ≤ d[j]!
  hi : ∀ j, j < n → d[j]! < n
  sur : ∀ t : Nat, t < n → ∃ j, j < n ∧ d[j]! = t
  inc : ∀ i j, i < j → j < n → ltT key d[i]! d[j]! = true
theorem ranked (key : Int → Int) (n : Nat) : ∃ d, Rnk key n d := by
  have hd : ((List.range n).map (fun t : Nat => (t : Int))).toArray.size = n := by simp
  have hid : ∀ t, t < n → ((List.range n).map (fun t : Nat => (t : Int))).toArray[t]! = t := fun t ht => by simp [ht]
  have h := insertionSort_T (key := key) ((List.range n).map (fun t : Nat => (t : Int))).toArray 0 n (Nat.zero_le _) (by simp) (fun s t _ hst ht => by rw [hid s (by omega), hid t ht]; omega)
  refine ⟨_, perm_list hd hid h.1, fun j hj => rank_of hd hid h.1 h.2 hj, ?_, ?_, fun t ht => surj_of hd hid h.1 ht, fun i j hij hj => lt_of_not (h.2 i j (Nat.zero_le _) hij hj) (fun e => by have := inj_of hd hid h.1 (by omega) hj e; omega)⟩
  · exact fun j hj => permIn_all _ _ 0 n (fun x => (0 : Int) ≤ x) (by simp) h.1 (fun k _ hk => by rw [hid k hk]; omega) j (Nat.zero_le _) hj
  · exact fun j hj => permIn_all _ _ 0 n (fun x => x < (n : Int)) (by simp) h.1 (fun k _ hk => by rw [hid k hk]; omega) j (Nat.zero_le _) hj
theorem rank_sur (key : Int → Int) {n i : Nat} (hi : i < n) : ∃ t : Nat, t < n ∧ rank key n t = i := by
  obtain ⟨d, h⟩ := ranked key n
  have h1 := h.lo i hi; have h2 := h.hi i hi
  exact ⟨d[i]!.toNat, by omega, by rw [show ((d[i]!.toNat : Nat) : Int) = d[i]! by omega]; exact h.at_ i hi⟩
/-- the smaller rank stands ahead -/
theorem rank_lt {key : Int → Int} {n s t : Nat} (hs : s < n) (ht : t < n) : rank key n s < rank key n t ↔ ltT key s t = true := by
  obtain ⟨d, h⟩ := ranked key n
  obtain ⟨i, hi, ei⟩ := h.sur s hs
  obtain ⟨j, hj, ej⟩ := h.sur t ht
  have ri := h.at_ i hi; have rj := h.at_ j hj
  rw [ei] at ri; rw [ej] at rj
  rw [ri, rj, ← ei, ← ej]
  constructor
  · exact fun hij => h.inc i j hij hj
  · intro hl
    rcases Nat.lt_trichotomy i j with c | c | c
    · exact c
    · subst c; rw [(swo_T key).irrefl] at hl; exact absurd hl (by simp)
    · have := le_of_lt (h.inc j i c hi); rw [this] at hl; exact absurd hl (by simp)
theorem rank_inj {key : Int → Int} {n s t : Nat} (hs : s < n) (ht : t < n) (h : rank key n s = rank key n t) : s = t := by
  rcases Nat.lt_trichotomy s t with c | c | c
  · have h1 := mt (rank_lt (key := key) hs ht).2 (by omega); have h2 := mt (rank_lt (key := key) ht hs).2 (by omega)
    simp only [ltT, decide_eq_true_eq, not_or, not_and] at h1 h2; omega
  · exact c
  · have h1 := mt (rank_lt (key := key) hs ht).2 (by omega); have h2 := mt (rank_lt (key := key) ht hs).2 (by omega)
    simp only [ltT, decide_eq_true_eq, not_or, not_and] at h1 h2; omega
theorem rank_bd {key : Int → Int} {n t : Nat} (ht : t < n) : rank key n t < n := by
  obtain ⟨d, h⟩ := ranked key n
  obtain ⟨i, hi, ei⟩ := h.sur t ht
  have ri := h.at_ i hi
  rw [ei] at ri; omega
/-- what the document's search finds: the place of rank i, where those of smaller rank are struck out -/
theorem best_rank {key : Int → Int} {A : Nat → Int} {n i b : Nat} (hi : i < n) (hb : b < n) (hk : ∀ t : Nat, 0 ≤ key t) (hA : ∀ t : Nat, t < n → A t = if rank key n t < i then -1 else key t)
    (h1 : ∀ t : Nat, t < n → A t ≤ A b) (h2 : ∀ t : Nat, t < b → A t < A b) : rank key n b = i := by
  obtain ⟨s, hs, hr⟩ := rank_sur key hi
  have e1 := hA s hs; have e2 := hA b hb
  rw [if_neg (by omega)] at e1
  have g1 := h1 s hs
  have k0 := hk s; have k1 := hk b
  by_cases c : rank key n b < i
  · rw [if_pos c] at e2; omega
  · rw [if_neg c] at e2
    rcases Nat.lt_or_eq_of_le (show i ≤ rank key n b by omega) with c2 | c2
    · have hl := (rank_lt (key := key) hs hb).1 (by omega)
      simp only [ltT, decide_eq_true_eq] at hl
      rcases hl with hl | hl
      · omega
      · have := h2 s (by omega); omega
    · exact c2.symm
/-! ### so many are missing -/
theorem sum_eq (a b g : Int) (hg : 0 ≤ g) : ∀ n : Nat, ∃ R : Int, 0 ≤ R ∧ R ≤ n * g ∧ 2 * ((g + 1) * sumq a b g n + R) = n * (2 * (a * g) - a * (n - 1) + b * (n + 1)) := by
  intro n
  induction n with
  | zero => exact ⟨0, by omega, by simp, by simp [sumq]⟩
  | succ n ih =>
    obtain ⟨R, h0, h1, h2⟩ := ih
    have e := Int.mul_ediv_add_emod (num a b g n) (g + 1)
    have m0 := Int.emod_nonneg (num a b g n) (show g + 1 ≠ 0 by omega)
    have m1 := Int.emod_lt_of_pos (num a b g n) (show 0 < g + 1 by omega)
    refine ⟨R + num a b g n % (g + 1), by omega, ?_, ?_⟩
    · have : (((n + 1 : Nat) : Int)) * g = n * g + g := by rw [show ((n + 1 : Nat) : Int) = (n : Int) + 1 by omega, Int.add_mul]; simp
      omega
    · rw [sumq, lq]
      generalize num a b g n / (g + 1) = q at *
      generalize num a b g n % (g + 1) = r at *
      have e2 : num a b g n = a * (g + 1 - (n + 1)) + b * (n + 1) := rfl
      rw [show ((n + 1 : Nat) : Int) = (n : Int) + 1 by omega]
      generalize sumq a b g n = S at *
      generalize (n : Int) = m at *
      grind
theorem miss_bounds (a b g : Int) (hg : 0 ≤ g) : 0 ≤ miss a b g g.toNat ∧ miss a b g g.toNat ≤ g := by
  obtain ⟨R, h0, h1, h2⟩ := sum_eq a b g hg g.toNat
  rw [show ((g.toNat : Nat) : Int) = g by omega] at h1 h2
  unfold miss
  generalize sumq a b g g.toNat = S at *
  have h3 : 2 * ((g + 1) * S + R) = (g + 1) * (g * (a + b)) := by rw [h2]; grind
  generalize hT : g * (a + b) = T at *
  -- (g + 1) (T - 2 S) = 2 R
  have h4 : (g + 1) * (T - 2 * S) = 2 * R := by grind
  have h5 : 0 ≤ T - 2 * S := by
    rcases Int.lt_or_le (T - 2 * S) 0 with c | c
    · have := Int.mul_neg_of_pos_of_neg (show 0 < g + 1 by omega) c; omega
    · exact c
  have h6 : T - 2 * S ≤ 2 * g := by
    rcases Int.lt_or_le (2 * g) (T - 2 * S) with c | c
    · have := Int.mul_le_mul_of_nonneg_left (show 2 * g + 1 ≤ T - 2 * S by omega) (show 0 ≤ g + 1 by omega)
      have e : (g + 1) * (2 * g + 1) = 2 * (g * g) + 3 * g + 1 := by grind
      omega
    · exact c
  omega
/-! ### bounds -/
theorem num_bd {a b g k : Int} (ha1 : -10000000 ≤ a) (ha2 : a ≤ 10000000) (hb1 : -10000000 ≤ b) (hb2 : b ≤ 10000000) (hk0 : 0 ≤ k) (hk : k < g) :
    -10000000 * (g + 1) ≤ num a b g k ∧ num a b g k ≤ 10000000 * (g + 1) := by
  have a1 := Int.mul_le_mul_of_nonneg_right ha1 (show 0 ≤ g + 1 - (k + 1) by omega)
  have a2 := Int.mul_le_mul_of_nonneg_right ha2 (show 0 ≤ g + 1 - (k + 1) by omega)
  have b1 := Int.mul_le_mul_of_nonneg_right hb1 (show 0 ≤ k + 1 by omega)
  have b2 := Int.mul_le_mul_of_nonneg_right hb2 (show 0 ≤ k + 1 by omega)
  unfold num; omega
theorem lq_bd {a b g k : Int} (ha1 : -10000000 ≤ a) (ha2 : a ≤ 10000000) (hb1 : -10000000 ≤ b) (hb2 : b ≤ 10000000) (hk0 : 0 ≤ k) (hk : k < g) : -10000000 ≤ lq a b g k ∧ lq a b g k ≤ 10000000 := by
  have h := num_bd ha1 ha2 hb1 hb2 hk0 hk
  unfold lq
  exact ⟨Int.le_ediv_of_mul_le (by omega) h.1, Int.ediv_le_of_le_mul (by omega) h.2⟩
theorem sumq_bd {a b g : Int} (ha1 : -10000000 ≤ a) (ha2 : a ≤ 10000000) (hb1 : -10000000 ≤ b) (hb2 : b ≤ 10000000) : ∀ n : Nat, (n : Int) ≤ g → -10000000 * (n : Int) ≤ sumq a b g n ∧ sumq a b g n ≤ 10000000 * n := by
  intro n
  induction n with
  | zero => intro _; simp [sumq]
  | succ n ih =>
    intro hn
    have h := ih (by omega)
    have q := lq_bd (k := n) ha1 ha2 hb1 hb2 (by omega) (show (n : Int) < g by omega)
    rw [sumq]; omega
end Go.Proofs.Ythhifeefkmaeiaa.Lin
