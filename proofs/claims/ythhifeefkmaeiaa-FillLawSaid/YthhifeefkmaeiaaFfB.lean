/- The law FillLaw: a line's numbers lie between its ends, go one way, and have the right sum (no conditions). -/
import Derived.Test.YthhifeefkmaeiaaPXx3
import Derived.Test.YthhifeefkmaeiaaPXx12
import Derived.Test.YthhifeefkmaeiaaFfA
namespace Go.Proofs.Ythhifeefkmaeiaa.PX
open Go.RowKit Go.Proofs.YthhifeefkmaeiaaW.PrintWords Go.Proofs.YthhifeefkmaeiaaW.PrintLast Go.Proofs.YthhifeefkmaeiaaW.PrintMore
set_option linter.unusedVariables false
set_option linter.unusedSimpArgs false
def sumf (f : Nat → Int) : Nat → Int
  | 0 => 0
  | n + 1 => sumf f n + f n
theorem sumf_le {f g : Nat → Int} {n : Nat} (h : ∀ t, t < n → f t ≤ g t) : sumf f n ≤ sumf g n := by
  induction n with
  | zero => exact Int.le_refl _
  | succ n ih => have := ih (fun t ht => h t (by omega)); have := h n (by omega); simp only [sumf]; omega
theorem sumf_add (f g : Nat → Int) (n : Nat) : sumf (fun t => f t + g t) n = sumf f n + sumf g n := by
  induction n with
  | zero => rfl
  | succ n ih => simp only [sumf, ih]; omega
theorem sumf_mul (c : Int) (f : Nat → Int) (n : Nat) : sumf (fun t => c * f t) n = c * sumf f n := by
  induction n with
  | zero => simp [sumf]
  | succ n ih => simp only [sumf, ih, Int.mul_add]
theorem sumf_lq (a b g : Int) (n : Nat) : sumf (fun t => Lin.lq a b g t) n = Lin.sumq a b g n := by
  induction n with
  | zero => rfl
  | succ n ih => simp only [sumf, ih, Lin.sumq]
theorem sumf_ind (p : Nat → Bool) (n : Nat) : sumf (fun t => if p t then 1 else 0) n = ((List.range n).countP p : Nat) := by
  induction n with
  | zero => rfl
  | succ n ih => rw [sumf, ih, List.range_succ, List.countP_append]; by_cases c : p n = true <;> simp [c]
theorem sumf_rank (key : Int → Int) {n m : Nat} (hm : m ≤ n) : sumf (fun t => if Lin.rank key n t < m then 1 else 0) n = m := by
  have h := sumf_ind (fun t => decide (Lin.rank key n t < m)) n
  simp only [decide_eq_true_eq] at h
  rw [h]
  obtain ⟨d, hd⟩ := Lin.ranked key n
  have e1 : (List.range n).countP (fun t : Nat => decide (Lin.rank key n t < m)) = ((List.range n).map (fun t : Nat => (t : Int))).countP fun x => decide (Lin.rank key n x < m) := by rw [List.countP_map]; rfl
  rw [e1, ← hd.perm.countP_eq, List.countP_map, Lin.countP_congr' (q := fun i => decide (i < m)) _ (fun i hi => ?_), Lin.countP_lt, Nat.min_eq_right hm]
  show decide (Lin.rank key n d[i]! < m) = _
  rw [hd.at_ i (List.mem_range.1 hi)]
section
variable {a b : Int} {n : Nat}
theorem sum_id (n0 : Nat) : 2 * (((n : Int) + 1) * Lin.sumq a b n n0 + sumf (fun t => Lin.lr a b n t) n0) = n0 * (2 * (a * n) - a * (n0 - 1) + b * (n0 + 1)) := by
  induction n0 with
  | zero => simp [Lin.sumq, sumf]
  | succ k ih =>
    have e := Int.mul_ediv_add_emod (Lin.num a b n k) ((n : Int) + 1)
    rw [Lin.sumq, sumf, Lin.lq, Lin.lr]
    generalize Lin.num a b n k / ((n : Int) + 1) = q at *
    generalize Lin.num a b n k % ((n : Int) + 1) = r at *
    have e2 : Lin.num a b n k = a * ((n : Int) + 1 - (k + 1)) + b * (k + 1) := rfl
    rw [show ((k + 1 : Nat) : Int) = (k : Int) + 1 by omega]
    generalize Lin.sumq a b n k = S at *
    generalize sumf (fun t => Lin.lr a b n t) k = R at *
    generalize (k : Int) = m at *
    generalize (n : Int) = g at *
    grind
theorem lr_lt (t : Nat) : Lin.lr a b n t ≤ n := by have := Int.emod_lt_of_pos (Lin.num a b n t) (show 0 < (n : Int) + 1 by omega); unfold Lin.lr; omega
/-- who gets one more has a rest -/
theorem rest_pos {t m : Nat} (ht : t < n) (hm : Lin.miss a b n n = m) (hr : Lin.rank (Lin.lr a b n) n t < m) : 0 < Lin.lr a b n t := by
  have h0 : 0 ≤ Lin.lr a b n t := lr_nonneg t
  rcases Int.lt_or_eq_of_le h0 with c | c
  · exact c
  · exfalso
    obtain ⟨p, hp⟩ : ∃ p, Lin.rank (Lin.lr a b n) n t = p := ⟨_, rfl⟩
    have hpn := Lin.rank_bd (key := Lin.lr a b n) ht
    have hle : sumf (fun s => Lin.lr a b n s) n ≤ sumf (fun s => (n : Int) * if Lin.rank (Lin.lr a b n) n s < p then 1 else 0) n := sumf_le fun s hs => by
      by_cases c2 : Lin.rank (Lin.lr a b n) n s < p
      · rw [if_pos c2, Int.mul_one]; exact lr_lt s
      · rw [if_neg c2, Int.mul_zero]
        by_cases c3 : s = t
        · subst c3; omega
        · have hne : Lin.rank (Lin.lr a b n) n s ≠ Lin.rank (Lin.lr a b n) n t := fun e => c3 (Lin.rank_inj hs ht e)
          have := (Lin.rank_lt (key := Lin.lr a b n) ht hs).1 (by omega)
          simp only [Stb.ltT, decide_eq_true_eq] at this
          have := lr_nonneg (a := a) (b := b) (n := n) s
          omega
    rw [sumf_mul, sumf_rank _ (by omega)] at hle
    have hid := sum_id (a := a) (b := b) (n := n) n
    unfold Lin.miss at hm
    generalize sumf (fun t => Lin.lr a b n t) n = R at *
    generalize Lin.sumq a b n n = S at *
    have h3 : 2 * (((n : Int) + 1) * S + R) = ((n : Int) + 1) * ((n : Int) * (a + b)) := by rw [hid]; grind
    generalize (n : Int) * (a + b) = T at *
    have h4 : ((n : Int) + 1) * (T - 2 * S) = 2 * R := by grind
    have h5 : 2 * (m : Int) ≤ T - 2 * S := by omega
    have h6 := Int.mul_le_mul_of_nonneg_left h5 (show 0 ≤ (n : Int) + 1 by omega)
    have h7 : ((n : Int) + 1) * (2 * (m : Int)) = 2 * ((n : Int) * m) + 2 * m := by grind
    have h8 := Int.mul_le_mul_of_nonneg_left (show (p : Int) + 1 ≤ m by omega) (show 0 ≤ (n : Int) by omega)
    rw [Int.mul_add] at h8
    omega
theorem num_between {t : Nat} (ht : t < n) : min a b * ((n : Int) + 1) ≤ Lin.num a b n t ∧ Lin.num a b n t ≤ max a b * ((n : Int) + 1) := by
  have a1 := Int.mul_le_mul_of_nonneg_right (Int.min_le_left a b) (show 0 ≤ (n : Int) + 1 - (t + 1) by omega)
  have b1 := Int.mul_le_mul_of_nonneg_right (Int.min_le_right a b) (show 0 ≤ (t : Int) + 1 by omega)
  have a2 := Int.mul_le_mul_of_nonneg_right (Int.le_max_left a b) (show 0 ≤ (n : Int) + 1 - (t + 1) by omega)
  have b2 := Int.mul_le_mul_of_nonneg_right (Int.le_max_right a b) (show 0 ≤ (t : Int) + 1 by omega)
  unfold Lin.num
  generalize min a b = u at *
  generalize max a b = v at *
  have e1 : u * ((n : Int) + 1) = u * ((n : Int) + 1 - (t + 1)) + u * ((t : Int) + 1) := by grind
  have e2 : v * ((n : Int) + 1) = v * ((n : Int) + 1 - (t + 1)) + v * ((t : Int) + 1) := by grind
  omega
theorem lO_between {t m : Nat} (ht : t < n) (hm : Lin.miss a b n n = m) : min a b ≤ lO a b n m t ∧ lO a b n m t ≤ max a b := by
  have h := num_between (a := a) (b := b) ht
  have l1 : min a b ≤ Lin.lq a b n t := Int.le_ediv_of_mul_le (by omega) h.1
  have l2 : Lin.lq a b n t ≤ max a b := Int.ediv_le_of_le_mul (by omega) h.2
  unfold lO
  by_cases c : Lin.rank (Lin.lr a b n) n t < m
  · rw [if_pos c]
    have hp := rest_pos ht hm c
    have e := Int.mul_ediv_add_emod (Lin.num a b n t) ((n : Int) + 1)
    have : Lin.lq a b n t < max a b := by
      rcases Int.lt_or_le (Lin.lq a b n t) (max a b) with c2 | c2
      · exact c2
      · have := Int.mul_le_mul_of_nonneg_right c2 (show 0 ≤ (n : Int) + 1 by omega)
        unfold Lin.lq Lin.lr at *
        rw [Int.mul_comm] at e
        omega
    omega
  · rw [if_neg c]; omega
theorem num_step (t : Nat) : Lin.num a b n ((t + 1 : Nat) : Int) = Lin.num a b n t + (b - a) := by unfold Lin.num; rw [show ((t + 1 : Nat) : Int) = (t : Int) + 1 by omega]; grind
/-- from place to place: by the quotients, else by the rests -/
theorem lO_step {s t m : Nat} (hs : s < n) (ht : t < n) (h : Lin.num a b n s < Lin.num a b n t) : lO a b n m s ≤ lO a b n m t := by
  have e1 := Int.mul_ediv_add_emod (Lin.num a b n s) ((n : Int) + 1)
  have e2 := Int.mul_ediv_add_emod (Lin.num a b n t) ((n : Int) + 1)
  have hq : Lin.lq a b n s ≤ Lin.lq a b n t := Int.ediv_le_ediv (by omega) (by omega)
  unfold lO
  rcases Int.lt_or_eq_of_le hq with c | c
  · split <;> split <;> omega
  · have hr : Lin.lr a b n s < Lin.lr a b n t := by unfold Lin.lq at c; unfold Lin.lr; rw [c] at e1; omega
    have hk := (Lin.rank_lt (key := Lin.lr a b n) ht hs).2 (by simp only [Stb.ltT, decide_eq_true_eq]; omega)
    split <;> split <;> omega
theorem lO_same {t m : Nat} (hab : a = b) (ht : t < n) (hm : Lin.miss a b n n = m) : lO a b n m t = a := by
  have := lO_between (a := a) (b := b) ht hm
  omega
theorem lO_up {t m : Nat} (hab : a ≤ b) (ht : t + 1 < n) (hm : Lin.miss a b n n = m) : lO a b n m t ≤ lO a b n m (t + 1) := by
  rcases Int.lt_or_eq_of_le hab with c | c
  · exact lO_step (by omega) ht (by rw [num_step]; omega)
  · rw [lO_same (t := t) c (by omega) hm, lO_same (t := t + 1) c ht hm]; exact Int.le_refl _
theorem lO_dn {t m : Nat} (hab : b ≤ a) (ht : t + 1 < n) (hm : Lin.miss a b n n = m) : lO a b n m (t + 1) ≤ lO a b n m t := by
  rcases Int.lt_or_eq_of_le hab with c | c
  · exact lO_step ht (by omega) (by rw [num_step]; omega)
  · rw [lO_same (t := t + 1) c.symm ht hm, lO_same (t := t) c.symm (by omega) hm]; exact Int.le_refl _
theorem lO_sum {m : Nat} (hmn : m ≤ n) (hm : Lin.miss a b n n = m) : sumf (lO a b n m) n = (n : Int) * (a + b) / 2 := by
  have e : lO a b n m = fun t : Nat => (fun t : Nat => Lin.lq a b n t) t + (fun t : Nat => if Lin.rank (Lin.lr a b n) n t < m then 1 else 0) t := rfl
  rw [e, sumf_add, sumf_rank _ hmn, sumf_lq]
  unfold Lin.miss at hm
  omega
theorem flaw_l0 (ha1 : -10000000 ≤ a) (ha2 : a ≤ 10000000) (hb1 : -10000000 ≤ b) (hb2 : b ≤ 10000000) (hn : n ≤ 40000) {m : Nat} (hmn : m ≤ n) (hm : Lin.miss a b n n = m) (d : Nat) :
    ∀ (k i : Nat), i + d = n → d < k → (-10000000 * (i : Int) ≤ sumf (lO a b n m) i ∧ sumf (lO a b n m) i ≤ 10000000 * i) → pylonlaw11_FillLaw.l0 k a b n (fl (lO a b n m) n) (sumf (lO a b n m) i) n i = some true := by
  induction d with
  | zero =>
    intro k i hi hk hs
    obtain ⟨k, rfl⟩ : ∃ m, k = m + 1 := ⟨k - 1, by omega⟩
    obtain rfl : i = n := by omega
    have hT : (i : Int) * (a + b) ≤ 1000000000000 ∧ -1000000000000 ≤ (i : Int) * (a + b) := by
      have p1 := Int.mul_le_mul_of_nonneg_left (show a + b ≤ 20000000 by omega) (show 0 ≤ (i : Int) by omega)
      have p2 := Int.mul_le_mul_of_nonneg_left (show -20000000 ≤ a + b by omega) (show 0 ≤ (i : Int) by omega)
      omega
    rw [pylonlaw11_FillLaw.l0, if_neg (by omega), lO_sum hmn hm, fw (n := a + b) (by omega) (by omega), fw (n := (i : Int) * (a + b)) (by omega) (by omega), fw (n := 2 * _) (by omega) (by omega), fw (n := _ - 1) (by omega) (by omega)]
    split
    · rfl
    · congr 1; simp; omega
  | succ d ih =>
    intro k i hi hk hs
    obtain ⟨k, rfl⟩ : ∃ m, k = m + 1 := ⟨k - 1, by omega⟩
    have hbt := lO_between (a := a) (b := b) (n := n) (t := i) (by omega) hm
    have nx : pylonlaw11_FillLaw.l0 k a b n (fl (lO a b n m) n) (wrap64 (sumf (lO a b n m) i + rd (fl (lO a b n m) n) i)) n (wrap64 ((i : Int) + 1)) = some true := by
      rw [fl_rd _ (by omega), fw (by omega) (by omega), fw (n := (i : Int) + 1) (by omega) (by omega)]
      exact ih k (i + 1) (by omega) (by omega) (by rw [sumf]; omega)
    rw [pylonlaw11_FillLaw.l0, if_pos (by omega), if_pos (by omega), if_pos (by rw [fl_len]; omega), if_neg (by rw [fl_rd _ (by omega)]; unfold mn; omega), if_neg (by rw [fl_rd _ (by omega)]; unfold mx; omega), nx]
    by_cases c0 : (i : Int) > 0
    · obtain ⟨j, rfl⟩ : ∃ j, i = j + 1 := ⟨i - 1, by omega⟩
      rw [if_pos c0, fw (n := ((j + 1 : Nat) : Int) - 1) (by omega) (by omega), show ((j + 1 : Nat) : Int) - 1 = j by omega, if_pos (show (0 : Int) ≤ j by omega), if_pos (show (j : Int) < (fl (lO a b n m) n).length by rw [fl_len]; omega), fl_rd _ (show j < n by omega), fl_rd _ (show j + 1 < n by omega)]
      by_cases c1 : a ≤ b
      · have u := lO_up c1 (show j + 1 < n by omega) hm
        rw [if_pos c1, if_neg (by omega)]
        by_cases c2 : a ≥ b
        · have v := lO_dn c2 (show j + 1 < n by omega) hm
          rw [if_pos c2, if_neg (by omega)]
        · rw [if_neg c2]
      · have v := lO_dn (show b ≤ a by omega) (show j + 1 < n by omega) hm
        rw [if_neg c1, if_pos (show a ≥ b by omega), if_neg (show ¬ lO a b n m (j + 1) > lO a b n m j by omega)]
        rw [if_pos (show (0 : Int) ≤ j by omega), if_pos (show (j : Int) < (fl (lO a b n m) n).length by rw [fl_len]; omega)]
    · rw [if_neg c0]
end
theorem FillLaw_pure (a0 : Int) (a1 : Int) (a2 : Int) (h0 : (Lit.int .i64 a0).wf = true) (h1 : (Lit.int .i64 a1).wf = true) (h2 : (Lit.int .i64 a2).wf = true) : ∃ k, pylonlaw11_FillLaw.f k a0 a1 a2 = some true := by
  refine ⟨50000, ?_⟩
  rw [pylonlaw11_FillLaw.f, fawake (by omega)]
  simp only [Option.bind_some, if_true]
  by_cases hc : a2 < 0 ∨ 40000 < a2 ∨ (a0 < -10000000 ∨ 10000000 < a0) ∨ (a1 < -10000000 ∨ 10000000 < a1)
  · have e : fill_Line.f a0 a1 a2 = some ([], 8) := by unfold fill_Line.f; rw [if_pos hc]
    have j : pylonlaw11_FillLaw.j0 50000 a0 a1 a2 [] 8 true = some true := by rw [pylonlaw11_FillLaw.j0, if_pos rfl, if_pos rfl]; rfl
    rw [e]
    simp only [Option.bind_some, j]
    (repeat' split) <;> first | rfl | skip
    rw [show decide (a1 > 10000000) = true from decide_eq_true (by omega), j]
  · obtain ⟨n, rfl⟩ : ∃ n : Nat, a2 = n := ⟨a2.toNat, by omega⟩
    have hmb := Lin.miss_bounds a0 a1 n (by omega)
    simp only [Int.toNat_natCast] at hmb
    obtain ⟨m, hm⟩ : ∃ m : Nat, Lin.miss a0 a1 n n = m := ⟨(Lin.miss a0 a1 n n).toNat, by omega⟩
    have e : fill_Line.f a0 a1 n = some (fl (lO a0 a1 n m) n, 0) := by
      unfold fill_Line.f
      rw [if_neg hc, Int.toNat_natCast]
      congr 2
      refine fl_congr fun t ht => ?_
      unfold Lin.out lO
      rw [Int.toNat_natCast, hm]
      simp only [show (Lin.rank (Lin.lr a0 a1 n) n t : Int) < (m : Int) ↔ Lin.rank (Lin.lr a0 a1 n) n t < m by omega]
    rw [e]
    simp only [Option.bind_some]
    rw [if_neg (by omega), if_neg (by omega), if_neg (by omega), if_neg (by omega), if_neg (by omega), show decide (a1 > 10000000) = false from decide_eq_false (by omega), pylonlaw11_FillLaw.j0, if_neg (by decide), if_pos rfl, show ((((fl (lO a0 a1 n m) n).length : Int) != n) = false) by rw [fl_len]; simp, pylonlaw11_FillLaw.j1, if_neg (by decide), fl_len]
    have := flaw_l0 (a := a0) (b := a1) (n := n) (by omega) (by omega) (by omega) (by omega) (by omega) (m := m) (by omega) hm n 49998 0 (by omega) (by omega) (by simp [sumf])
    exact this
end Go.Proofs.Ythhifeefkmaeiaa.PX
