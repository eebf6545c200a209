/- A line's numbers lie between its ends. -/
import Derived.Test.YthhifeefkmaeiaaFfA
namespace Go.Proofs.Ythhifeefkmaeiaa.PX
open Go.RowKit Go.Proofs.YthhifeefkmaeiaaW.PrintWords Go.Proofs.YthhifeefkmaeiaaW.PrintLast Go.Proofs.YthhifeefkmaeiaaW.PrintMore
set_option linter.unusedVariables false
set_option linter.unusedSimpArgs false
def sumf (f : Nat → Int) : Nat → Int
  | 0 => 0
  | n + 1 => sumf f n + f n
theorem sumf_le {f g : Nat → Int} {n : Nat} (h : ∀ t, t < n → f t ≤ g t) : sumf f n ≤ sumf g n := by
  induction n with
  | zero => exact Int.le_refl _
  | succ n ih => have := ih (fun t ht => h t (by omega)); have := h n (by omega); simp only [sumf]; omega
theorem sumf_add (f g : Nat → Int) (n : Nat) : sumf (fun t => f t + g t) n = sumf f n + sumf g n := by
  induction n with
  | zero => rfl
  | succ n ih => simp only [sumf, ih]; omega
theorem sumf_mul (c : Int) (f : Nat → Int) (n : Nat) : sumf (fun t => c * f t) n = c * sumf f n := by
  induction n with
  | zero => simp [sumf]
  | succ n ih => simp only [sumf, ih, Int.mul_add]
theorem sumf_lq (a b g : Int) (n : Nat) : sumf (fun t => Lin.lq a b g t) n = Lin.sumq a b g n := by
  induction n with
  | zero => rfl
  | succ n ih => simp only [sumf, ih, Lin.sumq]
theorem sumf_ind (p : Nat → Bool) (n : Nat) : sumf (fun t => if p t then 1 else 0) n = ((List.range n).countP p : Nat) := by
  induction n with
  | zero => rfl
  | succ n ih => rw [sumf, ih, List.range_succ, List.countP_append]; by_cases c : p n = true <;> simp [c]
theorem sumf_rank (key : Int → Int) {n m : Nat} (hm : m ≤ n) : sumf (fun t => if Lin.rank key n t < m then 1 else 0) n = m := by
  have h := sumf_ind (fun t => decide (Lin.rank key n t < m)) n
  simp only [decide_eq_true_eq] at h
  rw [h]
  obtain ⟨d, hd⟩ := Lin.ranked key n
  have e1 : (List.range n).countP (fun t : Nat => decide (Lin.rank key n t < m)) = ((List.range n).map (fun t : Nat => (t : Int))).countP fun x => decide (Lin.rank key n x < m) := by rw [List.countP_map]; rfl
  rw [e1, ← hd.perm.countP_eq, List.countP_map, Lin.countP_congr' (q := fun i => decide (i < m)) _ (fun i hi => ?_), Lin.countP_lt, Nat.min_eq_right hm]
  show decide (Lin.rank key n d[i]! < m) = _
  rw [hd.at_ i (List.mem_range.1 hi)]
section
variable {a b : Int} {n : Nat}
theorem sum_id (n0 : Nat) : 2 * (((n : Int) + 1) * Lin.sumq a b n n0 + sumf (fun t => Lin.lr a b n t) n0) = n0 * (2 * (a * n) - a * (n0 - 1) + b * (n0 + 1)) := by
  induction n0 with
  | zero => simp [Lin.sumq, sumf]
  | succ k ih =>
    have e := Int.mul_ediv_add_emod (Lin.num a b n k) ((n : Int) + 1)
    rw [Lin.sumq, sumf, Lin.lq, Lin.lr]
    generalize Lin.num a b n k / ((n : Int) + 1) = q at *
    generalize Lin.num a b n k % ((n : Int) + 1) = r at *
    have e2 : Lin.num a b n k = a * ((n : Int) + 1 - (k + 1)) + b * (k + 1) := rfl
    rw [show ((k + 1 : Nat) : Int) = (k : Int) + 1 by omega]
    generalize Lin.sumq a b n k = S at *
    generalize sumf (fun t => Lin.lr a b n t) k = R at *
    generalize (k : Int) = m at *
    generalize (n : Int) = g at *
    grind
theorem lr_lt (t : Nat) : Lin.lr a b n t ≤ n := by have := Int.emod_lt_of_pos (Lin.num a b n t) (show 0 < (n : Int) + 1 by omega); unfold Lin.lr; omega
/-- who gets one more has a rest -/
theorem rest_pos {t m : Nat} (ht : t < n) (hm : Lin.miss a b n n = m) (hr : Lin.rank (Lin.lr a b n) n t < m) : 0 < Lin.lr a b n t := by
  have h0 : 0 ≤ Lin.lr a b n t := lr_nonneg t
  rcases Int.lt_or_eq_of_le h0 with c | c
  · exact c
  · exfalso
    obtain ⟨p, hp⟩ : ∃ p, Lin.rank (Lin.lr a b n) n t = p := ⟨_, rfl⟩
    have hpn := Lin.rank_bd (key := Lin.lr a b n) ht
    have hle : sumf (fun s => Lin.lr a b n s) n ≤ sumf (fun s => (n : Int) * if Lin.rank (Lin.lr a b n) n s < p then 1 else 0) n := sumf_le fun s hs => by
      by_cases c2 : Lin.rank (Lin.lr a b n) n s < p
      · rw [if_pos c2, Int.mul_one]; exact lr_lt s
      · rw [if_neg c2, Int.mul_zero]
        by_cases c3 : s = t
        · subst c3; omega
        · have hne : Lin.rank (Lin.lr a b n) n s ≠ Lin.rank (Lin.lr a b n) n t := fun e => c3 (Lin.rank_inj hs ht e)
          have := (Lin.rank_lt (key := Lin.lr a b n) ht hs).1 (by omega)
          simp only [Stb.ltT, decide_eq_true_eq] at this
          have := lr_nonneg (a := a) (b := b) (n := n) s
          omega
    rw [sumf_mul, sumf_rank _ (by omega)] at hle
    have hid := sum_id (a := a) (b := b) (n := n) n
    unfold Lin.miss at hm
    generalize sumf (fun t => Lin.lr a b n t) n = R at *
    generalize Lin.sumq a b n n = S at *
    have h3 : 2 * (((n : Int) + 1) * S + R) = ((n : Int) + 1) * ((n : Int) * (a + b)) := by rw [hid]; grind
    generalize (n : Int) * (a + b) = T at *
    have h4 : ((n : Int) + 1) * (T - 2 * S) = 2 * R := by grind
    have h5 : 2 * (m : Int) ≤ T - 2 * S := by omega
    have h6 := Int.mul_le_mul_of_nonneg_left h5 (show 0 ≤ (n : Int) + 1 by omega)
    have h7 : ((n : Int) + 1) * (2 * (m : Int)) = 2 * ((n : Int) * m) + 2 * m := by grind
    have h8 := Int.mul_le_mul_of_nonneg_left (show (p : Int) + 1 ≤ m by omega) (show 0 ≤ (n : Int) by omega)
    rw [Int.mul_add] at h8
    omega
theorem num_between {t : Nat} (ht : t < n) : min a b * ((n : Int) + 1) ≤ Lin.num a b n t ∧ Lin.num a b n t ≤ max a b * ((n : Int) + 1) := by
  have a1 := Int.mul_le_mul_of_nonneg_right (Int.min_le_left a b) (show 0 ≤ (n : Int) + 1 - (t + 1) by omega)
  have b1 := Int.mul_le_mul_of_nonneg_right (Int.min_le_right a b) (show 0 ≤ (t : Int) + 1 by omega)
  have a2 := Int.mul_le_mul_of_nonneg_right (Int.le_max_left a b) (show 0 ≤ (n : Int) + 1 - (t + 1) by omega)
  have b2 := Int.mul_le_mul_of_nonneg_right (Int.le_max_right a b) (show 0 ≤ (t : Int) + 1 by omega)
  unfold Lin.num
  generalize min a b = u at *
  generalize max a b = v at *
  have e1 : u * ((n : Int) + 1) = u * ((n : Int) + 1 - (t + 1)) + u * ((t : Int) + 1) := by grind
  have e2 : v * ((n : Int) + 1) = v * ((n : Int) + 1 - (t + 1)) + v * ((t : Int) + 1) := by grind
  omega
theorem lO_between {t m : Nat} (ht : t < n) (hm : Lin.miss a b n n = m) : min a b ≤ lO a b n m t ∧ lO a b n m t ≤ max a b := by
  have h := num_between (a := a) (b := b) ht
  have l1 : min a b ≤ Lin.lq a b n t := Int.le_ediv_of_mul_le (by omega) h.1
  have l2 : Lin.lq a b n t ≤ max a b := Int.ediv_le_of_le_mul (by omega) h.2
  unfold lO
  by_cases c : Lin.rank (Lin.lr a b n) n t < m
  · rw [if_pos c]
    have hp := rest_pos ht hm c
    have e := Int.mul_ediv_add_emod (Lin.num a b n t) ((n : Int) + 1)
    have : Lin.lq a b n t < max a b := by
      rcases Int.lt_or_le (Lin.lq a b n t) (max a b) with c2 | c2
      · exact c2
      · have := Int.mul_le_mul_of_nonneg_right c2 (show 0 ≤ (n : Int) + 1 by omega)
        unfold Lin.lq Lin.lr at *
        rw [Int.mul_comm] at e
        omega
    omega
  · rw [if_neg c]; omega
end
end Go.Proofs.Ythhifeefkmaeiaa.PX
