/- Functions of the program as plain Lean functions, each with a proof that the call in the machine answers just what the plain function says; condition: the plain function answers at all. -/
import Derived.Test.YtddkckpfmleffaaPXx0
import Derived.Test.YtddkckpfmleffaaPXx1
import Derived.Test.YtddkckpfmleffaaPXx4
import Derived.Test.YtddkckpfmleffaaPXx13
namespace Go.Proofs.Ytddkckpfmleffaa.PX
open Go.RowKit Go.Proofs.YtddkckpfmleffaaW.PrintWords Go.Proofs.YtddkckpfmleffaaW.PrintLast Go.Proofs.YtddkckpfmleffaaW.PrintMore
attribute [local go_sem] max2_int min2_int max_two min_two max_three min_three max_four min_four   -- for this text's walks alone
set_option linter.unusedVariables false
set_option linter.unusedSimpArgs false

attribute [local go_sem high] eqA33
/-! ### pylonref01_SameNumbers: function 24 -/
def pylonref01_SameNumbers.l0 : Nat → List Int → List Int → Int → Int → Option (Bool)
 | 0, _, _, _, _ => none
 | k + 1, x0, x1, x12, x13 => if x13 < x12 then (if 0 ≤ x13 then (if x13 < (x0.length : Int) then (if x13 < (x1.length : Int) then (if (rd x0 x13) = (rd x1 x13) then (pylonref01_SameNumbers.l0 k x0 x1 x12 (wrap64 (x13 + 1))) else (some false)) else (none)) else (none)) else (none)) else (some true)
def pylonref01_SameNumbers.f (k : Nat) (l0 : List Int) (l1 : List Int) : Option (Bool) := if (l0.length : Int) = (l1.length : Int) then (pylonref01_SameNumbers.l0 k l0 l1 (l0.length : Int) 0) else (some false)
theorem pylonref01_SameNumbers.mono_l : ∀ k, (∀ y0 y1 y2 y3, LeO (pylonref01_SameNumbers.l0 k y0 y1 y2 y3) (pylonref01_SameNumbers.l0 (k + 1) y0 y1 y2 y3))
 | 0 => fun _ _ _ _ r h => by simp [pylonref01_SameNumbers.l0] at h
 | k + 1 => by
  have ih0 := pylonref01_SameNumbers.mono_l k
  ·intro y0 y1 y2 y3
   unfold pylonref01_SameNumbers.l0
   repeat' first
   | (with_reducible exact ih0 _ _ _ _)
   | (with_reducible exact LeO.refl _)
   | (with_reducible exact LeO.none _)
   | (with_reducible refine LeO.ite ?_ ?_)
   | (with_reducible refine LeO.bind ?_ (fun _ => ?_))
   | exact ih0 _ _ _ _
   | exact LeO.none _
   | refine LeO.ite ?_ ?_
   | refine LeO.bind ?_ (fun _ => ?_)
theorem pylonref01_SameNumbers.mono : ∀ a0 a1 k, LeO (pylonref01_SameNumbers.f k a0 a1) (pylonref01_SameNumbers.f (k + 1) a0 a1) := by
 intro a0 a1 k
 have ih0 := pylonref01_SameNumbers.mono_l k
 unfold pylonref01_SameNumbers.f
 repeat' first
   | (with_reducible exact ih0 _ _ _ _)
   | (with_reducible exact LeO.refl _)
   | (with_reducible exact LeO.none _)
   | (with_reducible refine LeO.ite ?_ ?_)
   | (with_reducible refine LeO.bind ?_ (fun _ => ?_))
   | exact ih0 _ _ _ _
   | exact LeO.none _
   | refine LeO.ite ?_ ?_
   | refine LeO.bind ?_ (fun _ => ?_)
set_option maxHeartbeats 8000000 in
set_option maxRecDepth 100000 in
theorem pylonref01_SameNumbers.calls (k : Nat) (A0 : Option Addr) (c0 : Nat) (l0 : List Int) (A1 : Option Addr) (c1 : Nat) (l1 : List Int) (r : Bool) (w : World) (hr0 : Kd.C (Kd.int .i64) w A0 l0.length l0) (hc0 : l0.length ≤ c0) (hr1 : Kd.C (Kd.int .i64) w A1 l1.length l1) (hc1 : l1.length ≤ c1) (h : pylonref01_SameNumbers.f k l0 l1 = some r) :
  Calls Try.prog 24 #[.slice A0 l0.length c0, .slice A1 l1.length c1] w fun e w' => e = .returned (.bool r) ∧ Drawn0 w w' := by
 have HR0 := AX hr0
 have HC0 := AX hc0
 clear hr0 hc0
 have HR1 := AX hr1
 have HC1 := AX hc1
 clear hr1 hc1
 have H : (if (l0.length : Int) = (l1.length : Int) then (pylonref01_SameNumbers.l0 k l0 l1 (l0.length : Int) 0) else (some false)) = some r := h
 clear h
 by_cases c3 : (l0.length : Int) = (l1.length : Int)
 ·rw [if_pos c3] at H
  have c3b0 : ((l0.length : Int) == (l1.length : Int)) = true := beq_iff_eq.mpr c3
  have c3b1 : ((l0.length : Int) != (l1.length : Int)) = false := bne_eq_false_iff_eq.mpr c3
  have c3b2 : (l0.length == l1.length) = true := by first | simpa using c3 | (simp at c3 ⊢; omega)
  clear c3
  have H' := AX H
  clear H
  go_enter Try.func24, Try.ntmps24
  go_wp2
  repeat (go_quiet (fail); try go_wp2)
  go_loopg [13] k (fun kq v13 w' => ∃ (x13_1 : Int), v13 = .int .i64 x13_1 ∧ Aside0 (pylonref01_SameNumbers.l0 kq l0 l1 (l0.length : Int) x13_1 = some r) ∧ Aside0 (kq ≤ k) ∧ Drawn0 w w')
  case atStart => exact ⟨(0), (by first | rfl | (simp; done) | (simp [*]; done)), H', ⟨Nat.le_refl _⟩, by repeat (first | exact Drawn0.refl _ | apply Drawn0.step)⟩
  case round =>
   clear H'
   try clear c1
   try clear c3
   try clear c3b0
   try clear c3b1
   try clear c3b2
   obtain ⟨x13_1, rfl, HA, HK1, ⟨m1, rfl⟩⟩ := hrel
   cases gk with
   | zero => exact absurd HA.out (by simp [pylonref01_SameNumbers.l0])
   | succ k1 =>
    have H := HA.out
    clear HA
    simp only [pylonref01_SameNumbers.l0] at H
    by_cases c4 : x13_1 < (l0.length : Int)
    ·rw [if_pos c4] at H
     have c4b0 : decide (x13_1 < (l0.length : Int)) = true := decide_eq_true c4
     clear c4
     by_cases c5 : 0 ≤ x13_1
     ·rw [if_pos c5] at H
      have c5b0 : decide (0 ≤ x13_1) = true := decide_eq_true c5
      clear c5
      by_cases c6 : x13_1 < (l0.length : Int)
      ·rw [if_pos c6] at H
       have c6b0 : decide (x13_1 < (l0.length : Int)) = true := decide_eq_true c6
       clear c6
       by_cases c7 : x13_1 < (l1.length : Int)
       ·rw [if_pos c7] at H
        have c7b0 : decide (x13_1 < (l1.length : Int)) = true := decide_eq_true c7
        clear c7
        by_cases c8 : (rd l0 x13_1) = (rd l1 x13_1)
        ·rw [if_pos c8] at H
         have c8b0 : ((rd l0 x13_1) == (rd l1 x13_1)) = true := beq_iff_eq.mpr c8
         have c8b1 : ((rd l0 x13_1) != (rd l1 x13_1)) = false := bne_eq_false_iff_eq.mpr c8
         clear c8
         have H' := AX H
         clear H
         have p449 : 0 ≤ (x13_1 : Int) := of_decide_eq_true (by first | (with_reducible assumption) | assumption)
         have q449 : x13_1 < (l0.length : Int) := of_decide_eq_true (by first | (with_reducible assumption) | assumption)
         obtain ⟨ad449, e449, hx449_0⟩ := Kd.at_int HR0.out x13_1 p449 q449
         cases e449
         replace p449 := eq_true p449
         replace q449 := eq_true q449
         have p450 : 0 ≤ (x13_1 : Int) := of_decide_eq_true (by first | (with_reducible assumption) | assumption)
         have q450 : x13_1 < (l1.length : Int) := of_decide_eq_true (by first | (with_reducible assumption) | assumption)
         obtain ⟨ad450, e450, hx450_0⟩ := Kd.at_int HR1.out x13_1 p450 q450
         cases e450
         replace p450 := eq_true p450
         replace q450 := eq_true q450
         go_wp2
         repeat (go_quiet (fail); try go_wp2)
         go_roundg k1
         case measure => have := HK1.out; omega
         case rel => exact ⟨(wrap64 (x13_1 + 1)), (by first | rfl | (simp; done) | (simp [*]; done)), H', ⟨by have := HK1.out; omega⟩, by repeat (first | exact Drawn0.refl _ | apply Drawn0.step)⟩
        ·rw [if_neg c8] at H
         have c8b0 : ((rd l0 x13_1) == (rd l1 x13_1)) = false := beq_eq_false_iff_ne.mpr c8
         have c8b1 : ((rd l0 x13_1) != (rd l1 x13_1)) = true := bne_iff_ne.mpr c8
         obtain rfl := Option.some.inj H
         have p449 : 0 ≤ (x13_1 : Int) := of_decide_eq_true (by first | (with_reducible assumption) | assumption)
         have q449 : x13_1 < (l0.length : Int) := of_decide_eq_true (by first | (with_reducible assumption) | assumption)
         obtain ⟨ad449, e449, hx449_0⟩ := Kd.at_int HR0.out x13_1 p449 q449
         cases e449
         replace p449 := eq_true p449
         replace q449 := eq_true q449
         have p450 : 0 ≤ (x13_1 : Int) := of_decide_eq_true (by first | (with_reducible assumption) | assumption)
         have q450 : x13_1 < (l1.length : Int) := of_decide_eq_true (by first | (with_reducible assumption) | assumption)
         obtain ⟨ad450, e450, hx450_0⟩ := Kd.at_int HR1.out x13_1 p450 q450
         cases e450
         replace p450 := eq_true p450
         replace q450 := eq_true q450
         go_wp2
         repeat (go_quiet (fail); try go_wp2)
         go_ret
         exact ⟨by first | rfl | (simp; done) | (simp [*]; done), by repeat (first | exact Drawn0.refl _ | apply Drawn0.step)⟩
       ·rw [if_neg c7] at H
        exact absurd H (by simp)
      ·rw [if_neg c6] at H
       exact absurd H (by simp)
     ·rw [if_neg c5] at H
      exact absurd H (by simp)
    ·rw [if_neg c4] at H
     have c4b0 : decide (x13_1 < (l0.length : Int)) = false := decide_eq_false c4
     clear c4
     obtain rfl := Option.some.inj H
     go_wp2
     repeat (go_quiet (fail); try go_wp2)
     go_ret
     exact ⟨by first | rfl | (simp; done) | (simp [*]; done), by repeat (first | exact Drawn0.refl _ | apply Drawn0.step)⟩
 ·rw [if_neg c3] at H
  have c3b0 : ((l0.length : Int) == (l1.length : Int)) = false := beq_eq_false_iff_ne.mpr c3
  have c3b1 : ((l0.length : Int) != (l1.length : Int)) = true := bne_iff_ne.mpr c3
  have c3b2 : (l0.length == l1.length) = false := by first | simpa using c3 | (simp at c3 ⊢; omega)
  obtain rfl := Option.some.inj H
  go_enter Try.func24, Try.ntmps24
  go_wp2
  repeat (go_quiet (fail); try go_wp2)
  go_ret
  exact ⟨by first | rfl | (simp; done) | (simp [*]; done), by repeat (first | exact Drawn0.refl _ | apply Drawn0.step)⟩

/-! ### pylonlaw04_minutes: function 28 -/
def pylonlaw04_minutes.j0 : Nat → Bool → Int → Int → Int → Int → Int → Int → Int → Int → Int → Int → Int → Int → Int → Option (Int)
 | 0, _, _, _, _, _, _, _, _, _, _, _, _, _, _ => none
 | k + 1, x18, x480000, x480001, x480002, x480003, x480004, x480005, x480006, x480007, x480008, x480009, x481000, x481001, x481002 => if x18 = true then (some 0) else ((pylonref03_Nth.f k x481000 x480002 x480003 x480004).bind fun bt481 => (if bt481.2.2.2 = 0 then (if (!(bt481.1 == x481000) || (!(bt481.2.1 == x481001) || (!(bt481.2.2.1 == x481002)))) = true then (some 0) else (some x480001)) else (some 0)))
def pylonlaw04_minutes.f (k : Nat) (a0_0 : Int) (a0_1 : Int) (a0_2 : Int) (a0_3 : Int) (a0_4 : Int) (a0_5 : Int) (a0_6 : Int) (a0_7 : Int) (a0_8 : Int) (a0_9 : Int) (a1_0 : Int) (a1_1 : Int) (a1_2 : Int) : Option (Int) := if a0_1 = 0 then (pylonlaw04_minutes.j0 k true a0_0 a0_1 a0_2 a0_3 a0_4 a0_5 a0_6 a0_7 a0_8 a0_9 a1_0 a1_1 a1_2) else (pylonlaw04_minutes.j0 k ((wrap64 (a0_5 + a0_1)) != 1440) a0_0 a0_1 a0_2 a0_3 a0_4 a0_5 a0_6 a0_7 a0_8 a0_9 a1_0 a1_1 a1_2)
theorem pylonlaw04_minutes.mono_l : ∀ k, (∀ y0 y1 y2 y3 y4 y5 y6 y7 y8 y9 y10 y11 y12 y13, LeO (pylonlaw04_minutes.j0 k y0 y1 y2 y3 y4 y5 y6 y7 y8 y9 y10 y11 y12 y13) (pylonlaw04_minutes.j0 (k + 1) y0 y1 y2 y3 y4 y5 y6 y7 y8 y9 y10 y11 y12 y13))
 | 0 => fun _ _ _ _ _ _ _ _ _ _ _ _ _ _ r h => by simp [pylonlaw04_minutes.j0] at h
 | k + 1 => by
  have ih0 := pylonlaw04_minutes.mono_l k
  ·intro y0 y1 y2 y3 y4 y5 y6 y7 y8 y9 y10 y11 y12 y13
   unfold pylonlaw04_minutes.j0
   repeat' first
   | (with_reducible exact ih0 _ _ _ _ _ _ _ _ _ _ _ _ _ _)
   | (with_reducible exact pylonref03_Nth.mono _ _ _ _ _)
   | (with_reducible exact LeO.refl _)
   | (with_reducible exact LeO.none _)
   | (with_reducible refine LeO.ite ?_ ?_)
   | (with_reducible refine LeO.bind ?_ (fun _ => ?_))
   | exact ih0 _ _ _ _ _ _ _ _ _ _ _ _ _ _
   | exact pylonref03_Nth.mono _ _ _ _ _
   | exact LeO.none _
   | refine LeO.ite ?_ ?_
   | refine LeO.bind ?_ (fun _ => ?_)
theorem pylonlaw04_minutes.mono : ∀ a0 a1 a2 a3 a4 a5 a6 a7 a8 a9 a10 a11 a12 k, LeO (pylonlaw04_minutes.f k a0 a1 a2 a3 a4 a5 a6 a7 a8 a9 a10 a11 a12) (pylonlaw04_minutes.f (k + 1) a0 a1 a2 a3 a4 a5 a6 a7 a8 a9 a10 a11 a12) := by
 intro a0 a1 a2 a3 a4 a5 a6 a7 a8 a9 a10 a11 a12 k
 have ih0 := pylonlaw04_minutes.mono_l k
 unfold pylonlaw04_minutes.f
 repeat' first
   | (with_reducible exact ih0 _ _ _ _ _ _ _ _ _ _ _ _ _ _)
   | (with_reducible exact pylonref03_Nth.mono _ _ _ _ _)
   | (with_reducible exact LeO.refl _)
   | (with_reducible exact LeO.none _)
   | (with_reducible refine LeO.ite ?_ ?_)
   | (with_reducible refine LeO.bind ?_ (fun _ => ?_))
   | exact ih0 _ _ _ _ _ _ _ _ _ _ _ _ _ _
   | exact pylonref03_Nth.mono _ _ _ _ _
   | exact LeO.none _
   | refine LeO.ite ?_ ?_
   | refine LeO.bind ?_ (fun _ => ?_)
set_option maxHeartbeats 8000000 in
set_option maxRecDepth 100000 in
theorem pylonlaw04_minutes.calls (k : Nat) (a0_0 : Int) (a0_1 : Int) (a0_2 : Int) (a0_3 : Int) (a0_4 : Int) (a0_5 : Int) (a0_6 : Int) (a0_7 : Int) (a0_8 : Int) (a0_9 : Int) (a1_0 : Int) (a1_1 : Int) (a1_2 : Int) (r : Int) (w : World) (h : pylonlaw04_minutes.f k a0_0 a0_1 a0_2 a0_3 a0_4 a0_5 a0_6 a0_7 a0_8 a0_9 a1_0 a1_1 a1_2 = some r) :
  Calls Try.prog 28 #[.agg #[.int .i64 a0_0, .int .i64 a0_1, .int .i64 a0_2, .int .i64 a0_3, .int .i64 a0_4, .int .i64 a0_5, .int .i64 a0_6, .int .i64 a0_7, .int .i64 a0_8, .int .i64 a0_9], .agg #[.int .i64 a1_0, .int .i64 a1_1, .int .i64 a1_2]] w fun e w' => e = .returned (.int .i64 r) ∧ Below w.heap.size w w' := by
 have hu25 := Try.underlying25
 have hu33 := Try.underlying33
 have HB := AX (Below.refl w.heap.size w)
 have H : (if a0_1 = 0 then (pylonlaw04_minutes.j0 k true a0_0 a0_1 a0_2 a0_3 a0_4 a0_5 a0_6 a0_7 a0_8 a0_9 a1_0 a1_1 a1_2) else (pylonlaw04_minutes.j0 k ((wrap64 (a0_5 + a0_1)) != 1440) a0_0 a0_1 a0_2 a0_3 a0_4 a0_5 a0_6 a0_7 a0_8 a0_9 a1_0 a1_1 a1_2)) = some r := h
 clear h
 have HC3 := AX H
 clear H
 go_enter Try.func28, Try.ntmps28
 go_upto_region 1 with (first | ((with_reducible refine gate_dst (N := 2) rfl ?_); refine box_event ?hg (N := 2) ?hd (cs := #[.int .i64 a0_0, .int .i64 a0_1, .int .i64 a0_2, .int .i64 a0_3, .int .i64 a0_4, .int .i64 a0_5, .int .i64 a0_6, .int .i64 a0_7, .int .i64 a0_8, .int .i64 a0_9]) (t := 25) ?hr ?_; (case hd => rfl); (case hg => rfl); (case hr => first | (go_simp; done) | (go_simp; rfl)); intro gb479 hg w4 hbox hb; have n0_ := AX (below_step bw hb); have n1_ := AX (hbox); have n2_ := AX ((by rw [hg]; exact (below_size bw) : w.heap.size ≤ gb479)); have n3_ := n2_; clear HB; have HB := n0_; have BK479 := n1_; have GW479 := n2_; have GE479 := n3_; clear n0_ n1_ n2_ n3_; clear hb hbox hg) | ((with_reducible refine gate_dst (N := 3) rfl ?_); refine box_event ?hg (N := 3) ?hd (cs := #[.int .i64 a1_0, .int .i64 a1_1, .int .i64 a1_2]) (t := 33) ?hr ?_; (case hd => rfl); (case hg => rfl); (case hr => first | (go_simp; done) | (go_simp; rfl)); intro gb480 hg w5 hbox hb; have n0_ := AX (bkb BK479 hb); have n1_ := AX (below_step bw hb); have n2_ := AX (hbox); have n3_ := AX ((by rw [hg]; exact (below_size bw) : w.heap.size ≤ gb480)); have n4_ := n3_; have n5_ := AX ((by rw [hg]; exact Nat.ne_of_lt (blk_lt (bkn BK479)) : gb479 ≠ gb480)); have n6_ := AX ((by rw [hg]; exact Nat.ne_of_gt (blk_lt (bkn BK479)) : gb480 ≠ gb479)); clear BK479; clear HB; have BK479 := n0_; have HB := n1_; have BK480 := n2_; have GW480 := n3_; have GE480 := n4_; have NB479_480 := n5_; have NB480_479 := n6_; clear n0_ n1_ n2_ n3_ n4_ n5_ n6_; clear hb hbox hg))
 (try simp only [Act.put, List.setIfInBounds_toArray, List.set_cons_zero, List.set_cons_succ])
 go_cut [18] (fun v18 wc => ∃ (kq : Nat) (x18_2 : Bool), v18 = .bool x18_2 ∧ Aside0 (pylonlaw04_minutes.j0 kq x18_2 a0_0 a0_1 a0_2 a0_3 a0_4 a0_5 a0_6 a0_7 a0_8 a0_9 a1_0 a1_1 a1_2 = some r) ∧ Aside0 (kq ≤ k) ∧ Aside0 (wc.heap[gb479]? = some (.cells #[.int .i64 a0_0, .int .i64 a0_1, .int .i64 a0_2, .int .i64 a0_3, .int .i64 a0_4, .int .i64 a0_5, .int .i64 a0_6, .int .i64 a0_7, .int .i64 a0_8, .int .i64 a0_9] 25 (0, 0))) ∧ Aside0 (wc.heap[gb480]? = some (.cells #[.int .i64 a1_0, .int .i64 a1_1, .int .i64 a1_2] 33 (0, 0))) ∧ Aside0 (Below w.heap.size w wc))
 case first =>
  have H := HC3.out
  clear HC3
  by_cases c6 : a0_1 = 0
  ·rw [if_pos c6] at H
   have c6b0 : (a0_1 == 0) = true := beq_iff_eq.mpr c6
   have c6b1 : (a0_1 != 0) = false := bne_eq_false_iff_eq.mpr c6
   clear c6
   (first | rw [c6b0] | (simp only [i64_w, i32_w]; rw [c6b0]) | skip)
   have H' := AX H
   clear H
   have hnb7 := NB479_480.out
   have hnc7 := NB480_479.out
   obtain ⟨hcz8_0, hcz8_1, hcz8_2, hcz8_3, hcz8_4, hcz8_5, hcz8_6, hcz8_7, hcz8_8, hcz8_9⟩ := blkC10 (w := w5) BK479.out
   obtain ⟨hfz8_0, hfz8_1, hfz8_2, hfz8_3, hfz8_4, hfz8_5, hfz8_6, hfz8_7, hfz8_8, hfz8_9⟩ := blkF10 BK479.out
   go_wp2
   go_meet
   case rel => exact ⟨_, (true), (by first | rfl | (simp; done) | (simp [*]; done)), H', ⟨by first | omega | exact Nat.le_refl _⟩, ⟨bkn BK479⟩, ⟨bkn BK480⟩, ⟨bw⟩⟩
  ·rw [if_neg c6] at H
   have c6b0 : (a0_1 == 0) = false := beq_eq_false_iff_ne.mpr c6
   have c6b1 : (a0_1 != 0) = true := bne_iff_ne.mpr c6
   (first | rw [c6b0] | (simp only [i64_w, i32_w]; rw [c6b0]) | skip)
   have H' := AX H
   clear H
   have hnb9 := NB479_480.out
   have hnc9 := NB480_479.out
   obtain ⟨hcz10_0, hcz10_1, hcz10_2, hcz10_3, hcz10_4, hcz10_5, hcz10_6, hcz10_7, hcz10_8, hcz10_9⟩ := blkC10 (w := w5) BK479.out
   obtain ⟨hfz10_0, hfz10_1, hfz10_2, hfz10_3, hfz10_4, hfz10_5, hfz10_6, hfz10_7, hfz10_8, hfz10_9⟩ := blkF10 BK479.out
   go_wp2
   go_meet
   case rel => exact ⟨_, (((wrap64 (a0_5 + a0_1)) != 1440)), (by first | rfl | (simp; done) | (simp [*]; done)), H', ⟨by first | omega | exact Nat.le_refl _⟩, ⟨bkn BK479⟩, ⟨bkn BK480⟩, ⟨bw⟩⟩
 case rest =>
  clear HC3
  obtain ⟨kq, x18_2, rfl, HA, HJ2, BK479, BK480, HB⟩ := hcut
  cases kq with
  | zero => exact absurd HA.out (by simp [pylonlaw04_minutes.j0])
  | succ kj2 =>
   have H := HA.out
   clear HA
   simp only [pylonlaw04_minutes.j0] at H
   by_cases c11 : x18_2 = true
   ·subst c11
    have H1 : (some 0) = some r := by rw [if_pos rfl] at H; exact H
    clear H
    have H := H1
    clear H1
    obtain rfl := Option.some.inj H
    go_wp2
    go_ret
    exact ⟨by first | rfl | (simp [errW_none, errW_some] <;> rfl) | (simp [*, errW_none, errW_some] <;> rfl), bw⟩
   ·replace c11 := Bool.eq_false_iff.mpr c11
    subst c11
    have H1 : ((pylonref03_Nth.f kj2 a1_0 a0_2 a0_3 a0_4).bind fun bt481 => (if bt481.2.2.2 = 0 then (if (!(bt481.1 == a1_0) || (!(bt481.2.1 == a1_1) || (!(bt481.2.2.1 == a1_2)))) = true then (some 0) else (some a0_1)) else (some 0))) = some r := by rw [if_neg (show ¬ (false = true) by decide)] at H; exact H
    clear H
    have H := H1
    clear H1
    replace H := Option.bind_eq_some_iff.mp H
    obtain ⟨⟨t481, t482, t483, t484⟩, A120, H⟩ := H
    replace H : (if t484 = 0 then (if (!(t481 == a1_0) || (!(t482 == a1_1) || (!(t483 == a1_2)))) = true then (some 0) else (some a0_1)) else (some 0)) = some r := H
    have A12 := AX A120
    clear A120
    by_cases c13 : t484 = 0
    ·rw [if_pos c13] at H
     have c13b0 : (t484 == 0) = true := beq_iff_eq.mpr c13
     have c13b1 : (t484 != 0) = false := bne_eq_false_iff_eq.mpr c13
     clear c13
     by_cases c14 : (!(t481 == a1_0) || (!(t482 == a1_1) || (!(t483 == a1_2)))) = true
     ·rw [if_pos c14] at H
      have c14b0 : (!(t481 == a1_0) || (!(t482 == a1_1) || (!(t483 == a1_2)))) = true := c14
      clear c14
      obtain rfl := Option.some.inj H
      have hnb15 := NB480_479.out
      have hnc15 := NB479_480.out
      obtain ⟨hcz16_0, hcz16_1, hcz16_2⟩ := blkC3 (w := wc) BK480.out
      obtain ⟨hfz16_0, hfz16_1, hfz16_2⟩ := blkF3 BK480.out
      obtain ⟨hcz17_0, hcz17_1, hcz17_2, hcz17_3, hcz17_4, hcz17_5, hcz17_6, hcz17_7, hcz17_8, hcz17_9⟩ := blkC10 (w := wc) BK479.out
      obtain ⟨hfz17_0, hfz17_1, hfz17_2, hfz17_3, hfz17_4, hfz17_5, hfz17_6, hfz17_7, hfz17_8, hfz17_9⟩ := blkF10 BK479.out
      go_wp2_with (first | ((with_reducible refine gate_callee (f := 54) rfl ?_); refine goesL_ (some 31) rfl rfl Try.func54 (by kernel_rfl) rfl #[.int .i64 a1_0, .int .i64 a0_2, .int .i64 a0_3, .int .i64 a0_4] rfl (by (try simp only [List.map_toArray, List.map_cons, List.map_nil]); first | done | rfl | (simp only [List.length_drop, List.length_take]; rfl)) ?_; (with_reducible refine (pylonref03_Nth.calls kj2 a1_0 a0_2 a0_3 a0_4 t481 t482 t483 t484 _ A12.out).mono ?_); rintro e w18 ⟨rfl, hb⟩; refine ⟨_, rfl, ?_⟩; have n0_ := AX (bkb BK479 hb); have n1_ := AX (bkb BK480 hb); have n2_ := AX (below_step bw hb); clear BK479; clear BK480; clear HB; have BK479 := n0_; have BK480 := n1_; have HB := n2_; clear n0_ n1_ n2_; (try clear hb)) | ((with_reducible refine gate_dst (N := 5) rfl ?_); refine box_event ?hg (N := 5) ?hd (cs := #[.int .i64 0, .int .i64 0, .int .i64 0]) (t := 33) ?hr ?_; (case hd => rfl); (case hg => rfl); (case hr => first | (go_simp; done) | (go_simp; rfl)); intro gb485 hg w19 hbox hb; have n0_ := AX (bkb BK479 hb); have n1_ := AX (bkb BK480 hb); have n2_ := AX (below_step bw hb); have n3_ := AX (hbox); have n4_ := AX ((by rw [hg]; exact (below_size bw) : w.heap.size ≤ gb485)); have n5_ := n4_; have n6_ := AX ((by rw [hg]; exact Nat.ne_of_lt (blk_lt (bkn BK479)) : gb479 ≠ gb485)); have n7_ := AX ((by rw [hg]; exact Nat.ne_of_gt (blk_lt (bkn BK479)) : gb485 ≠ gb479)); have n8_ := AX ((by rw [hg]; exact Nat.ne_of_lt (blk_lt (bkn BK480)) : gb480 ≠ gb485)); have n9_ := AX ((by rw [hg]; exact Nat.ne_of_gt (blk_lt (bkn BK480)) : gb485 ≠ gb480)); clear BK479; clear BK480; clear HB; have BK479 := n0_; have BK480 := n1_; have HB := n2_; have BK485 := n3_; have GW485 := n4_; have GE485 := n5_; have NB479_485 := n6_; have NB485_479 := n7_; have NB480_485 := n8_; have NB485_480 := n9_; clear n0_ n1_ n2_ n3_ n4_ n5_ n6_ n7_ n8_ n9_; clear hb hbox hg; have hnb20 := NB485_479.out; have hnc20 := NB479_485.out; have hnb21 := NB485_480.out; have hnc21 := NB480_485.out; obtain ⟨hcz22_0, hcz22_1, hcz22_2⟩ := blkC3 (w := w19) BK485.out; obtain ⟨hfz22_0, hfz22_1, hfz22_2⟩ := blkF3 BK485.out; obtain ⟨hcz23_0, hcz23_1, hcz23_2⟩ := blkC3 (w := w19) BK480.out; obtain ⟨hfz23_0, hfz23_1, hfz23_2⟩ := blkF3 BK480.out))
      go_ret
      exact ⟨by first | rfl | (simp [errW_none, errW_some] <;> rfl) | (simp [*, errW_none, errW_some] <;> rfl), bw⟩
     ·rw [if_neg c14] at H
      have c14b0 : (!(t481 == a1_0) || (!(t482 == a1_1) || (!(t483 == a1_2)))) = false := by simpa using c14
      clear c14
      obtain rfl := Option.some.inj H
      have hnb24 := NB480_479.out
      have hnc24 := NB479_480.out
      obtain ⟨hcz25_0, hcz25_1, hcz25_2⟩ := blkC3 (w := wc) BK480.out
      obtain ⟨hfz25_0, hfz25_1, hfz25_2⟩ := blkF3 BK480.out
      obtain ⟨hcz26_0, hcz26_1, hcz26_2, hcz26_3, hcz26_4, hcz26_5, hcz26_6, hcz26_7, hcz26_8, hcz26_9⟩ := blkC10 (w := wc) BK479.out
      obtain ⟨hfz26_0, hfz26_1, hfz26_2, hfz26_3, hfz26_4, hfz26_5, hfz26_6, hfz26_7, hfz26_8, hfz26_9⟩ := blkF10 BK479.out
      go_wp2_with (first | ((with_reducible refine gate_callee (f := 54) rfl ?_); refine goesL_ (some 31) rfl rfl Try.func54 (by kernel_rfl) rfl #[.int .i64 a1_0, .int .i64 a0_2, .int .i64 a0_3, .int .i64 a0_4] rfl (by (try simp only [List.map_toArray, List.map_cons, List.map_nil]); first | done | rfl | (simp only [List.length_drop, List.length_take]; rfl)) ?_; (with_reducible refine (pylonref03_Nth.calls kj2 a1_0 a0_2 a0_3 a0_4 t481 t482 t483 t484 _ A12.out).mono ?_); rintro e w27 ⟨rfl, hb⟩; refine ⟨_, rfl, ?_⟩; have n0_ := AX (bkb BK479 hb); have n1_ := AX (bkb BK480 hb); have n2_ := AX (below_step bw hb); clear BK479; clear BK480; clear HB; have BK479 := n0_; have BK480 := n1_; have HB := n2_; clear n0_ n1_ n2_; (try clear hb)) | ((with_reducible refine gate_dst (N := 5) rfl ?_); refine box_event ?hg (N := 5) ?hd (cs := #[.int .i64 0, .int .i64 0, .int .i64 0]) (t := 33) ?hr ?_; (case hd => rfl); (case hg => rfl); (case hr => first | (go_simp; done) | (go_simp; rfl)); intro gb485 hg w28 hbox hb; have n0_ := AX (bkb BK479 hb); have n1_ := AX (bkb BK480 hb); have n2_ := AX (below_step bw hb); have n3_ := AX (hbox); have n4_ := AX ((by rw [hg]; exact (below_size bw) : w.heap.size ≤ gb485)); have n5_ := n4_; have n6_ := AX ((by rw [hg]; exact Nat.ne_of_lt (blk_lt (bkn BK479)) : gb479 ≠ gb485)); have n7_ := AX ((by rw [hg]; exact Nat.ne_of_gt (blk_lt (bkn BK479)) : gb485 ≠ gb479)); have n8_ := AX ((by rw [hg]; exact Nat.ne_of_lt (blk_lt (bkn BK480)) : gb480 ≠ gb485)); have n9_ := AX ((by rw [hg]; exact Nat.ne_of_gt (blk_lt (bkn BK480)) : gb485 ≠ gb480)); clear BK479; clear BK480; clear HB; have BK479 := n0_; have BK480 := n1_; have HB := n2_; have BK485 := n3_; have GW485 := n4_; have GE485 := n5_; have NB479_485 := n6_; have NB485_479 := n7_; have NB480_485 := n8_; have NB485_480 := n9_; clear n0_ n1_ n2_ n3_ n4_ n5_ n6_ n7_ n8_ n9_; clear hb hbox hg; have hnb29 := NB485_479.out; have hnc29 := NB479_485.out; have hnb30 := NB485_480.out; have hnc30 := NB480_485.out; obtain ⟨hcz31_0, hcz31_1, hcz31_2⟩ := blkC3 (w := w28) BK485.out; obtain ⟨hfz31_0, hfz31_1, hfz31_2⟩ := blkF3 BK485.out; obtain ⟨hcz32_0, hcz32_1, hcz32_2⟩ := blkC3 (w := w28) BK480.out; obtain ⟨hfz32_0, hfz32_1, hfz32_2⟩ := blkF3 BK480.out; obtain ⟨hcz33_0, hcz33_1, hcz33_2, hcz33_3, hcz33_4, hcz33_5, hcz33_6, hcz33_7, hcz33_8, hcz33_9⟩ := blkC10 (w := w28) BK479.out; obtain ⟨hfz33_0, hfz33_1, hfz33_2, hfz33_3, hfz33_4, hfz33_5, hfz33_6, hfz33_7, hfz33_8, hfz33_9⟩ := blkF10 BK479.out))
      go_ret
      exact ⟨by first | rfl | (simp [errW_none, errW_some] <;> rfl) | (simp [*, errW_none, errW_some] <;> rfl), bw⟩
    ·rw [if_neg c13] at H
     have c13b0 : (t484 == 0) = false := beq_eq_false_iff_ne.mpr c13
     have c13b1 : (t484 != 0) = true := bne_iff_ne.mpr c13
     obtain rfl := Option.some.inj H
     have hnb34 := NB480_479.out
     have hnc34 := NB479_480.out
     obtain ⟨hcz35_0, hcz35_1, hcz35_2⟩ := blkC3 (w := wc) BK480.out
     obtain ⟨hfz35_0, hfz35_1, hfz35_2⟩ := blkF3 BK480.out
     obtain ⟨hcz36_0, hcz36_1, hcz36_2, hcz36_3, hcz36_4, hcz36_5, hcz36_6, hcz36_7, hcz36_8, hcz36_9⟩ := blkC10 (w := wc) BK479.out
     obtain ⟨hfz36_0, hfz36_1, hfz36_2, hfz36_3, hfz36_4, hfz36_5, hfz36_6, hfz36_7, hfz36_8, hfz36_9⟩ := blkF10 BK479.out
     go_wp2_with (first | ((with_reducible refine gate_callee (f := 54) rfl ?_); refine goesL_ (some 31) rfl rfl Try.func54 (by kernel_rfl) rfl #[.int .i64 a1_0, .int .i64 a0_2, .int .i64 a0_3, .int .i64 a0_4] rfl (by (try simp only [List.map_toArray, List.map_cons, List.map_nil]); first | done | rfl | (simp only [List.length_drop, List.length_take]; rfl)) ?_; (with_reducible refine (pylonref03_Nth.calls kj2 a1_0 a0_2 a0_3 a0_4 t481 t482 t483 t484 _ A12.out).mono ?_); rintro e w37 ⟨rfl, hb⟩; refine ⟨_, rfl, ?_⟩; have n0_ := AX (bkb BK479 hb); have n1_ := AX (bkb BK480 hb); have n2_ := AX (below_step bw hb); clear BK479; clear BK480; clear HB; have BK479 := n0_; have BK480 := n1_; have HB := n2_; clear n0_ n1_ n2_; (try clear hb)) | ((with_reducible refine gate_dst (N := 5) rfl ?_); refine box_event ?hg (N := 5) ?hd (cs := #[.int .i64 0, .int .i64 0, .int .i64 0]) (t := 33) ?hr ?_; (case hd => rfl); (case hg => rfl); (case hr => first | (go_simp; done) | (go_simp; rfl)); intro gb485 hg w38 hbox hb; have n0_ := AX (bkb BK479 hb); have n1_ := AX (bkb BK480 hb); have n2_ := AX (below_step bw hb); have n3_ := AX (hbox); have n4_ := AX ((by rw [hg]; exact (below_size bw) : w.heap.size ≤ gb485)); have n5_ := n4_; have n6_ := AX ((by rw [hg]; exact Nat.ne_of_lt (blk_lt (bkn BK479)) : gb479 ≠ gb485)); have n7_ := AX ((by rw [hg]; exact Nat.ne_of_gt (blk_lt (bkn BK479)) : gb485 ≠ gb479)); have n8_ := AX ((by rw [hg]; exact Nat.ne_of_lt (blk_lt (bkn BK480)) : gb480 ≠ gb485)); have n9_ := AX ((by rw [hg]; exact Nat.ne_of_gt (blk_lt (bkn BK480)) : gb485 ≠ gb480)); clear BK479; clear BK480; clear HB; have BK479 := n0_; have BK480 := n1_; have HB := n2_; have BK485 := n3_; have GW485 := n4_; have GE485 := n5_; have NB479_485 := n6_; have NB485_479 := n7_; have NB480_485 := n8_; have NB485_480 := n9_; clear n0_ n1_ n2_ n3_ n4_ n5_ n6_ n7_ n8_ n9_; clear hb hbox hg; have hnb39 := NB485_479.out; have hnc39 := NB479_485.out; have hnb40 := NB485_480.out; have hnc40 := NB480_485.out; obtain ⟨hcz41_0, hcz41_1, hcz41_2⟩ := blkC3 (w := w38) BK485.out; obtain ⟨hfz41_0, hfz41_1, hfz41_2⟩ := blkF3 BK485.out))
     go_ret
     exact ⟨by first | rfl | (simp [errW_none, errW_some] <;> rfl) | (simp [*, errW_none, errW_some] <;> rfl), bw⟩

/-! ### period_place: function 59 -/
def period_place.j0 : Nat → Int → Bool → Int → Int → Int → Option (Int × Int)
 | 0, _, _, _, _, _ => none
 | k + 1, x1, x14, x550000, x550001, x550002 => if x14 = true then (some (0, 8)) else ((civil_Days.f x550000 x550001 x550002).bind fun bt550 => (if bt550.2 = 0 then (if x550002 < x1 then (some (wrap64 ((wrap64 ((wrap64 (12 * (wrap64 (x550000 - 1)))) + x550001)) - 1), 0)) else (some (wrap64 ((wrap64 (12 * (wrap64 (x550000 - 1)))) + x550001), 0))) else (some (0, bt550.2))))
def period_place.f (k : Nat) (a0_0 : Int) (a0_1 : Int) (a0_2 : Int) (a1 : Int) : Option (Int × Int) := if a1 < 1 then (period_place.j0 k a1 true a0_0 a0_1 a0_2) else (period_place.j0 k a1 (decide (a1 > 28)) a0_0 a0_1 a0_2)
theorem period_place.mono_l : ∀ k, (∀ y0 y1 y2 y3 y4, LeO (period_place.j0 k y0 y1 y2 y3 y4) (period_place.j0 (k + 1) y0 y1 y2 y3 y4))
 | 0 => fun _ _ _ _ _ r h => by simp [period_place.j0] at h
 | k + 1 => by
  have ih0 := period_place.mono_l k
  ·intro y0 y1 y2 y3 y4
   unfold period_place.j0
   repeat' first
   | (with_reducible exact ih0 _ _ _ _ _)
   | (with_reducible exact LeO.refl _)
   | (with_reducible exact LeO.none _)
   | (with_reducible refine LeO.ite ?_ ?_)
   | (with_reducible refine LeO.bind ?_ (fun _ => ?_))
   | exact ih0 _ _ _ _ _
   | exact LeO.none _
   | refine LeO.ite ?_ ?_
   | refine LeO.bind ?_ (fun _ => ?_)
theorem period_place.mono : ∀ a0 a1 a2 a3 k, LeO (period_place.f k a0 a1 a2 a3) (period_place.f (k + 1) a0 a1 a2 a3) := by
 intro a0 a1 a2 a3 k
 have ih0 := period_place.mono_l k
 unfold period_place.f
 repeat' first
   | (with_reducible exact ih0 _ _ _ _ _)
   | (with_reducible exact LeO.refl _)
   | (with_reducible exact LeO.none _)
   | (with_reducible refine LeO.ite ?_ ?_)
   | (with_reducible refine LeO.bind ?_ (fun _ => ?_))
   | exact ih0 _ _ _ _ _
   | exact LeO.none _
   | refine LeO.ite ?_ ?_
   | refine LeO.bind ?_ (fun _ => ?_)
set_option maxHeartbeats 8000000 in
set_option maxRecDepth 100000 in
theorem period_place.calls (k : Nat) (a0_0 : Int) (a0_1 : Int) (a0_2 : Int) (a1 : Int) (r1 : Int) (r2 : Int) (w : World) (h : period_place.f k a0_0 a0_1 a0_2 a1 = some (r1, r2)) :
  Calls Try.prog 59 #[.agg #[.int .i64 a0_0, .int .i64 a0_1, .int .i64 a0_2], .int .i64 a1] w fun e w' => e = .returned (.tuple #[.int .i64 r1, .int .i64 r2]) ∧ Below w.heap.size w w' := by
 have hu33 := Try.underlying33
 have HB := AX (Below.refl w.heap.size w)
 have H : (if a1 < 1 then (period_place.j0 k a1 true a0_0 a0_1 a0_2) else (period_place.j0 k a1 (decide (a1 > 28)) a0_0 a0_1 a0_2)) = some (r1, r2) := h
 clear h
 have HC3 := AX H
 clear H
 go_enter Try.func59, Try.ntmps59
 go_upto_region 1 with (first | ((with_reducible refine gate_dst (N := 2) rfl ?_); refine box_event ?hg (N := 2) ?hd (cs := #[.int .i64 a0_0, .int .i64 a0_1, .int .i64 a0_2]) (t := 33) ?hr ?_; (case hd => rfl); (case hg => rfl); (case hr => first | (go_simp; done) | (go_simp; rfl)); intro gb549 hg w4 hbox hb; have n0_ := AX (below_step bw hb); have n1_ := AX (hbox); have n2_ := AX ((by rw [hg]; exact (below_size bw) : w.heap.size ≤ gb549)); have n3_ := n2_; clear HB; have HB := n0_; have BK549 := n1_; have GW549 := n2_; have GE549 := n3_; clear n0_ n1_ n2_ n3_; clear hb hbox hg))
 (try simp only [Act.put, List.setIfInBounds_toArray, List.set_cons_zero, List.set_cons_succ])
 go_cut [14] (fun v14 wc => ∃ (kq : Nat) (x14_2 : Bool), v14 = .bool x14_2 ∧ Aside0 (period_place.j0 kq a1 x14_2 a0_0 a0_1 a0_2 = some (r1, r2)) ∧ Aside0 (kq ≤ k) ∧ Aside0 (wc.heap[gb549]? = some (.cells #[.int .i64 a0_0, .int .i64 a0_1, .int .i64 a0_2] 33 (0, 0))) ∧ Aside0 (Below w.heap.size w wc))
 case first =>
  have H := HC3.out
  clear HC3
  by_cases c5 : a1 < 1
  ·rw [if_pos c5] at H
   have c5b0 : decide (a1 < 1) = true := decide_eq_true c5
   clear c5
   (first | rw [c5b0] | (simp only [i64_w, i32_w]; rw [c5b0]) | skip)
   have H' := AX H
   clear H
   go_wp2
   go_meet
   case rel => exact ⟨_, (true), (by first | rfl | (simp; done) | (simp [*]; done)), H', ⟨by first | omega | exact Nat.le_refl _⟩, ⟨bkn BK549⟩, ⟨bw⟩⟩
  ·rw [if_neg c5] at H
   have c5b0 : decide (a1 < 1) = false := decide_eq_false c5
   clear c5
   (first | rw [c5b0] | (simp only [i64_w, i32_w]; rw [c5b0]) | skip)
   have H' := AX H
   clear H
   go_wp2
   go_meet
   case rel => exact ⟨_, (decide (a1 > 28)), (by first | rfl | (simp; done) | (simp [*]; done)), H', ⟨by first | omega | exact Nat.le_refl _⟩, ⟨bkn BK549⟩, ⟨bw⟩⟩
 case rest =>
  clear HC3
  obtain ⟨kq, x14_2, rfl, HA, HJ2, BK549, HB⟩ := hcut
  cases kq with
  | zero => exact absurd HA.out (by simp [period_place.j0])
  | succ kj2 =>
   have H := HA.out
   clear HA
   simp only [period_place.j0] at H
   by_cases c6 : x14_2 = true
   ·subst c6
    have H1 : (some (0, 8)) = some (r1, r2) := by rw [if_pos rfl] at H; exact H
    clear H
    have H := H1
    clear H1
    simp only [Option.some.injEq, Prod.mk.injEq] at H
    obtain ⟨rfl, rfl⟩ := H
    go_wp2
    go_ret2
    exact ⟨by first | rfl | (simp [errW_none, errW_some] <;> rfl) | (simp [*, errW_none, errW_some] <;> rfl), bw⟩
   ·replace c6 := Bool.eq_false_iff.mpr c6
    subst c6
    have H1 : ((civil_Days.f a0_0 a0_1 a0_2).bind fun bt550 => (if bt550.2 = 0 then (if a0_2 < a1 then (some (wrap64 ((wrap64 ((wrap64 (12 * (wrap64 (a0_0 - 1)))) + a0_1)) - 1), 0)) else (some (wrap64 ((wrap64 (12 * (wrap64 (a0_0 - 1)))) + a0_1), 0))) else (some (0, bt550.2)))) = some (r1, r2) := by rw [if_neg (show ¬ (false = true) by decide)] at H; exact H
    clear H
    have H := H1
    clear H1
    replace H := Option.bind_eq_some_iff.mp H
    obtain ⟨⟨t550, t551⟩, A70, H⟩ := H
    replace H : (if t551 = 0 then (if a0_2 < a1 then (some (wrap64 ((wrap64 ((wrap64 (12 * (wrap64 (a0_0 - 1)))) + a0_1)) - 1), 0)) else (some (wrap64 ((wrap64 (12 * (wrap64 (a0_0 - 1)))) + a0_1), 0))) else (some (0, t551))) = some (r1, r2) := H
    have A7 := AX A70
    clear A70
    by_cases c8 : t551 = 0
    ·rw [if_pos c8] at H
     have c8b0 : (t551 == 0) = true := beq_iff_eq.mpr c8
     have c8b1 : (t551 != 0) = false := bne_eq_false_iff_eq.mpr c8
     clear c8
     by_cases c9 : a0_2 < a1
     ·rw [if_pos c9] at H
      have c9b0 : decide (a0_2 < a1) = true := decide_eq_true c9
      clear c9
      simp only [Option.some.injEq, Prod.mk.injEq] at H
      obtain ⟨rfl, rfl⟩ := H
      obtain ⟨hcz10_0, hcz10_1, hcz10_2⟩ := blkC3 (w := wc) BK549.out
      obtain ⟨hfz10_0, hfz10_1, hfz10_2⟩ := blkF3 BK549.out
      go_wp2_with (first | ((with_reducible refine gate_callee (f := 45) rfl ?_); refine goesL_ (some 17) rfl rfl Try.func45 (by kernel_rfl) rfl #[.agg #[.int .i64 a0_0, .int .i64 a0_1, .int .i64 a0_2]] rfl (by (try simp only [List.map_toArray, List.map_cons, List.map_nil]); first | done | rfl | (simp only [List.length_drop, List.length_take]; rfl)) ?_; (with_reducible refine (civil_Days.calls a0_0 a0_1 a0_2 t550 t551 _ A7.out).mono ?_); rintro e w11 ⟨rfl, hb⟩; refine ⟨_, rfl, ?_⟩; have n0_ := AX (bkb BK549 hb); have n1_ := AX (below_step bw hb); clear BK549; clear HB; have BK549 := n0_; have HB := n1_; clear n0_ n1_; (try clear hb); obtain ⟨hcz12_0, hcz12_1, hcz12_2⟩ := blkC3 (w := w11) BK549.out; obtain ⟨hfz12_0, hfz12_1, hfz12_2⟩ := blkF3 BK549.out))
      go_ret2
      exact ⟨by first | rfl | (simp [errW_none, errW_some] <;> rfl) | (simp [*, errW_none, errW_some] <;> rfl), bw⟩
     ·rw [if_neg c9] at H
      have c9b0 : decide (a0_2 < a1) = false := decide_eq_false c9
      clear c9
      simp only [Option.some.injEq, Prod.mk.injEq] at H
      obtain ⟨rfl, rfl⟩ := H
      obtain ⟨hcz13_0, hcz13_1, hcz13_2⟩ := blkC3 (w := wc) BK549.out
      obtain ⟨hfz13_0, hfz13_1, hfz13_2⟩ := blkF3 BK549.out
      go_wp2_with (first | ((with_reducible refine gate_callee (f := 45) rfl ?_); refine goesL_ (some 17) rfl rfl Try.func45 (by kernel_rfl) rfl #[.agg #[.int .i64 a0_0, .int .i64 a0_1, .int .i64 a0_2]] rfl (by (try simp only [List.map_toArray, List.map_cons, List.map_nil]); first | done | rfl | (simp only [List.length_drop, List.length_take]; rfl)) ?_; (with_reducible refine (civil_Days.calls a0_0 a0_1 a0_2 t550 t551 _ A7.out).mono ?_); rintro e w14 ⟨rfl, hb⟩; refine ⟨_, rfl, ?_⟩; have n0_ := AX (bkb BK549 hb); have n1_ := AX (below_step bw hb); clear BK549; clear HB; have BK549 := n0_; have HB := n1_; clear n0_ n1_; (try clear hb); obtain ⟨hcz15_0, hcz15_1, hcz15_2⟩ := blkC3 (w := w14) BK549.out; obtain ⟨hfz15_0, hfz15_1, hfz15_2⟩ := blkF3 BK549.out))
      go_ret2
      exact ⟨by first | rfl | (simp [errW_none, errW_some] <;> rfl) | (simp [*, errW_none, errW_some] <;> rfl), bw⟩
    ·rw [if_neg c8] at H
     have c8b0 : (t551 == 0) = false := beq_eq_false_iff_ne.mpr c8
     have c8b1 : (t551 != 0) = true := bne_iff_ne.mpr c8
     simp only [Option.some.injEq, Prod.mk.injEq] at H
     obtain ⟨rfl, rfl⟩ := H
     obtain ⟨hcz16_0, hcz16_1, hcz16_2⟩ := blkC3 (w := wc) BK549.out
     obtain ⟨hfz16_0, hfz16_1, hfz16_2⟩ := blkF3 BK549.out
     go_wp2_with (first | ((with_reducible refine gate_callee (f := 45) rfl ?_); refine goesL_ (some 17) rfl rfl Try.func45 (by kernel_rfl) rfl #[.agg #[.int .i64 a0_0, .int .i64 a0_1, .int .i64 a0_2]] rfl (by (try simp only [List.map_toArray, List.map_cons, List.map_nil]); first | done | rfl | (simp only [List.length_drop, List.length_take]; rfl)) ?_; (with_reducible refine (civil_Days.calls a0_0 a0_1 a0_2 t550 t551 _ A7.out).mono ?_); rintro e w17 ⟨rfl, hb⟩; refine ⟨_, rfl, ?_⟩; have n0_ := AX (bkb BK549 hb); have n1_ := AX (below_step bw hb); clear BK549; clear HB; have BK549 := n0_; have HB := n1_; clear n0_ n1_; (try clear hb)))
     go_ret2
     exact ⟨by first | rfl | (simp [errW_none, errW_some] <;> rfl) | (simp [*, errW_none, errW_some] <;> rfl), bw⟩

/-! ### period_month: function 60 -/
def period_month.f (a0 : Int) (a1 : Int) : Option (Int × Int × Int × Int) := if a0 < 1 then (some (0, 0, 0, 5)) else (if (wrap64 (Int.tdiv (wrap64 (a0 + 11)) 12)) > 9999 then (some (0, 0, 0, 5)) else (some (wrap64 (Int.tdiv (wrap64 (a0 + 11)) 12), wrap64 ((Int.tmod (wrap64 (a0 + 11)) 12) + 1), a1, 0)))
set_option maxHeartbeats 8000000 in
set_option maxRecDepth 100000 in
theorem period_month.calls (a0 : Int) (a1 : Int) (r1 : Int) (r2 : Int) (r3 : Int) (r4 : Int) (w : World) (h : period_month.f a0 a1 = some (r1, r2, r3, r4)) :
  Calls Try.prog 60 #[.int .i64 a0, .int .i64 a1] w fun e w' => e = .returned (.tuple #[.agg #[.int .i64 r1, .int .i64 r2, .int .i64 r3], .int .i64 r4]) ∧ Below w.heap.size w w' := by
 have hu33 := Try.underlying33
 have HB := AX (Below.refl w.heap.size w)
 have H : (if a0 < 1 then (some (0, 0, 0, 5)) else (if (wrap64 (Int.tdiv (wrap64 (a0 + 11)) 12)) > 9999 then (some (0, 0, 0, 5)) else (some (wrap64 (Int.tdiv (wrap64 (a0 + 11)) 12), wrap64 ((Int.tmod (wrap64 (a0 + 11)) 12) + 1), a1, 0)))) = some (r1, r2, r3, r4) := h
 clear h
 by_cases c3 : a0 < 1
 ·rw [if_pos c3] at H
  have c3b0 : decide (a0 < 1) = true := decide_eq_true c3
  clear c3
  simp only [Option.some.injEq, Prod.mk.injEq] at H
  obtain ⟨rfl, rfl, rfl, rfl⟩ := H
  go_enter Try.func60, Try.ntmps60
  go_wp2_with (first | ((with_reducible refine gate_dst (N := 4) rfl ?_); refine box_event ?hg (N := 4) ?hd (cs := #[.int .i64 0, .int .i64 0, .int .i64 0]) (t := 33) ?hr ?_; (case hd => rfl); (case hg => rfl); (case hr => first | (go_simp; done) | (go_simp; rfl)); intro gb552 hg w4 hbox hb; have n0_ := AX (below_step bw hb); have n1_ := AX (hbox); have n2_ := AX ((by rw [hg]; exact (below_size bw) : w.heap.size ≤ gb552)); have n3_ := n2_; clear HB; have HB := n0_; have BK552 := n1_; have GW552 := n2_; have GE552 := n3_; clear n0_ n1_ n2_ n3_; clear hb hbox hg) | ((with_reducible refine gate_dst (N := 6) rfl ?_); refine box_event ?hg (N := 6) ?hd (cs := #[.int .i64 0, .int .i64 0, .int .i64 0]) (t := 33) ?hr ?_; (case hd => rfl); (case hg => rfl); (case hr => first | (go_simp; done) | (go_simp; rfl)); intro gb553 hg w5 hbox hb; have n0_ := AX (bkb BK552 hb); have n1_ := AX (below_step bw hb); have n2_ := AX (hbox); have n3_ := AX ((by rw [hg]; exact (below_size bw) : w.heap.size ≤ gb553)); have n4_ := n3_; have n5_ := AX ((by rw [hg]; exact Nat.ne_of_lt (blk_lt (bkn BK552)) : gb552 ≠ gb553)); have n6_ := AX ((by rw [hg]; exact Nat.ne_of_gt (blk_lt (bkn BK552)) : gb553 ≠ gb552)); clear BK552; clear HB; have BK552 := n0_; have HB := n1_; have BK553 := n2_; have GW553 := n3_; have GE553 := n4_; have NB552_553 := n5_; have NB553_552 := n6_; clear n0_ n1_ n2_ n3_ n4_ n5_ n6_; clear hb hbox hg; have hnb6 := NB553_552.out; have hnc6 := NB552_553.out; obtain ⟨hcz7_0, hcz7_1, hcz7_2⟩ := blkC3 (w := w5) BK553.out; obtain ⟨hfz7_0, hfz7_1, hfz7_2⟩ := blkF3 BK553.out; obtain ⟨hcz8_0, hcz8_1, hcz8_2⟩ := blkC3 (w := w5) BK552.out; obtain ⟨hfz8_0, hfz8_1, hfz8_2⟩ := blkF3 BK552.out))
  refine bodyPost_ret (results_ct rfl _ _ gb552 33 #[.int .i64 0, .int .i64 0, .int .i64 0] (0, 0) _ rfl (by (with_reducible repeat first|refine blk_drewN ?_ _|refine blk_drew ?_|refine blk_alloc ?_ _); refine blk_put (cs := #[.int .i64 0, .int .i64 0, .int .i64 0]) ?_ 2 _ rfl; (with_reducible repeat first|refine blk_drewN ?_ _|refine blk_drew ?_|refine blk_alloc ?_ _); refine blk_put (cs := #[.int .i64 0, .int .i64 0, .int .i64 0]) ?_ 1 _ rfl; (with_reducible repeat first|refine blk_drewN ?_ _|refine blk_drew ?_|refine blk_alloc ?_ _); refine blk_put (cs := #[.int .i64 0, .int .i64 0, .int .i64 0]) ?_ 0 _ rfl; (with_reducible repeat first|refine blk_drewN ?_ _|refine blk_drew ?_|refine blk_alloc ?_ _); refine blk_far ?_ NB552_553.out _; (with_reducible repeat first|refine blk_drewN ?_ _|refine blk_drew ?_|refine blk_alloc ?_ _); refine blk_far ?_ NB552_553.out _; (with_reducible repeat first|refine blk_drewN ?_ _|refine blk_drew ?_|refine blk_alloc ?_ _); refine blk_far ?_ NB552_553.out _; (with_reducible repeat first|refine blk_drewN ?_ _|refine blk_drew ?_|refine blk_alloc ?_ _); exact BK552.out) Try.underlying33 rfl (by kernel_rfl)) rfl ?_
  exact ⟨by first | rfl | (simp [errW_none, errW_some] <;> rfl) | (simp [*, errW_none, errW_some] <;> rfl), bw⟩
 ·rw [if_neg c3] at H
  have c3b0 : decide (a0 < 1) = false := decide_eq_false c3
  clear c3
  by_cases c9 : (wrap64 (Int.tdiv (wrap64 (a0 + 11)) 12)) > 9999
  ·rw [if_pos c9] at H
   have c9b0 : decide (9999 < (wrap64 (Int.tdiv (wrap64 (a0 + 11)) 12))) = true := decide_eq_true c9
   clear c9
   simp only [Option.some.injEq, Prod.mk.injEq] at H
   obtain ⟨rfl, rfl, rfl, rfl⟩ := H
   go_enter Try.func60, Try.ntmps60
   go_wp2_with (first | ((with_reducible refine gate_dst (N := 4) rfl ?_); refine box_event ?hg (N := 4) ?hd (cs := #[.int .i64 0, .int .i64 0, .int .i64 0]) (t := 33) ?hr ?_; (case hd => rfl); (case hg => rfl); (case hr => first | (go_simp; done) | (go_simp; rfl)); intro gb552 hg w10 hbox hb; have n0_ := AX (below_step bw hb); have n1_ := AX (hbox); have n2_ := AX ((by rw [hg]; exact (below_size bw) : w.heap.size ≤ gb552)); have n3_ := n2_; clear HB; have HB := n0_; have BK552 := n1_; have GW552 := n2_; have GE552 := n3_; clear n0_ n1_ n2_ n3_; clear hb hbox hg) | ((with_reducible refine gate_dst (N := 6) rfl ?_); refine box_event ?hg (N := 6) ?hd (cs := #[.int .i64 0, .int .i64 0, .int .i64 0]) (t := 33) ?hr ?_; (case hd => rfl); (case hg => rfl); (case hr => first | (go_simp; done) | (go_simp; rfl)); intro gb553 hg w11 hbox hb; have n0_ := AX (bkb BK552 hb); have n1_ := AX (below_step bw hb); have n2_ := AX (hbox); have n3_ := AX ((by rw [hg]; exact (below_size bw) : w.heap.size ≤ gb553)); have n4_ := n3_; have n5_ := AX ((by rw [hg]; exact Nat.ne_of_lt (blk_lt (bkn BK552)) : gb552 ≠ gb553)); have n6_ := AX ((by rw [hg]; exact Nat.ne_of_gt (blk_lt (bkn BK552)) : gb553 ≠ gb552)); clear BK552; clear HB; have BK552 := n0_; have HB := n1_; have BK553 := n2_; have GW553 := n3_; have GE553 := n4_; have NB552_553 := n5_; have NB553_552 := n6_; clear n0_ n1_ n2_ n3_ n4_ n5_ n6_; clear hb hbox hg; have hnb12 := NB553_552.out; have hnc12 := NB552_553.out; obtain ⟨hcz13_0, hcz13_1, hcz13_2⟩ := blkC3 (w := w11) BK553.out; obtain ⟨hfz13_0, hfz13_1, hfz13_2⟩ := blkF3 BK553.out; obtain ⟨hcz14_0, hcz14_1, hcz14_2⟩ := blkC3 (w := w11) BK552.out; obtain ⟨hfz14_0, hfz14_1, hfz14_2⟩ := blkF3 BK552.out))
   refine bodyPost_ret (results_ct rfl _ _ gb552 33 #[.int .i64 0, .int .i64 0, .int .i64 0] (0, 0) _ rfl (by (with_reducible repeat first|refine blk_drewN ?_ _|refine blk_drew ?_|refine blk_alloc ?_ _); refine blk_put (cs := #[.int .i64 0, .int .i64 0, .int .i64 0]) ?_ 2 _ rfl; (with_reducible repeat first|refine blk_drewN ?_ _|refine blk_drew ?_|refine blk_alloc ?_ _); refine blk_put (cs := #[.int .i64 0, .int .i64 0, .int .i64 0]) ?_ 1 _ rfl; (with_reducible repeat first|refine blk_drewN ?_ _|refine blk_drew ?_|refine blk_alloc ?_ _); refine blk_put (cs := #[.int .i64 0, .int .i64 0, .int .i64 0]) ?_ 0 _ rfl; (with_reducible repeat first|refine blk_drewN ?_ _|refine blk_drew ?_|refine blk_alloc ?_ _); refine blk_far ?_ NB552_553.out _; (with_reducible repeat first|refine blk_drewN ?_ _|refine blk_drew ?_|refine blk_alloc ?_ _); refine blk_far ?_ NB552_553.out _; (with_reducible repeat first|refine blk_drewN ?_ _|refine blk_drew ?_|refine blk_alloc ?_ _); refine blk_far ?_ NB552_553.out _; (with_reducible repeat first|refine blk_drewN ?_ _|refine blk_drew ?_|refine blk_alloc ?_ _); exact BK552.out) Try.underlying33 rfl (by kernel_rfl)) rfl ?_
   exact ⟨by first | rfl | (simp [errW_none, errW_some] <;> rfl) | (simp [*, errW_none, errW_some] <;> rfl), bw⟩
  ·rw [if_neg c9] at H
   have c9b0 : decide (9999 < (wrap64 (Int.tdiv (wrap64 (a0 + 11)) 12))) = false := decide_eq_false c9
   clear c9
   simp only [Option.some.injEq, Prod.mk.injEq] at H
   obtain ⟨rfl, rfl, rfl, rfl⟩ := H
   go_enter Try.func60, Try.ntmps60
   go_wp2_with (first | ((with_reducible refine gate_dst (N := 4) rfl ?_); refine box_event ?hg (N := 4) ?hd (cs := #[.int .i64 0, .int .i64 0, .int .i64 0]) (t := 33) ?hr ?_; (case hd => rfl); (case hg => rfl); (case hr => first | (go_simp; done) | (go_simp; rfl)); intro gb552 hg w15 hbox hb; have n0_ := AX (below_step bw hb); have n1_ := AX (hbox); have n2_ := AX ((by rw [hg]; exact (below_size bw) : w.heap.size ≤ gb552)); have n3_ := n2_; clear HB; have HB := n0_; have BK552 := n1_; have GW552 := n2_; have GE552 := n3_; clear n0_ n1_ n2_ n3_; clear hb hbox hg) | ((with_reducible refine gate_dst (N := 6) rfl ?_); refine box_event ?hg (N := 6) ?hd (cs := #[.int .i64 0, .int .i64 0, .int .i64 0]) (t := 33) ?hr ?_; (case hd => rfl); (case hg => rfl); (case hr => first | (go_simp; done) | (go_simp; rfl)); intro gb553 hg w16 hbox hb; have n0_ := AX (bkb BK552 hb); have n1_ := AX (below_step bw hb); have n2_ := AX (hbox); have n3_ := AX ((by rw [hg]; exact (below_size bw) : w.heap.size ≤ gb553)); have n4_ := n3_; have n5_ := AX ((by rw [hg]; exact Nat.ne_of_lt (blk_lt (bkn BK552)) : gb552 ≠ gb553)); have n6_ := AX ((by rw [hg]; exact Nat.ne_of_gt (blk_lt (bkn BK552)) : gb553 ≠ gb552)); clear BK552; clear HB; have BK552 := n0_; have HB := n1_; have BK553 := n2_; have GW553 := n3_; have GE553 := n4_; have NB552_553 := n5_; have NB553_552 := n6_; clear n0_ n1_ n2_ n3_ n4_ n5_ n6_; clear hb hbox hg; have hnb17 := NB553_552.out; have hnc17 := NB552_553.out; obtain ⟨hcz18_0, hcz18_1, hcz18_2⟩ := blkC3 (w := w16) BK553.out; obtain ⟨hfz18_0, hfz18_1, hfz18_2⟩ := blkF3 BK553.out; obtain ⟨hcz19_0, hcz19_1, hcz19_2⟩ := blkC3 (w := w16) BK552.out; obtain ⟨hfz19_0, hfz19_1, hfz19_2⟩ := blkF3 BK552.out))
   refine bodyPost_ret (results_ct rfl _ _ gb552 33 #[.int .i64 (wrap64 (Int.tdiv (wrap64 (a0 + 11)) 12)), .int .i64 (wrap64 ((Int.tmod (wrap64 (a0 + 11)) 12) + 1)), .int .i64 a1] (0, 0) _ rfl (by (with_reducible repeat first|refine blk_drewN ?_ _|refine blk_drew ?_|refine blk_alloc ?_ _); refine blk_put (cs := #[.int .i64 (wrap64 (Int.tdiv (wrap64 (a0 + 11)) 12)), .int .i64 (wrap64 ((Int.tmod (wrap64 (a0 + 11)) 12) + 1)), .int .i64 0]) ?_ 2 _ rfl; (with_reducible repeat first|refine blk_drewN ?_ _|refine blk_drew ?_|refine blk_alloc ?_ _); refine blk_put (cs := #[.int .i64 (wrap64 (Int.tdiv (wrap64 (a0 + 11)) 12)), .int .i64 0, .int .i64 0]) ?_ 1 _ rfl; (with_reducible repeat first|refine blk_drewN ?_ _|refine blk_drew ?_|refine blk_alloc ?_ _); refine blk_put (cs := #[.int .i64 0, .int .i64 0, .int .i64 0]) ?_ 0 _ rfl; (with_reducible repeat first|refine blk_drewN ?_ _|refine blk_drew ?_|refine blk_alloc ?_ _); refine blk_far ?_ NB552_553.out _; (with_reducible repeat first|refine blk_drewN ?_ _|refine blk_drew ?_|refine blk_alloc ?_ _); refine blk_far ?_ NB552_553.out _; (with_reducible repeat first|refine blk_drewN ?_ _|refine blk_drew ?_|refine blk_alloc ?_ _); refine blk_far ?_ NB552_553.out _; (with_reducible repeat first|refine blk_drewN ?_ _|refine blk_drew ?_|refine blk_alloc ?_ _); exact BK552.out) Try.underlying33 rfl (by kernel_rfl)) rfl ?_
   exact ⟨by first | rfl | (simp [errW_none, errW_some] <;> rfl) | (simp [*, errW_none, errW_some] <;> rfl), bw⟩

/-! ### period_Begin: function 39 -/
def period_Begin.f (k : Nat) (a0_0 : Int) (a0_1 : Int) (a0_2 : Int) (a1 : Int) : Option (Int × Int × Int × Int) := (period_place.f k a0_0 a0_1 a0_2 a1).bind fun bt556 => (if bt556.2 = 0 then ((period_month.f bt556.1 a1).bind fun bt558 => (some (bt558.1, bt558.2.1, bt558.2.2.1, bt558.2.2.2))) else (some (0, 0, 0, bt556.2)))
theorem period_Begin.mono : ∀ a0 a1 a2 a3 k, LeO (period_Begin.f k a0 a1 a2 a3) (period_Begin.f (k + 1) a0 a1 a2 a3) := by
 intro a0 a1 a2 a3 k
 unfold period_Begin.f
 repeat' first
   | (with_reducible exact period_place.mono _ _ _ _ _)
   | (with_reducible exact LeO.refl _)
   | (with_reducible exact LeO.none _)
   | (with_reducible refine LeO.ite ?_ ?_)
   | (with_reducible refine LeO.bind ?_ (fun _ => ?_))
   | exact period_place.mono _ _ _ _ _
   | exact LeO.none _
   | refine LeO.ite ?_ ?_
   | refine LeO.bind ?_ (fun _ => ?_)
set_option maxHeartbeats 8000000 in
set_option maxRecDepth 100000 in
theorem period_Begin.calls (k : Nat) (a0_0 : Int) (a0_1 : Int) (a0_2 : Int) (a1 : Int) (r1 : Int) (r2 : Int) (r3 : Int) (r4 : Int) (w : World) (h : period_Begin.f k a0_0 a0_1 a0_2 a1 = some (r1, r2, r3, r4)) :
  Calls Try.prog 39 #[.agg #[.int .i64 a0_0, .int .i64 a0_1, .int .i64 a0_2], .int .i64 a1] w fun e w' => e = .returned (.tuple #[.agg #[.int .i64 r1, .int .i64 r2, .int .i64 r3], .int .i64 r4]) ∧ Below w.heap.size w w' := by
 have hu33 := Try.underlying33
 have HB := AX (Below.refl w.heap.size w)
 have H : ((period_place.f k a0_0 a0_1 a0_2 a1).bind fun bt556 => (if bt556.2 = 0 then ((period_month.f bt556.1 a1).bind fun bt558 => (some (bt558.1, bt558.2.1, bt558.2.2.1, bt558.2.2.2))) else (some (0, 0, 0, bt556.2)))) = some (r1, r2, r3, r4) := h
 clear h
 replace H := Option.bind_eq_some_iff.mp H
 obtain ⟨⟨t556, t557⟩, A30, H⟩ := H
 replace H : (if t557 = 0 then ((period_month.f t556 a1).bind fun bt558 => (some (bt558.1, bt558.2.1, bt558.2.2.1, bt558.2.2.2))) else (some (0, 0, 0, t557))) = some (r1, r2, r3, r4) := H
 have A3 := AX A30
 clear A30
 by_cases c4 : t557 = 0
 ·rw [if_pos c4] at H
  have c4b0 : (t557 == 0) = true := beq_iff_eq.mpr c4
  have c4b1 : (t557 != 0) = false := bne_eq_false_iff_eq.mpr c4
  clear c4
  replace H := Option.bind_eq_some_iff.mp H
  obtain ⟨⟨t558, t559, t560, t561⟩, A50, H⟩ := H
  replace H : (some (t558, t559, t560, t561)) = some (r1, r2, r3, r4) := H
  have A5 := AX A50
  clear A50
  simp only [Option.some.injEq, Prod.mk.injEq] at H
  obtain ⟨rfl, rfl, rfl, rfl⟩ := H
  go_enter Try.func39, Try.ntmps39
  go_wp2_with (first | ((with_reducible refine gate_dst (N := 2) rfl ?_); refine box_event ?hg (N := 2) ?hd (cs := #[.int .i64 a0_0, .int .i64 a0_1, .int .i64 a0_2]) (t := 33) ?hr ?_; (case hd => rfl); (case hg => rfl); (case hr => first | (go_simp; done) | (go_simp; rfl)); intro gb554 hg w6 hbox hb; have n0_ := AX (below_step bw hb); have n1_ := AX (hbox); have n2_ := AX ((by rw [hg]; exact (below_size bw) : w.heap.size ≤ gb554)); have n3_ := n2_; clear HB; have HB := n0_; have BK554 := n1_; have GW554 := n2_; have GE554 := n3_; clear n0_ n1_ n2_ n3_; clear hb hbox hg) | ((with_reducible refine gate_dst (N := 4) rfl ?_); refine box_event ?hg (N := 4) ?hd (cs := #[.int .i64 0, .int .i64 0, .int .i64 0]) (t := 33) ?hr ?_; (case hd => rfl); (case hg => rfl); (case hr => first | (go_simp; done) | (go_simp; rfl)); intro gb555 hg w7 hbox hb; have n0_ := AX (bkb BK554 hb); have n1_ := AX (below_step bw hb); have n2_ := AX (hbox); have n3_ := AX ((by rw [hg]; exact (below_size bw) : w.heap.size ≤ gb555)); have n4_ := n3_; have n5_ := AX ((by rw [hg]; exact Nat.ne_of_lt (blk_lt (bkn BK554)) : gb554 ≠ gb555)); have n6_ := AX ((by rw [hg]; exact Nat.ne_of_gt (blk_lt (bkn BK554)) : gb555 ≠ gb554)); clear BK554; clear HB; have BK554 := n0_; have HB := n1_; have BK555 := n2_; have GW555 := n3_; have GE555 := n4_; have NB554_555 := n5_; have NB555_554 := n6_; clear n0_ n1_ n2_ n3_ n4_ n5_ n6_; clear hb hbox hg; have hnb8 := NB554_555.out; have hnc8 := NB555_554.out; obtain ⟨hcz9_0, hcz9_1, hcz9_2⟩ := blkC3 (w := w7) BK554.out; obtain ⟨hfz9_0, hfz9_1, hfz9_2⟩ := blkF3 BK554.out) | ((with_reducible refine gate_callee (f := 59) rfl ?_); refine goesL_ (some 11) rfl rfl Try.func59 (by kernel_rfl) rfl #[.agg #[.int .i64 a0_0, .int .i64 a0_1, .int .i64 a0_2], .int .i64 a1] rfl (by (try simp only [List.map_toArray, List.map_cons, List.map_nil]); first | done | rfl | (simp only [List.length_drop, List.length_take]; rfl)) ?_; (with_reducible refine (period_place.calls k a0_0 a0_1 a0_2 a1 t556 t557 _ A3.out).mono ?_); rintro e w10 ⟨rfl, hb⟩; refine ⟨_, rfl, ?_⟩; have n0_ := AX (bkb BK554 hb); have n1_ := AX (bkb BK555 hb); have n2_ := AX (below_step bw hb); clear BK554; clear BK555; clear HB; have BK554 := n0_; have BK555 := n1_; have HB := n2_; clear n0_ n1_ n2_; (try clear hb)) | ((with_reducible refine gate_callee (f := 60) rfl ?_); refine goesL_ (some 20) rfl rfl Try.func60 (by kernel_rfl) rfl #[.int .i64 t556, .int .i64 a1] rfl (by (try simp only [List.map_toArray, List.map_cons, List.map_nil]); first | done | rfl | (simp only [List.length_drop, List.length_take]; rfl)) ?_; (with_reducible refine (period_month.calls t556 a1 t558 t559 t560 t561 _ A5.out).mono ?_); rintro e w11 ⟨rfl, hb⟩; refine ⟨_, rfl, ?_⟩; have n0_ := AX (bkb BK554 hb); have n1_ := AX (bkb BK555 hb); have n2_ := AX (below_step bw hb); clear BK554; clear BK555; clear HB; have BK554 := n0_; have BK555 := n1_; have HB := n2_; clear n0_ n1_ n2_; (try clear hb); obtain ⟨hcz12_0, hcz12_1, hcz12_2⟩ := blkC3 (w := w11) BK555.out; obtain ⟨hfz12_0, hfz12_1, hfz12_2⟩ := blkF3 BK555.out))
  refine bodyPost_ret (results_ct rfl _ _ gb555 33 #[.int .i64 t558, .int .i64 t559, .int .i64 t560] (0, 0) _ rfl (by (with_reducible repeat first|refine blk_drewN ?_ _|refine blk_drew ?_|refine blk_alloc ?_ _); refine blk_put (cs := #[.int .i64 t558, .int .i64 t559, .int .i64 0]) ?_ 2 _ rfl; (with_reducible repeat first|refine blk_drewN ?_ _|refine blk_drew ?_|refine blk_alloc ?_ _); refine blk_put (cs := #[.int .i64 t558, .int .i64 0, .int .i64 0]) ?_ 1 _ rfl; (with_reducible repeat first|refine blk_drewN ?_ _|refine blk_drew ?_|refine blk_alloc ?_ _); refine blk_put (cs := #[.int .i64 0, .int .i64 0, .int .i64 0]) ?_ 0 _ rfl; (with_reducible repeat first|refine blk_drewN ?_ _|refine blk_drew ?_|refine blk_alloc ?_ _); exact BK555.out) Try.underlying33 rfl (by kernel_rfl)) rfl ?_
  exact ⟨by first | rfl | (simp [errW_none, errW_some] <;> rfl) | (simp [*, errW_none, errW_some] <;> rfl), bw⟩
 ·rw [if_neg c4] at H
  have c4b0 : (t557 == 0) = false := beq_eq_false_iff_ne.mpr c4
  have c4b1 : (t557 != 0) = true := bne_iff_ne.mpr c4
  simp only [Option.some.injEq, Prod.mk.injEq] at H
  obtain ⟨rfl, rfl, rfl, rfl⟩ := H
  go_enter Try.func39, Try.ntmps39
  go_wp2_with (first | ((with_reducible refine gate_dst (N := 2) rfl ?_); refine box_event ?hg (N := 2) ?hd (cs := #[.int .i64 a0_0, .int .i64 a0_1, .int .i64 a0_2]) (t := 33) ?hr ?_; (case hd => rfl); (case hg => rfl); (case hr => first | (go_simp; done) | (go_simp; rfl)); intro gb554 hg w13 hbox hb; have n0_ := AX (below_step bw hb); have n1_ := AX (hbox); have n2_ := AX ((by rw [hg]; exact (below_size bw) : w.heap.size ≤ gb554)); have n3_ := n2_; clear HB; have HB := n0_; have BK554 := n1_; have GW554 := n2_; have GE554 := n3_; clear n0_ n1_ n2_ n3_; clear hb hbox hg) | ((with_reducible refine gate_dst (N := 4) rfl ?_); refine box_event ?hg (N := 4) ?hd (cs := #[.int .i64 0, .int .i64 0, .int .i64 0]) (t := 33) ?hr ?_; (case hd => rfl); (case hg => rfl); (case hr => first | (go_simp; done) | (go_simp; rfl)); intro gb555 hg w14 hbox hb; have n0_ := AX (bkb BK554 hb); have n1_ := AX (below_step bw hb); have n2_ := AX (hbox); have n3_ := AX ((by rw [hg]; exact (below_size bw) : w.heap.size ≤ gb555)); have n4_ := n3_; have n5_ := AX ((by rw [hg]; exact Nat.ne_of_lt (blk_lt (bkn BK554)) : gb554 ≠ gb555)); have n6_ := AX ((by rw [hg]; exact Nat.ne_of_gt (blk_lt (bkn BK554)) : gb555 ≠ gb554)); clear BK554; clear HB; have BK554 := n0_; have HB := n1_; have BK555 := n2_; have GW555 := n3_; have GE555 := n4_; have NB554_555 := n5_; have NB555_554 := n6_; clear n0_ n1_ n2_ n3_ n4_ n5_ n6_; clear hb hbox hg; have hnb15 := NB554_555.out; have hnc15 := NB555_554.out; obtain ⟨hcz16_0, hcz16_1, hcz16_2⟩ := blkC3 (w := w14) BK554.out; obtain ⟨hfz16_0, hfz16_1, hfz16_2⟩ := blkF3 BK554.out) | ((with_reducible refine gate_callee (f := 59) rfl ?_); refine goesL_ (some 11) rfl rfl Try.func59 (by kernel_rfl) rfl #[.agg #[.int .i64 a0_0, .int .i64 a0_1, .int .i64 a0_2], .int .i64 a1] rfl (by (try simp only [List.map_toArray, List.map_cons, List.map_nil]); first | done | rfl | (simp only [List.length_drop, List.length_take]; rfl)) ?_; (with_reducible refine (period_place.calls k a0_0 a0_1 a0_2 a1 t556 t557 _ A3.out).mono ?_); rintro e w17 ⟨rfl, hb⟩; refine ⟨_, rfl, ?_⟩; have n0_ := AX (bkb BK554 hb); have n1_ := AX (bkb BK555 hb); have n2_ := AX (below_step bw hb); clear BK554; clear BK555; clear HB; have BK554 := n0_; have BK555 := n1_; have HB := n2_; clear n0_ n1_ n2_; (try clear hb); obtain ⟨hcz18_0, hcz18_1, hcz18_2⟩ := blkC3 (w := w17) BK555.out; obtain ⟨hfz18_0, hfz18_1, hfz18_2⟩ := blkF3 BK555.out))
  refine bodyPost_ret (results_ct rfl _ _ gb555 33 #[.int .i64 0, .int .i64 0, .int .i64 0] (0, 0) _ rfl (by (with_reducible repeat first|refine blk_drewN ?_ _|refine blk_drew ?_|refine blk_alloc ?_ _); refine blk_put (cs := #[.int .i64 0, .int .i64 0, .int .i64 0]) ?_ 2 _ rfl; (with_reducible repeat first|refine blk_drewN ?_ _|refine blk_drew ?_|refine blk_alloc ?_ _); refine blk_put (cs := #[.int .i64 0, .int .i64 0, .int .i64 0]) ?_ 1 _ rfl; (with_reducible repeat first|refine blk_drewN ?_ _|refine blk_drew ?_|refine blk_alloc ?_ _); refine blk_put (cs := #[.int .i64 0, .int .i64 0, .int .i64 0]) ?_ 0 _ rfl; (with_reducible repeat first|refine blk_drewN ?_ _|refine blk_drew ?_|refine blk_alloc ?_ _); exact BK555.out) Try.underlying33 rfl (by kernel_rfl)) rfl ?_
  exact ⟨by first | rfl | (simp [errW_none, errW_some] <;> rfl) | (simp [*, errW_none, errW_some] <;> rfl), bw⟩

end Go.Proofs.Ytddkckpfmleffaa.PX
