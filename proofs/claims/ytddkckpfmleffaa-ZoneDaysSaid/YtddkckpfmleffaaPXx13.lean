/- Functions of the program as plain Lean functions, each with a proof that the call in the machine answers just what the plain function says; condition: the plain function answers at all. -/
import Derived.Test.YtddkckpfmleffaaPXx0
import Derived.Test.YtddkckpfmleffaaPXx10
namespace Go.Proofs.Ytddkckpfmleffaa.PX
open Go.RowKit Go.Proofs.YtddkckpfmleffaaW.PrintWords Go.Proofs.YtddkckpfmleffaaW.PrintLast Go.Proofs.YtddkckpfmleffaaW.PrintMore
attribute [local go_sem] max2_int min2_int max_two min_two max_three min_three max_four min_four   -- for this text's walks alone
set_option linter.unusedVariables false
set_option linter.unusedSimpArgs false

/-! ### pylonref03_Weekday: function 69 -/
def pylonref03_Weekday.f (k : Nat) (a0_0 : Int) (a0_1 : Int) (a0_2 : Int) : Option (Int × Int) := (pylonref03_Days.f k a0_0 a0_1 a0_2).bind fun bt319 => (if bt319.2 = 0 then (some (Int.tmod (wrap64 (bt319.1 + 719162)) 7, 0)) else (some (0, bt319.2)))
theorem pylonref03_Weekday.mono : ∀ a0 a1 a2 k, LeO (pylonref03_Weekday.f k a0 a1 a2) (pylonref03_Weekday.f (k + 1) a0 a1 a2) := by
 intro a0 a1 a2 k
 unfold pylonref03_Weekday.f
 repeat' first
   | (with_reducible exact pylonref03_Days.mono _ _ _ _)
   | (with_reducible exact LeO.refl _)
   | (with_reducible exact LeO.none _)
   | (with_reducible refine LeO.ite ?_ ?_)
   | (with_reducible refine LeO.bind ?_ (fun _ => ?_))
   | exact pylonref03_Days.mono _ _ _ _
   | exact LeO.none _
   | refine LeO.ite ?_ ?_
   | refine LeO.bind ?_ (fun _ => ?_)
set_option maxHeartbeats 8000000 in
set_option maxRecDepth 100000 in
theorem pylonref03_Weekday.calls (k : Nat) (a0_0 : Int) (a0_1 : Int) (a0_2 : Int) (r1 : Int) (r2 : Int) (w : World) (h : pylonref03_Weekday.f k a0_0 a0_1 a0_2 = some (r1, r2)) :
  Calls Try.prog 69 #[.agg #[.int .i64 a0_0, .int .i64 a0_1, .int .i64 a0_2]] w fun e w' => e = .returned (.tuple #[.int .i64 r1, .int .i64 r2]) ∧ Below w.heap.size w w' := by
 have hu33 := Try.underlying33
 have HB := AX (Below.refl w.heap.size w)
 have H : ((pylonref03_Days.f k a0_0 a0_1 a0_2).bind fun bt319 => (if bt319.2 = 0 then (some (Int.tmod (wrap64 (bt319.1 + 719162)) 7, 0)) else (some (0, bt319.2)))) = some (r1, r2) := h
 clear h
 replace H := Option.bind_eq_some_iff.mp H
 obtain ⟨⟨t319, t320⟩, A20, H⟩ := H
 replace H : (if t320 = 0 then (some (Int.tmod (wrap64 (t319 + 719162)) 7, 0)) else (some (0, t320))) = some (r1, r2) := H
 have A2 := AX A20
 clear A20
 by_cases c3 : t320 = 0
 ·rw [if_pos c3] at H
  have c3b0 : (t320 == 0) = true := beq_iff_eq.mpr c3
  have c3b1 : (t320 != 0) = false := bne_eq_false_iff_eq.mpr c3
  clear c3
  simp only [Option.some.injEq, Prod.mk.injEq] at H
  obtain ⟨rfl, rfl⟩ := H
  go_enter Try.func69, Try.ntmps69
  go_wp2_with (first | ((with_reducible refine gate_dst (N := 1) rfl ?_); refine box_event ?hg (N := 1) ?hd (cs := #[.int .i64 a0_0, .int .i64 a0_1, .int .i64 a0_2]) (t := 33) ?hr ?_; (case hd => rfl); (case hg => rfl); (case hr => first | (go_simp; done) | (go_simp; rfl)); intro gb318 hg w4 hbox hb; have n0_ := AX (below_step bw hb); have n1_ := AX (hbox); have n2_ := AX ((by rw [hg]; exact (below_size bw) : w.heap.size ≤ gb318)); have n3_ := n2_; clear HB; have HB := n0_; have BK318 := n1_; have GW318 := n2_; have GE318 := n3_; clear n0_ n1_ n2_ n3_; clear hb hbox hg; obtain ⟨hcz5_0, hcz5_1, hcz5_2⟩ := blkC3 (w := w4) BK318.out; obtain ⟨hfz5_0, hfz5_1, hfz5_2⟩ := blkF3 BK318.out) | ((with_reducible refine gate_callee (f := 21) rfl ?_); refine goesL_ (some 8) rfl rfl Try.func21 (by kernel_rfl) rfl #[.agg #[.int .i64 a0_0, .int .i64 a0_1, .int .i64 a0_2]] rfl (by (try simp only [List.map_toArray, List.map_cons, List.map_nil]); first | done | rfl | (simp only [List.length_drop, List.length_take]; rfl)) ?_; (with_reducible refine (pylonref03_Days.calls k a0_0 a0_1 a0_2 t319 t320 _ A2.out).mono ?_); rintro e w6 ⟨rfl, hb⟩; refine ⟨_, rfl, ?_⟩; have n0_ := AX (bkb BK318 hb); have n1_ := AX (below_step bw hb); clear BK318; clear HB; have BK318 := n0_; have HB := n1_; clear n0_ n1_; (try clear hb)))
  go_ret2
  exact ⟨by first | rfl | (simp [errW_none, errW_some] <;> rfl) | (simp [*, errW_none, errW_some] <;> rfl), bw⟩
 ·rw [if_neg c3] at H
  have c3b0 : (t320 == 0) = false := beq_eq_false_iff_ne.mpr c3
  have c3b1 : (t320 != 0) = true := bne_iff_ne.mpr c3
  simp only [Option.some.injEq, Prod.mk.injEq] at H
  obtain ⟨rfl, rfl⟩ := H
  go_enter Try.func69, Try.ntmps69
  go_wp2_with (first | ((with_reducible refine gate_dst (N := 1) rfl ?_); refine box_event ?hg (N := 1) ?hd (cs := #[.int .i64 a0_0, .int .i64 a0_1, .int .i64 a0_2]) (t := 33) ?hr ?_; (case hd => rfl); (case hg => rfl); (case hr => first | (go_simp; done) | (go_simp; rfl)); intro gb318 hg w7 hbox hb; have n0_ := AX (below_step bw hb); have n1_ := AX (hbox); have n2_ := AX ((by rw [hg]; exact (below_size bw) : w.heap.size ≤ gb318)); have n3_ := n2_; clear HB; have HB := n0_; have BK318 := n1_; have GW318 := n2_; have GE318 := n3_; clear n0_ n1_ n2_ n3_; clear hb hbox hg; obtain ⟨hcz8_0, hcz8_1, hcz8_2⟩ := blkC3 (w := w7) BK318.out; obtain ⟨hfz8_0, hfz8_1, hfz8_2⟩ := blkF3 BK318.out) | ((with_reducible refine gate_callee (f := 21) rfl ?_); refine goesL_ (some 8) rfl rfl Try.func21 (by kernel_rfl) rfl #[.agg #[.int .i64 a0_0, .int .i64 a0_1, .int .i64 a0_2]] rfl (by (try simp only [List.map_toArray, List.map_cons, List.map_nil]); first | done | rfl | (simp only [List.length_drop, List.length_take]; rfl)) ?_; (with_reducible refine (pylonref03_Days.calls k a0_0 a0_1 a0_2 t319 t320 _ A2.out).mono ?_); rintro e w9 ⟨rfl, hb⟩; refine ⟨_, rfl, ?_⟩; have n0_ := AX (bkb BK318 hb); have n1_ := AX (below_step bw hb); clear BK318; clear HB; have BK318 := n0_; have HB := n1_; clear n0_ n1_; (try clear hb)))
  go_ret2
  exact ⟨by first | rfl | (simp [errW_none, errW_some] <;> rfl) | (simp [*, errW_none, errW_some] <;> rfl), bw⟩

/-! ### pylonref03_Nth: function 54 -/
mutual
def pylonref03_Nth.j0 : Nat → Int → Int → Int → Int → Int → Bool → Option (Int × Int × Int × Int)
 | 0, _, _, _, _, _, _ => none
 | k + 1, x0, x1, x2, x3, x10, x40 => if x40 = true then (some (0, 0, 0, 8)) else (pylonref03_Nth.l0 k x0 x1 x2 x3 x10 0 0 1)
def pylonref03_Nth.l0 : Nat → Int → Int → Int → Int → Int → Int → Int → Int → Option (Int × Int × Int × Int)
 | 0, _, _, _, _, _, _, _, _ => none
 | k + 1, x0, x1, x2, x3, x10, x12, x13, x14 => if x14 ≤ x10 then ((pylonref03_Weekday.f k x0 x1 x14).bind fun bt324 => (if bt324.1 = x3 then (if (wrap64 (x12 + 1)) = x2 then (some (x0, x1, x14, 0)) else (pylonref03_Nth.l0 k x0 x1 x2 x3 x10 (wrap64 (x12 + 1)) x14 (wrap64 (x14 + 1)))) else (pylonref03_Nth.l0 k x0 x1 x2 x3 x10 x12 x13 (wrap64 (x14 + 1))))) else (some (x0, x1, x13, 0))
end
def pylonref03_Nth.f (k : Nat) (a0 : Int) (a1 : Int) (a2 : Int) (a3 : Int) : Option (Int × Int × Int × Int) := (pylonref03_Length.f k a0 a1).bind fun bt322 => (if bt322.2 = 0 then (if a2 < 1 then (pylonref03_Nth.j0 k a0 a1 a2 a3 bt322.1 true) else (if a2 > 5 then (pylonref03_Nth.j0 k a0 a1 a2 a3 bt322.1 true) else (if a3 < 0 then (pylonref03_Nth.j0 k a0 a1 a2 a3 bt322.1 true) else (pylonref03_Nth.j0 k a0 a1 a2 a3 bt322.1 (decide (a3 > 6)))))) else (some (0, 0, 0, bt322.2)))
theorem pylonref03_Nth.mono_l : ∀ k, (∀ y0 y1 y2 y3 y4 y5, LeO (pylonref03_Nth.j0 k y0 y1 y2 y3 y4 y5) (pylonref03_Nth.j0 (k + 1) y0 y1 y2 y3 y4 y5)) ∧ (∀ y0 y1 y2 y3 y4 y5 y6 y7, LeO (pylonref03_Nth.l0 k y0 y1 y2 y3 y4 y5 y6 y7) (pylonref03_Nth.l0 (k + 1) y0 y1 y2 y3 y4 y5 y6 y7))
 | 0 => ⟨fun _ _ _ _ _ _ r h => by simp [pylonref03_Nth.j0] at h, fun _ _ _ _ _ _ _ _ r h => by simp [pylonref03_Nth.l0] at h⟩
 | k + 1 => by
  obtain ⟨ih0, ih1⟩ := pylonref03_Nth.mono_l k
  refine ⟨?_, ?_⟩
  ·intro y0 y1 y2 y3 y4 y5
   unfold pylonref03_Nth.j0
   repeat' first
   | (with_reducible exact ih0 _ _ _ _ _ _)
   | (with_reducible exact ih1 _ _ _ _ _ _ _ _)
   | (with_reducible exact pylonref03_Length.mono _ _ _)
   | (with_reducible exact pylonref03_Weekday.mono _ _ _ _)
   | (with_reducible exact LeO.refl _)
   | (with_reducible exact LeO.none _)
   | (with_reducible refine LeO.ite ?_ ?_)
   | (with_reducible refine LeO.bind ?_ (fun _ => ?_))
   | exact ih0 _ _ _ _ _ _
   | exact ih1 _ _ _ _ _ _ _ _
   | exact pylonref03_Length.mono _ _ _
   | exact pylonref03_Weekday.mono _ _ _ _
   | exact LeO.none _
   | refine LeO.ite ?_ ?_
   | refine LeO.bind ?_ (fun _ => ?_)
  ·intro y0 y1 y2 y3 y4 y5 y6 y7
   unfold pylonref03_Nth.l0
   repeat' first
   | (with_reducible exact ih0 _ _ _ _ _ _)
   | (with_reducible exact ih1 _ _ _ _ _ _ _ _)
   | (with_reducible exact pylonref03_Length.mono _ _ _)
   | (with_reducible exact pylonref03_Weekday.mono _ _ _ _)
   | (with_reducible exact LeO.refl _)
   | (with_reducible exact LeO.none _)
   | (with_reducible refine LeO.ite ?_ ?_)
   | (with_reducible refine LeO.bind ?_ (fun _ => ?_))
   | exact ih0 _ _ _ _ _ _
   | exact ih1 _ _ _ _ _ _ _ _
   | exact pylonref03_Length.mono _ _ _
   | exact pylonref03_Weekday.mono _ _ _ _
   | exact LeO.none _
   | refine LeO.ite ?_ ?_
   | refine LeO.bind ?_ (fun _ => ?_)
theorem pylonref03_Nth.mono : ∀ a0 a1 a2 a3 k, LeO (pylonref03_Nth.f k a0 a1 a2 a3) (pylonref03_Nth.f (k + 1) a0 a1 a2 a3) := by
 intro a0 a1 a2 a3 k
 obtain ⟨ih0, ih1⟩ := pylonref03_Nth.mono_l k
 unfold pylonref03_Nth.f
 repeat' first
   | (with_reducible exact ih0 _ _ _ _ _ _)
   | (with_reducible exact ih1 _ _ _ _ _ _ _ _)
   | (with_reducible exact pylonref03_Length.mono _ _ _)
   | (with_reducible exact pylonref03_Weekday.mono _ _ _ _)
   | (with_reducible exact LeO.refl _)
   | (with_reducible exact LeO.none _)
   | (with_reducible refine LeO.ite ?_ ?_)
   | (with_reducible refine LeO.bind ?_ (fun _ => ?_))
   | exact ih0 _ _ _ _ _ _
   | exact ih1 _ _ _ _ _ _ _ _
   | exact pylonref03_Length.mono _ _ _
   | exact pylonref03_Weekday.mono _ _ _ _
   | exact LeO.none _
   | refine LeO.ite ?_ ?_
   | refine LeO.bind ?_ (fun _ => ?_)
set_option maxHeartbeats 8000000 in
set_option maxRecDepth 100000 in
theorem pylonref03_Nth.calls (k : Nat) (a0 : Int) (a1 : Int) (a2 : Int) (a3 : Int) (r1 : Int) (r2 : Int) (r3 : Int) (r4 : Int) (w : World) (h : pylonref03_Nth.f k a0 a1 a2 a3 = some (r1, r2, r3, r4)) :
  Calls Try.prog 54 #[.int .i64 a0, .int .i64 a1, .int .i64 a2, .int .i64 a3] w fun e w' => e = .returned (.tuple #[.agg #[.int .i64 r1, .int .i64 r2, .int .i64 r3], .int .i64 r4]) ∧ Below w.heap.size w w' := by
 have hu33 := Try.underlying33
 have HB := AX (Below.refl w.heap.size w)
 have H : ((pylonref03_Length.f k a0 a1).bind fun bt322 => (if bt322.2 = 0 then (if a2 < 1 then (pylonref03_Nth.j0 k a0 a1 a2 a3 bt322.1 true) else (if a2 > 5 then (pylonref03_Nth.j0 k a0 a1 a2 a3 bt322.1 true) else (if a3 < 0 then (pylonref03_Nth.j0 k a0 a1 a2 a3 bt322.1 true) else (pylonref03_Nth.j0 k a0 a1 a2 a3 bt322.1 (decide (a3 > 6)))))) else (some (0, 0, 0, bt322.2)))) = some (r1, r2, r3, r4) := h
 clear h
 replace H := Option.bind_eq_some_iff.mp H
 obtain ⟨⟨t322, t323⟩, A50, H⟩ := H
 replace H : (if t323 = 0 then (if a2 < 1 then (pylonref03_Nth.j0 k a0 a1 a2 a3 t322 true) else (if a2 > 5 then (pylonref03_Nth.j0 k a0 a1 a2 a3 t322 true) else (if a3 < 0 then (pylonref03_Nth.j0 k a0 a1 a2 a3 t322 true) else (pylonref03_Nth.j0 k a0 a1 a2 a3 t322 (decide (a3 > 6)))))) else (some (0, 0, 0, t323))) = some (r1, r2, r3, r4) := H
 have A5 := AX A50
 clear A50
 by_cases c6 : t323 = 0
 ·rw [if_pos c6] at H
  have c6b0 : (t323 == 0) = true := beq_iff_eq.mpr c6
  have c6b1 : (t323 != 0) = false := bne_eq_false_iff_eq.mpr c6
  clear c6
  have HC7 := AX H
  clear H
  go_enter Try.func54, Try.ntmps54
  go_upto_region 4 with (first | ((with_reducible refine gate_dst (N := 8) rfl ?_); refine box_event ?hg (N := 8) ?hd (cs := #[.int .i64 0, .int .i64 0, .int .i64 0]) (t := 33) ?hr ?_; (case hd => rfl); (case hg => rfl); (case hr => first | (go_simp; done) | (go_simp; rfl)); intro gb321 hg w8 hbox hb; have n0_ := AX (below_step bw hb); have n1_ := AX (hbox); have n2_ := AX ((by rw [hg]; exact (below_size bw) : w.heap.size ≤ gb321)); have n3_ := n2_; clear HB; have HB := n0_; have BK321 := n1_; have GW321 := n2_; have GE321 := n3_; clear n0_ n1_ n2_ n3_; clear hb hbox hg) | ((with_reducible refine gate_callee (f := 51) rfl ?_); refine goesL_ (some 20) rfl rfl Try.func51 (by kernel_rfl) rfl #[.int .i64 a0, .int .i64 a1] rfl (by (try simp only [List.map_toArray, List.map_cons, List.map_nil]); first | done | rfl | (simp only [List.length_drop, List.length_take]; rfl)) ?_; (with_reducible refine (pylonref03_Length.calls k a0 a1 t322 t323 _ A5.out).mono ?_); rintro e w' ⟨rfl, ⟨nd, rfl⟩⟩; refine ⟨_, rfl, ?_⟩))
  (try simp only [Act.put, List.setIfInBounds_toArray, List.set_cons_zero, List.set_cons_succ])
  go_cut [40] (fun v40 wc => ∃ (kq : Nat) (x40_6 : Bool), v40 = .bool x40_6 ∧ Aside0 (pylonref03_Nth.j0 kq a0 a1 a2 a3 t322 x40_6 = some (r1, r2, r3, r4)) ∧ Aside0 (kq ≤ k) ∧ Aside0 (wc.heap[gb321]? = some (.cells #[.int .i64 0, .int .i64 0, .int .i64 0] 33 (0, 0))) ∧ Aside0 (Below w.heap.size w wc))
  case first =>
   have H := HC7.out
   clear HC7
   by_cases c9 : a2 < 1
   ·rw [if_pos c9] at H
    have c9b0 : decide (a2 < 1) = true := decide_eq_true c9
    clear c9
    (first | rw [c9b0] | (simp only [i64_w, i32_w]; rw [c9b0]) | skip)
    have H' := AX H
    clear H
    go_wp2
    go_meet
    case rel => exact ⟨_, (true), (by first | rfl | (simp; done) | (simp [*]; done)), H', ⟨by first | omega | exact Nat.le_refl _⟩, ⟨bkn BK321⟩, ⟨bw⟩⟩
   ·rw [if_neg c9] at H
    have c9b0 : decide (a2 < 1) = false := decide_eq_false c9
    clear c9
    (first | rw [c9b0] | (simp only [i64_w, i32_w]; rw [c9b0]) | skip)
    by_cases c10 : a2 > 5
    ·rw [if_pos c10] at H
     have c10b0 : decide (5 < a2) = true := decide_eq_true c10
     clear c10
     have H' := AX H
     clear H
     go_wp2
     go_meet
     case rel => exact ⟨_, (true), (by first | rfl | (simp; done) | (simp [*]; done)), H', ⟨by first | omega | exact Nat.le_refl _⟩, ⟨bkn BK321⟩, ⟨bw⟩⟩
    ·rw [if_neg c10] at H
     have c10b0 : decide (5 < a2) = false := decide_eq_false c10
     clear c10
     by_cases c11 : a3 < 0
     ·rw [if_pos c11] at H
      have c11b0 : decide (a3 < 0) = true := decide_eq_true c11
      clear c11
      have H' := AX H
      clear H
      go_wp2
      go_meet
      case rel => exact ⟨_, (true), (by first | rfl | (simp; done) | (simp [*]; done)), H', ⟨by first | omega | exact Nat.le_refl _⟩, ⟨bkn BK321⟩, ⟨bw⟩⟩
     ·rw [if_neg c11] at H
      have c11b0 : decide (a3 < 0) = false := decide_eq_false c11
      clear c11
      have H' := AX H
      clear H
      go_wp2
      go_meet
      case rel => exact ⟨_, (decide (a3 > 6)), (by first | rfl | (simp; done) | (simp [*]; done)), H', ⟨by first | omega | exact Nat.le_refl _⟩, ⟨bkn BK321⟩, ⟨bw⟩⟩
  case rest =>
   clear HC7
   try clear c6
   try clear c6b0
   try clear c6b1
   obtain ⟨kq, x40_6, rfl, HA, HJ6, BK321, HB⟩ := hcut
   cases kq with
   | zero => exact absurd HA.out (by simp [pylonref03_Nth.j0])
   | succ kj6 =>
    have H := HA.out
    clear HA
    simp only [pylonref03_Nth.j0] at H
    by_cases c12 : x40_6 = true
    ·subst c12
     have H1 : (some (0, 0, 0, 8)) = some (r1, r2, r3, r4) := by rw [if_pos rfl] at H; exact H
     clear H
     have H := H1
     clear H1
     simp only [Option.some.injEq, Prod.mk.injEq] at H
     obtain ⟨rfl, rfl, rfl, rfl⟩ := H
     obtain ⟨hcz13_0, hcz13_1, hcz13_2⟩ := blkC3 (w := wc) BK321.out
     obtain ⟨hfz13_0, hfz13_1, hfz13_2⟩ := blkF3 BK321.out
     go_wp2
     refine bodyPost_ret (results_ct rfl _ _ gb321 33 #[.int .i64 0, .int .i64 0, .int .i64 0] (0, 0) _ rfl (by (with_reducible repeat first|refine blk_drewN ?_ _|refine blk_drew ?_|refine blk_alloc ?_ _); refine blk_put (cs := #[.int .i64 0, .int .i64 0, .int .i64 0]) ?_ 2 _ rfl; (with_reducible repeat first|refine blk_drewN ?_ _|refine blk_drew ?_|refine blk_alloc ?_ _); refine blk_put (cs := #[.int .i64 0, .int .i64 0, .int .i64 0]) ?_ 1 _ rfl; (with_reducible repeat first|refine blk_drewN ?_ _|refine blk_drew ?_|refine blk_alloc ?_ _); refine blk_put (cs := #[.int .i64 0, .int .i64 0, .int .i64 0]) ?_ 0 _ rfl; (with_reducible repeat first|refine blk_drewN ?_ _|refine blk_drew ?_|refine blk_alloc ?_ _); exact BK321.out) Try.underlying33 rfl (by kernel_rfl)) rfl ?_
     exact ⟨by first | rfl | (simp [errW_none, errW_some] <;> rfl) | (simp [*, errW_none, errW_some] <;> rfl), bw⟩
    ·replace c12 := Bool.eq_false_iff.mpr c12
     subst c12
     have H1 : (pylonref03_Nth.l0 kj6 a0 a1 a2 a3 t322 0 0 1) = some (r1, r2, r3, r4) := by rw [if_neg (show ¬ (false = true) by decide)] at H; exact H
     clear H
     have H := H1
     clear H1
     have H' := AX H
     clear H
     go_wp2
     go_loopg [12, 13, 14] kj6 (fun kq v12 v13 v14 w' => ∃ (x12_2 : Int) (x13_2 : Int) (x14_2 : Int), v12 = .int .i64 x12_2 ∧ v13 = .int .i64 x13_2 ∧ v14 = .int .i64 x14_2 ∧ Aside0 (pylonref03_Nth.l0 kq a0 a1 a2 a3 t322 x12_2 x13_2 x14_2 = some (r1, r2, r3, r4)) ∧ Aside0 (kq ≤ kj6) ∧ Aside0 (w'.heap[gb321]? = some (.cells #[.int .i64 0, .int .i64 0, .int .i64 0] 33 (0, 0))) ∧ Aside0 (Below w.heap.size w w'))
     case atStart => exact ⟨(0), (0), (1), (by first | rfl | (simp; done) | (simp [*]; done)), (by first | rfl | (simp; done) | (simp [*]; done)), (by first | rfl | (simp; done) | (simp [*]; done)), H', ⟨Nat.le_refl _⟩, ⟨bkn BK321⟩, ⟨bw⟩⟩
     case round =>
      clear H'
      try clear c6
      try clear c6b0
      try clear c6b1
      try clear c12
      obtain ⟨x12_2, x13_2, x14_2, rfl, rfl, rfl, HA, HK2, BK321, HB⟩ := hrel
      cases gk with
      | zero => exact absurd HA.out (by simp [pylonref03_Nth.l0])
      | succ k2 =>
       have H := HA.out
       clear HA
       simp only [pylonref03_Nth.l0] at H
       by_cases c14 : x14_2 ≤ t322
       ·rw [if_pos c14] at H
        have c14b0 : decide (x14_2 ≤ t322) = true := decide_eq_true c14
        clear c14
        replace H := Option.bind_eq_some_iff.mp H
        obtain ⟨⟨t324, t325⟩, A150, H⟩ := H
        replace H : (if t324 = a3 then (if (wrap64 (x12_2 + 1)) = a2 then (some (a0, a1, x14_2, 0)) else (pylonref03_Nth.l0 k2 a0 a1 a2 a3 t322 (wrap64 (x12_2 + 1)) x14_2 (wrap64 (x14_2 + 1)))) else (pylonref03_Nth.l0 k2 a0 a1 a2 a3 t322 x12_2 x13_2 (wrap64 (x14_2 + 1)))) = some (r1, r2, r3, r4) := H
        have A15 := AX A150
        clear A150
        by_cases c16 : t324 = a3
        ·rw [if_pos c16] at H
         have c16b0 : (t324 == a3) = true := beq_iff_eq.mpr c16
         have c16b1 : (t324 != a3) = false := bne_eq_false_iff_eq.mpr c16
         clear c16
         by_cases c17 : (wrap64 (x12_2 + 1)) = a2
         ·rw [if_pos c17] at H
          have c17b0 : ((wrap64 (x12_2 + 1)) == a2) = true := beq_iff_eq.mpr c17
          have c17b1 : ((wrap64 (x12_2 + 1)) != a2) = false := bne_eq_false_iff_eq.mpr c17
          clear c17
          simp only [Option.some.injEq, Prod.mk.injEq] at H
          obtain ⟨rfl, rfl, rfl, rfl⟩ := H
          go_wp2_with (first | ((with_reducible refine gate_callee (f := 69) rfl ?_); refine goesL_ (some 52) rfl rfl Try.func69 (by kernel_rfl) rfl #[.agg #[.int .i64 a0, .int .i64 a1, .int .i64 x14_2]] rfl (by (try simp only [List.map_toArray, List.map_cons, List.map_nil]); first | done | rfl | (simp only [List.length_drop, List.length_take]; rfl)) ?_; (with_reducible refine (pylonref03_Weekday.calls k2 a0 a1 x14_2 t324 t325 _ A15.out).mono ?_); rintro e w18 ⟨rfl, hb⟩; refine ⟨_, rfl, ?_⟩; have n0_ := AX (bkb BK321 hb); have n1_ := AX (below_step bw hb); clear BK321; clear HB; have BK321 := n0_; have HB := n1_; clear n0_ n1_; (try clear hb); obtain ⟨hcz19_0, hcz19_1, hcz19_2⟩ := blkC3 (w := w18) BK321.out; obtain ⟨hfz19_0, hfz19_1, hfz19_2⟩ := blkF3 BK321.out))
          refine bodyPost_ret (results_ct rfl _ _ gb321 33 #[.int .i64 a0, .int .i64 a1, .int .i64 x14_2] (0, 0) _ rfl (by (with_reducible repeat first|refine blk_drewN ?_ _|refine blk_drew ?_|refine blk_alloc ?_ _); refine blk_put (cs := #[.int .i64 a0, .int .i64 a1, .int .i64 0]) ?_ 2 _ rfl; (with_reducible repeat first|refine blk_drewN ?_ _|refine blk_drew ?_|refine blk_alloc ?_ _); refine blk_put (cs := #[.int .i64 a0, .int .i64 0, .int .i64 0]) ?_ 1 _ rfl; (with_reducible repeat first|refine blk_drewN ?_ _|refine blk_drew ?_|refine blk_alloc ?_ _); refine blk_put (cs := #[.int .i64 0, .int .i64 0, .int .i64 0]) ?_ 0 _ rfl; (with_reducible repeat first|refine blk_drewN ?_ _|refine blk_drew ?_|refine blk_alloc ?_ _); exact BK321.out) Try.underlying33 rfl (by kernel_rfl)) rfl ?_
          exact ⟨by first | rfl | (simp [errW_none, errW_some] <;> rfl) | (simp [*, errW_none, errW_some] <;> rfl), bw⟩
         ·rw [if_neg c17] at H
          have c17b0 : ((wrap64 (x12_2 + 1)) == a2) = false := beq_eq_false_iff_ne.mpr c17
          have c17b1 : ((wrap64 (x12_2 + 1)) != a2) = true := bne_iff_ne.mpr c17
          have H' := AX H
          clear H
          go_wp2_with (first | ((with_reducible refine gate_callee (f := 69) rfl ?_); refine goesL_ (some 52) rfl rfl Try.func69 (by kernel_rfl) rfl #[.agg #[.int .i64 a0, .int .i64 a1, .int .i64 x14_2]] rfl (by (try simp only [List.map_toArray, List.map_cons, List.map_nil]); first | done | rfl | (simp only [List.length_drop, List.length_take]; rfl)) ?_; (with_reducible refine (pylonref03_Weekday.calls k2 a0 a1 x14_2 t324 t325 _ A15.out).mono ?_); rintro e w20 ⟨rfl, hb⟩; refine ⟨_, rfl, ?_⟩; have n0_ := AX (bkb BK321 hb); have n1_ := AX (below_step bw hb); clear BK321; clear HB; have BK321 := n0_; have HB := n1_; clear n0_ n1_; (try clear hb)))
          go_roundg k2
          case measure => have := HJ6.out; have := HK2.out; omega
          case rel => exact ⟨(wrap64 (x12_2 + 1)), (x14_2), (wrap64 (x14_2 + 1)), (by first | rfl | (simp; done) | (simp [*]; done)), (by first | rfl | (simp; done) | (simp [*]; done)), (by first | rfl | (simp; done) | (simp [*]; done)), H', ⟨by have := HJ6.out; have := HK2.out; omega⟩, ⟨bkn BK321⟩, ⟨bw⟩⟩
        ·rw [if_neg c16] at H
         have c16b0 : (t324 == a3) = false := beq_eq_false_iff_ne.mpr c16
         have c16b1 : (t324 != a3) = true := bne_iff_ne.mpr c16
         have H' := AX H
         clear H
         go_wp2_with (first | ((with_reducible refine gate_callee (f := 69) rfl ?_); refine goesL_ (some 52) rfl rfl Try.func69 (by kernel_rfl) rfl #[.agg #[.int .i64 a0, .int .i64 a1, .int .i64 x14_2]] rfl (by (try simp only [List.map_toArray, List.map_cons, List.map_nil]); first | done | rfl | (simp only [List.length_drop, List.length_take]; rfl)) ?_; (with_reducible refine (pylonref03_Weekday.calls k2 a0 a1 x14_2 t324 t325 _ A15.out).mono ?_); rintro e w21 ⟨rfl, hb⟩; refine ⟨_, rfl, ?_⟩; have n0_ := AX (bkb BK321 hb); have n1_ := AX (below_step bw hb); clear BK321; clear HB; have BK321 := n0_; have HB := n1_; clear n0_ n1_; (try clear hb)))
         go_roundg k2
         case measure => have := HJ6.out; have := HK2.out; omega
         case rel => exact ⟨(x12_2), (x13_2), (wrap64 (x14_2 + 1)), (by first | rfl | (simp; done) | (simp [*]; done)), (by first | rfl | (simp; done) | (simp [*]; done)), (by first | rfl | (simp; done) | (simp [*]; done)), H', ⟨by have := HJ6.out; have := HK2.out; omega⟩, ⟨bkn BK321⟩, ⟨bw⟩⟩
       ·rw [if_neg c14] at H
        have c14b0 : decide (x14_2 ≤ t322) = false := decide_eq_false c14
        clear c14
        simp only [Option.some.injEq, Prod.mk.injEq] at H
        obtain ⟨rfl, rfl, rfl, rfl⟩ := H
        obtain ⟨hcz22_0, hcz22_1, hcz22_2⟩ := blkC3 (w := wr) BK321.out
        obtain ⟨hfz22_0, hfz22_1, hfz22_2⟩ := blkF3 BK321.out
        go_wp2
        refine bodyPost_ret (results_ct rfl _ _ gb321 33 #[.int .i64 a0, .int .i64 a1, .int .i64 x13_2] (0, 0) _ rfl (by (with_reducible repeat first|refine blk_drewN ?_ _|refine blk_drew ?_|refine blk_alloc ?_ _); refine blk_put (cs := #[.int .i64 a0, .int .i64 a1, .int .i64 0]) ?_ 2 _ rfl; (with_reducible repeat first|refine blk_drewN ?_ _|refine blk_drew ?_|refine blk_alloc ?_ _); refine blk_put (cs := #[.int .i64 a0, .int .i64 0, .int .i64 0]) ?_ 1 _ rfl; (with_reducible repeat first|refine blk_drewN ?_ _|refine blk_drew ?_|refine blk_alloc ?_ _); refine blk_put (cs := #[.int .i64 0, .int .i64 0, .int .i64 0]) ?_ 0 _ rfl; (with_reducible repeat first|refine blk_drewN ?_ _|refine blk_drew ?_|refine blk_alloc ?_ _); exact BK321.out) Try.underlying33 rfl (by kernel_rfl)) rfl ?_
        exact ⟨by first | rfl | (simp [errW_none, errW_some] <;> rfl) | (simp [*, errW_none, errW_some] <;> rfl), bw⟩
 ·rw [if_neg c6] at H
  have c6b0 : (t323 == 0) = false := beq_eq_false_iff_ne.mpr c6
  have c6b1 : (t323 != 0) = true := bne_iff_ne.mpr c6
  simp only [Option.some.injEq, Prod.mk.injEq] at H
  obtain ⟨rfl, rfl, rfl, rfl⟩ := H
  go_enter Try.func54, Try.ntmps54
  go_wp2_with (first | ((with_reducible refine gate_dst (N := 8) rfl ?_); refine box_event ?hg (N := 8) ?hd (cs := #[.int .i64 0, .int .i64 0, .int .i64 0]) (t := 33) ?hr ?_; (case hd => rfl); (case hg => rfl); (case hr => first | (go_simp; done) | (go_simp; rfl)); intro gb321 hg w23 hbox hb; have n0_ := AX (below_step bw hb); have n1_ := AX (hbox); have n2_ := AX ((by rw [hg]; exact (below_size bw) : w.heap.size ≤ gb321)); have n3_ := n2_; clear HB; have HB := n0_; have BK321 := n1_; have GW321 := n2_; have GE321 := n3_; clear n0_ n1_ n2_ n3_; clear hb hbox hg) | ((with_reducible refine gate_callee (f := 51) rfl ?_); refine goesL_ (some 20) rfl rfl Try.func51 (by kernel_rfl) rfl #[.int .i64 a0, .int .i64 a1] rfl (by (try simp only [List.map_toArray, List.map_cons, List.map_nil]); first | done | rfl | (simp only [List.length_drop, List.length_take]; rfl)) ?_; (with_reducible refine (pylonref03_Length.calls k a0 a1 t322 t323 _ A5.out).mono ?_); rintro e w' ⟨rfl, ⟨nd, rfl⟩⟩; refine ⟨_, rfl, ?_⟩; (try (rw [drewN_self w23]; generalize hq_ : World.drewN w23 _ = w23; have n0_ : Aside0 (w23.heap[gb321]? = some (.cells #[.int .i64 0, .int .i64 0, .int .i64 0] 33 (0, 0))) := ⟨by rw [← hq_]; exact (bkn BK321)⟩; have n1_ : Aside0 (Below w.heap.size w w23) := ⟨by rw [← hq_]; exact bw⟩; clear BK321 HB hq_; have BK321 := n0_; have HB := n1_; clear n0_ n1_)); obtain ⟨hcz24_0, hcz24_1, hcz24_2⟩ := blkC3 (w := w23) BK321.out; obtain ⟨hfz24_0, hfz24_1, hfz24_2⟩ := blkF3 BK321.out))
  refine bodyPost_ret (results_ct rfl _ _ gb321 33 #[.int .i64 0, .int .i64 0, .int .i64 0] (0, 0) _ rfl (by (with_reducible repeat first|refine blk_drewN ?_ _|refine blk_drew ?_|refine blk_alloc ?_ _); refine blk_put (cs := #[.int .i64 0, .int .i64 0, .int .i64 0]) ?_ 2 _ rfl; (with_reducible repeat first|refine blk_drewN ?_ _|refine blk_drew ?_|refine blk_alloc ?_ _); refine blk_put (cs := #[.int .i64 0, .int .i64 0, .int .i64 0]) ?_ 1 _ rfl; (with_reducible repeat first|refine blk_drewN ?_ _|refine blk_drew ?_|refine blk_alloc ?_ _); refine blk_put (cs := #[.int .i64 0, .int .i64 0, .int .i64 0]) ?_ 0 _ rfl; (with_reducible repeat first|refine blk_drewN ?_ _|refine blk_drew ?_|refine blk_alloc ?_ _); exact BK321.out) Try.underlying33 rfl (by kernel_rfl)) rfl ?_
  exact ⟨by first | rfl | (simp [errW_none, errW_some] <;> rfl) | (simp [*, errW_none, errW_some] <;> rfl), bw⟩

/-! ### pylonref04_moment: function 66 -/
def pylonref04_moment.f (k : Nat) (a0_0 : Int) (a0_1 : Int) (a0_2 : Int) (a0_3 : Int) (a1 : Int) (a2 : Int) : Option (Int) := (pylonref03_Nth.f k a1 a0_0 a0_1 a0_2).bind fun bt327 => ((pylonref03_Days.f k bt327.1 bt327.2.1 bt327.2.2.1).bind fun bt332 => (some (wrap64 ((wrap64 (bt332.1 * 86400)) + (wrap64 ((wrap64 (a0_3 - a2)) * 60))))))
theorem pylonref04_moment.mono : ∀ a0 a1 a2 a3 a4 a5 k, LeO (pylonref04_moment.f k a0 a1 a2 a3 a4 a5) (pylonref04_moment.f (k + 1) a0 a1 a2 a3 a4 a5) := by
 intro a0 a1 a2 a3 a4 a5 k
 unfold pylonref04_moment.f
 repeat' first
   | (with_reducible exact pylonref03_Days.mono _ _ _ _)
   | (with_reducible exact pylonref03_Nth.mono _ _ _ _ _)
   | (with_reducible exact LeO.refl _)
   | (with_reducible exact LeO.none _)
   | (with_reducible refine LeO.ite ?_ ?_)
   | (with_reducible refine LeO.bind ?_ (fun _ => ?_))
   | exact pylonref03_Days.mono _ _ _ _
   | exact pylonref03_Nth.mono _ _ _ _ _
   | exact LeO.none _
   | refine LeO.ite ?_ ?_
   | refine LeO.bind ?_ (fun _ => ?_)
set_option maxHeartbeats 8000000 in
set_option maxRecDepth 100000 in
theorem pylonref04_moment.calls (k : Nat) (a0_0 : Int) (a0_1 : Int) (a0_2 : Int) (a0_3 : Int) (a1 : Int) (a2 : Int) (r : Int) (w : World) (h : pylonref04_moment.f k a0_0 a0_1 a0_2 a0_3 a1 a2 = some r) :
  Calls Try.prog 66 #[.agg #[.int .i64 a0_0, .int .i64 a0_1, .int .i64 a0_2, .int .i64 a0_3], .int .i64 a1, .int .i64 a2] w fun e w' => e = .returned (.int .i64 r) ∧ Below w.heap.size w w' := by
 have hu23 := Try.underlying23
 have hu33 := Try.underlying33
 have HB := AX (Below.refl w.heap.size w)
 have H : ((pylonref03_Nth.f k a1 a0_0 a0_1 a0_2).bind fun bt327 => ((pylonref03_Days.f k bt327.1 bt327.2.1 bt327.2.2.1).bind fun bt332 => (some (wrap64 ((wrap64 (bt332.1 * 86400)) + (wrap64 ((wrap64 (a0_3 - a2)) * 60))))))) = some r := h
 clear h
 replace H := Option.bind_eq_some_iff.mp H
 obtain ⟨⟨t327, t328, t329, t330⟩, A40, H⟩ := H
 replace H : ((pylonref03_Days.f k t327 t328 t329).bind fun bt332 => (some (wrap64 ((wrap64 (bt332.1 * 86400)) + (wrap64 ((wrap64 (a0_3 - a2)) * 60)))))) = some r := H
 have A4 := AX A40
 clear A40
 replace H := Option.bind_eq_some_iff.mp H
 obtain ⟨⟨t332, t333⟩, A50, H⟩ := H
 replace H : (some (wrap64 ((wrap64 (t332 * 86400)) + (wrap64 ((wrap64 (a0_3 - a2)) * 60))))) = some r := H
 have A5 := AX A50
 clear A50
 obtain rfl := Option.some.inj H
 go_enter Try.func66, Try.ntmps66
 go_wp2_with (first | ((with_reducible refine gate_dst (N := 3) rfl ?_); refine box_event ?hg (N := 3) ?hd (cs := #[.int .i64 a0_0, .int .i64 a0_1, .int .i64 a0_2, .int .i64 a0_3]) (t := 23) ?hr ?_; (case hd => rfl); (case hg => rfl); (case hr => first | (go_simp; done) | (go_simp; rfl)); intro gb326 hg w6 hbox hb; have n0_ := AX (below_step bw hb); have n1_ := AX (hbox); have n2_ := AX ((by rw [hg]; exact (below_size bw) : w.heap.size ≤ gb326)); have n3_ := n2_; clear HB; have HB := n0_; have BK326 := n1_; have GW326 := n2_; have GE326 := n3_; clear n0_ n1_ n2_ n3_; clear hb hbox hg; obtain ⟨hcz7_0, hcz7_1, hcz7_2, hcz7_3⟩ := blkC4 (w := w6) BK326.out; obtain ⟨hfz7_0, hfz7_1, hfz7_2, hfz7_3⟩ := blkF4 BK326.out) | ((with_reducible refine gate_callee (f := 54) rfl ?_); refine goesL_ (some 19) rfl rfl Try.func54 (by kernel_rfl) rfl #[.int .i64 a1, .int .i64 a0_0, .int .i64 a0_1, .int .i64 a0_2] rfl (by (try simp only [List.map_toArray, List.map_cons, List.map_nil]); first | done | rfl | (simp only [List.length_drop, List.length_take]; rfl)) ?_; (with_reducible refine (pylonref03_Nth.calls k a1 a0_0 a0_1 a0_2 t327 t328 t329 t330 _ A4.out).mono ?_); rintro e w8 ⟨rfl, hb⟩; refine ⟨_, rfl, ?_⟩; have n0_ := AX (bkb BK326 hb); have n1_ := AX (below_step bw hb); clear BK326; clear HB; have BK326 := n0_; have HB := n1_; clear n0_ n1_; (try clear hb)) | ((with_reducible refine gate_dst (N := 7) rfl ?_); refine box_event ?hg (N := 7) ?hd (cs := #[.int .i64 0, .int .i64 0, .int .i64 0]) (t := 33) ?hr ?_; (case hd => rfl); (case hg => rfl); (case hr => first | (go_simp; done) | (go_simp; rfl)); intro gb331 hg w9 hbox hb; have n0_ := AX (bkb BK326 hb); have n1_ := AX (below_step bw hb); have n2_ := AX (hbox); have n3_ := AX ((by rw [hg]; exact (below_size bw) : w.heap.size ≤ gb331)); have n4_ := n3_; have n5_ := AX ((by rw [hg]; exact Nat.ne_of_lt (blk_lt (bkn BK326)) : gb326 ≠ gb331)); have n6_ := AX ((by rw [hg]; exact Nat.ne_of_gt (blk_lt (bkn BK326)) : gb331 ≠ gb326)); clear BK326; clear HB; have BK326 := n0_; have HB := n1_; have BK331 := n2_; have GW331 := n3_; have GE331 := n4_; have NB326_331 := n5_; have NB331_326 := n6_; clear n0_ n1_ n2_ n3_ n4_ n5_ n6_; clear hb hbox hg; have hnb10 := NB331_326.out; have hnc10 := NB326_331.out; obtain ⟨hcz11_0, hcz11_1, hcz11_2⟩ := blkC3 (w := w9) BK331.out; obtain ⟨hfz11_0, hfz11_1, hfz11_2⟩ := blkF3 BK331.out) | ((with_reducible refine gate_callee (f := 21) rfl ?_); refine goesL_ (some 24) rfl rfl Try.func21 (by kernel_rfl) rfl #[.agg #[.int .i64 t327, .int .i64 t328, .int .i64 t329]] rfl (by (try simp only [List.map_toArray, List.map_cons, List.map_nil]); first | done | rfl | (simp only [List.length_drop, List.length_take]; rfl)) ?_; (with_reducible refine (pylonref03_Days.calls k t327 t328 t329 t332 t333 _ A5.out).mono ?_); rintro e w12 ⟨rfl, hb⟩; refine ⟨_, rfl, ?_⟩; have n0_ := AX (blk_below (g := gb326) (o := .cells #[.int .i64 a0_0, .int .i64 a0_1, .int .i64 a0_2, .int .i64 a0_3] 23 (0, 0)) (by (with_reducible repeat first|refine blk_drewN ?_ _|refine blk_drew ?_|refine blk_alloc ?_ _|refine blk_far ?_ NB326_331.out _); exact BK326.out) hb); have n1_ := AX (blk_below (g := gb331) (o := .cells #[.int .i64 t327, .int .i64 t328, .int .i64 t329] 33 (0, 0)) (by (with_reducible repeat first|refine blk_drewN ?_ _|refine blk_drew ?_|refine blk_alloc ?_ _); refine blk_put (cs := #[.int .i64 t327, .int .i64 t328, .int .i64 0]) ?_ 2 _ rfl; (with_reducible repeat first|refine blk_drewN ?_ _|refine blk_drew ?_|refine blk_alloc ?_ _); refine blk_put (cs := #[.int .i64 t327, .int .i64 0, .int .i64 0]) ?_ 1 _ rfl; (with_reducible repeat first|refine blk_drewN ?_ _|refine blk_drew ?_|refine blk_alloc ?_ _); refine blk_put (cs := #[.int .i64 0, .int .i64 0, .int .i64 0]) ?_ 0 _ rfl; (with_reducible repeat first|refine blk_drewN ?_ _|refine blk_drew ?_|refine blk_alloc ?_ _); exact BK331.out) hb); have n2_ := AX (below_step bw hb); clear BK326; clear BK331; clear HB; have BK326 := n0_; have BK331 := n1_; have HB := n2_; clear n0_ n1_ n2_; (try clear hb); obtain ⟨hcz13_0, hcz13_1, hcz13_2, hcz13_3⟩ := blkC4 (w := w12) BK326.out; obtain ⟨hfz13_0, hfz13_1, hfz13_2, hfz13_3⟩ := blkF4 BK326.out))
 go_ret
 exact ⟨by first | rfl | (simp [errW_none, errW_some] <;> rfl) | (simp [*, errW_none, errW_some] <;> rfl), bw⟩

end Go.Proofs.Ytddkckpfmleffaa.PX
