/- Functions of the program as plain Lean functions, each with a proof that the call in the machine answers just what the plain function says; condition: the plain function answers at all. -/
import Derived.Test.YtddkckpfmleffaaPXx0
import Derived.Test.YtddkckpfmleffaaPXx1
import Derived.Test.YtddkckpfmleffaaPXx10
import Derived.Test.YtddkckpfmleffaaPXx14
import Derived.Test.YtddkckpfmleffaaPXx16
namespace Go.Proofs.Ytddkckpfmleffaa.PX
open Go.RowKit Go.Proofs.YtddkckpfmleffaaW.PrintWords Go.Proofs.YtddkckpfmleffaaW.PrintLast Go.Proofs.YtddkckpfmleffaaW.PrintMore
attribute [local go_sem] max2_int min2_int max_two min_two max_three min_three max_four min_four   -- for this text's walks alone
set_option linter.unusedVariables false
set_option linter.unusedSimpArgs false

attribute [local go_sem high] eqA33
/-! ### pylonref03_Add: function 26 -/
def pylonref03_Add.f (k : Nat) (a0_0 : Int) (a0_1 : Int) (a0_2 : Int) (a1 : Int) : Option (Int × Int × Int × Int) := (pylonref03_Days.f k a0_0 a0_1 a0_2).bind fun bt398 => (if bt398.2 = 0 then (if a1 > 5000000 then (some (0, 0, 0, 5)) else (if a1 < (-5000000) then (some (0, 0, 0, 5)) else ((pylonref03_Of.f k (wrap64 (bt398.1 + a1))).bind fun bt400 => (some (bt400.1, bt400.2.1, bt400.2.2.1, bt400.2.2.2))))) else (some (0, 0, 0, 5)))
theorem pylonref03_Add.mono : ∀ a0 a1 a2 a3 k, LeO (pylonref03_Add.f k a0 a1 a2 a3) (pylonref03_Add.f (k + 1) a0 a1 a2 a3) := by
 intro a0 a1 a2 a3 k
 unfold pylonref03_Add.f
 repeat' first
   | (with_reducible exact pylonref03_Days.mono _ _ _ _)
   | (with_reducible exact pylonref03_Of.mono _ _)
   | (with_reducible exact LeO.refl _)
   | (with_reducible exact LeO.none _)
   | (with_reducible refine LeO.ite ?_ ?_)
   | (with_reducible refine LeO.bind ?_ (fun _ => ?_))
   | exact pylonref03_Days.mono _ _ _ _
   | exact pylonref03_Of.mono _ _
   | exact LeO.none _
   | refine LeO.ite ?_ ?_
   | refine LeO.bind ?_ (fun _ => ?_)
set_option maxHeartbeats 8000000 in
set_option maxRecDepth 100000 in
theorem pylonref03_Add.calls (k : Nat) (a0_0 : Int) (a0_1 : Int) (a0_2 : Int) (a1 : Int) (r1 : Int) (r2 : Int) (r3 : Int) (r4 : Int) (w : World) (h : pylonref03_Add.f k a0_0 a0_1 a0_2 a1 = some (r1, r2, r3, r4)) :
  Calls Try.prog 26 #[.agg #[.int .i64 a0_0, .int .i64 a0_1, .int .i64 a0_2], .int .i64 a1] w fun e w' => e = .returned (.tuple #[.agg #[.int .i64 r1, .int .i64 r2, .int .i64 r3], .int .i64 r4]) ∧ Below w.heap.size w w' := by
 have hu33 := Try.underlying33
 have HB := AX (Below.refl w.heap.size w)
 have H : ((pylonref03_Days.f k a0_0 a0_1 a0_2).bind fun bt398 => (if bt398.2 = 0 then (if a1 > 5000000 then (some (0, 0, 0, 5)) else (if a1 < (-5000000) then (some (0, 0, 0, 5)) else ((pylonref03_Of.f k (wrap64 (bt398.1 + a1))).bind fun bt400 => (some (bt400.1, bt400.2.1, bt400.2.2.1, bt400.2.2.2))))) else (some (0, 0, 0, 5)))) = some (r1, r2, r3, r4) := h
 clear h
 replace H := Option.bind_eq_some_iff.mp H
 obtain ⟨⟨t398, t399⟩, A30, H⟩ := H
 replace H : (if t399 = 0 then (if a1 > 5000000 then (some (0, 0, 0, 5)) else (if a1 < (-5000000) then (some (0, 0, 0, 5)) else ((pylonref03_Of.f k (wrap64 (t398 + a1))).bind fun bt400 => (some (bt400.1, bt400.2.1, bt400.2.2.1, bt400.2.2.2))))) else (some (0, 0, 0, 5))) = some (r1, r2, r3, r4) := H
 have A3 := AX A30
 clear A30
 by_cases c4 : t399 = 0
 ·rw [if_pos c4] at H
  have c4b0 : (t399 == 0) = true := beq_iff_eq.mpr c4
  have c4b1 : (t399 != 0) = false := bne_eq_false_iff_eq.mpr c4
  clear c4
  by_cases c5 : a1 > 5000000
  ·rw [if_pos c5] at H
   have c5b0 : decide (5000000 < a1) = true := decide_eq_true c5
   clear c5
   simp only [Option.some.injEq, Prod.mk.injEq] at H
   obtain ⟨rfl, rfl, rfl, rfl⟩ := H
   go_enter Try.func26, Try.ntmps26
   go_wp2_with (first | ((with_reducible refine gate_dst (N := 2) rfl ?_); refine box_event ?hg (N := 2) ?hd (cs := #[.int .i64 a0_0, .int .i64 a0_1, .int .i64 a0_2]) (t := 33) ?hr ?_; (case hd => rfl); (case hg => rfl); (case hr => first | (go_simp; done) | (go_simp; rfl)); intro gb396 hg w6 hbox hb; have n0_ := AX (below_step bw hb); have n1_ := AX (hbox); have n2_ := AX ((by rw [hg]; exact (below_size bw) : w.heap.size ≤ gb396)); have n3_ := n2_; clear HB; have HB := n0_; have BK396 := n1_; have GW396 := n2_; have GE396 := n3_; clear n0_ n1_ n2_ n3_; clear hb hbox hg) | ((with_reducible refine gate_dst (N := 4) rfl ?_); refine box_event ?hg (N := 4) ?hd (cs := #[.int .i64 0, .int .i64 0, .int .i64 0]) (t := 33) ?hr ?_; (case hd => rfl); (case hg => rfl); (case hr => first | (go_simp; done) | (go_simp; rfl)); intro gb397 hg w7 hbox hb; have n0_ := AX (bkb BK396 hb); have n1_ := AX (below_step bw hb); have n2_ := AX (hbox); have n3_ := AX ((by rw [hg]; exact (below_size bw) : w.heap.size ≤ gb397)); have n4_ := n3_; have n5_ := AX ((by rw [hg]; exact Nat.ne_of_lt (blk_lt (bkn BK396)) : gb396 ≠ gb397)); have n6_ := AX ((by rw [hg]; exact Nat.ne_of_gt (blk_lt (bkn BK396)) : gb397 ≠ gb396)); clear BK396; clear HB; have BK396 := n0_; have HB := n1_; have BK397 := n2_; have GW397 := n3_; have GE397 := n4_; have NB396_397 := n5_; have NB397_396 := n6_; clear n0_ n1_ n2_ n3_ n4_ n5_ n6_; clear hb hbox hg; have hnb8 := NB396_397.out; have hnc8 := NB397_396.out; obtain ⟨hcz9_0, hcz9_1, hcz9_2⟩ := blkC3 (w := w7) BK396.out; obtain ⟨hfz9_0, hfz9_1, hfz9_2⟩ := blkF3 BK396.out) | ((with_reducible refine gate_callee (f := 21) rfl ?_); refine goesL_ (some 10) rfl rfl Try.func21 (by kernel_rfl) rfl #[.agg #[.int .i64 a0_0, .int .i64 a0_1, .int .i64 a0_2]] rfl (by (try simp only [List.map_toArray, List.map_cons, List.map_nil]); first | done | rfl | (simp only [List.length_drop, List.length_take]; rfl)) ?_; (with_reducible refine (pylonref03_Days.calls k a0_0 a0_1 a0_2 t398 t399 _ A3.out).mono ?_); rintro e w10 ⟨rfl, hb⟩; refine ⟨_, rfl, ?_⟩; have n0_ := AX (bkb BK396 hb); have n1_ := AX (bkb BK397 hb); have n2_ := AX (below_step bw hb); clear BK396; clear BK397; clear HB; have BK396 := n0_; have BK397 := n1_; have HB := n2_; clear n0_ n1_ n2_; (try clear hb); obtain ⟨hcz11_0, hcz11_1, hcz11_2⟩ := blkC3 (w := w10) BK397.out; obtain ⟨hfz11_0, hfz11_1, hfz11_2⟩ := blkF3 BK397.out))
   refine bodyPost_ret (results_ct rfl _ _ gb397 33 #[.int .i64 0, .int .i64 0, .int .i64 0] (0, 0) _ rfl (by (with_reducible repeat first|refine blk_drewN ?_ _|refine blk_drew ?_|refine blk_alloc ?_ _); refine blk_put (cs := #[.int .i64 0, .int .i64 0, .int .i64 0]) ?_ 2 _ rfl; (with_reducible repeat first|refine blk_drewN ?_ _|refine blk_drew ?_|refine blk_alloc ?_ _); refine blk_put (cs := #[.int .i64 0, .int .i64 0, .int .i64 0]) ?_ 1 _ rfl; (with_reducible repeat first|refine blk_drewN ?_ _|refine blk_drew ?_|refine blk_alloc ?_ _); refine blk_put (cs := #[.int .i64 0, .int .i64 0, .int .i64 0]) ?_ 0 _ rfl; (with_reducible repeat first|refine blk_drewN ?_ _|refine blk_drew ?_|refine blk_alloc ?_ _); exact BK397.out) Try.underlying33 rfl (by kernel_rfl)) rfl ?_
   exact ⟨by first | rfl | (simp [errW_none, errW_some] <;> rfl) | (simp [*, errW_none, errW_some] <;> rfl), bw⟩
  ·rw [if_neg c5] at H
   have c5b0 : decide (5000000 < a1) = false := decide_eq_false c5
   clear c5
   by_cases c12 : a1 < (-5000000)
   ·rw [if_pos c12] at H
    have c12b0 : decide (a1 < (-5000000)) = true := decide_eq_true c12
    clear c12
    simp only [Option.some.injEq, Prod.mk.injEq] at H
    obtain ⟨rfl, rfl, rfl, rfl⟩ := H
    go_enter Try.func26, Try.ntmps26
    go_wp2_with (first | ((with_reducible refine gate_dst (N := 2) rfl ?_); refine box_event ?hg (N := 2) ?hd (cs := #[.int .i64 a0_0, .int .i64 a0_1, .int .i64 a0_2]) (t := 33) ?hr ?_; (case hd => rfl); (case hg => rfl); (case hr => first | (go_simp; done) | (go_simp; rfl)); intro gb396 hg w13 hbox hb; have n0_ := AX (below_step bw hb); have n1_ := AX (hbox); have n2_ := AX ((by rw [hg]; exact (below_size bw) : w.heap.size ≤ gb396)); have n3_ := n2_; clear HB; have HB := n0_; have BK396 := n1_; have GW396 := n2_; have GE396 := n3_; clear n0_ n1_ n2_ n3_; clear hb hbox hg) | ((with_reducible refine gate_dst (N := 4) rfl ?_); refine box_event ?hg (N := 4) ?hd (cs := #[.int .i64 0, .int .i64 0, .int .i64 0]) (t := 33) ?hr ?_; (case hd => rfl); (case hg => rfl); (case hr => first | (go_simp; done) | (go_simp; rfl)); intro gb397 hg w14 hbox hb; have n0_ := AX (bkb BK396 hb); have n1_ := AX (below_step bw hb); have n2_ := AX (hbox); have n3_ := AX ((by rw [hg]; exact (below_size bw) : w.heap.size ≤ gb397)); have n4_ := n3_; have n5_ := AX ((by rw [hg]; exact Nat.ne_of_lt (blk_lt (bkn BK396)) : gb396 ≠ gb397)); have n6_ := AX ((by rw [hg]; exact Nat.ne_of_gt (blk_lt (bkn BK396)) : gb397 ≠ gb396)); clear BK396; clear HB; have BK396 := n0_; have HB := n1_; have BK397 := n2_; have GW397 := n3_; have GE397 := n4_; have NB396_397 := n5_; have NB397_396 := n6_; clear n0_ n1_ n2_ n3_ n4_ n5_ n6_; clear hb hbox hg; have hnb15 := NB396_397.out; have hnc15 := NB397_396.out; obtain ⟨hcz16_0, hcz16_1, hcz16_2⟩ := blkC3 (w := w14) BK396.out; obtain ⟨hfz16_0, hfz16_1, hfz16_2⟩ := blkF3 BK396.out) | ((with_reducible refine gate_callee (f := 21) rfl ?_); refine goesL_ (some 10) rfl rfl Try.func21 (by kernel_rfl) rfl #[.agg #[.int .i64 a0_0, .int .i64 a0_1, .int .i64 a0_2]] rfl (by (try simp only [List.map_toArray, List.map_cons, List.map_nil]); first | done | rfl | (simp only [List.length_drop, List.length_take]; rfl)) ?_; (with_reducible refine (pylonref03_Days.calls k a0_0 a0_1 a0_2 t398 t399 _ A3.out).mono ?_); rintro e w17 ⟨rfl, hb⟩; refine ⟨_, rfl, ?_⟩; have n0_ := AX (bkb BK396 hb); have n1_ := AX (bkb BK397 hb); have n2_ := AX (below_step bw hb); clear BK396; clear BK397; clear HB; have BK396 := n0_; have BK397 := n1_; have HB := n2_; clear n0_ n1_ n2_; (try clear hb); obtain ⟨hcz18_0, hcz18_1, hcz18_2⟩ := blkC3 (w := w17) BK397.out; obtain ⟨hfz18_0, hfz18_1, hfz18_2⟩ := blkF3 BK397.out))
    refine bodyPost_ret (results_ct rfl _ _ gb397 33 #[.int .i64 0, .int .i64 0, .int .i64 0] (0, 0) _ rfl (by (with_reducible repeat first|refine blk_drewN ?_ _|refine blk_drew ?_|refine blk_alloc ?_ _); refine blk_put (cs := #[.int .i64 0, .int .i64 0, .int .i64 0]) ?_ 2 _ rfl; (with_reducible repeat first|refine blk_drewN ?_ _|refine blk_drew ?_|refine blk_alloc ?_ _); refine blk_put (cs := #[.int .i64 0, .int .i64 0, .int .i64 0]) ?_ 1 _ rfl; (with_reducible repeat first|refine blk_drewN ?_ _|refine blk_drew ?_|refine blk_alloc ?_ _); refine blk_put (cs := #[.int .i64 0, .int .i64 0, .int .i64 0]) ?_ 0 _ rfl; (with_reducible repeat first|refine blk_drewN ?_ _|refine blk_drew ?_|refine blk_alloc ?_ _); exact BK397.out) Try.underlying33 rfl (by kernel_rfl)) rfl ?_
    exact ⟨by first | rfl | (simp [errW_none, errW_some] <;> rfl) | (simp [*, errW_none, errW_some] <;> rfl), bw⟩
   ·rw [if_neg c12] at H
    have c12b0 : decide (a1 < (-5000000)) = false := decide_eq_false c12
    clear c12
    replace H := Option.bind_eq_some_iff.mp H
    obtain ⟨⟨t400, t401, t402, t403⟩, A190, H⟩ := H
    replace H : (some (t400, t401, t402, t403)) = some (r1, r2, r3, r4) := H
    have A19 := AX A190
    clear A190
    simp only [Option.some.injEq, Prod.mk.injEq] at H
    obtain ⟨rfl, rfl, rfl, rfl⟩ := H
    go_enter Try.func26, Try.ntmps26
    go_wp2_with (first | ((with_reducible refine gate_dst (N := 2) rfl ?_); refine box_event ?hg (N := 2) ?hd (cs := #[.int .i64 a0_0, .int .i64 a0_1, .int .i64 a0_2]) (t := 33) ?hr ?_; (case hd => rfl); (case hg => rfl); (case hr => first | (go_simp; done) | (go_simp; rfl)); intro gb396 hg w20 hbox hb; have n0_ := AX (below_step bw hb); have n1_ := AX (hbox); have n2_ := AX ((by rw [hg]; exact (below_size bw) : w.heap.size ≤ gb396)); have n3_ := n2_; clear HB; have HB := n0_; have BK396 := n1_; have GW396 := n2_; have GE396 := n3_; clear n0_ n1_ n2_ n3_; clear hb hbox hg) | ((with_reducible refine gate_dst (N := 4) rfl ?_); refine box_event ?hg (N := 4) ?hd (cs := #[.int .i64 0, .int .i64 0, .int .i64 0]) (t := 33) ?hr ?_; (case hd => rfl); (case hg => rfl); (case hr => first | (go_simp; done) | (go_simp; rfl)); intro gb397 hg w21 hbox hb; have n0_ := AX (bkb BK396 hb); have n1_ := AX (below_step bw hb); have n2_ := AX (hbox); have n3_ := AX ((by rw [hg]; exact (below_size bw) : w.heap.size ≤ gb397)); have n4_ := n3_; have n5_ := AX ((by rw [hg]; exact Nat.ne_of_lt (blk_lt (bkn BK396)) : gb396 ≠ gb397)); have n6_ := AX ((by rw [hg]; exact Nat.ne_of_gt (blk_lt (bkn BK396)) : gb397 ≠ gb396)); clear BK396; clear HB; have BK396 := n0_; have HB := n1_; have BK397 := n2_; have GW397 := n3_; have GE397 := n4_; have NB396_397 := n5_; have NB397_396 := n6_; clear n0_ n1_ n2_ n3_ n4_ n5_ n6_; clear hb hbox hg; have hnb22 := NB396_397.out; have hnc22 := NB397_396.out; obtain ⟨hcz23_0, hcz23_1, hcz23_2⟩ := blkC3 (w := w21) BK396.out; obtain ⟨hfz23_0, hfz23_1, hfz23_2⟩ := blkF3 BK396.out) | ((with_reducible refine gate_callee (f := 21) rfl ?_); refine goesL_ (some 10) rfl rfl Try.func21 (by kernel_rfl) rfl #[.agg #[.int .i64 a0_0, .int .i64 a0_1, .int .i64 a0_2]] rfl (by (try simp only [List.map_toArray, List.map_cons, List.map_nil]); first | done | rfl | (simp only [List.length_drop, List.length_take]; rfl)) ?_; (with_reducible refine (pylonref03_Days.calls k a0_0 a0_1 a0_2 t398 t399 _ A3.out).mono ?_); rintro e w24 ⟨rfl, hb⟩; refine ⟨_, rfl, ?_⟩; have n0_ := AX (bkb BK396 hb); have n1_ := AX (bkb BK397 hb); have n2_ := AX (below_step bw hb); clear BK396; clear BK397; clear HB; have BK396 := n0_; have BK397 := n1_; have HB := n2_; clear n0_ n1_ n2_; (try clear hb)) | ((with_reducible refine gate_callee (f := 25) rfl ?_); refine goesL_ (some 27) rfl rfl Try.func25 (by kernel_rfl) rfl #[.int .i64 (wrap64 (t398 + a1))] rfl (by (try simp only [List.map_toArray, List.map_cons, List.map_nil]); first | done | rfl | (simp only [List.length_drop, List.length_take]; rfl)) ?_; (with_reducible refine (pylonref03_Of.calls k (wrap64 (t398 + a1)) t400 t401 t402 t403 _ A19.out).mono ?_); rintro e w25 ⟨rfl, hb⟩; refine ⟨_, rfl, ?_⟩; have n0_ := AX (bkb BK396 hb); have n1_ := AX (bkb BK397 hb); have n2_ := AX (below_step bw hb); clear BK396; clear BK397; clear HB; have BK396 := n0_; have BK397 := n1_; have HB := n2_; clear n0_ n1_ n2_; (try clear hb); obtain ⟨hcz26_0, hcz26_1, hcz26_2⟩ := blkC3 (w := w25) BK397.out; obtain ⟨hfz26_0, hfz26_1, hfz26_2⟩ := blkF3 BK397.out))
    refine bodyPost_ret (results_ct rfl _ _ gb397 33 #[.int .i64 t400, .int .i64 t401, .int .i64 t402] (0, 0) _ rfl (by (with_reducible repeat first|refine blk_drewN ?_ _|refine blk_drew ?_|refine blk_alloc ?_ _); refine blk_put (cs := #[.int .i64 t400, .int .i64 t401, .int .i64 0]) ?_ 2 _ rfl; (with_reducible repeat first|refine blk_drewN ?_ _|refine blk_drew ?_|refine blk_alloc ?_ _); refine blk_put (cs := #[.int .i64 t400, .int .i64 0, .int .i64 0]) ?_ 1 _ rfl; (with_reducible repeat first|refine blk_drewN ?_ _|refine blk_drew ?_|refine blk_alloc ?_ _); refine blk_put (cs := #[.int .i64 0, .int .i64 0, .int .i64 0]) ?_ 0 _ rfl; (with_reducible repeat first|refine blk_drewN ?_ _|refine blk_drew ?_|refine blk_alloc ?_ _); exact BK397.out) Try.underlying33 rfl (by kernel_rfl)) rfl ?_
    exact ⟨by first | rfl | (simp [errW_none, errW_some] <;> rfl) | (simp [*, errW_none, errW_some] <;> rfl), bw⟩
 ·rw [if_neg c4] at H
  have c4b0 : (t399 == 0) = false := beq_eq_false_iff_ne.mpr c4
  have c4b1 : (t399 != 0) = true := bne_iff_ne.mpr c4
  simp only [Option.some.injEq, Prod.mk.injEq] at H
  obtain ⟨rfl, rfl, rfl, rfl⟩ := H
  go_enter Try.func26, Try.ntmps26
  go_wp2_with (first | ((with_reducible refine gate_dst (N := 2) rfl ?_); refine box_event ?hg (N := 2) ?hd (cs := #[.int .i64 a0_0, .int .i64 a0_1, .int .i64 a0_2]) (t := 33) ?hr ?_; (case hd => rfl); (case hg => rfl); (case hr => first | (go_simp; done) | (go_simp; rfl)); intro gb396 hg w27 hbox hb; have n0_ := AX (below_step bw hb); have n1_ := AX (hbox); have n2_ := AX ((by rw [hg]; exact (below_size bw) : w.heap.size ≤ gb396)); have n3_ := n2_; clear HB; have HB := n0_; have BK396 := n1_; have GW396 := n2_; have GE396 := n3_; clear n0_ n1_ n2_ n3_; clear hb hbox hg) | ((with_reducible refine gate_dst (N := 4) rfl ?_); refine box_event ?hg (N := 4) ?hd (cs := #[.int .i64 0, .int .i64 0, .int .i64 0]) (t := 33) ?hr ?_; (case hd => rfl); (case hg => rfl); (case hr => first | (go_simp; done) | (go_simp; rfl)); intro gb397 hg w28 hbox hb; have n0_ := AX (bkb BK396 hb); have n1_ := AX (below_step bw hb); have n2_ := AX (hbox); have n3_ := AX ((by rw [hg]; exact (below_size bw) : w.heap.size ≤ gb397)); have n4_ := n3_; have n5_ := AX ((by rw [hg]; exact Nat.ne_of_lt (blk_lt (bkn BK396)) : gb396 ≠ gb397)); have n6_ := AX ((by rw [hg]; exact Nat.ne_of_gt (blk_lt (bkn BK396)) : gb397 ≠ gb396)); clear BK396; clear HB; have BK396 := n0_; have HB := n1_; have BK397 := n2_; have GW397 := n3_; have GE397 := n4_; have NB396_397 := n5_; have NB397_396 := n6_; clear n0_ n1_ n2_ n3_ n4_ n5_ n6_; clear hb hbox hg; have hnb29 := NB396_397.out; have hnc29 := NB397_396.out; obtain ⟨hcz30_0, hcz30_1, hcz30_2⟩ := blkC3 (w := w28) BK396.out; obtain ⟨hfz30_0, hfz30_1, hfz30_2⟩ := blkF3 BK396.out) | ((with_reducible refine gate_callee (f := 21) rfl ?_); refine goesL_ (some 10) rfl rfl Try.func21 (by kernel_rfl) rfl #[.agg #[.int .i64 a0_0, .int .i64 a0_1, .int .i64 a0_2]] rfl (by (try simp only [List.map_toArray, List.map_cons, List.map_nil]); first | done | rfl | (simp only [List.length_drop, List.length_take]; rfl)) ?_; (with_reducible refine (pylonref03_Days.calls k a0_0 a0_1 a0_2 t398 t399 _ A3.out).mono ?_); rintro e w31 ⟨rfl, hb⟩; refine ⟨_, rfl, ?_⟩; have n0_ := AX (bkb BK396 hb); have n1_ := AX (bkb BK397 hb); have n2_ := AX (below_step bw hb); clear BK396; clear BK397; clear HB; have BK396 := n0_; have BK397 := n1_; have HB := n2_; clear n0_ n1_ n2_; (try clear hb); obtain ⟨hcz32_0, hcz32_1, hcz32_2⟩ := blkC3 (w := w31) BK397.out; obtain ⟨hfz32_0, hfz32_1, hfz32_2⟩ := blkF3 BK397.out))
  refine bodyPost_ret (results_ct rfl _ _ gb397 33 #[.int .i64 0, .int .i64 0, .int .i64 0] (0, 0) _ rfl (by (with_reducible repeat first|refine blk_drewN ?_ _|refine blk_drew ?_|refine blk_alloc ?_ _); refine blk_put (cs := #[.int .i64 0, .int .i64 0, .int .i64 0]) ?_ 2 _ rfl; (with_reducible repeat first|refine blk_drewN ?_ _|refine blk_drew ?_|refine blk_alloc ?_ _); refine blk_put (cs := #[.int .i64 0, .int .i64 0, .int .i64 0]) ?_ 1 _ rfl; (with_reducible repeat first|refine blk_drewN ?_ _|refine blk_drew ?_|refine blk_alloc ?_ _); refine blk_put (cs := #[.int .i64 0, .int .i64 0, .int .i64 0]) ?_ 0 _ rfl; (with_reducible repeat first|refine blk_drewN ?_ _|refine blk_drew ?_|refine blk_alloc ?_ _); exact BK397.out) Try.underlying33 rfl (by kernel_rfl)) rfl ?_
  exact ⟨by first | rfl | (simp [errW_none, errW_some] <;> rfl) | (simp [*, errW_none, errW_some] <;> rfl), bw⟩

/-! ### pylonref03_Compare: function 72 -/
def pylonref03_Compare.f (a0_0 : Int) (a0_1 : Int) (a0_2 : Int) (a1_0 : Int) (a1_1 : Int) (a1_2 : Int) : Option (Int) := some (Civ.cmp a0_0 a0_1 a0_2 a1_0 a1_1 a1_2)
set_option maxRecDepth 100000 in
theorem pylonref03_Compare.lt0 (a0_0 a0_1 a0_2 a1_0 a1_1 a1_2 : Int) (w : World) (p0 : a0_0 < a1_0) :
    Calls Try.prog 72 #[.agg #[.int .i64 a0_0, .int .i64 a0_1, .int .i64 a0_2], .agg #[.int .i64 a1_0, .int .i64 a1_1, .int .i64 a1_2]] w fun e w' => e = .returned (.int .i64 (-1)) ∧ Below w.heap.size w w' := by
  go_enter Try.func72, Try.ntmps72
  go_wp2
  refine wp_loop_rounds 4 ?_
  rw [rounds_succ]
  go_wp2
  go_quiet (fail)
  go_wp2
  go_ret
  exact ⟨rfl, by repeat (first | exact Below.refl _ _ | apply below_alloc | apply pw_below_drewN | apply below_drew)⟩
set_option maxRecDepth 100000 in
theorem pylonref03_Compare.gt0 (a0_0 a0_1 a0_2 a1_0 a1_1 a1_2 : Int) (w : World) (p0 : ¬ a0_0 < a1_0) (q0 : a1_0 < a0_0) :
    Calls Try.prog 72 #[.agg #[.int .i64 a0_0, .int .i64 a0_1, .int .i64 a0_2], .agg #[.int .i64 a1_0, .int .i64 a1_1, .int .i64 a1_2]] w fun e w' => e = .returned (.int .i64 (1)) ∧ Below w.heap.size w w' := by
  go_enter Try.func72, Try.ntmps72
  go_wp2
  refine wp_loop_rounds 4 ?_
  rw [rounds_succ]
  go_wp2
  go_quiet (fail)
  go_wp2
  go_quiet (fail)
  go_wp2
  go_ret
  exact ⟨rfl, by repeat (first | exact Below.refl _ _ | apply below_alloc | apply pw_below_drewN | apply below_drew)⟩
set_option maxRecDepth 100000 in
theorem pylonref03_Compare.lt1 (a0_0 a0_1 a0_2 a1_0 a1_1 a1_2 : Int) (w : World) (p0 : ¬ a0_0 < a1_0) (q0 : ¬ a1_0 < a0_0) (p1 : a0_1 < a1_1) :
    Calls Try.prog 72 #[.agg #[.int .i64 a0_0, .int .i64 a0_1, .int .i64 a0_2], .agg #[.int .i64 a1_0, .int .i64 a1_1, .int .i64 a1_2]] w fun e w' => e = .returned (.int .i64 (-1)) ∧ Below w.heap.size w w' := by
  go_enter Try.func72, Try.ntmps72
  go_wp2
  refine wp_loop_rounds 4 ?_
  rw [rounds_succ]
  go_wp2
  go_quiet (fail)
  go_wp2
  go_quiet (fail)
  go_wp2
  rw [rounds_succ]
  go_wp2
  go_quiet (fail)
  go_wp2
  go_ret
  exact ⟨rfl, by repeat (first | exact Below.refl _ _ | apply below_alloc | apply pw_below_drewN | apply below_drew)⟩
set_option maxRecDepth 100000 in
theorem pylonref03_Compare.gt1 (a0_0 a0_1 a0_2 a1_0 a1_1 a1_2 : Int) (w : World) (p0 : ¬ a0_0 < a1_0) (q0 : ¬ a1_0 < a0_0) (p1 : ¬ a0_1 < a1_1) (q1 : a1_1 < a0_1) :
    Calls Try.prog 72 #[.agg #[.int .i64 a0_0, .int .i64 a0_1, .int .i64 a0_2], .agg #[.int .i64 a1_0, .int .i64 a1_1, .int .i64 a1_2]] w fun e w' => e = .returned (.int .i64 (1)) ∧ Below w.heap.size w w' := by
  go_enter Try.func72, Try.ntmps72
  go_wp2
  refine wp_loop_rounds 4 ?_
  rw [rounds_succ]
  go_wp2
  go_quiet (fail)
  go_wp2
  go_quiet (fail)
  go_wp2
  rw [rounds_succ]
  go_wp2
  go_quiet (fail)
  go_wp2
  go_quiet (fail)
  go_wp2
  go_ret
  exact ⟨rfl, by repeat (first | exact Below.refl _ _ | apply below_alloc | apply pw_below_drewN | apply below_drew)⟩
set_option maxRecDepth 100000 in
theorem pylonref03_Compare.lt2 (a0_0 a0_1 a0_2 a1_0 a1_1 a1_2 : Int) (w : World) (p0 : ¬ a0_0 < a1_0) (q0 : ¬ a1_0 < a0_0) (p1 : ¬ a0_1 < a1_1) (q1 : ¬ a1_1 < a0_1) (p2 : a0_2 < a1_2) :
    Calls Try.prog 72 #[.agg #[.int .i64 a0_0, .int .i64 a0_1, .int .i64 a0_2], .agg #[.int .i64 a1_0, .int .i64 a1_1, .int .i64 a1_2]] w fun e w' => e = .returned (.int .i64 (-1)) ∧ Below w.heap.size w w' := by
  go_enter Try.func72, Try.ntmps72
  go_wp2
  refine wp_loop_rounds 4 ?_
  rw [rounds_succ]
  go_wp2
  go_quiet (fail)
  go_wp2
  go_quiet (fail)
  go_wp2
  rw [rounds_succ]
  go_wp2
  go_quiet (fail)
  go_wp2
  go_quiet (fail)
  go_wp2
  rw [rounds_succ]
  go_wp2
  go_quiet (fail)
  go_wp2
  go_ret
  exact ⟨rfl, by repeat (first | exact Below.refl _ _ | apply below_alloc | apply pw_below_drewN | apply below_drew)⟩
set_option maxRecDepth 100000 in
theorem pylonref03_Compare.gt2 (a0_0 a0_1 a0_2 a1_0 a1_1 a1_2 : Int) (w : World) (p0 : ¬ a0_0 < a1_0) (q0 : ¬ a1_0 < a0_0) (p1 : ¬ a0_1 < a1_1) (q1 : ¬ a1_1 < a0_1) (p2 : ¬ a0_2 < a1_2) (q2 : a1_2 < a0_2) :
    Calls Try.prog 72 #[.agg #[.int .i64 a0_0, .int .i64 a0_1, .int .i64 a0_2], .agg #[.int .i64 a1_0, .int .i64 a1_1, .int .i64 a1_2]] w fun e w' => e = .returned (.int .i64 (1)) ∧ Below w.heap.size w w' := by
  go_enter Try.func72, Try.ntmps72
  go_wp2
  refine wp_loop_rounds 4 ?_
  rw [rounds_succ]
  go_wp2
  go_quiet (fail)
  go_wp2
  go_quiet (fail)
  go_wp2
  rw [rounds_succ]
  go_wp2
  go_quiet (fail)
  go_wp2
  go_quiet (fail)
  go_wp2
  rw [rounds_succ]
  go_wp2
  go_quiet (fail)
  go_wp2
  go_quiet (fail)
  go_wp2
  go_ret
  exact ⟨rfl, by repeat (first | exact Below.refl _ _ | apply below_alloc | apply pw_below_drewN | apply below_drew)⟩
set_option maxRecDepth 100000 in
theorem pylonref03_Compare.eq3 (a0_0 a0_1 a0_2 a1_0 a1_1 a1_2 : Int) (w : World) (p0 : ¬ a0_0 < a1_0) (q0 : ¬ a1_0 < a0_0) (p1 : ¬ a0_1 < a1_1) (q1 : ¬ a1_1 < a0_1) (p2 : ¬ a0_2 < a1_2) (q2 : ¬ a1_2 < a0_2) :
    Calls Try.prog 72 #[.agg #[.int .i64 a0_0, .int .i64 a0_1, .int .i64 a0_2], .agg #[.int .i64 a1_0, .int .i64 a1_1, .int .i64 a1_2]] w fun e w' => e = .returned (.int .i64 (0)) ∧ Below w.heap.size w w' := by
  go_enter Try.func72, Try.ntmps72
  go_wp2
  refine wp_loop_rounds 4 ?_
  rw [rounds_succ]
  go_wp2
  go_quiet (fail)
  go_wp2
  go_quiet (fail)
  go_wp2
  rw [rounds_succ]
  go_wp2
  go_quiet (fail)
  go_wp2
  go_quiet (fail)
  go_wp2
  rw [rounds_succ]
  go_wp2
  go_quiet (fail)
  go_wp2
  go_quiet (fail)
  go_wp2
  rw [rounds_succ]
  go_wp2
  go_ret
  exact ⟨rfl, by repeat (first | exact Below.refl _ _ | apply below_alloc | apply pw_below_drewN | apply below_drew)⟩
theorem pylonref03_Compare.calls (a0_0 : Int) (a0_1 : Int) (a0_2 : Int) (a1_0 : Int) (a1_1 : Int) (a1_2 : Int) (r : Int) (w : World) (h : pylonref03_Compare.f a0_0 a0_1 a0_2 a1_0 a1_1 a1_2 = some r) :
    Calls Try.prog 72 #[.agg #[.int .i64 a0_0, .int .i64 a0_1, .int .i64 a0_2], .agg #[.int .i64 a1_0, .int .i64 a1_1, .int .i64 a1_2]] w fun e w' => e = .returned (.int .i64 r) ∧ Below w.heap.size w w' := by
  unfold pylonref03_Compare.f Civ.cmp at h
  injection h with h
  by_cases p0 : a0_0 < a1_0
  · rw [if_pos p0] at h; subst h; exact pylonref03_Compare.lt0 _ _ _ _ _ _ w p0
  · rw [if_neg p0] at h
    by_cases q0 : a1_0 < a0_0
    · rw [if_pos q0] at h; subst h; exact pylonref03_Compare.gt0 _ _ _ _ _ _ w p0 q0
    · rw [if_neg q0] at h
      by_cases p1 : a0_1 < a1_1
      · rw [if_pos p1] at h; subst h; exact pylonref03_Compare.lt1 _ _ _ _ _ _ w p0 q0 p1
      · rw [if_neg p1] at h
        by_cases q1 : a1_1 < a0_1
        · rw [if_pos q1] at h; subst h; exact pylonref03_Compare.gt1 _ _ _ _ _ _ w p0 q0 p1 q1
        · rw [if_neg q1] at h
          by_cases p2 : a0_2 < a1_2
          · rw [if_pos p2] at h; subst h; exact pylonref03_Compare.lt2 _ _ _ _ _ _ w p0 q0 p1 q1 p2
          · rw [if_neg p2] at h
            by_cases q2 : a1_2 < a0_2
            · rw [if_pos q2] at h; subst h; exact pylonref03_Compare.gt2 _ _ _ _ _ _ w p0 q0 p1 q1 p2 q2
            · rw [if_neg q2] at h
              subst h; exact pylonref03_Compare.eq3 _ _ _ _ _ _ w p0 q0 p1 q1 p2 q2

/-! ### pylonref04_begins: function 67 -/
def pylonref04_begins.l0 : Nat → Int → Int → Int → Int → Int → Int → Int → Int → Int → Int → Int → Int → Int → Int → Int → Option (Int)
 | 0, _, _, _, _, _, _, _, _, _, _, _, _, _, _, _ => none
 | k + 1, x7, x22, x405000, x405001, x405002, x405003, x405004, x405005, x405006, x405007, x405008, x405009, x406000, x406001, x406002 => if x22 < 200 then ((pylonref04_At.f k x405000 x405001 x405002 x405003 x405004 x405005 x405006 x405007 x405008 x405009 x7).bind fun bt408 => (if bt408.2.2.2.2.2 = 0 then ((pylonref03_Compare.f bt408.1 bt408.2.1 bt408.2.2.1 x406000 x406001 x406002).bind fun t415 => (if t415 ≥ 0 then (some x7) else (pylonref04_begins.l0 k (wrap64 (x7 + 900)) (wrap64 (x22 + 1)) x405000 x405001 x405002 x405003 x405004 x405005 x405006 x405007 x405008 x405009 x406000 x406001 x406002))) else (pylonref04_begins.l0 k (wrap64 (x7 + 900)) (wrap64 (x22 + 1)) x405000 x405001 x405002 x405003 x405004 x405005 x405006 x405007 x405008 x405009 x406000 x406001 x406002))) else (some x7)
def pylonref04_begins.f (k : Nat) (a0_0 : Int) (a0_1 : Int) (a0_2 : Int) (a0_3 : Int) (a0_4 : Int) (a0_5 : Int) (a0_6 : Int) (a0_7 : Int) (a0_8 : Int) (a0_9 : Int) (a1_0 : Int) (a1_1 : Int) (a1_2 : Int) : Option (Int) := (pylonref03_Days.f k a1_0 a1_1 a1_2).bind fun bt406 => (pylonref04_begins.l0 k (wrap64 ((wrap64 ((wrap64 (bt406.1 * 86400)) - (wrap64 (a0_0 * 60)))) - 14400)) 0 a0_0 a0_1 a0_2 a0_3 a0_4 a0_5 a0_6 a0_7 a0_8 a0_9 a1_0 a1_1 a1_2)
theorem pylonref04_begins.mono_l : ∀ k, (∀ y0 y1 y2 y3 y4 y5 y6 y7 y8 y9 y10 y11 y12 y13 y14, LeO (pylonref04_begins.l0 k y0 y1 y2 y3 y4 y5 y6 y7 y8 y9 y10 y11 y12 y13 y14) (pylonref04_begins.l0 (k + 1) y0 y1 y2 y3 y4 y5 y6 y7 y8 y9 y10 y11 y12 y13 y14))
 | 0 => fun _ _ _ _ _ _ _ _ _ _ _ _ _ _ _ r h => by simp [pylonref04_begins.l0] at h
 | k + 1 => by
  have ih0 := pylonref04_begins.mono_l k
  ·intro y0 y1 y2 y3 y4 y5 y6 y7 y8 y9 y10 y11 y12 y13 y14
   unfold pylonref04_begins.l0
   repeat' first
   | (with_reducible exact ih0 _ _ _ _ _ _ _ _ _ _ _ _ _ _ _)
   | (with_reducible exact pylonref03_Days.mono _ _ _ _)
   | (with_reducible exact pylonref04_At.mono _ _ _ _ _ _ _ _ _ _ _ _)
   | (with_reducible exact LeO.refl _)
   | (with_reducible exact LeO.none _)
   | (with_reducible refine LeO.ite ?_ ?_)
   | (with_reducible refine LeO.bind ?_ (fun _ => ?_))
   | exact ih0 _ _ _ _ _ _ _ _ _ _ _ _ _ _ _
   | exact pylonref03_Days.mono _ _ _ _
   | exact pylonref04_At.mono _ _ _ _ _ _ _ _ _ _ _ _
   | exact LeO.none _
   | refine LeO.ite ?_ ?_
   | refine LeO.bind ?_ (fun _ => ?_)
theorem pylonref04_begins.mono : ∀ a0 a1 a2 a3 a4 a5 a6 a7 a8 a9 a10 a11 a12 k, LeO (pylonref04_begins.f k a0 a1 a2 a3 a4 a5 a6 a7 a8 a9 a10 a11 a12) (pylonref04_begins.f (k + 1) a0 a1 a2 a3 a4 a5 a6 a7 a8 a9 a10 a11 a12) := by
 intro a0 a1 a2 a3 a4 a5 a6 a7 a8 a9 a10 a11 a12 k
 have ih0 := pylonref04_begins.mono_l k
 unfold pylonref04_begins.f
 repeat' first
   | (with_reducible exact ih0 _ _ _ _ _ _ _ _ _ _ _ _ _ _ _)
   | (with_reducible exact pylonref03_Days.mono _ _ _ _)
   | (with_reducible exact pylonref04_At.mono _ _ _ _ _ _ _ _ _ _ _ _)
   | (with_reducible exact LeO.refl _)
   | (with_reducible exact LeO.none _)
   | (with_reducible refine LeO.ite ?_ ?_)
   | (with_reducible refine LeO.bind ?_ (fun _ => ?_))
   | exact ih0 _ _ _ _ _ _ _ _ _ _ _ _ _ _ _
   | exact pylonref03_Days.mono _ _ _ _
   | exact pylonref04_At.mono _ _ _ _ _ _ _ _ _ _ _ _
   | exact LeO.none _
   | refine LeO.ite ?_ ?_
   | refine LeO.bind ?_ (fun _ => ?_)
set_option maxHeartbeats 8000000 in
set_option maxRecDepth 100000 in
theorem pylonref04_begins.calls (k : Nat) (a0_0 : Int) (a0_1 : Int) (a0_2 : Int) (a0_3 : Int) (a0_4 : Int) (a0_5 : Int) (a0_6 : Int) (a0_7 : Int) (a0_8 : Int) (a0_9 : Int) (a1_0 : Int) (a1_1 : Int) (a1_2 : Int) (r : Int) (w : World) (h : pylonref04_begins.f k a0_0 a0_1 a0_2 a0_3 a0_4 a0_5 a0_6 a0_7 a0_8 a0_9 a1_0 a1_1 a1_2 = some r) :
  Calls Try.prog 67 #[.agg #[.int .i64 a0_0, .int .i64 a0_1, .int .i64 a0_2, .int .i64 a0_3, .int .i64 a0_4, .int .i64 a0_5, .int .i64 a0_6, .int .i64 a0_7, .int .i64 a0_8, .int .i64 a0_9], .agg #[.int .i64 a1_0, .int .i64 a1_1, .int .i64 a1_2]] w fun e w' => e = .returned (.int .i64 r) ∧ Below w.heap.size w w' := by
 have hu25 := Try.underlying25
 have hu33 := Try.underlying33
 have hu35 := Try.underlying35
 have HB := AX (Below.refl w.heap.size w)
 have H : ((pylonref03_Days.f k a1_0 a1_1 a1_2).bind fun bt406 => (pylonref04_begins.l0 k (wrap64 ((wrap64 ((wrap64 (bt406.1 * 86400)) - (wrap64 (a0_0 * 60)))) - 14400)) 0 a0_0 a0_1 a0_2 a0_3 a0_4 a0_5 a0_6 a0_7 a0_8 a0_9 a1_0 a1_1 a1_2)) = some r := h
 clear h
 replace H := Option.bind_eq_some_iff.mp H
 obtain ⟨⟨t406, t407⟩, A30, H⟩ := H
 replace H : (pylonref04_begins.l0 k (wrap64 ((wrap64 ((wrap64 (t406 * 86400)) - (wrap64 (a0_0 * 60)))) - 14400)) 0 a0_0 a0_1 a0_2 a0_3 a0_4 a0_5 a0_6 a0_7 a0_8 a0_9 a1_0 a1_1 a1_2) = some r := H
 have A3 := AX A30
 clear A30
 have H' := AX H
 clear H
 go_enter Try.func67, Try.ntmps67
 go_wp2_with (first | ((with_reducible refine gate_dst (N := 2) rfl ?_); refine box_event ?hg (N := 2) ?hd (cs := #[.int .i64 a0_0, .int .i64 a0_1, .int .i64 a0_2, .int .i64 a0_3, .int .i64 a0_4, .int .i64 a0_5, .int .i64 a0_6, .int .i64 a0_7, .int .i64 a0_8, .int .i64 a0_9]) (t := 25) ?hr ?_; (case hd => rfl); (case hg => rfl); (case hr => first | (go_simp; done) | (go_simp; rfl)); intro gb404 hg w4 hbox hb; have n0_ := AX (below_step bw hb); have n1_ := AX (hbox); have n2_ := AX ((by rw [hg]; exact (below_size bw) : w.heap.size ≤ gb404)); have n3_ := n2_; clear HB; have HB := n0_; have BK404 := n1_; have GW404 := n2_; have GE404 := n3_; clear n0_ n1_ n2_ n3_; clear hb hbox hg) | ((with_reducible refine gate_dst (N := 3) rfl ?_); refine box_event ?hg (N := 3) ?hd (cs := #[.int .i64 a1_0, .int .i64 a1_1, .int .i64 a1_2]) (t := 33) ?hr ?_; (case hd => rfl); (case hg => rfl); (case hr => first | (go_simp; done) | (go_simp; rfl)); intro gb405 hg w5 hbox hb; have n0_ := AX (bkb BK404 hb); have n1_ := AX (below_step bw hb); have n2_ := AX (hbox); have n3_ := AX ((by rw [hg]; exact (below_size bw) : w.heap.size ≤ gb405)); have n4_ := n3_; have n5_ := AX ((by rw [hg]; exact Nat.ne_of_lt (blk_lt (bkn BK404)) : gb404 ≠ gb405)); have n6_ := AX ((by rw [hg]; exact Nat.ne_of_gt (blk_lt (bkn BK404)) : gb405 ≠ gb404)); clear BK404; clear HB; have BK404 := n0_; have HB := n1_; have BK405 := n2_; have GW405 := n3_; have GE405 := n4_; have NB404_405 := n5_; have NB405_404 := n6_; clear n0_ n1_ n2_ n3_ n4_ n5_ n6_; clear hb hbox hg; have hnb6 := NB405_404.out; have hnc6 := NB404_405.out; obtain ⟨hcz7_0, hcz7_1, hcz7_2⟩ := blkC3 (w := w5) BK405.out; obtain ⟨hfz7_0, hfz7_1, hfz7_2⟩ := blkF3 BK405.out) | ((with_reducible refine gate_callee (f := 21) rfl ?_); refine goesL_ (some 12) rfl rfl Try.func21 (by kernel_rfl) rfl #[.agg #[.int .i64 a1_0, .int .i64 a1_1, .int .i64 a1_2]] rfl (by (try simp only [List.map_toArray, List.map_cons, List.map_nil]); first | done | rfl | (simp only [List.length_drop, List.length_take]; rfl)) ?_; (with_reducible refine (pylonref03_Days.calls k a1_0 a1_1 a1_2 t406 t407 _ A3.out).mono ?_); rintro e w8 ⟨rfl, hb⟩; refine ⟨_, rfl, ?_⟩; have n0_ := AX (bkb BK404 hb); have n1_ := AX (bkb BK405 hb); have n2_ := AX (below_step bw hb); clear BK404; clear BK405; clear HB; have BK404 := n0_; have BK405 := n1_; have HB := n2_; clear n0_ n1_ n2_; (try clear hb); obtain ⟨hcz9_0, hcz9_1, hcz9_2, hcz9_3, hcz9_4, hcz9_5, hcz9_6, hcz9_7, hcz9_8, hcz9_9⟩ := blkC10 (w := w8) BK404.out; obtain ⟨hfz9_0, hfz9_1, hfz9_2, hfz9_3, hfz9_4, hfz9_5, hfz9_6, hfz9_7, hfz9_8, hfz9_9⟩ := blkF10 BK404.out))
 go_loopg [7, 22] k (fun kq v7 v22 w' => ∃ (x7_1 : Int) (x22_1 : Int), v7 = .int .i64 x7_1 ∧ v22 = .int .i64 x22_1 ∧ Aside0 (pylonref04_begins.l0 kq x7_1 x22_1 a0_0 a0_1 a0_2 a0_3 a0_4 a0_5 a0_6 a0_7 a0_8 a0_9 a1_0 a1_1 a1_2 = some r) ∧ Aside0 (kq ≤ k) ∧ Aside0 (w'.heap[gb404]? = some (.cells #[.int .i64 a0_0, .int .i64 a0_1, .int .i64 a0_2, .int .i64 a0_3, .int .i64 a0_4, .int .i64 a0_5, .int .i64 a0_6, .int .i64 a0_7, .int .i64 a0_8, .int .i64 a0_9] 25 (0, 0))) ∧ Aside0 (w'.heap[gb405]? = some (.cells #[.int .i64 a1_0, .int .i64 a1_1, .int .i64 a1_2] 33 (0, 0))) ∧ Aside0 (Below w.heap.size w w'))
 case atStart => exact ⟨(wrap64 ((wrap64 ((wrap64 (t406 * 86400)) - (wrap64 (a0_0 * 60)))) - 14400)), (0), (by first | rfl | (simp; done) | (simp [*]; done)), (by first | rfl | (simp; done) | (simp [*]; done)), H', ⟨Nat.le_refl _⟩, ⟨bkn BK404⟩, ⟨bkn BK405⟩, ⟨bw⟩⟩
 case round =>
  clear H'
  try clear hcz7_0 hcz7_1 hcz7_2
  try clear hcz9_0 hcz9_1 hcz9_2 hcz9_3 hcz9_4 hcz9_5 hcz9_6 hcz9_7 hcz9_8 hcz9_9
  try clear hfz7_0 hfz7_1 hfz7_2
  try clear hfz9_0 hfz9_1 hfz9_2 hfz9_3 hfz9_4 hfz9_5 hfz9_6 hfz9_7 hfz9_8 hfz9_9
  obtain ⟨x7_1, x22_1, rfl, rfl, HA, HK1, BK404, BK405, HB⟩ := hrel
  cases gk with
  | zero => exact absurd HA.out (by simp [pylonref04_begins.l0])
  | succ k1 =>
   have H := HA.out
   clear HA
   simp only [pylonref04_begins.l0] at H
   by_cases c10 : x22_1 < 200
   ·rw [if_pos c10] at H
    have c10b0 : decide (x22_1 < 200) = true := decide_eq_true c10
    clear c10
    replace H := Option.bind_eq_some_iff.mp H
    obtain ⟨⟨t408, t409, t410, t411, t412, t413⟩, A110, H⟩ := H
    replace H : (if t413 = 0 then ((pylonref03_Compare.f t408 t409 t410 a1_0 a1_1 a1_2).bind fun t415 => (if t415 ≥ 0 then (some x7_1) else (pylonref04_begins.l0 k1 (wrap64 (x7_1 + 900)) (wrap64 (x22_1 + 1)) a0_0 a0_1 a0_2 a0_3 a0_4 a0_5 a0_6 a0_7 a0_8 a0_9 a1_0 a1_1 a1_2))) else (pylonref04_begins.l0 k1 (wrap64 (x7_1 + 900)) (wrap64 (x22_1 + 1)) a0_0 a0_1 a0_2 a0_3 a0_4 a0_5 a0_6 a0_7 a0_8 a0_9 a1_0 a1_1 a1_2)) = some r := H
    have A11 := AX A110
    clear A110
    by_cases c12 : t413 = 0
    ·rw [if_pos c12] at H
     have c12b0 : (t413 == 0) = true := beq_iff_eq.mpr c12
     have c12b1 : (t413 != 0) = false := bne_eq_false_iff_eq.mpr c12
     clear c12
     replace H := Option.bind_eq_some_iff.mp H
     obtain ⟨t415, A130, H⟩ := H
     replace H : (if t415 ≥ 0 then (some x7_1) else (pylonref04_begins.l0 k1 (wrap64 (x7_1 + 900)) (wrap64 (x22_1 + 1)) a0_0 a0_1 a0_2 a0_3 a0_4 a0_5 a0_6 a0_7 a0_8 a0_9 a1_0 a1_1 a1_2)) = some r := H
     have A13 := AX A130
     clear A130
     by_cases c14 : t415 ≥ 0
     ·rw [if_pos c14] at H
      have c14b0 : decide (0 ≤ t415) = true := decide_eq_true c14
      clear c14
      obtain rfl := Option.some.inj H
      have hnb15 := NB404_405.out
      have hnc15 := NB405_404.out
      obtain ⟨hcz16_0, hcz16_1, hcz16_2, hcz16_3, hcz16_4, hcz16_5, hcz16_6, hcz16_7, hcz16_8, hcz16_9⟩ := blkC10 (w := wr) BK404.out
      obtain ⟨hfz16_0, hfz16_1, hfz16_2, hfz16_3, hfz16_4, hfz16_5, hfz16_6, hfz16_7, hfz16_8, hfz16_9⟩ := blkF10 BK404.out
      go_wp2_with (first | ((with_reducible refine gate_callee (f := 38) rfl ?_); refine goesL_ (some 27) rfl rfl Try.func38 (by kernel_rfl) rfl #[.agg #[.int .i64 a0_0, .int .i64 a0_1, .int .i64 a0_2, .int .i64 a0_3, .int .i64 a0_4, .int .i64 a0_5, .int .i64 a0_6, .int .i64 a0_7, .int .i64 a0_8, .int .i64 a0_9], .int .i64 x7_1] rfl (by (try simp only [List.map_toArray, List.map_cons, List.map_nil]); first | done | rfl | (simp only [List.length_drop, List.length_take]; rfl)) ?_; (with_reducible refine (pylonref04_At.calls k1 a0_0 a0_1 a0_2 a0_3 a0_4 a0_5 a0_6 a0_7 a0_8 a0_9 x7_1 t408 t409 t410 t411 t412 t413 _ A11.out).mono ?_); rintro e w17 ⟨rfl, hb⟩; refine ⟨_, rfl, ?_⟩; have n0_ := AX (bkb BK404 hb); have n1_ := AX (bkb BK405 hb); have n2_ := AX (below_step bw hb); clear BK404; clear BK405; clear HB; have BK404 := n0_; have BK405 := n1_; have HB := n2_; clear n0_ n1_ n2_; (try clear hb)) | ((with_reducible refine gate_dst (N := 8) rfl ?_); refine box_event ?hg (N := 8) ?hd (cs := #[.int .i64 0, .int .i64 0, .int .i64 0, .int .i64 0, .int .i64 0]) (t := 35) ?hr ?_; (case hd => rfl); (case hg => rfl); (case hr => first | (go_simp; done) | (go_simp; rfl)); intro gb414 hg w18 hbox hb; have n0_ := AX (bkb BK404 hb); have n1_ := AX (bkb BK405 hb); have n2_ := AX (below_step bw hb); have n3_ := AX (hbox); have n4_ := AX ((by rw [hg]; exact (below_size bw) : w.heap.size ≤ gb414)); have n5_ := n4_; have n6_ := AX ((by rw [hg]; exact Nat.ne_of_lt (blk_lt (bkn BK404)) : gb404 ≠ gb414)); have n7_ := AX ((by rw [hg]; exact Nat.ne_of_gt (blk_lt (bkn BK404)) : gb414 ≠ gb404)); have n8_ := AX ((by rw [hg]; exact Nat.ne_of_lt (blk_lt (bkn BK405)) : gb405 ≠ gb414)); have n9_ := AX ((by rw [hg]; exact Nat.ne_of_gt (blk_lt (bkn BK405)) : gb414 ≠ gb405)); clear BK404; clear BK405; clear HB; have BK404 := n0_; have BK405 := n1_; have HB := n2_; have BK414 := n3_; have GW414 := n4_; have GE414 := n5_; have NB404_414 := n6_; have NB414_404 := n7_; have NB405_414 := n8_; have NB414_405 := n9_; clear n0_ n1_ n2_ n3_ n4_ n5_ n6_ n7_ n8_ n9_; clear hb hbox hg; have hnb19 := NB414_404.out; have hnc19 := NB404_414.out; have hnb20 := NB414_405.out; have hnc20 := NB405_414.out; obtain ⟨hcz21_0, hcz21_1, hcz21_2, hcz21_3, hcz21_4⟩ := blkC5 (w := w18) BK414.out; obtain ⟨hfz21_0, hfz21_1, hfz21_2, hfz21_3, hfz21_4⟩ := blkF5 BK414.out; obtain ⟨hcz22_0, hcz22_1, hcz22_2⟩ := blkC3 (w := w18) BK405.out; obtain ⟨hfz22_0, hfz22_1, hfz22_2⟩ := blkF3 BK405.out) | (go_at_call 72; (with_reducible refine (pylonref03_Compare.calls t408 t409 t410 a1_0 a1_1 a1_2 t415 _ A13.out).mono ?_); rintro e w23 ⟨rfl, hb⟩; have n0_ := AX (blk_below (g := gb404) (o := .cells #[.int .i64 a0_0, .int .i64 a0_1, .int .i64 a0_2, .int .i64 a0_3, .int .i64 a0_4, .int .i64 a0_5, .int .i64 a0_6, .int .i64 a0_7, .int .i64 a0_8, .int .i64 a0_9] 25 (0, 0)) (by (with_reducible repeat first|refine blk_drewN ?_ _|refine blk_drew ?_|refine blk_alloc ?_ _|refine blk_far ?_ NB404_414.out _); exact BK404.out) hb); have n1_ := AX (blk_below (g := gb405) (o := .cells #[.int .i64 a1_0, .int .i64 a1_1, .int .i64 a1_2] 33 (0, 0)) (by (with_reducible repeat first|refine blk_drewN ?_ _|refine blk_drew ?_|refine blk_alloc ?_ _|refine blk_far ?_ NB405_414.out _); exact BK405.out) hb); have n2_ := AX (blk_below (g := gb414) (o := .cells #[.int .i64 t408, .int .i64 t409, .int .i64 t410, .int .i64 t411, .int .i64 t412] 35 (0, 0)) (by (with_reducible repeat first|refine blk_drewN ?_ _|refine blk_drew ?_|refine blk_alloc ?_ _); refine blk_put (cs := #[.int .i64 t408, .int .i64 t409, .int .i64 t410, .int .i64 t411, .int .i64 0]) ?_ 4 _ rfl; (with_reducible repeat first|refine blk_drewN ?_ _|refine blk_drew ?_|refine blk_alloc ?_ _); refine blk_put (cs := #[.int .i64 t408, .int .i64 t409, .int .i64 t410, .int .i64 0, .int .i64 0]) ?_ 3 _ rfl; (with_reducible repeat first|refine blk_drewN ?_ _|refine blk_drew ?_|refine blk_alloc ?_ _); refine blk_put (cs := #[.int .i64 t408, .int .i64 t409, .int .i64 0, .int .i64 0, .int .i64 0]) ?_ 2 _ rfl; (with_reducible repeat first|refine blk_drewN ?_ _|refine blk_drew ?_|refine blk_alloc ?_ _); refine blk_put (cs := #[.int .i64 t408, .int .i64 0, .int .i64 0, .int .i64 0, .int .i64 0]) ?_ 1 _ rfl; (with_reducible repeat first|refine blk_drewN ?_ _|refine blk_drew ?_|refine blk_alloc ?_ _); refine blk_put (cs := #[.int .i64 0, .int .i64 0, .int .i64 0, .int .i64 0, .int .i64 0]) ?_ 0 _ rfl; (with_reducible repeat first|refine blk_drewN ?_ _|refine blk_drew ?_|refine blk_alloc ?_ _); exact BK414.out) hb); have n3_ := AX (below_step bw hb); clear BK404; clear BK405; clear BK414; clear HB; have BK404 := n0_; have BK405 := n1_; have BK414 := n2_; have HB := n3_; clear n0_ n1_ n2_ n3_; (try clear hb)))
      go_ret
      exact ⟨by first | rfl | (simp [errW_none, errW_some] <;> rfl) | (simp [*, errW_none, errW_some] <;> rfl), bw⟩
     ·rw [if_neg c14] at H
      have c14b0 : decide (0 ≤ t415) = false := decide_eq_false c14
      clear c14
      have H' := AX H
      clear H
      have hnb24 := NB404_405.out
      have hnc24 := NB405_404.out
      obtain ⟨hcz25_0, hcz25_1, hcz25_2, hcz25_3, hcz25_4, hcz25_5, hcz25_6, hcz25_7, hcz25_8, hcz25_9⟩ := blkC10 (w := wr) BK404.out
      obtain ⟨hfz25_0, hfz25_1, hfz25_2, hfz25_3, hfz25_4, hfz25_5, hfz25_6, hfz25_7, hfz25_8, hfz25_9⟩ := blkF10 BK404.out
      go_wp2_with (first | ((with_reducible refine gate_callee (f := 38) rfl ?_); refine goesL_ (some 27) rfl rfl Try.func38 (by kernel_rfl) rfl #[.agg #[.int .i64 a0_0, .int .i64 a0_1, .int .i64 a0_2, .int .i64 a0_3, .int .i64 a0_4, .int .i64 a0_5, .int .i64 a0_6, .int .i64 a0_7, .int .i64 a0_8, .int .i64 a0_9], .int .i64 x7_1] rfl (by (try simp only [List.map_toArray, List.map_cons, List.map_nil]); first | done | rfl | (simp only [List.length_drop, List.length_take]; rfl)) ?_; (with_reducible refine (pylonref04_At.calls k1 a0_0 a0_1 a0_2 a0_3 a0_4 a0_5 a0_6 a0_7 a0_8 a0_9 x7_1 t408 t409 t410 t411 t412 t413 _ A11.out).mono ?_); rintro e w26 ⟨rfl, hb⟩; refine ⟨_, rfl, ?_⟩; have n0_ := AX (bkb BK404 hb); have n1_ := AX (bkb BK405 hb); have n2_ := AX (below_step bw hb); clear BK404; clear BK405; clear HB; have BK404 := n0_; have BK405 := n1_; have HB := n2_; clear n0_ n1_ n2_; (try clear hb)) | ((with_reducible refine gate_dst (N := 8) rfl ?_); refine box_event ?hg (N := 8) ?hd (cs := #[.int .i64 0, .int .i64 0, .int .i64 0, .int .i64 0, .int .i64 0]) (t := 35) ?hr ?_; (case hd => rfl); (case hg => rfl); (case hr => first | (go_simp; done) | (go_simp; rfl)); intro gb414 hg w27 hbox hb; have n0_ := AX (bkb BK404 hb); have n1_ := AX (bkb BK405 hb); have n2_ := AX (below_step bw hb); have n3_ := AX (hbox); have n4_ := AX ((by rw [hg]; exact (below_size bw) : w.heap.size ≤ gb414)); have n5_ := n4_; have n6_ := AX ((by rw [hg]; exact Nat.ne_of_lt (blk_lt (bkn BK404)) : gb404 ≠ gb414)); have n7_ := AX ((by rw [hg]; exact Nat.ne_of_gt (blk_lt (bkn BK404)) : gb414 ≠ gb404)); have n8_ := AX ((by rw [hg]; exact Nat.ne_of_lt (blk_lt (bkn BK405)) : gb405 ≠ gb414)); have n9_ := AX ((by rw [hg]; exact Nat.ne_of_gt (blk_lt (bkn BK405)) : gb414 ≠ gb405)); clear BK404; clear BK405; clear HB; have BK404 := n0_; have BK405 := n1_; have HB := n2_; have BK414 := n3_; have GW414 := n4_; have GE414 := n5_; have NB404_414 := n6_; have NB414_404 := n7_; have NB405_414 := n8_; have NB414_405 := n9_; clear n0_ n1_ n2_ n3_ n4_ n5_ n6_ n7_ n8_ n9_; clear hb hbox hg; have hnb28 := NB414_404.out; have hnc28 := NB404_414.out; have hnb29 := NB414_405.out; have hnc29 := NB405_414.out; obtain ⟨hcz30_0, hcz30_1, hcz30_2, hcz30_3, hcz30_4⟩ := blkC5 (w := w27) BK414.out; obtain ⟨hfz30_0, hfz30_1, hfz30_2, hfz30_3, hfz30_4⟩ := blkF5 BK414.out; obtain ⟨hcz31_0, hcz31_1, hcz31_2⟩ := blkC3 (w := w27) BK405.out; obtain ⟨hfz31_0, hfz31_1, hfz31_2⟩ := blkF3 BK405.out) | (go_at_call 72; (with_reducible refine (pylonref03_Compare.calls t408 t409 t410 a1_0 a1_1 a1_2 t415 _ A13.out).mono ?_); rintro e w32 ⟨rfl, hb⟩; have n0_ := AX (blk_below (g := gb404) (o := .cells #[.int .i64 a0_0, .int .i64 a0_1, .int .i64 a0_2, .int .i64 a0_3, .int .i64 a0_4, .int .i64 a0_5, .int .i64 a0_6, .int .i64 a0_7, .int .i64 a0_8, .int .i64 a0_9] 25 (0, 0)) (by (with_reducible repeat first|refine blk_drewN ?_ _|refine blk_drew ?_|refine blk_alloc ?_ _|refine blk_far ?_ NB404_414.out _); exact BK404.out) hb); have n1_ := AX (blk_below (g := gb405) (o := .cells #[.int .i64 a1_0, .int .i64 a1_1, .int .i64 a1_2] 33 (0, 0)) (by (with_reducible repeat first|refine blk_drewN ?_ _|refine blk_drew ?_|refine blk_alloc ?_ _|refine blk_far ?_ NB405_414.out _); exact BK405.out) hb); have n2_ := AX (blk_below (g := gb414) (o := .cells #[.int .i64 t408, .int .i64 t409, .int .i64 t410, .int .i64 t411, .int .i64 t412] 35 (0, 0)) (by (with_reducible repeat first|refine blk_drewN ?_ _|refine blk_drew ?_|refine blk_alloc ?_ _); refine blk_put (cs := #[.int .i64 t408, .int .i64 t409, .int .i64 t410, .int .i64 t411, .int .i64 0]) ?_ 4 _ rfl; (with_reducible repeat first|refine blk_drewN ?_ _|refine blk_drew ?_|refine blk_alloc ?_ _); refine blk_put (cs := #[.int .i64 t408, .int .i64 t409, .int .i64 t410, .int .i64 0, .int .i64 0]) ?_ 3 _ rfl; (with_reducible repeat first|refine blk_drewN ?_ _|refine blk_drew ?_|refine blk_alloc ?_ _); refine blk_put (cs := #[.int .i64 t408, .int .i64 t409, .int .i64 0, .int .i64 0, .int .i64 0]) ?_ 2 _ rfl; (with_reducible repeat first|refine blk_drewN ?_ _|refine blk_drew ?_|refine blk_alloc ?_ _); refine blk_put (cs := #[.int .i64 t408, .int .i64 0, .int .i64 0, .int .i64 0, .int .i64 0]) ?_ 1 _ rfl; (with_reducible repeat first|refine blk_drewN ?_ _|refine blk_drew ?_|refine blk_alloc ?_ _); refine blk_put (cs := #[.int .i64 0, .int .i64 0, .int .i64 0, .int .i64 0, .int .i64 0]) ?_ 0 _ rfl; (with_reducible repeat first|refine blk_drewN ?_ _|refine blk_drew ?_|refine blk_alloc ?_ _); exact BK414.out) hb); have n3_ := AX (below_step bw hb); clear BK404; clear BK405; clear BK414; clear HB; have BK404 := n0_; have BK405 := n1_; have BK414 := n2_; have HB := n3_; clear n0_ n1_ n2_ n3_; (try clear hb)))
      go_roundg k1
      case measure => have := HK1.out; omega
      case rel => exact ⟨(wrap64 (x7_1 + 900)), (wrap64 (x22_1 + 1)), (by first | rfl | (simp; done) | (simp [*]; done)), (by first | rfl | (simp; done) | (simp [*]; done)), H', ⟨by have := HK1.out; omega⟩, ⟨bkn BK404⟩, ⟨bkn BK405⟩, ⟨bw⟩⟩
    ·rw [if_neg c12] at H
     have c12b0 : (t413 == 0) = false := beq_eq_false_iff_ne.mpr c12
     have c12b1 : (t413 != 0) = true := bne_iff_ne.mpr c12
     have H' := AX H
     clear H
     have hnb33 := NB404_405.out
     have hnc33 := NB405_404.out
     obtain ⟨hcz34_0, hcz34_1, hcz34_2, hcz34_3, hcz34_4, hcz34_5, hcz34_6, hcz34_7, hcz34_8, hcz34_9⟩ := blkC10 (w := wr) BK404.out
     obtain ⟨hfz34_0, hfz34_1, hfz34_2, hfz34_3, hfz34_4, hfz34_5, hfz34_6, hfz34_7, hfz34_8, hfz34_9⟩ := blkF10 BK404.out
     go_wp2_with (first | ((with_reducible refine gate_callee (f := 38) rfl ?_); refine goesL_ (some 27) rfl rfl Try.func38 (by kernel_rfl) rfl #[.agg #[.int .i64 a0_0, .int .i64 a0_1, .int .i64 a0_2, .int .i64 a0_3, .int .i64 a0_4, .int .i64 a0_5, .int .i64 a0_6, .int .i64 a0_7, .int .i64 a0_8, .int .i64 a0_9], .int .i64 x7_1] rfl (by (try simp only [List.map_toArray, List.map_cons, List.map_nil]); first | done | rfl | (simp only [List.length_drop, List.length_take]; rfl)) ?_; (with_reducible refine (pylonref04_At.calls k1 a0_0 a0_1 a0_2 a0_3 a0_4 a0_5 a0_6 a0_7 a0_8 a0_9 x7_1 t408 t409 t410 t411 t412 t413 _ A11.out).mono ?_); rintro e w35 ⟨rfl, hb⟩; refine ⟨_, rfl, ?_⟩; have n0_ := AX (bkb BK404 hb); have n1_ := AX (bkb BK405 hb); have n2_ := AX (below_step bw hb); clear BK404; clear BK405; clear HB; have BK404 := n0_; have BK405 := n1_; have HB := n2_; clear n0_ n1_ n2_; (try clear hb)) | ((with_reducible refine gate_dst (N := 8) rfl ?_); refine box_event ?hg (N := 8) ?hd (cs := #[.int .i64 0, .int .i64 0, .int .i64 0, .int .i64 0, .int .i64 0]) (t := 35) ?hr ?_; (case hd => rfl); (case hg => rfl); (case hr => first | (go_simp; done) | (go_simp; rfl)); intro gb414 hg w36 hbox hb; have n0_ := AX (bkb BK404 hb); have n1_ := AX (bkb BK405 hb); have n2_ := AX (below_step bw hb); have n3_ := AX (hbox); have n4_ := AX ((by rw [hg]; exact (below_size bw) : w.heap.size ≤ gb414)); have n5_ := n4_; have n6_ := AX ((by rw [hg]; exact Nat.ne_of_lt (blk_lt (bkn BK404)) : gb404 ≠ gb414)); have n7_ := AX ((by rw [hg]; exact Nat.ne_of_gt (blk_lt (bkn BK404)) : gb414 ≠ gb404)); have n8_ := AX ((by rw [hg]; exact Nat.ne_of_lt (blk_lt (bkn BK405)) : gb405 ≠ gb414)); have n9_ := AX ((by rw [hg]; exact Nat.ne_of_gt (blk_lt (bkn BK405)) : gb414 ≠ gb405)); clear BK404; clear BK405; clear HB; have BK404 := n0_; have BK405 := n1_; have HB := n2_; have BK414 := n3_; have GW414 := n4_; have GE414 := n5_; have NB404_414 := n6_; have NB414_404 := n7_; have NB405_414 := n8_; have NB414_405 := n9_; clear n0_ n1_ n2_ n3_ n4_ n5_ n6_ n7_ n8_ n9_; clear hb hbox hg; have hnb37 := NB414_404.out; have hnc37 := NB404_414.out; have hnb38 := NB414_405.out; have hnc38 := NB405_414.out; obtain ⟨hcz39_0, hcz39_1, hcz39_2, hcz39_3, hcz39_4⟩ := blkC5 (w := w36) BK414.out; obtain ⟨hfz39_0, hfz39_1, hfz39_2, hfz39_3, hfz39_4⟩ := blkF5 BK414.out))
     go_roundg k1
     case measure => have := HK1.out; omega
     case rel => exact ⟨(wrap64 (x7_1 + 900)), (wrap64 (x22_1 + 1)), (by first | rfl | (simp; done) | (simp [*]; done)), (by first | rfl | (simp; done) | (simp [*]; done)), H', ⟨by have := HK1.out; omega⟩, ⟨by (with_reducible repeat first|refine blk_drewN ?_ _|refine blk_drew ?_|refine blk_alloc ?_ _); refine blk_far ?_ NB404_414.out _; (with_reducible repeat first|refine blk_drewN ?_ _|refine blk_drew ?_|refine blk_alloc ?_ _); refine blk_far ?_ NB404_414.out _; (with_reducible repeat first|refine blk_drewN ?_ _|refine blk_drew ?_|refine blk_alloc ?_ _); refine blk_far ?_ NB404_414.out _; (with_reducible repeat first|refine blk_drewN ?_ _|refine blk_drew ?_|refine blk_alloc ?_ _); refine blk_far ?_ NB404_414.out _; (with_reducible repeat first|refine blk_drewN ?_ _|refine blk_drew ?_|refine blk_alloc ?_ _); refine blk_far ?_ NB404_414.out _; (with_reducible repeat first|refine blk_drewN ?_ _|refine blk_drew ?_|refine blk_alloc ?_ _); exact BK404.out⟩, ⟨by (with_reducible repeat first|refine blk_drewN ?_ _|refine blk_drew ?_|refine blk_alloc ?_ _); refine blk_far ?_ NB405_414.out _; (with_reducible repeat first|refine blk_drewN ?_ _|refine blk_drew ?_|refine blk_alloc ?_ _); refine blk_far ?_ NB405_414.out _; (with_reducible repeat first|refine blk_drewN ?_ _|refine blk_drew ?_|refine blk_alloc ?_ _); refine blk_far ?_ NB405_414.out _; (with_reducible repeat first|refine blk_drewN ?_ _|refine blk_drew ?_|refine blk_alloc ?_ _); refine blk_far ?_ NB405_414.out _; (with_reducible repeat first|refine blk_drewN ?_ _|refine blk_drew ?_|refine blk_alloc ?_ _); refine blk_far ?_ NB405_414.out _; (with_reducible repeat first|refine blk_drewN ?_ _|refine blk_drew ?_|refine blk_alloc ?_ _); exact BK405.out⟩, ⟨bw⟩⟩
   ·rw [if_neg c10] at H
    have c10b0 : decide (x22_1 < 200) = false := decide_eq_false c10
    clear c10
    obtain rfl := Option.some.inj H
    go_wp2
    go_ret
    exact ⟨by first | rfl | (simp [errW_none, errW_some] <;> rfl) | (simp [*, errW_none, errW_some] <;> rfl), bw⟩

end Go.Proofs.Ytddkckpfmleffaa.PX
