/- Functions of the program as plain Lean functions, each with a proof that the call in the machine answers just what the plain function says; condition: the plain function answers at all. -/
import Derived.Test.YtipldjcncfoffaaPXx0
import Derived.Test.YtipldjcncfoffaaPXx3
import Derived.Test.YtipldjcncfoffaaPXx4
import Derived.Test.YtipldjcncfoffaaPXx11
namespace Go.Proofs.Ytipldjcncfoffaa.PX
open Go.RowKit Go.Proofs.YtipldjcncfoffaaW.PrintWords Go.Proofs.YtipldjcncfoffaaW.PrintLast Go.Proofs.YtipldjcncfoffaaW.PrintMore
attribute [local go_sem] max2_int min2_int max_two min_two max_three min_three max_four min_four   -- for this text's walks alone
set_option linter.unusedVariables false
set_option linter.unusedSimpArgs false

/-! ### pylonref03_Add: function 48 -/
def pylonref03_Add.f (k : Nat) (a0_0 : Int) (a0_1 : Int) (a0_2 : Int) (a1 : Int) : Option (Int × Int × Int × Int) := (pylonref03_Days.f k a0_0 a0_1 a0_2).bind fun bt373 => (if bt373.2 = 0 then (if a1 > 5000000 then (some (0, 0, 0, 5)) else (if a1 < (-5000000) then (some (0, 0, 0, 5)) else ((pylonref03_Of.f k (wrap64 (bt373.1 + a1))).bind fun bt375 => (some (bt375.1, bt375.2.1, bt375.2.2.1, bt375.2.2.2))))) else (some (0, 0, 0, 5)))
theorem pylonref03_Add.mono : ∀ a0 a1 a2 a3 k, LeO (pylonref03_Add.f k a0 a1 a2 a3) (pylonref03_Add.f (k + 1) a0 a1 a2 a3) := by
 intro a0 a1 a2 a3 k
 unfold pylonref03_Add.f
 repeat' first
   | (with_reducible exact pylonref03_Days.mono _ _ _ _)
   | (with_reducible exact pylonref03_Of.mono _ _)
   | (with_reducible exact LeO.refl _)
   | (with_reducible exact LeO.none _)
   | (with_reducible refine LeO.ite ?_ ?_)
   | (with_reducible refine LeO.bind ?_ (fun _ => ?_))
   | exact pylonref03_Days.mono _ _ _ _
   | exact pylonref03_Of.mono _ _
   | exact LeO.none _
   | refine LeO.ite ?_ ?_
   | refine LeO.bind ?_ (fun _ => ?_)
set_option maxHeartbeats 8000000 in
set_option maxRecDepth 100000 in
theorem pylonref03_Add.calls (k : Nat) (a0_0 : Int) (a0_1 : Int) (a0_2 : Int) (a1 : Int) (r1 : Int) (r2 : Int) (r3 : Int) (r4 : Int) (w : World) (h : pylonref03_Add.f k a0_0 a0_1 a0_2 a1 = some (r1, r2, r3, r4)) :
  Calls Try.prog 48 #[.agg #[.int .i64 a0_0, .int .i64 a0_1, .int .i64 a0_2], .int .i64 a1] w fun e w' => e = .returned (.tuple #[.agg #[.int .i64 r1, .int .i64 r2, .int .i64 r3], .int .i64 r4]) ∧ Below w.heap.size w w' := by
 have hu24 := Try.underlying24
 have HB := Aside0.mk (Below.refl w.heap.size w)
 have H : ((pylonref03_Days.f k a0_0 a0_1 a0_2).bind fun bt373 => (if bt373.2 = 0 then (if a1 > 5000000 then (some (0, 0, 0, 5)) else (if a1 < (-5000000) then (some (0, 0, 0, 5)) else ((pylonref03_Of.f k (wrap64 (bt373.1 + a1))).bind fun bt375 => (some (bt375.1, bt375.2.1, bt375.2.2.1, bt375.2.2.2))))) else (some (0, 0, 0, 5)))) = some (r1, r2, r3, r4) := h
 clear h
 replace H := Option.bind_eq_some_iff.mp H
 obtain ⟨⟨t373, t374⟩, A30, H⟩ := H
 replace H : (if t374 = 0 then (if a1 > 5000000 then (some (0, 0, 0, 5)) else (if a1 < (-5000000) then (some (0, 0, 0, 5)) else ((pylonref03_Of.f k (wrap64 (t373 + a1))).bind fun bt375 => (some (bt375.1, bt375.2.1, bt375.2.2.1, bt375.2.2.2))))) else (some (0, 0, 0, 5))) = some (r1, r2, r3, r4) := H
 have A3 := Aside0.mk A30
 clear A30
 by_cases c4 : t374 = 0
 ·rw [if_pos c4] at H
  have c4b0 : (t374 == 0) = true := beq_iff_eq.mpr c4
  have c4b1 : (t374 != 0) = false := bne_eq_false_iff_eq.mpr c4
  clear c4
  by_cases c5 : a1 > 5000000
  ·rw [if_pos c5] at H
   have c5b0 : decide (5000000 < a1) = true := decide_eq_true c5
   clear c5
   simp only [Option.some.injEq, Prod.mk.injEq] at H
   obtain ⟨rfl, rfl, rfl, rfl⟩ := H
   go_enter Try.func48, Try.ntmps48
   go_wp2_with (first | ((with_reducible refine gate_dst (N := 2) rfl ?_); refine box_event ?hg (N := 2) ?hd (cs := #[.int .i64 a0_0, .int .i64 a0_1, .int .i64 a0_2]) (t := 24) ?hr ?_; (case hd => rfl); (case hg => rfl); (case hr => first | (go_simp; done) | (go_simp; rfl)); intro gb371 hg w6 hbox hb; have n0_ := Aside0.mk (below_step (by repeat (first | (with_reducible first | exact HB.out | apply below_alloc | apply pw_below_drewN | apply below_drew1) | exact HB.out)) hb); have n1_ := Aside0.mk (hbox); have n2_ := Aside0.mk ((by rw [hg]; exact (below_size (by repeat (first | (with_reducible first | exact HB.out | apply below_alloc | apply pw_below_drewN | apply below_drew1) | exact HB.out))) : w.heap.size ≤ gb371)); have n3_ := Aside0.mk ((by rw [hg]; exact (below_size (by repeat (first | (with_reducible first | exact HB.out | apply below_alloc | apply pw_below_drewN | apply below_drew1) | exact HB.out))) : w.heap.size ≤ gb371)); clear HB; have HB := n0_; have BK371 := n1_; have GW371 := n2_; have GE371 := n3_; clear n0_ n1_ n2_ n3_; clear hb hbox hg) | ((with_reducible refine gate_dst (N := 4) rfl ?_); refine box_event ?hg (N := 4) ?hd (cs := #[.int .i64 0, .int .i64 0, .int .i64 0]) (t := 24) ?hr ?_; (case hd => rfl); (case hg => rfl); (case hr => first | (go_simp; done) | (go_simp; rfl)); intro gb372 hg w7 hbox hb; have n0_ := Aside0.mk (blk_below (g := gb371) (o := .cells #[.int .i64 a0_0, .int .i64 a0_1, .int .i64 a0_2] 24 (0, 0)) (by (with_reducible repeat first|refine blk_drewN ?_ _|refine blk_drew ?_|refine blk_alloc ?_ _); exact BK371.out) hb); have n1_ := Aside0.mk (below_step (by repeat (first | (with_reducible first | exact HB.out | apply below_alloc | apply pw_below_drewN | apply below_drew1 | refine below_set ?_ GE371.out) | exact HB.out)) hb); have n2_ := Aside0.mk (hbox); have n3_ := Aside0.mk ((by rw [hg]; exact (below_size (by repeat (first | (with_reducible first | exact HB.out | apply below_alloc | apply pw_below_drewN | apply below_drew1 | refine below_set ?_ GE371.out) | exact HB.out))) : w.heap.size ≤ gb372)); have n4_ := Aside0.mk ((by rw [hg]; exact (below_size (by repeat (first | (with_reducible first | exact HB.out | apply below_alloc | apply pw_below_drewN | apply below_drew1 | refine below_set ?_ GE371.out) | exact HB.out))) : w.heap.size ≤ gb372)); have n5_ := Aside0.mk ((by rw [hg]; exact Nat.ne_of_lt (blk_lt (g := gb371) (o := .cells #[.int .i64 a0_0, .int .i64 a0_1, .int .i64 a0_2] 24 (0, 0)) (by (with_reducible repeat first|refine blk_drewN ?_ _|refine blk_drew ?_|refine blk_alloc ?_ _); exact BK371.out)) : gb371 ≠ gb372)); have n6_ := Aside0.mk ((by rw [hg]; exact Nat.ne_of_gt (blk_lt (g := gb371) (o := .cells #[.int .i64 a0_0, .int .i64 a0_1, .int .i64 a0_2] 24 (0, 0)) (by (with_reducible repeat first|refine blk_drewN ?_ _|refine blk_drew ?_|refine blk_alloc ?_ _); exact BK371.out)) : gb372 ≠ gb371)); clear BK371; clear HB; have BK371 := n0_; have HB := n1_; have BK372 := n2_; have GW372 := n3_; have GE372 := n4_; have NB371_372 := n5_; have NB372_371 := n6_; clear n0_ n1_ n2_ n3_ n4_ n5_ n6_; clear hb hbox hg; have hnb8 := NB371_372.out; have hnc8 := NB372_371.out; have hcz9_0 : w7.cell? ⟨gb371, 0, none⟩ = some (.int .i64 a0_0) := (blk_cell BK371.out 0).trans rfl; have hcz9_1 : w7.cell? ⟨gb371, 1, none⟩ = some (.int .i64 a0_1) := (blk_cell BK371.out 1).trans rfl; have hcz9_2 : w7.cell? ⟨gb371, 2, none⟩ = some (.int .i64 a0_2) := (blk_cell BK371.out 2).trans rfl; have hfz9_0 := blk_frozen BK371.out 0; have hfz9_1 := blk_frozen BK371.out 1; have hfz9_2 := blk_frozen BK371.out 2) | ((with_reducible refine gate_callee (f := 37) rfl ?_); refine goesL_ (some 10) rfl rfl Try.func37 (by kernel_rfl) rfl #[.agg #[.int .i64 a0_0, .int .i64 a0_1, .int .i64 a0_2]] rfl (by (try simp only [List.map_toArray, List.map_cons, List.map_nil]); first | done | rfl | (simp only [List.length_drop, List.length_take]; rfl)) ?_; (with_reducible refine (pylonref03_Days.calls k a0_0 a0_1 a0_2 t373 t374 _ A3.out).mono ?_); rintro e w10 ⟨rfl, hb⟩; refine ⟨_, rfl, ?_⟩; have n0_ := Aside0.mk (blk_below (g := gb371) (o := .cells #[.int .i64 a0_0, .int .i64 a0_1, .int .i64 a0_2] 24 (0, 0)) (by (with_reducible repeat first|refine blk_drewN ?_ _|refine blk_drew ?_|refine blk_alloc ?_ _); exact BK371.out) hb); have n1_ := Aside0.mk (blk_below (g := gb372) (o := .cells #[.int .i64 0, .int .i64 0, .int .i64 0] 24 (0, 0)) (by (with_reducible repeat first|refine blk_drewN ?_ _|refine blk_drew ?_|refine blk_alloc ?_ _); exact BK372.out) hb); have n2_ := Aside0.mk (below_step (by repeat (first | (with_reducible first | exact HB.out | apply below_alloc | apply pw_below_drewN | apply below_drew1 | refine below_set ?_ GE371.out | refine below_set ?_ GE372.out) | exact HB.out)) hb); clear BK371; clear BK372; clear HB; have BK371 := n0_; have BK372 := n1_; have HB := n2_; clear n0_ n1_ n2_; (try clear hb); (try clear hb2); (try clear hk); (try clear hi); have hcz11_0 : w10.cell? ⟨gb372, 0, none⟩ = some (.int .i64 0) := (blk_cell BK372.out 0).trans rfl; have hcz11_1 : w10.cell? ⟨gb372, 1, none⟩ = some (.int .i64 0) := (blk_cell BK372.out 1).trans rfl; have hcz11_2 : w10.cell? ⟨gb372, 2, none⟩ = some (.int .i64 0) := (blk_cell BK372.out 2).trans rfl; have hfz11_0 := blk_frozen BK372.out 0; have hfz11_1 := blk_frozen BK372.out 1; have hfz11_2 := blk_frozen BK372.out 2))
   refine bodyPost_ret (results_ct rfl _ _ gb372 24 #[.int .i64 0, .int .i64 0, .int .i64 0] (0, 0) _ rfl (by (with_reducible repeat first|refine blk_drewN ?_ _|refine blk_drew ?_|refine blk_alloc ?_ _); refine blk_put (cs := #[.int .i64 0, .int .i64 0, .int .i64 0]) ?_ 2 _ rfl; (with_reducible repeat first|refine blk_drewN ?_ _|refine blk_drew ?_|refine blk_alloc ?_ _); refine blk_put (cs := #[.int .i64 0, .int .i64 0, .int .i64 0]) ?_ 1 _ rfl; (with_reducible repeat first|refine blk_drewN ?_ _|refine blk_drew ?_|refine blk_alloc ?_ _); refine blk_put (cs := #[.int .i64 0, .int .i64 0, .int .i64 0]) ?_ 0 _ rfl; (with_reducible repeat first|refine blk_drewN ?_ _|refine blk_drew ?_|refine blk_alloc ?_ _); exact BK372.out) Try.underlying24 rfl (by kernel_rfl)) rfl ?_
   exact ⟨by first | rfl | (simp [errW_none, errW_some] <;> rfl) | (simp [*, errW_none, errW_some] <;> rfl), by repeat (first | (with_reducible first | exact HB.out | apply below_alloc | apply pw_below_drewN | apply below_drew1 | refine below_set ?_ GE371.out | refine below_set ?_ GE372.out) | exact HB.out)⟩
  ·rw [if_neg c5] at H
   have c5b0 : decide (5000000 < a1) = false := decide_eq_false c5
   clear c5
   by_cases c12 : a1 < (-5000000)
   ·rw [if_pos c12] at H
    have c12b0 : decide (a1 < (-5000000)) = true := decide_eq_true c12
    clear c12
    simp only [Option.some.injEq, Prod.mk.injEq] at H
    obtain ⟨rfl, rfl, rfl, rfl⟩ := H
    go_enter Try.func48, Try.ntmps48
    go_wp2_with (first | ((with_reducible refine gate_dst (N := 2) rfl ?_); refine box_event ?hg (N := 2) ?hd (cs := #[.int .i64 a0_0, .int .i64 a0_1, .int .i64 a0_2]) (t := 24) ?hr ?_; (case hd => rfl); (case hg => rfl); (case hr => first | (go_simp; done) | (go_simp; rfl)); intro gb371 hg w13 hbox hb; have n0_ := Aside0.mk (below_step (by repeat (first | (with_reducible first | exact HB.out | apply below_alloc | apply pw_below_drewN | apply below_drew1) | exact HB.out)) hb); have n1_ := Aside0.mk (hbox); have n2_ := Aside0.mk ((by rw [hg]; exact (below_size (by repeat (first | (with_reducible first | exact HB.out | apply below_alloc | apply pw_below_drewN | apply below_drew1) | exact HB.out))) : w.heap.size ≤ gb371)); have n3_ := Aside0.mk ((by rw [hg]; exact (below_size (by repeat (first | (with_reducible first | exact HB.out | apply below_alloc | apply pw_below_drewN | apply below_drew1) | exact HB.out))) : w.heap.size ≤ gb371)); clear HB; have HB := n0_; have BK371 := n1_; have GW371 := n2_; have GE371 := n3_; clear n0_ n1_ n2_ n3_; clear hb hbox hg) | ((with_reducible refine gate_dst (N := 4) rfl ?_); refine box_event ?hg (N := 4) ?hd (cs := #[.int .i64 0, .int .i64 0, .int .i64 0]) (t := 24) ?hr ?_; (case hd => rfl); (case hg => rfl); (case hr => first | (go_simp; done) | (go_simp; rfl)); intro gb372 hg w14 hbox hb; have n0_ := Aside0.mk (blk_below (g := gb371) (o := .cells #[.int .i64 a0_0, .int .i64 a0_1, .int .i64 a0_2] 24 (0, 0)) (by (with_reducible repeat first|refine blk_drewN ?_ _|refine blk_drew ?_|refine blk_alloc ?_ _); exact BK371.out) hb); have n1_ := Aside0.mk (below_step (by repeat (first | (with_reducible first | exact HB.out | apply below_alloc | apply pw_below_drewN | apply below_drew1 | refine below_set ?_ GE371.out) | exact HB.out)) hb); have n2_ := Aside0.mk (hbox); have n3_ := Aside0.mk ((by rw [hg]; exact (below_size (by repeat (first | (with_reducible first | exact HB.out | apply below_alloc | apply pw_below_drewN | apply below_drew1 | refine below_set ?_ GE371.out) | exact HB.out))) : w.heap.size ≤ gb372)); have n4_ := Aside0.mk ((by rw [hg]; exact (below_size (by repeat (first | (with_reducible first | exact HB.out | apply below_alloc | apply pw_below_drewN | apply below_drew1 | refine below_set ?_ GE371.out) | exact HB.out))) : w.heap.size ≤ gb372)); have n5_ := Aside0.mk ((by rw [hg]; exact Nat.ne_of_lt (blk_lt (g := gb371) (o := .cells #[.int .i64 a0_0, .int .i64 a0_1, .int .i64 a0_2] 24 (0, 0)) (by (with_reducible repeat first|refine blk_drewN ?_ _|refine blk_drew ?_|refine blk_alloc ?_ _); exact BK371.out)) : gb371 ≠ gb372)); have n6_ := Aside0.mk ((by rw [hg]; exact Nat.ne_of_gt (blk_lt (g := gb371) (o := .cells #[.int .i64 a0_0, .int .i64 a0_1, .int .i64 a0_2] 24 (0, 0)) (by (with_reducible repeat first|refine blk_drewN ?_ _|refine blk_drew ?_|refine blk_alloc ?_ _); exact BK371.out)) : gb372 ≠ gb371)); clear BK371; clear HB; have BK371 := n0_; have HB := n1_; have BK372 := n2_; have GW372 := n3_; have GE372 := n4_; have NB371_372 := n5_; have NB372_371 := n6_; clear n0_ n1_ n2_ n3_ n4_ n5_ n6_; clear hb hbox hg; have hnb15 := NB371_372.out; have hnc15 := NB372_371.out; have hcz16_0 : w14.cell? ⟨gb371, 0, none⟩ = some (.int .i64 a0_0) := (blk_cell BK371.out 0).trans rfl; have hcz16_1 : w14.cell? ⟨gb371, 1, none⟩ = some (.int .i64 a0_1) := (blk_cell BK371.out 1).trans rfl; have hcz16_2 : w14.cell? ⟨gb371, 2, none⟩ = some (.int .i64 a0_2) := (blk_cell BK371.out 2).trans rfl; have hfz16_0 := blk_frozen BK371.out 0; have hfz16_1 := blk_frozen BK371.out 1; have hfz16_2 := blk_frozen BK371.out 2) | ((with_reducible refine gate_callee (f := 37) rfl ?_); refine goesL_ (some 10) rfl rfl Try.func37 (by kernel_rfl) rfl #[.agg #[.int .i64 a0_0, .int .i64 a0_1, .int .i64 a0_2]] rfl (by (try simp only [List.map_toArray, List.map_cons, List.map_nil]); first | done | rfl | (simp only [List.length_drop, List.length_take]; rfl)) ?_; (with_reducible refine (pylonref03_Days.calls k a0_0 a0_1 a0_2 t373 t374 _ A3.out).mono ?_); rintro e w17 ⟨rfl, hb⟩; refine ⟨_, rfl, ?_⟩; have n0_ := Aside0.mk (blk_below (g := gb371) (o := .cells #[.int .i64 a0_0, .int .i64 a0_1, .int .i64 a0_2] 24 (0, 0)) (by (with_reducible repeat first|refine blk_drewN ?_ _|refine blk_drew ?_|refine blk_alloc ?_ _); exact BK371.out) hb); have n1_ := Aside0.mk (blk_below (g := gb372) (o := .cells #[.int .i64 0, .int .i64 0, .int .i64 0] 24 (0, 0)) (by (with_reducible repeat first|refine blk_drewN ?_ _|refine blk_drew ?_|refine blk_alloc ?_ _); exact BK372.out) hb); have n2_ := Aside0.mk (below_step (by repeat (first | (with_reducible first | exact HB.out | apply below_alloc | apply pw_below_drewN | apply below_drew1 | refine below_set ?_ GE371.out | refine below_set ?_ GE372.out) | exact HB.out)) hb); clear BK371; clear BK372; clear HB; have BK371 := n0_; have BK372 := n1_; have HB := n2_; clear n0_ n1_ n2_; (try clear hb); (try clear hb2); (try clear hk); (try clear hi); have hcz18_0 : w17.cell? ⟨gb372, 0, none⟩ = some (.int .i64 0) := (blk_cell BK372.out 0).trans rfl; have hcz18_1 : w17.cell? ⟨gb372, 1, none⟩ = some (.int .i64 0) := (blk_cell BK372.out 1).trans rfl; have hcz18_2 : w17.cell? ⟨gb372, 2, none⟩ = some (.int .i64 0) := (blk_cell BK372.out 2).trans rfl; have hfz18_0 := blk_frozen BK372.out 0; have hfz18_1 := blk_frozen BK372.out 1; have hfz18_2 := blk_frozen BK372.out 2))
    refine bodyPost_ret (results_ct rfl _ _ gb372 24 #[.int .i64 0, .int .i64 0, .int .i64 0] (0, 0) _ rfl (by (with_reducible repeat first|refine blk_drewN ?_ _|refine blk_drew ?_|refine blk_alloc ?_ _); refine blk_put (cs := #[.int .i64 0, .int .i64 0, .int .i64 0]) ?_ 2 _ rfl; (with_reducible repeat first|refine blk_drewN ?_ _|refine blk_drew ?_|refine blk_alloc ?_ _); refine blk_put (cs := #[.int .i64 0, .int .i64 0, .int .i64 0]) ?_ 1 _ rfl; (with_reducible repeat first|refine blk_drewN ?_ _|refine blk_drew ?_|refine blk_alloc ?_ _); refine blk_put (cs := #[.int .i64 0, .int .i64 0, .int .i64 0]) ?_ 0 _ rfl; (with_reducible repeat first|refine blk_drewN ?_ _|refine blk_drew ?_|refine blk_alloc ?_ _); exact BK372.out) Try.underlying24 rfl (by kernel_rfl)) rfl ?_
    exact ⟨by first | rfl | (simp [errW_none, errW_some] <;> rfl) | (simp [*, errW_none, errW_some] <;> rfl), by repeat (first | (with_reducible first | exact HB.out | apply below_alloc | apply pw_below_drewN | apply below_drew1 | refine below_set ?_ GE371.out | refine below_set ?_ GE372.out) | exact HB.out)⟩
   ·rw [if_neg c12] at H
    have c12b0 : decide (a1 < (-5000000)) = false := decide_eq_false c12
    clear c12
    replace H := Option.bind_eq_some_iff.mp H
    obtain ⟨⟨t375, t376, t377, t378⟩, A190, H⟩ := H
    replace H : (some (t375, t376, t377, t378)) = some (r1, r2, r3, r4) := H
    have A19 := Aside0.mk A190
    clear A190
    simp only [Option.some.injEq, Prod.mk.injEq] at H
    obtain ⟨rfl, rfl, rfl, rfl⟩ := H
    go_enter Try.func48, Try.ntmps48
    go_wp2_with (first | ((with_reducible refine gate_dst (N := 2) rfl ?_); refine box_event ?hg (N := 2) ?hd (cs := #[.int .i64 a0_0, .int .i64 a0_1, .int .i64 a0_2]) (t := 24) ?hr ?_; (case hd => rfl); (case hg => rfl); (case hr => first | (go_simp; done) | (go_simp; rfl)); intro gb371 hg w20 hbox hb; have n0_ := Aside0.mk (below_step (by repeat (first | (with_reducible first | exact HB.out | apply below_alloc | apply pw_below_drewN | apply below_drew1) | exact HB.out)) hb); have n1_ := Aside0.mk (hbox); have n2_ := Aside0.mk ((by rw [hg]; exact (below_size (by repeat (first | (with_reducible first | exact HB.out | apply below_alloc | apply pw_below_drewN | apply below_drew1) | exact HB.out))) : w.heap.size ≤ gb371)); have n3_ := Aside0.mk ((by rw [hg]; exact (below_size (by repeat (first | (with_reducible first | exact HB.out | apply below_alloc | apply pw_below_drewN | apply below_drew1) | exact HB.out))) : w.heap.size ≤ gb371)); clear HB; have HB := n0_; have BK371 := n1_; have GW371 := n2_; have GE371 := n3_; clear n0_ n1_ n2_ n3_; clear hb hbox hg) | ((with_reducible refine gate_dst (N := 4) rfl ?_); refine box_event ?hg (N := 4) ?hd (cs := #[.int .i64 0, .int .i64 0, .int .i64 0]) (t := 24) ?hr ?_; (case hd => rfl); (case hg => rfl); (case hr => first | (go_simp; done) | (go_simp; rfl)); intro gb372 hg w21 hbox hb; have n0_ := Aside0.mk (blk_below (g := gb371) (o := .cells #[.int .i64 a0_0, .int .i64 a0_1, .int .i64 a0_2] 24 (0, 0)) (by (with_reducible repeat first|refine blk_drewN ?_ _|refine blk_drew ?_|refine blk_alloc ?_ _); exact BK371.out) hb); have n1_ := Aside0.mk (below_step (by repeat (first | (with_reducible first | exact HB.out | apply below_alloc | apply pw_below_drewN | apply below_drew1 | refine below_set ?_ GE371.out) | exact HB.out)) hb); have n2_ := Aside0.mk (hbox); have n3_ := Aside0.mk ((by rw [hg]; exact (below_size (by repeat (first | (with_reducible first | exact HB.out | apply below_alloc | apply pw_below_drewN | apply below_drew1 | refine below_set ?_ GE371.out) | exact HB.out))) : w.heap.size ≤ gb372)); have n4_ := Aside0.mk ((by rw [hg]; exact (below_size (by repeat (first | (with_reducible first | exact HB.out | apply below_alloc | apply pw_below_drewN | apply below_drew1 | refine below_set ?_ GE371.out) | exact HB.out))) : w.heap.size ≤ gb372)); have n5_ := Aside0.mk ((by rw [hg]; exact Nat.ne_of_lt (blk_lt (g := gb371) (o := .cells #[.int .i64 a0_0, .int .i64 a0_1, .int .i64 a0_2] 24 (0, 0)) (by (with_reducible repeat first|refine blk_drewN ?_ _|refine blk_drew ?_|refine blk_alloc ?_ _); exact BK371.out)) : gb371 ≠ gb372)); have n6_ := Aside0.mk ((by rw [hg]; exact Nat.ne_of_gt (blk_lt (g := gb371) (o := .cells #[.int .i64 a0_0, .int .i64 a0_1, .int .i64 a0_2] 24 (0, 0)) (by (with_reducible repeat first|refine blk_drewN ?_ _|refine blk_drew ?_|refine blk_alloc ?_ _); exact BK371.out)) : gb372 ≠ gb371)); clear BK371; clear HB; have BK371 := n0_; have HB := n1_; have BK372 := n2_; have GW372 := n3_; have GE372 := n4_; have NB371_372 := n5_; have NB372_371 := n6_; clear n0_ n1_ n2_ n3_ n4_ n5_ n6_; clear hb hbox hg; have hnb22 := NB371_372.out; have hnc22 := NB372_371.out; have hcz23_0 : w21.cell? ⟨gb371, 0, none⟩ = some (.int .i64 a0_0) := (blk_cell BK371.out 0).trans rfl; have hcz23_1 : w21.cell? ⟨gb371, 1, none⟩ = some (.int .i64 a0_1) := (blk_cell BK371.out 1).trans rfl; have hcz23_2 : w21.cell? ⟨gb371, 2, none⟩ = some (.int .i64 a0_2) := (blk_cell BK371.out 2).trans rfl; have hfz23_0 := blk_frozen BK371.out 0; have hfz23_1 := blk_frozen BK371.out 1; have hfz23_2 := blk_frozen BK371.out 2) | ((with_reducible refine gate_callee (f := 37) rfl ?_); refine goesL_ (some 10) rfl rfl Try.func37 (by kernel_rfl) rfl #[.agg #[.int .i64 a0_0, .int .i64 a0_1, .int .i64 a0_2]] rfl (by (try simp only [List.map_toArray, List.map_cons, List.map_nil]); first | done | rfl | (simp only [List.length_drop, List.length_take]; rfl)) ?_; (with_reducible refine (pylonref03_Days.calls k a0_0 a0_1 a0_2 t373 t374 _ A3.out).mono ?_); rintro e w24 ⟨rfl, hb⟩; refine ⟨_, rfl, ?_⟩; have n0_ := Aside0.mk (blk_below (g := gb371) (o := .cells #[.int .i64 a0_0, .int .i64 a0_1, .int .i64 a0_2] 24 (0, 0)) (by (with_reducible repeat first|refine blk_drewN ?_ _|refine blk_drew ?_|refine blk_alloc ?_ _); exact BK371.out) hb); have n1_ := Aside0.mk (blk_below (g := gb372) (o := .cells #[.int .i64 0, .int .i64 0, .int .i64 0] 24 (0, 0)) (by (with_reducible repeat first|refine blk_drewN ?_ _|refine blk_drew ?_|refine blk_alloc ?_ _); exact BK372.out) hb); have n2_ := Aside0.mk (below_step (by repeat (first | (with_reducible first | exact HB.out | apply below_alloc | apply pw_below_drewN | apply below_drew1 | refine below_set ?_ GE371.out | refine below_set ?_ GE372.out) | exact HB.out)) hb); clear BK371; clear BK372; clear HB; have BK371 := n0_; have BK372 := n1_; have HB := n2_; clear n0_ n1_ n2_; (try clear hb); (try clear hb2); (try clear hk); (try clear hi)) | ((with_reducible refine gate_callee (f := 32) rfl ?_); refine goesL_ (some 27) rfl rfl Try.func32 (by kernel_rfl) rfl #[.int .i64 (wrap64 (t373 + a1))] rfl (by (try simp only [List.map_toArray, List.map_cons, List.map_nil]); first | done | rfl | (simp only [List.length_drop, List.length_take]; rfl)) ?_; (with_reducible refine (pylonref03_Of.calls k (wrap64 (t373 + a1)) t375 t376 t377 t378 _ A19.out).mono ?_); rintro e w25 ⟨rfl, hb⟩; refine ⟨_, rfl, ?_⟩; have n0_ := Aside0.mk (blk_below (g := gb371) (o := .cells #[.int .i64 a0_0, .int .i64 a0_1, .int .i64 a0_2] 24 (0, 0)) (by (with_reducible repeat first|refine blk_drewN ?_ _|refine blk_drew ?_|refine blk_alloc ?_ _); exact BK371.out) hb); have n1_ := Aside0.mk (blk_below (g := gb372) (o := .cells #[.int .i64 0, .int .i64 0, .int .i64 0] 24 (0, 0)) (by (with_reducible repeat first|refine blk_drewN ?_ _|refine blk_drew ?_|refine blk_alloc ?_ _); exact BK372.out) hb); have n2_ := Aside0.mk (below_step (by repeat (first | (with_reducible first | exact HB.out | apply below_alloc | apply pw_below_drewN | apply below_drew1 | refine below_set ?_ GE371.out | refine below_set ?_ GE372.out) | exact HB.out)) hb); clear BK371; clear BK372; clear HB; have BK371 := n0_; have BK372 := n1_; have HB := n2_; clear n0_ n1_ n2_; (try clear hb); (try clear hb2); (try clear hk); (try clear hi); have hcz26_0 : w25.cell? ⟨gb372, 0, none⟩ = some (.int .i64 0) := (blk_cell BK372.out 0).trans rfl; have hcz26_1 : w25.cell? ⟨gb372, 1, none⟩ = some (.int .i64 0) := (blk_cell BK372.out 1).trans rfl; have hcz26_2 : w25.cell? ⟨gb372, 2, none⟩ = some (.int .i64 0) := (blk_cell BK372.out 2).trans rfl; have hfz26_0 := blk_frozen BK372.out 0; have hfz26_1 := blk_frozen BK372.out 1; have hfz26_2 := blk_frozen BK372.out 2))
    refine bodyPost_ret (results_ct rfl _ _ gb372 24 #[.int .i64 t375, .int .i64 t376, .int .i64 t377] (0, 0) _ rfl (by (with_reducible repeat first|refine blk_drewN ?_ _|refine blk_drew ?_|refine blk_alloc ?_ _); refine blk_put (cs := #[.int .i64 t375, .int .i64 t376, .int .i64 0]) ?_ 2 _ rfl; (with_reducible repeat first|refine blk_drewN ?_ _|refine blk_drew ?_|refine blk_alloc ?_ _); refine blk_put (cs := #[.int .i64 t375, .int .i64 0, .int .i64 0]) ?_ 1 _ rfl; (with_reducible repeat first|refine blk_drewN ?_ _|refine blk_drew ?_|refine blk_alloc ?_ _); refine blk_put (cs := #[.int .i64 0, .int .i64 0, .int .i64 0]) ?_ 0 _ rfl; (with_reducible repeat first|refine blk_drewN ?_ _|refine blk_drew ?_|refine blk_alloc ?_ _); exact BK372.out) Try.underlying24 rfl (by kernel_rfl)) rfl ?_
    exact ⟨by first | rfl | (simp [errW_none, errW_some] <;> rfl) | (simp [*, errW_none, errW_some] <;> rfl), by repeat (first | (with_reducible first | exact HB.out | apply below_alloc | apply pw_below_drewN | apply below_drew1 | refine below_set ?_ GE371.out | refine below_set ?_ GE372.out) | exact HB.out)⟩
 ·rw [if_neg c4] at H
  have c4b0 : (t374 == 0) = false := beq_eq_false_iff_ne.mpr c4
  have c4b1 : (t374 != 0) = true := bne_iff_ne.mpr c4
  simp only [Option.some.injEq, Prod.mk.injEq] at H
  obtain ⟨rfl, rfl, rfl, rfl⟩ := H
  go_enter Try.func48, Try.ntmps48
  go_wp2_with (first | ((with_reducible refine gate_dst (N := 2) rfl ?_); refine box_event ?hg (N := 2) ?hd (cs := #[.int .i64 a0_0, .int .i64 a0_1, .int .i64 a0_2]) (t := 24) ?hr ?_; (case hd => rfl); (case hg => rfl); (case hr => first | (go_simp; done) | (go_simp; rfl)); intro gb371 hg w27 hbox hb; have n0_ := Aside0.mk (below_step (by repeat (first | (with_reducible first | exact HB.out | apply below_alloc | apply pw_below_drewN | apply below_drew1) | exact HB.out)) hb); have n1_ := Aside0.mk (hbox); have n2_ := Aside0.mk ((by rw [hg]; exact (below_size (by repeat (first | (with_reducible first | exact HB.out | apply below_alloc | apply pw_below_drewN | apply below_drew1) | exact HB.out))) : w.heap.size ≤ gb371)); have n3_ := Aside0.mk ((by rw [hg]; exact (below_size (by repeat (first | (with_reducible first | exact HB.out | apply below_alloc | apply pw_below_drewN | apply below_drew1) | exact HB.out))) : w.heap.size ≤ gb371)); clear HB; have HB := n0_; have BK371 := n1_; have GW371 := n2_; have GE371 := n3_; clear n0_ n1_ n2_ n3_; clear hb hbox hg) | ((with_reducible refine gate_dst (N := 4) rfl ?_); refine box_event ?hg (N := 4) ?hd (cs := #[.int .i64 0, .int .i64 0, .int .i64 0]) (t := 24) ?hr ?_; (case hd => rfl); (case hg => rfl); (case hr => first | (go_simp; done) | (go_simp; rfl)); intro gb372 hg w28 hbox hb; have n0_ := Aside0.mk (blk_below (g := gb371) (o := .cells #[.int .i64 a0_0, .int .i64 a0_1, .int .i64 a0_2] 24 (0, 0)) (by (with_reducible repeat first|refine blk_drewN ?_ _|refine blk_drew ?_|refine blk_alloc ?_ _); exact BK371.out) hb); have n1_ := Aside0.mk (below_step (by repeat (first | (with_reducible first | exact HB.out | apply below_alloc | apply pw_below_drewN | apply below_drew1 | refine below_set ?_ GE371.out) | exact HB.out)) hb); have n2_ := Aside0.mk (hbox); have n3_ := Aside0.mk ((by rw [hg]; exact (below_size (by repeat (first | (with_reducible first | exact HB.out | apply below_alloc | apply pw_below_drewN | apply below_drew1 | refine below_set ?_ GE371.out) | exact HB.out))) : w.heap.size ≤ gb372)); have n4_ := Aside0.mk ((by rw [hg]; exact (below_size (by repeat (first | (with_reducible first | exact HB.out | apply below_alloc | apply pw_below_drewN | apply below_drew1 | refine below_set ?_ GE371.out) | exact HB.out))) : w.heap.size ≤ gb372)); have n5_ := Aside0.mk ((by rw [hg]; exact Nat.ne_of_lt (blk_lt (g := gb371) (o := .cells #[.int .i64 a0_0, .int .i64 a0_1, .int .i64 a0_2] 24 (0, 0)) (by (with_reducible repeat first|refine blk_drewN ?_ _|refine blk_drew ?_|refine blk_alloc ?_ _); exact BK371.out)) : gb371 ≠ gb372)); have n6_ := Aside0.mk ((by rw [hg]; exact Nat.ne_of_gt (blk_lt (g := gb371) (o := .cells #[.int .i64 a0_0, .int .i64 a0_1, .int .i64 a0_2] 24 (0, 0)) (by (with_reducible repeat first|refine blk_drewN ?_ _|refine blk_drew ?_|refine blk_alloc ?_ _); exact BK371.out)) : gb372 ≠ gb371)); clear BK371; clear HB; have BK371 := n0_; have HB := n1_; have BK372 := n2_; have GW372 := n3_; have GE372 := n4_; have NB371_372 := n5_; have NB372_371 := n6_; clear n0_ n1_ n2_ n3_ n4_ n5_ n6_; clear hb hbox hg; have hnb29 := NB371_372.out; have hnc29 := NB372_371.out; have hcz30_0 : w28.cell? ⟨gb371, 0, none⟩ = some (.int .i64 a0_0) := (blk_cell BK371.out 0).trans rfl; have hcz30_1 : w28.cell? ⟨gb371, 1, none⟩ = some (.int .i64 a0_1) := (blk_cell BK371.out 1).trans rfl; have hcz30_2 : w28.cell? ⟨gb371, 2, none⟩ = some (.int .i64 a0_2) := (blk_cell BK371.out 2).trans rfl; have hfz30_0 := blk_frozen BK371.out 0; have hfz30_1 := blk_frozen BK371.out 1; have hfz30_2 := blk_frozen BK371.out 2) | ((with_reducible refine gate_callee (f := 37) rfl ?_); refine goesL_ (some 10) rfl rfl Try.func37 (by kernel_rfl) rfl #[.agg #[.int .i64 a0_0, .int .i64 a0_1, .int .i64 a0_2]] rfl (by (try simp only [List.map_toArray, List.map_cons, List.map_nil]); first | done | rfl | (simp only [List.length_drop, List.length_take]; rfl)) ?_; (with_reducible refine (pylonref03_Days.calls k a0_0 a0_1 a0_2 t373 t374 _ A3.out).mono ?_); rintro e w31 ⟨rfl, hb⟩; refine ⟨_, rfl, ?_⟩; have n0_ := Aside0.mk (blk_below (g := gb371) (o := .cells #[.int .i64 a0_0, .int .i64 a0_1, .int .i64 a0_2] 24 (0, 0)) (by (with_reducible repeat first|refine blk_drewN ?_ _|refine blk_drew ?_|refine blk_alloc ?_ _); exact BK371.out) hb); have n1_ := Aside0.mk (blk_below (g := gb372) (o := .cells #[.int .i64 0, .int .i64 0, .int .i64 0] 24 (0, 0)) (by (with_reducible repeat first|refine blk_drewN ?_ _|refine blk_drew ?_|refine blk_alloc ?_ _); exact BK372.out) hb); have n2_ := Aside0.mk (below_step (by repeat (first | (with_reducible first | exact HB.out | apply below_alloc | apply pw_below_drewN | apply below_drew1 | refine below_set ?_ GE371.out | refine below_set ?_ GE372.out) | exact HB.out)) hb); clear BK371; clear BK372; clear HB; have BK371 := n0_; have BK372 := n1_; have HB := n2_; clear n0_ n1_ n2_; (try clear hb); (try clear hb2); (try clear hk); (try clear hi); have hcz32_0 : w31.cell? ⟨gb372, 0, none⟩ = some (.int .i64 0) := (blk_cell BK372.out 0).trans rfl; have hcz32_1 : w31.cell? ⟨gb372, 1, none⟩ = some (.int .i64 0) := (blk_cell BK372.out 1).trans rfl; have hcz32_2 : w31.cell? ⟨gb372, 2, none⟩ = some (.int .i64 0) := (blk_cell BK372.out 2).trans rfl; have hfz32_0 := blk_frozen BK372.out 0; have hfz32_1 := blk_frozen BK372.out 1; have hfz32_2 := blk_frozen BK372.out 2))
  refine bodyPost_ret (results_ct rfl _ _ gb372 24 #[.int .i64 0, .int .i64 0, .int .i64 0] (0, 0) _ rfl (by (with_reducible repeat first|refine blk_drewN ?_ _|refine blk_drew ?_|refine blk_alloc ?_ _); refine blk_put (cs := #[.int .i64 0, .int .i64 0, .int .i64 0]) ?_ 2 _ rfl; (with_reducible repeat first|refine blk_drewN ?_ _|refine blk_drew ?_|refine blk_alloc ?_ _); refine blk_put (cs := #[.int .i64 0, .int .i64 0, .int .i64 0]) ?_ 1 _ rfl; (with_reducible repeat first|refine blk_drewN ?_ _|refine blk_drew ?_|refine blk_alloc ?_ _); refine blk_put (cs := #[.int .i64 0, .int .i64 0, .int .i64 0]) ?_ 0 _ rfl; (with_reducible repeat first|refine blk_drewN ?_ _|refine blk_drew ?_|refine blk_alloc ?_ _); exact BK372.out) Try.underlying24 rfl (by kernel_rfl)) rfl ?_
  exact ⟨by first | rfl | (simp [errW_none, errW_some] <;> rfl) | (simp [*, errW_none, errW_some] <;> rfl), by repeat (first | (with_reducible first | exact HB.out | apply below_alloc | apply pw_below_drewN | apply below_drew1 | refine below_set ?_ GE371.out | refine below_set ?_ GE372.out) | exact HB.out)⟩

/-! ### pylonref03_Nth: function 49 -/
mutual
def pylonref03_Nth.j0 : Nat → Int → Int → Int → Int → Int → Bool → Option (Int × Int × Int × Int)
 | 0, _, _, _, _, _, _ => none
 | k + 1, x0, x1, x2, x3, x10, x40 => if x40 = true then (some (0, 0, 0, 8)) else (pylonref03_Nth.l0 k x0 x1 x2 x3 x10 0 0 1)
def pylonref03_Nth.l0 : Nat → Int → Int → Int → Int → Int → Int → Int → Int → Option (Int × Int × Int × Int)
 | 0, _, _, _, _, _, _, _, _ => none
 | k + 1, x0, x1, x2, x3, x10, x12, x13, x14 => if x14 ≤ x10 then ((pylonref03_Weekday.f k x0 x1 x14).bind fun bt382 => (if bt382.1 = x3 then (if (wrap64 (x12 + 1)) = x2 then (some (x0, x1, x14, 0)) else (pylonref03_Nth.l0 k x0 x1 x2 x3 x10 (wrap64 (x12 + 1)) x14 (wrap64 (x14 + 1)))) else (pylonref03_Nth.l0 k x0 x1 x2 x3 x10 x12 x13 (wrap64 (x14 + 1))))) else (some (x0, x1, x13, 0))
end
def pylonref03_Nth.f (k : Nat) (a0 : Int) (a1 : Int) (a2 : Int) (a3 : Int) : Option (Int × Int × Int × Int) := (pylonref03_Length.f k a0 a1).bind fun bt380 => (if bt380.2 = 0 then (if a2 < 1 then (pylonref03_Nth.j0 k a0 a1 a2 a3 bt380.1 true) else (if a2 > 5 then (pylonref03_Nth.j0 k a0 a1 a2 a3 bt380.1 true) else (if a3 < 0 then (pylonref03_Nth.j0 k a0 a1 a2 a3 bt380.1 true) else (pylonref03_Nth.j0 k a0 a1 a2 a3 bt380.1 (decide (a3 > 6)))))) else (some (0, 0, 0, bt380.2)))
theorem pylonref03_Nth.mono_l : ∀ k, (∀ y0 y1 y2 y3 y4 y5, LeO (pylonref03_Nth.j0 k y0 y1 y2 y3 y4 y5) (pylonref03_Nth.j0 (k + 1) y0 y1 y2 y3 y4 y5)) ∧ (∀ y0 y1 y2 y3 y4 y5 y6 y7, LeO (pylonref03_Nth.l0 k y0 y1 y2 y3 y4 y5 y6 y7) (pylonref03_Nth.l0 (k + 1) y0 y1 y2 y3 y4 y5 y6 y7))
 | 0 => ⟨fun _ _ _ _ _ _ r h => by simp [pylonref03_Nth.j0] at h, fun _ _ _ _ _ _ _ _ r h => by simp [pylonref03_Nth.l0] at h⟩
 | k + 1 => by
  obtain ⟨ih0, ih1⟩ := pylonref03_Nth.mono_l k
  refine ⟨?_, ?_⟩
  ·intro y0 y1 y2 y3 y4 y5
   unfold pylonref03_Nth.j0
   repeat' first
   | (with_reducible exact ih0 _ _ _ _ _ _)
   | (with_reducible exact ih1 _ _ _ _ _ _ _ _)
   | (with_reducible exact pylonref03_Length.mono _ _ _)
   | (with_reducible exact pylonref03_Weekday.mono _ _ _ _)
   | (with_reducible exact LeO.refl _)
   | (with_reducible exact LeO.none _)
   | (with_reducible refine LeO.ite ?_ ?_)
   | (with_reducible refine LeO.bind ?_ (fun _ => ?_))
   | exact ih0 _ _ _ _ _ _
   | exact ih1 _ _ _ _ _ _ _ _
   | exact pylonref03_Length.mono _ _ _
   | exact pylonref03_Weekday.mono _ _ _ _
   | exact LeO.none _
   | refine LeO.ite ?_ ?_
   | refine LeO.bind ?_ (fun _ => ?_)
  ·intro y0 y1 y2 y3 y4 y5 y6 y7
   unfold pylonref03_Nth.l0
   repeat' first
   | (with_reducible exact ih0 _ _ _ _ _ _)
   | (with_reducible exact ih1 _ _ _ _ _ _ _ _)
   | (with_reducible exact pylonref03_Length.mono _ _ _)
   | (with_reducible exact pylonref03_Weekday.mono _ _ _ _)
   | (with_reducible exact LeO.refl _)
   | (with_reducible exact LeO.none _)
   | (with_reducible refine LeO.ite ?_ ?_)
   | (with_reducible refine LeO.bind ?_ (fun _ => ?_))
   | exact ih0 _ _ _ _ _ _
   | exact ih1 _ _ _ _ _ _ _ _
   | exact pylonref03_Length.mono _ _ _
   | exact pylonref03_Weekday.mono _ _ _ _
   | exact LeO.none _
   | refine LeO.ite ?_ ?_
   | refine LeO.bind ?_ (fun _ => ?_)
theorem pylonref03_Nth.mono : ∀ a0 a1 a2 a3 k, LeO (pylonref03_Nth.f k a0 a1 a2 a3) (pylonref03_Nth.f (k + 1) a0 a1 a2 a3) := by
 intro a0 a1 a2 a3 k
 obtain ⟨ih0, ih1⟩ := pylonref03_Nth.mono_l k
 unfold pylonref03_Nth.f
 repeat' first
   | (with_reducible exact ih0 _ _ _ _ _ _)
   | (with_reducible exact ih1 _ _ _ _ _ _ _ _)
   | (with_reducible exact pylonref03_Length.mono _ _ _)
   | (with_reducible exact pylonref03_Weekday.mono _ _ _ _)
   | (with_reducible exact LeO.refl _)
   | (with_reducible exact LeO.none _)
   | (with_reducible refine LeO.ite ?_ ?_)
   | (with_reducible refine LeO.bind ?_ (fun _ => ?_))
   | exact ih0 _ _ _ _ _ _
   | exact ih1 _ _ _ _ _ _ _ _
   | exact pylonref03_Length.mono _ _ _
   | exact pylonref03_Weekday.mono _ _ _ _
   | exact LeO.none _
   | refine LeO.ite ?_ ?_
   | refine LeO.bind ?_ (fun _ => ?_)
set_option maxHeartbeats 8000000 in
set_option maxRecDepth 100000 in
theorem pylonref03_Nth.calls (k : Nat) (a0 : Int) (a1 : Int) (a2 : Int) (a3 : Int) (r1 : Int) (r2 : Int) (r3 : Int) (r4 : Int) (w : World) (h : pylonref03_Nth.f k a0 a1 a2 a3 = some (r1, r2, r3, r4)) :
  Calls Try.prog 49 #[.int .i64 a0, .int .i64 a1, .int .i64 a2, .int .i64 a3] w fun e w' => e = .returned (.tuple #[.agg #[.int .i64 r1, .int .i64 r2, .int .i64 r3], .int .i64 r4]) ∧ Below w.heap.size w w' := by
 have hu24 := Try.underlying24
 have HB := Aside0.mk (Below.refl w.heap.size w)
 have H : ((pylonref03_Length.f k a0 a1).bind fun bt380 => (if bt380.2 = 0 then (if a2 < 1 then (pylonref03_Nth.j0 k a0 a1 a2 a3 bt380.1 true) else (if a2 > 5 then (pylonref03_Nth.j0 k a0 a1 a2 a3 bt380.1 true) else (if a3 < 0 then (pylonref03_Nth.j0 k a0 a1 a2 a3 bt380.1 true) else (pylonref03_Nth.j0 k a0 a1 a2 a3 bt380.1 (decide (a3 > 6)))))) else (some (0, 0, 0, bt380.2)))) = some (r1, r2, r3, r4) := h
 clear h
 replace H := Option.bind_eq_some_iff.mp H
 obtain ⟨⟨t380, t381⟩, A50, H⟩ := H
 replace H : (if t381 = 0 then (if a2 < 1 then (pylonref03_Nth.j0 k a0 a1 a2 a3 t380 true) else (if a2 > 5 then (pylonref03_Nth.j0 k a0 a1 a2 a3 t380 true) else (if a3 < 0 then (pylonref03_Nth.j0 k a0 a1 a2 a3 t380 true) else (pylonref03_Nth.j0 k a0 a1 a2 a3 t380 (decide (a3 > 6)))))) else (some (0, 0, 0, t381))) = some (r1, r2, r3, r4) := H
 have A5 := Aside0.mk A50
 clear A50
 by_cases c6 : t381 = 0
 ·rw [if_pos c6] at H
  have c6b0 : (t381 == 0) = true := beq_iff_eq.mpr c6
  have c6b1 : (t381 != 0) = false := bne_eq_false_iff_eq.mpr c6
  clear c6
  have HC7 := Aside0.mk H
  clear H
  go_enter Try.func49, Try.ntmps49
  go_upto_region 4 with (first | ((with_reducible refine gate_dst (N := 8) rfl ?_); refine box_event ?hg (N := 8) ?hd (cs := #[.int .i64 0, .int .i64 0, .int .i64 0]) (t := 24) ?hr ?_; (case hd => rfl); (case hg => rfl); (case hr => first | (go_simp; done) | (go_simp; rfl)); intro gb379 hg w8 hbox hb; have n0_ := Aside0.mk (below_step (by repeat (first | (with_reducible first | exact HB.out | apply below_alloc | apply pw_below_drewN | apply below_drew1) | exact HB.out)) hb); have n1_ := Aside0.mk (hbox); have n2_ := Aside0.mk ((by rw [hg]; exact (below_size (by repeat (first | (with_reducible first | exact HB.out | apply below_alloc | apply pw_below_drewN | apply below_drew1) | exact HB.out))) : w.heap.size ≤ gb379)); have n3_ := Aside0.mk ((by rw [hg]; exact (below_size (by repeat (first | (with_reducible first | exact HB.out | apply below_alloc | apply pw_below_drewN | apply below_drew1) | exact HB.out))) : w.heap.size ≤ gb379)); clear HB; have HB := n0_; have BK379 := n1_; have GW379 := n2_; have GE379 := n3_; clear n0_ n1_ n2_ n3_; clear hb hbox hg) | ((with_reducible refine gate_callee (f := 46) rfl ?_); refine goesL_ (some 20) rfl rfl Try.func46 (by kernel_rfl) rfl #[.int .i64 a0, .int .i64 a1] rfl (by (try simp only [List.map_toArray, List.map_cons, List.map_nil]); first | done | rfl | (simp only [List.length_drop, List.length_take]; rfl)) ?_; (with_reducible refine (pylonref03_Length.calls k a0 a1 t380 t381 _ A5.out).mono ?_); rintro e w' ⟨rfl, ⟨nd, rfl⟩⟩; refine ⟨_, rfl, ?_⟩))
  (try simp only [Act.put, List.setIfInBounds_toArray, List.set_cons_zero, List.set_cons_succ])
  go_cut [40] (fun v40 wc => ∃ (kq : Nat) (x40_6 : Bool), v40 = .bool x40_6 ∧ Aside0 (pylonref03_Nth.j0 kq a0 a1 a2 a3 t380 x40_6 = some (r1, r2, r3, r4)) ∧ Aside0 (kq ≤ k) ∧ Aside0 (wc.heap[gb379]? = some (.cells #[.int .i64 0, .int .i64 0, .int .i64 0] 24 (0, 0))) ∧ Aside0 (Below w.heap.size w wc))
  case first =>
   have H := HC7.out
   clear HC7
   by_cases c9 : a2 < 1
   ·rw [if_pos c9] at H
    have c9b0 : decide (a2 < 1) = true := decide_eq_true c9
    clear c9
    (first | rw [c9b0] | (simp only [i64_w, i32_w]; rw [c9b0]) | skip)
    have H' := Aside0.mk H
    clear H
    go_wp2
    go_meet
    case rel => exact ⟨_, (true), (by first | rfl | (simp; done) | (simp [*]; done)), H', ⟨by first | omega | exact Nat.le_refl _⟩, ⟨by (with_reducible repeat first|refine blk_drewN ?_ _|refine blk_drew ?_|refine blk_alloc ?_ _); exact BK379.out⟩, ⟨by repeat (first | (with_reducible first | exact HB.out | apply below_alloc | apply pw_below_drewN | apply below_drew1 | refine below_set ?_ GE379.out) | exact HB.out)⟩⟩
   ·rw [if_neg c9] at H
    have c9b0 : decide (a2 < 1) = false := decide_eq_false c9
    clear c9
    (first | rw [c9b0] | (simp only [i64_w, i32_w]; rw [c9b0]) | skip)
    by_cases c10 : a2 > 5
    ·rw [if_pos c10] at H
     have c10b0 : decide (5 < a2) = true := decide_eq_true c10
     clear c10
     have H' := Aside0.mk H
     clear H
     go_wp2
     go_meet
     case rel => exact ⟨_, (true), (by first | rfl | (simp; done) | (simp [*]; done)), H', ⟨by first | omega | exact Nat.le_refl _⟩, ⟨by (with_reducible repeat first|refine blk_drewN ?_ _|refine blk_drew ?_|refine blk_alloc ?_ _); exact BK379.out⟩, ⟨by repeat (first | (with_reducible first | exact HB.out | apply below_alloc | apply pw_below_drewN | apply below_drew1 | refine below_set ?_ GE379.out) | exact HB.out)⟩⟩
    ·rw [if_neg c10] at H
     have c10b0 : decide (5 < a2) = false := decide_eq_false c10
     clear c10
     by_cases c11 : a3 < 0
     ·rw [if_pos c11] at H
      have c11b0 : decide (a3 < 0) = true := decide_eq_true c11
      clear c11
      have H' := Aside0.mk H
      clear H
      go_wp2
      go_meet
      case rel => exact ⟨_, (true), (by first | rfl | (simp; done) | (simp [*]; done)), H', ⟨by first | omega | exact Nat.le_refl _⟩, ⟨by (with_reducible repeat first|refine blk_drewN ?_ _|refine blk_drew ?_|refine blk_alloc ?_ _); exact BK379.out⟩, ⟨by repeat (first | (with_reducible first | exact HB.out | apply below_alloc | apply pw_below_drewN | apply below_drew1 | refine below_set ?_ GE379.out) | exact HB.out)⟩⟩
     ·rw [if_neg c11] at H
      have c11b0 : decide (a3 < 0) = false := decide_eq_false c11
      clear c11
      have H' := Aside0.mk H
      clear H
      go_wp2
      go_meet
      case rel => exact ⟨_, (decide (a3 > 6)), (by first | rfl | (simp; done) | (simp [*]; done)), H', ⟨by first | omega | exact Nat.le_refl _⟩, ⟨by (with_reducible repeat first|refine blk_drewN ?_ _|refine blk_drew ?_|refine blk_alloc ?_ _); exact BK379.out⟩, ⟨by repeat (first | (with_reducible first | exact HB.out | apply below_alloc | apply pw_below_drewN | apply below_drew1 | refine below_set ?_ GE379.out) | exact HB.out)⟩⟩
  case rest =>
   clear HC7
   try clear c1
   try clear p2
   try clear c4
   try clear c6
   try clear c6b0
   try clear c6b1
   try clear c9
   try clear c9b0
   try clear c10
   try clear c10b0
   try clear c11
   try clear c11b0
   obtain ⟨kq, x40_6, rfl, HA, HJ6, BK379, HB⟩ := hcut
   cases kq with
   | zero => exact absurd HA.out (by simp [pylonref03_Nth.j0])
   | succ kj6 =>
    have H := HA.out
    clear HA
    simp only [pylonref03_Nth.j0] at H
    by_cases c12 : x40_6 = true
    ·subst c12
     have H1 : (some (0, 0, 0, 8)) = some (r1, r2, r3, r4) := by rw [if_pos rfl] at H; exact H
     clear H
     have H := H1
     clear H1
     simp only [Option.some.injEq, Prod.mk.injEq] at H
     obtain ⟨rfl, rfl, rfl, rfl⟩ := H
     have hcz13_0 : wc.cell? ⟨gb379, 0, none⟩ = some (.int .i64 0) := (blk_cell BK379.out 0).trans rfl
     have hcz13_1 : wc.cell? ⟨gb379, 1, none⟩ = some (.int .i64 0) := (blk_cell BK379.out 1).trans rfl
     have hcz13_2 : wc.cell? ⟨gb379, 2, none⟩ = some (.int .i64 0) := (blk_cell BK379.out 2).trans rfl
     have hfz13_0 := blk_frozen BK379.out 0
     have hfz13_1 := blk_frozen BK379.out 1
     have hfz13_2 := blk_frozen BK379.out 2
     go_wp2
     refine bodyPost_ret (results_ct rfl _ _ gb379 24 #[.int .i64 0, .int .i64 0, .int .i64 0] (0, 0) _ rfl (by (with_reducible repeat first|refine blk_drewN ?_ _|refine blk_drew ?_|refine blk_alloc ?_ _); refine blk_put (cs := #[.int .i64 0, .int .i64 0, .int .i64 0]) ?_ 2 _ rfl; (with_reducible repeat first|refine blk_drewN ?_ _|refine blk_drew ?_|refine blk_alloc ?_ _); refine blk_put (cs := #[.int .i64 0, .int .i64 0, .int .i64 0]) ?_ 1 _ rfl; (with_reducible repeat first|refine blk_drewN ?_ _|refine blk_drew ?_|refine blk_alloc ?_ _); refine blk_put (cs := #[.int .i64 0, .int .i64 0, .int .i64 0]) ?_ 0 _ rfl; (with_reducible repeat first|refine blk_drewN ?_ _|refine blk_drew ?_|refine blk_alloc ?_ _); exact BK379.out) Try.underlying24 rfl (by kernel_rfl)) rfl ?_
     exact ⟨by first | rfl | (simp [errW_none, errW_some] <;> rfl) | (simp [*, errW_none, errW_some] <;> rfl), by repeat (first | (with_reducible first | exact HB.out | apply below_alloc | apply pw_below_drewN | apply below_drew1 | refine below_set ?_ GE379.out) | exact HB.out)⟩
    ·replace c12 := Bool.eq_false_iff.mpr c12
     subst c12
     have H1 : (pylonref03_Nth.l0 kj6 a0 a1 a2 a3 t380 0 0 1) = some (r1, r2, r3, r4) := by rw [if_neg (show ¬ (false = true) by decide)] at H; exact H
     clear H
     have H := H1
     clear H1
     have H' := Aside0.mk H
     clear H
     go_wp2
     go_loopg [12, 13, 14] kj6 (fun kq v12 v13 v14 w' => ∃ (x12_2 : Int) (x13_2 : Int) (x14_2 : Int), v12 = .int .i64 x12_2 ∧ v13 = .int .i64 x13_2 ∧ v14 = .int .i64 x14_2 ∧ Aside0 (pylonref03_Nth.l0 kq a0 a1 a2 a3 t380 x12_2 x13_2 x14_2 = some (r1, r2, r3, r4)) ∧ Aside0 (kq ≤ kj6) ∧ Aside0 (w'.heap[gb379]? = some (.cells #[.int .i64 0, .int .i64 0, .int .i64 0] 24 (0, 0))) ∧ Aside0 (Below w.heap.size w w'))
     case atStart => exact ⟨(0), (0), (1), (by first | rfl | (simp; done) | (simp [*]; done)), (by first | rfl | (simp; done) | (simp [*]; done)), (by first | rfl | (simp; done) | (simp [*]; done)), H', ⟨Nat.le_refl _⟩, ⟨by (with_reducible repeat first|refine blk_drewN ?_ _|refine blk_drew ?_|refine blk_alloc ?_ _); exact BK379.out⟩, ⟨by repeat (first | (with_reducible first | exact HB.out | apply below_alloc | apply pw_below_drewN | apply below_drew1 | refine below_set ?_ GE379.out) | exact HB.out)⟩⟩
     case round =>
      clear H'
      try clear c1
      try clear p2
      try clear c4
      try clear c6
      try clear c6b0
      try clear c6b1
      try clear c9
      try clear c9b0
      try clear c10
      try clear c10b0
      try clear c11
      try clear c11b0
      try clear c12
      try clear hcz13_0
      try clear hcz13_1
      try clear hcz13_2
      try clear hfz13_0
      try clear hfz13_1
      try clear hfz13_2
      try clear p2
      obtain ⟨x12_2, x13_2, x14_2, rfl, rfl, rfl, HA, HK2, BK379, HB⟩ := hrel
      cases gk with
      | zero => exact absurd HA.out (by simp [pylonref03_Nth.l0])
      | succ k2 =>
       have H := HA.out
       clear HA
       simp only [pylonref03_Nth.l0] at H
       by_cases c14 : x14_2 ≤ t380
       ·rw [if_pos c14] at H
        have c14b0 : decide (x14_2 ≤ t380) = true := decide_eq_true c14
        clear c14
        replace H := Option.bind_eq_some_iff.mp H
        obtain ⟨⟨t382, t383⟩, A150, H⟩ := H
        replace H : (if t382 = a3 then (if (wrap64 (x12_2 + 1)) = a2 then (some (a0, a1, x14_2, 0)) else (pylonref03_Nth.l0 k2 a0 a1 a2 a3 t380 (wrap64 (x12_2 + 1)) x14_2 (wrap64 (x14_2 + 1)))) else (pylonref03_Nth.l0 k2 a0 a1 a2 a3 t380 x12_2 x13_2 (wrap64 (x14_2 + 1)))) = some (r1, r2, r3, r4) := H
        have A15 := Aside0.mk A150
        clear A150
        by_cases c16 : t382 = a3
        ·rw [if_pos c16] at H
         have c16b0 : (t382 == a3) = true := beq_iff_eq.mpr c16
         have c16b1 : (t382 != a3) = false := bne_eq_false_iff_eq.mpr c16
         clear c16
         by_cases c17 : (wrap64 (x12_2 + 1)) = a2
         ·rw [if_pos c17] at H
          have c17b0 : ((wrap64 (x12_2 + 1)) == a2) = true := beq_iff_eq.mpr c17
          have c17b1 : ((wrap64 (x12_2 + 1)) != a2) = false := bne_eq_false_iff_eq.mpr c17
          clear c17
          simp only [Option.some.injEq, Prod.mk.injEq] at H
          obtain ⟨rfl, rfl, rfl, rfl⟩ := H
          go_wp2_with (first | ((with_reducible refine gate_callee (f := 15) rfl ?_); refine goesL_ (some 52) rfl rfl Try.func15 (by kernel_rfl) rfl #[.agg #[.int .i64 a0, .int .i64 a1, .int .i64 x14_2]] rfl (by (try simp only [List.map_toArray, List.map_cons, List.map_nil]); first | done | rfl | (simp only [List.length_drop, List.length_take]; rfl)) ?_; (with_reducible refine (pylonref03_Weekday.calls k2 a0 a1 x14_2 t382 t383 _ A15.out).mono ?_); rintro e w18 ⟨rfl, hb⟩; refine ⟨_, rfl, ?_⟩; have n0_ := Aside0.mk (blk_below (g := gb379) (o := .cells #[.int .i64 0, .int .i64 0, .int .i64 0] 24 (0, 0)) (by (with_reducible repeat first|refine blk_drewN ?_ _|refine blk_drew ?_|refine blk_alloc ?_ _); exact BK379.out) hb); have n1_ := Aside0.mk (below_step (by repeat (first | (with_reducible first | exact HB.out | apply below_alloc | apply pw_below_drewN | apply below_drew1 | refine below_set ?_ GE379.out) | exact HB.out)) hb); clear BK379; clear HB; have BK379 := n0_; have HB := n1_; clear n0_ n1_; (try clear hb); (try clear hb2); (try clear hk); (try clear hi); have hcz19_0 : w18.cell? ⟨gb379, 0, none⟩ = some (.int .i64 0) := (blk_cell BK379.out 0).trans rfl; have hcz19_1 : w18.cell? ⟨gb379, 1, none⟩ = some (.int .i64 0) := (blk_cell BK379.out 1).trans rfl; have hcz19_2 : w18.cell? ⟨gb379, 2, none⟩ = some (.int .i64 0) := (blk_cell BK379.out 2).trans rfl; have hfz19_0 := blk_frozen BK379.out 0; have hfz19_1 := blk_frozen BK379.out 1; have hfz19_2 := blk_frozen BK379.out 2))
          refine bodyPost_ret (results_ct rfl _ _ gb379 24 #[.int .i64 a0, .int .i64 a1, .int .i64 x14_2] (0, 0) _ rfl (by (with_reducible repeat first|refine blk_drewN ?_ _|refine blk_drew ?_|refine blk_alloc ?_ _); refine blk_put (cs := #[.int .i64 a0, .int .i64 a1, .int .i64 0]) ?_ 2 _ rfl; (with_reducible repeat first|refine blk_drewN ?_ _|refine blk_drew ?_|refine blk_alloc ?_ _); refine blk_put (cs := #[.int .i64 a0, .int .i64 0, .int .i64 0]) ?_ 1 _ rfl; (with_reducible repeat first|refine blk_drewN ?_ _|refine blk_drew ?_|refine blk_alloc ?_ _); refine blk_put (cs := #[.int .i64 0, .int .i64 0, .int .i64 0]) ?_ 0 _ rfl; (with_reducible repeat first|refine blk_drewN ?_ _|refine blk_drew ?_|refine blk_alloc ?_ _); exact BK379.out) Try.underlying24 rfl (by kernel_rfl)) rfl ?_
          exact ⟨by first | rfl | (simp [errW_none, errW_some] <;> rfl) | (simp [*, errW_none, errW_some] <;> rfl), by repeat (first | (with_reducible first | exact HB.out | apply below_alloc | apply pw_below_drewN | apply below_drew1 | refine below_set ?_ GE379.out) | exact HB.out)⟩
         ·rw [if_neg c17] at H
          have c17b0 : ((wrap64 (x12_2 + 1)) == a2) = false := beq_eq_false_iff_ne.mpr c17
          have c17b1 : ((wrap64 (x12_2 + 1)) != a2) = true := bne_iff_ne.mpr c17
          have H' := Aside0.mk H
          clear H
          go_wp2_with (first | ((with_reducible refine gate_callee (f := 15) rfl ?_); refine goesL_ (some 52) rfl rfl Try.func15 (by kernel_rfl) rfl #[.agg #[.int .i64 a0, .int .i64 a1, .int .i64 x14_2]] rfl (by (try simp only [List.map_toArray, List.map_cons, List.map_nil]); first | done | rfl | (simp only [List.length_drop, List.length_take]; rfl)) ?_; (with_reducible refine (pylonref03_Weekday.calls k2 a0 a1 x14_2 t382 t383 _ A15.out).mono ?_); rintro e w20 ⟨rfl, hb⟩; refine ⟨_, rfl, ?_⟩; have n0_ := Aside0.mk (blk_below (g := gb379) (o := .cells #[.int .i64 0, .int .i64 0, .int .i64 0] 24 (0, 0)) (by (with_reducible repeat first|refine blk_drewN ?_ _|refine blk_drew ?_|refine blk_alloc ?_ _); exact BK379.out) hb); have n1_ := Aside0.mk (below_step (by repeat (first | (with_reducible first | exact HB.out | apply below_alloc | apply pw_below_drewN | apply below_drew1 | refine below_set ?_ GE379.out) | exact HB.out)) hb); clear BK379; clear HB; have BK379 := n0_; have HB := n1_; clear n0_ n1_; (try clear hb); (try clear hb2); (try clear hk); (try clear hi)))
          go_roundg k2
          case measure => have := HJ6.out; have := HK2.out; omega
          case rel => exact ⟨(wrap64 (x12_2 + 1)), (x14_2), (wrap64 (x14_2 + 1)), (by first | rfl | (simp; done) | (simp [*]; done)), (by first | rfl | (simp; done) | (simp [*]; done)), (by first | rfl | (simp; done) | (simp [*]; done)), H', ⟨by have := HJ6.out; have := HK2.out; omega⟩, ⟨by (with_reducible repeat first|refine blk_drewN ?_ _|refine blk_drew ?_|refine blk_alloc ?_ _); exact BK379.out⟩, ⟨by repeat (first | (with_reducible first | exact HB.out | apply below_alloc | apply pw_below_drewN | apply below_drew1 | refine below_set ?_ GE379.out) | exact HB.out)⟩⟩
        ·rw [if_neg c16] at H
         have c16b0 : (t382 == a3) = false := beq_eq_false_iff_ne.mpr c16
         have c16b1 : (t382 != a3) = true := bne_iff_ne.mpr c16
         have H' := Aside0.mk H
         clear H
         go_wp2_with (first | ((with_reducible refine gate_callee (f := 15) rfl ?_); refine goesL_ (some 52) rfl rfl Try.func15 (by kernel_rfl) rfl #[.agg #[.int .i64 a0, .int .i64 a1, .int .i64 x14_2]] rfl (by (try simp only [List.map_toArray, List.map_cons, List.map_nil]); first | done | rfl | (simp only [List.length_drop, List.length_take]; rfl)) ?_; (with_reducible refine (pylonref03_Weekday.calls k2 a0 a1 x14_2 t382 t383 _ A15.out).mono ?_); rintro e w21 ⟨rfl, hb⟩; refine ⟨_, rfl, ?_⟩; have n0_ := Aside0.mk (blk_below (g := gb379) (o := .cells #[.int .i64 0, .int .i64 0, .int .i64 0] 24 (0, 0)) (by (with_reducible repeat first|refine blk_drewN ?_ _|refine blk_drew ?_|refine blk_alloc ?_ _); exact BK379.out) hb); have n1_ := Aside0.mk (below_step (by repeat (first | (with_reducible first | exact HB.out | apply below_alloc | apply pw_below_drewN | apply below_drew1 | refine below_set ?_ GE379.out) | exact HB.out)) hb); clear BK379; clear HB; have BK379 := n0_; have HB := n1_; clear n0_ n1_; (try clear hb); (try clear hb2); (try clear hk); (try clear hi)))
         go_roundg k2
         case measure => have := HJ6.out; have := HK2.out; omega
         case rel => exact ⟨(x12_2), (x13_2), (wrap64 (x14_2 + 1)), (by first | rfl | (simp; done) | (simp [*]; done)), (by first | rfl | (simp; done) | (simp [*]; done)), (by first | rfl | (simp; done) | (simp [*]; done)), H', ⟨by have := HJ6.out; have := HK2.out; omega⟩, ⟨by (with_reducible repeat first|refine blk_drewN ?_ _|refine blk_drew ?_|refine blk_alloc ?_ _); exact BK379.out⟩, ⟨by repeat (first | (with_reducible first | exact HB.out | apply below_alloc | apply pw_below_drewN | apply below_drew1 | refine below_set ?_ GE379.out) | exact HB.out)⟩⟩
       ·rw [if_neg c14] at H
        have c14b0 : decide (x14_2 ≤ t380) = false := decide_eq_false c14
        clear c14
        simp only [Option.some.injEq, Prod.mk.injEq] at H
        obtain ⟨rfl, rfl, rfl, rfl⟩ := H
        have hcz22_0 : wr.cell? ⟨gb379, 0, none⟩ = some (.int .i64 0) := (blk_cell BK379.out 0).trans rfl
        have hcz22_1 : wr.cell? ⟨gb379, 1, none⟩ = some (.int .i64 0) := (blk_cell BK379.out 1).trans rfl
        have hcz22_2 : wr.cell? ⟨gb379, 2, none⟩ = some (.int .i64 0) := (blk_cell BK379.out 2).trans rfl
        have hfz22_0 := blk_frozen BK379.out 0
        have hfz22_1 := blk_frozen BK379.out 1
        have hfz22_2 := blk_frozen BK379.out 2
        go_wp2
        refine bodyPost_ret (results_ct rfl _ _ gb379 24 #[.int .i64 a0, .int .i64 a1, .int .i64 x13_2] (0, 0) _ rfl (by (with_reducible repeat first|refine blk_drewN ?_ _|refine blk_drew ?_|refine blk_alloc ?_ _); refine blk_put (cs := #[.int .i64 a0, .int .i64 a1, .int .i64 0]) ?_ 2 _ rfl; (with_reducible repeat first|refine blk_drewN ?_ _|refine blk_drew ?_|refine blk_alloc ?_ _); refine blk_put (cs := #[.int .i64 a0, .int .i64 0, .int .i64 0]) ?_ 1 _ rfl; (with_reducible repeat first|refine blk_drewN ?_ _|refine blk_drew ?_|refine blk_alloc ?_ _); refine blk_put (cs := #[.int .i64 0, .int .i64 0, .int .i64 0]) ?_ 0 _ rfl; (with_reducible repeat first|refine blk_drewN ?_ _|refine blk_drew ?_|refine blk_alloc ?_ _); exact BK379.out) Try.underlying24 rfl (by kernel_rfl)) rfl ?_
        exact ⟨by first | rfl | (simp [errW_none, errW_some] <;> rfl) | (simp [*, errW_none, errW_some] <;> rfl), by repeat (first | (with_reducible first | exact HB.out | apply below_alloc | apply pw_below_drewN | apply below_drew1 | refine below_set ?_ GE379.out) | exact HB.out)⟩
 ·rw [if_neg c6] at H
  have c6b0 : (t381 == 0) = false := beq_eq_false_iff_ne.mpr c6
  have c6b1 : (t381 != 0) = true := bne_iff_ne.mpr c6
  simp only [Option.some.injEq, Prod.mk.injEq] at H
  obtain ⟨rfl, rfl, rfl, rfl⟩ := H
  go_enter Try.func49, Try.ntmps49
  go_wp2_with (first | ((with_reducible refine gate_dst (N := 8) rfl ?_); refine box_event ?hg (N := 8) ?hd (cs := #[.int .i64 0, .int .i64 0, .int .i64 0]) (t := 24) ?hr ?_; (case hd => rfl); (case hg => rfl); (case hr => first | (go_simp; done) | (go_simp; rfl)); intro gb379 hg w23 hbox hb; have n0_ := Aside0.mk (below_step (by repeat (first | (with_reducible first | exact HB.out | apply below_alloc | apply pw_below_drewN | apply below_drew1) | exact HB.out)) hb); have n1_ := Aside0.mk (hbox); have n2_ := Aside0.mk ((by rw [hg]; exact (below_size (by repeat (first | (with_reducible first | exact HB.out | apply below_alloc | apply pw_below_drewN | apply below_drew1) | exact HB.out))) : w.heap.size ≤ gb379)); have n3_ := Aside0.mk ((by rw [hg]; exact (below_size (by repeat (first | (with_reducible first | exact HB.out | apply below_alloc | apply pw_below_drewN | apply below_drew1) | exact HB.out))) : w.heap.size ≤ gb379)); clear HB; have HB := n0_; have BK379 := n1_; have GW379 := n2_; have GE379 := n3_; clear n0_ n1_ n2_ n3_; clear hb hbox hg) | ((with_reducible refine gate_callee (f := 46) rfl ?_); refine goesL_ (some 20) rfl rfl Try.func46 (by kernel_rfl) rfl #[.int .i64 a0, .int .i64 a1] rfl (by (try simp only [List.map_toArray, List.map_cons, List.map_nil]); first | done | rfl | (simp only [List.length_drop, List.length_take]; rfl)) ?_; (with_reducible refine (pylonref03_Length.calls k a0 a1 t380 t381 _ A5.out).mono ?_); rintro e w' ⟨rfl, ⟨nd, rfl⟩⟩; refine ⟨_, rfl, ?_⟩; (try (rw [drewN_self w23]; generalize hq_ : World.drewN w23 _ = w23; have n0_ : Aside0 (w23.heap[gb379]? = some (.cells #[.int .i64 0, .int .i64 0, .int .i64 0] 24 (0, 0))) := ⟨by rw [← hq_]; exact (by (with_reducible repeat first|refine blk_drewN ?_ _|refine blk_drew ?_|refine blk_alloc ?_ _); exact BK379.out)⟩; have n1_ : Aside0 (Below w.heap.size w w23) := ⟨by rw [← hq_]; exact (by repeat (first | (with_reducible first | exact HB.out | apply below_alloc | apply pw_below_drewN | apply below_drew1 | refine below_set ?_ GE379.out) | exact HB.out))⟩; clear BK379 HB hq_; have BK379 := n0_; have HB := n1_; clear n0_ n1_)); have hcz24_0 : w23.cell? ⟨gb379, 0, none⟩ = some (.int .i64 0) := (blk_cell BK379.out 0).trans rfl; have hcz24_1 : w23.cell? ⟨gb379, 1, none⟩ = some (.int .i64 0) := (blk_cell BK379.out 1).trans rfl; have hcz24_2 : w23.cell? ⟨gb379, 2, none⟩ = some (.int .i64 0) := (blk_cell BK379.out 2).trans rfl; have hfz24_0 := blk_frozen BK379.out 0; have hfz24_1 := blk_frozen BK379.out 1; have hfz24_2 := blk_frozen BK379.out 2))
  refine bodyPost_ret (results_ct rfl _ _ gb379 24 #[.int .i64 0, .int .i64 0, .int .i64 0] (0, 0) _ rfl (by (with_reducible repeat first|refine blk_drewN ?_ _|refine blk_drew ?_|refine blk_alloc ?_ _); refine blk_put (cs := #[.int .i64 0, .int .i64 0, .int .i64 0]) ?_ 2 _ rfl; (with_reducible repeat first|refine blk_drewN ?_ _|refine blk_drew ?_|refine blk_alloc ?_ _); refine blk_put (cs := #[.int .i64 0, .int .i64 0, .int .i64 0]) ?_ 1 _ rfl; (with_reducible repeat first|refine blk_drewN ?_ _|refine blk_drew ?_|refine blk_alloc ?_ _); refine blk_put (cs := #[.int .i64 0, .int .i64 0, .int .i64 0]) ?_ 0 _ rfl; (with_reducible repeat first|refine blk_drewN ?_ _|refine blk_drew ?_|refine blk_alloc ?_ _); exact BK379.out) Try.underlying24 rfl (by kernel_rfl)) rfl ?_
  exact ⟨by first | rfl | (simp [errW_none, errW_some] <;> rfl) | (simp [*, errW_none, errW_some] <;> rfl), by repeat (first | (with_reducible first | exact HB.out | apply below_alloc | apply pw_below_drewN | apply below_drew1 | refine below_set ?_ GE379.out) | exact HB.out)⟩

end Go.Proofs.Ytipldjcncfoffaa.PX
