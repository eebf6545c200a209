/- Functions of the program as plain Lean functions, each with a proof that the call in the machine answers just what the plain function says; condition: the plain function answers at all. -/
import Derived.Test.YtddkckpfmleffaaPXx0
import Derived.Test.YtddkckpfmleffaaPXx1
import Derived.Test.YtddkckpfmleffaaPXx21
namespace Go.Proofs.Ytddkckpfmleffaa.PX
open Go.RowKit Go.Proofs.YtddkckpfmleffaaW.PrintWords Go.Proofs.YtddkckpfmleffaaW.PrintLast Go.Proofs.YtddkckpfmleffaaW.PrintMore
attribute [local go_sem] max2_int min2_int max_two min_two max_three min_three max_four min_four   -- for this text's walks alone
set_option linter.unusedVariables false
set_option linter.unusedSimpArgs false

attribute [local go_sem high] eqA33
/-! ### period_Next: function 37 -/
def period_Next.f (k : Nat) (a0_0 : Int) (a0_1 : Int) (a0_2 : Int) (a1 : Int) : Option (Int × Int × Int × Int) := (period_place.f k a0_0 a0_1 a0_2 a1).bind fun bt647 => (if bt647.2 = 0 then ((period_month.f (wrap64 (bt647.1 + 1)) a1).bind fun bt649 => (some (bt649.1, bt649.2.1, bt649.2.2.1, bt649.2.2.2))) else (some (0, 0, 0, bt647.2)))
theorem period_Next.mono : ∀ a0 a1 a2 a3 k, LeO (period_Next.f k a0 a1 a2 a3) (period_Next.f (k + 1) a0 a1 a2 a3) := by
 intro a0 a1 a2 a3 k
 unfold period_Next.f
 repeat' first
   | (with_reducible exact period_place.mono _ _ _ _ _)
   | (with_reducible exact LeO.refl _)
   | (with_reducible exact LeO.none _)
   | (with_reducible refine LeO.ite ?_ ?_)
   | (with_reducible refine LeO.bind ?_ (fun _ => ?_))
   | exact period_place.mono _ _ _ _ _
   | exact LeO.none _
   | refine LeO.ite ?_ ?_
   | refine LeO.bind ?_ (fun _ => ?_)
set_option maxHeartbeats 8000000 in
set_option maxRecDepth 100000 in
theorem period_Next.calls (k : Nat) (a0_0 : Int) (a0_1 : Int) (a0_2 : Int) (a1 : Int) (r1 : Int) (r2 : Int) (r3 : Int) (r4 : Int) (w : World) (h : period_Next.f k a0_0 a0_1 a0_2 a1 = some (r1, r2, r3, r4)) :
  Calls Try.prog 37 #[.agg #[.int .i64 a0_0, .int .i64 a0_1, .int .i64 a0_2], .int .i64 a1] w fun e w' => e = .returned (.tuple #[.agg #[.int .i64 r1, .int .i64 r2, .int .i64 r3], .int .i64 r4]) ∧ Below w.heap.size w w' := by
 have hu33 := Try.underlying33
 have HB := AX (Below.refl w.heap.size w)
 have H : ((period_place.f k a0_0 a0_1 a0_2 a1).bind fun bt647 => (if bt647.2 = 0 then ((period_month.f (wrap64 (bt647.1 + 1)) a1).bind fun bt649 => (some (bt649.1, bt649.2.1, bt649.2.2.1, bt649.2.2.2))) else (some (0, 0, 0, bt647.2)))) = some (r1, r2, r3, r4) := h
 clear h
 replace H := Option.bind_eq_some_iff.mp H
 obtain ⟨⟨t647, t648⟩, A30, H⟩ := H
 replace H : (if t648 = 0 then ((period_month.f (wrap64 (t647 + 1)) a1).bind fun bt649 => (some (bt649.1, bt649.2.1, bt649.2.2.1, bt649.2.2.2))) else (some (0, 0, 0, t648))) = some (r1, r2, r3, r4) := H
 have A3 := AX A30
 clear A30
 by_cases c4 : t648 = 0
 ·rw [if_pos c4] at H
  have c4b0 : (t648 == 0) = true := beq_iff_eq.mpr c4
  have c4b1 : (t648 != 0) = false := bne_eq_false_iff_eq.mpr c4
  clear c4
  replace H := Option.bind_eq_some_iff.mp H
  obtain ⟨⟨t649, t650, t651, t652⟩, A50, H⟩ := H
  replace H : (some (t649, t650, t651, t652)) = some (r1, r2, r3, r4) := H
  have A5 := AX A50
  clear A50
  simp only [Option.some.injEq, Prod.mk.injEq] at H
  obtain ⟨rfl, rfl, rfl, rfl⟩ := H
  go_enter Try.func37, Try.ntmps37
  go_wp2_with (first | ((with_reducible refine gate_dst (N := 2) rfl ?_); refine box_event ?hg (N := 2) ?hd (cs := #[.int .i64 a0_0, .int .i64 a0_1, .int .i64 a0_2]) (t := 33) ?hr ?_; (case hd => rfl); (case hg => rfl); (case hr => first | (go_simp; done) | (go_simp; rfl)); intro gb645 hg w6 hbox hb; have n0_ := AX (below_step bw hb); have n1_ := AX (hbox); have n2_ := AX ((by rw [hg]; exact (below_size bw) : w.heap.size ≤ gb645)); have n3_ := n2_; clear HB; have HB := n0_; have BK645 := n1_; have GW645 := n2_; have GE645 := n3_; clear n0_ n1_ n2_ n3_; clear hb hbox hg) | ((with_reducible refine gate_dst (N := 4) rfl ?_); refine box_event ?hg (N := 4) ?hd (cs := #[.int .i64 0, .int .i64 0, .int .i64 0]) (t := 33) ?hr ?_; (case hd => rfl); (case hg => rfl); (case hr => first | (go_simp; done) | (go_simp; rfl)); intro gb646 hg w7 hbox hb; have n0_ := AX (bkb BK645 hb); have n1_ := AX (below_step bw hb); have n2_ := AX (hbox); have n3_ := AX ((by rw [hg]; exact (below_size bw) : w.heap.size ≤ gb646)); have n4_ := n3_; have n5_ := AX ((by rw [hg]; exact Nat.ne_of_lt (blk_lt (bkn BK645)) : gb645 ≠ gb646)); have n6_ := AX ((by rw [hg]; exact Nat.ne_of_gt (blk_lt (bkn BK645)) : gb646 ≠ gb645)); clear BK645; clear HB; have BK645 := n0_; have HB := n1_; have BK646 := n2_; have GW646 := n3_; have GE646 := n4_; have NB645_646 := n5_; have NB646_645 := n6_; clear n0_ n1_ n2_ n3_ n4_ n5_ n6_; clear hb hbox hg; have hnb8 := NB645_646.out; have hnc8 := NB646_645.out; obtain ⟨hcz9_0, hcz9_1, hcz9_2⟩ := blkC3 (w := w7) BK645.out; obtain ⟨hfz9_0, hfz9_1, hfz9_2⟩ := blkF3 BK645.out) | ((with_reducible refine gate_callee (f := 59) rfl ?_); refine goesL_ (some 11) rfl rfl Try.func59 (by kernel_rfl) rfl #[.agg #[.int .i64 a0_0, .int .i64 a0_1, .int .i64 a0_2], .int .i64 a1] rfl (by (try simp only [List.map_toArray, List.map_cons, List.map_nil]); first | done | rfl | (simp only [List.length_drop, List.length_take]; rfl)) ?_; (with_reducible refine (period_place.calls k a0_0 a0_1 a0_2 a1 t647 t648 _ A3.out).mono ?_); rintro e w10 ⟨rfl, hb⟩; refine ⟨_, rfl, ?_⟩; have n0_ := AX (bkb BK645 hb); have n1_ := AX (bkb BK646 hb); have n2_ := AX (below_step bw hb); clear BK645; clear BK646; clear HB; have BK645 := n0_; have BK646 := n1_; have HB := n2_; clear n0_ n1_ n2_; (try clear hb)) | ((with_reducible refine gate_callee (f := 60) rfl ?_); refine goesL_ (some 21) rfl rfl Try.func60 (by kernel_rfl) rfl #[.int .i64 (wrap64 (t647 + 1)), .int .i64 a1] rfl (by (try simp only [List.map_toArray, List.map_cons, List.map_nil]); first | done | rfl | (simp only [List.length_drop, List.length_take]; rfl)) ?_; (with_reducible refine (period_month.calls (wrap64 (t647 + 1)) a1 t649 t650 t651 t652 _ A5.out).mono ?_); rintro e w11 ⟨rfl, hb⟩; refine ⟨_, rfl, ?_⟩; have n0_ := AX (bkb BK645 hb); have n1_ := AX (bkb BK646 hb); have n2_ := AX (below_step bw hb); clear BK645; clear BK646; clear HB; have BK645 := n0_; have BK646 := n1_; have HB := n2_; clear n0_ n1_ n2_; (try clear hb); obtain ⟨hcz12_0, hcz12_1, hcz12_2⟩ := blkC3 (w := w11) BK646.out; obtain ⟨hfz12_0, hfz12_1, hfz12_2⟩ := blkF3 BK646.out))
  refine bodyPost_ret (results_ct rfl _ _ gb646 33 #[.int .i64 t649, .int .i64 t650, .int .i64 t651] (0, 0) _ rfl (by (with_reducible repeat first|refine blk_drewN ?_ _|refine blk_drew ?_|refine blk_alloc ?_ _); refine blk_put (cs := #[.int .i64 t649, .int .i64 t650, .int .i64 0]) ?_ 2 _ rfl; (with_reducible repeat first|refine blk_drewN ?_ _|refine blk_drew ?_|refine blk_alloc ?_ _); refine blk_put (cs := #[.int .i64 t649, .int .i64 0, .int .i64 0]) ?_ 1 _ rfl; (with_reducible repeat first|refine blk_drewN ?_ _|refine blk_drew ?_|refine blk_alloc ?_ _); refine blk_put (cs := #[.int .i64 0, .int .i64 0, .int .i64 0]) ?_ 0 _ rfl; (with_reducible repeat first|refine blk_drewN ?_ _|refine blk_drew ?_|refine blk_alloc ?_ _); exact BK646.out) Try.underlying33 rfl (by kernel_rfl)) rfl ?_
  exact ⟨by first | rfl | (simp [errW_none, errW_some] <;> rfl) | (simp [*, errW_none, errW_some] <;> rfl), bw⟩
 ·rw [if_neg c4] at H
  have c4b0 : (t648 == 0) = false := beq_eq_false_iff_ne.mpr c4
  have c4b1 : (t648 != 0) = true := bne_iff_ne.mpr c4
  simp only [Option.some.injEq, Prod.mk.injEq] at H
  obtain ⟨rfl, rfl, rfl, rfl⟩ := H
  go_enter Try.func37, Try.ntmps37
  go_wp2_with (first | ((with_reducible refine gate_dst (N := 2) rfl ?_); refine box_event ?hg (N := 2) ?hd (cs := #[.int .i64 a0_0, .int .i64 a0_1, .int .i64 a0_2]) (t := 33) ?hr ?_; (case hd => rfl); (case hg => rfl); (case hr => first | (go_simp; done) | (go_simp; rfl)); intro gb645 hg w13 hbox hb; have n0_ := AX (below_step bw hb); have n1_ := AX (hbox); have n2_ := AX ((by rw [hg]; exact (below_size bw) : w.heap.size ≤ gb645)); have n3_ := n2_; clear HB; have HB := n0_; have BK645 := n1_; have GW645 := n2_; have GE645 := n3_; clear n0_ n1_ n2_ n3_; clear hb hbox hg) | ((with_reducible refine gate_dst (N := 4) rfl ?_); refine box_event ?hg (N := 4) ?hd (cs := #[.int .i64 0, .int .i64 0, .int .i64 0]) (t := 33) ?hr ?_; (case hd => rfl); (case hg => rfl); (case hr => first | (go_simp; done) | (go_simp; rfl)); intro gb646 hg w14 hbox hb; have n0_ := AX (bkb BK645 hb); have n1_ := AX (below_step bw hb); have n2_ := AX (hbox); have n3_ := AX ((by rw [hg]; exact (below_size bw) : w.heap.size ≤ gb646)); have n4_ := n3_; have n5_ := AX ((by rw [hg]; exact Nat.ne_of_lt (blk_lt (bkn BK645)) : gb645 ≠ gb646)); have n6_ := AX ((by rw [hg]; exact Nat.ne_of_gt (blk_lt (bkn BK645)) : gb646 ≠ gb645)); clear BK645; clear HB; have BK645 := n0_; have HB := n1_; have BK646 := n2_; have GW646 := n3_; have GE646 := n4_; have NB645_646 := n5_; have NB646_645 := n6_; clear n0_ n1_ n2_ n3_ n4_ n5_ n6_; clear hb hbox hg; have hnb15 := NB645_646.out; have hnc15 := NB646_645.out; obtain ⟨hcz16_0, hcz16_1, hcz16_2⟩ := blkC3 (w := w14) BK645.out; obtain ⟨hfz16_0, hfz16_1, hfz16_2⟩ := blkF3 BK645.out) | ((with_reducible refine gate_callee (f := 59) rfl ?_); refine goesL_ (some 11) rfl rfl Try.func59 (by kernel_rfl) rfl #[.agg #[.int .i64 a0_0, .int .i64 a0_1, .int .i64 a0_2], .int .i64 a1] rfl (by (try simp only [List.map_toArray, List.map_cons, List.map_nil]); first | done | rfl | (simp only [List.length_drop, List.length_take]; rfl)) ?_; (with_reducible refine (period_place.calls k a0_0 a0_1 a0_2 a1 t647 t648 _ A3.out).mono ?_); rintro e w17 ⟨rfl, hb⟩; refine ⟨_, rfl, ?_⟩; have n0_ := AX (bkb BK645 hb); have n1_ := AX (bkb BK646 hb); have n2_ := AX (below_step bw hb); clear BK645; clear BK646; clear HB; have BK645 := n0_; have BK646 := n1_; have HB := n2_; clear n0_ n1_ n2_; (try clear hb); obtain ⟨hcz18_0, hcz18_1, hcz18_2⟩ := blkC3 (w := w17) BK646.out; obtain ⟨hfz18_0, hfz18_1, hfz18_2⟩ := blkF3 BK646.out))
  refine bodyPost_ret (results_ct rfl _ _ gb646 33 #[.int .i64 0, .int .i64 0, .int .i64 0] (0, 0) _ rfl (by (with_reducible repeat first|refine blk_drewN ?_ _|refine blk_drew ?_|refine blk_alloc ?_ _); refine blk_put (cs := #[.int .i64 0, .int .i64 0, .int .i64 0]) ?_ 2 _ rfl; (with_reducible repeat first|refine blk_drewN ?_ _|refine blk_drew ?_|refine blk_alloc ?_ _); refine blk_put (cs := #[.int .i64 0, .int .i64 0, .int .i64 0]) ?_ 1 _ rfl; (with_reducible repeat first|refine blk_drewN ?_ _|refine blk_drew ?_|refine blk_alloc ?_ _); refine blk_put (cs := #[.int .i64 0, .int .i64 0, .int .i64 0]) ?_ 0 _ rfl; (with_reducible repeat first|refine blk_drewN ?_ _|refine blk_drew ?_|refine blk_alloc ?_ _); exact BK646.out) Try.underlying33 rfl (by kernel_rfl)) rfl ?_
  exact ⟨by first | rfl | (simp [errW_none, errW_some] <;> rfl) | (simp [*, errW_none, errW_some] <;> rfl), bw⟩

/-! ### civil_Compare: function 58 -/
def civil_Compare.f (a0_0 : Int) (a0_1 : Int) (a0_2 : Int) (a1_0 : Int) (a1_1 : Int) (a1_2 : Int) : Option (Int) := some (Civ.cmp a0_0 a0_1 a0_2 a1_0 a1_1 a1_2)
set_option maxRecDepth 100000 in
theorem civil_Compare.lt0 (a0_0 a0_1 a0_2 a1_0 a1_1 a1_2 : Int) (w : World) (p0 : a0_0 < a1_0) :
    Calls Try.prog 58 #[.agg #[.int .i64 a0_0, .int .i64 a0_1, .int .i64 a0_2], .agg #[.int .i64 a1_0, .int .i64 a1_1, .int .i64 a1_2]] w fun e w' => e = .returned (.int .i64 (-1)) ∧ Below w.heap.size w w' := by
  have i0 : ∀ w, (Instr.index 95 (.agg #[.int .i64 a0_0, .int .i64 a1_0, .int .i64 a0_1, .int .i64 a1_1, .int .i64 a0_2, .int .i64 a1_2]) (.int .i64 0)).run Try.prog w = .ok (.agg #[.int .i64 a0_0, .int .i64 a1_0]) w := fun _ => by kernel_rfl
  have i1 : ∀ w, (Instr.index 95 (.agg #[.int .i64 a0_0, .int .i64 a1_0, .int .i64 a0_1, .int .i64 a1_1, .int .i64 a0_2, .int .i64 a1_2]) (.int .i64 1)).run Try.prog w = .ok (.agg #[.int .i64 a0_1, .int .i64 a1_1]) w := fun _ => by kernel_rfl
  have i2 : ∀ w, (Instr.index 95 (.agg #[.int .i64 a0_0, .int .i64 a1_0, .int .i64 a0_1, .int .i64 a1_1, .int .i64 a0_2, .int .i64 a1_2]) (.int .i64 2)).run Try.prog w = .ok (.agg #[.int .i64 a0_2, .int .i64 a1_2]) w := fun _ => by kernel_rfl
  go_enter Try.func58, Try.ntmps58
  go_wp2
  refine wp_loop_rounds 4 ?_
  rw [rounds_succ]
  go_wp2
  go_ret
  exact ⟨rfl, by repeat (first | exact Below.refl _ _ | apply below_alloc | apply pw_below_drewN | apply below_drew)⟩
set_option maxRecDepth 100000 in
theorem civil_Compare.gt0 (a0_0 a0_1 a0_2 a1_0 a1_1 a1_2 : Int) (w : World) (p0 : ¬ a0_0 < a1_0) (q0 : a1_0 < a0_0) :
    Calls Try.prog 58 #[.agg #[.int .i64 a0_0, .int .i64 a0_1, .int .i64 a0_2], .agg #[.int .i64 a1_0, .int .i64 a1_1, .int .i64 a1_2]] w fun e w' => e = .returned (.int .i64 (1)) ∧ Below w.heap.size w w' := by
  have i0 : ∀ w, (Instr.index 95 (.agg #[.int .i64 a0_0, .int .i64 a1_0, .int .i64 a0_1, .int .i64 a1_1, .int .i64 a0_2, .int .i64 a1_2]) (.int .i64 0)).run Try.prog w = .ok (.agg #[.int .i64 a0_0, .int .i64 a1_0]) w := fun _ => by kernel_rfl
  have i1 : ∀ w, (Instr.index 95 (.agg #[.int .i64 a0_0, .int .i64 a1_0, .int .i64 a0_1, .int .i64 a1_1, .int .i64 a0_2, .int .i64 a1_2]) (.int .i64 1)).run Try.prog w = .ok (.agg #[.int .i64 a0_1, .int .i64 a1_1]) w := fun _ => by kernel_rfl
  have i2 : ∀ w, (Instr.index 95 (.agg #[.int .i64 a0_0, .int .i64 a1_0, .int .i64 a0_1, .int .i64 a1_1, .int .i64 a0_2, .int .i64 a1_2]) (.int .i64 2)).run Try.prog w = .ok (.agg #[.int .i64 a0_2, .int .i64 a1_2]) w := fun _ => by kernel_rfl
  go_enter Try.func58, Try.ntmps58
  go_wp2
  refine wp_loop_rounds 4 ?_
  rw [rounds_succ]
  go_wp2
  go_ret
  exact ⟨rfl, by repeat (first | exact Below.refl _ _ | apply below_alloc | apply pw_below_drewN | apply below_drew)⟩
set_option maxRecDepth 100000 in
theorem civil_Compare.lt1 (a0_0 a0_1 a0_2 a1_0 a1_1 a1_2 : Int) (w : World) (p0 : ¬ a0_0 < a1_0) (q0 : ¬ a1_0 < a0_0) (p1 : a0_1 < a1_1) :
    Calls Try.prog 58 #[.agg #[.int .i64 a0_0, .int .i64 a0_1, .int .i64 a0_2], .agg #[.int .i64 a1_0, .int .i64 a1_1, .int .i64 a1_2]] w fun e w' => e = .returned (.int .i64 (-1)) ∧ Below w.heap.size w w' := by
  have i0 : ∀ w, (Instr.index 95 (.agg #[.int .i64 a0_0, .int .i64 a1_0, .int .i64 a0_1, .int .i64 a1_1, .int .i64 a0_2, .int .i64 a1_2]) (.int .i64 0)).run Try.prog w = .ok (.agg #[.int .i64 a0_0, .int .i64 a1_0]) w := fun _ => by kernel_rfl
  have i1 : ∀ w, (Instr.index 95 (.agg #[.int .i64 a0_0, .int .i64 a1_0, .int .i64 a0_1, .int .i64 a1_1, .int .i64 a0_2, .int .i64 a1_2]) (.int .i64 1)).run Try.prog w = .ok (.agg #[.int .i64 a0_1, .int .i64 a1_1]) w := fun _ => by kernel_rfl
  have i2 : ∀ w, (Instr.index 95 (.agg #[.int .i64 a0_0, .int .i64 a1_0, .int .i64 a0_1, .int .i64 a1_1, .int .i64 a0_2, .int .i64 a1_2]) (.int .i64 2)).run Try.prog w = .ok (.agg #[.int .i64 a0_2, .int .i64 a1_2]) w := fun _ => by kernel_rfl
  go_enter Try.func58, Try.ntmps58
  go_wp2
  refine wp_loop_rounds 4 ?_
  rw [rounds_succ]
  go_wp2
  rw [rounds_succ]
  go_wp2
  go_ret
  exact ⟨rfl, by repeat (first | exact Below.refl _ _ | apply below_alloc | apply pw_below_drewN | apply below_drew)⟩
set_option maxRecDepth 100000 in
theorem civil_Compare.gt1 (a0_0 a0_1 a0_2 a1_0 a1_1 a1_2 : Int) (w : World) (p0 : ¬ a0_0 < a1_0) (q0 : ¬ a1_0 < a0_0) (p1 : ¬ a0_1 < a1_1) (q1 : a1_1 < a0_1) :
    Calls Try.prog 58 #[.agg #[.int .i64 a0_0, .int .i64 a0_1, .int .i64 a0_2], .agg #[.int .i64 a1_0, .int .i64 a1_1, .int .i64 a1_2]] w fun e w' => e = .returned (.int .i64 (1)) ∧ Below w.heap.size w w' := by
  have i0 : ∀ w, (Instr.index 95 (.agg #[.int .i64 a0_0, .int .i64 a1_0, .int .i64 a0_1, .int .i64 a1_1, .int .i64 a0_2, .int .i64 a1_2]) (.int .i64 0)).run Try.prog w = .ok (.agg #[.int .i64 a0_0, .int .i64 a1_0]) w := fun _ => by kernel_rfl
  have i1 : ∀ w, (Instr.index 95 (.agg #[.int .i64 a0_0, .int .i64 a1_0, .int .i64 a0_1, .int .i64 a1_1, .int .i64 a0_2, .int .i64 a1_2]) (.int .i64 1)).run Try.prog w = .ok (.agg #[.int .i64 a0_1, .int .i64 a1_1]) w := fun _ => by kernel_rfl
  have i2 : ∀ w, (Instr.index 95 (.agg #[.int .i64 a0_0, .int .i64 a1_0, .int .i64 a0_1, .int .i64 a1_1, .int .i64 a0_2, .int .i64 a1_2]) (.int .i64 2)).run Try.prog w = .ok (.agg #[.int .i64 a0_2, .int .i64 a1_2]) w := fun _ => by kernel_rfl
  go_enter Try.func58, Try.ntmps58
  go_wp2
  refine wp_loop_rounds 4 ?_
  rw [rounds_succ]
  go_wp2
  rw [rounds_succ]
  go_wp2
  go_ret
  exact ⟨rfl, by repeat (first | exact Below.refl _ _ | apply below_alloc | apply pw_below_drewN | apply below_drew)⟩
set_option maxRecDepth 100000 in
theorem civil_Compare.lt2 (a0_0 a0_1 a0_2 a1_0 a1_1 a1_2 : Int) (w : World) (p0 : ¬ a0_0 < a1_0) (q0 : ¬ a1_0 < a0_0) (p1 : ¬ a0_1 < a1_1) (q1 : ¬ a1_1 < a0_1) (p2 : a0_2 < a1_2) :
    Calls Try.prog 58 #[.agg #[.int .i64 a0_0, .int .i64 a0_1, .int .i64 a0_2], .agg #[.int .i64 a1_0, .int .i64 a1_1, .int .i64 a1_2]] w fun e w' => e = .returned (.int .i64 (-1)) ∧ Below w.heap.size w w' := by
  have i0 : ∀ w, (Instr.index 95 (.agg #[.int .i64 a0_0, .int .i64 a1_0, .int .i64 a0_1, .int .i64 a1_1, .int .i64 a0_2, .int .i64 a1_2]) (.int .i64 0)).run Try.prog w = .ok (.agg #[.int .i64 a0_0, .int .i64 a1_0]) w := fun _ => by kernel_rfl
  have i1 : ∀ w, (Instr.index 95 (.agg #[.int .i64 a0_0, .int .i64 a1_0, .int .i64 a0_1, .int .i64 a1_1, .int .i64 a0_2, .int .i64 a1_2]) (.int .i64 1)).run Try.prog w = .ok (.agg #[.int .i64 a0_1, .int .i64 a1_1]) w := fun _ => by kernel_rfl
  have i2 : ∀ w, (Instr.index 95 (.agg #[.int .i64 a0_0, .int .i64 a1_0, .int .i64 a0_1, .int .i64 a1_1, .int .i64 a0_2, .int .i64 a1_2]) (.int .i64 2)).run Try.prog w = .ok (.agg #[.int .i64 a0_2, .int .i64 a1_2]) w := fun _ => by kernel_rfl
  go_enter Try.func58, Try.ntmps58
  go_wp2
  refine wp_loop_rounds 4 ?_
  rw [rounds_succ]
  go_wp2
  rw [rounds_succ]
  go_wp2
  rw [rounds_succ]
  go_wp2
  go_ret
  exact ⟨rfl, by repeat (first | exact Below.refl _ _ | apply below_alloc | apply pw_below_drewN | apply below_drew)⟩
set_option maxRecDepth 100000 in
theorem civil_Compare.gt2 (a0_0 a0_1 a0_2 a1_0 a1_1 a1_2 : Int) (w : World) (p0 : ¬ a0_0 < a1_0) (q0 : ¬ a1_0 < a0_0) (p1 : ¬ a0_1 < a1_1) (q1 : ¬ a1_1 < a0_1) (p2 : ¬ a0_2 < a1_2) (q2 : a1_2 < a0_2) :
    Calls Try.prog 58 #[.agg #[.int .i64 a0_0, .int .i64 a0_1, .int .i64 a0_2], .agg #[.int .i64 a1_0, .int .i64 a1_1, .int .i64 a1_2]] w fun e w' => e = .returned (.int .i64 (1)) ∧ Below w.heap.size w w' := by
  have i0 : ∀ w, (Instr.index 95 (.agg #[.int .i64 a0_0, .int .i64 a1_0, .int .i64 a0_1, .int .i64 a1_1, .int .i64 a0_2, .int .i64 a1_2]) (.int .i64 0)).run Try.prog w = .ok (.agg #[.int .i64 a0_0, .int .i64 a1_0]) w := fun _ => by kernel_rfl
  have i1 : ∀ w, (Instr.index 95 (.agg #[.int .i64 a0_0, .int .i64 a1_0, .int .i64 a0_1, .int .i64 a1_1, .int .i64 a0_2, .int .i64 a1_2]) (.int .i64 1)).run Try.prog w = .ok (.agg #[.int .i64 a0_1, .int .i64 a1_1]) w := fun _ => by kernel_rfl
  have i2 : ∀ w, (Instr.index 95 (.agg #[.int .i64 a0_0, .int .i64 a1_0, .int .i64 a0_1, .int .i64 a1_1, .int .i64 a0_2, .int .i64 a1_2]) (.int .i64 2)).run Try.prog w = .ok (.agg #[.int .i64 a0_2, .int .i64 a1_2]) w := fun _ => by kernel_rfl
  go_enter Try.func58, Try.ntmps58
  go_wp2
  refine wp_loop_rounds 4 ?_
  rw [rounds_succ]
  go_wp2
  rw [rounds_succ]
  go_wp2
  rw [rounds_succ]
  go_wp2
  go_ret
  exact ⟨rfl, by repeat (first | exact Below.refl _ _ | apply below_alloc | apply pw_below_drewN | apply below_drew)⟩
set_option maxRecDepth 100000 in
theorem civil_Compare.eq3 (a0_0 a0_1 a0_2 a1_0 a1_1 a1_2 : Int) (w : World) (p0 : ¬ a0_0 < a1_0) (q0 : ¬ a1_0 < a0_0) (p1 : ¬ a0_1 < a1_1) (q1 : ¬ a1_1 < a0_1) (p2 : ¬ a0_2 < a1_2) (q2 : ¬ a1_2 < a0_2) :
    Calls Try.prog 58 #[.agg #[.int .i64 a0_0, .int .i64 a0_1, .int .i64 a0_2], .agg #[.int .i64 a1_0, .int .i64 a1_1, .int .i64 a1_2]] w fun e w' => e = .returned (.int .i64 (0)) ∧ Below w.heap.size w w' := by
  have i0 : ∀ w, (Instr.index 95 (.agg #[.int .i64 a0_0, .int .i64 a1_0, .int .i64 a0_1, .int .i64 a1_1, .int .i64 a0_2, .int .i64 a1_2]) (.int .i64 0)).run Try.prog w = .ok (.agg #[.int .i64 a0_0, .int .i64 a1_0]) w := fun _ => by kernel_rfl
  have i1 : ∀ w, (Instr.index 95 (.agg #[.int .i64 a0_0, .int .i64 a1_0, .int .i64 a0_1, .int .i64 a1_1, .int .i64 a0_2, .int .i64 a1_2]) (.int .i64 1)).run Try.prog w = .ok (.agg #[.int .i64 a0_1, .int .i64 a1_1]) w := fun _ => by kernel_rfl
  have i2 : ∀ w, (Instr.index 95 (.agg #[.int .i64 a0_0, .int .i64 a1_0, .int .i64 a0_1, .int .i64 a1_1, .int .i64 a0_2, .int .i64 a1_2]) (.int .i64 2)).run Try.prog w = .ok (.agg #[.int .i64 a0_2, .int .i64 a1_2]) w := fun _ => by kernel_rfl
  go_enter Try.func58, Try.ntmps58
  go_wp2
  refine wp_loop_rounds 4 ?_
  rw [rounds_succ]
  go_wp2
  rw [rounds_succ]
  go_wp2
  rw [rounds_succ]
  go_wp2
  rw [rounds_succ]
  go_wp2
  go_ret
  exact ⟨rfl, by repeat (first | exact Below.refl _ _ | apply below_alloc | apply pw_below_drewN | apply below_drew)⟩
theorem civil_Compare.calls (a0_0 : Int) (a0_1 : Int) (a0_2 : Int) (a1_0 : Int) (a1_1 : Int) (a1_2 : Int) (r : Int) (w : World) (h : civil_Compare.f a0_0 a0_1 a0_2 a1_0 a1_1 a1_2 = some r) :
    Calls Try.prog 58 #[.agg #[.int .i64 a0_0, .int .i64 a0_1, .int .i64 a0_2], .agg #[.int .i64 a1_0, .int .i64 a1_1, .int .i64 a1_2]] w fun e w' => e = .returned (.int .i64 r) ∧ Below w.heap.size w w' := by
  unfold civil_Compare.f Civ.cmp at h
  injection h with h
  by_cases p0 : a0_0 < a1_0
  · rw [if_pos p0] at h; subst h; exact civil_Compare.lt0 _ _ _ _ _ _ w p0
  · rw [if_neg p0] at h
    by_cases q0 : a1_0 < a0_0
    · rw [if_pos q0] at h; subst h; exact civil_Compare.gt0 _ _ _ _ _ _ w p0 q0
    · rw [if_neg q0] at h
      by_cases p1 : a0_1 < a1_1
      · rw [if_pos p1] at h; subst h; exact civil_Compare.lt1 _ _ _ _ _ _ w p0 q0 p1
      · rw [if_neg p1] at h
        by_cases q1 : a1_1 < a0_1
        · rw [if_pos q1] at h; subst h; exact civil_Compare.gt1 _ _ _ _ _ _ w p0 q0 p1 q1
        · rw [if_neg q1] at h
          by_cases p2 : a0_2 < a1_2
          · rw [if_pos p2] at h; subst h; exact civil_Compare.lt2 _ _ _ _ _ _ w p0 q0 p1 q1 p2
          · rw [if_neg p2] at h
            by_cases q2 : a1_2 < a0_2
            · rw [if_pos q2] at h; subst h; exact civil_Compare.gt2 _ _ _ _ _ _ w p0 q0 p1 q1 p2 q2
            · rw [if_neg q2] at h
              subst h; exact civil_Compare.eq3 _ _ _ _ _ _ w p0 q0 p1 q1 p2 q2

end Go.Proofs.Ytddkckpfmleffaa.PX
