/- Functions of the program as plain Lean functions, each with a proof that the call in the machine answers just what the plain function says; condition: the plain function answers at all. -/
import Derived.Test.YtkggjjggcbcdiaaPXx0
import Derived.Test.YtkggjjggcbcdiaaPXx10
import Derived.Test.YtkggjjggcbcdiaaPXx11
import Derived.Test.YtkggjjggcbcdiaaPXx12
namespace Go.Proofs.Ytkggjjggcbcdiaa.PX
open Go.RowKit Go.Proofs.YtkggjjggcbcdiaaW.PrintWords Go.Proofs.YtkggjjggcbcdiaaW.PrintLast Go.Proofs.YtkggjjggcbcdiaaW.PrintMore
attribute [local go_sem] max2_int min2_int max_two min_two max_three min_three max_four min_four   -- for this text's walks alone
set_option linter.unusedVariables false
set_option linter.unusedSimpArgs false

/-! ### pylonref05_On: function 69 -/
def pylonref05_On.j0 : Nat → Int → Bool → Int → Int → Int → Int → Option (Int × Int × Int × Int)
 | 0, _, _, _, _, _, _ => none
 | k + 1, x1, x21, x223000, x223001, x223002, x223003 => if x21 = true then (some (0, 0, 0, 5)) else (if x223000 = 1 then ((pylonref03_Is.f k x1 x223001 x223002).bind fun t226 => (if t226 = true then (some (x1, x223001, x223002, 0)) else (some (0, 0, 0, 7)))) else (if x223000 = 2 then ((pylonref03_Nth.f k x1 x223001 x223002 x223003).bind fun bt227 => (some (bt227.1, bt227.2.1, bt227.2.2.1, 0))) else ((pylonref05_Easter.f x1).bind fun bt232 => ((pylonref03_Add.f k bt232.1 bt232.2.1 bt232.2.2.1 x223001).bind fun bt237 => (if bt237.2.2.2 = 0 then (some (bt237.1, bt237.2.1, bt237.2.2.1, 0)) else (some (0, 0, 0, 7)))))))
def pylonref05_On.f (k : Nat) (a0_0 : Int) (a0_1 : Int) (a0_2 : Int) (a0_3 : Int) (a1 : Int) : Option (Int × Int × Int × Int) := (pylonref05_Check.f k a0_0 a0_1 a0_2 a0_3).bind fun t224 => (if t224 = 0 then (if a1 < 1 then (pylonref05_On.j0 k a1 true a0_0 a0_1 a0_2 a0_3) else (pylonref05_On.j0 k a1 (decide (a1 > 9999)) a0_0 a0_1 a0_2 a0_3)) else (some (0, 0, 0, 8)))
theorem pylonref05_On.mono_l : ∀ k, (∀ y0 y1 y2 y3 y4 y5, LeO (pylonref05_On.j0 k y0 y1 y2 y3 y4 y5) (pylonref05_On.j0 (k + 1) y0 y1 y2 y3 y4 y5))
 | 0 => fun _ _ _ _ _ _ r h => by simp [pylonref05_On.j0] at h
 | k + 1 => by
  have ih0 := pylonref05_On.mono_l k
  ·intro y0 y1 y2 y3 y4 y5
   unfold pylonref05_On.j0
   repeat' first
   | (with_reducible exact ih0 _ _ _ _ _ _)
   | (with_reducible exact pylonref03_Add.mono _ _ _ _ _)
   | (with_reducible exact pylonref03_Is.mono _ _ _ _)
   | (with_reducible exact pylonref03_Nth.mono _ _ _ _ _)
   | (with_reducible exact pylonref05_Check.mono _ _ _ _ _)
   | (with_reducible exact LeO.refl _)
   | (with_reducible exact LeO.none _)
   | (with_reducible refine LeO.ite ?_ ?_)
   | (with_reducible refine LeO.bind ?_ (fun _ => ?_))
   | exact ih0 _ _ _ _ _ _
   | exact pylonref03_Add.mono _ _ _ _ _
   | exact pylonref03_Is.mono _ _ _ _
   | exact pylonref03_Nth.mono _ _ _ _ _
   | exact pylonref05_Check.mono _ _ _ _ _
   | exact LeO.none _
   | refine LeO.ite ?_ ?_
   | refine LeO.bind ?_ (fun _ => ?_)
theorem pylonref05_On.mono : ∀ a0 a1 a2 a3 a4 k, LeO (pylonref05_On.f k a0 a1 a2 a3 a4) (pylonref05_On.f (k + 1) a0 a1 a2 a3 a4) := by
 intro a0 a1 a2 a3 a4 k
 have ih0 := pylonref05_On.mono_l k
 unfold pylonref05_On.f
 repeat' first
   | (with_reducible exact ih0 _ _ _ _ _ _)
   | (with_reducible exact pylonref03_Add.mono _ _ _ _ _)
   | (with_reducible exact pylonref03_Is.mono _ _ _ _)
   | (with_reducible exact pylonref03_Nth.mono _ _ _ _ _)
   | (with_reducible exact pylonref05_Check.mono _ _ _ _ _)
   | (with_reducible exact LeO.refl _)
   | (with_reducible exact LeO.none _)
   | (with_reducible refine LeO.ite ?_ ?_)
   | (with_reducible refine LeO.bind ?_ (fun _ => ?_))
   | exact ih0 _ _ _ _ _ _
   | exact pylonref03_Add.mono _ _ _ _ _
   | exact pylonref03_Is.mono _ _ _ _
   | exact pylonref03_Nth.mono _ _ _ _ _
   | exact pylonref05_Check.mono _ _ _ _ _
   | exact LeO.none _
   | refine LeO.ite ?_ ?_
   | refine LeO.bind ?_ (fun _ => ?_)
set_option maxHeartbeats 8000000 in
set_option maxRecDepth 100000 in
theorem pylonref05_On.calls (k : Nat) (a0_0 : Int) (a0_1 : Int) (a0_2 : Int) (a0_3 : Int) (a1 : Int) (r1 : Int) (r2 : Int) (r3 : Int) (r4 : Int) (w : World) (h : pylonref05_On.f k a0_0 a0_1 a0_2 a0_3 a1 = some (r1, r2, r3, r4)) :
  Calls Try.prog 69 #[.agg #[.int .i64 a0_0, .int .i64 a0_1, .int .i64 a0_2, .int .i64 a0_3], .int .i64 a1] w fun e w' => e = .returned (.tuple #[.agg #[.int .i64 r1, .int .i64 r2, .int .i64 r3], .int .i64 r4]) ∧ Below w.heap.size w w' := by
 have hu65 := Try.underlying65
 have hu24 := Try.underlying24
 have HB := AX (Below.refl w.heap.size w)
 have H : ((pylonref05_Check.f k a0_0 a0_1 a0_2 a0_3).bind fun t224 => (if t224 = 0 then (if a1 < 1 then (pylonref05_On.j0 k a1 true a0_0 a0_1 a0_2 a0_3) else (pylonref05_On.j0 k a1 (decide (a1 > 9999)) a0_0 a0_1 a0_2 a0_3)) else (some (0, 0, 0, 8)))) = some (r1, r2, r3, r4) := h
 clear h
 replace H := Option.bind_eq_some_iff.mp H
 obtain ⟨t224, A30, H⟩ := H
 replace H : (if t224 = 0 then (if a1 < 1 then (pylonref05_On.j0 k a1 true a0_0 a0_1 a0_2 a0_3) else (pylonref05_On.j0 k a1 (decide (a1 > 9999)) a0_0 a0_1 a0_2 a0_3)) else (some (0, 0, 0, 8))) = some (r1, r2, r3, r4) := H
 have A3 := AX A30
 clear A30
 by_cases c4 : t224 = 0
 ·rw [if_pos c4] at H
  have c4b0 : (t224 == 0) = true := beq_iff_eq.mpr c4
  have c4b1 : (t224 != 0) = false := bne_eq_false_iff_eq.mpr c4
  clear c4
  have HC5 := AX H
  clear H
  go_enter Try.func69, Try.ntmps69
  go_upto_region 3 with (first | ((with_reducible refine gate_dst (N := 2) rfl ?_); refine box_event ?hg (N := 2) ?hd (cs := #[.int .i64 a0_0, .int .i64 a0_1, .int .i64 a0_2, .int .i64 a0_3]) (t := 65) ?hr ?_; (case hd => rfl); (case hg => rfl); (case hr => first | (go_simp; done) | (go_simp; rfl)); intro gb222 hg w6 hbox hb; have n0_ := AX (below_step bw hb); have n1_ := AX (hbox); have n2_ := AX ((by rw [hg]; exact (below_size bw) : w.heap.size ≤ gb222)); have n3_ := AX ((by rw [hg]; exact (below_size bw) : w.heap.size ≤ gb222)); clear HB; have HB := n0_; have BK222 := n1_; have GW222 := n2_; have GE222 := n3_; clear n0_ n1_ n2_ n3_; clear hb hbox hg) | ((with_reducible refine gate_dst (N := 4) rfl ?_); refine box_event ?hg (N := 4) ?hd (cs := #[.int .i64 0, .int .i64 0, .int .i64 0]) (t := 24) ?hr ?_; (case hd => rfl); (case hg => rfl); (case hr => first | (go_simp; done) | (go_simp; rfl)); intro gb223 hg w7 hbox hb; have n0_ := AX (bkb BK222 hb); have n1_ := AX (below_step bw hb); have n2_ := AX (hbox); have n3_ := AX ((by rw [hg]; exact (below_size bw) : w.heap.size ≤ gb223)); have n4_ := AX ((by rw [hg]; exact (below_size bw) : w.heap.size ≤ gb223)); have n5_ := AX ((by rw [hg]; exact Nat.ne_of_lt (blk_lt (g := gb222) (o := .cells #[.int .i64 a0_0, .int .i64 a0_1, .int .i64 a0_2, .int .i64 a0_3] 65 (0, 0)) (bkn BK222)) : gb222 ≠ gb223)); have n6_ := AX ((by rw [hg]; exact Nat.ne_of_gt (blk_lt (g := gb222) (o := .cells #[.int .i64 a0_0, .int .i64 a0_1, .int .i64 a0_2, .int .i64 a0_3] 65 (0, 0)) (bkn BK222)) : gb223 ≠ gb222)); clear BK222; clear HB; have BK222 := n0_; have HB := n1_; have BK223 := n2_; have GW223 := n3_; have GE223 := n4_; have NB222_223 := n5_; have NB223_222 := n6_; clear n0_ n1_ n2_ n3_ n4_ n5_ n6_; clear hb hbox hg; have hnb8 := NB222_223.out; have hnc8 := NB223_222.out; obtain ⟨hcz9_0, hcz9_1, hcz9_2, hcz9_3⟩ := blkC4 (w := w7) BK222.out; obtain ⟨hfz9_0, hfz9_1, hfz9_2, hfz9_3⟩ := blkF4 BK222.out) | ((with_reducible refine gate_callee (f := 37) rfl ?_); refine goesL_ (some 13) rfl rfl Try.func37 (by kernel_rfl) rfl #[.agg #[.int .i64 a0_0, .int .i64 a0_1, .int .i64 a0_2, .int .i64 a0_3]] rfl (by (try simp only [List.map_toArray, List.map_cons, List.map_nil]); first | done | rfl | (simp only [List.length_drop, List.length_take]; rfl)) ?_; (with_reducible refine (pylonref05_Check.calls k a0_0 a0_1 a0_2 a0_3 t224 _ A3.out).mono ?_); rintro e w10 ⟨rfl, hb⟩; refine ⟨_, rfl, ?_⟩; have n0_ := AX (bkb BK222 hb); have n1_ := AX (bkb BK223 hb); have n2_ := AX (below_step bw hb); clear BK222; clear BK223; clear HB; have BK222 := n0_; have BK223 := n1_; have HB := n2_; clear n0_ n1_ n2_; (try clear hb)))
  (try simp only [Act.put, List.setIfInBounds_toArray, List.set_cons_zero, List.set_cons_succ])
  go_cut [21] (fun v21 wc => ∃ (kq : Nat) (x21_4 : Bool), v21 = .bool x21_4 ∧ Aside0 (pylonref05_On.j0 kq a1 x21_4 a0_0 a0_1 a0_2 a0_3 = some (r1, r2, r3, r4)) ∧ Aside0 (kq ≤ k) ∧ Aside0 (wc.heap[gb222]? = some (.cells #[.int .i64 a0_0, .int .i64 a0_1, .int .i64 a0_2, .int .i64 a0_3] 65 (0, 0))) ∧ Aside0 (wc.heap[gb223]? = some (.cells #[.int .i64 0, .int .i64 0, .int .i64 0] 24 (0, 0))) ∧ Aside0 (Below w.heap.size w wc))
  case first =>
   have H := HC5.out
   clear HC5
   by_cases c11 : a1 < 1
   ·rw [if_pos c11] at H
    have c11b0 : decide (a1 < 1) = true := decide_eq_true c11
    clear c11
    (first | rw [c11b0] | (simp only [i64_w, i32_w]; rw [c11b0]) | skip)
    have H' := AX H
    clear H
    go_wp2
    go_meet
    case rel => exact ⟨_, (true), (by first | rfl | (simp; done) | (simp [*]; done)), H', ⟨by first | omega | exact Nat.le_refl _⟩, ⟨bkn BK222⟩, ⟨bkn BK223⟩, ⟨bw⟩⟩
   ·rw [if_neg c11] at H
    have c11b0 : decide (a1 < 1) = false := decide_eq_false c11
    clear c11
    (first | rw [c11b0] | (simp only [i64_w, i32_w]; rw [c11b0]) | skip)
    have H' := AX H
    clear H
    go_wp2
    go_meet
    case rel => exact ⟨_, (decide (a1 > 9999)), (by first | rfl | (simp; done) | (simp [*]; done)), H', ⟨by first | omega | exact Nat.le_refl _⟩, ⟨bkn BK222⟩, ⟨bkn BK223⟩, ⟨bw⟩⟩
  case rest =>
   clear HC5
   try clear c4
   try clear c4b0
   try clear c4b1
   try clear hcz9_0
   try clear hcz9_1
   try clear hcz9_2
   try clear hcz9_3
   try clear hfz9_0
   try clear hfz9_1
   try clear hfz9_2
   try clear hfz9_3
   obtain ⟨kq, x21_4, rfl, HA, HJ4, BK222, BK223, HB⟩ := hcut
   cases kq with
   | zero => exact absurd HA.out (by simp [pylonref05_On.j0])
   | succ kj4 =>
    have H := HA.out
    clear HA
    simp only [pylonref05_On.j0] at H
    by_cases c12 : x21_4 = true
    ·subst c12
     have H1 : (some (0, 0, 0, 5)) = some (r1, r2, r3, r4) := by rw [if_pos rfl] at H; exact H
     clear H
     have H := H1
     clear H1
     simp only [Option.some.injEq, Prod.mk.injEq] at H
     obtain ⟨rfl, rfl, rfl, rfl⟩ := H
     have hnb13 := NB223_222.out
     have hnc13 := NB222_223.out
     obtain ⟨hcz14_0, hcz14_1, hcz14_2⟩ := blkC3 (w := wc) BK223.out
     obtain ⟨hfz14_0, hfz14_1, hfz14_2⟩ := blkF3 BK223.out
     go_wp2
     refine bodyPost_ret (results_ct rfl _ _ gb223 24 #[.int .i64 0, .int .i64 0, .int .i64 0] (0, 0) _ rfl (by (with_reducible repeat first|refine blk_drewN ?_ _|refine blk_drew ?_|refine blk_alloc ?_ _); refine blk_put (cs := #[.int .i64 0, .int .i64 0, .int .i64 0]) ?_ 2 _ rfl; (with_reducible repeat first|refine blk_drewN ?_ _|refine blk_drew ?_|refine blk_alloc ?_ _); refine blk_put (cs := #[.int .i64 0, .int .i64 0, .int .i64 0]) ?_ 1 _ rfl; (with_reducible repeat first|refine blk_drewN ?_ _|refine blk_drew ?_|refine blk_alloc ?_ _); refine blk_put (cs := #[.int .i64 0, .int .i64 0, .int .i64 0]) ?_ 0 _ rfl; (with_reducible repeat first|refine blk_drewN ?_ _|refine blk_drew ?_|refine blk_alloc ?_ _); exact BK223.out) Try.underlying24 rfl (by kernel_rfl)) rfl ?_
     exact ⟨by first | rfl | (simp [errW_none, errW_some] <;> rfl) | (simp [*, errW_none, errW_some] <;> rfl), bw⟩
    ·replace c12 := Bool.eq_false_iff.mpr c12
     subst c12
     have H1 : (if a0_0 = 1 then ((pylonref03_Is.f kj4 a1 a0_1 a0_2).bind fun t226 => (if t226 = true then (some (a1, a0_1, a0_2, 0)) else (some (0, 0, 0, 7)))) else (if a0_0 = 2 then ((pylonref03_Nth.f kj4 a1 a0_1 a0_2 a0_3).bind fun bt227 => (some (bt227.1, bt227.2.1, bt227.2.2.1, 0))) else ((pylonref05_Easter.f a1).bind fun bt232 => ((pylonref03_Add.f kj4 bt232.1 bt232.2.1 bt232.2.2.1 a0_1).bind fun bt237 => (if bt237.2.2.2 = 0 then (some (bt237.1, bt237.2.1, bt237.2.2.1, 0)) else (some (0, 0, 0, 7))))))) = some (r1, r2, r3, r4) := by rw [if_neg (show ¬ (false = true) by decide)] at H; exact H
     clear H
     have H := H1
     clear H1
     by_cases c15 : a0_0 = 1
     ·rw [if_pos c15] at H
      have c15b0 : (a0_0 == 1) = true := beq_iff_eq.mpr c15
      have c15b1 : (a0_0 != 1) = false := bne_eq_false_iff_eq.mpr c15
      clear c15
      replace H := Option.bind_eq_some_iff.mp H
      obtain ⟨t226, A160, H⟩ := H
      replace H : (if t226 = true then (some (a1, a0_1, a0_2, 0)) else (some (0, 0, 0, 7))) = some (r1, r2, r3, r4) := H
      have A16 := AX A160
      clear A160
      by_cases c17 : t226 = true
      ·subst c17
       have H1 : (some (a1, a0_1, a0_2, 0)) = some (r1, r2, r3, r4) := by rw [if_pos rfl] at H; exact H
       clear H
       have H := H1
       clear H1
       simp only [Option.some.injEq, Prod.mk.injEq] at H
       obtain ⟨rfl, rfl, rfl, rfl⟩ := H
       have hnb18 := NB222_223.out
       have hnc18 := NB223_222.out
       obtain ⟨hcz19_0, hcz19_1, hcz19_2, hcz19_3⟩ := blkC4 (w := wc) BK222.out
       obtain ⟨hfz19_0, hfz19_1, hfz19_2, hfz19_3⟩ := blkF4 BK222.out
       go_wp2_with (first | ((with_reducible refine gate_dst (N := 6) rfl ?_); refine box_event ?hg (N := 6) ?hd (cs := #[.int .i64 0, .int .i64 0, .int .i64 0]) (t := 24) ?hr ?_; (case hd => rfl); (case hg => rfl); (case hr => first | (go_simp; done) | (go_simp; rfl)); intro gb225 hg w20 hbox hb; have n0_ := AX (bkb BK222 hb); have n1_ := AX (bkb BK223 hb); have n2_ := AX (below_step bw hb); have n3_ := AX (hbox); have n4_ := AX ((by rw [hg]; exact (below_size bw) : w.heap.size ≤ gb225)); have n5_ := AX ((by rw [hg]; exact (below_size bw) : w.heap.size ≤ gb225)); have n6_ := AX ((by rw [hg]; exact Nat.ne_of_lt (blk_lt (g := gb222) (o := .cells #[.int .i64 a0_0, .int .i64 a0_1, .int .i64 a0_2, .int .i64 a0_3] 65 (0, 0)) (bkn BK222)) : gb222 ≠ gb225)); have n7_ := AX ((by rw [hg]; exact Nat.ne_of_gt (blk_lt (g := gb222) (o := .cells #[.int .i64 a0_0, .int .i64 a0_1, .int .i64 a0_2, .int .i64 a0_3] 65 (0, 0)) (bkn BK222)) : gb225 ≠ gb222)); have n8_ := AX ((by rw [hg]; exact Nat.ne_of_lt (blk_lt (g := gb223) (o := .cells #[.int .i64 0, .int .i64 0, .int .i64 0] 24 (0, 0)) (bkn BK223)) : gb223 ≠ gb225)); have n9_ := AX ((by rw [hg]; exact Nat.ne_of_gt (blk_lt (g := gb223) (o := .cells #[.int .i64 0, .int .i64 0, .int .i64 0] 24 (0, 0)) (bkn BK223)) : gb225 ≠ gb223)); clear BK222; clear BK223; clear HB; have BK222 := n0_; have BK223 := n1_; have HB := n2_; have BK225 := n3_; have GW225 := n4_; have GE225 := n5_; have NB222_225 := n6_; have NB225_222 := n7_; have NB223_225 := n8_; have NB225_223 := n9_; clear n0_ n1_ n2_ n3_ n4_ n5_ n6_ n7_ n8_ n9_; clear hb hbox hg; have hnb21 := NB225_222.out; have hnc21 := NB222_225.out; have hnb22 := NB225_223.out; have hnc22 := NB223_225.out; obtain ⟨hcz23_0, hcz23_1, hcz23_2⟩ := blkC3 (w := w20) BK225.out; obtain ⟨hfz23_0, hfz23_1, hfz23_2⟩ := blkF3 BK225.out) | ((with_reducible refine gate_callee (f := 45) rfl ?_); refine goesL_ (some 34) rfl rfl Try.func45 (by kernel_rfl) rfl #[.agg #[.int .i64 a1, .int .i64 a0_1, .int .i64 a0_2]] rfl (by (try simp only [List.map_toArray, List.map_cons, List.map_nil]); first | done | rfl | (simp only [List.length_drop, List.length_take]; rfl)) ?_; (with_reducible refine (pylonref03_Is.calls kj4 a1 a0_1 a0_2 true _ A16.out).mono ?_); rintro e w24 ⟨rfl, hb⟩; refine ⟨_, rfl, ?_⟩; have n0_ := AX (blk_below (g := gb222) (o := .cells #[.int .i64 a0_0, .int .i64 a0_1, .int .i64 a0_2, .int .i64 a0_3] 65 (0, 0)) (by (with_reducible repeat first|refine blk_drewN ?_ _|refine blk_drew ?_|refine blk_alloc ?_ _); refine blk_far ?_ NB222_225.out _; (with_reducible repeat first|refine blk_drewN ?_ _|refine blk_drew ?_|refine blk_alloc ?_ _); refine blk_far ?_ NB222_225.out _; (with_reducible repeat first|refine blk_drewN ?_ _|refine blk_drew ?_|refine blk_alloc ?_ _); refine blk_far ?_ NB222_225.out _; (with_reducible repeat first|refine blk_drewN ?_ _|refine blk_drew ?_|refine blk_alloc ?_ _); exact BK222.out) hb); have n1_ := AX (blk_below (g := gb223) (o := .cells #[.int .i64 0, .int .i64 0, .int .i64 0] 24 (0, 0)) (by (with_reducible repeat first|refine blk_drewN ?_ _|refine blk_drew ?_|refine blk_alloc ?_ _); refine blk_far ?_ NB223_225.out _; (with_reducible repeat first|refine blk_drewN ?_ _|refine blk_drew ?_|refine blk_alloc ?_ _); refine blk_far ?_ NB223_225.out _; (with_reducible repeat first|refine blk_drewN ?_ _|refine blk_drew ?_|refine blk_alloc ?_ _); refine blk_far ?_ NB223_225.out _; (with_reducible repeat first|refine blk_drewN ?_ _|refine blk_drew ?_|refine blk_alloc ?_ _); exact BK223.out) hb); have n2_ := AX (blk_below (g := gb225) (o := .cells #[.int .i64 a1, .int .i64 a0_1, .int .i64 a0_2] 24 (0, 0)) (by (with_reducible repeat first|refine blk_drewN ?_ _|refine blk_drew ?_|refine blk_alloc ?_ _); refine blk_put (cs := #[.int .i64 a1, .int .i64 a0_1, .int .i64 0]) ?_ 2 _ rfl; (with_reducible repeat first|refine blk_drewN ?_ _|refine blk_drew ?_|refine blk_alloc ?_ _); refine blk_put (cs := #[.int .i64 a1, .int .i64 0, .int .i64 0]) ?_ 1 _ rfl; (with_reducible repeat first|refine blk_drewN ?_ _|refine blk_drew ?_|refine blk_alloc ?_ _); refine blk_put (cs := #[.int .i64 0, .int .i64 0, .int .i64 0]) ?_ 0 _ rfl; (with_reducible repeat first|refine blk_drewN ?_ _|refine blk_drew ?_|refine blk_alloc ?_ _); exact BK225.out) hb); have n3_ := AX (below_step bw hb); clear BK222; clear BK223; clear BK225; clear HB; have BK222 := n0_; have BK223 := n1_; have BK225 := n2_; have HB := n3_; clear n0_ n1_ n2_ n3_; (try clear hb); obtain ⟨hcz25_0, hcz25_1, hcz25_2⟩ := blkC3 (w := w24) BK225.out; obtain ⟨hfz25_0, hfz25_1, hfz25_2⟩ := blkF3 BK225.out; obtain ⟨hcz26_0, hcz26_1, hcz26_2⟩ := blkC3 (w := w24) BK223.out; obtain ⟨hfz26_0, hfz26_1, hfz26_2⟩ := blkF3 BK223.out))
       refine bodyPost_ret (results_ct rfl _ _ gb223 24 #[.int .i64 a1, .int .i64 a0_1, .int .i64 a0_2] (0, 0) _ rfl (by (with_reducible repeat first|refine blk_drewN ?_ _|refine blk_drew ?_|refine blk_alloc ?_ _); refine blk_put (cs := #[.int .i64 a1, .int .i64 a0_1, .int .i64 0]) ?_ 2 _ rfl; (with_reducible repeat first|refine blk_drewN ?_ _|refine blk_drew ?_|refine blk_alloc ?_ _); refine blk_put (cs := #[.int .i64 a1, .int .i64 0, .int .i64 0]) ?_ 1 _ rfl; (with_reducible repeat first|refine blk_drewN ?_ _|refine blk_drew ?_|refine blk_alloc ?_ _); refine blk_put (cs := #[.int .i64 0, .int .i64 0, .int .i64 0]) ?_ 0 _ rfl; (with_reducible repeat first|refine blk_drewN ?_ _|refine blk_drew ?_|refine blk_alloc ?_ _); exact BK223.out) Try.underlying24 rfl (by kernel_rfl)) rfl ?_
       exact ⟨by first | rfl | (simp [errW_none, errW_some] <;> rfl) | (simp [*, errW_none, errW_some] <;> rfl), bw⟩
      ·replace c17 := Bool.eq_false_iff.mpr c17
       subst c17
       have H1 : (some (0, 0, 0, 7)) = some (r1, r2, r3, r4) := by rw [if_neg (show ¬ (false = true) by decide)] at H; exact H
       clear H
       have H := H1
       clear H1
       simp only [Option.some.injEq, Prod.mk.injEq] at H
       obtain ⟨rfl, rfl, rfl, rfl⟩ := H
       have hnb27 := NB222_223.out
       have hnc27 := NB223_222.out
       obtain ⟨hcz28_0, hcz28_1, hcz28_2, hcz28_3⟩ := blkC4 (w := wc) BK222.out
       obtain ⟨hfz28_0, hfz28_1, hfz28_2, hfz28_3⟩ := blkF4 BK222.out
       go_wp2_with (first | ((with_reducible refine gate_dst (N := 6) rfl ?_); refine box_event ?hg (N := 6) ?hd (cs := #[.int .i64 0, .int .i64 0, .int .i64 0]) (t := 24) ?hr ?_; (case hd => rfl); (case hg => rfl); (case hr => first | (go_simp; done) | (go_simp; rfl)); intro gb225 hg w29 hbox hb; have n0_ := AX (bkb BK222 hb); have n1_ := AX (bkb BK223 hb); have n2_ := AX (below_step bw hb); have n3_ := AX (hbox); have n4_ := AX ((by rw [hg]; exact (below_size bw) : w.heap.size ≤ gb225)); have n5_ := AX ((by rw [hg]; exact (below_size bw) : w.heap.size ≤ gb225)); have n6_ := AX ((by rw [hg]; exact Nat.ne_of_lt (blk_lt (g := gb222) (o := .cells #[.int .i64 a0_0, .int .i64 a0_1, .int .i64 a0_2, .int .i64 a0_3] 65 (0, 0)) (bkn BK222)) : gb222 ≠ gb225)); have n7_ := AX ((by rw [hg]; exact Nat.ne_of_gt (blk_lt (g := gb222) (o := .cells #[.int .i64 a0_0, .int .i64 a0_1, .int .i64 a0_2, .int .i64 a0_3] 65 (0, 0)) (bkn BK222)) : gb225 ≠ gb222)); have n8_ := AX ((by rw [hg]; exact Nat.ne_of_lt (blk_lt (g := gb223) (o := .cells #[.int .i64 0, .int .i64 0, .int .i64 0] 24 (0, 0)) (bkn BK223)) : gb223 ≠ gb225)); have n9_ := AX ((by rw [hg]; exact Nat.ne_of_gt (blk_lt (g := gb223) (o := .cells #[.int .i64 0, .int .i64 0, .int .i64 0] 24 (0, 0)) (bkn BK223)) : gb225 ≠ gb223)); clear BK222; clear BK223; clear HB; have BK222 := n0_; have BK223 := n1_; have HB := n2_; have BK225 := n3_; have GW225 := n4_; have GE225 := n5_; have NB222_225 := n6_; have NB225_222 := n7_; have NB223_225 := n8_; have NB225_223 := n9_; clear n0_ n1_ n2_ n3_ n4_ n5_ n6_ n7_ n8_ n9_; clear hb hbox hg; have hnb30 := NB225_222.out; have hnc30 := NB222_225.out; have hnb31 := NB225_223.out; have hnc31 := NB223_225.out; obtain ⟨hcz32_0, hcz32_1, hcz32_2⟩ := blkC3 (w := w29) BK225.out; obtain ⟨hfz32_0, hfz32_1, hfz32_2⟩ := blkF3 BK225.out) | ((with_reducible refine gate_callee (f := 45) rfl ?_); refine goesL_ (some 34) rfl rfl Try.func45 (by kernel_rfl) rfl #[.agg #[.int .i64 a1, .int .i64 a0_1, .int .i64 a0_2]] rfl (by (try simp only [List.map_toArray, List.map_cons, List.map_nil]); first | done | rfl | (simp only [List.length_drop, List.length_take]; rfl)) ?_; (with_reducible refine (pylonref03_Is.calls kj4 a1 a0_1 a0_2 false _ A16.out).mono ?_); rintro e w33 ⟨rfl, hb⟩; refine ⟨_, rfl, ?_⟩; have n0_ := AX (blk_below (g := gb222) (o := .cells #[.int .i64 a0_0, .int .i64 a0_1, .int .i64 a0_2, .int .i64 a0_3] 65 (0, 0)) (by (with_reducible repeat first|refine blk_drewN ?_ _|refine blk_drew ?_|refine blk_alloc ?_ _); refine blk_far ?_ NB222_225.out _; (with_reducible repeat first|refine blk_drewN ?_ _|refine blk_drew ?_|refine blk_alloc ?_ _); refine blk_far ?_ NB222_225.out _; (with_reducible repeat first|refine blk_drewN ?_ _|refine blk_drew ?_|refine blk_alloc ?_ _); refine blk_far ?_ NB222_225.out _; (with_reducible repeat first|refine blk_drewN ?_ _|refine blk_drew ?_|refine blk_alloc ?_ _); exact BK222.out) hb); have n1_ := AX (blk_below (g := gb223) (o := .cells #[.int .i64 0, .int .i64 0, .int .i64 0] 24 (0, 0)) (by (with_reducible repeat first|refine blk_drewN ?_ _|refine blk_drew ?_|refine blk_alloc ?_ _); refine blk_far ?_ NB223_225.out _; (with_reducible repeat first|refine blk_drewN ?_ _|refine blk_drew ?_|refine blk_alloc ?_ _); refine blk_far ?_ NB223_225.out _; (with_reducible repeat first|refine blk_drewN ?_ _|refine blk_drew ?_|refine blk_alloc ?_ _); refine blk_far ?_ NB223_225.out _; (with_reducible repeat first|refine blk_drewN ?_ _|refine blk_drew ?_|refine blk_alloc ?_ _); exact BK223.out) hb); have n2_ := AX (blk_below (g := gb225) (o := .cells #[.int .i64 a1, .int .i64 a0_1, .int .i64 a0_2] 24 (0, 0)) (by (with_reducible repeat first|refine blk_drewN ?_ _|refine blk_drew ?_|refine blk_alloc ?_ _); refine blk_put (cs := #[.int .i64 a1, .int .i64 a0_1, .int .i64 0]) ?_ 2 _ rfl; (with_reducible repeat first|refine blk_drewN ?_ _|refine blk_drew ?_|refine blk_alloc ?_ _); refine blk_put (cs := #[.int .i64 a1, .int .i64 0, .int .i64 0]) ?_ 1 _ rfl; (with_reducible repeat first|refine blk_drewN ?_ _|refine blk_drew ?_|refine blk_alloc ?_ _); refine blk_put (cs := #[.int .i64 0, .int .i64 0, .int .i64 0]) ?_ 0 _ rfl; (with_reducible repeat first|refine blk_drewN ?_ _|refine blk_drew ?_|refine blk_alloc ?_ _); exact BK225.out) hb); have n3_ := AX (below_step bw hb); clear BK222; clear BK223; clear BK225; clear HB; have BK222 := n0_; have BK223 := n1_; have BK225 := n2_; have HB := n3_; clear n0_ n1_ n2_ n3_; (try clear hb); obtain ⟨hcz34_0, hcz34_1, hcz34_2⟩ := blkC3 (w := w33) BK223.out; obtain ⟨hfz34_0, hfz34_1, hfz34_2⟩ := blkF3 BK223.out))
       refine bodyPost_ret (results_ct rfl _ _ gb223 24 #[.int .i64 0, .int .i64 0, .int .i64 0] (0, 0) _ rfl (by (with_reducible repeat first|refine blk_drewN ?_ _|refine blk_drew ?_|refine blk_alloc ?_ _); refine blk_put (cs := #[.int .i64 0, .int .i64 0, .int .i64 0]) ?_ 2 _ rfl; (with_reducible repeat first|refine blk_drewN ?_ _|refine blk_drew ?_|refine blk_alloc ?_ _); refine blk_put (cs := #[.int .i64 0, .int .i64 0, .int .i64 0]) ?_ 1 _ rfl; (with_reducible repeat first|refine blk_drewN ?_ _|refine blk_drew ?_|refine blk_alloc ?_ _); refine blk_put (cs := #[.int .i64 0, .int .i64 0, .int .i64 0]) ?_ 0 _ rfl; (with_reducible repeat first|refine blk_drewN ?_ _|refine blk_drew ?_|refine blk_alloc ?_ _); exact BK223.out) Try.underlying24 rfl (by kernel_rfl)) rfl ?_
       exact ⟨by first | rfl | (simp [errW_none, errW_some] <;> rfl) | (simp [*, errW_none, errW_some] <;> rfl), bw⟩
     ·rw [if_neg c15] at H
      have c15b0 : (a0_0 == 1) = false := beq_eq_false_iff_ne.mpr c15
      have c15b1 : (a0_0 != 1) = true := bne_iff_ne.mpr c15
      by_cases c35 : a0_0 = 2
      ·rw [if_pos c35] at H
       have c35b0 : (a0_0 == 2) = true := beq_iff_eq.mpr c35
       have c35b1 : (a0_0 != 2) = false := bne_eq_false_iff_eq.mpr c35
       clear c35
       replace H := Option.bind_eq_some_iff.mp H
       obtain ⟨⟨t227, t228, t229, t230⟩, A360, H⟩ := H
       replace H : (some (t227, t228, t229, 0)) = some (r1, r2, r3, r4) := H
       have A36 := AX A360
       clear A360
       simp only [Option.some.injEq, Prod.mk.injEq] at H
       obtain ⟨rfl, rfl, rfl, rfl⟩ := H
       have hnb37 := NB222_223.out
       have hnc37 := NB223_222.out
       obtain ⟨hcz38_0, hcz38_1, hcz38_2, hcz38_3⟩ := blkC4 (w := wc) BK222.out
       obtain ⟨hfz38_0, hfz38_1, hfz38_2, hfz38_3⟩ := blkF4 BK222.out
       go_wp2_with (first | ((with_reducible refine gate_callee (f := 90) rfl ?_); refine goesL_ (some 48) rfl rfl Try.func90 (by kernel_rfl) rfl #[.int .i64 a1, .int .i64 a0_1, .int .i64 a0_2, .int .i64 a0_3] rfl (by (try simp only [List.map_toArray, List.map_cons, List.map_nil]); first | done | rfl | (simp only [List.length_drop, List.length_take]; rfl)) ?_; (with_reducible refine (pylonref03_Nth.calls kj4 a1 a0_1 a0_2 a0_3 t227 t228 t229 t230 _ A36.out).mono ?_); rintro e w39 ⟨rfl, hb⟩; refine ⟨_, rfl, ?_⟩; have n0_ := AX (bkb BK222 hb); have n1_ := AX (bkb BK223 hb); have n2_ := AX (below_step bw hb); clear BK222; clear BK223; clear HB; have BK222 := n0_; have BK223 := n1_; have HB := n2_; clear n0_ n1_ n2_; (try clear hb)) | ((with_reducible refine gate_dst (N := 7) rfl ?_); refine box_event ?hg (N := 7) ?hd (cs := #[.int .i64 0, .int .i64 0, .int .i64 0]) (t := 24) ?hr ?_; (case hd => rfl); (case hg => rfl); (case hr => first | (go_simp; done) | (go_simp; rfl)); intro gb231 hg w40 hbox hb; have n0_ := AX (bkb BK222 hb); have n1_ := AX (bkb BK223 hb); have n2_ := AX (below_step bw hb); have n3_ := AX (hbox); have n4_ := AX ((by rw [hg]; exact (below_size bw) : w.heap.size ≤ gb231)); have n5_ := AX ((by rw [hg]; exact (below_size bw) : w.heap.size ≤ gb231)); have n6_ := AX ((by rw [hg]; exact Nat.ne_of_lt (blk_lt (g := gb222) (o := .cells #[.int .i64 a0_0, .int .i64 a0_1, .int .i64 a0_2, .int .i64 a0_3] 65 (0, 0)) (bkn BK222)) : gb222 ≠ gb231)); have n7_ := AX ((by rw [hg]; exact Nat.ne_of_gt (blk_lt (g := gb222) (o := .cells #[.int .i64 a0_0, .int .i64 a0_1, .int .i64 a0_2, .int .i64 a0_3] 65 (0, 0)) (bkn BK222)) : gb231 ≠ gb222)); have n8_ := AX ((by rw [hg]; exact Nat.ne_of_lt (blk_lt (g := gb223) (o := .cells #[.int .i64 0, .int .i64 0, .int .i64 0] 24 (0, 0)) (bkn BK223)) : gb223 ≠ gb231)); have n9_ := AX ((by rw [hg]; exact Nat.ne_of_gt (blk_lt (g := gb223) (o := .cells #[.int .i64 0, .int .i64 0, .int .i64 0] 24 (0, 0)) (bkn BK223)) : gb231 ≠ gb223)); clear BK222; clear BK223; clear HB; have BK222 := n0_; have BK223 := n1_; have HB := n2_; have BK231 := n3_; have GW231 := n4_; have GE231 := n5_; have NB222_231 := n6_; have NB231_222 := n7_; have NB223_231 := n8_; have NB231_223 := n9_; clear n0_ n1_ n2_ n3_ n4_ n5_ n6_ n7_ n8_ n9_; clear hb hbox hg; have hnb41 := NB231_222.out; have hnc41 := NB222_231.out; have hnb42 := NB231_223.out; have hnc42 := NB223_231.out; obtain ⟨hcz43_0, hcz43_1, hcz43_2⟩ := blkC3 (w := w40) BK231.out; obtain ⟨hfz43_0, hfz43_1, hfz43_2⟩ := blkF3 BK231.out; obtain ⟨hcz44_0, hcz44_1, hcz44_2⟩ := blkC3 (w := w40) BK223.out; obtain ⟨hfz44_0, hfz44_1, hfz44_2⟩ := blkF3 BK223.out))
       refine bodyPost_ret (results_ct rfl _ _ gb223 24 #[.int .i64 t227, .int .i64 t228, .int .i64 t229] (0, 0) _ rfl (by (with_reducible repeat first|refine blk_drewN ?_ _|refine blk_drew ?_|refine blk_alloc ?_ _); refine blk_put (cs := #[.int .i64 t227, .int .i64 t228, .int .i64 0]) ?_ 2 _ rfl; (with_reducible repeat first|refine blk_drewN ?_ _|refine blk_drew ?_|refine blk_alloc ?_ _); refine blk_put (cs := #[.int .i64 t227, .int .i64 0, .int .i64 0]) ?_ 1 _ rfl; (with_reducible repeat first|refine blk_drewN ?_ _|refine blk_drew ?_|refine blk_alloc ?_ _); refine blk_put (cs := #[.int .i64 0, .int .i64 0, .int .i64 0]) ?_ 0 _ rfl; (with_reducible repeat first|refine blk_drewN ?_ _|refine blk_drew ?_|refine blk_alloc ?_ _); refine blk_far ?_ NB223_231.out _; (with_reducible repeat first|refine blk_drewN ?_ _|refine blk_drew ?_|refine blk_alloc ?_ _); refine blk_far ?_ NB223_231.out _; (with_reducible repeat first|refine blk_drewN ?_ _|refine blk_drew ?_|refine blk_alloc ?_ _); refine blk_far ?_ NB223_231.out _; (with_reducible repeat first|refine blk_drewN ?_ _|refine blk_drew ?_|refine blk_alloc ?_ _); exact BK223.out) Try.underlying24 rfl (by kernel_rfl)) rfl ?_
       exact ⟨by first | rfl | (simp [errW_none, errW_some] <;> rfl) | (simp [*, errW_none, errW_some] <;> rfl), bw⟩
      ·rw [if_neg c35] at H
       have c35b0 : (a0_0 == 2) = false := beq_eq_false_iff_ne.mpr c35
       have c35b1 : (a0_0 != 2) = true := bne_iff_ne.mpr c35
       replace H := Option.bind_eq_some_iff.mp H
       obtain ⟨⟨t232, t233, t234, t235⟩, A450, H⟩ := H
       replace H : ((pylonref03_Add.f kj4 t232 t233 t234 a0_1).bind fun bt237 => (if bt237.2.2.2 = 0 then (some (bt237.1, bt237.2.1, bt237.2.2.1, 0)) else (some (0, 0, 0, 7)))) = some (r1, r2, r3, r4) := H
       have A45 := AX A450
       clear A450
       replace H := Option.bind_eq_some_iff.mp H
       obtain ⟨⟨t237, t238, t239, t240⟩, A460, H⟩ := H
       replace H : (if t240 = 0 then (some (t237, t238, t239, 0)) else (some (0, 0, 0, 7))) = some (r1, r2, r3, r4) := H
       have A46 := AX A460
       clear A460
       by_cases c47 : t240 = 0
       ·rw [if_pos c47] at H
        have c47b0 : (t240 == 0) = true := beq_iff_eq.mpr c47
        have c47b1 : (t240 != 0) = false := bne_eq_false_iff_eq.mpr c47
        clear c47
        simp only [Option.some.injEq, Prod.mk.injEq] at H
        obtain ⟨rfl, rfl, rfl, rfl⟩ := H
        have hnb48 := NB222_223.out
        have hnc48 := NB223_222.out
        obtain ⟨hcz49_0, hcz49_1, hcz49_2, hcz49_3⟩ := blkC4 (w := wc) BK222.out
        obtain ⟨hfz49_0, hfz49_1, hfz49_2, hfz49_3⟩ := blkF4 BK222.out
        go_wp2_with (first | ((with_reducible refine gate_callee (f := 68) rfl ?_); refine goesL_ (some 54) rfl rfl Try.func68 (by kernel_rfl) rfl #[.int .i64 a1] rfl (by (try simp only [List.map_toArray, List.map_cons, List.map_nil]); first | done | rfl | (simp only [List.length_drop, List.length_take]; rfl)) ?_; (with_reducible refine (pylonref05_Easter.calls a1 t232 t233 t234 t235 _ A45.out).mono ?_); rintro e w50 ⟨rfl, hb⟩; refine ⟨_, rfl, ?_⟩; have n0_ := AX (bkb BK222 hb); have n1_ := AX (bkb BK223 hb); have n2_ := AX (below_step bw hb); clear BK222; clear BK223; clear HB; have BK222 := n0_; have BK223 := n1_; have HB := n2_; clear n0_ n1_ n2_; (try clear hb)) | ((with_reducible refine gate_dst (N := 9) rfl ?_); refine box_event ?hg (N := 9) ?hd (cs := #[.int .i64 0, .int .i64 0, .int .i64 0]) (t := 24) ?hr ?_; (case hd => rfl); (case hg => rfl); (case hr => first | (go_simp; done) | (go_simp; rfl)); intro gb236 hg w51 hbox hb; have n0_ := AX (bkb BK222 hb); have n1_ := AX (bkb BK223 hb); have n2_ := AX (below_step bw hb); have n3_ := AX (hbox); have n4_ := AX ((by rw [hg]; exact (below_size bw) : w.heap.size ≤ gb236)); have n5_ := AX ((by rw [hg]; exact (below_size bw) : w.heap.size ≤ gb236)); have n6_ := AX ((by rw [hg]; exact Nat.ne_of_lt (blk_lt (g := gb222) (o := .cells #[.int .i64 a0_0, .int .i64 a0_1, .int .i64 a0_2, .int .i64 a0_3] 65 (0, 0)) (bkn BK222)) : gb222 ≠ gb236)); have n7_ := AX ((by rw [hg]; exact Nat.ne_of_gt (blk_lt (g := gb222) (o := .cells #[.int .i64 a0_0, .int .i64 a0_1, .int .i64 a0_2, .int .i64 a0_3] 65 (0, 0)) (bkn BK222)) : gb236 ≠ gb222)); have n8_ := AX ((by rw [hg]; exact Nat.ne_of_lt (blk_lt (g := gb223) (o := .cells #[.int .i64 0, .int .i64 0, .int .i64 0] 24 (0, 0)) (bkn BK223)) : gb223 ≠ gb236)); have n9_ := AX ((by rw [hg]; exact Nat.ne_of_gt (blk_lt (g := gb223) (o := .cells #[.int .i64 0, .int .i64 0, .int .i64 0] 24 (0, 0)) (bkn BK223)) : gb236 ≠ gb223)); clear BK222; clear BK223; clear HB; have BK222 := n0_; have BK223 := n1_; have HB := n2_; have BK236 := n3_; have GW236 := n4_; have GE236 := n5_; have NB222_236 := n6_; have NB236_222 := n7_; have NB223_236 := n8_; have NB236_223 := n9_; clear n0_ n1_ n2_ n3_ n4_ n5_ n6_ n7_ n8_ n9_; clear hb hbox hg; have hnb52 := NB236_222.out; have hnc52 := NB222_236.out; have hnb53 := NB236_223.out; have hnc53 := NB223_236.out; obtain ⟨hcz54_0, hcz54_1, hcz54_2⟩ := blkC3 (w := w51) BK236.out; obtain ⟨hfz54_0, hfz54_1, hfz54_2⟩ := blkF3 BK236.out; obtain ⟨hcz55_0, hcz55_1, hcz55_2, hcz55_3⟩ := blkC4 (w := w51) BK222.out; obtain ⟨hfz55_0, hfz55_1, hfz55_2, hfz55_3⟩ := blkF4 BK222.out) | ((with_reducible refine gate_callee (f := 91) rfl ?_); refine goesL_ (some 61) rfl rfl Try.func91 (by kernel_rfl) rfl #[.agg #[.int .i64 t232, .int .i64 t233, .int .i64 t234], .int .i64 a0_1] rfl (by (try simp only [List.map_toArray, List.map_cons, List.map_nil]); first | done | rfl | (simp only [List.length_drop, List.length_take]; rfl)) ?_; (with_reducible refine (pylonref03_Add.calls kj4 t232 t233 t234 a0_1 t237 t238 t239 t240 _ A46.out).mono ?_); rintro e w56 ⟨rfl, hb⟩; refine ⟨_, rfl, ?_⟩; have n0_ := AX (blk_below (g := gb222) (o := .cells #[.int .i64 a0_0, .int .i64 a0_1, .int .i64 a0_2, .int .i64 a0_3] 65 (0, 0)) (by (with_reducible repeat first|refine blk_drewN ?_ _|refine blk_drew ?_|refine blk_alloc ?_ _); refine blk_far ?_ NB222_236.out _; (with_reducible repeat first|refine blk_drewN ?_ _|refine blk_drew ?_|refine blk_alloc ?_ _); refine blk_far ?_ NB222_236.out _; (with_reducible repeat first|refine blk_drewN ?_ _|refine blk_drew ?_|refine blk_alloc ?_ _); refine blk_far ?_ NB222_236.out _; (with_reducible repeat first|refine blk_drewN ?_ _|refine blk_drew ?_|refine blk_alloc ?_ _); exact BK222.out) hb); have n1_ := AX (blk_below (g := gb223) (o := .cells #[.int .i64 0, .int .i64 0, .int .i64 0] 24 (0, 0)) (by (with_reducible repeat first|refine blk_drewN ?_ _|refine blk_drew ?_|refine blk_alloc ?_ _); refine blk_far ?_ NB223_236.out _; (with_reducible repeat first|refine blk_drewN ?_ _|refine blk_drew ?_|refine blk_alloc ?_ _); refine blk_far ?_ NB223_236.out _; (with_reducible repeat first|refine blk_drewN ?_ _|refine blk_drew ?_|refine blk_alloc ?_ _); refine blk_far ?_ NB223_236.out _; (with_reducible repeat first|refine blk_drewN ?_ _|refine blk_drew ?_|refine blk_alloc ?_ _); exact BK223.out) hb); have n2_ := AX (blk_below (g := gb236) (o := .cells #[.int .i64 t232, .int .i64 t233, .int .i64 t234] 24 (0, 0)) (by (with_reducible repeat first|refine blk_drewN ?_ _|refine blk_drew ?_|refine blk_alloc ?_ _); refine blk_put (cs := #[.int .i64 t232, .int .i64 t233, .int .i64 0]) ?_ 2 _ rfl; (with_reducible repeat first|refine blk_drewN ?_ _|refine blk_drew ?_|refine blk_alloc ?_ _); refine blk_put (cs := #[.int .i64 t232, .int .i64 0, .int .i64 0]) ?_ 1 _ rfl; (with_reducible repeat first|refine blk_drewN ?_ _|refine blk_drew ?_|refine blk_alloc ?_ _); refine blk_put (cs := #[.int .i64 0, .int .i64 0, .int .i64 0]) ?_ 0 _ rfl; (with_reducible repeat first|refine blk_drewN ?_ _|refine blk_drew ?_|refine blk_alloc ?_ _); exact BK236.out) hb); have n3_ := AX (below_step bw hb); clear BK222; clear BK223; clear BK236; clear HB; have BK222 := n0_; have BK223 := n1_; have BK236 := n2_; have HB := n3_; clear n0_ n1_ n2_ n3_; (try clear hb); obtain ⟨hcz57_0, hcz57_1, hcz57_2⟩ := blkC3 (w := w56) BK236.out; obtain ⟨hfz57_0, hfz57_1, hfz57_2⟩ := blkF3 BK236.out; obtain ⟨hcz58_0, hcz58_1, hcz58_2⟩ := blkC3 (w := w56) BK223.out; obtain ⟨hfz58_0, hfz58_1, hfz58_2⟩ := blkF3 BK223.out))
        refine bodyPost_ret (results_ct rfl _ _ gb223 24 #[.int .i64 t237, .int .i64 t238, .int .i64 t239] (0, 0) _ rfl (by (with_reducible repeat first|refine blk_drewN ?_ _|refine blk_drew ?_|refine blk_alloc ?_ _); refine blk_put (cs := #[.int .i64 t237, .int .i64 t238, .int .i64 0]) ?_ 2 _ rfl; (with_reducible repeat first|refine blk_drewN ?_ _|refine blk_drew ?_|refine blk_alloc ?_ _); refine blk_put (cs := #[.int .i64 t237, .int .i64 0, .int .i64 0]) ?_ 1 _ rfl; (with_reducible repeat first|refine blk_drewN ?_ _|refine blk_drew ?_|refine blk_alloc ?_ _); refine blk_put (cs := #[.int .i64 0, .int .i64 0, .int .i64 0]) ?_ 0 _ rfl; (with_reducible repeat first|refine blk_drewN ?_ _|refine blk_drew ?_|refine blk_alloc ?_ _); refine blk_far ?_ NB223_236.out _; (with_reducible repeat first|refine blk_drewN ?_ _|refine blk_drew ?_|refine blk_alloc ?_ _); refine blk_far ?_ NB223_236.out _; (with_reducible repeat first|refine blk_drewN ?_ _|refine blk_drew ?_|refine blk_alloc ?_ _); refine blk_far ?_ NB223_236.out _; (with_reducible repeat first|refine blk_drewN ?_ _|refine blk_drew ?_|refine blk_alloc ?_ _); exact BK223.out) Try.underlying24 rfl (by kernel_rfl)) rfl ?_
        exact ⟨by first | rfl | (simp [errW_none, errW_some] <;> rfl) | (simp [*, errW_none, errW_some] <;> rfl), bw⟩
       ·rw [if_neg c47] at H
        have c47b0 : (t240 == 0) = false := beq_eq_false_iff_ne.mpr c47
        have c47b1 : (t240 != 0) = true := bne_iff_ne.mpr c47
        simp only [Option.some.injEq, Prod.mk.injEq] at H
        obtain ⟨rfl, rfl, rfl, rfl⟩ := H
        have hnb59 := NB222_223.out
        have hnc59 := NB223_222.out
        obtain ⟨hcz60_0, hcz60_1, hcz60_2, hcz60_3⟩ := blkC4 (w := wc) BK222.out
        obtain ⟨hfz60_0, hfz60_1, hfz60_2, hfz60_3⟩ := blkF4 BK222.out
        go_wp2_with (first | ((with_reducible refine gate_callee (f := 68) rfl ?_); refine goesL_ (some 54) rfl rfl Try.func68 (by kernel_rfl) rfl #[.int .i64 a1] rfl (by (try simp only [List.map_toArray, List.map_cons, List.map_nil]); first | done | rfl | (simp only [List.length_drop, List.length_take]; rfl)) ?_; (with_reducible refine (pylonref05_Easter.calls a1 t232 t233 t234 t235 _ A45.out).mono ?_); rintro e w61 ⟨rfl, hb⟩; refine ⟨_, rfl, ?_⟩; have n0_ := AX (bkb BK222 hb); have n1_ := AX (bkb BK223 hb); have n2_ := AX (below_step bw hb); clear BK222; clear BK223; clear HB; have BK222 := n0_; have BK223 := n1_; have HB := n2_; clear n0_ n1_ n2_; (try clear hb)) | ((with_reducible refine gate_dst (N := 9) rfl ?_); refine box_event ?hg (N := 9) ?hd (cs := #[.int .i64 0, .int .i64 0, .int .i64 0]) (t := 24) ?hr ?_; (case hd => rfl); (case hg => rfl); (case hr => first | (go_simp; done) | (go_simp; rfl)); intro gb236 hg w62 hbox hb; have n0_ := AX (bkb BK222 hb); have n1_ := AX (bkb BK223 hb); have n2_ := AX (below_step bw hb); have n3_ := AX (hbox); have n4_ := AX ((by rw [hg]; exact (below_size bw) : w.heap.size ≤ gb236)); have n5_ := AX ((by rw [hg]; exact (below_size bw) : w.heap.size ≤ gb236)); have n6_ := AX ((by rw [hg]; exact Nat.ne_of_lt (blk_lt (g := gb222) (o := .cells #[.int .i64 a0_0, .int .i64 a0_1, .int .i64 a0_2, .int .i64 a0_3] 65 (0, 0)) (bkn BK222)) : gb222 ≠ gb236)); have n7_ := AX ((by rw [hg]; exact Nat.ne_of_gt (blk_lt (g := gb222) (o := .cells #[.int .i64 a0_0, .int .i64 a0_1, .int .i64 a0_2, .int .i64 a0_3] 65 (0, 0)) (bkn BK222)) : gb236 ≠ gb222)); have n8_ := AX ((by rw [hg]; exact Nat.ne_of_lt (blk_lt (g := gb223) (o := .cells #[.int .i64 0, .int .i64 0, .int .i64 0] 24 (0, 0)) (bkn BK223)) : gb223 ≠ gb236)); have n9_ := AX ((by rw [hg]; exact Nat.ne_of_gt (blk_lt (g := gb223) (o := .cells #[.int .i64 0, .int .i64 0, .int .i64 0] 24 (0, 0)) (bkn BK223)) : gb236 ≠ gb223)); clear BK222; clear BK223; clear HB; have BK222 := n0_; have BK223 := n1_; have HB := n2_; have BK236 := n3_; have GW236 := n4_; have GE236 := n5_; have NB222_236 := n6_; have NB236_222 := n7_; have NB223_236 := n8_; have NB236_223 := n9_; clear n0_ n1_ n2_ n3_ n4_ n5_ n6_ n7_ n8_ n9_; clear hb hbox hg; have hnb63 := NB236_222.out; have hnc63 := NB222_236.out; have hnb64 := NB236_223.out; have hnc64 := NB223_236.out; obtain ⟨hcz65_0, hcz65_1, hcz65_2⟩ := blkC3 (w := w62) BK236.out; obtain ⟨hfz65_0, hfz65_1, hfz65_2⟩ := blkF3 BK236.out; obtain ⟨hcz66_0, hcz66_1, hcz66_2, hcz66_3⟩ := blkC4 (w := w62) BK222.out; obtain ⟨hfz66_0, hfz66_1, hfz66_2, hfz66_3⟩ := blkF4 BK222.out) | ((with_reducible refine gate_callee (f := 91) rfl ?_); refine goesL_ (some 61) rfl rfl Try.func91 (by kernel_rfl) rfl #[.agg #[.int .i64 t232, .int .i64 t233, .int .i64 t234], .int .i64 a0_1] rfl (by (try simp only [List.map_toArray, List.map_cons, List.map_nil]); first | done | rfl | (simp only [List.length_drop, List.length_take]; rfl)) ?_; (with_reducible refine (pylonref03_Add.calls kj4 t232 t233 t234 a0_1 t237 t238 t239 t240 _ A46.out).mono ?_); rintro e w67 ⟨rfl, hb⟩; refine ⟨_, rfl, ?_⟩; have n0_ := AX (blk_below (g := gb222) (o := .cells #[.int .i64 a0_0, .int .i64 a0_1, .int .i64 a0_2, .int .i64 a0_3] 65 (0, 0)) (by (with_reducible repeat first|refine blk_drewN ?_ _|refine blk_drew ?_|refine blk_alloc ?_ _); refine blk_far ?_ NB222_236.out _; (with_reducible repeat first|refine blk_drewN ?_ _|refine blk_drew ?_|refine blk_alloc ?_ _); refine blk_far ?_ NB222_236.out _; (with_reducible repeat first|refine blk_drewN ?_ _|refine blk_drew ?_|refine blk_alloc ?_ _); refine blk_far ?_ NB222_236.out _; (with_reducible repeat first|refine blk_drewN ?_ _|refine blk_drew ?_|refine blk_alloc ?_ _); exact BK222.out) hb); have n1_ := AX (blk_below (g := gb223) (o := .cells #[.int .i64 0, .int .i64 0, .int .i64 0] 24 (0, 0)) (by (with_reducible repeat first|refine blk_drewN ?_ _|refine blk_drew ?_|refine blk_alloc ?_ _); refine blk_far ?_ NB223_236.out _; (with_reducible repeat first|refine blk_drewN ?_ _|refine blk_drew ?_|refine blk_alloc ?_ _); refine blk_far ?_ NB223_236.out _; (with_reducible repeat first|refine blk_drewN ?_ _|refine blk_drew ?_|refine blk_alloc ?_ _); refine blk_far ?_ NB223_236.out _; (with_reducible repeat first|refine blk_drewN ?_ _|refine blk_drew ?_|refine blk_alloc ?_ _); exact BK223.out) hb); have n2_ := AX (blk_below (g := gb236) (o := .cells #[.int .i64 t232, .int .i64 t233, .int .i64 t234] 24 (0, 0)) (by (with_reducible repeat first|refine blk_drewN ?_ _|refine blk_drew ?_|refine blk_alloc ?_ _); refine blk_put (cs := #[.int .i64 t232, .int .i64 t233, .int .i64 0]) ?_ 2 _ rfl; (with_reducible repeat first|refine blk_drewN ?_ _|refine blk_drew ?_|refine blk_alloc ?_ _); refine blk_put (cs := #[.int .i64 t232, .int .i64 0, .int .i64 0]) ?_ 1 _ rfl; (with_reducible repeat first|refine blk_drewN ?_ _|refine blk_drew ?_|refine blk_alloc ?_ _); refine blk_put (cs := #[.int .i64 0, .int .i64 0, .int .i64 0]) ?_ 0 _ rfl; (with_reducible repeat first|refine blk_drewN ?_ _|refine blk_drew ?_|refine blk_alloc ?_ _); exact BK236.out) hb); have n3_ := AX (below_step bw hb); clear BK222; clear BK223; clear BK236; clear HB; have BK222 := n0_; have BK223 := n1_; have BK236 := n2_; have HB := n3_; clear n0_ n1_ n2_ n3_; (try clear hb); obtain ⟨hcz68_0, hcz68_1, hcz68_2⟩ := blkC3 (w := w67) BK236.out; obtain ⟨hfz68_0, hfz68_1, hfz68_2⟩ := blkF3 BK236.out; obtain ⟨hcz69_0, hcz69_1, hcz69_2⟩ := blkC3 (w := w67) BK223.out; obtain ⟨hfz69_0, hfz69_1, hfz69_2⟩ := blkF3 BK223.out))
        refine bodyPost_ret (results_ct rfl _ _ gb223 24 #[.int .i64 0, .int .i64 0, .int .i64 0] (0, 0) _ rfl (by (with_reducible repeat first|refine blk_drewN ?_ _|refine blk_drew ?_|refine blk_alloc ?_ _); refine blk_put (cs := #[.int .i64 0, .int .i64 0, .int .i64 0]) ?_ 2 _ rfl; (with_reducible repeat first|refine blk_drewN ?_ _|refine blk_drew ?_|refine blk_alloc ?_ _); refine blk_put (cs := #[.int .i64 0, .int .i64 0, .int .i64 0]) ?_ 1 _ rfl; (with_reducible repeat first|refine blk_drewN ?_ _|refine blk_drew ?_|refine blk_alloc ?_ _); refine blk_put (cs := #[.int .i64 0, .int .i64 0, .int .i64 0]) ?_ 0 _ rfl; (with_reducible repeat first|refine blk_drewN ?_ _|refine blk_drew ?_|refine blk_alloc ?_ _); refine blk_far ?_ NB223_236.out _; (with_reducible repeat first|refine blk_drewN ?_ _|refine blk_drew ?_|refine blk_alloc ?_ _); refine blk_far ?_ NB223_236.out _; (with_reducible repeat first|refine blk_drewN ?_ _|refine blk_drew ?_|refine blk_alloc ?_ _); refine blk_far ?_ NB223_236.out _; (with_reducible repeat first|refine blk_drewN ?_ _|refine blk_drew ?_|refine blk_alloc ?_ _); exact BK223.out) Try.underlying24 rfl (by kernel_rfl)) rfl ?_
        exact ⟨by first | rfl | (simp [errW_none, errW_some] <;> rfl) | (simp [*, errW_none, errW_some] <;> rfl), bw⟩
 ·rw [if_neg c4] at H
  have c4b0 : (t224 == 0) = false := beq_eq_false_iff_ne.mpr c4
  have c4b1 : (t224 != 0) = true := bne_iff_ne.mpr c4
  simp only [Option.some.injEq, Prod.mk.injEq] at H
  obtain ⟨rfl, rfl, rfl, rfl⟩ := H
  go_enter Try.func69, Try.ntmps69
  go_wp2_with (first | ((with_reducible refine gate_dst (N := 2) rfl ?_); refine box_event ?hg (N := 2) ?hd (cs := #[.int .i64 a0_0, .int .i64 a0_1, .int .i64 a0_2, .int .i64 a0_3]) (t := 65) ?hr ?_; (case hd => rfl); (case hg => rfl); (case hr => first | (go_simp; done) | (go_simp; rfl)); intro gb222 hg w70 hbox hb; have n0_ := AX (below_step bw hb); have n1_ := AX (hbox); have n2_ := AX ((by rw [hg]; exact (below_size bw) : w.heap.size ≤ gb222)); have n3_ := AX ((by rw [hg]; exact (below_size bw) : w.heap.size ≤ gb222)); clear HB; have HB := n0_; have BK222 := n1_; have GW222 := n2_; have GE222 := n3_; clear n0_ n1_ n2_ n3_; clear hb hbox hg) | ((with_reducible refine gate_dst (N := 4) rfl ?_); refine box_event ?hg (N := 4) ?hd (cs := #[.int .i64 0, .int .i64 0, .int .i64 0]) (t := 24) ?hr ?_; (case hd => rfl); (case hg => rfl); (case hr => first | (go_simp; done) | (go_simp; rfl)); intro gb223 hg w71 hbox hb; have n0_ := AX (bkb BK222 hb); have n1_ := AX (below_step bw hb); have n2_ := AX (hbox); have n3_ := AX ((by rw [hg]; exact (below_size bw) : w.heap.size ≤ gb223)); have n4_ := AX ((by rw [hg]; exact (below_size bw) : w.heap.size ≤ gb223)); have n5_ := AX ((by rw [hg]; exact Nat.ne_of_lt (blk_lt (g := gb222) (o := .cells #[.int .i64 a0_0, .int .i64 a0_1, .int .i64 a0_2, .int .i64 a0_3] 65 (0, 0)) (bkn BK222)) : gb222 ≠ gb223)); have n6_ := AX ((by rw [hg]; exact Nat.ne_of_gt (blk_lt (g := gb222) (o := .cells #[.int .i64 a0_0, .int .i64 a0_1, .int .i64 a0_2, .int .i64 a0_3] 65 (0, 0)) (bkn BK222)) : gb223 ≠ gb222)); clear BK222; clear HB; have BK222 := n0_; have HB := n1_; have BK223 := n2_; have GW223 := n3_; have GE223 := n4_; have NB222_223 := n5_; have NB223_222 := n6_; clear n0_ n1_ n2_ n3_ n4_ n5_ n6_; clear hb hbox hg; have hnb72 := NB222_223.out; have hnc72 := NB223_222.out; obtain ⟨hcz73_0, hcz73_1, hcz73_2, hcz73_3⟩ := blkC4 (w := w71) BK222.out; obtain ⟨hfz73_0, hfz73_1, hfz73_2, hfz73_3⟩ := blkF4 BK222.out) | ((with_reducible refine gate_callee (f := 37) rfl ?_); refine goesL_ (some 13) rfl rfl Try.func37 (by kernel_rfl) rfl #[.agg #[.int .i64 a0_0, .int .i64 a0_1, .int .i64 a0_2, .int .i64 a0_3]] rfl (by (try simp only [List.map_toArray, List.map_cons, List.map_nil]); first | done | rfl | (simp only [List.length_drop, List.length_take]; rfl)) ?_; (with_reducible refine (pylonref05_Check.calls k a0_0 a0_1 a0_2 a0_3 t224 _ A3.out).mono ?_); rintro e w74 ⟨rfl, hb⟩; refine ⟨_, rfl, ?_⟩; have n0_ := AX (bkb BK222 hb); have n1_ := AX (bkb BK223 hb); have n2_ := AX (below_step bw hb); clear BK222; clear BK223; clear HB; have BK222 := n0_; have BK223 := n1_; have HB := n2_; clear n0_ n1_ n2_; (try clear hb); obtain ⟨hcz75_0, hcz75_1, hcz75_2⟩ := blkC3 (w := w74) BK223.out; obtain ⟨hfz75_0, hfz75_1, hfz75_2⟩ := blkF3 BK223.out))
  refine bodyPost_ret (results_ct rfl _ _ gb223 24 #[.int .i64 0, .int .i64 0, .int .i64 0] (0, 0) _ rfl (by (with_reducible repeat first|refine blk_drewN ?_ _|refine blk_drew ?_|refine blk_alloc ?_ _); refine blk_put (cs := #[.int .i64 0, .int .i64 0, .int .i64 0]) ?_ 2 _ rfl; (with_reducible repeat first|refine blk_drewN ?_ _|refine blk_drew ?_|refine blk_alloc ?_ _); refine blk_put (cs := #[.int .i64 0, .int .i64 0, .int .i64 0]) ?_ 1 _ rfl; (with_reducible repeat first|refine blk_drewN ?_ _|refine blk_drew ?_|refine blk_alloc ?_ _); refine blk_put (cs := #[.int .i64 0, .int .i64 0, .int .i64 0]) ?_ 0 _ rfl; (with_reducible repeat first|refine blk_drewN ?_ _|refine blk_drew ?_|refine blk_alloc ?_ _); exact BK223.out) Try.underlying24 rfl (by kernel_rfl)) rfl ?_
  exact ⟨by first | rfl | (simp [errW_none, errW_some] <;> rfl) | (simp [*, errW_none, errW_some] <;> rfl), bw⟩

end Go.Proofs.Ytkggjjggcbcdiaa.PX
