/- Functions of the program as plain Lean functions, each with a proof that the call in the machine answers just what the plain function says; condition: the plain function answers at all. -/
import Derived.Test.YtddkckpfmleffaaPXx0
import Derived.Test.YtddkckpfmleffaaPXx10
namespace Go.Proofs.Ytddkckpfmleffaa.PX
open Go.RowKit Go.Proofs.YtddkckpfmleffaaW.PrintWords Go.Proofs.YtddkckpfmleffaaW.PrintLast Go.Proofs.YtddkckpfmleffaaW.PrintMore
attribute [local go_sem] max2_int min2_int max_two min_two max_three min_three max_four min_four   -- for this text's walks alone
set_option linter.unusedVariables false
set_option linter.unusedSimpArgs false

/-! ### pylonref13_Begin: function 57 -/
mutual
def pylonref13_Begin.j0 : Nat → Int → Bool → Int → Int → Int → Option (Int × Int × Int × Int)
 | 0, _, _, _, _, _ => none
 | k + 1, x1, x12, x623000, x623001, x623002 => if x12 = true then (some (0, 0, 0, 8)) else ((pylonref03_Is.f k x623000 x623001 x623002).bind fun t624 => (if t624 = true then (if x623002 < x1 then (pylonref13_Begin.j1 k x623000 (wrap64 (x623001 - 1)) x1) else (pylonref13_Begin.j1 k x623000 x623001 x1)) else (some (0, 0, 0, 5))))
def pylonref13_Begin.j1 : Nat → Int → Int → Int → Option (Int × Int × Int × Int)
 | 0, _, _, _ => none
 | k + 1, x626000, x626001, x626002 => if x626001 = 0 then (if (wrap64 (x626000 - 1)) < 1 then (some (0, 0, 0, 5)) else (some (wrap64 (x626000 - 1), 12, x626002, 0))) else (if x626000 < 1 then (some (0, 0, 0, 5)) else (some (x626000, x626001, x626002, 0)))
end
def pylonref13_Begin.f (k : Nat) (a0_0 : Int) (a0_1 : Int) (a0_2 : Int) (a1 : Int) : Option (Int × Int × Int × Int) := if a1 < 1 then (pylonref13_Begin.j0 k a1 true a0_0 a0_1 a0_2) else (pylonref13_Begin.j0 k a1 (decide (a1 > 28)) a0_0 a0_1 a0_2)
theorem pylonref13_Begin.mono_l : ∀ k, (∀ y0 y1 y2 y3 y4, LeO (pylonref13_Begin.j0 k y0 y1 y2 y3 y4) (pylonref13_Begin.j0 (k + 1) y0 y1 y2 y3 y4)) ∧ (∀ y0 y1 y2, LeO (pylonref13_Begin.j1 k y0 y1 y2) (pylonref13_Begin.j1 (k + 1) y0 y1 y2))
 | 0 => ⟨fun _ _ _ _ _ r h => by simp [pylonref13_Begin.j0] at h, fun _ _ _ r h => by simp [pylonref13_Begin.j1] at h⟩
 | k + 1 => by
  obtain ⟨ih0, ih1⟩ := pylonref13_Begin.mono_l k
  refine ⟨?_, ?_⟩
  ·intro y0 y1 y2 y3 y4
   unfold pylonref13_Begin.j0
   repeat' first
   | (with_reducible exact ih0 _ _ _ _ _)
   | (with_reducible exact ih1 _ _ _)
   | (with_reducible exact pylonref03_Is.mono _ _ _ _)
   | (with_reducible exact LeO.refl _)
   | (with_reducible exact LeO.none _)
   | (with_reducible refine LeO.ite ?_ ?_)
   | (with_reducible refine LeO.bind ?_ (fun _ => ?_))
   | exact ih0 _ _ _ _ _
   | exact ih1 _ _ _
   | exact pylonref03_Is.mono _ _ _ _
   | exact LeO.none _
   | refine LeO.ite ?_ ?_
   | refine LeO.bind ?_ (fun _ => ?_)
  ·intro y0 y1 y2
   unfold pylonref13_Begin.j1
   repeat' first
   | (with_reducible exact ih0 _ _ _ _ _)
   | (with_reducible exact ih1 _ _ _)
   | (with_reducible exact pylonref03_Is.mono _ _ _ _)
   | (with_reducible exact LeO.refl _)
   | (with_reducible exact LeO.none _)
   | (with_reducible refine LeO.ite ?_ ?_)
   | (with_reducible refine LeO.bind ?_ (fun _ => ?_))
   | exact ih0 _ _ _ _ _
   | exact ih1 _ _ _
   | exact pylonref03_Is.mono _ _ _ _
   | exact LeO.none _
   | refine LeO.ite ?_ ?_
   | refine LeO.bind ?_ (fun _ => ?_)
theorem pylonref13_Begin.mono : ∀ a0 a1 a2 a3 k, LeO (pylonref13_Begin.f k a0 a1 a2 a3) (pylonref13_Begin.f (k + 1) a0 a1 a2 a3) := by
 intro a0 a1 a2 a3 k
 obtain ⟨ih0, ih1⟩ := pylonref13_Begin.mono_l k
 unfold pylonref13_Begin.f
 repeat' first
   | (with_reducible exact ih0 _ _ _ _ _)
   | (with_reducible exact ih1 _ _ _)
   | (with_reducible exact pylonref03_Is.mono _ _ _ _)
   | (with_reducible exact LeO.refl _)
   | (with_reducible exact LeO.none _)
   | (with_reducible refine LeO.ite ?_ ?_)
   | (with_reducible refine LeO.bind ?_ (fun _ => ?_))
   | exact ih0 _ _ _ _ _
   | exact ih1 _ _ _
   | exact pylonref03_Is.mono _ _ _ _
   | exact LeO.none _
   | refine LeO.ite ?_ ?_
   | refine LeO.bind ?_ (fun _ => ?_)
set_option maxHeartbeats 8000000 in
set_option maxRecDepth 100000 in
theorem pylonref13_Begin.calls (k : Nat) (a0_0 : Int) (a0_1 : Int) (a0_2 : Int) (a1 : Int) (r1 : Int) (r2 : Int) (r3 : Int) (r4 : Int) (w : World) (h : pylonref13_Begin.f k a0_0 a0_1 a0_2 a1 = some (r1, r2, r3, r4)) :
  Calls Try.prog 57 #[.agg #[.int .i64 a0_0, .int .i64 a0_1, .int .i64 a0_2], .int .i64 a1] w fun e w' => e = .returned (.tuple #[.agg #[.int .i64 r1, .int .i64 r2, .int .i64 r3], .int .i64 r4]) ∧ Below w.heap.size w w' := by
 have hu33 := Try.underlying33
 have HB := AX (Below.refl w.heap.size w)
 have H : (if a1 < 1 then (pylonref13_Begin.j0 k a1 true a0_0 a0_1 a0_2) else (pylonref13_Begin.j0 k a1 (decide (a1 > 28)) a0_0 a0_1 a0_2)) = some (r1, r2, r3, r4) := h
 clear h
 have HC3 := AX H
 clear H
 go_enter Try.func57, Try.ntmps57
 go_upto_region 1 with (first | ((with_reducible refine gate_dst (N := 2) rfl ?_); refine box_event ?hg (N := 2) ?hd (cs := #[.int .i64 a0_0, .int .i64 a0_1, .int .i64 a0_2]) (t := 33) ?hr ?_; (case hd => rfl); (case hg => rfl); (case hr => first | (go_simp; done) | (go_simp; rfl)); intro gb622 hg w4 hbox hb; have n0_ := AX (below_step bw hb); have n1_ := AX (hbox); have n2_ := AX ((by rw [hg]; exact (below_size bw) : w.heap.size ≤ gb622)); have n3_ := n2_; clear HB; have HB := n0_; have BK622 := n1_; have GW622 := n2_; have GE622 := n3_; clear n0_ n1_ n2_ n3_; clear hb hbox hg) | ((with_reducible refine gate_dst (N := 4) rfl ?_); refine box_event ?hg (N := 4) ?hd (cs := #[.int .i64 0, .int .i64 0, .int .i64 0]) (t := 33) ?hr ?_; (case hd => rfl); (case hg => rfl); (case hr => first | (go_simp; done) | (go_simp; rfl)); intro gb623 hg w5 hbox hb; have n0_ := AX (bkb BK622 hb); have n1_ := AX (below_step bw hb); have n2_ := AX (hbox); have n3_ := AX ((by rw [hg]; exact (below_size bw) : w.heap.size ≤ gb623)); have n4_ := n3_; have n5_ := AX ((by rw [hg]; exact Nat.ne_of_lt (blk_lt (bkn BK622)) : gb622 ≠ gb623)); have n6_ := AX ((by rw [hg]; exact Nat.ne_of_gt (blk_lt (bkn BK622)) : gb623 ≠ gb622)); clear BK622; clear HB; have BK622 := n0_; have HB := n1_; have BK623 := n2_; have GW623 := n3_; have GE623 := n4_; have NB622_623 := n5_; have NB623_622 := n6_; clear n0_ n1_ n2_ n3_ n4_ n5_ n6_; clear hb hbox hg))
 (try simp only [Act.put, List.setIfInBounds_toArray, List.set_cons_zero, List.set_cons_succ])
 go_cut [12] (fun v12 wc => ∃ (kq : Nat) (x12_2 : Bool), v12 = .bool x12_2 ∧ Aside0 (pylonref13_Begin.j0 kq a1 x12_2 a0_0 a0_1 a0_2 = some (r1, r2, r3, r4)) ∧ Aside0 (kq ≤ k) ∧ Aside0 (wc.heap[gb622]? = some (.cells #[.int .i64 a0_0, .int .i64 a0_1, .int .i64 a0_2] 33 (0, 0))) ∧ Aside0 (wc.heap[gb623]? = some (.cells #[.int .i64 0, .int .i64 0, .int .i64 0] 33 (0, 0))) ∧ Aside0 (Below w.heap.size w wc))
 case first =>
  have H := HC3.out
  clear HC3
  by_cases c6 : a1 < 1
  ·rw [if_pos c6] at H
   have c6b0 : decide (a1 < 1) = true := decide_eq_true c6
   clear c6
   (first | rw [c6b0] | (simp only [i64_w, i32_w]; rw [c6b0]) | skip)
   have H' := AX H
   clear H
   go_wp2
   go_meet
   case rel => exact ⟨_, (true), (by first | rfl | (simp; done) | (simp [*]; done)), H', ⟨by first | omega | exact Nat.le_refl _⟩, ⟨bkn BK622⟩, ⟨bkn BK623⟩, ⟨bw⟩⟩
  ·rw [if_neg c6] at H
   have c6b0 : decide (a1 < 1) = false := decide_eq_false c6
   clear c6
   (first | rw [c6b0] | (simp only [i64_w, i32_w]; rw [c6b0]) | skip)
   have H' := AX H
   clear H
   go_wp2
   go_meet
   case rel => exact ⟨_, (decide (a1 > 28)), (by first | rfl | (simp; done) | (simp [*]; done)), H', ⟨by first | omega | exact Nat.le_refl _⟩, ⟨bkn BK622⟩, ⟨bkn BK623⟩, ⟨bw⟩⟩
 case rest =>
  clear HC3
  obtain ⟨kq, x12_2, rfl, HA, HJ2, BK622, BK623, HB⟩ := hcut
  cases kq with
  | zero => exact absurd HA.out (by simp [pylonref13_Begin.j0])
  | succ kj2 =>
   have H := HA.out
   clear HA
   simp only [pylonref13_Begin.j0] at H
   by_cases c7 : x12_2 = true
   ·subst c7
    have H1 : (some (0, 0, 0, 8)) = some (r1, r2, r3, r4) := by rw [if_pos rfl] at H; exact H
    clear H
    have H := H1
    clear H1
    simp only [Option.some.injEq, Prod.mk.injEq] at H
    obtain ⟨rfl, rfl, rfl, rfl⟩ := H
    have hnb8 := NB623_622.out
    have hnc8 := NB622_623.out
    obtain ⟨hcz9_0, hcz9_1, hcz9_2⟩ := blkC3 (w := wc) BK623.out
    obtain ⟨hfz9_0, hfz9_1, hfz9_2⟩ := blkF3 BK623.out
    go_wp2
    refine bodyPost_ret (results_ct rfl _ _ gb623 33 #[.int .i64 0, .int .i64 0, .int .i64 0] (0, 0) _ rfl (by (with_reducible repeat first|refine blk_drewN ?_ _|refine blk_drew ?_|refine blk_alloc ?_ _); refine blk_put (cs := #[.int .i64 0, .int .i64 0, .int .i64 0]) ?_ 2 _ rfl; (with_reducible repeat first|refine blk_drewN ?_ _|refine blk_drew ?_|refine blk_alloc ?_ _); refine blk_put (cs := #[.int .i64 0, .int .i64 0, .int .i64 0]) ?_ 1 _ rfl; (with_reducible repeat first|refine blk_drewN ?_ _|refine blk_drew ?_|refine blk_alloc ?_ _); refine blk_put (cs := #[.int .i64 0, .int .i64 0, .int .i64 0]) ?_ 0 _ rfl; (with_reducible repeat first|refine blk_drewN ?_ _|refine blk_drew ?_|refine blk_alloc ?_ _); exact BK623.out) Try.underlying33 rfl (by kernel_rfl)) rfl ?_
    exact ⟨by first | rfl | (simp [errW_none, errW_some] <;> rfl) | (simp [*, errW_none, errW_some] <;> rfl), bw⟩
   ·replace c7 := Bool.eq_false_iff.mpr c7
    subst c7
    have H1 : ((pylonref03_Is.f kj2 a0_0 a0_1 a0_2).bind fun t624 => (if t624 = true then (if a0_2 < a1 then (pylonref13_Begin.j1 kj2 a0_0 (wrap64 (a0_1 - 1)) a1) else (pylonref13_Begin.j1 kj2 a0_0 a0_1 a1)) else (some (0, 0, 0, 5)))) = some (r1, r2, r3, r4) := by rw [if_neg (show ¬ (false = true) by decide)] at H; exact H
    clear H
    have H := H1
    clear H1
    replace H := Option.bind_eq_some_iff.mp H
    obtain ⟨t624, A100, H⟩ := H
    replace H : (if t624 = true then (if a0_2 < a1 then (pylonref13_Begin.j1 kj2 a0_0 (wrap64 (a0_1 - 1)) a1) else (pylonref13_Begin.j1 kj2 a0_0 a0_1 a1)) else (some (0, 0, 0, 5))) = some (r1, r2, r3, r4) := H
    have A10 := AX A100
    clear A100
    by_cases c11 : t624 = true
    ·subst c11
     have H1 : (if a0_2 < a1 then (pylonref13_Begin.j1 kj2 a0_0 (wrap64 (a0_1 - 1)) a1) else (pylonref13_Begin.j1 kj2 a0_0 a0_1 a1)) = some (r1, r2, r3, r4) := by rw [if_pos rfl] at H; exact H
     clear H
     have H := H1
     clear H1
     have HC12 := AX H
     clear H
     have hnb13 := NB622_623.out
     have hnc13 := NB623_622.out
     obtain ⟨hcz14_0, hcz14_1, hcz14_2⟩ := blkC3 (w := wc) BK622.out
     obtain ⟨hfz14_0, hfz14_1, hfz14_2⟩ := blkF3 BK622.out
     go_upto_if 27 with (first | ((with_reducible refine gate_callee (f := 65) rfl ?_); refine goesL_ (some 15) rfl rfl Try.func65 (by kernel_rfl) rfl #[.agg #[.int .i64 a0_0, .int .i64 a0_1, .int .i64 a0_2]] rfl (by (try simp only [List.map_toArray, List.map_cons, List.map_nil]); first | done | rfl | (simp only [List.length_drop, List.length_take]; rfl)) ?_; (with_reducible refine (pylonref03_Is.calls kj2 a0_0 a0_1 a0_2 true _ A10.out).mono ?_); rintro e w15 ⟨rfl, hb⟩; refine ⟨_, rfl, ?_⟩; have n0_ := AX (bkb BK622 hb); have n1_ := AX (bkb BK623 hb); have n2_ := AX (below_step bw hb); clear BK622; clear BK623; clear HB; have BK622 := n0_; have BK623 := n1_; have HB := n2_; clear n0_ n1_ n2_; (try clear hb); obtain ⟨hcz16_0, hcz16_1, hcz16_2⟩ := blkC3 (w := w15) BK622.out; obtain ⟨hfz16_0, hfz16_1, hfz16_2⟩ := blkF3 BK622.out) | ((with_reducible refine gate_dst (N := 6) rfl ?_); refine box_event ?hg (N := 6) ?hd (cs := #[.int .i64 0, .int .i64 0, .int .i64 0]) (t := 33) ?hr ?_; (case hd => rfl); (case hg => rfl); (case hr => first | (go_simp; done) | (go_simp; rfl)); intro gb625 hg w17 hbox hb; have n0_ := AX (bkb BK622 hb); have n1_ := AX (bkb BK623 hb); have n2_ := AX (below_step bw hb); have n3_ := AX (hbox); have n4_ := AX ((by rw [hg]; exact (below_size bw) : w.heap.size ≤ gb625)); have n5_ := n4_; have n6_ := AX ((by rw [hg]; exact Nat.ne_of_lt (blk_lt (bkn BK622)) : gb622 ≠ gb625)); have n7_ := AX ((by rw [hg]; exact Nat.ne_of_gt (blk_lt (bkn BK622)) : gb625 ≠ gb622)); have n8_ := AX ((by rw [hg]; exact Nat.ne_of_lt (blk_lt (bkn BK623)) : gb623 ≠ gb625)); have n9_ := AX ((by rw [hg]; exact Nat.ne_of_gt (blk_lt (bkn BK623)) : gb625 ≠ gb623)); clear BK622; clear BK623; clear HB; have BK622 := n0_; have BK623 := n1_; have HB := n2_; have BK625 := n3_; have GW625 := n4_; have GE625 := n5_; have NB622_625 := n6_; have NB625_622 := n7_; have NB623_625 := n8_; have NB625_623 := n9_; clear n0_ n1_ n2_ n3_ n4_ n5_ n6_ n7_ n8_ n9_; clear hb hbox hg; have hnb18 := NB625_622.out; have hnc18 := NB622_625.out; have hnb19 := NB625_623.out; have hnc19 := NB623_625.out; obtain ⟨hcz20_0, hcz20_1, hcz20_2⟩ := blkC3 (w := w17) BK625.out; obtain ⟨hfz20_0, hfz20_1, hfz20_2⟩ := blkF3 BK625.out; obtain ⟨hcz21_0, hcz21_1, hcz21_2⟩ := blkC3 (w := w17) BK622.out; obtain ⟨hfz21_0, hfz21_1, hfz21_2⟩ := blkF3 BK622.out))
     (try simp only [Act.put, List.setIfInBounds_toArray, List.set_cons_zero, List.set_cons_succ])
     go_cut [] (fun wc => ∃ (kq : Nat) (x626001_11 : Int), Aside0 (pylonref13_Begin.j1 kq a0_0 x626001_11 a1 = some (r1, r2, r3, r4)) ∧ Aside0 (kq ≤ kj2) ∧ Aside0 (wc.heap[gb622]? = some (.cells #[.int .i64 a0_0, .int .i64 a0_1, .int .i64 a0_2] 33 (0, 0))) ∧ Aside0 (wc.heap[gb623]? = some (.cells #[.int .i64 0, .int .i64 0, .int .i64 0] 33 (0, 0))) ∧ Aside0 (wc.heap[gb625]? = some (.cells #[.int .i64 a0_0, .int .i64 x626001_11, .int .i64 a1] 33 (0, 0))) ∧ Aside0 (Below w.heap.size w wc))
     case first =>
      have H := HC12.out
      clear HC12
      by_cases c22 : a0_2 < a1
      ·rw [if_pos c22] at H
       have c22b0 : decide (a0_2 < a1) = true := decide_eq_true c22
       clear c22
       (first | rw [c22b0] | (simp only [i64_w, i32_w]; rw [c22b0]) | skip)
       have H' := AX H
       clear H
       have hnb23 := NB625_622.out
       have hnc23 := NB622_625.out
       have hnb24 := NB625_623.out
       have hnc24 := NB623_625.out
       obtain ⟨hcz25_0, hcz25_1, hcz25_2⟩ := blkC3 (w := w17) BK625.out
       obtain ⟨hfz25_0, hfz25_1, hfz25_2⟩ := blkF3 BK625.out
       go_wp2
       go_meet
       case rel => exact ⟨_, (wrap64 (a0_1 - 1)), H', ⟨by have := HJ2.out; first | omega | exact Nat.le_refl _⟩, ⟨by (with_reducible repeat first|refine blk_drewN ?_ _|refine blk_drew ?_|refine blk_alloc ?_ _); refine blk_far ?_ NB622_625.out _; (with_reducible repeat first|refine blk_drewN ?_ _|refine blk_drew ?_|refine blk_alloc ?_ _); refine blk_far ?_ NB622_625.out _; (with_reducible repeat first|refine blk_drewN ?_ _|refine blk_drew ?_|refine blk_alloc ?_ _); refine blk_far ?_ NB622_625.out _; (with_reducible repeat first|refine blk_drewN ?_ _|refine blk_drew ?_|refine blk_alloc ?_ _); refine blk_far ?_ NB622_625.out _; (with_reducible repeat first|refine blk_drewN ?_ _|refine blk_drew ?_|refine blk_alloc ?_ _); exact BK622.out⟩, ⟨by (with_reducible repeat first|refine blk_drewN ?_ _|refine blk_drew ?_|refine blk_alloc ?_ _); refine blk_far ?_ NB623_625.out _; (with_reducible repeat first|refine blk_drewN ?_ _|refine blk_drew ?_|refine blk_alloc ?_ _); refine blk_far ?_ NB623_625.out _; (with_reducible repeat first|refine blk_drewN ?_ _|refine blk_drew ?_|refine blk_alloc ?_ _); refine blk_far ?_ NB623_625.out _; (with_reducible repeat first|refine blk_drewN ?_ _|refine blk_drew ?_|refine blk_alloc ?_ _); refine blk_far ?_ NB623_625.out _; (with_reducible repeat first|refine blk_drewN ?_ _|refine blk_drew ?_|refine blk_alloc ?_ _); exact BK623.out⟩, ⟨by (with_reducible repeat first|refine blk_drewN ?_ _|refine blk_drew ?_|refine blk_alloc ?_ _); refine blk_put (cs := #[.int .i64 a0_0, .int .i64 a0_1, .int .i64 a1]) ?_ 1 _ rfl; (with_reducible repeat first|refine blk_drewN ?_ _|refine blk_drew ?_|refine blk_alloc ?_ _); refine blk_put (cs := #[.int .i64 a0_0, .int .i64 a0_1, .int .i64 0]) ?_ 2 _ rfl; (with_reducible repeat first|refine blk_drewN ?_ _|refine blk_drew ?_|refine blk_alloc ?_ _); refine blk_put (cs := #[.int .i64 a0_0, .int .i64 0, .int .i64 0]) ?_ 1 _ rfl; (with_reducible repeat first|refine blk_drewN ?_ _|refine blk_drew ?_|refine blk_alloc ?_ _); refine blk_put (cs := #[.int .i64 0, .int .i64 0, .int .i64 0]) ?_ 0 _ rfl; (with_reducible repeat first|refine blk_drewN ?_ _|refine blk_drew ?_|refine blk_alloc ?_ _); exact BK625.out⟩, ⟨bw⟩⟩
      ·rw [if_neg c22] at H
       have c22b0 : decide (a0_2 < a1) = false := decide_eq_false c22
       clear c22
       (first | rw [c22b0] | (simp only [i64_w, i32_w]; rw [c22b0]) | skip)
       have H' := AX H
       clear H
       go_wp2
       go_meet
       case rel => exact ⟨_, (a0_1), H', ⟨by have := HJ2.out; first | omega | exact Nat.le_refl _⟩, ⟨by (with_reducible repeat first|refine blk_drewN ?_ _|refine blk_drew ?_|refine blk_alloc ?_ _); refine blk_far ?_ NB622_625.out _; (with_reducible repeat first|refine blk_drewN ?_ _|refine blk_drew ?_|refine blk_alloc ?_ _); refine blk_far ?_ NB622_625.out _; (with_reducible repeat first|refine blk_drewN ?_ _|refine blk_drew ?_|refine blk_alloc ?_ _); refine blk_far ?_ NB622_625.out _; (with_reducible repeat first|refine blk_drewN ?_ _|refine blk_drew ?_|refine blk_alloc ?_ _); exact BK622.out⟩, ⟨by (with_reducible repeat first|refine blk_drewN ?_ _|refine blk_drew ?_|refine blk_alloc ?_ _); refine blk_far ?_ NB623_625.out _; (with_reducible repeat first|refine blk_drewN ?_ _|refine blk_drew ?_|refine blk_alloc ?_ _); refine blk_far ?_ NB623_625.out _; (with_reducible repeat first|refine blk_drewN ?_ _|refine blk_drew ?_|refine blk_alloc ?_ _); refine blk_far ?_ NB623_625.out _; (with_reducible repeat first|refine blk_drewN ?_ _|refine blk_drew ?_|refine blk_alloc ?_ _); exact BK623.out⟩, ⟨by (with_reducible repeat first|refine blk_drewN ?_ _|refine blk_drew ?_|refine blk_alloc ?_ _); refine blk_put (cs := #[.int .i64 a0_0, .int .i64 a0_1, .int .i64 0]) ?_ 2 _ rfl; (with_reducible repeat first|refine blk_drewN ?_ _|refine blk_drew ?_|refine blk_alloc ?_ _); refine blk_put (cs := #[.int .i64 a0_0, .int .i64 0, .int .i64 0]) ?_ 1 _ rfl; (with_reducible repeat first|refine blk_drewN ?_ _|refine blk_drew ?_|refine blk_alloc ?_ _); refine blk_put (cs := #[.int .i64 0, .int .i64 0, .int .i64 0]) ?_ 0 _ rfl; (with_reducible repeat first|refine blk_drewN ?_ _|refine blk_drew ?_|refine blk_alloc ?_ _); exact BK625.out⟩, ⟨bw⟩⟩
     case rest =>
      clear HC12
      try clear c7
      try clear c11
      try clear hcz14_0 hcz14_1 hcz14_2
      try clear hcz16_0 hcz16_1 hcz16_2
      try clear hcz20_0 hcz20_1 hcz20_2
      try clear hcz21_0 hcz21_1 hcz21_2
      try clear hfz14_0 hfz14_1 hfz14_2
      try clear hfz16_0 hfz16_1 hfz16_2
      try clear hfz20_0 hfz20_1 hfz20_2
      try clear hfz21_0 hfz21_1 hfz21_2
      obtain ⟨kq, x626001_11, HA, HJ11, BK622, BK623, BK625, HB⟩ := hcut
      cases kq with
      | zero => exact absurd HA.out (by simp [pylonref13_Begin.j1])
      | succ kj11 =>
       have H := HA.out
       clear HA
       simp only [pylonref13_Begin.j1] at H
       by_cases c26 : x626001_11 = 0
       ·rw [if_pos c26] at H
        have c26b0 : (x626001_11 == 0) = true := beq_iff_eq.mpr c26
        have c26b1 : (x626001_11 != 0) = false := bne_eq_false_iff_eq.mpr c26
        clear c26
        by_cases c27 : (wrap64 (a0_0 - 1)) < 1
        ·rw [if_pos c27] at H
         have c27b0 : decide ((wrap64 (a0_0 - 1)) < 1) = true := decide_eq_true c27
         clear c27
         simp only [Option.some.injEq, Prod.mk.injEq] at H
         obtain ⟨rfl, rfl, rfl, rfl⟩ := H
         have hnb28 := NB625_622.out
         have hnc28 := NB622_625.out
         have hnb29 := NB625_623.out
         have hnc29 := NB623_625.out
         obtain ⟨hcz30_0, hcz30_1, hcz30_2⟩ := blkC3 (w := wc) BK625.out
         obtain ⟨hfz30_0, hfz30_1, hfz30_2⟩ := blkF3 BK625.out
         have hnb31 := NB623_622.out
         have hnc31 := NB622_623.out
         obtain ⟨hcz32_0, hcz32_1, hcz32_2⟩ := blkC3 (w := wc) BK623.out
         obtain ⟨hfz32_0, hfz32_1, hfz32_2⟩ := blkF3 BK623.out
         go_wp2
         refine bodyPost_ret (results_ct rfl _ _ gb623 33 #[.int .i64 0, .int .i64 0, .int .i64 0] (0, 0) _ rfl (by (with_reducible repeat first|refine blk_drewN ?_ _|refine blk_drew ?_|refine blk_alloc ?_ _); refine blk_put (cs := #[.int .i64 0, .int .i64 0, .int .i64 0]) ?_ 2 _ rfl; (with_reducible repeat first|refine blk_drewN ?_ _|refine blk_drew ?_|refine blk_alloc ?_ _); refine blk_put (cs := #[.int .i64 0, .int .i64 0, .int .i64 0]) ?_ 1 _ rfl; (with_reducible repeat first|refine blk_drewN ?_ _|refine blk_drew ?_|refine blk_alloc ?_ _); refine blk_put (cs := #[.int .i64 0, .int .i64 0, .int .i64 0]) ?_ 0 _ rfl; (with_reducible repeat first|refine blk_drewN ?_ _|refine blk_drew ?_|refine blk_alloc ?_ _); refine blk_far ?_ NB623_625.out _; (with_reducible repeat first|refine blk_drewN ?_ _|refine blk_drew ?_|refine blk_alloc ?_ _); refine blk_far ?_ NB623_625.out _; (with_reducible repeat first|refine blk_drewN ?_ _|refine blk_drew ?_|refine blk_alloc ?_ _); exact BK623.out) Try.underlying33 rfl (by kernel_rfl)) rfl ?_
         exact ⟨by first | rfl | (simp [errW_none, errW_some] <;> rfl) | (simp [*, errW_none, errW_some] <;> rfl), bw⟩
        ·rw [if_neg c27] at H
         have c27b0 : decide ((wrap64 (a0_0 - 1)) < 1) = false := decide_eq_false c27
         clear c27
         simp only [Option.some.injEq, Prod.mk.injEq] at H
         obtain ⟨rfl, rfl, rfl, rfl⟩ := H
         have hnb33 := NB625_622.out
         have hnc33 := NB622_625.out
         have hnb34 := NB625_623.out
         have hnc34 := NB623_625.out
         obtain ⟨hcz35_0, hcz35_1, hcz35_2⟩ := blkC3 (w := wc) BK625.out
         obtain ⟨hfz35_0, hfz35_1, hfz35_2⟩ := blkF3 BK625.out
         have hnb36 := NB623_622.out
         have hnc36 := NB622_623.out
         obtain ⟨hcz37_0, hcz37_1, hcz37_2⟩ := blkC3 (w := wc) BK623.out
         obtain ⟨hfz37_0, hfz37_1, hfz37_2⟩ := blkF3 BK623.out
         go_wp2
         refine bodyPost_ret (results_ct rfl _ _ gb623 33 #[.int .i64 (wrap64 (a0_0 - 1)), .int .i64 12, .int .i64 a1] (0, 0) _ rfl (by (with_reducible repeat first|refine blk_drewN ?_ _|refine blk_drew ?_|refine blk_alloc ?_ _); refine blk_put (cs := #[.int .i64 (wrap64 (a0_0 - 1)), .int .i64 12, .int .i64 0]) ?_ 2 _ rfl; (with_reducible repeat first|refine blk_drewN ?_ _|refine blk_drew ?_|refine blk_alloc ?_ _); refine blk_put (cs := #[.int .i64 (wrap64 (a0_0 - 1)), .int .i64 0, .int .i64 0]) ?_ 1 _ rfl; (with_reducible repeat first|refine blk_drewN ?_ _|refine blk_drew ?_|refine blk_alloc ?_ _); refine blk_put (cs := #[.int .i64 0, .int .i64 0, .int .i64 0]) ?_ 0 _ rfl; (with_reducible repeat first|refine blk_drewN ?_ _|refine blk_drew ?_|refine blk_alloc ?_ _); refine blk_far ?_ NB623_625.out _; (with_reducible repeat first|refine blk_drewN ?_ _|refine blk_drew ?_|refine blk_alloc ?_ _); refine blk_far ?_ NB623_625.out _; (with_reducible repeat first|refine blk_drewN ?_ _|refine blk_drew ?_|refine blk_alloc ?_ _); exact BK623.out) Try.underlying33 rfl (by kernel_rfl)) rfl ?_
         exact ⟨by first | rfl | (simp [errW_none, errW_some] <;> rfl) | (simp [*, errW_none, errW_some] <;> rfl), bw⟩
       ·rw [if_neg c26] at H
        have c26b0 : (x626001_11 == 0) = false := beq_eq_false_iff_ne.mpr c26
        have c26b1 : (x626001_11 != 0) = true := bne_iff_ne.mpr c26
        by_cases c38 : a0_0 < 1
        ·rw [if_pos c38] at H
         have c38b0 : decide (a0_0 < 1) = true := decide_eq_true c38
         clear c38
         simp only [Option.some.injEq, Prod.mk.injEq] at H
         obtain ⟨rfl, rfl, rfl, rfl⟩ := H
         have hnb39 := NB625_622.out
         have hnc39 := NB622_625.out
         have hnb40 := NB625_623.out
         have hnc40 := NB623_625.out
         obtain ⟨hcz41_0, hcz41_1, hcz41_2⟩ := blkC3 (w := wc) BK625.out
         obtain ⟨hfz41_0, hfz41_1, hfz41_2⟩ := blkF3 BK625.out
         have hnb42 := NB623_622.out
         have hnc42 := NB622_623.out
         obtain ⟨hcz43_0, hcz43_1, hcz43_2⟩ := blkC3 (w := wc) BK623.out
         obtain ⟨hfz43_0, hfz43_1, hfz43_2⟩ := blkF3 BK623.out
         go_wp2
         refine bodyPost_ret (results_ct rfl _ _ gb623 33 #[.int .i64 0, .int .i64 0, .int .i64 0] (0, 0) _ rfl (by (with_reducible repeat first|refine blk_drewN ?_ _|refine blk_drew ?_|refine blk_alloc ?_ _); refine blk_put (cs := #[.int .i64 0, .int .i64 0, .int .i64 0]) ?_ 2 _ rfl; (with_reducible repeat first|refine blk_drewN ?_ _|refine blk_drew ?_|refine blk_alloc ?_ _); refine blk_put (cs := #[.int .i64 0, .int .i64 0, .int .i64 0]) ?_ 1 _ rfl; (with_reducible repeat first|refine blk_drewN ?_ _|refine blk_drew ?_|refine blk_alloc ?_ _); refine blk_put (cs := #[.int .i64 0, .int .i64 0, .int .i64 0]) ?_ 0 _ rfl; (with_reducible repeat first|refine blk_drewN ?_ _|refine blk_drew ?_|refine blk_alloc ?_ _); exact BK623.out) Try.underlying33 rfl (by kernel_rfl)) rfl ?_
         exact ⟨by first | rfl | (simp [errW_none, errW_some] <;> rfl) | (simp [*, errW_none, errW_some] <;> rfl), bw⟩
        ·rw [if_neg c38] at H
         have c38b0 : decide (a0_0 < 1) = false := decide_eq_false c38
         clear c38
         simp only [Option.some.injEq, Prod.mk.injEq] at H
         obtain ⟨rfl, rfl, rfl, rfl⟩ := H
         have hnb44 := NB625_622.out
         have hnc44 := NB622_625.out
         have hnb45 := NB625_623.out
         have hnc45 := NB623_625.out
         obtain ⟨hcz46_0, hcz46_1, hcz46_2⟩ := blkC3 (w := wc) BK625.out
         obtain ⟨hfz46_0, hfz46_1, hfz46_2⟩ := blkF3 BK625.out
         have hnb47 := NB623_622.out
         have hnc47 := NB622_623.out
         obtain ⟨hcz48_0, hcz48_1, hcz48_2⟩ := blkC3 (w := wc) BK623.out
         obtain ⟨hfz48_0, hfz48_1, hfz48_2⟩ := blkF3 BK623.out
         go_wp2
         refine bodyPost_ret (results_ct rfl _ _ gb623 33 #[.int .i64 a0_0, .int .i64 x626001_11, .int .i64 a1] (0, 0) _ rfl (by (with_reducible repeat first|refine blk_drewN ?_ _|refine blk_drew ?_|refine blk_alloc ?_ _); refine blk_put (cs := #[.int .i64 a0_0, .int .i64 x626001_11, .int .i64 0]) ?_ 2 _ rfl; (with_reducible repeat first|refine blk_drewN ?_ _|refine blk_drew ?_|refine blk_alloc ?_ _); refine blk_put (cs := #[.int .i64 a0_0, .int .i64 0, .int .i64 0]) ?_ 1 _ rfl; (with_reducible repeat first|refine blk_drewN ?_ _|refine blk_drew ?_|refine blk_alloc ?_ _); refine blk_put (cs := #[.int .i64 0, .int .i64 0, .int .i64 0]) ?_ 0 _ rfl; (with_reducible repeat first|refine blk_drewN ?_ _|refine blk_drew ?_|refine blk_alloc ?_ _); exact BK623.out) Try.underlying33 rfl (by kernel_rfl)) rfl ?_
         exact ⟨by first | rfl | (simp [errW_none, errW_some] <;> rfl) | (simp [*, errW_none, errW_some] <;> rfl), bw⟩
    ·replace c11 := Bool.eq_false_iff.mpr c11
     subst c11
     have H1 : (some (0, 0, 0, 5)) = some (r1, r2, r3, r4) := by rw [if_neg (show ¬ (false = true) by decide)] at H; exact H
     clear H
     have H := H1
     clear H1
     simp only [Option.some.injEq, Prod.mk.injEq] at H
     obtain ⟨rfl, rfl, rfl, rfl⟩ := H
     have hnb49 := NB622_623.out
     have hnc49 := NB623_622.out
     obtain ⟨hcz50_0, hcz50_1, hcz50_2⟩ := blkC3 (w := wc) BK622.out
     obtain ⟨hfz50_0, hfz50_1, hfz50_2⟩ := blkF3 BK622.out
     go_wp2_with (first | ((with_reducible refine gate_callee (f := 65) rfl ?_); refine goesL_ (some 15) rfl rfl Try.func65 (by kernel_rfl) rfl #[.agg #[.int .i64 a0_0, .int .i64 a0_1, .int .i64 a0_2]] rfl (by (try simp only [List.map_toArray, List.map_cons, List.map_nil]); first | done | rfl | (simp only [List.length_drop, List.length_take]; rfl)) ?_; (with_reducible refine (pylonref03_Is.calls kj2 a0_0 a0_1 a0_2 false _ A10.out).mono ?_); rintro e w51 ⟨rfl, hb⟩; refine ⟨_, rfl, ?_⟩; have n0_ := AX (bkb BK622 hb); have n1_ := AX (bkb BK623 hb); have n2_ := AX (below_step bw hb); clear BK622; clear BK623; clear HB; have BK622 := n0_; have BK623 := n1_; have HB := n2_; clear n0_ n1_ n2_; (try clear hb); obtain ⟨hcz52_0, hcz52_1, hcz52_2⟩ := blkC3 (w := w51) BK623.out; obtain ⟨hfz52_0, hfz52_1, hfz52_2⟩ := blkF3 BK623.out))
     refine bodyPost_ret (results_ct rfl _ _ gb623 33 #[.int .i64 0, .int .i64 0, .int .i64 0] (0, 0) _ rfl (by (with_reducible repeat first|refine blk_drewN ?_ _|refine blk_drew ?_|refine blk_alloc ?_ _); refine blk_put (cs := #[.int .i64 0, .int .i64 0, .int .i64 0]) ?_ 2 _ rfl; (with_reducible repeat first|refine blk_drewN ?_ _|refine blk_drew ?_|refine blk_alloc ?_ _); refine blk_put (cs := #[.int .i64 0, .int .i64 0, .int .i64 0]) ?_ 1 _ rfl; (with_reducible repeat first|refine blk_drewN ?_ _|refine blk_drew ?_|refine blk_alloc ?_ _); refine blk_put (cs := #[.int .i64 0, .int .i64 0, .int .i64 0]) ?_ 0 _ rfl; (with_reducible repeat first|refine blk_drewN ?_ _|refine blk_drew ?_|refine blk_alloc ?_ _); exact BK623.out) Try.underlying33 rfl (by kernel_rfl)) rfl ?_
     exact ⟨by first | rfl | (simp [errW_none, errW_some] <;> rfl) | (simp [*, errW_none, errW_some] <;> rfl), bw⟩

end Go.Proofs.Ytddkckpfmleffaa.PX
