/- Functions of the program as plain Lean functions, each with a proof that the call in the machine answers just what the plain function says; condition: the plain function answers at all. -/
import Derived.Test.YtddkckpfmleffaaPXx0
import Derived.Test.YtddkckpfmleffaaPXx14
namespace Go.Proofs.Ytddkckpfmleffaa.PX
open Go.RowKit Go.Proofs.YtddkckpfmleffaaW.PrintWords Go.Proofs.YtddkckpfmleffaaW.PrintLast Go.Proofs.YtddkckpfmleffaaW.PrintMore
attribute [local go_sem] max2_int min2_int max_two min_two max_three min_three max_four min_four   -- for this text's walks alone
set_option linter.unusedVariables false
set_option linter.unusedSimpArgs false

/-! ### pylonref04_shown: function 61 -/
def pylonref04_shown.j0 : Nat → Int → Int → Bool → Option (Int × Int × Int × Int × Bool)
 | 0, _, _, _ => none
 | k + 1, x0, x1, x17 => if x17 = true then (some (0, 0, 0, 0, false)) else (if (Int.tmod (wrap64 (x0 + (wrap64 (x1 * 60)))) 86400) < 0 then ((pylonref03_Of.f k (wrap64 ((wrap64 (Int.tdiv (wrap64 (x0 + (wrap64 (x1 * 60)))) 86400)) - 1))).bind fun bt344 => (some (bt344.1, bt344.2.1, bt344.2.2.1, wrap64 ((Int.tmod (wrap64 (x0 + (wrap64 (x1 * 60)))) 86400) + 86400), (bt344.2.2.2 == 0)))) else ((pylonref03_Of.f k (wrap64 (Int.tdiv (wrap64 (x0 + (wrap64 (x1 * 60)))) 86400))).bind fun bt349 => (some (bt349.1, bt349.2.1, bt349.2.2.1, Int.tmod (wrap64 (x0 + (wrap64 (x1 * 60)))) 86400, (bt349.2.2.2 == 0)))))
def pylonref04_shown.f (k : Nat) (a0 : Int) (a1 : Int) : Option (Int × Int × Int × Int × Bool) := if a0 < (-62200000000) then (pylonref04_shown.j0 k a0 a1 true) else (pylonref04_shown.j0 k a0 a1 (decide (a0 > 253500000000)))
theorem pylonref04_shown.mono_l : ∀ k, (∀ y0 y1 y2, LeO (pylonref04_shown.j0 k y0 y1 y2) (pylonref04_shown.j0 (k + 1) y0 y1 y2))
 | 0 => fun _ _ _ r h => by simp [pylonref04_shown.j0] at h
 | k + 1 => by
  have ih0 := pylonref04_shown.mono_l k
  ·intro y0 y1 y2
   unfold pylonref04_shown.j0
   repeat' first
   | (with_reducible exact ih0 _ _ _)
   | (with_reducible exact pylonref03_Of.mono _ _)
   | (with_reducible exact LeO.refl _)
   | (with_reducible exact LeO.none _)
   | (with_reducible refine LeO.ite ?_ ?_)
   | (with_reducible refine LeO.bind ?_ (fun _ => ?_))
   | exact ih0 _ _ _
   | exact pylonref03_Of.mono _ _
   | exact LeO.none _
   | refine LeO.ite ?_ ?_
   | refine LeO.bind ?_ (fun _ => ?_)
theorem pylonref04_shown.mono : ∀ a0 a1 k, LeO (pylonref04_shown.f k a0 a1) (pylonref04_shown.f (k + 1) a0 a1) := by
 intro a0 a1 k
 have ih0 := pylonref04_shown.mono_l k
 unfold pylonref04_shown.f
 repeat' first
   | (with_reducible exact ih0 _ _ _)
   | (with_reducible exact pylonref03_Of.mono _ _)
   | (with_reducible exact LeO.refl _)
   | (with_reducible exact LeO.none _)
   | (with_reducible refine LeO.ite ?_ ?_)
   | (with_reducible refine LeO.bind ?_ (fun _ => ?_))
   | exact ih0 _ _ _
   | exact pylonref03_Of.mono _ _
   | exact LeO.none _
   | refine LeO.ite ?_ ?_
   | refine LeO.bind ?_ (fun _ => ?_)
set_option maxHeartbeats 8000000 in
set_option maxRecDepth 100000 in
theorem pylonref04_shown.calls (k : Nat) (a0 : Int) (a1 : Int) (r1 : Int) (r2 : Int) (r3 : Int) (r4 : Int) (r5 : Bool) (w : World) (h : pylonref04_shown.f k a0 a1 = some (r1, r2, r3, r4, r5)) :
  Calls Try.prog 61 #[.int .i64 a0, .int .i64 a1] w fun e w' => e = .returned (.tuple #[.agg #[.int .i64 r1, .int .i64 r2, .int .i64 r3], .int .i64 r4, .bool r5]) ∧ Below w.heap.size w w' := by
 have hu33 := Try.underlying33
 have HB := AX (Below.refl w.heap.size w)
 have H : (if a0 < (-62200000000) then (pylonref04_shown.j0 k a0 a1 true) else (pylonref04_shown.j0 k a0 a1 (decide (a0 > 253500000000)))) = some (r1, r2, r3, r4, r5) := h
 clear h
 have HC3 := AX H
 clear H
 go_enter Try.func61, Try.ntmps61
 go_upto_region 1 with (first | ((with_reducible refine gate_dst (N := 4) rfl ?_); refine box_event ?hg (N := 4) ?hd (cs := #[.int .i64 0, .int .i64 0, .int .i64 0]) (t := 33) ?hr ?_; (case hd => rfl); (case hg => rfl); (case hr => first | (go_simp; done) | (go_simp; rfl)); intro gb343 hg w4 hbox hb; have n0_ := AX (below_step bw hb); have n1_ := AX (hbox); have n2_ := AX ((by rw [hg]; exact (below_size bw) : w.heap.size ≤ gb343)); have n3_ := n2_; clear HB; have HB := n0_; have BK343 := n1_; have GW343 := n2_; have GE343 := n3_; clear n0_ n1_ n2_ n3_; clear hb hbox hg))
 (try simp only [Act.put, List.setIfInBounds_toArray, List.set_cons_zero, List.set_cons_succ])
 go_cut [17] (fun v17 wc => ∃ (kq : Nat) (x17_2 : Bool), v17 = .bool x17_2 ∧ Aside0 (pylonref04_shown.j0 kq a0 a1 x17_2 = some (r1, r2, r3, r4, r5)) ∧ Aside0 (kq ≤ k) ∧ Aside0 (wc.heap[gb343]? = some (.cells #[.int .i64 0, .int .i64 0, .int .i64 0] 33 (0, 0))) ∧ Aside0 (Below w.heap.size w wc))
 case first =>
  have H := HC3.out
  clear HC3
  by_cases c5 : a0 < (-62200000000)
  ·rw [if_pos c5] at H
   have c5b0 : decide (a0 < (-62200000000)) = true := decide_eq_true c5
   clear c5
   (first | rw [c5b0] | (simp only [i64_w, i32_w]; rw [c5b0]) | skip)
   have H' := AX H
   clear H
   go_wp2
   go_meet
   case rel => exact ⟨_, (true), (by first | rfl | (simp; done) | (simp [*]; done)), H', ⟨by first | omega | exact Nat.le_refl _⟩, ⟨bkn BK343⟩, ⟨bw⟩⟩
  ·rw [if_neg c5] at H
   have c5b0 : decide (a0 < (-62200000000)) = false := decide_eq_false c5
   clear c5
   (first | rw [c5b0] | (simp only [i64_w, i32_w]; rw [c5b0]) | skip)
   have H' := AX H
   clear H
   go_wp2
   go_meet
   case rel => exact ⟨_, (decide (a0 > 253500000000)), (by first | rfl | (simp; done) | (simp [*]; done)), H', ⟨by first | omega | exact Nat.le_refl _⟩, ⟨bkn BK343⟩, ⟨bw⟩⟩
 case rest =>
  clear HC3
  obtain ⟨kq, x17_2, rfl, HA, HJ2, BK343, HB⟩ := hcut
  cases kq with
  | zero => exact absurd HA.out (by simp [pylonref04_shown.j0])
  | succ kj2 =>
   have H := HA.out
   clear HA
   simp only [pylonref04_shown.j0] at H
   by_cases c6 : x17_2 = true
   ·subst c6
    have H1 : (some (0, 0, 0, 0, false)) = some (r1, r2, r3, r4, r5) := by rw [if_pos rfl] at H; exact H
    clear H
    have H := H1
    clear H1
    simp only [Option.some.injEq, Prod.mk.injEq] at H
    obtain ⟨rfl, rfl, rfl, rfl, rfl⟩ := H
    obtain ⟨hcz7_0, hcz7_1, hcz7_2⟩ := blkC3 (w := wc) BK343.out
    obtain ⟨hfz7_0, hfz7_1, hfz7_2⟩ := blkF3 BK343.out
    go_wp2
    refine bodyPost_ret (results_ctt rfl _ _ gb343 33 #[.int .i64 0, .int .i64 0, .int .i64 0] (0, 0) _ rfl (by (with_reducible repeat first|refine blk_drewN ?_ _|refine blk_drew ?_|refine blk_alloc ?_ _); refine blk_put (cs := #[.int .i64 0, .int .i64 0, .int .i64 0]) ?_ 2 _ rfl; (with_reducible repeat first|refine blk_drewN ?_ _|refine blk_drew ?_|refine blk_alloc ?_ _); refine blk_put (cs := #[.int .i64 0, .int .i64 0, .int .i64 0]) ?_ 1 _ rfl; (with_reducible repeat first|refine blk_drewN ?_ _|refine blk_drew ?_|refine blk_alloc ?_ _); refine blk_put (cs := #[.int .i64 0, .int .i64 0, .int .i64 0]) ?_ 0 _ rfl; (with_reducible repeat first|refine blk_drewN ?_ _|refine blk_drew ?_|refine blk_alloc ?_ _); exact BK343.out) Try.underlying33 rfl (by kernel_rfl)) rfl ?_
    exact ⟨by first | rfl | (simp [errW_none, errW_some] <;> rfl) | (simp [*, errW_none, errW_some] <;> rfl), bw⟩
   ·replace c6 := Bool.eq_false_iff.mpr c6
    subst c6
    have H1 : (if (Int.tmod (wrap64 (a0 + (wrap64 (a1 * 60)))) 86400) < 0 then ((pylonref03_Of.f kj2 (wrap64 ((wrap64 (Int.tdiv (wrap64 (a0 + (wrap64 (a1 * 60)))) 86400)) - 1))).bind fun bt344 => (some (bt344.1, bt344.2.1, bt344.2.2.1, wrap64 ((Int.tmod (wrap64 (a0 + (wrap64 (a1 * 60)))) 86400) + 86400), (bt344.2.2.2 == 0)))) else ((pylonref03_Of.f kj2 (wrap64 (Int.tdiv (wrap64 (a0 + (wrap64 (a1 * 60)))) 86400))).bind fun bt349 => (some (bt349.1, bt349.2.1, bt349.2.2.1, Int.tmod (wrap64 (a0 + (wrap64 (a1 * 60)))) 86400, (bt349.2.2.2 == 0))))) = some (r1, r2, r3, r4, r5) := by rw [if_neg (show ¬ (false = true) by decide)] at H; exact H
    clear H
    have H := H1
    clear H1
    by_cases c8 : (Int.tmod (wrap64 (a0 + (wrap64 (a1 * 60)))) 86400) < 0
    ·rw [if_pos c8] at H
     have c8b0 : decide ((Int.tmod (wrap64 (a0 + (wrap64 (a1 * 60)))) 86400) < 0) = true := decide_eq_true c8
     clear c8
     replace H := Option.bind_eq_some_iff.mp H
     obtain ⟨⟨t344, t345, t346, t347⟩, A90, H⟩ := H
     replace H : (some (t344, t345, t346, wrap64 ((Int.tmod (wrap64 (a0 + (wrap64 (a1 * 60)))) 86400) + 86400), (t347 == 0))) = some (r1, r2, r3, r4, r5) := H
     have A9 := AX A90
     clear A90
     simp only [Option.some.injEq, Prod.mk.injEq] at H
     obtain ⟨rfl, rfl, rfl, rfl, rfl⟩ := H
     go_wp2_with (first | ((with_reducible refine gate_callee (f := 25) rfl ?_); refine goesL_ (some 35) rfl rfl Try.func25 (by kernel_rfl) rfl #[.int .i64 (wrap64 ((wrap64 (Int.tdiv (wrap64 (a0 + (wrap64 (a1 * 60)))) 86400)) - 1))] rfl (by (try simp only [List.map_toArray, List.map_cons, List.map_nil]); first | done | rfl | (simp only [List.length_drop, List.length_take]; rfl)) ?_; (with_reducible refine (pylonref03_Of.calls kj2 (wrap64 ((wrap64 (Int.tdiv (wrap64 (a0 + (wrap64 (a1 * 60)))) 86400)) - 1)) t344 t345 t346 t347 _ A9.out).mono ?_); rintro e w10 ⟨rfl, hb⟩; refine ⟨_, rfl, ?_⟩; have n0_ := AX (bkb BK343 hb); have n1_ := AX (below_step bw hb); clear BK343; clear HB; have BK343 := n0_; have HB := n1_; clear n0_ n1_; (try clear hb)) | ((with_reducible refine gate_dst (N := 10) rfl ?_); refine box_event ?hg (N := 10) ?hd (cs := #[.int .i64 0, .int .i64 0, .int .i64 0]) (t := 33) ?hr ?_; (case hd => rfl); (case hg => rfl); (case hr => first | (go_simp; done) | (go_simp; rfl)); intro gb348 hg w11 hbox hb; have n0_ := AX (bkb BK343 hb); have n1_ := AX (below_step bw hb); have n2_ := AX (hbox); have n3_ := AX ((by rw [hg]; exact (below_size bw) : w.heap.size ≤ gb348)); have n4_ := n3_; have n5_ := AX ((by rw [hg]; exact Nat.ne_of_lt (blk_lt (bkn BK343)) : gb343 ≠ gb348)); have n6_ := AX ((by rw [hg]; exact Nat.ne_of_gt (blk_lt (bkn BK343)) : gb348 ≠ gb343)); clear BK343; clear HB; have BK343 := n0_; have HB := n1_; have BK348 := n2_; have GW348 := n3_; have GE348 := n4_; have NB343_348 := n5_; have NB348_343 := n6_; clear n0_ n1_ n2_ n3_ n4_ n5_ n6_; clear hb hbox hg; have hnb12 := NB348_343.out; have hnc12 := NB343_348.out; obtain ⟨hcz13_0, hcz13_1, hcz13_2⟩ := blkC3 (w := w11) BK348.out; obtain ⟨hfz13_0, hfz13_1, hfz13_2⟩ := blkF3 BK348.out; obtain ⟨hcz14_0, hcz14_1, hcz14_2⟩ := blkC3 (w := w11) BK343.out; obtain ⟨hfz14_0, hfz14_1, hfz14_2⟩ := blkF3 BK343.out))
     refine bodyPost_ret (results_ctt rfl _ _ gb343 33 #[.int .i64 t344, .int .i64 t345, .int .i64 t346] (0, 0) _ rfl (by (with_reducible repeat first|refine blk_drewN ?_ _|refine blk_drew ?_|refine blk_alloc ?_ _); refine blk_put (cs := #[.int .i64 t344, .int .i64 t345, .int .i64 0]) ?_ 2 _ rfl; (with_reducible repeat first|refine blk_drewN ?_ _|refine blk_drew ?_|refine blk_alloc ?_ _); refine blk_put (cs := #[.int .i64 t344, .int .i64 0, .int .i64 0]) ?_ 1 _ rfl; (with_reducible repeat first|refine blk_drewN ?_ _|refine blk_drew ?_|refine blk_alloc ?_ _); refine blk_put (cs := #[.int .i64 0, .int .i64 0, .int .i64 0]) ?_ 0 _ rfl; (with_reducible repeat first|refine blk_drewN ?_ _|refine blk_drew ?_|refine blk_alloc ?_ _); refine blk_far ?_ NB343_348.out _; (with_reducible repeat first|refine blk_drewN ?_ _|refine blk_drew ?_|refine blk_alloc ?_ _); refine blk_far ?_ NB343_348.out _; (with_reducible repeat first|refine blk_drewN ?_ _|refine blk_drew ?_|refine blk_alloc ?_ _); refine blk_far ?_ NB343_348.out _; (with_reducible repeat first|refine blk_drewN ?_ _|refine blk_drew ?_|refine blk_alloc ?_ _); exact BK343.out) Try.underlying33 rfl (by kernel_rfl)) rfl ?_
     exact ⟨by first | rfl | (simp [errW_none, errW_some] <;> rfl) | (simp [*, errW_none, errW_some] <;> rfl), bw⟩
    ·rw [if_neg c8] at H
     have c8b0 : decide ((Int.tmod (wrap64 (a0 + (wrap64 (a1 * 60)))) 86400) < 0) = false := decide_eq_false c8
     clear c8
     replace H := Option.bind_eq_some_iff.mp H
     obtain ⟨⟨t349, t350, t351, t352⟩, A150, H⟩ := H
     replace H : (some (t349, t350, t351, Int.tmod (wrap64 (a0 + (wrap64 (a1 * 60)))) 86400, (t352 == 0))) = some (r1, r2, r3, r4, r5) := H
     have A15 := AX A150
     clear A150
     simp only [Option.some.injEq, Prod.mk.injEq] at H
     obtain ⟨rfl, rfl, rfl, rfl, rfl⟩ := H
     go_wp2_with (first | ((with_reducible refine gate_callee (f := 25) rfl ?_); refine goesL_ (some 35) rfl rfl Try.func25 (by kernel_rfl) rfl #[.int .i64 (wrap64 (Int.tdiv (wrap64 (a0 + (wrap64 (a1 * 60)))) 86400))] rfl (by (try simp only [List.map_toArray, List.map_cons, List.map_nil]); first | done | rfl | (simp only [List.length_drop, List.length_take]; rfl)) ?_; (with_reducible refine (pylonref03_Of.calls kj2 (wrap64 (Int.tdiv (wrap64 (a0 + (wrap64 (a1 * 60)))) 86400)) t349 t350 t351 t352 _ A15.out).mono ?_); rintro e w16 ⟨rfl, hb⟩; refine ⟨_, rfl, ?_⟩; have n0_ := AX (bkb BK343 hb); have n1_ := AX (below_step bw hb); clear BK343; clear HB; have BK343 := n0_; have HB := n1_; clear n0_ n1_; (try clear hb)) | ((with_reducible refine gate_dst (N := 10) rfl ?_); refine box_event ?hg (N := 10) ?hd (cs := #[.int .i64 0, .int .i64 0, .int .i64 0]) (t := 33) ?hr ?_; (case hd => rfl); (case hg => rfl); (case hr => first | (go_simp; done) | (go_simp; rfl)); intro gb353 hg w17 hbox hb; have n0_ := AX (bkb BK343 hb); have n1_ := AX (below_step bw hb); have n2_ := AX (hbox); have n3_ := AX ((by rw [hg]; exact (below_size bw) : w.heap.size ≤ gb353)); have n4_ := n3_; have n5_ := AX ((by rw [hg]; exact Nat.ne_of_lt (blk_lt (bkn BK343)) : gb343 ≠ gb353)); have n6_ := AX ((by rw [hg]; exact Nat.ne_of_gt (blk_lt (bkn BK343)) : gb353 ≠ gb343)); clear BK343; clear HB; have BK343 := n0_; have HB := n1_; have BK353 := n2_; have GW353 := n3_; have GE353 := n4_; have NB343_353 := n5_; have NB353_343 := n6_; clear n0_ n1_ n2_ n3_ n4_ n5_ n6_; clear hb hbox hg; have hnb18 := NB353_343.out; have hnc18 := NB343_353.out; obtain ⟨hcz19_0, hcz19_1, hcz19_2⟩ := blkC3 (w := w17) BK353.out; obtain ⟨hfz19_0, hfz19_1, hfz19_2⟩ := blkF3 BK353.out; obtain ⟨hcz20_0, hcz20_1, hcz20_2⟩ := blkC3 (w := w17) BK343.out; obtain ⟨hfz20_0, hfz20_1, hfz20_2⟩ := blkF3 BK343.out))
     refine bodyPost_ret (results_ctt rfl _ _ gb343 33 #[.int .i64 t349, .int .i64 t350, .int .i64 t351] (0, 0) _ rfl (by (with_reducible repeat first|refine blk_drewN ?_ _|refine blk_drew ?_|refine blk_alloc ?_ _); refine blk_put (cs := #[.int .i64 t349, .int .i64 t350, .int .i64 0]) ?_ 2 _ rfl; (with_reducible repeat first|refine blk_drewN ?_ _|refine blk_drew ?_|refine blk_alloc ?_ _); refine blk_put (cs := #[.int .i64 t349, .int .i64 0, .int .i64 0]) ?_ 1 _ rfl; (with_reducible repeat first|refine blk_drewN ?_ _|refine blk_drew ?_|refine blk_alloc ?_ _); refine blk_put (cs := #[.int .i64 0, .int .i64 0, .int .i64 0]) ?_ 0 _ rfl; (with_reducible repeat first|refine blk_drewN ?_ _|refine blk_drew ?_|refine blk_alloc ?_ _); refine blk_far ?_ NB343_353.out _; (with_reducible repeat first|refine blk_drewN ?_ _|refine blk_drew ?_|refine blk_alloc ?_ _); refine blk_far ?_ NB343_353.out _; (with_reducible repeat first|refine blk_drewN ?_ _|refine blk_drew ?_|refine blk_alloc ?_ _); refine blk_far ?_ NB343_353.out _; (with_reducible repeat first|refine blk_drewN ?_ _|refine blk_drew ?_|refine blk_alloc ?_ _); exact BK343.out) Try.underlying33 rfl (by kernel_rfl)) rfl ?_
     exact ⟨by first | rfl | (simp [errW_none, errW_some] <;> rfl) | (simp [*, errW_none, errW_some] <;> rfl), bw⟩

end Go.Proofs.Ytddkckpfmleffaa.PX
