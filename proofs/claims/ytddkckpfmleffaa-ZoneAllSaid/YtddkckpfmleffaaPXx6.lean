/- Functions of the program as plain Lean functions, each with a proof that the call in the machine answers just what the plain function says; condition: the plain function answers at all. -/
import Derived.Test.YtddkckpfmleffaaPXx0
import Derived.Test.YtddkckpfmleffaaPXx5
namespace Go.Proofs.Ytddkckpfmleffaa.PX
open Go.RowKit Go.Proofs.YtddkckpfmleffaaW.PrintWords Go.Proofs.YtddkckpfmleffaaW.PrintLast Go.Proofs.YtddkckpfmleffaaW.PrintMore
attribute [local go_sem] max2_int min2_int max_two min_two max_three min_three max_four min_four   -- for this text's walks alone
set_option linter.unusedVariables false
set_option linter.unusedSimpArgs false

/-! ### zone_clock: function 43 -/
def zone_clock.j0 : Nat → Int → Int → Bool → Option (Int × Int × Int × Int × Int)
 | 0, _, _, _ => none
 | k + 1, x0, x1, x15 => if x15 = true then (some (0, 0, 0, 0, 5)) else (if (Int.tmod (wrap64 (x0 + (wrap64 (60 * x1)))) 86400) < 0 then ((civil_Of.f (wrap64 ((wrap64 (Int.tdiv (wrap64 (x0 + (wrap64 (60 * x1)))) 86400)) - 1))).bind fun bt136 => (some (bt136.1, bt136.2.1, bt136.2.2.1, wrap64 (Int.tdiv (wrap64 ((wrap64 (x0 + (wrap64 (60 * x1)))) - (wrap64 ((wrap64 ((wrap64 (Int.tdiv (wrap64 (x0 + (wrap64 (60 * x1)))) 86400)) - 1)) * 86400)))) 60), bt136.2.2.2))) else ((civil_Of.f (wrap64 (Int.tdiv (wrap64 (x0 + (wrap64 (60 * x1)))) 86400))).bind fun bt141 => (some (bt141.1, bt141.2.1, bt141.2.2.1, wrap64 (Int.tdiv (wrap64 ((wrap64 (x0 + (wrap64 (60 * x1)))) - (wrap64 ((wrap64 (Int.tdiv (wrap64 (x0 + (wrap64 (60 * x1)))) 86400)) * 86400)))) 60), bt141.2.2.2))))
def zone_clock.f (k : Nat) (a0 : Int) (a1 : Int) : Option (Int × Int × Int × Int × Int) := if a0 < (-1099511627776) then (zone_clock.j0 k a0 a1 true) else (zone_clock.j0 k a0 a1 (decide (a0 > 1099511627776)))
theorem zone_clock.mono_l : ∀ k, (∀ y0 y1 y2, LeO (zone_clock.j0 k y0 y1 y2) (zone_clock.j0 (k + 1) y0 y1 y2))
 | 0 => fun _ _ _ r h => by simp [zone_clock.j0] at h
 | k + 1 => by
  have ih0 := zone_clock.mono_l k
  ·intro y0 y1 y2
   unfold zone_clock.j0
   repeat' first
   | (with_reducible exact ih0 _ _ _)
   | (with_reducible exact LeO.refl _)
   | (with_reducible exact LeO.none _)
   | (with_reducible refine LeO.ite ?_ ?_)
   | (with_reducible refine LeO.bind ?_ (fun _ => ?_))
theorem zone_clock.mono : ∀ a0 a1 k, LeO (zone_clock.f k a0 a1) (zone_clock.f (k + 1) a0 a1) := by
 intro a0 a1 k
 have ih0 := zone_clock.mono_l k
 unfold zone_clock.f
 repeat' first
   | (with_reducible exact ih0 _ _ _)
   | (with_reducible exact LeO.refl _)
   | (with_reducible exact LeO.none _)
   | (with_reducible refine LeO.ite ?_ ?_)
   | (with_reducible refine LeO.bind ?_ (fun _ => ?_))
set_option maxHeartbeats 8000000 in
set_option maxRecDepth 100000 in
theorem zone_clock.calls (k : Nat) (a0 : Int) (a1 : Int) (r1 : Int) (r2 : Int) (r3 : Int) (r4 : Int) (r5 : Int) (w : World) (h : zone_clock.f k a0 a1 = some (r1, r2, r3, r4, r5)) :
  Calls Try.prog 43 #[.int .i64 a0, .int .i64 a1] w fun e w' => e = .returned (.tuple #[.agg #[.int .i64 r1, .int .i64 r2, .int .i64 r3], .int .i64 r4, .int .i64 r5]) ∧ Below w.heap.size w w' := by
 have hu33 := Try.underlying33
 have HB := AX (Below.refl w.heap.size w)
 have H : (if a0 < (-1099511627776) then (zone_clock.j0 k a0 a1 true) else (zone_clock.j0 k a0 a1 (decide (a0 > 1099511627776)))) = some (r1, r2, r3, r4, r5) := h
 clear h
 have HC3 := AX H
 clear H
 go_enter Try.func43, Try.ntmps43
 go_upto_region 1 with (first | ((with_reducible refine gate_dst (N := 4) rfl ?_); refine bx 4 #[.int .i64 0, .int .i64 0, .int .i64 0] 33 ?_; intro gb135 hg w4 hbox hb; have BK135 := AX (hbox); have GW135 := gwl (w := w) hg bw; have GE135 := GW135; replace HB := AX (below_step bw hb); clear hb hbox hg))
 (try simp only [Act.put, List.setIfInBounds_toArray, List.set_cons_zero, List.set_cons_succ])
 go_cut [15] (fun v15 wc => ∃ (kq : Nat) (x15_2 : Bool), v15 = .bool x15_2 ∧ Aside0 (zone_clock.j0 kq a0 a1 x15_2 = some (r1, r2, r3, r4, r5)) ∧ Aside0 (kq ≤ k) ∧ Aside0 (wc.heap[gb135]? = some (.cells #[.int .i64 0, .int .i64 0, .int .i64 0] 33 (0, 0))) ∧ Aside0 (Below w.heap.size w wc))
 case first =>
  have H := HC3.out
  clear HC3
  by_cases c5 : a0 < (-1099511627776)
  ·rw [if_pos c5] at H
   have c5b0 : decide (a0 < (-1099511627776)) = true := decide_eq_true c5
   clear c5
   (first | rw [c5b0] | (simp only [i64_w, i32_w]; rw [c5b0]) | skip)
   have H' := AX H
   clear H
   go_wp2
   go_meet
   case rel => exact ⟨_, (true), (by first | rfl | (simp; done) | (simp [*]; done)), H', ⟨by first | omega | exact Nat.le_refl _⟩, ⟨bkn BK135⟩, ⟨bw⟩⟩
  ·rw [if_neg c5] at H
   have c5b0 : decide (a0 < (-1099511627776)) = false := decide_eq_false c5
   clear c5
   (first | rw [c5b0] | (simp only [i64_w, i32_w]; rw [c5b0]) | skip)
   have H' := AX H
   clear H
   go_wp2
   go_meet
   case rel => exact ⟨_, (decide (a0 > 1099511627776)), (by first | rfl | (simp; done) | (simp [*]; done)), H', ⟨by first | omega | exact Nat.le_refl _⟩, ⟨bkn BK135⟩, ⟨bw⟩⟩
 case rest =>
  clear HC3
  obtain ⟨kq, x15_2, rfl, HA, HJ2, BK135, HB⟩ := hcut
  cases kq with
  | zero => exact absurd HA.out (by simp [zone_clock.j0])
  | succ kj2 =>
   have H := HA.out
   clear HA
   simp only [zone_clock.j0] at H
   by_cases c6 : x15_2 = true
   ·subst c6
    have H1 : (some (0, 0, 0, 0, 5)) = some (r1, r2, r3, r4, r5) := by rw [if_pos rfl] at H; exact H
    clear H
    have H := H1
    clear H1
    simp only [Option.some.injEq, Prod.mk.injEq] at H
    obtain ⟨rfl, rfl, rfl, rfl, rfl⟩ := H
    obtain ⟨hcz7_0, hcz7_1, hcz7_2⟩ := blkC3 (w := wc) BK135.out
    obtain ⟨hfz7_0, hfz7_1, hfz7_2⟩ := blkF3 BK135.out
    go_wp2
    refine bodyPost_ret (results_ctt rfl _ _ gb135 33 #[.int .i64 0, .int .i64 0, .int .i64 0] (0, 0) _ rfl (by (with_reducible repeat first|refine blk_drewN ?_ _|refine blk_drew ?_|refine blk_alloc ?_ _); refine blk_put (cs := #[.int .i64 0, .int .i64 0, .int .i64 0]) ?_ 2 _ rfl; (with_reducible repeat first|refine blk_drewN ?_ _|refine blk_drew ?_|refine blk_alloc ?_ _); refine blk_put (cs := #[.int .i64 0, .int .i64 0, .int .i64 0]) ?_ 1 _ rfl; (with_reducible repeat first|refine blk_drewN ?_ _|refine blk_drew ?_|refine blk_alloc ?_ _); refine blk_put (cs := #[.int .i64 0, .int .i64 0, .int .i64 0]) ?_ 0 _ rfl; (with_reducible repeat first|refine blk_drewN ?_ _|refine blk_drew ?_|refine blk_alloc ?_ _); exact BK135.out) Try.underlying33 rfl (by kernel_rfl)) rfl ?_
    exact ⟨by first | rfl | (simp [errW_none, errW_some] <;> rfl) | (simp [*, errW_none, errW_some] <;> rfl), bw⟩
   ·replace c6 := Bool.eq_false_iff.mpr c6
    subst c6
    have H1 : (if (Int.tmod (wrap64 (a0 + (wrap64 (60 * a1)))) 86400) < 0 then ((civil_Of.f (wrap64 ((wrap64 (Int.tdiv (wrap64 (a0 + (wrap64 (60 * a1)))) 86400)) - 1))).bind fun bt136 => (some (bt136.1, bt136.2.1, bt136.2.2.1, wrap64 (Int.tdiv (wrap64 ((wrap64 (a0 + (wrap64 (60 * a1)))) - (wrap64 ((wrap64 ((wrap64 (Int.tdiv (wrap64 (a0 + (wrap64 (60 * a1)))) 86400)) - 1)) * 86400)))) 60), bt136.2.2.2))) else ((civil_Of.f (wrap64 (Int.tdiv (wrap64 (a0 + (wrap64 (60 * a1)))) 86400))).bind fun bt141 => (some (bt141.1, bt141.2.1, bt141.2.2.1, wrap64 (Int.tdiv (wrap64 ((wrap64 (a0 + (wrap64 (60 * a1)))) - (wrap64 ((wrap64 (Int.tdiv (wrap64 (a0 + (wrap64 (60 * a1)))) 86400)) * 86400)))) 60), bt141.2.2.2)))) = some (r1, r2, r3, r4, r5) := by rw [if_neg (show ¬ (false = true) by decide)] at H; exact H
    clear H
    have H := H1
    clear H1
    by_cases c8 : (Int.tmod (wrap64 (a0 + (wrap64 (60 * a1)))) 86400) < 0
    ·rw [if_pos c8] at H
     have c8b0 : decide ((Int.tmod (wrap64 (a0 + (wrap64 (60 * a1)))) 86400) < 0) = true := decide_eq_true c8
     clear c8
     replace H := Option.bind_eq_some_iff.mp H
     obtain ⟨⟨t136, t137, t138, t139⟩, A90, H⟩ := H
     replace H : (some (t136, t137, t138, wrap64 (Int.tdiv (wrap64 ((wrap64 (a0 + (wrap64 (60 * a1)))) - (wrap64 ((wrap64 ((wrap64 (Int.tdiv (wrap64 (a0 + (wrap64 (60 * a1)))) 86400)) - 1)) * 86400)))) 60), t139)) = some (r1, r2, r3, r4, r5) := H
     have A9 := AX A90
     clear A90
     simp only [Option.some.injEq, Prod.mk.injEq] at H
     obtain ⟨rfl, rfl, rfl, rfl, rfl⟩ := H
     go_wp2_with (first | ((with_reducible refine gate_callee (f := 63) rfl ?_); refine gL (some 30) Try.func63 #[.int .i64 (wrap64 ((wrap64 (Int.tdiv (wrap64 (a0 + (wrap64 (60 * a1)))) 86400)) - 1))] ?_; (with_reducible refine (civil_Of.calls (wrap64 ((wrap64 (Int.tdiv (wrap64 (a0 + (wrap64 (60 * a1)))) 86400)) - 1)) t136 t137 t138 t139 _ A9.out).mono ?_); rintro e w10 ⟨rfl, hb⟩; refine ⟨_, rfl, ?_⟩; replace BK135 := AX (bkb BK135 hb); replace HB := AX (below_step bw hb); (try clear hb)) | ((with_reducible refine gate_dst (N := 8) rfl ?_); refine bx 8 #[.int .i64 0, .int .i64 0, .int .i64 0] 33 ?_; intro gb140 hg w11 hbox hb; have BK140 := AX (hbox); have GW140 := gwl (w := w) hg bw; have GE140 := GW140; have NB135_140 := nbl hg (bkn BK135); have NB140_135 := nbg hg (bkn BK135); replace BK135 := AX (bkb BK135 hb); replace HB := AX (below_step bw hb); clear hb hbox hg; have hnb12 := NB140_135.out; have hnc12 := NB135_140.out; obtain ⟨hcz13_0, hcz13_1, hcz13_2⟩ := blkC3 (w := w11) BK140.out; obtain ⟨hfz13_0, hfz13_1, hfz13_2⟩ := blkF3 BK140.out; obtain ⟨hcz14_0, hcz14_1, hcz14_2⟩ := blkC3 (w := w11) BK135.out; obtain ⟨hfz14_0, hfz14_1, hfz14_2⟩ := blkF3 BK135.out))
     refine bodyPost_ret (results_ctt rfl _ _ gb135 33 #[.int .i64 t136, .int .i64 t137, .int .i64 t138] (0, 0) _ rfl (by (with_reducible repeat first|refine blk_drewN ?_ _|refine blk_drew ?_|refine blk_alloc ?_ _); refine blk_put (cs := #[.int .i64 t136, .int .i64 t137, .int .i64 0]) ?_ 2 _ rfl; (with_reducible repeat first|refine blk_drewN ?_ _|refine blk_drew ?_|refine blk_alloc ?_ _); refine blk_put (cs := #[.int .i64 t136, .int .i64 0, .int .i64 0]) ?_ 1 _ rfl; (with_reducible repeat first|refine blk_drewN ?_ _|refine blk_drew ?_|refine blk_alloc ?_ _); refine blk_put (cs := #[.int .i64 0, .int .i64 0, .int .i64 0]) ?_ 0 _ rfl; (with_reducible repeat first|refine blk_drewN ?_ _|refine blk_drew ?_|refine blk_alloc ?_ _); refine blk_far ?_ NB135_140.out _; (with_reducible repeat first|refine blk_drewN ?_ _|refine blk_drew ?_|refine blk_alloc ?_ _); refine blk_far ?_ NB135_140.out _; (with_reducible repeat first|refine blk_drewN ?_ _|refine blk_drew ?_|refine blk_alloc ?_ _); refine blk_far ?_ NB135_140.out _; (with_reducible repeat first|refine blk_drewN ?_ _|refine blk_drew ?_|refine blk_alloc ?_ _); exact BK135.out) Try.underlying33 rfl (by kernel_rfl)) rfl ?_
     exact ⟨by first | rfl | (simp [errW_none, errW_some] <;> rfl) | (simp [*, errW_none, errW_some] <;> rfl), bw⟩
    ·rw [if_neg c8] at H
     have c8b0 : decide ((Int.tmod (wrap64 (a0 + (wrap64 (60 * a1)))) 86400) < 0) = false := decide_eq_false c8
     clear c8
     replace H := Option.bind_eq_some_iff.mp H
     obtain ⟨⟨t141, t142, t143, t144⟩, A150, H⟩ := H
     replace H : (some (t141, t142, t143, wrap64 (Int.tdiv (wrap64 ((wrap64 (a0 + (wrap64 (60 * a1)))) - (wrap64 ((wrap64 (Int.tdiv (wrap64 (a0 + (wrap64 (60 * a1)))) 86400)) * 86400)))) 60), t144)) = some (r1, r2, r3, r4, r5) := H
     have A15 := AX A150
     clear A150
     simp only [Option.some.injEq, Prod.mk.injEq] at H
     obtain ⟨rfl, rfl, rfl, rfl, rfl⟩ := H
     go_wp2_with (first | ((with_reducible refine gate_callee (f := 63) rfl ?_); refine gL (some 30) Try.func63 #[.int .i64 (wrap64 (Int.tdiv (wrap64 (a0 + (wrap64 (60 * a1)))) 86400))] ?_; (with_reducible refine (civil_Of.calls (wrap64 (Int.tdiv (wrap64 (a0 + (wrap64 (60 * a1)))) 86400)) t141 t142 t143 t144 _ A15.out).mono ?_); rintro e w16 ⟨rfl, hb⟩; refine ⟨_, rfl, ?_⟩; replace BK135 := AX (bkb BK135 hb); replace HB := AX (below_step bw hb); (try clear hb)) | ((with_reducible refine gate_dst (N := 8) rfl ?_); refine bx 8 #[.int .i64 0, .int .i64 0, .int .i64 0] 33 ?_; intro gb145 hg w17 hbox hb; have BK145 := AX (hbox); have GW145 := gwl (w := w) hg bw; have GE145 := GW145; have NB135_145 := nbl hg (bkn BK135); have NB145_135 := nbg hg (bkn BK135); replace BK135 := AX (bkb BK135 hb); replace HB := AX (below_step bw hb); clear hb hbox hg; have hnb18 := NB145_135.out; have hnc18 := NB135_145.out; obtain ⟨hcz19_0, hcz19_1, hcz19_2⟩ := blkC3 (w := w17) BK145.out; obtain ⟨hfz19_0, hfz19_1, hfz19_2⟩ := blkF3 BK145.out; obtain ⟨hcz20_0, hcz20_1, hcz20_2⟩ := blkC3 (w := w17) BK135.out; obtain ⟨hfz20_0, hfz20_1, hfz20_2⟩ := blkF3 BK135.out))
     refine bodyPost_ret (results_ctt rfl _ _ gb135 33 #[.int .i64 t141, .int .i64 t142, .int .i64 t143] (0, 0) _ rfl (by (with_reducible repeat first|refine blk_drewN ?_ _|refine blk_drew ?_|refine blk_alloc ?_ _); refine blk_put (cs := #[.int .i64 t141, .int .i64 t142, .int .i64 0]) ?_ 2 _ rfl; (with_reducible repeat first|refine blk_drewN ?_ _|refine blk_drew ?_|refine blk_alloc ?_ _); refine blk_put (cs := #[.int .i64 t141, .int .i64 0, .int .i64 0]) ?_ 1 _ rfl; (with_reducible repeat first|refine blk_drewN ?_ _|refine blk_drew ?_|refine blk_alloc ?_ _); refine blk_put (cs := #[.int .i64 0, .int .i64 0, .int .i64 0]) ?_ 0 _ rfl; (with_reducible repeat first|refine blk_drewN ?_ _|refine blk_drew ?_|refine blk_alloc ?_ _); refine blk_far ?_ NB135_145.out _; (with_reducible repeat first|refine blk_drewN ?_ _|refine blk_drew ?_|refine blk_alloc ?_ _); refine blk_far ?_ NB135_145.out _; (with_reducible repeat first|refine blk_drewN ?_ _|refine blk_drew ?_|refine blk_alloc ?_ _); refine blk_far ?_ NB135_145.out _; (with_reducible repeat first|refine blk_drewN ?_ _|refine blk_drew ?_|refine blk_alloc ?_ _); exact BK135.out) Try.underlying33 rfl (by kernel_rfl)) rfl ?_
     exact ⟨by first | rfl | (simp [errW_none, errW_some] <;> rfl) | (simp [*, errW_none, errW_some] <;> rfl), bw⟩

/-! ### zone_At: function 17 -/
def zone_At.j0 : Nat → Int → Int → Int → Bool → Int → Int → Int → Int → Int → Int → Int → Int → Int → Int → Int → Int → Int → Option (Int × Int × Int × Int × Int × Int)
 | 0, _, _, _, _, _, _, _, _, _, _, _, _, _, _, _, _, _ => none
 | k + 1, x1, x7, x9, x70, x147000, x147001, x147002, x147003, x147004, x147005, x147006, x147007, x147008, x147009, x155000, x155001, x155002 => if x70 = true then ((zone_clock.f k x1 (wrap64 (x9 + x147001))).bind fun bt158 => (if bt158.2.2.2.2 = 0 then (some (bt158.1, bt158.2.1, bt158.2.2.1, bt158.2.2.2.1, wrap64 (x9 + x147001), 0)) else (some (0, 0, 0, 0, 0, bt158.2.2.2.2)))) else (some (x155000, x155001, x155002, x7, x9, 0))
def zone_At.f (k : Nat) (a0_0 : Int) (a0_1 : Int) (a0_2 : Int) (a0_3 : Int) (a0_4 : Int) (a0_5 : Int) (a0_6 : Int) (a0_7 : Int) (a0_8 : Int) (a0_9 : Int) (a1 : Int) : Option (Int × Int × Int × Int × Int × Int) := (zone_Check.f k a0_0 a0_1 a0_2 a0_3 a0_4 a0_5 a0_6 a0_7 a0_8 a0_9).bind fun t148 => (if t148 = 0 then ((zone_clock.f k a1 a0_0).bind fun bt149 => (if bt149.2.2.2.2 = 0 then ((zone_Turns.f k a0_0 a0_1 a0_2 a0_3 a0_4 a0_5 a0_6 a0_7 a0_8 a0_9 bt149.1).bind fun bt155 => (if bt155.2.2 = 0 then (if bt155.1 < bt155.2.1 then (if bt155.1 ≤ a1 then (if a1 < bt155.2.1 then (zone_At.j0 k a1 bt149.2.2.2.1 a0_0 true a0_0 a0_1 a0_2 a0_3 a0_4 a0_5 a0_6 a0_7 a0_8 a0_9 bt149.1 bt149.2.1 bt149.2.2.1) else (if bt155.1 > bt155.2.1 then (zone_At.j0 k a1 bt149.2.2.2.1 a0_0 (decide (a1 ≥ bt155.1)) a0_0 a0_1 a0_2 a0_3 a0_4 a0_5 a0_6 a0_7 a0_8 a0_9 bt149.1 bt149.2.1 bt149.2.2.1) else (zone_At.j0 k a1 bt149.2.2.2.1 a0_0 false a0_0 a0_1 a0_2 a0_3 a0_4 a0_5 a0_6 a0_7 a0_8 a0_9 bt149.1 bt149.2.1 bt149.2.2.1))) else (if bt155.1 > bt155.2.1 then (if a1 < bt155.2.1 then (zone_At.j0 k a1 bt149.2.2.2.1 a0_0 true a0_0 a0_1 a0_2 a0_3 a0_4 a0_5 a0_6 a0_7 a0_8 a0_9 bt149.1 bt149.2.1 bt149.2.2.1) else (zone_At.j0 k a1 bt149.2.2.2.1 a0_0 (decide (a1 ≥ bt155.1)) a0_0 a0_1 a0_2 a0_3 a0_4 a0_5 a0_6 a0_7 a0_8 a0_9 bt149.1 bt149.2.1 bt149.2.2.1)) else (zone_At.j0 k a1 bt149.2.2.2.1 a0_0 false a0_0 a0_1 a0_2 a0_3 a0_4 a0_5 a0_6 a0_7 a0_8 a0_9 bt149.1 bt149.2.1 bt149.2.2.1))) else (if bt155.1 > bt155.2.1 then (if a1 < bt155.2.1 then (zone_At.j0 k a1 bt149.2.2.2.1 a0_0 true a0_0 a0_1 a0_2 a0_3 a0_4 a0_5 a0_6 a0_7 a0_8 a0_9 bt149.1 bt149.2.1 bt149.2.2.1) else (zone_At.j0 k a1 bt149.2.2.2.1 a0_0 (decide (a1 ≥ bt155.1)) a0_0 a0_1 a0_2 a0_3 a0_4 a0_5 a0_6 a0_7 a0_8 a0_9 bt149.1 bt149.2.1 bt149.2.2.1)) else (zone_At.j0 k a1 bt149.2.2.2.1 a0_0 false a0_0 a0_1 a0_2 a0_3 a0_4 a0_5 a0_6 a0_7 a0_8 a0_9 bt149.1 bt149.2.1 bt149.2.2.1))) else (zone_At.j0 k a1 bt149.2.2.2.1 a0_0 false a0_0 a0_1 a0_2 a0_3 a0_4 a0_5 a0_6 a0_7 a0_8 a0_9 bt149.1 bt149.2.1 bt149.2.2.1))) else (some (0, 0, 0, 0, 0, bt149.2.2.2.2)))) else (some (0, 0, 0, 0, 0, 8)))
theorem zone_At.mono_l : ∀ k, (∀ y0 y1 y2 y3 y4 y5 y6 y7 y8 y9 y10 y11 y12 y13 y14 y15 y16, LeO (zone_At.j0 k y0 y1 y2 y3 y4 y5 y6 y7 y8 y9 y10 y11 y12 y13 y14 y15 y16) (zone_At.j0 (k + 1) y0 y1 y2 y3 y4 y5 y6 y7 y8 y9 y10 y11 y12 y13 y14 y15 y16))
 | 0 => fun _ _ _ _ _ _ _ _ _ _ _ _ _ _ _ _ _ r h => by simp [zone_At.j0] at h
 | k + 1 => by
  have ih0 := zone_At.mono_l k
  ·intro y0 y1 y2 y3 y4 y5 y6 y7 y8 y9 y10 y11 y12 y13 y14 y15 y16
   unfold zone_At.j0
   repeat' first
   | (with_reducible exact ih0 _ _ _ _ _ _ _ _ _ _ _ _ _ _ _ _ _)
   | (with_reducible exact zone_Check.mono _ _ _ _ _ _ _ _ _ _ _)
   | (with_reducible exact zone_Turns.mono _ _ _ _ _ _ _ _ _ _ _ _)
   | (with_reducible exact zone_clock.mono _ _ _)
   | (with_reducible exact LeO.refl _)
   | (with_reducible exact LeO.none _)
   | (with_reducible refine LeO.ite ?_ ?_)
   | (with_reducible refine LeO.bind ?_ (fun _ => ?_))
theorem zone_At.mono : ∀ a0 a1 a2 a3 a4 a5 a6 a7 a8 a9 a10 k, LeO (zone_At.f k a0 a1 a2 a3 a4 a5 a6 a7 a8 a9 a10) (zone_At.f (k + 1) a0 a1 a2 a3 a4 a5 a6 a7 a8 a9 a10) := by
 intro a0 a1 a2 a3 a4 a5 a6 a7 a8 a9 a10 k
 have ih0 := zone_At.mono_l k
 unfold zone_At.f
 repeat' first
   | (with_reducible exact ih0 _ _ _ _ _ _ _ _ _ _ _ _ _ _ _ _ _)
   | (with_reducible exact zone_Check.mono _ _ _ _ _ _ _ _ _ _ _)
   | (with_reducible exact zone_Turns.mono _ _ _ _ _ _ _ _ _ _ _ _)
   | (with_reducible exact zone_clock.mono _ _ _)
   | (with_reducible exact LeO.refl _)
   | (with_reducible exact LeO.none _)
   | (with_reducible refine LeO.ite ?_ ?_)
   | (with_reducible refine LeO.bind ?_ (fun _ => ?_))
set_option maxHeartbeats 8000000 in
set_option maxRecDepth 100000 in
theorem zone_At.calls (k : Nat) (a0_0 : Int) (a0_1 : Int) (a0_2 : Int) (a0_3 : Int) (a0_4 : Int) (a0_5 : Int) (a0_6 : Int) (a0_7 : Int) (a0_8 : Int) (a0_9 : Int) (a1 : Int) (r1 : Int) (r2 : Int) (r3 : Int) (r4 : Int) (r5 : Int) (r6 : Int) (w : World) (h : zone_At.f k a0_0 a0_1 a0_2 a0_3 a0_4 a0_5 a0_6 a0_7 a0_8 a0_9 a1 = some (r1, r2, r3, r4, r5, r6)) :
  Calls Try.prog 17 #[.agg #[.int .i64 a0_0, .int .i64 a0_1, .int .i64 a0_2, .int .i64 a0_3, .int .i64 a0_4, .int .i64 a0_5, .int .i64 a0_6, .int .i64 a0_7, .int .i64 a0_8, .int .i64 a0_9], .int .i64 a1] w fun e w' => e = .returned (.tuple #[.agg #[.int .i64 r1, .int .i64 r2, .int .i64 r3, .int .i64 r4, .int .i64 r5], .int .i64 r6]) ∧ Below w.heap.size w w' := by
 have hu25 := Try.underlying25
 have hu35 := Try.underlying35
 have hu33 := Try.underlying33
 have HB := AX (Below.refl w.heap.size w)
 have H : ((zone_Check.f k a0_0 a0_1 a0_2 a0_3 a0_4 a0_5 a0_6 a0_7 a0_8 a0_9).bind fun t148 => (if t148 = 0 then ((zone_clock.f k a1 a0_0).bind fun bt149 => (if bt149.2.2.2.2 = 0 then ((zone_Turns.f k a0_0 a0_1 a0_2 a0_3 a0_4 a0_5 a0_6 a0_7 a0_8 a0_9 bt149.1).bind fun bt155 => (if bt155.2.2 = 0 then (if bt155.1 < bt155.2.1 then (if bt155.1 ≤ a1 then (if a1 < bt155.2.1 then (zone_At.j0 k a1 bt149.2.2.2.1 a0_0 true a0_0 a0_1 a0_2 a0_3 a0_4 a0_5 a0_6 a0_7 a0_8 a0_9 bt149.1 bt149.2.1 bt149.2.2.1) else (if bt155.1 > bt155.2.1 then (zone_At.j0 k a1 bt149.2.2.2.1 a0_0 (decide (a1 ≥ bt155.1)) a0_0 a0_1 a0_2 a0_3 a0_4 a0_5 a0_6 a0_7 a0_8 a0_9 bt149.1 bt149.2.1 bt149.2.2.1) else (zone_At.j0 k a1 bt149.2.2.2.1 a0_0 false a0_0 a0_1 a0_2 a0_3 a0_4 a0_5 a0_6 a0_7 a0_8 a0_9 bt149.1 bt149.2.1 bt149.2.2.1))) else (if bt155.1 > bt155.2.1 then (if a1 < bt155.2.1 then (zone_At.j0 k a1 bt149.2.2.2.1 a0_0 true a0_0 a0_1 a0_2 a0_3 a0_4 a0_5 a0_6 a0_7 a0_8 a0_9 bt149.1 bt149.2.1 bt149.2.2.1) else (zone_At.j0 k a1 bt149.2.2.2.1 a0_0 (decide (a1 ≥ bt155.1)) a0_0 a0_1 a0_2 a0_3 a0_4 a0_5 a0_6 a0_7 a0_8 a0_9 bt149.1 bt149.2.1 bt149.2.2.1)) else (zone_At.j0 k a1 bt149.2.2.2.1 a0_0 false a0_0 a0_1 a0_2 a0_3 a0_4 a0_5 a0_6 a0_7 a0_8 a0_9 bt149.1 bt149.2.1 bt149.2.2.1))) else (if bt155.1 > bt155.2.1 then (if a1 < bt155.2.1 then (zone_At.j0 k a1 bt149.2.2.2.1 a0_0 true a0_0 a0_1 a0_2 a0_3 a0_4 a0_5 a0_6 a0_7 a0_8 a0_9 bt149.1 bt149.2.1 bt149.2.2.1) else (zone_At.j0 k a1 bt149.2.2.2.1 a0_0 (decide (a1 ≥ bt155.1)) a0_0 a0_1 a0_2 a0_3 a0_4 a0_5 a0_6 a0_7 a0_8 a0_9 bt149.1 bt149.2.1 bt149.2.2.1)) else (zone_At.j0 k a1 bt149.2.2.2.1 a0_0 false a0_0 a0_1 a0_2 a0_3 a0_4 a0_5 a0_6 a0_7 a0_8 a0_9 bt149.1 bt149.2.1 bt149.2.2.1))) else (zone_At.j0 k a1 bt149.2.2.2.1 a0_0 false a0_0 a0_1 a0_2 a0_3 a0_4 a0_5 a0_6 a0_7 a0_8 a0_9 bt149.1 bt149.2.1 bt149.2.2.1))) else (some (0, 0, 0, 0, 0, bt149.2.2.2.2)))) else (some (0, 0, 0, 0, 0, 8)))) = some (r1, r2, r3, r4, r5, r6) := h
 clear h
 replace H := Option.bind_eq_some_iff.mp H
 obtain ⟨t148, A30, H⟩ := H
 replace H : (if t148 = 0 then ((zone_clock.f k a1 a0_0).bind fun bt149 => (if bt149.2.2.2.2 = 0 then ((zone_Turns.f k a0_0 a0_1 a0_2 a0_3 a0_4 a0_5 a0_6 a0_7 a0_8 a0_9 bt149.1).bind fun bt155 => (if bt155.2.2 = 0 then (if bt155.1 < bt155.2.1 then (if bt155.1 ≤ a1 then (if a1 < bt155.2.1 then (zone_At.j0 k a1 bt149.2.2.2.1 a0_0 true a0_0 a0_1 a0_2 a0_3 a0_4 a0_5 a0_6 a0_7 a0_8 a0_9 bt149.1 bt149.2.1 bt149.2.2.1) else (if bt155.1 > bt155.2.1 then (zone_At.j0 k a1 bt149.2.2.2.1 a0_0 (decide (a1 ≥ bt155.1)) a0_0 a0_1 a0_2 a0_3 a0_4 a0_5 a0_6 a0_7 a0_8 a0_9 bt149.1 bt149.2.1 bt149.2.2.1) else (zone_At.j0 k a1 bt149.2.2.2.1 a0_0 false a0_0 a0_1 a0_2 a0_3 a0_4 a0_5 a0_6 a0_7 a0_8 a0_9 bt149.1 bt149.2.1 bt149.2.2.1))) else (if bt155.1 > bt155.2.1 then (if a1 < bt155.2.1 then (zone_At.j0 k a1 bt149.2.2.2.1 a0_0 true a0_0 a0_1 a0_2 a0_3 a0_4 a0_5 a0_6 a0_7 a0_8 a0_9 bt149.1 bt149.2.1 bt149.2.2.1) else (zone_At.j0 k a1 bt149.2.2.2.1 a0_0 (decide (a1 ≥ bt155.1)) a0_0 a0_1 a0_2 a0_3 a0_4 a0_5 a0_6 a0_7 a0_8 a0_9 bt149.1 bt149.2.1 bt149.2.2.1)) else (zone_At.j0 k a1 bt149.2.2.2.1 a0_0 false a0_0 a0_1 a0_2 a0_3 a0_4 a0_5 a0_6 a0_7 a0_8 a0_9 bt149.1 bt149.2.1 bt149.2.2.1))) else (if bt155.1 > bt155.2.1 then (if a1 < bt155.2.1 then (zone_At.j0 k a1 bt149.2.2.2.1 a0_0 true a0_0 a0_1 a0_2 a0_3 a0_4 a0_5 a0_6 a0_7 a0_8 a0_9 bt149.1 bt149.2.1 bt149.2.2.1) else (zone_At.j0 k a1 bt149.2.2.2.1 a0_0 (decide (a1 ≥ bt155.1)) a0_0 a0_1 a0_2 a0_3 a0_4 a0_5 a0_6 a0_7 a0_8 a0_9 bt149.1 bt149.2.1 bt149.2.2.1)) else (zone_At.j0 k a1 bt149.2.2.2.1 a0_0 false a0_0 a0_1 a0_2 a0_3 a0_4 a0_5 a0_6 a0_7 a0_8 a0_9 bt149.1 bt149.2.1 bt149.2.2.1))) else (zone_At.j0 k a1 bt149.2.2.2.1 a0_0 false a0_0 a0_1 a0_2 a0_3 a0_4 a0_5 a0_6 a0_7 a0_8 a0_9 bt149.1 bt149.2.1 bt149.2.2.1))) else (some (0, 0, 0, 0, 0, bt149.2.2.2.2)))) else (some (0, 0, 0, 0, 0, 8))) = some (r1, r2, r3, r4, r5, r6) := H
 have A3 := AX A30
 clear A30
 by_cases c4 : t148 = 0
 ·rw [if_pos c4] at H
  have c4b0 : (t148 == 0) = true := beq_iff_eq.mpr c4
  have c4b1 : (t148 != 0) = false := bne_eq_false_iff_eq.mpr c4
  clear c4
  replace H := Option.bind_eq_some_iff.mp H
  obtain ⟨⟨t149, t150, t151, t152, t153⟩, A50, H⟩ := H
  replace H : (if t153 = 0 then ((zone_Turns.f k a0_0 a0_1 a0_2 a0_3 a0_4 a0_5 a0_6 a0_7 a0_8 a0_9 t149).bind fun bt155 => (if bt155.2.2 = 0 then (if bt155.1 < bt155.2.1 then (if bt155.1 ≤ a1 then (if a1 < bt155.2.1 then (zone_At.j0 k a1 t152 a0_0 true a0_0 a0_1 a0_2 a0_3 a0_4 a0_5 a0_6 a0_7 a0_8 a0_9 t149 t150 t151) else (if bt155.1 > bt155.2.1 then (zone_At.j0 k a1 t152 a0_0 (decide (a1 ≥ bt155.1)) a0_0 a0_1 a0_2 a0_3 a0_4 a0_5 a0_6 a0_7 a0_8 a0_9 t149 t150 t151) else (zone_At.j0 k a1 t152 a0_0 false a0_0 a0_1 a0_2 a0_3 a0_4 a0_5 a0_6 a0_7 a0_8 a0_9 t149 t150 t151))) else (if bt155.1 > bt155.2.1 then (if a1 < bt155.2.1 then (zone_At.j0 k a1 t152 a0_0 true a0_0 a0_1 a0_2 a0_3 a0_4 a0_5 a0_6 a0_7 a0_8 a0_9 t149 t150 t151) else (zone_At.j0 k a1 t152 a0_0 (decide (a1 ≥ bt155.1)) a0_0 a0_1 a0_2 a0_3 a0_4 a0_5 a0_6 a0_7 a0_8 a0_9 t149 t150 t151)) else (zone_At.j0 k a1 t152 a0_0 false a0_0 a0_1 a0_2 a0_3 a0_4 a0_5 a0_6 a0_7 a0_8 a0_9 t149 t150 t151))) else (if bt155.1 > bt155.2.1 then (if a1 < bt155.2.1 then (zone_At.j0 k a1 t152 a0_0 true a0_0 a0_1 a0_2 a0_3 a0_4 a0_5 a0_6 a0_7 a0_8 a0_9 t149 t150 t151) else (zone_At.j0 k a1 t152 a0_0 (decide (a1 ≥ bt155.1)) a0_0 a0_1 a0_2 a0_3 a0_4 a0_5 a0_6 a0_7 a0_8 a0_9 t149 t150 t151)) else (zone_At.j0 k a1 t152 a0_0 false a0_0 a0_1 a0_2 a0_3 a0_4 a0_5 a0_6 a0_7 a0_8 a0_9 t149 t150 t151))) else (zone_At.j0 k a1 t152 a0_0 false a0_0 a0_1 a0_2 a0_3 a0_4 a0_5 a0_6 a0_7 a0_8 a0_9 t149 t150 t151))) else (some (0, 0, 0, 0, 0, t153))) = some (r1, r2, r3, r4, r5, r6) := H
  have A5 := AX A50
  clear A50
  by_cases c6 : t153 = 0
  ·rw [if_pos c6] at H
   have c6b0 : (t153 == 0) = true := beq_iff_eq.mpr c6
   have c6b1 : (t153 != 0) = false := bne_eq_false_iff_eq.mpr c6
   clear c6
   replace H := Option.bind_eq_some_iff.mp H
   obtain ⟨⟨t155, t156, t157⟩, A70, H⟩ := H
   replace H : (if t157 = 0 then (if t155 < t156 then (if t155 ≤ a1 then (if a1 < t156 then (zone_At.j0 k a1 t152 a0_0 true a0_0 a0_1 a0_2 a0_3 a0_4 a0_5 a0_6 a0_7 a0_8 a0_9 t149 t150 t151) else (if t155 > t156 then (zone_At.j0 k a1 t152 a0_0 (decide (a1 ≥ t155)) a0_0 a0_1 a0_2 a0_3 a0_4 a0_5 a0_6 a0_7 a0_8 a0_9 t149 t150 t151) else (zone_At.j0 k a1 t152 a0_0 false a0_0 a0_1 a0_2 a0_3 a0_4 a0_5 a0_6 a0_7 a0_8 a0_9 t149 t150 t151))) else (if t155 > t156 then (if a1 < t156 then (zone_At.j0 k a1 t152 a0_0 true a0_0 a0_1 a0_2 a0_3 a0_4 a0_5 a0_6 a0_7 a0_8 a0_9 t149 t150 t151) else (zone_At.j0 k a1 t152 a0_0 (decide (a1 ≥ t155)) a0_0 a0_1 a0_2 a0_3 a0_4 a0_5 a0_6 a0_7 a0_8 a0_9 t149 t150 t151)) else (zone_At.j0 k a1 t152 a0_0 false a0_0 a0_1 a0_2 a0_3 a0_4 a0_5 a0_6 a0_7 a0_8 a0_9 t149 t150 t151))) else (if t155 > t156 then (if a1 < t156 then (zone_At.j0 k a1 t152 a0_0 true a0_0 a0_1 a0_2 a0_3 a0_4 a0_5 a0_6 a0_7 a0_8 a0_9 t149 t150 t151) else (zone_At.j0 k a1 t152 a0_0 (decide (a1 ≥ t155)) a0_0 a0_1 a0_2 a0_3 a0_4 a0_5 a0_6 a0_7 a0_8 a0_9 t149 t150 t151)) else (zone_At.j0 k a1 t152 a0_0 false a0_0 a0_1 a0_2 a0_3 a0_4 a0_5 a0_6 a0_7 a0_8 a0_9 t149 t150 t151))) else (zone_At.j0 k a1 t152 a0_0 false a0_0 a0_1 a0_2 a0_3 a0_4 a0_5 a0_6 a0_7 a0_8 a0_9 t149 t150 t151)) = some (r1, r2, r3, r4, r5, r6) := H
   have A7 := AX A70
   clear A70
   have HC8 := AX H
   clear H
   go_enter Try.func17, Try.ntmps17
   go_upto_region 8 with (first | ((with_reducible refine gate_dst (N := 2) rfl ?_); refine bx 2 #[.int .i64 a0_0, .int .i64 a0_1, .int .i64 a0_2, .int .i64 a0_3, .int .i64 a0_4, .int .i64 a0_5, .int .i64 a0_6, .int .i64 a0_7, .int .i64 a0_8, .int .i64 a0_9] 25 ?_; intro gb146 hg w9 hbox hb; have BK146 := AX (hbox); have GW146 := gwl (w := w) hg bw; have GE146 := GW146; replace HB := AX (below_step bw hb); clear hb hbox hg) | ((with_reducible refine gate_dst (N := 4) rfl ?_); refine bx 4 #[.int .i64 0, .int .i64 0, .int .i64 0, .int .i64 0, .int .i64 0] 35 ?_; intro gb147 hg w10 hbox hb; have BK147 := AX (hbox); have GW147 := gwl (w := w) hg bw; have GE147 := GW147; have NB146_147 := nbl hg (bkn BK146); have NB147_146 := nbg hg (bkn BK146); replace BK146 := AX (bkb BK146 hb); replace HB := AX (below_step bw hb); clear hb hbox hg; have hnb11 := NB146_147.out; have hnc11 := NB147_146.out; obtain ⟨hcz12_0, hcz12_1, hcz12_2, hcz12_3, hcz12_4, hcz12_5, hcz12_6, hcz12_7, hcz12_8, hcz12_9⟩ := blkC10 (w := w10) BK146.out; obtain ⟨hfz12_0, hfz12_1, hfz12_2, hfz12_3, hfz12_4, hfz12_5, hfz12_6, hfz12_7, hfz12_8, hfz12_9⟩ := blkF10 BK146.out) | ((with_reducible refine gate_callee (f := 19) rfl ?_); refine gL (some 14) Try.func19 #[.agg #[.int .i64 a0_0, .int .i64 a0_1, .int .i64 a0_2, .int .i64 a0_3, .int .i64 a0_4, .int .i64 a0_5, .int .i64 a0_6, .int .i64 a0_7, .int .i64 a0_8, .int .i64 a0_9]] ?_; (with_reducible refine (zone_Check.calls k a0_0 a0_1 a0_2 a0_3 a0_4 a0_5 a0_6 a0_7 a0_8 a0_9 t148 _ A3.out).mono ?_); rintro e w13 ⟨rfl, hb⟩; refine ⟨_, rfl, ?_⟩; replace BK146 := AX (bkb BK146 hb); replace BK147 := AX (bkb BK147 hb); replace HB := AX (below_step bw hb); (try clear hb); obtain ⟨hcz14_0, hcz14_1, hcz14_2, hcz14_3, hcz14_4, hcz14_5, hcz14_6, hcz14_7, hcz14_8, hcz14_9⟩ := blkC10 (w := w13) BK146.out; obtain ⟨hfz14_0, hfz14_1, hfz14_2, hfz14_3, hfz14_4, hfz14_5, hfz14_6, hfz14_7, hfz14_8, hfz14_9⟩ := blkF10 BK146.out) | ((with_reducible refine gate_callee (f := 43) rfl ?_); refine gL (some 21) Try.func43 #[.int .i64 a1, .int .i64 a0_0] ?_; (with_reducible refine (zone_clock.calls k a1 a0_0 t149 t150 t151 t152 t153 _ A5.out).mono ?_); rintro e w15 ⟨rfl, hb⟩; refine ⟨_, rfl, ?_⟩; replace BK146 := AX (bkb BK146 hb); replace BK147 := AX (bkb BK147 hb); replace HB := AX (below_step bw hb); (try clear hb)) | ((with_reducible refine gate_dst (N := 6) rfl ?_); refine bx 6 #[.int .i64 0, .int .i64 0, .int .i64 0] 33 ?_; intro gb154 hg w16 hbox hb; have BK154 := AX (hbox); have GW154 := gwl (w := w) hg bw; have GE154 := GW154; have NB146_154 := nbl hg (bkn BK146); have NB154_146 := nbg hg (bkn BK146); have NB147_154 := nbl hg (bkn BK147); have NB154_147 := nbg hg (bkn BK147); replace BK146 := AX (bkb BK146 hb); replace BK147 := AX (bkb BK147 hb); replace HB := AX (below_step bw hb); clear hb hbox hg; have hnb17 := NB154_146.out; have hnc17 := NB146_154.out; have hnb18 := NB154_147.out; have hnc18 := NB147_154.out; obtain ⟨hcz19_0, hcz19_1, hcz19_2⟩ := blkC3 (w := w16) BK154.out; obtain ⟨hfz19_0, hfz19_1, hfz19_2⟩ := blkF3 BK154.out; obtain ⟨hcz20_0, hcz20_1, hcz20_2, hcz20_3, hcz20_4, hcz20_5, hcz20_6, hcz20_7, hcz20_8, hcz20_9⟩ := blkC10 (w := w16) BK146.out; obtain ⟨hfz20_0, hfz20_1, hfz20_2, hfz20_3, hfz20_4, hfz20_5, hfz20_6, hfz20_7, hfz20_8, hfz20_9⟩ := blkF10 BK146.out) | ((with_reducible refine gate_callee (f := 15) rfl ?_); refine gL (some 35) Try.func15 #[.agg #[.int .i64 a0_0, .int .i64 a0_1, .int .i64 a0_2, .int .i64 a0_3, .int .i64 a0_4, .int .i64 a0_5, .int .i64 a0_6, .int .i64 a0_7, .int .i64 a0_8, .int .i64 a0_9], .int .i64 t149] ?_; (with_reducible refine (zone_Turns.calls k a0_0 a0_1 a0_2 a0_3 a0_4 a0_5 a0_6 a0_7 a0_8 a0_9 t149 t155 t156 t157 _ A7.out).mono ?_); rintro e w21 ⟨rfl, hb⟩; refine ⟨_, rfl, ?_⟩; replace BK146 := AX (blk_below (g := gb146) (o := .cells #[.int .i64 a0_0, .int .i64 a0_1, .int .i64 a0_2, .int .i64 a0_3, .int .i64 a0_4, .int .i64 a0_5, .int .i64 a0_6, .int .i64 a0_7, .int .i64 a0_8, .int .i64 a0_9] 25 (0, 0)) (by (with_reducible repeat first|refine blk_drewN ?_ _|refine blk_drew ?_|refine blk_alloc ?_ _|refine blk_far ?_ NB146_154.out _); exact BK146.out) hb); replace BK147 := AX (blk_below (g := gb147) (o := .cells #[.int .i64 0, .int .i64 0, .int .i64 0, .int .i64 0, .int .i64 0] 35 (0, 0)) (by (with_reducible repeat first|refine blk_drewN ?_ _|refine blk_drew ?_|refine blk_alloc ?_ _|refine blk_far ?_ NB147_154.out _); exact BK147.out) hb); replace BK154 := AX (blk_below (g := gb154) (o := .cells #[.int .i64 t149, .int .i64 t150, .int .i64 t151] 33 (0, 0)) (by (with_reducible repeat first|refine blk_drewN ?_ _|refine blk_drew ?_|refine blk_alloc ?_ _); refine blk_put (cs := #[.int .i64 t149, .int .i64 t150, .int .i64 0]) ?_ 2 _ rfl; (with_reducible repeat first|refine blk_drewN ?_ _|refine blk_drew ?_|refine blk_alloc ?_ _); refine blk_put (cs := #[.int .i64 t149, .int .i64 0, .int .i64 0]) ?_ 1 _ rfl; (with_reducible repeat first|refine blk_drewN ?_ _|refine blk_drew ?_|refine blk_alloc ?_ _); refine blk_put (cs := #[.int .i64 0, .int .i64 0, .int .i64 0]) ?_ 0 _ rfl; (with_reducible repeat first|refine blk_drewN ?_ _|refine blk_drew ?_|refine blk_alloc ?_ _); exact BK154.out) hb); replace HB := AX (below_step bw hb); (try clear hb)))
   (try simp only [Act.put, List.setIfInBounds_toArray, List.set_cons_zero, List.set_cons_succ])
   go_cut [70] (fun v70 wc => ∃ (kq : Nat) (x70_7 : Bool), v70 = .bool x70_7 ∧ Aside0 (zone_At.j0 kq a1 t152 a0_0 x70_7 a0_0 a0_1 a0_2 a0_3 a0_4 a0_5 a0_6 a0_7 a0_8 a0_9 t149 t150 t151 = some (r1, r2, r3, r4, r5, r6)) ∧ Aside0 (kq ≤ k) ∧ Aside0 (wc.heap[gb146]? = some (.cells #[.int .i64 a0_0, .int .i64 a0_1, .int .i64 a0_2, .int .i64 a0_3, .int .i64 a0_4, .int .i64 a0_5, .int .i64 a0_6, .int .i64 a0_7, .int .i64 a0_8, .int .i64 a0_9] 25 (0, 0))) ∧ Aside0 (wc.heap[gb147]? = some (.cells #[.int .i64 0, .int .i64 0, .int .i64 0, .int .i64 0, .int .i64 0] 35 (0, 0))) ∧ Aside0 (wc.heap[gb154]? = some (.cells #[.int .i64 t149, .int .i64 t150, .int .i64 t151] 33 (0, 0))) ∧ Aside0 (Below w.heap.size w wc))
   case first =>
    have H := HC8.out
    clear HC8
    by_cases c22 : t157 = 0
    ·rw [if_pos c22] at H
     have c22b0 : (t157 == 0) = true := beq_iff_eq.mpr c22
     have c22b1 : (t157 != 0) = false := bne_eq_false_iff_eq.mpr c22
     clear c22
     (first | rw [c22b0] | (simp only [i64_w, i32_w]; rw [c22b0]) | skip)
     by_cases c23 : t155 < t156
     ·rw [if_pos c23] at H
      have c23b0 : decide (t155 < t156) = true := decide_eq_true c23
      clear c23
      by_cases c24 : t155 ≤ a1
      ·rw [if_pos c24] at H
       have c24b0 : decide (t155 ≤ a1) = true := decide_eq_true c24
       clear c24
       by_cases c25 : a1 < t156
       ·rw [if_pos c25] at H
        have c25b0 : decide (a1 < t156) = true := decide_eq_true c25
        clear c25
        have H' := AX H
        clear H
        go_wp2
        go_meet
        case rel => exact ⟨_, (true), (by first | rfl | (simp; done) | (simp [*]; done)), H', ⟨by first | omega | exact Nat.le_refl _⟩, ⟨bkn BK146⟩, ⟨bkn BK147⟩, ⟨bkn BK154⟩, ⟨bw⟩⟩
       ·rw [if_neg c25] at H
        have c25b0 : decide (a1 < t156) = false := decide_eq_false c25
        clear c25
        by_cases c26 : t155 > t156
        ·rw [if_pos c26] at H
         have c26b0 : decide (t156 < t155) = true := decide_eq_true c26
         clear c26
         have H' := AX H
         clear H
         go_wp2
         go_meet
         case rel => exact ⟨_, (decide (a1 ≥ t155)), (by first | rfl | (simp; done) | (simp [*]; done)), H', ⟨by first | omega | exact Nat.le_refl _⟩, ⟨bkn BK146⟩, ⟨bkn BK147⟩, ⟨bkn BK154⟩, ⟨bw⟩⟩
        ·rw [if_neg c26] at H
         have c26b0 : decide (t156 < t155) = false := decide_eq_false c26
         clear c26
         have H' := AX H
         clear H
         go_wp2
         go_meet
         case rel => exact ⟨_, (false), (by first | rfl | (simp; done) | (simp [*]; done)), H', ⟨by first | omega | exact Nat.le_refl _⟩, ⟨bkn BK146⟩, ⟨bkn BK147⟩, ⟨bkn BK154⟩, ⟨bw⟩⟩
      ·rw [if_neg c24] at H
       have c24b0 : decide (t155 ≤ a1) = false := decide_eq_false c24
       clear c24
       by_cases c27 : t155 > t156
       ·rw [if_pos c27] at H
        have c27b0 : decide (t156 < t155) = true := decide_eq_true c27
        clear c27
        by_cases c28 : a1 < t156
        ·rw [if_pos c28] at H
         have c28b0 : decide (a1 < t156) = true := decide_eq_true c28
         clear c28
         have H' := AX H
         clear H
         go_wp2
         go_meet
         case rel => exact ⟨_, (true), (by first | rfl | (simp; done) | (simp [*]; done)), H', ⟨by first | omega | exact Nat.le_refl _⟩, ⟨bkn BK146⟩, ⟨bkn BK147⟩, ⟨bkn BK154⟩, ⟨bw⟩⟩
        ·rw [if_neg c28] at H
         have c28b0 : decide (a1 < t156) = false := decide_eq_false c28
         clear c28
         have H' := AX H
         clear H
         go_wp2
         go_meet
         case rel => exact ⟨_, (decide (a1 ≥ t155)), (by first | rfl | (simp; done) | (simp [*]; done)), H', ⟨by first | omega | exact Nat.le_refl _⟩, ⟨bkn BK146⟩, ⟨bkn BK147⟩, ⟨bkn BK154⟩, ⟨bw⟩⟩
       ·rw [if_neg c27] at H
        have c27b0 : decide (t156 < t155) = false := decide_eq_false c27
        clear c27
        have H' := AX H
        clear H
        go_wp2
        go_meet
        case rel => exact ⟨_, (false), (by first | rfl | (simp; done) | (simp [*]; done)), H', ⟨by first | omega | exact Nat.le_refl _⟩, ⟨bkn BK146⟩, ⟨bkn BK147⟩, ⟨bkn BK154⟩, ⟨bw⟩⟩
     ·rw [if_neg c23] at H
      have c23b0 : decide (t155 < t156) = false := decide_eq_false c23
      clear c23
      by_cases c29 : t155 > t156
      ·rw [if_pos c29] at H
       have c29b0 : decide (t156 < t155) = true := decide_eq_true c29
       clear c29
       by_cases c30 : a1 < t156
       ·rw [if_pos c30] at H
        have c30b0 : decide (a1 < t156) = true := decide_eq_true c30
        clear c30
        have H' := AX H
        clear H
        go_wp2
        go_meet
        case rel => exact ⟨_, (true), (by first | rfl | (simp; done) | (simp [*]; done)), H', ⟨by first | omega | exact Nat.le_refl _⟩, ⟨bkn BK146⟩, ⟨bkn BK147⟩, ⟨bkn BK154⟩, ⟨bw⟩⟩
       ·rw [if_neg c30] at H
        have c30b0 : decide (a1 < t156) = false := decide_eq_false c30
        clear c30
        have H' := AX H
        clear H
        go_wp2
        go_meet
        case rel => exact ⟨_, (decide (a1 ≥ t155)), (by first | rfl | (simp; done) | (simp [*]; done)), H', ⟨by first | omega | exact Nat.le_refl _⟩, ⟨bkn BK146⟩, ⟨bkn BK147⟩, ⟨bkn BK154⟩, ⟨bw⟩⟩
      ·rw [if_neg c29] at H
       have c29b0 : decide (t156 < t155) = false := decide_eq_false c29
       clear c29
       have H' := AX H
       clear H
       go_wp2
       go_meet
       case rel => exact ⟨_, (false), (by first | rfl | (simp; done) | (simp [*]; done)), H', ⟨by first | omega | exact Nat.le_refl _⟩, ⟨bkn BK146⟩, ⟨bkn BK147⟩, ⟨bkn BK154⟩, ⟨bw⟩⟩
    ·rw [if_neg c22] at H
     have c22b0 : (t157 == 0) = false := beq_eq_false_iff_ne.mpr c22
     have c22b1 : (t157 != 0) = true := bne_iff_ne.mpr c22
     (first | rw [c22b0] | (simp only [i64_w, i32_w]; rw [c22b0]) | skip)
     have H' := AX H
     clear H
     go_wp2
     go_meet
     case rel => exact ⟨_, (false), (by first | rfl | (simp; done) | (simp [*]; done)), H', ⟨by first | omega | exact Nat.le_refl _⟩, ⟨bkn BK146⟩, ⟨bkn BK147⟩, ⟨bkn BK154⟩, ⟨bw⟩⟩
   case rest =>
    clear HC8
    try clear c4b0 c4b1
    try clear c6b0 c6b1
    try clear hcz12_0 hcz12_1 hcz12_2 hcz12_3 hcz12_4 hcz12_5 hcz12_6 hcz12_7 hcz12_8 hcz12_9
    try clear hcz14_0 hcz14_1 hcz14_2 hcz14_3 hcz14_4 hcz14_5 hcz14_6 hcz14_7 hcz14_8 hcz14_9
    try clear hcz19_0 hcz19_1 hcz19_2
    try clear hcz20_0 hcz20_1 hcz20_2 hcz20_3 hcz20_4 hcz20_5 hcz20_6 hcz20_7 hcz20_8 hcz20_9
    try clear hfz12_0 hfz12_1 hfz12_2 hfz12_3 hfz12_4 hfz12_5 hfz12_6 hfz12_7 hfz12_8 hfz12_9
    try clear hfz14_0 hfz14_1 hfz14_2 hfz14_3 hfz14_4 hfz14_5 hfz14_6 hfz14_7 hfz14_8 hfz14_9
    try clear hfz19_0 hfz19_1 hfz19_2
    try clear hfz20_0 hfz20_1 hfz20_2 hfz20_3 hfz20_4 hfz20_5 hfz20_6 hfz20_7 hfz20_8 hfz20_9
    obtain ⟨kq, x70_7, rfl, HA, HJ7, BK146, BK147, BK154, HB⟩ := hcut
    cases kq with
    | zero => exact absurd HA.out (by simp [zone_At.j0])
    | succ kj7 =>
     have H := HA.out
     clear HA
     simp only [zone_At.j0] at H
     by_cases c31 : x70_7 = true
     ·subst c31
      have H1 : ((zone_clock.f kj7 a1 (wrap64 (a0_0 + a0_1))).bind fun bt158 => (if bt158.2.2.2.2 = 0 then (some (bt158.1, bt158.2.1, bt158.2.2.1, bt158.2.2.2.1, wrap64 (a0_0 + a0_1), 0)) else (some (0, 0, 0, 0, 0, bt158.2.2.2.2)))) = some (r1, r2, r3, r4, r5, r6) := by rw [if_pos rfl] at H; exact H
      clear H
      have H := H1
      clear H1
      replace H := Option.bind_eq_some_iff.mp H
      obtain ⟨⟨t158, t159, t160, t161, t162⟩, A320, H⟩ := H
      replace H : (if t162 = 0 then (some (t158, t159, t160, t161, wrap64 (a0_0 + a0_1), 0)) else (some (0, 0, 0, 0, 0, t162))) = some (r1, r2, r3, r4, r5, r6) := H
      have A32 := AX A320
      clear A320
      by_cases c33 : t162 = 0
      ·rw [if_pos c33] at H
       have c33b0 : (t162 == 0) = true := beq_iff_eq.mpr c33
       have c33b1 : (t162 != 0) = false := bne_eq_false_iff_eq.mpr c33
       clear c33
       simp only [Option.some.injEq, Prod.mk.injEq] at H
       obtain ⟨rfl, rfl, rfl, rfl, rfl, rfl⟩ := H
       have hnb34 := NB146_147.out
       have hnc34 := NB147_146.out
       have hnb35 := NB146_154.out
       have hnc35 := NB154_146.out
       obtain ⟨hcz36_0, hcz36_1, hcz36_2, hcz36_3, hcz36_4, hcz36_5, hcz36_6, hcz36_7, hcz36_8, hcz36_9⟩ := blkC10 (w := wc) BK146.out
       obtain ⟨hfz36_0, hfz36_1, hfz36_2, hfz36_3, hfz36_4, hfz36_5, hfz36_6, hfz36_7, hfz36_8, hfz36_9⟩ := blkF10 BK146.out
       go_wp2_with (first | ((with_reducible refine gate_callee (f := 43) rfl ?_); refine gL (some 78) Try.func43 #[.int .i64 a1, .int .i64 (wrap64 (a0_0 + a0_1))] ?_; (with_reducible refine (zone_clock.calls kj7 a1 (wrap64 (a0_0 + a0_1)) t158 t159 t160 t161 t162 _ A32.out).mono ?_); rintro e w37 ⟨rfl, hb⟩; refine ⟨_, rfl, ?_⟩; replace BK146 := AX (bkb BK146 hb); replace BK147 := AX (bkb BK147 hb); replace BK154 := AX (bkb BK154 hb); replace HB := AX (below_step bw hb); (try clear hb); have hnb38 := NB154_147.out; have hnc38 := NB147_154.out; obtain ⟨hcz39_0, hcz39_1, hcz39_2⟩ := blkC3 (w := w37) BK154.out; obtain ⟨hfz39_0, hfz39_1, hfz39_2⟩ := blkF3 BK154.out; obtain ⟨hcz40_0, hcz40_1, hcz40_2, hcz40_3, hcz40_4⟩ := blkC5 (w := w37) BK147.out; obtain ⟨hfz40_0, hfz40_1, hfz40_2, hfz40_3, hfz40_4⟩ := blkF5 BK147.out))
       refine bodyPost_ret (results_ct rfl _ _ gb147 35 #[.int .i64 t158, .int .i64 t159, .int .i64 t160, .int .i64 t161, .int .i64 (wrap64 (a0_0 + a0_1))] (0, 0) _ rfl (by (with_reducible repeat first|refine blk_drewN ?_ _|refine blk_drew ?_|refine blk_alloc ?_ _); refine blk_put (cs := #[.int .i64 t158, .int .i64 t159, .int .i64 t160, .int .i64 t161, .int .i64 0]) ?_ 4 _ rfl; (with_reducible repeat first|refine blk_drewN ?_ _|refine blk_drew ?_|refine blk_alloc ?_ _); refine blk_put (cs := #[.int .i64 t158, .int .i64 t159, .int .i64 t160, .int .i64 0, .int .i64 0]) ?_ 3 _ rfl; (with_reducible repeat first|refine blk_drewN ?_ _|refine blk_drew ?_|refine blk_alloc ?_ _); refine blk_put (cs := #[.int .i64 t158, .int .i64 t159, .int .i64 0, .int .i64 0, .int .i64 0]) ?_ 2 _ rfl; (with_reducible repeat first|refine blk_drewN ?_ _|refine blk_drew ?_|refine blk_alloc ?_ _); refine blk_put (cs := #[.int .i64 t158, .int .i64 0, .int .i64 0, .int .i64 0, .int .i64 0]) ?_ 1 _ rfl; (with_reducible repeat first|refine blk_drewN ?_ _|refine blk_drew ?_|refine blk_alloc ?_ _); refine blk_put (cs := #[.int .i64 0, .int .i64 0, .int .i64 0, .int .i64 0, .int .i64 0]) ?_ 0 _ rfl; (with_reducible repeat first|refine blk_drewN ?_ _|refine blk_drew ?_|refine blk_alloc ?_ _); refine blk_far ?_ NB147_154.out _; (with_reducible repeat first|refine blk_drewN ?_ _|refine blk_drew ?_|refine blk_alloc ?_ _); refine blk_far ?_ NB147_154.out _; (with_reducible repeat first|refine blk_drewN ?_ _|refine blk_drew ?_|refine blk_alloc ?_ _); refine blk_far ?_ NB147_154.out _; (with_reducible repeat first|refine blk_drewN ?_ _|refine blk_drew ?_|refine blk_alloc ?_ _); exact BK147.out) Try.underlying35 rfl (by kernel_rfl)) rfl ?_
       exact ⟨by first | rfl | (simp [errW_none, errW_some] <;> rfl) | (simp [*, errW_none, errW_some] <;> rfl), bw⟩
      ·rw [if_neg c33] at H
       have c33b0 : (t162 == 0) = false := beq_eq_false_iff_ne.mpr c33
       have c33b1 : (t162 != 0) = true := bne_iff_ne.mpr c33
       simp only [Option.some.injEq, Prod.mk.injEq] at H
       obtain ⟨rfl, rfl, rfl, rfl, rfl, rfl⟩ := H
       have hnb41 := NB146_147.out
       have hnc41 := NB147_146.out
       have hnb42 := NB146_154.out
       have hnc42 := NB154_146.out
       obtain ⟨hcz43_0, hcz43_1, hcz43_2, hcz43_3, hcz43_4, hcz43_5, hcz43_6, hcz43_7, hcz43_8, hcz43_9⟩ := blkC10 (w := wc) BK146.out
       obtain ⟨hfz43_0, hfz43_1, hfz43_2, hfz43_3, hfz43_4, hfz43_5, hfz43_6, hfz43_7, hfz43_8, hfz43_9⟩ := blkF10 BK146.out
       go_wp2_with (first | ((with_reducible refine gate_callee (f := 43) rfl ?_); refine gL (some 78) Try.func43 #[.int .i64 a1, .int .i64 (wrap64 (a0_0 + a0_1))] ?_; (with_reducible refine (zone_clock.calls kj7 a1 (wrap64 (a0_0 + a0_1)) t158 t159 t160 t161 t162 _ A32.out).mono ?_); rintro e w44 ⟨rfl, hb⟩; refine ⟨_, rfl, ?_⟩; replace BK146 := AX (bkb BK146 hb); replace BK147 := AX (bkb BK147 hb); replace BK154 := AX (bkb BK154 hb); replace HB := AX (below_step bw hb); (try clear hb); have hnb45 := NB154_147.out; have hnc45 := NB147_154.out; obtain ⟨hcz46_0, hcz46_1, hcz46_2⟩ := blkC3 (w := w44) BK154.out; obtain ⟨hfz46_0, hfz46_1, hfz46_2⟩ := blkF3 BK154.out; obtain ⟨hcz47_0, hcz47_1, hcz47_2, hcz47_3, hcz47_4⟩ := blkC5 (w := w44) BK147.out; obtain ⟨hfz47_0, hfz47_1, hfz47_2, hfz47_3, hfz47_4⟩ := blkF5 BK147.out))
       refine bodyPost_ret (results_ct rfl _ _ gb147 35 #[.int .i64 0, .int .i64 0, .int .i64 0, .int .i64 0, .int .i64 0] (0, 0) _ rfl (by (with_reducible repeat first|refine blk_drewN ?_ _|refine blk_drew ?_|refine blk_alloc ?_ _); refine blk_put (cs := #[.int .i64 0, .int .i64 0, .int .i64 0, .int .i64 0, .int .i64 0]) ?_ 4 _ rfl; (with_reducible repeat first|refine blk_drewN ?_ _|refine blk_drew ?_|refine blk_alloc ?_ _); refine blk_put (cs := #[.int .i64 0, .int .i64 0, .int .i64 0, .int .i64 0, .int .i64 0]) ?_ 3 _ rfl; (with_reducible repeat first|refine blk_drewN ?_ _|refine blk_drew ?_|refine blk_alloc ?_ _); refine blk_put (cs := #[.int .i64 0, .int .i64 0, .int .i64 0, .int .i64 0, .int .i64 0]) ?_ 2 _ rfl; (with_reducible repeat first|refine blk_drewN ?_ _|refine blk_drew ?_|refine blk_alloc ?_ _); refine blk_put (cs := #[.int .i64 0, .int .i64 0, .int .i64 0, .int .i64 0, .int .i64 0]) ?_ 1 _ rfl; (with_reducible repeat first|refine blk_drewN ?_ _|refine blk_drew ?_|refine blk_alloc ?_ _); refine blk_put (cs := #[.int .i64 0, .int .i64 0, .int .i64 0, .int .i64 0, .int .i64 0]) ?_ 0 _ rfl; (with_reducible repeat first|refine blk_drewN ?_ _|refine blk_drew ?_|refine blk_alloc ?_ _); refine blk_far ?_ NB147_154.out _; (with_reducible repeat first|refine blk_drewN ?_ _|refine blk_drew ?_|refine blk_alloc ?_ _); refine blk_far ?_ NB147_154.out _; (with_reducible repeat first|refine blk_drewN ?_ _|refine blk_drew ?_|refine blk_alloc ?_ _); refine blk_far ?_ NB147_154.out _; (with_reducible repeat first|refine blk_drewN ?_ _|refine blk_drew ?_|refine blk_alloc ?_ _); exact BK147.out) Try.underlying35 rfl (by kernel_rfl)) rfl ?_
       exact ⟨by first | rfl | (simp [errW_none, errW_some] <;> rfl) | (simp [*, errW_none, errW_some] <;> rfl), bw⟩
     ·replace c31 := Bool.eq_false_iff.mpr c31
      subst c31
      have H1 : (some (t149, t150, t151, t152, a0_0, 0)) = some (r1, r2, r3, r4, r5, r6) := by rw [if_neg (show ¬ (false = true) by decide)] at H; exact H
      clear H
      have H := H1
      clear H1
      simp only [Option.some.injEq, Prod.mk.injEq] at H
      obtain ⟨rfl, rfl, rfl, rfl, rfl, rfl⟩ := H
      have hnb48 := NB154_146.out
      have hnc48 := NB146_154.out
      have hnb49 := NB154_147.out
      have hnc49 := NB147_154.out
      obtain ⟨hcz50_0, hcz50_1, hcz50_2⟩ := blkC3 (w := wc) BK154.out
      obtain ⟨hfz50_0, hfz50_1, hfz50_2⟩ := blkF3 BK154.out
      have hnb51 := NB147_146.out
      have hnc51 := NB146_147.out
      obtain ⟨hcz52_0, hcz52_1, hcz52_2, hcz52_3, hcz52_4⟩ := blkC5 (w := wc) BK147.out
      obtain ⟨hfz52_0, hfz52_1, hfz52_2, hfz52_3, hfz52_4⟩ := blkF5 BK147.out
      go_wp2
      refine bodyPost_ret (results_ct rfl _ _ gb147 35 #[.int .i64 t149, .int .i64 t150, .int .i64 t151, .int .i64 t152, .int .i64 a0_0] (0, 0) _ rfl (by (with_reducible repeat first|refine blk_drewN ?_ _|refine blk_drew ?_|refine blk_alloc ?_ _); refine blk_put (cs := #[.int .i64 t149, .int .i64 t150, .int .i64 t151, .int .i64 t152, .int .i64 0]) ?_ 4 _ rfl; (with_reducible repeat first|refine blk_drewN ?_ _|refine blk_drew ?_|refine blk_alloc ?_ _); refine blk_put (cs := #[.int .i64 t149, .int .i64 t150, .int .i64 t151, .int .i64 0, .int .i64 0]) ?_ 3 _ rfl; (with_reducible repeat first|refine blk_drewN ?_ _|refine blk_drew ?_|refine blk_alloc ?_ _); refine blk_put (cs := #[.int .i64 t149, .int .i64 t150, .int .i64 0, .int .i64 0, .int .i64 0]) ?_ 2 _ rfl; (with_reducible repeat first|refine blk_drewN ?_ _|refine blk_drew ?_|refine blk_alloc ?_ _); refine blk_put (cs := #[.int .i64 t149, .int .i64 0, .int .i64 0, .int .i64 0, .int .i64 0]) ?_ 1 _ rfl; (with_reducible repeat first|refine blk_drewN ?_ _|refine blk_drew ?_|refine blk_alloc ?_ _); refine blk_put (cs := #[.int .i64 0, .int .i64 0, .int .i64 0, .int .i64 0, .int .i64 0]) ?_ 0 _ rfl; (with_reducible repeat first|refine blk_drewN ?_ _|refine blk_drew ?_|refine blk_alloc ?_ _); exact BK147.out) Try.underlying35 rfl (by kernel_rfl)) rfl ?_
      exact ⟨by first | rfl | (simp [errW_none, errW_some] <;> rfl) | (simp [*, errW_none, errW_some] <;> rfl), bw⟩
  ·rw [if_neg c6] at H
   have c6b0 : (t153 == 0) = false := beq_eq_false_iff_ne.mpr c6
   have c6b1 : (t153 != 0) = true := bne_iff_ne.mpr c6
   simp only [Option.some.injEq, Prod.mk.injEq] at H
   obtain ⟨rfl, rfl, rfl, rfl, rfl, rfl⟩ := H
   go_enter Try.func17, Try.ntmps17
   go_wp2_with (first | ((with_reducible refine gate_dst (N := 2) rfl ?_); refine bx 2 #[.int .i64 a0_0, .int .i64 a0_1, .int .i64 a0_2, .int .i64 a0_3, .int .i64 a0_4, .int .i64 a0_5, .int .i64 a0_6, .int .i64 a0_7, .int .i64 a0_8, .int .i64 a0_9] 25 ?_; intro gb146 hg w53 hbox hb; have BK146 := AX (hbox); have GW146 := gwl (w := w) hg bw; have GE146 := GW146; replace HB := AX (below_step bw hb); clear hb hbox hg) | ((with_reducible refine gate_dst (N := 4) rfl ?_); refine bx 4 #[.int .i64 0, .int .i64 0, .int .i64 0, .int .i64 0, .int .i64 0] 35 ?_; intro gb147 hg w54 hbox hb; have BK147 := AX (hbox); have GW147 := gwl (w := w) hg bw; have GE147 := GW147; have NB146_147 := nbl hg (bkn BK146); have NB147_146 := nbg hg (bkn BK146); replace BK146 := AX (bkb BK146 hb); replace HB := AX (below_step bw hb); clear hb hbox hg; have hnb55 := NB146_147.out; have hnc55 := NB147_146.out; obtain ⟨hcz56_0, hcz56_1, hcz56_2, hcz56_3, hcz56_4, hcz56_5, hcz56_6, hcz56_7, hcz56_8, hcz56_9⟩ := blkC10 (w := w54) BK146.out; obtain ⟨hfz56_0, hfz56_1, hfz56_2, hfz56_3, hfz56_4, hfz56_5, hfz56_6, hfz56_7, hfz56_8, hfz56_9⟩ := blkF10 BK146.out) | ((with_reducible refine gate_callee (f := 19) rfl ?_); refine gL (some 14) Try.func19 #[.agg #[.int .i64 a0_0, .int .i64 a0_1, .int .i64 a0_2, .int .i64 a0_3, .int .i64 a0_4, .int .i64 a0_5, .int .i64 a0_6, .int .i64 a0_7, .int .i64 a0_8, .int .i64 a0_9]] ?_; (with_reducible refine (zone_Check.calls k a0_0 a0_1 a0_2 a0_3 a0_4 a0_5 a0_6 a0_7 a0_8 a0_9 t148 _ A3.out).mono ?_); rintro e w57 ⟨rfl, hb⟩; refine ⟨_, rfl, ?_⟩; replace BK146 := AX (bkb BK146 hb); replace BK147 := AX (bkb BK147 hb); replace HB := AX (below_step bw hb); (try clear hb); obtain ⟨hcz58_0, hcz58_1, hcz58_2, hcz58_3, hcz58_4, hcz58_5, hcz58_6, hcz58_7, hcz58_8, hcz58_9⟩ := blkC10 (w := w57) BK146.out; obtain ⟨hfz58_0, hfz58_1, hfz58_2, hfz58_3, hfz58_4, hfz58_5, hfz58_6, hfz58_7, hfz58_8, hfz58_9⟩ := blkF10 BK146.out) | ((with_reducible refine gate_callee (f := 43) rfl ?_); refine gL (some 21) Try.func43 #[.int .i64 a1, .int .i64 a0_0] ?_; (with_reducible refine (zone_clock.calls k a1 a0_0 t149 t150 t151 t152 t153 _ A5.out).mono ?_); rintro e w59 ⟨rfl, hb⟩; refine ⟨_, rfl, ?_⟩; replace BK146 := AX (bkb BK146 hb); replace BK147 := AX (bkb BK147 hb); replace HB := AX (below_step bw hb); (try clear hb)) | ((with_reducible refine gate_dst (N := 6) rfl ?_); refine bx 6 #[.int .i64 0, .int .i64 0, .int .i64 0] 33 ?_; intro gb154 hg w60 hbox hb; have BK154 := AX (hbox); have GW154 := gwl (w := w) hg bw; have GE154 := GW154; have NB146_154 := nbl hg (bkn BK146); have NB154_146 := nbg hg (bkn BK146); have NB147_154 := nbl hg (bkn BK147); have NB154_147 := nbg hg (bkn BK147); replace BK146 := AX (bkb BK146 hb); replace BK147 := AX (bkb BK147 hb); replace HB := AX (below_step bw hb); clear hb hbox hg; have hnb61 := NB154_146.out; have hnc61 := NB146_154.out; have hnb62 := NB154_147.out; have hnc62 := NB147_154.out; obtain ⟨hcz63_0, hcz63_1, hcz63_2⟩ := blkC3 (w := w60) BK154.out; obtain ⟨hfz63_0, hfz63_1, hfz63_2⟩ := blkF3 BK154.out; obtain ⟨hcz64_0, hcz64_1, hcz64_2, hcz64_3, hcz64_4⟩ := blkC5 (w := w60) BK147.out; obtain ⟨hfz64_0, hfz64_1, hfz64_2, hfz64_3, hfz64_4⟩ := blkF5 BK147.out))
   refine bodyPost_ret (results_ct rfl _ _ gb147 35 #[.int .i64 0, .int .i64 0, .int .i64 0, .int .i64 0, .int .i64 0] (0, 0) _ rfl (by (with_reducible repeat first|refine blk_drewN ?_ _|refine blk_drew ?_|refine blk_alloc ?_ _); refine blk_put (cs := #[.int .i64 0, .int .i64 0, .int .i64 0, .int .i64 0, .int .i64 0]) ?_ 4 _ rfl; (with_reducible repeat first|refine blk_drewN ?_ _|refine blk_drew ?_|refine blk_alloc ?_ _); refine blk_put (cs := #[.int .i64 0, .int .i64 0, .int .i64 0, .int .i64 0, .int .i64 0]) ?_ 3 _ rfl; (with_reducible repeat first|refine blk_drewN ?_ _|refine blk_drew ?_|refine blk_alloc ?_ _); refine blk_put (cs := #[.int .i64 0, .int .i64 0, .int .i64 0, .int .i64 0, .int .i64 0]) ?_ 2 _ rfl; (with_reducible repeat first|refine blk_drewN ?_ _|refine blk_drew ?_|refine blk_alloc ?_ _); refine blk_put (cs := #[.int .i64 0, .int .i64 0, .int .i64 0, .int .i64 0, .int .i64 0]) ?_ 1 _ rfl; (with_reducible repeat first|refine blk_drewN ?_ _|refine blk_drew ?_|refine blk_alloc ?_ _); refine blk_put (cs := #[.int .i64 0, .int .i64 0, .int .i64 0, .int .i64 0, .int .i64 0]) ?_ 0 _ rfl; (with_reducible repeat first|refine blk_drewN ?_ _|refine blk_drew ?_|refine blk_alloc ?_ _); refine blk_far ?_ NB147_154.out _; (with_reducible repeat first|refine blk_drewN ?_ _|refine blk_drew ?_|refine blk_alloc ?_ _); refine blk_far ?_ NB147_154.out _; (with_reducible repeat first|refine blk_drewN ?_ _|refine blk_drew ?_|refine blk_alloc ?_ _); refine blk_far ?_ NB147_154.out _; (with_reducible repeat first|refine blk_drewN ?_ _|refine blk_drew ?_|refine blk_alloc ?_ _); exact BK147.out) Try.underlying35 rfl (by kernel_rfl)) rfl ?_
   exact ⟨by first | rfl | (simp [errW_none, errW_some] <;> rfl) | (simp [*, errW_none, errW_some] <;> rfl), bw⟩
 ·rw [if_neg c4] at H
  have c4b0 : (t148 == 0) = false := beq_eq_false_iff_ne.mpr c4
  have c4b1 : (t148 != 0) = true := bne_iff_ne.mpr c4
  simp only [Option.some.injEq, Prod.mk.injEq] at H
  obtain ⟨rfl, rfl, rfl, rfl, rfl, rfl⟩ := H
  go_enter Try.func17, Try.ntmps17
  go_wp2_with (first | ((with_reducible refine gate_dst (N := 2) rfl ?_); refine bx 2 #[.int .i64 a0_0, .int .i64 a0_1, .int .i64 a0_2, .int .i64 a0_3, .int .i64 a0_4, .int .i64 a0_5, .int .i64 a0_6, .int .i64 a0_7, .int .i64 a0_8, .int .i64 a0_9] 25 ?_; intro gb146 hg w65 hbox hb; have BK146 := AX (hbox); have GW146 := gwl (w := w) hg bw; have GE146 := GW146; replace HB := AX (below_step bw hb); clear hb hbox hg) | ((with_reducible refine gate_dst (N := 4) rfl ?_); refine bx 4 #[.int .i64 0, .int .i64 0, .int .i64 0, .int .i64 0, .int .i64 0] 35 ?_; intro gb147 hg w66 hbox hb; have BK147 := AX (hbox); have GW147 := gwl (w := w) hg bw; have GE147 := GW147; have NB146_147 := nbl hg (bkn BK146); have NB147_146 := nbg hg (bkn BK146); replace BK146 := AX (bkb BK146 hb); replace HB := AX (below_step bw hb); clear hb hbox hg; have hnb67 := NB146_147.out; have hnc67 := NB147_146.out; obtain ⟨hcz68_0, hcz68_1, hcz68_2, hcz68_3, hcz68_4, hcz68_5, hcz68_6, hcz68_7, hcz68_8, hcz68_9⟩ := blkC10 (w := w66) BK146.out; obtain ⟨hfz68_0, hfz68_1, hfz68_2, hfz68_3, hfz68_4, hfz68_5, hfz68_6, hfz68_7, hfz68_8, hfz68_9⟩ := blkF10 BK146.out) | ((with_reducible refine gate_callee (f := 19) rfl ?_); refine gL (some 14) Try.func19 #[.agg #[.int .i64 a0_0, .int .i64 a0_1, .int .i64 a0_2, .int .i64 a0_3, .int .i64 a0_4, .int .i64 a0_5, .int .i64 a0_6, .int .i64 a0_7, .int .i64 a0_8, .int .i64 a0_9]] ?_; (with_reducible refine (zone_Check.calls k a0_0 a0_1 a0_2 a0_3 a0_4 a0_5 a0_6 a0_7 a0_8 a0_9 t148 _ A3.out).mono ?_); rintro e w69 ⟨rfl, hb⟩; refine ⟨_, rfl, ?_⟩; replace BK146 := AX (bkb BK146 hb); replace BK147 := AX (bkb BK147 hb); replace HB := AX (below_step bw hb); (try clear hb); obtain ⟨hcz70_0, hcz70_1, hcz70_2, hcz70_3, hcz70_4⟩ := blkC5 (w := w69) BK147.out; obtain ⟨hfz70_0, hfz70_1, hfz70_2, hfz70_3, hfz70_4⟩ := blkF5 BK147.out))
  refine bodyPost_ret (results_ct rfl _ _ gb147 35 #[.int .i64 0, .int .i64 0, .int .i64 0, .int .i64 0, .int .i64 0] (0, 0) _ rfl (by (with_reducible repeat first|refine blk_drewN ?_ _|refine blk_drew ?_|refine blk_alloc ?_ _); refine blk_put (cs := #[.int .i64 0, .int .i64 0, .int .i64 0, .int .i64 0, .int .i64 0]) ?_ 4 _ rfl; (with_reducible repeat first|refine blk_drewN ?_ _|refine blk_drew ?_|refine blk_alloc ?_ _); refine blk_put (cs := #[.int .i64 0, .int .i64 0, .int .i64 0, .int .i64 0, .int .i64 0]) ?_ 3 _ rfl; (with_reducible repeat first|refine blk_drewN ?_ _|refine blk_drew ?_|refine blk_alloc ?_ _); refine blk_put (cs := #[.int .i64 0, .int .i64 0, .int .i64 0, .int .i64 0, .int .i64 0]) ?_ 2 _ rfl; (with_reducible repeat first|refine blk_drewN ?_ _|refine blk_drew ?_|refine blk_alloc ?_ _); refine blk_put (cs := #[.int .i64 0, .int .i64 0, .int .i64 0, .int .i64 0, .int .i64 0]) ?_ 1 _ rfl; (with_reducible repeat first|refine blk_drewN ?_ _|refine blk_drew ?_|refine blk_alloc ?_ _); refine blk_put (cs := #[.int .i64 0, .int .i64 0, .int .i64 0, .int .i64 0, .int .i64 0]) ?_ 0 _ rfl; (with_reducible repeat first|refine blk_drewN ?_ _|refine blk_drew ?_|refine blk_alloc ?_ _); exact BK147.out) Try.underlying35 rfl (by kernel_rfl)) rfl ?_
  exact ⟨by first | rfl | (simp [errW_none, errW_some] <;> rfl) | (simp [*, errW_none, errW_some] <;> rfl), bw⟩

end Go.Proofs.Ytddkckpfmleffaa.PX
