/- Functions of the program as plain Lean functions, each with a proof that the call in the machine answers just what the plain function says; condition: the plain function answers at all. -/
import Derived.Test.YtkggjjggcbcdiaaPXx0
import Derived.Test.YtkggjjggcbcdiaaPXx9
import Derived.Test.YtkggjjggcbcdiaaPXx13
namespace Go.Proofs.Ytkggjjggcbcdiaa.PX
open Go.RowKit Go.Proofs.YtkggjjggcbcdiaaW.PrintWords Go.Proofs.YtkggjjggcbcdiaaW.PrintLast Go.Proofs.YtkggjjggcbcdiaaW.PrintMore
attribute [local go_sem] max2_int min2_int max_two min_two max_three min_three max_four min_four   -- for this text's walks alone
set_option linter.unusedVariables false
set_option linter.unusedSimpArgs false

/-! ### pylonref04_shown: function 58 -/
def pylonref04_shown.j0 : Nat → Int → Int → Bool → Option (Int × Int × Int × Int × Bool)
 | 0, _, _, _ => none
 | k + 1, x0, x1, x17 => if x17 = true then (some (0, 0, 0, 0, false)) else (if (Int.tmod (wrap64 (x0 + (wrap64 (x1 * 60)))) 86400) < 0 then ((pylonref03_Of.f k (wrap64 ((wrap64 (Int.tdiv (wrap64 (x0 + (wrap64 (x1 * 60)))) 86400)) - 1))).bind fun bt218 => (some (bt218.1, bt218.2.1, bt218.2.2.1, wrap64 ((Int.tmod (wrap64 (x0 + (wrap64 (x1 * 60)))) 86400) + 86400), (bt218.2.2.2 == 0)))) else ((pylonref03_Of.f k (wrap64 (Int.tdiv (wrap64 (x0 + (wrap64 (x1 * 60)))) 86400))).bind fun bt223 => (some (bt223.1, bt223.2.1, bt223.2.2.1, Int.tmod (wrap64 (x0 + (wrap64 (x1 * 60)))) 86400, (bt223.2.2.2 == 0)))))
def pylonref04_shown.f (k : Nat) (a0 : Int) (a1 : Int) : Option (Int × Int × Int × Int × Bool) := if a0 < (-62200000000) then (pylonref04_shown.j0 k a0 a1 true) else (pylonref04_shown.j0 k a0 a1 (decide (a0 > 253500000000)))
theorem pylonref04_shown.mono_l : ∀ k, (∀ y0 y1 y2, LeO (pylonref04_shown.j0 k y0 y1 y2) (pylonref04_shown.j0 (k + 1) y0 y1 y2))
 | 0 => fun _ _ _ r h => by simp [pylonref04_shown.j0] at h
 | k + 1 => by
  have ih0 := pylonref04_shown.mono_l k
  ·intro y0 y1 y2
   unfold pylonref04_shown.j0
   repeat' first
   | (with_reducible exact ih0 _ _ _)
   | (with_reducible exact pylonref03_Of.mono _ _)
   | (with_reducible exact LeO.refl _)
   | (with_reducible exact LeO.none _)
   | (with_reducible refine LeO.ite ?_ ?_)
   | (with_reducible refine LeO.bind ?_ (fun _ => ?_))
theorem pylonref04_shown.mono : ∀ a0 a1 k, LeO (pylonref04_shown.f k a0 a1) (pylonref04_shown.f (k + 1) a0 a1) := by
 intro a0 a1 k
 have ih0 := pylonref04_shown.mono_l k
 unfold pylonref04_shown.f
 repeat' first
   | (with_reducible exact ih0 _ _ _)
   | (with_reducible exact pylonref03_Of.mono _ _)
   | (with_reducible exact LeO.refl _)
   | (with_reducible exact LeO.none _)
   | (with_reducible refine LeO.ite ?_ ?_)
   | (with_reducible refine LeO.bind ?_ (fun _ => ?_))
set_option maxHeartbeats 8000000 in
set_option maxRecDepth 100000 in
theorem pylonref04_shown.calls (k : Nat) (a0 : Int) (a1 : Int) (r1 : Int) (r2 : Int) (r3 : Int) (r4 : Int) (r5 : Bool) (w : World) (h : pylonref04_shown.f k a0 a1 = some (r1, r2, r3, r4, r5)) :
  Calls Try.prog 58 #[.int .i64 a0, .int .i64 a1] w fun e w' => e = .returned (.tuple #[.agg #[.int .i64 r1, .int .i64 r2, .int .i64 r3], .int .i64 r4, .bool r5]) ∧ Below w.heap.size w w' := by
 have hu24 := Try.underlying24
 have HB := AX (Below.refl w.heap.size w)
 have H : (if a0 < (-62200000000) then (pylonref04_shown.j0 k a0 a1 true) else (pylonref04_shown.j0 k a0 a1 (decide (a0 > 253500000000)))) = some (r1, r2, r3, r4, r5) := h
 clear h
 have HC3 := AX H
 clear H
 go_enter Try.func58, Try.ntmps58
 go_upto_region 1 with (first | ((with_reducible refine gate_dst (N := 4) rfl ?_); refine bx 4 #[.int .i64 0, .int .i64 0, .int .i64 0] 24 ?_; intro gb217 hg w4 hbox hb; have BK217 := AX (hbox); have GW217 := gwl (w := w) hg bw; have GE217 := GW217; replace HB := AX (below_step bw hb); clear hb hbox hg))
 (try simp only [Act.put, List.setIfInBounds_toArray, List.set_cons_zero, List.set_cons_succ])
 go_cut [17] (fun v17 wc => ∃ (kq : Nat) (x17_2 : Bool), v17 = .bool x17_2 ∧ Aside0 (pylonref04_shown.j0 kq a0 a1 x17_2 = some (r1, r2, r3, r4, r5)) ∧ Aside0 (kq ≤ k) ∧ Aside0 (wc.heap[gb217]? = some (.cells #[.int .i64 0, .int .i64 0, .int .i64 0] 24 (0, 0))) ∧ Aside0 (Below w.heap.size w wc))
 case first =>
  have H := HC3.out
  clear HC3
  by_cases c5 : a0 < (-62200000000)
  ·rw [if_pos c5] at H
   have c5b0 : decide (a0 < (-62200000000)) = true := decide_eq_true c5
   clear c5
   (first | rw [c5b0] | (simp only [i64_w, i32_w]; rw [c5b0]) | skip)
   have H' := AX H
   clear H
   go_wp2
   go_meet
   case rel => exact ⟨_, (true), (by first | rfl | (simp; done) | (simp [*]; done)), H', ⟨by first | omega | exact Nat.le_refl _⟩, ⟨bkn BK217⟩, ⟨bw⟩⟩
  ·rw [if_neg c5] at H
   have c5b0 : decide (a0 < (-62200000000)) = false := decide_eq_false c5
   clear c5
   (first | rw [c5b0] | (simp only [i64_w, i32_w]; rw [c5b0]) | skip)
   have H' := AX H
   clear H
   go_wp2
   go_meet
   case rel => exact ⟨_, (decide (a0 > 253500000000)), (by first | rfl | (simp; done) | (simp [*]; done)), H', ⟨by first | omega | exact Nat.le_refl _⟩, ⟨bkn BK217⟩, ⟨bw⟩⟩
 case rest =>
  clear HC3
  obtain ⟨kq, x17_2, rfl, HA, HJ2, BK217, HB⟩ := hcut
  cases kq with
  | zero => exact absurd HA.out (by simp [pylonref04_shown.j0])
  | succ kj2 =>
   have H := HA.out
   clear HA
   simp only [pylonref04_shown.j0] at H
   by_cases c6 : x17_2 = true
   ·subst c6
    have H1 : (some (0, 0, 0, 0, false)) = some (r1, r2, r3, r4, r5) := by rw [if_pos rfl] at H; exact H
    clear H
    have H := H1
    clear H1
    simp only [Option.some.injEq, Prod.mk.injEq] at H
    obtain ⟨rfl, rfl, rfl, rfl, rfl⟩ := H
    obtain ⟨hcz7_0, hcz7_1, hcz7_2⟩ := blkC3 (w := wc) BK217.out
    obtain ⟨hfz7_0, hfz7_1, hfz7_2⟩ := blkF3 BK217.out
    go_wp2
    refine bodyPost_ret (results_ctt rfl _ _ gb217 24 #[.int .i64 0, .int .i64 0, .int .i64 0] (0, 0) _ rfl (by (with_reducible repeat first|refine blk_drewN ?_ _|refine blk_drew ?_|refine blk_alloc ?_ _); refine blk_put (cs := #[.int .i64 0, .int .i64 0, .int .i64 0]) ?_ 2 _ rfl; (with_reducible repeat first|refine blk_drewN ?_ _|refine blk_drew ?_|refine blk_alloc ?_ _); refine blk_put (cs := #[.int .i64 0, .int .i64 0, .int .i64 0]) ?_ 1 _ rfl; (with_reducible repeat first|refine blk_drewN ?_ _|refine blk_drew ?_|refine blk_alloc ?_ _); refine blk_put (cs := #[.int .i64 0, .int .i64 0, .int .i64 0]) ?_ 0 _ rfl; (with_reducible repeat first|refine blk_drewN ?_ _|refine blk_drew ?_|refine blk_alloc ?_ _); exact BK217.out) Try.underlying24 rfl (by kernel_rfl)) rfl ?_
    exact ⟨by first | rfl | (simp [errW_none, errW_some] <;> rfl) | (simp [*, errW_none, errW_some] <;> rfl), bw⟩
   ·replace c6 := Bool.eq_false_iff.mpr c6
    subst c6
    have H1 : (if (Int.tmod (wrap64 (a0 + (wrap64 (a1 * 60)))) 86400) < 0 then ((pylonref03_Of.f kj2 (wrap64 ((wrap64 (Int.tdiv (wrap64 (a0 + (wrap64 (a1 * 60)))) 86400)) - 1))).bind fun bt218 => (some (bt218.1, bt218.2.1, bt218.2.2.1, wrap64 ((Int.tmod (wrap64 (a0 + (wrap64 (a1 * 60)))) 86400) + 86400), (bt218.2.2.2 == 0)))) else ((pylonref03_Of.f kj2 (wrap64 (Int.tdiv (wrap64 (a0 + (wrap64 (a1 * 60)))) 86400))).bind fun bt223 => (some (bt223.1, bt223.2.1, bt223.2.2.1, Int.tmod (wrap64 (a0 + (wrap64 (a1 * 60)))) 86400, (bt223.2.2.2 == 0))))) = some (r1, r2, r3, r4, r5) := by rw [if_neg (show ¬ (false = true) by decide)] at H; exact H
    clear H
    have H := H1
    clear H1
    by_cases c8 : (Int.tmod (wrap64 (a0 + (wrap64 (a1 * 60)))) 86400) < 0
    ·rw [if_pos c8] at H
     have c8b0 : decide ((Int.tmod (wrap64 (a0 + (wrap64 (a1 * 60)))) 86400) < 0) = true := decide_eq_true c8
     clear c8
     replace H := Option.bind_eq_some_iff.mp H
     obtain ⟨⟨t218, t219, t220, t221⟩, A90, H⟩ := H
     replace H : (some (t218, t219, t220, wrap64 ((Int.tmod (wrap64 (a0 + (wrap64 (a1 * 60)))) 86400) + 86400), (t221 == 0))) = some (r1, r2, r3, r4, r5) := H
     have A9 := AX A90
     clear A90
     simp only [Option.some.injEq, Prod.mk.injEq] at H
     obtain ⟨rfl, rfl, rfl, rfl, rfl⟩ := H
     go_wp2_with (first | ((with_reducible refine gate_callee (f := 41) rfl ?_); refine gL (some 35) Try.func41 #[.int .i64 (wrap64 ((wrap64 (Int.tdiv (wrap64 (a0 + (wrap64 (a1 * 60)))) 86400)) - 1))] ?_; (with_reducible refine (pylonref03_Of.calls kj2 (wrap64 ((wrap64 (Int.tdiv (wrap64 (a0 + (wrap64 (a1 * 60)))) 86400)) - 1)) t218 t219 t220 t221 _ A9.out).mono ?_); rintro e w10 ⟨rfl, hb⟩; refine ⟨_, rfl, ?_⟩; replace BK217 := AX (bkb BK217 hb); replace HB := AX (below_step bw hb); (try clear hb)) | ((with_reducible refine gate_dst (N := 10) rfl ?_); refine bx 10 #[.int .i64 0, .int .i64 0, .int .i64 0] 24 ?_; intro gb222 hg w11 hbox hb; have BK222 := AX (hbox); have GW222 := gwl (w := w) hg bw; have GE222 := GW222; have NB217_222 := nbl hg (bkn BK217); have NB222_217 := nbg hg (bkn BK217); replace BK217 := AX (bkb BK217 hb); replace HB := AX (below_step bw hb); clear hb hbox hg; have hnb12 := NB222_217.out; have hnc12 := NB217_222.out; obtain ⟨hcz13_0, hcz13_1, hcz13_2⟩ := blkC3 (w := w11) BK222.out; obtain ⟨hfz13_0, hfz13_1, hfz13_2⟩ := blkF3 BK222.out; obtain ⟨hcz14_0, hcz14_1, hcz14_2⟩ := blkC3 (w := w11) BK217.out; obtain ⟨hfz14_0, hfz14_1, hfz14_2⟩ := blkF3 BK217.out))
     refine bodyPost_ret (results_ctt rfl _ _ gb217 24 #[.int .i64 t218, .int .i64 t219, .int .i64 t220] (0, 0) _ rfl (by (with_reducible repeat first|refine blk_drewN ?_ _|refine blk_drew ?_|refine blk_alloc ?_ _); refine blk_put (cs := #[.int .i64 t218, .int .i64 t219, .int .i64 0]) ?_ 2 _ rfl; (with_reducible repeat first|refine blk_drewN ?_ _|refine blk_drew ?_|refine blk_alloc ?_ _); refine blk_put (cs := #[.int .i64 t218, .int .i64 0, .int .i64 0]) ?_ 1 _ rfl; (with_reducible repeat first|refine blk_drewN ?_ _|refine blk_drew ?_|refine blk_alloc ?_ _); refine blk_put (cs := #[.int .i64 0, .int .i64 0, .int .i64 0]) ?_ 0 _ rfl; (with_reducible repeat first|refine blk_drewN ?_ _|refine blk_drew ?_|refine blk_alloc ?_ _); refine blk_far ?_ NB217_222.out _; (with_reducible repeat first|refine blk_drewN ?_ _|refine blk_drew ?_|refine blk_alloc ?_ _); refine blk_far ?_ NB217_222.out _; (with_reducible repeat first|refine blk_drewN ?_ _|refine blk_drew ?_|refine blk_alloc ?_ _); refine blk_far ?_ NB217_222.out _; (with_reducible repeat first|refine blk_drewN ?_ _|refine blk_drew ?_|refine blk_alloc ?_ _); exact BK217.out) Try.underlying24 rfl (by kernel_rfl)) rfl ?_
     exact ⟨by first | rfl | (simp [errW_none, errW_some] <;> rfl) | (simp [*, errW_none, errW_some] <;> rfl), bw⟩
    ·rw [if_neg c8] at H
     have c8b0 : decide ((Int.tmod (wrap64 (a0 + (wrap64 (a1 * 60)))) 86400) < 0) = false := decide_eq_false c8
     clear c8
     replace H := Option.bind_eq_some_iff.mp H
     obtain ⟨⟨t223, t224, t225, t226⟩, A150, H⟩ := H
     replace H : (some (t223, t224, t225, Int.tmod (wrap64 (a0 + (wrap64 (a1 * 60)))) 86400, (t226 == 0))) = some (r1, r2, r3, r4, r5) := H
     have A15 := AX A150
     clear A150
     simp only [Option.some.injEq, Prod.mk.injEq] at H
     obtain ⟨rfl, rfl, rfl, rfl, rfl⟩ := H
     go_wp2_with (first | ((with_reducible refine gate_callee (f := 41) rfl ?_); refine gL (some 35) Try.func41 #[.int .i64 (wrap64 (Int.tdiv (wrap64 (a0 + (wrap64 (a1 * 60)))) 86400))] ?_; (with_reducible refine (pylonref03_Of.calls kj2 (wrap64 (Int.tdiv (wrap64 (a0 + (wrap64 (a1 * 60)))) 86400)) t223 t224 t225 t226 _ A15.out).mono ?_); rintro e w16 ⟨rfl, hb⟩; refine ⟨_, rfl, ?_⟩; replace BK217 := AX (bkb BK217 hb); replace HB := AX (below_step bw hb); (try clear hb)) | ((with_reducible refine gate_dst (N := 10) rfl ?_); refine bx 10 #[.int .i64 0, .int .i64 0, .int .i64 0] 24 ?_; intro gb227 hg w17 hbox hb; have BK227 := AX (hbox); have GW227 := gwl (w := w) hg bw; have GE227 := GW227; have NB217_227 := nbl hg (bkn BK217); have NB227_217 := nbg hg (bkn BK217); replace BK217 := AX (bkb BK217 hb); replace HB := AX (below_step bw hb); clear hb hbox hg; have hnb18 := NB227_217.out; have hnc18 := NB217_227.out; obtain ⟨hcz19_0, hcz19_1, hcz19_2⟩ := blkC3 (w := w17) BK227.out; obtain ⟨hfz19_0, hfz19_1, hfz19_2⟩ := blkF3 BK227.out; obtain ⟨hcz20_0, hcz20_1, hcz20_2⟩ := blkC3 (w := w17) BK217.out; obtain ⟨hfz20_0, hfz20_1, hfz20_2⟩ := blkF3 BK217.out))
     refine bodyPost_ret (results_ctt rfl _ _ gb217 24 #[.int .i64 t223, .int .i64 t224, .int .i64 t225] (0, 0) _ rfl (by (with_reducible repeat first|refine blk_drewN ?_ _|refine blk_drew ?_|refine blk_alloc ?_ _); refine blk_put (cs := #[.int .i64 t223, .int .i64 t224, .int .i64 0]) ?_ 2 _ rfl; (with_reducible repeat first|refine blk_drewN ?_ _|refine blk_drew ?_|refine blk_alloc ?_ _); refine blk_put (cs := #[.int .i64 t223, .int .i64 0, .int .i64 0]) ?_ 1 _ rfl; (with_reducible repeat first|refine blk_drewN ?_ _|refine blk_drew ?_|refine blk_alloc ?_ _); refine blk_put (cs := #[.int .i64 0, .int .i64 0, .int .i64 0]) ?_ 0 _ rfl; (with_reducible repeat first|refine blk_drewN ?_ _|refine blk_drew ?_|refine blk_alloc ?_ _); refine blk_far ?_ NB217_227.out _; (with_reducible repeat first|refine blk_drewN ?_ _|refine blk_drew ?_|refine blk_alloc ?_ _); refine blk_far ?_ NB217_227.out _; (with_reducible repeat first|refine blk_drewN ?_ _|refine blk_drew ?_|refine blk_alloc ?_ _); refine blk_far ?_ NB217_227.out _; (with_reducible repeat first|refine blk_drewN ?_ _|refine blk_drew ?_|refine blk_alloc ?_ _); exact BK217.out) Try.underlying24 rfl (by kernel_rfl)) rfl ?_
     exact ⟨by first | rfl | (simp [errW_none, errW_some] <;> rfl) | (simp [*, errW_none, errW_some] <;> rfl), bw⟩

/-! ### pylonref03_Days: function 40 -/
def pylonref03_Days.f (k : Nat) (a0_0 : Int) (a0_1 : Int) (a0_2 : Int) : Option (Int × Int) := (pylonref03_YearDay.f k a0_0 a0_1 a0_2).bind fun bt229 => (if bt229.2 = 0 then ((pylonref03_ahead.f a0_0).bind fun t231 => (some (wrap64 ((wrap64 ((wrap64 (t231 + bt229.1)) - 1)) - 719162), 0))) else (some (0, bt229.2)))
theorem pylonref03_Days.mono : ∀ a0 a1 a2 k, LeO (pylonref03_Days.f k a0 a1 a2) (pylonref03_Days.f (k + 1) a0 a1 a2) := by
 intro a0 a1 a2 k
 unfold pylonref03_Days.f
 repeat' first
   | (with_reducible exact pylonref03_YearDay.mono _ _ _ _)
   | (with_reducible exact LeO.refl _)
   | (with_reducible exact LeO.none _)
   | (with_reducible refine LeO.ite ?_ ?_)
   | (with_reducible refine LeO.bind ?_ (fun _ => ?_))
set_option maxHeartbeats 8000000 in
set_option maxRecDepth 100000 in
theorem pylonref03_Days.calls (k : Nat) (a0_0 : Int) (a0_1 : Int) (a0_2 : Int) (r1 : Int) (r2 : Int) (w : World) (h : pylonref03_Days.f k a0_0 a0_1 a0_2 = some (r1, r2)) :
  Calls Try.prog 40 #[.agg #[.int .i64 a0_0, .int .i64 a0_1, .int .i64 a0_2]] w fun e w' => e = .returned (.tuple #[.int .i64 r1, .int .i64 r2]) ∧ Below w.heap.size w w' := by
 have hu24 := Try.underlying24
 have HB := AX (Below.refl w.heap.size w)
 have H : ((pylonref03_YearDay.f k a0_0 a0_1 a0_2).bind fun bt229 => (if bt229.2 = 0 then ((pylonref03_ahead.f a0_0).bind fun t231 => (some (wrap64 ((wrap64 ((wrap64 (t231 + bt229.1)) - 1)) - 719162), 0))) else (some (0, bt229.2)))) = some (r1, r2) := h
 clear h
 replace H := Option.bind_eq_some_iff.mp H
 obtain ⟨⟨t229, t230⟩, A20, H⟩ := H
 replace H : (if t230 = 0 then ((pylonref03_ahead.f a0_0).bind fun t231 => (some (wrap64 ((wrap64 ((wrap64 (t231 + t229)) - 1)) - 719162), 0))) else (some (0, t230))) = some (r1, r2) := H
 have A2 := AX A20
 clear A20
 by_cases c3 : t230 = 0
 ·rw [if_pos c3] at H
  have c3b0 : (t230 == 0) = true := beq_iff_eq.mpr c3
  have c3b1 : (t230 != 0) = false := bne_eq_false_iff_eq.mpr c3
  clear c3
  replace H := Option.bind_eq_some_iff.mp H
  obtain ⟨t231, A40, H⟩ := H
  replace H : (some (wrap64 ((wrap64 ((wrap64 (t231 + t229)) - 1)) - 719162), 0)) = some (r1, r2) := H
  have A4 := AX A40
  clear A40
  simp only [Option.some.injEq, Prod.mk.injEq] at H
  obtain ⟨rfl, rfl⟩ := H
  go_enter Try.func40, Try.ntmps40
  go_wp2_with (first | ((with_reducible refine gate_dst (N := 1) rfl ?_); refine bx 1 #[.int .i64 a0_0, .int .i64 a0_1, .int .i64 a0_2] 24 ?_; intro gb228 hg w5 hbox hb; have BK228 := AX (hbox); have GW228 := gwl (w := w) hg bw; have GE228 := GW228; replace HB := AX (below_step bw hb); clear hb hbox hg; obtain ⟨hcz6_0, hcz6_1, hcz6_2⟩ := blkC3 (w := w5) BK228.out; obtain ⟨hfz6_0, hfz6_1, hfz6_2⟩ := blkF3 BK228.out) | ((with_reducible refine gate_callee (f := 71) rfl ?_); refine gL (some 8) Try.func71 #[.agg #[.int .i64 a0_0, .int .i64 a0_1, .int .i64 a0_2]] ?_; (with_reducible refine (pylonref03_YearDay.calls k a0_0 a0_1 a0_2 t229 t230 _ A2.out).mono ?_); rintro e w7 ⟨rfl, hb⟩; refine ⟨_, rfl, ?_⟩; replace BK228 := AX (bkb BK228 hb); replace HB := AX (below_step bw hb); (try clear hb); obtain ⟨hcz8_0, hcz8_1, hcz8_2⟩ := blkC3 (w := w7) BK228.out; obtain ⟨hfz8_0, hfz8_1, hfz8_2⟩ := blkF3 BK228.out) | ((with_reducible refine gate_callee (f := 72) rfl ?_); refine gL (some 16) Try.func72 #[.int .i64 a0_0] ?_; (with_reducible refine (pylonref03_ahead.calls a0_0 t231 _ A4.out).mono ?_); rintro e w' ⟨rfl, ⟨nd, rfl⟩⟩; refine ⟨_, rfl, ?_⟩))
  go_ret2
  exact ⟨by first | rfl | (simp [errW_none, errW_some] <;> rfl) | (simp [*, errW_none, errW_some] <;> rfl), bw⟩
 ·rw [if_neg c3] at H
  have c3b0 : (t230 == 0) = false := beq_eq_false_iff_ne.mpr c3
  have c3b1 : (t230 != 0) = true := bne_iff_ne.mpr c3
  simp only [Option.some.injEq, Prod.mk.injEq] at H
  obtain ⟨rfl, rfl⟩ := H
  go_enter Try.func40, Try.ntmps40
  go_wp2_with (first | ((with_reducible refine gate_dst (N := 1) rfl ?_); refine bx 1 #[.int .i64 a0_0, .int .i64 a0_1, .int .i64 a0_2] 24 ?_; intro gb228 hg w9 hbox hb; have BK228 := AX (hbox); have GW228 := gwl (w := w) hg bw; have GE228 := GW228; replace HB := AX (below_step bw hb); clear hb hbox hg; obtain ⟨hcz10_0, hcz10_1, hcz10_2⟩ := blkC3 (w := w9) BK228.out; obtain ⟨hfz10_0, hfz10_1, hfz10_2⟩ := blkF3 BK228.out) | ((with_reducible refine gate_callee (f := 71) rfl ?_); refine gL (some 8) Try.func71 #[.agg #[.int .i64 a0_0, .int .i64 a0_1, .int .i64 a0_2]] ?_; (with_reducible refine (pylonref03_YearDay.calls k a0_0 a0_1 a0_2 t229 t230 _ A2.out).mono ?_); rintro e w11 ⟨rfl, hb⟩; refine ⟨_, rfl, ?_⟩; replace BK228 := AX (bkb BK228 hb); replace HB := AX (below_step bw hb); (try clear hb)))
  go_ret2
  exact ⟨by first | rfl | (simp [errW_none, errW_some] <;> rfl) | (simp [*, errW_none, errW_some] <;> rfl), bw⟩

/-! ### pylonref03_Weekday: function 19 -/
def pylonref03_Weekday.f (k : Nat) (a0_0 : Int) (a0_1 : Int) (a0_2 : Int) : Option (Int × Int) := (pylonref03_Days.f k a0_0 a0_1 a0_2).bind fun bt233 => (if bt233.2 = 0 then (some (Int.tmod (wrap64 (bt233.1 + 719162)) 7, 0)) else (some (0, bt233.2)))
theorem pylonref03_Weekday.mono : ∀ a0 a1 a2 k, LeO (pylonref03_Weekday.f k a0 a1 a2) (pylonref03_Weekday.f (k + 1) a0 a1 a2) := by
 intro a0 a1 a2 k
 unfold pylonref03_Weekday.f
 repeat' first
   | (with_reducible exact pylonref03_Days.mono _ _ _ _)
   | (with_reducible exact LeO.refl _)
   | (with_reducible exact LeO.none _)
   | (with_reducible refine LeO.ite ?_ ?_)
   | (with_reducible refine LeO.bind ?_ (fun _ => ?_))
set_option maxHeartbeats 8000000 in
set_option maxRecDepth 100000 in
theorem pylonref03_Weekday.calls (k : Nat) (a0_0 : Int) (a0_1 : Int) (a0_2 : Int) (r1 : Int) (r2 : Int) (w : World) (h : pylonref03_Weekday.f k a0_0 a0_1 a0_2 = some (r1, r2)) :
  Calls Try.prog 19 #[.agg #[.int .i64 a0_0, .int .i64 a0_1, .int .i64 a0_2]] w fun e w' => e = .returned (.tuple #[.int .i64 r1, .int .i64 r2]) ∧ Below w.heap.size w w' := by
 have hu24 := Try.underlying24
 have HB := AX (Below.refl w.heap.size w)
 have H : ((pylonref03_Days.f k a0_0 a0_1 a0_2).bind fun bt233 => (if bt233.2 = 0 then (some (Int.tmod (wrap64 (bt233.1 + 719162)) 7, 0)) else (some (0, bt233.2)))) = some (r1, r2) := h
 clear h
 replace H := Option.bind_eq_some_iff.mp H
 obtain ⟨⟨t233, t234⟩, A20, H⟩ := H
 replace H : (if t234 = 0 then (some (Int.tmod (wrap64 (t233 + 719162)) 7, 0)) else (some (0, t234))) = some (r1, r2) := H
 have A2 := AX A20
 clear A20
 by_cases c3 : t234 = 0
 ·rw [if_pos c3] at H
  have c3b0 : (t234 == 0) = true := beq_iff_eq.mpr c3
  have c3b1 : (t234 != 0) = false := bne_eq_false_iff_eq.mpr c3
  clear c3
  simp only [Option.some.injEq, Prod.mk.injEq] at H
  obtain ⟨rfl, rfl⟩ := H
  go_enter Try.func19, Try.ntmps19
  go_wp2_with (first | ((with_reducible refine gate_dst (N := 1) rfl ?_); refine bx 1 #[.int .i64 a0_0, .int .i64 a0_1, .int .i64 a0_2] 24 ?_; intro gb232 hg w4 hbox hb; have BK232 := AX (hbox); have GW232 := gwl (w := w) hg bw; have GE232 := GW232; replace HB := AX (below_step bw hb); clear hb hbox hg; obtain ⟨hcz5_0, hcz5_1, hcz5_2⟩ := blkC3 (w := w4) BK232.out; obtain ⟨hfz5_0, hfz5_1, hfz5_2⟩ := blkF3 BK232.out) | ((with_reducible refine gate_callee (f := 40) rfl ?_); refine gL (some 8) Try.func40 #[.agg #[.int .i64 a0_0, .int .i64 a0_1, .int .i64 a0_2]] ?_; (with_reducible refine (pylonref03_Days.calls k a0_0 a0_1 a0_2 t233 t234 _ A2.out).mono ?_); rintro e w6 ⟨rfl, hb⟩; refine ⟨_, rfl, ?_⟩; replace BK232 := AX (bkb BK232 hb); replace HB := AX (below_step bw hb); (try clear hb)))
  go_ret2
  exact ⟨by first | rfl | (simp [errW_none, errW_some] <;> rfl) | (simp [*, errW_none, errW_some] <;> rfl), bw⟩
 ·rw [if_neg c3] at H
  have c3b0 : (t234 == 0) = false := beq_eq_false_iff_ne.mpr c3
  have c3b1 : (t234 != 0) = true := bne_iff_ne.mpr c3
  simp only [Option.some.injEq, Prod.mk.injEq] at H
  obtain ⟨rfl, rfl⟩ := H
  go_enter Try.func19, Try.ntmps19
  go_wp2_with (first | ((with_reducible refine gate_dst (N := 1) rfl ?_); refine bx 1 #[.int .i64 a0_0, .int .i64 a0_1, .int .i64 a0_2] 24 ?_; intro gb232 hg w7 hbox hb; have BK232 := AX (hbox); have GW232 := gwl (w := w) hg bw; have GE232 := GW232; replace HB := AX (below_step bw hb); clear hb hbox hg; obtain ⟨hcz8_0, hcz8_1, hcz8_2⟩ := blkC3 (w := w7) BK232.out; obtain ⟨hfz8_0, hfz8_1, hfz8_2⟩ := blkF3 BK232.out) | ((with_reducible refine gate_callee (f := 40) rfl ?_); refine gL (some 8) Try.func40 #[.agg #[.int .i64 a0_0, .int .i64 a0_1, .int .i64 a0_2]] ?_; (with_reducible refine (pylonref03_Days.calls k a0_0 a0_1 a0_2 t233 t234 _ A2.out).mono ?_); rintro e w9 ⟨rfl, hb⟩; refine ⟨_, rfl, ?_⟩; replace BK232 := AX (bkb BK232 hb); replace HB := AX (below_step bw hb); (try clear hb)))
  go_ret2
  exact ⟨by first | rfl | (simp [errW_none, errW_some] <;> rfl) | (simp [*, errW_none, errW_some] <;> rfl), bw⟩

/-! ### pylonref03_Nth: function 90 -/
mutual
def pylonref03_Nth.j0 : Nat → Int → Int → Int → Int → Int → Bool → Option (Int × Int × Int × Int)
 | 0, _, _, _, _, _, _ => none
 | k + 1, x0, x1, x2, x3, x10, x40 => if x40 = true then (some (0, 0, 0, 8)) else (pylonref03_Nth.l0 k x0 x1 x2 x3 x10 0 0 1)
def pylonref03_Nth.l0 : Nat → Int → Int → Int → Int → Int → Int → Int → Int → Option (Int × Int × Int × Int)
 | 0, _, _, _, _, _, _, _, _ => none
 | k + 1, x0, x1, x2, x3, x10, x12, x13, x14 => if x14 ≤ x10 then ((pylonref03_Weekday.f k x0 x1 x14).bind fun bt238 => (if bt238.1 = x3 then (if (wrap64 (x12 + 1)) = x2 then (some (x0, x1, x14, 0)) else (pylonref03_Nth.l0 k x0 x1 x2 x3 x10 (wrap64 (x12 + 1)) x14 (wrap64 (x14 + 1)))) else (pylonref03_Nth.l0 k x0 x1 x2 x3 x10 x12 x13 (wrap64 (x14 + 1))))) else (some (x0, x1, x13, 0))
end
def pylonref03_Nth.f (k : Nat) (a0 : Int) (a1 : Int) (a2 : Int) (a3 : Int) : Option (Int × Int × Int × Int) := (pylonref03_Length.f k a0 a1).bind fun bt236 => (if bt236.2 = 0 then (if a2 < 1 then (pylonref03_Nth.j0 k a0 a1 a2 a3 bt236.1 true) else (if a2 > 5 then (pylonref03_Nth.j0 k a0 a1 a2 a3 bt236.1 true) else (if a3 < 0 then (pylonref03_Nth.j0 k a0 a1 a2 a3 bt236.1 true) else (pylonref03_Nth.j0 k a0 a1 a2 a3 bt236.1 (decide (a3 > 6)))))) else (some (0, 0, 0, bt236.2)))
theorem pylonref03_Nth.mono_l : ∀ k, (∀ y0 y1 y2 y3 y4 y5, LeO (pylonref03_Nth.j0 k y0 y1 y2 y3 y4 y5) (pylonref03_Nth.j0 (k + 1) y0 y1 y2 y3 y4 y5)) ∧ (∀ y0 y1 y2 y3 y4 y5 y6 y7, LeO (pylonref03_Nth.l0 k y0 y1 y2 y3 y4 y5 y6 y7) (pylonref03_Nth.l0 (k + 1) y0 y1 y2 y3 y4 y5 y6 y7))
 | 0 => ⟨fun _ _ _ _ _ _ r h => by simp [pylonref03_Nth.j0] at h, fun _ _ _ _ _ _ _ _ r h => by simp [pylonref03_Nth.l0] at h⟩
 | k + 1 => by
  obtain ⟨ih0, ih1⟩ := pylonref03_Nth.mono_l k
  refine ⟨?_, ?_⟩
  ·intro y0 y1 y2 y3 y4 y5
   unfold pylonref03_Nth.j0
   repeat' first
   | (with_reducible exact ih0 _ _ _ _ _ _)
   | (with_reducible exact ih1 _ _ _ _ _ _ _ _)
   | (with_reducible exact pylonref03_Length.mono _ _ _)
   | (with_reducible exact pylonref03_Weekday.mono _ _ _ _)
   | (with_reducible exact LeO.refl _)
   | (with_reducible exact LeO.none _)
   | (with_reducible refine LeO.ite ?_ ?_)
   | (with_reducible refine LeO.bind ?_ (fun _ => ?_))
  ·intro y0 y1 y2 y3 y4 y5 y6 y7
   unfold pylonref03_Nth.l0
   repeat' first
   | (with_reducible exact ih0 _ _ _ _ _ _)
   | (with_reducible exact ih1 _ _ _ _ _ _ _ _)
   | (with_reducible exact pylonref03_Length.mono _ _ _)
   | (with_reducible exact pylonref03_Weekday.mono _ _ _ _)
   | (with_reducible exact LeO.refl _)
   | (with_reducible exact LeO.none _)
   | (with_reducible refine LeO.ite ?_ ?_)
   | (with_reducible refine LeO.bind ?_ (fun _ => ?_))
theorem pylonref03_Nth.mono : ∀ a0 a1 a2 a3 k, LeO (pylonref03_Nth.f k a0 a1 a2 a3) (pylonref03_Nth.f (k + 1) a0 a1 a2 a3) := by
 intro a0 a1 a2 a3 k
 obtain ⟨ih0, ih1⟩ := pylonref03_Nth.mono_l k
 unfold pylonref03_Nth.f
 repeat' first
   | (with_reducible exact ih0 _ _ _ _ _ _)
   | (with_reducible exact ih1 _ _ _ _ _ _ _ _)
   | (with_reducible exact pylonref03_Length.mono _ _ _)
   | (with_reducible exact pylonref03_Weekday.mono _ _ _ _)
   | (with_reducible exact LeO.refl _)
   | (with_reducible exact LeO.none _)
   | (with_reducible refine LeO.ite ?_ ?_)
   | (with_reducible refine LeO.bind ?_ (fun _ => ?_))
set_option maxHeartbeats 8000000 in
set_option maxRecDepth 100000 in
theorem pylonref03_Nth.calls (k : Nat) (a0 : Int) (a1 : Int) (a2 : Int) (a3 : Int) (r1 : Int) (r2 : Int) (r3 : Int) (r4 : Int) (w : World) (h : pylonref03_Nth.f k a0 a1 a2 a3 = some (r1, r2, r3, r4)) :
  Calls Try.prog 90 #[.int .i64 a0, .int .i64 a1, .int .i64 a2, .int .i64 a3] w fun e w' => e = .returned (.tuple #[.agg #[.int .i64 r1, .int .i64 r2, .int .i64 r3], .int .i64 r4]) ∧ Below w.heap.size w w' := by
 have hu24 := Try.underlying24
 have HB := AX (Below.refl w.heap.size w)
 have H : ((pylonref03_Length.f k a0 a1).bind fun bt236 => (if bt236.2 = 0 then (if a2 < 1 then (pylonref03_Nth.j0 k a0 a1 a2 a3 bt236.1 true) else (if a2 > 5 then (pylonref03_Nth.j0 k a0 a1 a2 a3 bt236.1 true) else (if a3 < 0 then (pylonref03_Nth.j0 k a0 a1 a2 a3 bt236.1 true) else (pylonref03_Nth.j0 k a0 a1 a2 a3 bt236.1 (decide (a3 > 6)))))) else (some (0, 0, 0, bt236.2)))) = some (r1, r2, r3, r4) := h
 clear h
 replace H := Option.bind_eq_some_iff.mp H
 obtain ⟨⟨t236, t237⟩, A50, H⟩ := H
 replace H : (if t237 = 0 then (if a2 < 1 then (pylonref03_Nth.j0 k a0 a1 a2 a3 t236 true) else (if a2 > 5 then (pylonref03_Nth.j0 k a0 a1 a2 a3 t236 true) else (if a3 < 0 then (pylonref03_Nth.j0 k a0 a1 a2 a3 t236 true) else (pylonref03_Nth.j0 k a0 a1 a2 a3 t236 (decide (a3 > 6)))))) else (some (0, 0, 0, t237))) = some (r1, r2, r3, r4) := H
 have A5 := AX A50
 clear A50
 by_cases c6 : t237 = 0
 ·rw [if_pos c6] at H
  have c6b0 : (t237 == 0) = true := beq_iff_eq.mpr c6
  have c6b1 : (t237 != 0) = false := bne_eq_false_iff_eq.mpr c6
  clear c6
  have HC7 := AX H
  clear H
  go_enter Try.func90, Try.ntmps90
  go_upto_region 4 with (first | ((with_reducible refine gate_dst (N := 8) rfl ?_); refine bx 8 #[.int .i64 0, .int .i64 0, .int .i64 0] 24 ?_; intro gb235 hg w8 hbox hb; have BK235 := AX (hbox); have GW235 := gwl (w := w) hg bw; have GE235 := GW235; replace HB := AX (below_step bw hb); clear hb hbox hg) | ((with_reducible refine gate_callee (f := 70) rfl ?_); refine gL (some 20) Try.func70 #[.int .i64 a0, .int .i64 a1] ?_; (with_reducible refine (pylonref03_Length.calls k a0 a1 t236 t237 _ A5.out).mono ?_); rintro e w' ⟨rfl, ⟨nd, rfl⟩⟩; refine ⟨_, rfl, ?_⟩))
  (try simp only [Act.put, List.setIfInBounds_toArray, List.set_cons_zero, List.set_cons_succ])
  go_cut [40] (fun v40 wc => ∃ (kq : Nat) (x40_6 : Bool), v40 = .bool x40_6 ∧ Aside0 (pylonref03_Nth.j0 kq a0 a1 a2 a3 t236 x40_6 = some (r1, r2, r3, r4)) ∧ Aside0 (kq ≤ k) ∧ Aside0 (wc.heap[gb235]? = some (.cells #[.int .i64 0, .int .i64 0, .int .i64 0] 24 (0, 0))) ∧ Aside0 (Below w.heap.size w wc))
  case first =>
   have H := HC7.out
   clear HC7
   by_cases c9 : a2 < 1
   ·rw [if_pos c9] at H
    have c9b0 : decide (a2 < 1) = true := decide_eq_true c9
    clear c9
    (first | rw [c9b0] | (simp only [i64_w, i32_w]; rw [c9b0]) | skip)
    have H' := AX H
    clear H
    go_wp2
    go_meet
    case rel => exact ⟨_, (true), (by first | rfl | (simp; done) | (simp [*]; done)), H', ⟨by first | omega | exact Nat.le_refl _⟩, ⟨bkn BK235⟩, ⟨bw⟩⟩
   ·rw [if_neg c9] at H
    have c9b0 : decide (a2 < 1) = false := decide_eq_false c9
    clear c9
    (first | rw [c9b0] | (simp only [i64_w, i32_w]; rw [c9b0]) | skip)
    by_cases c10 : a2 > 5
    ·rw [if_pos c10] at H
     have c10b0 : decide (5 < a2) = true := decide_eq_true c10
     clear c10
     have H' := AX H
     clear H
     go_wp2
     go_meet
     case rel => exact ⟨_, (true), (by first | rfl | (simp; done) | (simp [*]; done)), H', ⟨by first | omega | exact Nat.le_refl _⟩, ⟨bkn BK235⟩, ⟨bw⟩⟩
    ·rw [if_neg c10] at H
     have c10b0 : decide (5 < a2) = false := decide_eq_false c10
     clear c10
     by_cases c11 : a3 < 0
     ·rw [if_pos c11] at H
      have c11b0 : decide (a3 < 0) = true := decide_eq_true c11
      clear c11
      have H' := AX H
      clear H
      go_wp2
      go_meet
      case rel => exact ⟨_, (true), (by first | rfl | (simp; done) | (simp [*]; done)), H', ⟨by first | omega | exact Nat.le_refl _⟩, ⟨bkn BK235⟩, ⟨bw⟩⟩
     ·rw [if_neg c11] at H
      have c11b0 : decide (a3 < 0) = false := decide_eq_false c11
      clear c11
      have H' := AX H
      clear H
      go_wp2
      go_meet
      case rel => exact ⟨_, (decide (a3 > 6)), (by first | rfl | (simp; done) | (simp [*]; done)), H', ⟨by first | omega | exact Nat.le_refl _⟩, ⟨bkn BK235⟩, ⟨bw⟩⟩
  case rest =>
   clear HC7
   try clear c6b0 c6b1
   obtain ⟨kq, x40_6, rfl, HA, HJ6, BK235, HB⟩ := hcut
   cases kq with
   | zero => exact absurd HA.out (by simp [pylonref03_Nth.j0])
   | succ kj6 =>
    have H := HA.out
    clear HA
    simp only [pylonref03_Nth.j0] at H
    by_cases c12 : x40_6 = true
    ·subst c12
     have H1 : (some (0, 0, 0, 8)) = some (r1, r2, r3, r4) := by rw [if_pos rfl] at H; exact H
     clear H
     have H := H1
     clear H1
     simp only [Option.some.injEq, Prod.mk.injEq] at H
     obtain ⟨rfl, rfl, rfl, rfl⟩ := H
     obtain ⟨hcz13_0, hcz13_1, hcz13_2⟩ := blkC3 (w := wc) BK235.out
     obtain ⟨hfz13_0, hfz13_1, hfz13_2⟩ := blkF3 BK235.out
     go_wp2
     refine bodyPost_ret (results_ct rfl _ _ gb235 24 #[.int .i64 0, .int .i64 0, .int .i64 0] (0, 0) _ rfl (by (with_reducible repeat first|refine blk_drewN ?_ _|refine blk_drew ?_|refine blk_alloc ?_ _); refine blk_put (cs := #[.int .i64 0, .int .i64 0, .int .i64 0]) ?_ 2 _ rfl; (with_reducible repeat first|refine blk_drewN ?_ _|refine blk_drew ?_|refine blk_alloc ?_ _); refine blk_put (cs := #[.int .i64 0, .int .i64 0, .int .i64 0]) ?_ 1 _ rfl; (with_reducible repeat first|refine blk_drewN ?_ _|refine blk_drew ?_|refine blk_alloc ?_ _); refine blk_put (cs := #[.int .i64 0, .int .i64 0, .int .i64 0]) ?_ 0 _ rfl; (with_reducible repeat first|refine blk_drewN ?_ _|refine blk_drew ?_|refine blk_alloc ?_ _); exact BK235.out) Try.underlying24 rfl (by kernel_rfl)) rfl ?_
     exact ⟨by first | rfl | (simp [errW_none, errW_some] <;> rfl) | (simp [*, errW_none, errW_some] <;> rfl), bw⟩
    ·replace c12 := Bool.eq_false_iff.mpr c12
     subst c12
     have H1 : (pylonref03_Nth.l0 kj6 a0 a1 a2 a3 t236 0 0 1) = some (r1, r2, r3, r4) := by rw [if_neg (show ¬ (false = true) by decide)] at H; exact H
     clear H
     have H := H1
     clear H1
     have H' := AX H
     clear H
     go_wp2
     go_loopg [12, 13, 14] kj6 (fun kq v12 v13 v14 w' => ∃ (x12_2 : Int) (x13_2 : Int) (x14_2 : Int), v12 = .int .i64 x12_2 ∧ v13 = .int .i64 x13_2 ∧ v14 = .int .i64 x14_2 ∧ Aside0 (pylonref03_Nth.l0 kq a0 a1 a2 a3 t236 x12_2 x13_2 x14_2 = some (r1, r2, r3, r4)) ∧ Aside0 (kq ≤ kj6) ∧ Aside0 (w'.heap[gb235]? = some (.cells #[.int .i64 0, .int .i64 0, .int .i64 0] 24 (0, 0))) ∧ Aside0 (Below w.heap.size w w'))
     case atStart => exact ⟨(0), (0), (1), (by first | rfl | (simp; done) | (simp [*]; done)), (by first | rfl | (simp; done) | (simp [*]; done)), (by first | rfl | (simp; done) | (simp [*]; done)), H', ⟨Nat.le_refl _⟩, ⟨bkn BK235⟩, ⟨bw⟩⟩
     case round =>
      clear H'
      try clear c12
      obtain ⟨x12_2, x13_2, x14_2, rfl, rfl, rfl, HA, HK2, BK235, HB⟩ := hrel
      cases gk with
      | zero => exact absurd HA.out (by simp [pylonref03_Nth.l0])
      | succ k2 =>
       have H := HA.out
       clear HA
       simp only [pylonref03_Nth.l0] at H
       by_cases c14 : x14_2 ≤ t236
       ·rw [if_pos c14] at H
        have c14b0 : decide (x14_2 ≤ t236) = true := decide_eq_true c14
        clear c14
        replace H := Option.bind_eq_some_iff.mp H
        obtain ⟨⟨t238, t239⟩, A150, H⟩ := H
        replace H : (if t238 = a3 then (if (wrap64 (x12_2 + 1)) = a2 then (some (a0, a1, x14_2, 0)) else (pylonref03_Nth.l0 k2 a0 a1 a2 a3 t236 (wrap64 (x12_2 + 1)) x14_2 (wrap64 (x14_2 + 1)))) else (pylonref03_Nth.l0 k2 a0 a1 a2 a3 t236 x12_2 x13_2 (wrap64 (x14_2 + 1)))) = some (r1, r2, r3, r4) := H
        have A15 := AX A150
        clear A150
        by_cases c16 : t238 = a3
        ·rw [if_pos c16] at H
         have c16b0 : (t238 == a3) = true := beq_iff_eq.mpr c16
         have c16b1 : (t238 != a3) = false := bne_eq_false_iff_eq.mpr c16
         clear c16
         by_cases c17 : (wrap64 (x12_2 + 1)) = a2
         ·rw [if_pos c17] at H
          have c17b0 : ((wrap64 (x12_2 + 1)) == a2) = true := beq_iff_eq.mpr c17
          have c17b1 : ((wrap64 (x12_2 + 1)) != a2) = false := bne_eq_false_iff_eq.mpr c17
          clear c17
          simp only [Option.some.injEq, Prod.mk.injEq] at H
          obtain ⟨rfl, rfl, rfl, rfl⟩ := H
          go_wp2_with (first | ((with_reducible refine gate_callee (f := 19) rfl ?_); refine gL (some 52) Try.func19 #[.agg #[.int .i64 a0, .int .i64 a1, .int .i64 x14_2]] ?_; (with_reducible refine (pylonref03_Weekday.calls k2 a0 a1 x14_2 t238 t239 _ A15.out).mono ?_); rintro e w18 ⟨rfl, hb⟩; refine ⟨_, rfl, ?_⟩; replace BK235 := AX (bkb BK235 hb); replace HB := AX (below_step bw hb); (try clear hb); obtain ⟨hcz19_0, hcz19_1, hcz19_2⟩ := blkC3 (w := w18) BK235.out; obtain ⟨hfz19_0, hfz19_1, hfz19_2⟩ := blkF3 BK235.out))
          refine bodyPost_ret (results_ct rfl _ _ gb235 24 #[.int .i64 a0, .int .i64 a1, .int .i64 x14_2] (0, 0) _ rfl (by (with_reducible repeat first|refine blk_drewN ?_ _|refine blk_drew ?_|refine blk_alloc ?_ _); refine blk_put (cs := #[.int .i64 a0, .int .i64 a1, .int .i64 0]) ?_ 2 _ rfl; (with_reducible repeat first|refine blk_drewN ?_ _|refine blk_drew ?_|refine blk_alloc ?_ _); refine blk_put (cs := #[.int .i64 a0, .int .i64 0, .int .i64 0]) ?_ 1 _ rfl; (with_reducible repeat first|refine blk_drewN ?_ _|refine blk_drew ?_|refine blk_alloc ?_ _); refine blk_put (cs := #[.int .i64 0, .int .i64 0, .int .i64 0]) ?_ 0 _ rfl; (with_reducible repeat first|refine blk_drewN ?_ _|refine blk_drew ?_|refine blk_alloc ?_ _); exact BK235.out) Try.underlying24 rfl (by kernel_rfl)) rfl ?_
          exact ⟨by first | rfl | (simp [errW_none, errW_some] <;> rfl) | (simp [*, errW_none, errW_some] <;> rfl), bw⟩
         ·rw [if_neg c17] at H
          have c17b0 : ((wrap64 (x12_2 + 1)) == a2) = false := beq_eq_false_iff_ne.mpr c17
          have c17b1 : ((wrap64 (x12_2 + 1)) != a2) = true := bne_iff_ne.mpr c17
          have H' := AX H
          clear H
          go_wp2_with (first | ((with_reducible refine gate_callee (f := 19) rfl ?_); refine gL (some 52) Try.func19 #[.agg #[.int .i64 a0, .int .i64 a1, .int .i64 x14_2]] ?_; (with_reducible refine (pylonref03_Weekday.calls k2 a0 a1 x14_2 t238 t239 _ A15.out).mono ?_); rintro e w20 ⟨rfl, hb⟩; refine ⟨_, rfl, ?_⟩; replace BK235 := AX (bkb BK235 hb); replace HB := AX (below_step bw hb); (try clear hb)))
          go_roundg k2
          case measure => have := HJ6.out; have := HK2.out; omega
          case rel => exact ⟨(wrap64 (x12_2 + 1)), (x14_2), (wrap64 (x14_2 + 1)), (by first | rfl | (simp; done) | (simp [*]; done)), (by first | rfl | (simp; done) | (simp [*]; done)), (by first | rfl | (simp; done) | (simp [*]; done)), H', ⟨by have := HJ6.out; have := HK2.out; omega⟩, ⟨bkn BK235⟩, ⟨bw⟩⟩
        ·rw [if_neg c16] at H
         have c16b0 : (t238 == a3) = false := beq_eq_false_iff_ne.mpr c16
         have c16b1 : (t238 != a3) = true := bne_iff_ne.mpr c16
         have H' := AX H
         clear H
         go_wp2_with (first | ((with_reducible refine gate_callee (f := 19) rfl ?_); refine gL (some 52) Try.func19 #[.agg #[.int .i64 a0, .int .i64 a1, .int .i64 x14_2]] ?_; (with_reducible refine (pylonref03_Weekday.calls k2 a0 a1 x14_2 t238 t239 _ A15.out).mono ?_); rintro e w21 ⟨rfl, hb⟩; refine ⟨_, rfl, ?_⟩; replace BK235 := AX (bkb BK235 hb); replace HB := AX (below_step bw hb); (try clear hb)))
         go_roundg k2
         case measure => have := HJ6.out; have := HK2.out; omega
         case rel => exact ⟨(x12_2), (x13_2), (wrap64 (x14_2 + 1)), (by first | rfl | (simp; done) | (simp [*]; done)), (by first | rfl | (simp; done) | (simp [*]; done)), (by first | rfl | (simp; done) | (simp [*]; done)), H', ⟨by have := HJ6.out; have := HK2.out; omega⟩, ⟨bkn BK235⟩, ⟨bw⟩⟩
       ·rw [if_neg c14] at H
        have c14b0 : decide (x14_2 ≤ t236) = false := decide_eq_false c14
        clear c14
        simp only [Option.some.injEq, Prod.mk.injEq] at H
        obtain ⟨rfl, rfl, rfl, rfl⟩ := H
        obtain ⟨hcz22_0, hcz22_1, hcz22_2⟩ := blkC3 (w := wr) BK235.out
        obtain ⟨hfz22_0, hfz22_1, hfz22_2⟩ := blkF3 BK235.out
        go_wp2
        refine bodyPost_ret (results_ct rfl _ _ gb235 24 #[.int .i64 a0, .int .i64 a1, .int .i64 x13_2] (0, 0) _ rfl (by (with_reducible repeat first|refine blk_drewN ?_ _|refine blk_drew ?_|refine blk_alloc ?_ _); refine blk_put (cs := #[.int .i64 a0, .int .i64 a1, .int .i64 0]) ?_ 2 _ rfl; (with_reducible repeat first|refine blk_drewN ?_ _|refine blk_drew ?_|refine blk_alloc ?_ _); refine blk_put (cs := #[.int .i64 a0, .int .i64 0, .int .i64 0]) ?_ 1 _ rfl; (with_reducible repeat first|refine blk_drewN ?_ _|refine blk_drew ?_|refine blk_alloc ?_ _); refine blk_put (cs := #[.int .i64 0, .int .i64 0, .int .i64 0]) ?_ 0 _ rfl; (with_reducible repeat first|refine blk_drewN ?_ _|refine blk_drew ?_|refine blk_alloc ?_ _); exact BK235.out) Try.underlying24 rfl (by kernel_rfl)) rfl ?_
        exact ⟨by first | rfl | (simp [errW_none, errW_some] <;> rfl) | (simp [*, errW_none, errW_some] <;> rfl), bw⟩
 ·rw [if_neg c6] at H
  have c6b0 : (t237 == 0) = false := beq_eq_false_iff_ne.mpr c6
  have c6b1 : (t237 != 0) = true := bne_iff_ne.mpr c6
  simp only [Option.some.injEq, Prod.mk.injEq] at H
  obtain ⟨rfl, rfl, rfl, rfl⟩ := H
  go_enter Try.func90, Try.ntmps90
  go_wp2_with (first | ((with_reducible refine gate_dst (N := 8) rfl ?_); refine bx 8 #[.int .i64 0, .int .i64 0, .int .i64 0] 24 ?_; intro gb235 hg w23 hbox hb; have BK235 := AX (hbox); have GW235 := gwl (w := w) hg bw; have GE235 := GW235; replace HB := AX (below_step bw hb); clear hb hbox hg) | ((with_reducible refine gate_callee (f := 70) rfl ?_); refine gL (some 20) Try.func70 #[.int .i64 a0, .int .i64 a1] ?_; (with_reducible refine (pylonref03_Length.calls k a0 a1 t236 t237 _ A5.out).mono ?_); rintro e w' ⟨rfl, ⟨nd, rfl⟩⟩; refine ⟨_, rfl, ?_⟩; (try (rw [drewN_self w23]; generalize hq_ : World.drewN w23 _ = w23; have n0_ : Aside0 (w23.heap[gb235]? = some (.cells #[.int .i64 0, .int .i64 0, .int .i64 0] 24 (0, 0))) := ⟨by rw [← hq_]; exact (bkn BK235)⟩; have n1_ : Aside0 (Below w.heap.size w w23) := ⟨by rw [← hq_]; exact bw⟩; clear BK235 HB hq_; have BK235 := n0_; have HB := n1_; clear n0_ n1_)); obtain ⟨hcz24_0, hcz24_1, hcz24_2⟩ := blkC3 (w := w23) BK235.out; obtain ⟨hfz24_0, hfz24_1, hfz24_2⟩ := blkF3 BK235.out))
  refine bodyPost_ret (results_ct rfl _ _ gb235 24 #[.int .i64 0, .int .i64 0, .int .i64 0] (0, 0) _ rfl (by (with_reducible repeat first|refine blk_drewN ?_ _|refine blk_drew ?_|refine blk_alloc ?_ _); refine blk_put (cs := #[.int .i64 0, .int .i64 0, .int .i64 0]) ?_ 2 _ rfl; (with_reducible repeat first|refine blk_drewN ?_ _|refine blk_drew ?_|refine blk_alloc ?_ _); refine blk_put (cs := #[.int .i64 0, .int .i64 0, .int .i64 0]) ?_ 1 _ rfl; (with_reducible repeat first|refine blk_drewN ?_ _|refine blk_drew ?_|refine blk_alloc ?_ _); refine blk_put (cs := #[.int .i64 0, .int .i64 0, .int .i64 0]) ?_ 0 _ rfl; (with_reducible repeat first|refine blk_drewN ?_ _|refine blk_drew ?_|refine blk_alloc ?_ _); exact BK235.out) Try.underlying24 rfl (by kernel_rfl)) rfl ?_
  exact ⟨by first | rfl | (simp [errW_none, errW_some] <;> rfl) | (simp [*, errW_none, errW_some] <;> rfl), bw⟩

/-! ### pylonref04_moment: function 82 -/
def pylonref04_moment.f (k : Nat) (a0_0 : Int) (a0_1 : Int) (a0_2 : Int) (a0_3 : Int) (a1 : Int) (a2 : Int) : Option (Int) := (pylonref03_Nth.f k a1 a0_0 a0_1 a0_2).bind fun bt241 => ((pylonref03_Days.f k bt241.1 bt241.2.1 bt241.2.2.1).bind fun bt246 => (some (wrap64 ((wrap64 (bt246.1 * 86400)) + (wrap64 ((wrap64 (a0_3 - a2)) * 60))))))
theorem pylonref04_moment.mono : ∀ a0 a1 a2 a3 a4 a5 k, LeO (pylonref04_moment.f k a0 a1 a2 a3 a4 a5) (pylonref04_moment.f (k + 1) a0 a1 a2 a3 a4 a5) := by
 intro a0 a1 a2 a3 a4 a5 k
 unfold pylonref04_moment.f
 repeat' first
   | (with_reducible exact pylonref03_Days.mono _ _ _ _)
   | (with_reducible exact pylonref03_Nth.mono _ _ _ _ _)
   | (with_reducible exact LeO.refl _)
   | (with_reducible exact LeO.none _)
   | (with_reducible refine LeO.ite ?_ ?_)
   | (with_reducible refine LeO.bind ?_ (fun _ => ?_))
set_option maxHeartbeats 8000000 in
set_option maxRecDepth 100000 in
theorem pylonref04_moment.calls (k : Nat) (a0_0 : Int) (a0_1 : Int) (a0_2 : Int) (a0_3 : Int) (a1 : Int) (a2 : Int) (r : Int) (w : World) (h : pylonref04_moment.f k a0_0 a0_1 a0_2 a0_3 a1 a2 = some r) :
  Calls Try.prog 82 #[.agg #[.int .i64 a0_0, .int .i64 a0_1, .int .i64 a0_2, .int .i64 a0_3], .int .i64 a1, .int .i64 a2] w fun e w' => e = .returned (.int .i64 r) ∧ Below w.heap.size w w' := by
 have hu40 := Try.underlying40
 have hu24 := Try.underlying24
 have HB := AX (Below.refl w.heap.size w)
 have H : ((pylonref03_Nth.f k a1 a0_0 a0_1 a0_2).bind fun bt241 => ((pylonref03_Days.f k bt241.1 bt241.2.1 bt241.2.2.1).bind fun bt246 => (some (wrap64 ((wrap64 (bt246.1 * 86400)) + (wrap64 ((wrap64 (a0_3 - a2)) * 60))))))) = some r := h
 clear h
 replace H := Option.bind_eq_some_iff.mp H
 obtain ⟨⟨t241, t242, t243, t244⟩, A40, H⟩ := H
 replace H : ((pylonref03_Days.f k t241 t242 t243).bind fun bt246 => (some (wrap64 ((wrap64 (bt246.1 * 86400)) + (wrap64 ((wrap64 (a0_3 - a2)) * 60)))))) = some r := H
 have A4 := AX A40
 clear A40
 replace H := Option.bind_eq_some_iff.mp H
 obtain ⟨⟨t246, t247⟩, A50, H⟩ := H
 replace H : (some (wrap64 ((wrap64 (t246 * 86400)) + (wrap64 ((wrap64 (a0_3 - a2)) * 60))))) = some r := H
 have A5 := AX A50
 clear A50
 obtain rfl := Option.some.inj H
 go_enter Try.func82, Try.ntmps82
 go_wp2_with (first | ((with_reducible refine gate_dst (N := 3) rfl ?_); refine bx 3 #[.int .i64 a0_0, .int .i64 a0_1, .int .i64 a0_2, .int .i64 a0_3] 40 ?_; intro gb240 hg w6 hbox hb; have BK240 := AX (hbox); have GW240 := gwl (w := w) hg bw; have GE240 := GW240; replace HB := AX (below_step bw hb); clear hb hbox hg; obtain ⟨hcz7_0, hcz7_1, hcz7_2, hcz7_3⟩ := blkC4 (w := w6) BK240.out; obtain ⟨hfz7_0, hfz7_1, hfz7_2, hfz7_3⟩ := blkF4 BK240.out) | ((with_reducible refine gate_callee (f := 90) rfl ?_); refine gL (some 19) Try.func90 #[.int .i64 a1, .int .i64 a0_0, .int .i64 a0_1, .int .i64 a0_2] ?_; (with_reducible refine (pylonref03_Nth.calls k a1 a0_0 a0_1 a0_2 t241 t242 t243 t244 _ A4.out).mono ?_); rintro e w8 ⟨rfl, hb⟩; refine ⟨_, rfl, ?_⟩; replace BK240 := AX (bkb BK240 hb); replace HB := AX (below_step bw hb); (try clear hb)) | ((with_reducible refine gate_dst (N := 7) rfl ?_); refine bx 7 #[.int .i64 0, .int .i64 0, .int .i64 0] 24 ?_; intro gb245 hg w9 hbox hb; have BK245 := AX (hbox); have GW245 := gwl (w := w) hg bw; have GE245 := GW245; have NB240_245 := nbl hg (bkn BK240); have NB245_240 := nbg hg (bkn BK240); replace BK240 := AX (bkb BK240 hb); replace HB := AX (below_step bw hb); clear hb hbox hg; have hnb10 := NB245_240.out; have hnc10 := NB240_245.out; obtain ⟨hcz11_0, hcz11_1, hcz11_2⟩ := blkC3 (w := w9) BK245.out; obtain ⟨hfz11_0, hfz11_1, hfz11_2⟩ := blkF3 BK245.out) | ((with_reducible refine gate_callee (f := 40) rfl ?_); refine gL (some 24) Try.func40 #[.agg #[.int .i64 t241, .int .i64 t242, .int .i64 t243]] ?_; (with_reducible refine (pylonref03_Days.calls k t241 t242 t243 t246 t247 _ A5.out).mono ?_); rintro e w12 ⟨rfl, hb⟩; refine ⟨_, rfl, ?_⟩; replace BK240 := AX (blk_below (g := gb240) (o := .cells #[.int .i64 a0_0, .int .i64 a0_1, .int .i64 a0_2, .int .i64 a0_3] 40 (0, 0)) (by (with_reducible repeat first|refine blk_drewN ?_ _|refine blk_drew ?_|refine blk_alloc ?_ _|refine blk_far ?_ NB240_245.out _); exact BK240.out) hb); replace BK245 := AX (blk_below (g := gb245) (o := .cells #[.int .i64 t241, .int .i64 t242, .int .i64 t243] 24 (0, 0)) (by (with_reducible repeat first|refine blk_drewN ?_ _|refine blk_drew ?_|refine blk_alloc ?_ _); refine blk_put (cs := #[.int .i64 t241, .int .i64 t242, .int .i64 0]) ?_ 2 _ rfl; (with_reducible repeat first|refine blk_drewN ?_ _|refine blk_drew ?_|refine blk_alloc ?_ _); refine blk_put (cs := #[.int .i64 t241, .int .i64 0, .int .i64 0]) ?_ 1 _ rfl; (with_reducible repeat first|refine blk_drewN ?_ _|refine blk_drew ?_|refine blk_alloc ?_ _); refine blk_put (cs := #[.int .i64 0, .int .i64 0, .int .i64 0]) ?_ 0 _ rfl; (with_reducible repeat first|refine blk_drewN ?_ _|refine blk_drew ?_|refine blk_alloc ?_ _); exact BK245.out) hb); replace HB := AX (below_step bw hb); (try clear hb); obtain ⟨hcz13_0, hcz13_1, hcz13_2, hcz13_3⟩ := blkC4 (w := w12) BK240.out; obtain ⟨hfz13_0, hfz13_1, hfz13_2, hfz13_3⟩ := blkF4 BK240.out))
 go_ret
 exact ⟨by first | rfl | (simp [errW_none, errW_some] <;> rfl) | (simp [*, errW_none, errW_some] <;> rfl), bw⟩

end Go.Proofs.Ytkggjjggcbcdiaa.PX
