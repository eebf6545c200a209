/- Functions of the program as plain Lean functions, each with a proof that the call in the machine answers just what the plain function says; condition: the plain function answers at all. -/
import Derived.Test.YtegedhnbmclbkaaPXx0
import Derived.Test.YtegedhnbmclbkaaPXx1
import Derived.Test.YtegedhnbmclbkaaPXx2
import Derived.Test.YtegedhnbmclbkaaPXx3
namespace Go.Proofs.Ytegedhnbmclbkaa.PX
open Go.RowKit Go.Proofs.YtegedhnbmclbkaaW.PrintWords Go.Proofs.YtegedhnbmclbkaaW.PrintLast Go.Proofs.YtegedhnbmclbkaaW.PrintMore
attribute [local go_sem] max2_int min2_int max_two min_two max_three min_three max_four min_four   -- for this text's walks alone
set_option linter.unusedVariables false
set_option linter.unusedSimpArgs false

attribute [local go_sem high] eqA33
/-! ### holiday_On: function 11 -/
def holiday_On.f (k : Nat) (a0_0 : Int) (a0_1 : Int) (a0_2 : Int) (a0_3 : Int) (a1 : Int) : Option (Int × Int × Int × Int) := (holiday_Check.f k a0_0 a0_1 a0_2 a0_3).bind fun t137 => (if t137 = 0 then ((holiday_Easter.f a1).bind fun bt138 => (if bt138.2.2.2 = 0 then (if a0_0 = 1 then ((civil_Length.f a1 a0_1).bind fun bt143 => (if a0_2 > bt143.1 then (some (0, 0, 0, 7)) else (some (a1, a0_1, a0_2, 0)))) else (if a0_0 = 2 then ((civil_Nth.f k a1 a0_1 a0_2 a0_3).bind fun bt145 => (some (bt145.1, bt145.2.1, bt145.2.2.1, bt145.2.2.2))) else ((civil_Add.f bt138.1 bt138.2.1 bt138.2.2.1 a0_1).bind fun bt149 => (if bt149.2.2.2 = 0 then (some (bt149.1, bt149.2.1, bt149.2.2.1, 0)) else (some (0, 0, 0, 7)))))) else (some (0, 0, 0, bt138.2.2.2)))) else (some (0, 0, 0, 8)))
theorem holiday_On.mono : ∀ a0 a1 a2 a3 a4 k, LeO (holiday_On.f k a0 a1 a2 a3 a4) (holiday_On.f (k + 1) a0 a1 a2 a3 a4) := by
 intro a0 a1 a2 a3 a4 k
 unfold holiday_On.f
 repeat' first
   | (with_reducible exact civil_Nth.mono _ _ _ _ _)
   | (with_reducible exact holiday_Check.mono _ _ _ _ _)
   | (with_reducible exact LeO.refl _)
   | (with_reducible exact LeO.none _)
   | (with_reducible refine LeO.ite ?_ ?_)
   | (with_reducible refine LeO.bind ?_ (fun _ => ?_))
set_option maxHeartbeats 8000000 in
set_option maxRecDepth 100000 in
theorem holiday_On.calls (k : Nat) (a0_0 : Int) (a0_1 : Int) (a0_2 : Int) (a0_3 : Int) (a1 : Int) (r1 : Int) (r2 : Int) (r3 : Int) (r4 : Int) (w : World) (h : holiday_On.f k a0_0 a0_1 a0_2 a0_3 a1 = some (r1, r2, r3, r4)) :
  Calls Try.prog 11 #[.agg #[.int .i64 a0_0, .int .i64 a0_1, .int .i64 a0_2, .int .i64 a0_3], .int .i64 a1] w fun e w' => e = .returned (.tuple #[.agg #[.int .i64 r1, .int .i64 r2, .int .i64 r3], .int .i64 r4]) ∧ Below w.heap.size w w' := by
 have hu25 := Try.underlying25
 have hu33 := Try.underlying33
 have HB := AX (Below.refl w.heap.size w)
 have H : ((holiday_Check.f k a0_0 a0_1 a0_2 a0_3).bind fun t137 => (if t137 = 0 then ((holiday_Easter.f a1).bind fun bt138 => (if bt138.2.2.2 = 0 then (if a0_0 = 1 then ((civil_Length.f a1 a0_1).bind fun bt143 => (if a0_2 > bt143.1 then (some (0, 0, 0, 7)) else (some (a1, a0_1, a0_2, 0)))) else (if a0_0 = 2 then ((civil_Nth.f k a1 a0_1 a0_2 a0_3).bind fun bt145 => (some (bt145.1, bt145.2.1, bt145.2.2.1, bt145.2.2.2))) else ((civil_Add.f bt138.1 bt138.2.1 bt138.2.2.1 a0_1).bind fun bt149 => (if bt149.2.2.2 = 0 then (some (bt149.1, bt149.2.1, bt149.2.2.1, 0)) else (some (0, 0, 0, 7)))))) else (some (0, 0, 0, bt138.2.2.2)))) else (some (0, 0, 0, 8)))) = some (r1, r2, r3, r4) := h
 clear h
 replace H := Option.bind_eq_some_iff.mp H
 obtain ⟨t137, A30, H⟩ := H
 replace H : (if t137 = 0 then ((holiday_Easter.f a1).bind fun bt138 => (if bt138.2.2.2 = 0 then (if a0_0 = 1 then ((civil_Length.f a1 a0_1).bind fun bt143 => (if a0_2 > bt143.1 then (some (0, 0, 0, 7)) else (some (a1, a0_1, a0_2, 0)))) else (if a0_0 = 2 then ((civil_Nth.f k a1 a0_1 a0_2 a0_3).bind fun bt145 => (some (bt145.1, bt145.2.1, bt145.2.2.1, bt145.2.2.2))) else ((civil_Add.f bt138.1 bt138.2.1 bt138.2.2.1 a0_1).bind fun bt149 => (if bt149.2.2.2 = 0 then (some (bt149.1, bt149.2.1, bt149.2.2.1, 0)) else (some (0, 0, 0, 7)))))) else (some (0, 0, 0, bt138.2.2.2)))) else (some (0, 0, 0, 8))) = some (r1, r2, r3, r4) := H
 have A3 := AX A30
 clear A30
 by_cases c4 : t137 = 0
 ·rw [if_pos c4] at H
  have c4b0 : (t137 == 0) = true := beq_iff_eq.mpr c4
  have c4b1 : (t137 != 0) = false := bne_eq_false_iff_eq.mpr c4
  clear c4
  replace H := Option.bind_eq_some_iff.mp H
  obtain ⟨⟨t138, t139, t140, t141⟩, A50, H⟩ := H
  replace H : (if t141 = 0 then (if a0_0 = 1 then ((civil_Length.f a1 a0_1).bind fun bt143 => (if a0_2 > bt143.1 then (some (0, 0, 0, 7)) else (some (a1, a0_1, a0_2, 0)))) else (if a0_0 = 2 then ((civil_Nth.f k a1 a0_1 a0_2 a0_3).bind fun bt145 => (some (bt145.1, bt145.2.1, bt145.2.2.1, bt145.2.2.2))) else ((civil_Add.f t138 t139 t140 a0_1).bind fun bt149 => (if bt149.2.2.2 = 0 then (some (bt149.1, bt149.2.1, bt149.2.2.1, 0)) else (some (0, 0, 0, 7)))))) else (some (0, 0, 0, t141))) = some (r1, r2, r3, r4) := H
  have A5 := AX A50
  clear A50
  by_cases c6 : t141 = 0
  ·rw [if_pos c6] at H
   have c6b0 : (t141 == 0) = true := beq_iff_eq.mpr c6
   have c6b1 : (t141 != 0) = false := bne_eq_false_iff_eq.mpr c6
   clear c6
   by_cases c7 : a0_0 = 1
   ·rw [if_pos c7] at H
    have c7b0 : (a0_0 == 1) = true := beq_iff_eq.mpr c7
    have c7b1 : (a0_0 != 1) = false := bne_eq_false_iff_eq.mpr c7
    clear c7
    replace H := Option.bind_eq_some_iff.mp H
    obtain ⟨⟨t143, t144⟩, A80, H⟩ := H
    replace H : (if a0_2 > t143 then (some (0, 0, 0, 7)) else (some (a1, a0_1, a0_2, 0))) = some (r1, r2, r3, r4) := H
    have A8 := AX A80
    clear A80
    by_cases c9 : a0_2 > t143
    ·rw [if_pos c9] at H
     have c9b0 : decide (t143 < a0_2) = true := decide_eq_true c9
     clear c9
     simp only [Option.some.injEq, Prod.mk.injEq] at H
     obtain ⟨rfl, rfl, rfl, rfl⟩ := H
     go_enter Try.func11, Try.ntmps11
     go_wp2_with (first | ((with_reducible refine gate_dst (N := 2) rfl ?_); refine bx 2 #[.int .i64 a0_0, .int .i64 a0_1, .int .i64 a0_2, .int .i64 a0_3] 25 ?_; intro gb135 hg w10 hbox hb; have BK135 := AX (hbox); have GW135 := gwl (w := w) hg bw; have GE135 := GW135; replace HB := AX (below_step bw hb); clear hb hbox hg) | ((with_reducible refine gate_dst (N := 4) rfl ?_); refine bx 4 #[.int .i64 0, .int .i64 0, .int .i64 0] 33 ?_; intro gb136 hg w11 hbox hb; have BK136 := AX (hbox); have GW136 := gwl (w := w) hg bw; have GE136 := GW136; have NB135_136 := nbl hg (bkn BK135); have NB136_135 := nbg hg (bkn BK135); replace BK135 := AX (bkb BK135 hb); replace HB := AX (below_step bw hb); clear hb hbox hg; have hnb12 := NB135_136.out; have hnc12 := NB136_135.out; obtain ⟨hcz13_0, hcz13_1, hcz13_2, hcz13_3⟩ := blkC4 (w := w11) BK135.out; obtain ⟨hfz13_0, hfz13_1, hfz13_2, hfz13_3⟩ := blkF4 BK135.out) | ((with_reducible refine gate_callee (f := 12) rfl ?_); refine gL (some 13) Try.func12 #[.agg #[.int .i64 a0_0, .int .i64 a0_1, .int .i64 a0_2, .int .i64 a0_3]] ?_; (with_reducible refine (holiday_Check.calls k a0_0 a0_1 a0_2 a0_3 t137 _ A3.out).mono ?_); rintro e w14 ⟨rfl, hb⟩; refine ⟨_, rfl, ?_⟩; replace BK135 := AX (bkb BK135 hb); replace BK136 := AX (bkb BK136 hb); replace HB := AX (below_step bw hb); (try clear hb)) | ((with_reducible refine gate_callee (f := 21) rfl ?_); refine gL (some 18) Try.func21 #[.int .i64 a1] ?_; (with_reducible refine (holiday_Easter.calls a1 t138 t139 t140 t141 _ A5.out).mono ?_); rintro e w15 ⟨rfl, hb⟩; refine ⟨_, rfl, ?_⟩; replace BK135 := AX (bkb BK135 hb); replace BK136 := AX (bkb BK136 hb); replace HB := AX (below_step bw hb); (try clear hb)) | ((with_reducible refine gate_dst (N := 6) rfl ?_); refine bx 6 #[.int .i64 0, .int .i64 0, .int .i64 0] 33 ?_; intro gb142 hg w16 hbox hb; have BK142 := AX (hbox); have GW142 := gwl (w := w) hg bw; have GE142 := GW142; have NB135_142 := nbl hg (bkn BK135); have NB142_135 := nbg hg (bkn BK135); have NB136_142 := nbl hg (bkn BK136); have NB142_136 := nbg hg (bkn BK136); replace BK135 := AX (bkb BK135 hb); replace BK136 := AX (bkb BK136 hb); replace HB := AX (below_step bw hb); clear hb hbox hg; have hnb17 := NB142_135.out; have hnc17 := NB135_142.out; have hnb18 := NB142_136.out; have hnc18 := NB136_142.out; obtain ⟨hcz19_0, hcz19_1, hcz19_2⟩ := blkC3 (w := w16) BK142.out; obtain ⟨hfz19_0, hfz19_1, hfz19_2⟩ := blkF3 BK142.out; obtain ⟨hcz20_0, hcz20_1, hcz20_2, hcz20_3⟩ := blkC4 (w := w16) BK135.out; obtain ⟨hfz20_0, hfz20_1, hfz20_2, hfz20_3⟩ := blkF4 BK135.out) | ((with_reducible refine gate_callee (f := 25) rfl ?_); refine gL (some 33) Try.func25 #[.int .i64 a1, .int .i64 a0_1] ?_; (with_reducible refine (civil_Length.calls a1 a0_1 t143 t144 _ A8.out).mono ?_); rintro e w21 ⟨rfl, hb⟩; refine ⟨_, rfl, ?_⟩; replace BK135 := AX (blk_below (g := gb135) (o := .cells #[.int .i64 a0_0, .int .i64 a0_1, .int .i64 a0_2, .int .i64 a0_3] 25 (0, 0)) (by (with_reducible repeat first|refine blk_drewN ?_ _|refine blk_drew ?_|refine blk_alloc ?_ _|refine blk_far ?_ NB135_142.out _); exact BK135.out) hb); replace BK136 := AX (blk_below (g := gb136) (o := .cells #[.int .i64 0, .int .i64 0, .int .i64 0] 33 (0, 0)) (by (with_reducible repeat first|refine blk_drewN ?_ _|refine blk_drew ?_|refine blk_alloc ?_ _|refine blk_far ?_ NB136_142.out _); exact BK136.out) hb); replace BK142 := AX (blk_below (g := gb142) (o := .cells #[.int .i64 t138, .int .i64 t139, .int .i64 t140] 33 (0, 0)) (by (with_reducible repeat first|refine blk_drewN ?_ _|refine blk_drew ?_|refine blk_alloc ?_ _); refine blk_put (cs := #[.int .i64 t138, .int .i64 t139, .int .i64 0]) ?_ 2 _ rfl; (with_reducible repeat first|refine blk_drewN ?_ _|refine blk_drew ?_|refine blk_alloc ?_ _); refine blk_put (cs := #[.int .i64 t138, .int .i64 0, .int .i64 0]) ?_ 1 _ rfl; (with_reducible repeat first|refine blk_drewN ?_ _|refine blk_drew ?_|refine blk_alloc ?_ _); refine blk_put (cs := #[.int .i64 0, .int .i64 0, .int .i64 0]) ?_ 0 _ rfl; (with_reducible repeat first|refine blk_drewN ?_ _|refine blk_drew ?_|refine blk_alloc ?_ _); exact BK142.out) hb); replace HB := AX (below_step bw hb); (try clear hb); obtain ⟨hcz22_0, hcz22_1, hcz22_2, hcz22_3⟩ := blkC4 (w := w21) BK135.out; obtain ⟨hfz22_0, hfz22_1, hfz22_2, hfz22_3⟩ := blkF4 BK135.out; obtain ⟨hcz23_0, hcz23_1, hcz23_2⟩ := blkC3 (w := w21) BK136.out; obtain ⟨hfz23_0, hfz23_1, hfz23_2⟩ := blkF3 BK136.out))
     refine bodyPost_ret (results_ct rfl _ _ gb136 33 #[.int .i64 0, .int .i64 0, .int .i64 0] (0, 0) _ rfl (by (with_reducible repeat first|refine blk_drewN ?_ _|refine blk_drew ?_|refine blk_alloc ?_ _); refine blk_put (cs := #[.int .i64 0, .int .i64 0, .int .i64 0]) ?_ 2 _ rfl; (with_reducible repeat first|refine blk_drewN ?_ _|refine blk_drew ?_|refine blk_alloc ?_ _); refine blk_put (cs := #[.int .i64 0, .int .i64 0, .int .i64 0]) ?_ 1 _ rfl; (with_reducible repeat first|refine blk_drewN ?_ _|refine blk_drew ?_|refine blk_alloc ?_ _); refine blk_put (cs := #[.int .i64 0, .int .i64 0, .int .i64 0]) ?_ 0 _ rfl; (with_reducible repeat first|refine blk_drewN ?_ _|refine blk_drew ?_|refine blk_alloc ?_ _); exact BK136.out) Try.underlying33 rfl (by kernel_rfl)) rfl ?_
     exact ⟨by first | rfl | (simp [errW_none, errW_some] <;> rfl) | (simp [*, errW_none, errW_some] <;> rfl), bw⟩
    ·rw [if_neg c9] at H
     have c9b0 : decide (t143 < a0_2) = false := decide_eq_false c9
     clear c9
     simp only [Option.some.injEq, Prod.mk.injEq] at H
     obtain ⟨rfl, rfl, rfl, rfl⟩ := H
     go_enter Try.func11, Try.ntmps11
     go_wp2_with (first | ((with_reducible refine gate_dst (N := 2) rfl ?_); refine bx 2 #[.int .i64 a0_0, .int .i64 a0_1, .int .i64 a0_2, .int .i64 a0_3] 25 ?_; intro gb135 hg w24 hbox hb; have BK135 := AX (hbox); have GW135 := gwl (w := w) hg bw; have GE135 := GW135; replace HB := AX (below_step bw hb); clear hb hbox hg) | ((with_reducible refine gate_dst (N := 4) rfl ?_); refine bx 4 #[.int .i64 0, .int .i64 0, .int .i64 0] 33 ?_; intro gb136 hg w25 hbox hb; have BK136 := AX (hbox); have GW136 := gwl (w := w) hg bw; have GE136 := GW136; have NB135_136 := nbl hg (bkn BK135); have NB136_135 := nbg hg (bkn BK135); replace BK135 := AX (bkb BK135 hb); replace HB := AX (below_step bw hb); clear hb hbox hg; have hnb26 := NB135_136.out; have hnc26 := NB136_135.out; obtain ⟨hcz27_0, hcz27_1, hcz27_2, hcz27_3⟩ := blkC4 (w := w25) BK135.out; obtain ⟨hfz27_0, hfz27_1, hfz27_2, hfz27_3⟩ := blkF4 BK135.out) | ((with_reducible refine gate_callee (f := 12) rfl ?_); refine gL (some 13) Try.func12 #[.agg #[.int .i64 a0_0, .int .i64 a0_1, .int .i64 a0_2, .int .i64 a0_3]] ?_; (with_reducible refine (holiday_Check.calls k a0_0 a0_1 a0_2 a0_3 t137 _ A3.out).mono ?_); rintro e w28 ⟨rfl, hb⟩; refine ⟨_, rfl, ?_⟩; replace BK135 := AX (bkb BK135 hb); replace BK136 := AX (bkb BK136 hb); replace HB := AX (below_step bw hb); (try clear hb)) | ((with_reducible refine gate_callee (f := 21) rfl ?_); refine gL (some 18) Try.func21 #[.int .i64 a1] ?_; (with_reducible refine (holiday_Easter.calls a1 t138 t139 t140 t141 _ A5.out).mono ?_); rintro e w29 ⟨rfl, hb⟩; refine ⟨_, rfl, ?_⟩; replace BK135 := AX (bkb BK135 hb); replace BK136 := AX (bkb BK136 hb); replace HB := AX (below_step bw hb); (try clear hb)) | ((with_reducible refine gate_dst (N := 6) rfl ?_); refine bx 6 #[.int .i64 0, .int .i64 0, .int .i64 0] 33 ?_; intro gb142 hg w30 hbox hb; have BK142 := AX (hbox); have GW142 := gwl (w := w) hg bw; have GE142 := GW142; have NB135_142 := nbl hg (bkn BK135); have NB142_135 := nbg hg (bkn BK135); have NB136_142 := nbl hg (bkn BK136); have NB142_136 := nbg hg (bkn BK136); replace BK135 := AX (bkb BK135 hb); replace BK136 := AX (bkb BK136 hb); replace HB := AX (below_step bw hb); clear hb hbox hg; have hnb31 := NB142_135.out; have hnc31 := NB135_142.out; have hnb32 := NB142_136.out; have hnc32 := NB136_142.out; obtain ⟨hcz33_0, hcz33_1, hcz33_2⟩ := blkC3 (w := w30) BK142.out; obtain ⟨hfz33_0, hfz33_1, hfz33_2⟩ := blkF3 BK142.out; obtain ⟨hcz34_0, hcz34_1, hcz34_2, hcz34_3⟩ := blkC4 (w := w30) BK135.out; obtain ⟨hfz34_0, hfz34_1, hfz34_2, hfz34_3⟩ := blkF4 BK135.out) | ((with_reducible refine gate_callee (f := 25) rfl ?_); refine gL (some 33) Try.func25 #[.int .i64 a1, .int .i64 a0_1] ?_; (with_reducible refine (civil_Length.calls a1 a0_1 t143 t144 _ A8.out).mono ?_); rintro e w35 ⟨rfl, hb⟩; refine ⟨_, rfl, ?_⟩; replace BK135 := AX (blk_below (g := gb135) (o := .cells #[.int .i64 a0_0, .int .i64 a0_1, .int .i64 a0_2, .int .i64 a0_3] 25 (0, 0)) (by (with_reducible repeat first|refine blk_drewN ?_ _|refine blk_drew ?_|refine blk_alloc ?_ _|refine blk_far ?_ NB135_142.out _); exact BK135.out) hb); replace BK136 := AX (blk_below (g := gb136) (o := .cells #[.int .i64 0, .int .i64 0, .int .i64 0] 33 (0, 0)) (by (with_reducible repeat first|refine blk_drewN ?_ _|refine blk_drew ?_|refine blk_alloc ?_ _|refine blk_far ?_ NB136_142.out _); exact BK136.out) hb); replace BK142 := AX (blk_below (g := gb142) (o := .cells #[.int .i64 t138, .int .i64 t139, .int .i64 t140] 33 (0, 0)) (by (with_reducible repeat first|refine blk_drewN ?_ _|refine blk_drew ?_|refine blk_alloc ?_ _); refine blk_put (cs := #[.int .i64 t138, .int .i64 t139, .int .i64 0]) ?_ 2 _ rfl; (with_reducible repeat first|refine blk_drewN ?_ _|refine blk_drew ?_|refine blk_alloc ?_ _); refine blk_put (cs := #[.int .i64 t138, .int .i64 0, .int .i64 0]) ?_ 1 _ rfl; (with_reducible repeat first|refine blk_drewN ?_ _|refine blk_drew ?_|refine blk_alloc ?_ _); refine blk_put (cs := #[.int .i64 0, .int .i64 0, .int .i64 0]) ?_ 0 _ rfl; (with_reducible repeat first|refine blk_drewN ?_ _|refine blk_drew ?_|refine blk_alloc ?_ _); exact BK142.out) hb); replace HB := AX (below_step bw hb); (try clear hb); obtain ⟨hcz36_0, hcz36_1, hcz36_2, hcz36_3⟩ := blkC4 (w := w35) BK135.out; obtain ⟨hfz36_0, hfz36_1, hfz36_2, hfz36_3⟩ := blkF4 BK135.out; obtain ⟨hcz37_0, hcz37_1, hcz37_2⟩ := blkC3 (w := w35) BK136.out; obtain ⟨hfz37_0, hfz37_1, hfz37_2⟩ := blkF3 BK136.out))
     refine bodyPost_ret (results_ct rfl _ _ gb136 33 #[.int .i64 a1, .int .i64 a0_1, .int .i64 a0_2] (0, 0) _ rfl (by (with_reducible repeat first|refine blk_drewN ?_ _|refine blk_drew ?_|refine blk_alloc ?_ _); refine blk_put (cs := #[.int .i64 a1, .int .i64 a0_1, .int .i64 0]) ?_ 2 _ rfl; (with_reducible repeat first|refine blk_drewN ?_ _|refine blk_drew ?_|refine blk_alloc ?_ _); refine blk_put (cs := #[.int .i64 a1, .int .i64 0, .int .i64 0]) ?_ 1 _ rfl; (with_reducible repeat first|refine blk_drewN ?_ _|refine blk_drew ?_|refine blk_alloc ?_ _); refine blk_put (cs := #[.int .i64 0, .int .i64 0, .int .i64 0]) ?_ 0 _ rfl; (with_reducible repeat first|refine blk_drewN ?_ _|refine blk_drew ?_|refine blk_alloc ?_ _); exact BK136.out) Try.underlying33 rfl (by kernel_rfl)) rfl ?_
     exact ⟨by first | rfl | (simp [errW_none, errW_some] <;> rfl) | (simp [*, errW_none, errW_some] <;> rfl), bw⟩
   ·rw [if_neg c7] at H
    have c7b0 : (a0_0 == 1) = false := beq_eq_false_iff_ne.mpr c7
    have c7b1 : (a0_0 != 1) = true := bne_iff_ne.mpr c7
    by_cases c38 : a0_0 = 2
    ·rw [if_pos c38] at H
     have c38b0 : (a0_0 == 2) = true := beq_iff_eq.mpr c38
     have c38b1 : (a0_0 != 2) = false := bne_eq_false_iff_eq.mpr c38
     clear c38
     replace H := Option.bind_eq_some_iff.mp H
     obtain ⟨⟨t145, t146, t147, t148⟩, A390, H⟩ := H
     replace H : (some (t145, t146, t147, t148)) = some (r1, r2, r3, r4) := H
     have A39 := AX A390
     clear A390
     simp only [Option.some.injEq, Prod.mk.injEq] at H
     obtain ⟨rfl, rfl, rfl, rfl⟩ := H
     go_enter Try.func11, Try.ntmps11
     go_wp2_with (first | ((with_reducible refine gate_dst (N := 2) rfl ?_); refine bx 2 #[.int .i64 a0_0, .int .i64 a0_1, .int .i64 a0_2, .int .i64 a0_3] 25 ?_; intro gb135 hg w40 hbox hb; have BK135 := AX (hbox); have GW135 := gwl (w := w) hg bw; have GE135 := GW135; replace HB := AX (below_step bw hb); clear hb hbox hg) | ((with_reducible refine gate_dst (N := 4) rfl ?_); refine bx 4 #[.int .i64 0, .int .i64 0, .int .i64 0] 33 ?_; intro gb136 hg w41 hbox hb; have BK136 := AX (hbox); have GW136 := gwl (w := w) hg bw; have GE136 := GW136; have NB135_136 := nbl hg (bkn BK135); have NB136_135 := nbg hg (bkn BK135); replace BK135 := AX (bkb BK135 hb); replace HB := AX (below_step bw hb); clear hb hbox hg; have hnb42 := NB135_136.out; have hnc42 := NB136_135.out; obtain ⟨hcz43_0, hcz43_1, hcz43_2, hcz43_3⟩ := blkC4 (w := w41) BK135.out; obtain ⟨hfz43_0, hfz43_1, hfz43_2, hfz43_3⟩ := blkF4 BK135.out) | ((with_reducible refine gate_callee (f := 12) rfl ?_); refine gL (some 13) Try.func12 #[.agg #[.int .i64 a0_0, .int .i64 a0_1, .int .i64 a0_2, .int .i64 a0_3]] ?_; (with_reducible refine (holiday_Check.calls k a0_0 a0_1 a0_2 a0_3 t137 _ A3.out).mono ?_); rintro e w44 ⟨rfl, hb⟩; refine ⟨_, rfl, ?_⟩; replace BK135 := AX (bkb BK135 hb); replace BK136 := AX (bkb BK136 hb); replace HB := AX (below_step bw hb); (try clear hb)) | ((with_reducible refine gate_callee (f := 21) rfl ?_); refine gL (some 18) Try.func21 #[.int .i64 a1] ?_; (with_reducible refine (holiday_Easter.calls a1 t138 t139 t140 t141 _ A5.out).mono ?_); rintro e w45 ⟨rfl, hb⟩; refine ⟨_, rfl, ?_⟩; replace BK135 := AX (bkb BK135 hb); replace BK136 := AX (bkb BK136 hb); replace HB := AX (below_step bw hb); (try clear hb)) | ((with_reducible refine gate_dst (N := 6) rfl ?_); refine bx 6 #[.int .i64 0, .int .i64 0, .int .i64 0] 33 ?_; intro gb142 hg w46 hbox hb; have BK142 := AX (hbox); have GW142 := gwl (w := w) hg bw; have GE142 := GW142; have NB135_142 := nbl hg (bkn BK135); have NB142_135 := nbg hg (bkn BK135); have NB136_142 := nbl hg (bkn BK136); have NB142_136 := nbg hg (bkn BK136); replace BK135 := AX (bkb BK135 hb); replace BK136 := AX (bkb BK136 hb); replace HB := AX (below_step bw hb); clear hb hbox hg; have hnb47 := NB142_135.out; have hnc47 := NB135_142.out; have hnb48 := NB142_136.out; have hnc48 := NB136_142.out; obtain ⟨hcz49_0, hcz49_1, hcz49_2⟩ := blkC3 (w := w46) BK142.out; obtain ⟨hfz49_0, hfz49_1, hfz49_2⟩ := blkF3 BK142.out; obtain ⟨hcz50_0, hcz50_1, hcz50_2, hcz50_3⟩ := blkC4 (w := w46) BK135.out; obtain ⟨hfz50_0, hfz50_1, hfz50_2, hfz50_3⟩ := blkF4 BK135.out) | ((with_reducible refine gate_callee (f := 26) rfl ?_); refine gL (some 56) Try.func26 #[.int .i64 a1, .int .i64 a0_1, .int .i64 a0_2, .int .i64 a0_3] ?_; (with_reducible refine (civil_Nth.calls k a1 a0_1 a0_2 a0_3 t145 t146 t147 t148 _ A39.out).mono ?_); rintro e w51 ⟨rfl, hb⟩; refine ⟨_, rfl, ?_⟩; replace BK135 := AX (blk_below (g := gb135) (o := .cells #[.int .i64 a0_0, .int .i64 a0_1, .int .i64 a0_2, .int .i64 a0_3] 25 (0, 0)) (by (with_reducible repeat first|refine blk_drewN ?_ _|refine blk_drew ?_|refine blk_alloc ?_ _|refine blk_far ?_ NB135_142.out _); exact BK135.out) hb); replace BK136 := AX (blk_below (g := gb136) (o := .cells #[.int .i64 0, .int .i64 0, .int .i64 0] 33 (0, 0)) (by (with_reducible repeat first|refine blk_drewN ?_ _|refine blk_drew ?_|refine blk_alloc ?_ _|refine blk_far ?_ NB136_142.out _); exact BK136.out) hb); replace BK142 := AX (blk_below (g := gb142) (o := .cells #[.int .i64 t138, .int .i64 t139, .int .i64 t140] 33 (0, 0)) (by (with_reducible repeat first|refine blk_drewN ?_ _|refine blk_drew ?_|refine blk_alloc ?_ _); refine blk_put (cs := #[.int .i64 t138, .int .i64 t139, .int .i64 0]) ?_ 2 _ rfl; (with_reducible repeat first|refine blk_drewN ?_ _|refine blk_drew ?_|refine blk_alloc ?_ _); refine blk_put (cs := #[.int .i64 t138, .int .i64 0, .int .i64 0]) ?_ 1 _ rfl; (with_reducible repeat first|refine blk_drewN ?_ _|refine blk_drew ?_|refine blk_alloc ?_ _); refine blk_put (cs := #[.int .i64 0, .int .i64 0, .int .i64 0]) ?_ 0 _ rfl; (with_reducible repeat first|refine blk_drewN ?_ _|refine blk_drew ?_|refine blk_alloc ?_ _); exact BK142.out) hb); replace HB := AX (below_step bw hb); (try clear hb); obtain ⟨hcz52_0, hcz52_1, hcz52_2⟩ := blkC3 (w := w51) BK136.out; obtain ⟨hfz52_0, hfz52_1, hfz52_2⟩ := blkF3 BK136.out))
     refine bodyPost_ret (results_ct rfl _ _ gb136 33 #[.int .i64 t145, .int .i64 t146, .int .i64 t147] (0, 0) _ rfl (by (with_reducible repeat first|refine blk_drewN ?_ _|refine blk_drew ?_|refine blk_alloc ?_ _); refine blk_put (cs := #[.int .i64 t145, .int .i64 t146, .int .i64 0]) ?_ 2 _ rfl; (with_reducible repeat first|refine blk_drewN ?_ _|refine blk_drew ?_|refine blk_alloc ?_ _); refine blk_put (cs := #[.int .i64 t145, .int .i64 0, .int .i64 0]) ?_ 1 _ rfl; (with_reducible repeat first|refine blk_drewN ?_ _|refine blk_drew ?_|refine blk_alloc ?_ _); refine blk_put (cs := #[.int .i64 0, .int .i64 0, .int .i64 0]) ?_ 0 _ rfl; (with_reducible repeat first|refine blk_drewN ?_ _|refine blk_drew ?_|refine blk_alloc ?_ _); exact BK136.out) Try.underlying33 rfl (by kernel_rfl)) rfl ?_
     exact ⟨by first | rfl | (simp [errW_none, errW_some] <;> rfl) | (simp [*, errW_none, errW_some] <;> rfl), bw⟩
    ·rw [if_neg c38] at H
     have c38b0 : (a0_0 == 2) = false := beq_eq_false_iff_ne.mpr c38
     have c38b1 : (a0_0 != 2) = true := bne_iff_ne.mpr c38
     replace H := Option.bind_eq_some_iff.mp H
     obtain ⟨⟨t149, t150, t151, t152⟩, A530, H⟩ := H
     replace H : (if t152 = 0 then (some (t149, t150, t151, 0)) else (some (0, 0, 0, 7))) = some (r1, r2, r3, r4) := H
     have A53 := AX A530
     clear A530
     by_cases c54 : t152 = 0
     ·rw [if_pos c54] at H
      have c54b0 : (t152 == 0) = true := beq_iff_eq.mpr c54
      have c54b1 : (t152 != 0) = false := bne_eq_false_iff_eq.mpr c54
      clear c54
      simp only [Option.some.injEq, Prod.mk.injEq] at H
      obtain ⟨rfl, rfl, rfl, rfl⟩ := H
      go_enter Try.func11, Try.ntmps11
      go_wp2_with (first | ((with_reducible refine gate_dst (N := 2) rfl ?_); refine bx 2 #[.int .i64 a0_0, .int .i64 a0_1, .int .i64 a0_2, .int .i64 a0_3] 25 ?_; intro gb135 hg w55 hbox hb; have BK135 := AX (hbox); have GW135 := gwl (w := w) hg bw; have GE135 := GW135; replace HB := AX (below_step bw hb); clear hb hbox hg) | ((with_reducible refine gate_dst (N := 4) rfl ?_); refine bx 4 #[.int .i64 0, .int .i64 0, .int .i64 0] 33 ?_; intro gb136 hg w56 hbox hb; have BK136 := AX (hbox); have GW136 := gwl (w := w) hg bw; have GE136 := GW136; have NB135_136 := nbl hg (bkn BK135); have NB136_135 := nbg hg (bkn BK135); replace BK135 := AX (bkb BK135 hb); replace HB := AX (below_step bw hb); clear hb hbox hg; have hnb57 := NB135_136.out; have hnc57 := NB136_135.out; obtain ⟨hcz58_0, hcz58_1, hcz58_2, hcz58_3⟩ := blkC4 (w := w56) BK135.out; obtain ⟨hfz58_0, hfz58_1, hfz58_2, hfz58_3⟩ := blkF4 BK135.out) | ((with_reducible refine gate_callee (f := 12) rfl ?_); refine gL (some 13) Try.func12 #[.agg #[.int .i64 a0_0, .int .i64 a0_1, .int .i64 a0_2, .int .i64 a0_3]] ?_; (with_reducible refine (holiday_Check.calls k a0_0 a0_1 a0_2 a0_3 t137 _ A3.out).mono ?_); rintro e w59 ⟨rfl, hb⟩; refine ⟨_, rfl, ?_⟩; replace BK135 := AX (bkb BK135 hb); replace BK136 := AX (bkb BK136 hb); replace HB := AX (below_step bw hb); (try clear hb)) | ((with_reducible refine gate_callee (f := 21) rfl ?_); refine gL (some 18) Try.func21 #[.int .i64 a1] ?_; (with_reducible refine (holiday_Easter.calls a1 t138 t139 t140 t141 _ A5.out).mono ?_); rintro e w60 ⟨rfl, hb⟩; refine ⟨_, rfl, ?_⟩; replace BK135 := AX (bkb BK135 hb); replace BK136 := AX (bkb BK136 hb); replace HB := AX (below_step bw hb); (try clear hb)) | ((with_reducible refine gate_dst (N := 6) rfl ?_); refine bx 6 #[.int .i64 0, .int .i64 0, .int .i64 0] 33 ?_; intro gb142 hg w61 hbox hb; have BK142 := AX (hbox); have GW142 := gwl (w := w) hg bw; have GE142 := GW142; have NB135_142 := nbl hg (bkn BK135); have NB142_135 := nbg hg (bkn BK135); have NB136_142 := nbl hg (bkn BK136); have NB142_136 := nbg hg (bkn BK136); replace BK135 := AX (bkb BK135 hb); replace BK136 := AX (bkb BK136 hb); replace HB := AX (below_step bw hb); clear hb hbox hg; have hnb62 := NB142_135.out; have hnc62 := NB135_142.out; have hnb63 := NB142_136.out; have hnc63 := NB136_142.out; obtain ⟨hcz64_0, hcz64_1, hcz64_2⟩ := blkC3 (w := w61) BK142.out; obtain ⟨hfz64_0, hfz64_1, hfz64_2⟩ := blkF3 BK142.out; obtain ⟨hcz65_0, hcz65_1, hcz65_2, hcz65_3⟩ := blkC4 (w := w61) BK135.out; obtain ⟨hfz65_0, hfz65_1, hfz65_2, hfz65_3⟩ := blkF4 BK135.out) | ((with_reducible refine gate_callee (f := 27) rfl ?_); refine gL (some 63) Try.func27 #[.agg #[.int .i64 t138, .int .i64 t139, .int .i64 t140], .int .i64 a0_1] ?_; (with_reducible refine (civil_Add.calls t138 t139 t140 a0_1 t149 t150 t151 t152 _ A53.out).mono ?_); rintro e w66 ⟨rfl, hb⟩; refine ⟨_, rfl, ?_⟩; replace BK135 := AX (blk_below (g := gb135) (o := .cells #[.int .i64 a0_0, .int .i64 a0_1, .int .i64 a0_2, .int .i64 a0_3] 25 (0, 0)) (by (with_reducible repeat first|refine blk_drewN ?_ _|refine blk_drew ?_|refine blk_alloc ?_ _|refine blk_far ?_ NB135_142.out _); exact BK135.out) hb); replace BK136 := AX (blk_below (g := gb136) (o := .cells #[.int .i64 0, .int .i64 0, .int .i64 0] 33 (0, 0)) (by (with_reducible repeat first|refine blk_drewN ?_ _|refine blk_drew ?_|refine blk_alloc ?_ _|refine blk_far ?_ NB136_142.out _); exact BK136.out) hb); replace BK142 := AX (blk_below (g := gb142) (o := .cells #[.int .i64 t138, .int .i64 t139, .int .i64 t140] 33 (0, 0)) (by (with_reducible repeat first|refine blk_drewN ?_ _|refine blk_drew ?_|refine blk_alloc ?_ _); refine blk_put (cs := #[.int .i64 t138, .int .i64 t139, .int .i64 0]) ?_ 2 _ rfl; (with_reducible repeat first|refine blk_drewN ?_ _|refine blk_drew ?_|refine blk_alloc ?_ _); refine blk_put (cs := #[.int .i64 t138, .int .i64 0, .int .i64 0]) ?_ 1 _ rfl; (with_reducible repeat first|refine blk_drewN ?_ _|refine blk_drew ?_|refine blk_alloc ?_ _); refine blk_put (cs := #[.int .i64 0, .int .i64 0, .int .i64 0]) ?_ 0 _ rfl; (with_reducible repeat first|refine blk_drewN ?_ _|refine blk_drew ?_|refine blk_alloc ?_ _); exact BK142.out) hb); replace HB := AX (below_step bw hb); (try clear hb)) | ((with_reducible refine gate_dst (N := 10) rfl ?_); refine bx 10 #[.int .i64 0, .int .i64 0, .int .i64 0] 33 ?_; intro gb153 hg w67 hbox hb; have BK153 := AX (hbox); have GW153 := gwl (w := w) hg bw; have GE153 := GW153; have NB135_153 := nbl hg (bkn BK135); have NB153_135 := nbg hg (bkn BK135); have NB136_153 := nbl hg (bkn BK136); have NB153_136 := nbg hg (bkn BK136); have NB142_153 := nbl hg (bkn BK142); have NB153_142 := nbg hg (bkn BK142); replace BK135 := AX (bkb BK135 hb); replace BK136 := AX (bkb BK136 hb); replace BK142 := AX (bkb BK142 hb); replace HB := AX (below_step bw hb); clear hb hbox hg; have hnb68 := NB153_135.out; have hnc68 := NB135_153.out; have hnb69 := NB153_136.out; have hnc69 := NB136_153.out; have hnb70 := NB153_142.out; have hnc70 := NB142_153.out; obtain ⟨hcz71_0, hcz71_1, hcz71_2⟩ := blkC3 (w := w67) BK153.out; obtain ⟨hfz71_0, hfz71_1, hfz71_2⟩ := blkF3 BK153.out; obtain ⟨hcz72_0, hcz72_1, hcz72_2⟩ := blkC3 (w := w67) BK136.out; obtain ⟨hfz72_0, hfz72_1, hfz72_2⟩ := blkF3 BK136.out))
      refine bodyPost_ret (results_ct rfl _ _ gb136 33 #[.int .i64 t149, .int .i64 t150, .int .i64 t151] (0, 0) _ rfl (by (with_reducible repeat first|refine blk_drewN ?_ _|refine blk_drew ?_|refine blk_alloc ?_ _); refine blk_put (cs := #[.int .i64 t149, .int .i64 t150, .int .i64 0]) ?_ 2 _ rfl; (with_reducible repeat first|refine blk_drewN ?_ _|refine blk_drew ?_|refine blk_alloc ?_ _); refine blk_put (cs := #[.int .i64 t149, .int .i64 0, .int .i64 0]) ?_ 1 _ rfl; (with_reducible repeat first|refine blk_drewN ?_ _|refine blk_drew ?_|refine blk_alloc ?_ _); refine blk_put (cs := #[.int .i64 0, .int .i64 0, .int .i64 0]) ?_ 0 _ rfl; (with_reducible repeat first|refine blk_drewN ?_ _|refine blk_drew ?_|refine blk_alloc ?_ _); refine blk_far ?_ NB136_153.out _; (with_reducible repeat first|refine blk_drewN ?_ _|refine blk_drew ?_|refine blk_alloc ?_ _); refine blk_far ?_ NB136_153.out _; (with_reducible repeat first|refine blk_drewN ?_ _|refine blk_drew ?_|refine blk_alloc ?_ _); refine blk_far ?_ NB136_153.out _; (with_reducible repeat first|refine blk_drewN ?_ _|refine blk_drew ?_|refine blk_alloc ?_ _); exact BK136.out) Try.underlying33 rfl (by kernel_rfl)) rfl ?_
      exact ⟨by first | rfl | (simp [errW_none, errW_some] <;> rfl) | (simp [*, errW_none, errW_some] <;> rfl), bw⟩
     ·rw [if_neg c54] at H
      have c54b0 : (t152 == 0) = false := beq_eq_false_iff_ne.mpr c54
      have c54b1 : (t152 != 0) = true := bne_iff_ne.mpr c54
      simp only [Option.some.injEq, Prod.mk.injEq] at H
      obtain ⟨rfl, rfl, rfl, rfl⟩ := H
      go_enter Try.func11, Try.ntmps11
      go_wp2_with (first | ((with_reducible refine gate_dst (N := 2) rfl ?_); refine bx 2 #[.int .i64 a0_0, .int .i64 a0_1, .int .i64 a0_2, .int .i64 a0_3] 25 ?_; intro gb135 hg w73 hbox hb; have BK135 := AX (hbox); have GW135 := gwl (w := w) hg bw; have GE135 := GW135; replace HB := AX (below_step bw hb); clear hb hbox hg) | ((with_reducible refine gate_dst (N := 4) rfl ?_); refine bx 4 #[.int .i64 0, .int .i64 0, .int .i64 0] 33 ?_; intro gb136 hg w74 hbox hb; have BK136 := AX (hbox); have GW136 := gwl (w := w) hg bw; have GE136 := GW136; have NB135_136 := nbl hg (bkn BK135); have NB136_135 := nbg hg (bkn BK135); replace BK135 := AX (bkb BK135 hb); replace HB := AX (below_step bw hb); clear hb hbox hg; have hnb75 := NB135_136.out; have hnc75 := NB136_135.out; obtain ⟨hcz76_0, hcz76_1, hcz76_2, hcz76_3⟩ := blkC4 (w := w74) BK135.out; obtain ⟨hfz76_0, hfz76_1, hfz76_2, hfz76_3⟩ := blkF4 BK135.out) | ((with_reducible refine gate_callee (f := 12) rfl ?_); refine gL (some 13) Try.func12 #[.agg #[.int .i64 a0_0, .int .i64 a0_1, .int .i64 a0_2, .int .i64 a0_3]] ?_; (with_reducible refine (holiday_Check.calls k a0_0 a0_1 a0_2 a0_3 t137 _ A3.out).mono ?_); rintro e w77 ⟨rfl, hb⟩; refine ⟨_, rfl, ?_⟩; replace BK135 := AX (bkb BK135 hb); replace BK136 := AX (bkb BK136 hb); replace HB := AX (below_step bw hb); (try clear hb)) | ((with_reducible refine gate_callee (f := 21) rfl ?_); refine gL (some 18) Try.func21 #[.int .i64 a1] ?_; (with_reducible refine (holiday_Easter.calls a1 t138 t139 t140 t141 _ A5.out).mono ?_); rintro e w78 ⟨rfl, hb⟩; refine ⟨_, rfl, ?_⟩; replace BK135 := AX (bkb BK135 hb); replace BK136 := AX (bkb BK136 hb); replace HB := AX (below_step bw hb); (try clear hb)) | ((with_reducible refine gate_dst (N := 6) rfl ?_); refine bx 6 #[.int .i64 0, .int .i64 0, .int .i64 0] 33 ?_; intro gb142 hg w79 hbox hb; have BK142 := AX (hbox); have GW142 := gwl (w := w) hg bw; have GE142 := GW142; have NB135_142 := nbl hg (bkn BK135); have NB142_135 := nbg hg (bkn BK135); have NB136_142 := nbl hg (bkn BK136); have NB142_136 := nbg hg (bkn BK136); replace BK135 := AX (bkb BK135 hb); replace BK136 := AX (bkb BK136 hb); replace HB := AX (below_step bw hb); clear hb hbox hg; have hnb80 := NB142_135.out; have hnc80 := NB135_142.out; have hnb81 := NB142_136.out; have hnc81 := NB136_142.out; obtain ⟨hcz82_0, hcz82_1, hcz82_2⟩ := blkC3 (w := w79) BK142.out; obtain ⟨hfz82_0, hfz82_1, hfz82_2⟩ := blkF3 BK142.out; obtain ⟨hcz83_0, hcz83_1, hcz83_2, hcz83_3⟩ := blkC4 (w := w79) BK135.out; obtain ⟨hfz83_0, hfz83_1, hfz83_2, hfz83_3⟩ := blkF4 BK135.out) | ((with_reducible refine gate_callee (f := 27) rfl ?_); refine gL (some 63) Try.func27 #[.agg #[.int .i64 t138, .int .i64 t139, .int .i64 t140], .int .i64 a0_1] ?_; (with_reducible refine (civil_Add.calls t138 t139 t140 a0_1 t149 t150 t151 t152 _ A53.out).mono ?_); rintro e w84 ⟨rfl, hb⟩; refine ⟨_, rfl, ?_⟩; replace BK135 := AX (blk_below (g := gb135) (o := .cells #[.int .i64 a0_0, .int .i64 a0_1, .int .i64 a0_2, .int .i64 a0_3] 25 (0, 0)) (by (with_reducible repeat first|refine blk_drewN ?_ _|refine blk_drew ?_|refine blk_alloc ?_ _|refine blk_far ?_ NB135_142.out _); exact BK135.out) hb); replace BK136 := AX (blk_below (g := gb136) (o := .cells #[.int .i64 0, .int .i64 0, .int .i64 0] 33 (0, 0)) (by (with_reducible repeat first|refine blk_drewN ?_ _|refine blk_drew ?_|refine blk_alloc ?_ _|refine blk_far ?_ NB136_142.out _); exact BK136.out) hb); replace BK142 := AX (blk_below (g := gb142) (o := .cells #[.int .i64 t138, .int .i64 t139, .int .i64 t140] 33 (0, 0)) (by (with_reducible repeat first|refine blk_drewN ?_ _|refine blk_drew ?_|refine blk_alloc ?_ _); refine blk_put (cs := #[.int .i64 t138, .int .i64 t139, .int .i64 0]) ?_ 2 _ rfl; (with_reducible repeat first|refine blk_drewN ?_ _|refine blk_drew ?_|refine blk_alloc ?_ _); refine blk_put (cs := #[.int .i64 t138, .int .i64 0, .int .i64 0]) ?_ 1 _ rfl; (with_reducible repeat first|refine blk_drewN ?_ _|refine blk_drew ?_|refine blk_alloc ?_ _); refine blk_put (cs := #[.int .i64 0, .int .i64 0, .int .i64 0]) ?_ 0 _ rfl; (with_reducible repeat first|refine blk_drewN ?_ _|refine blk_drew ?_|refine blk_alloc ?_ _); exact BK142.out) hb); replace HB := AX (below_step bw hb); (try clear hb)) | ((with_reducible refine gate_dst (N := 10) rfl ?_); refine bx 10 #[.int .i64 0, .int .i64 0, .int .i64 0] 33 ?_; intro gb153 hg w85 hbox hb; have BK153 := AX (hbox); have GW153 := gwl (w := w) hg bw; have GE153 := GW153; have NB135_153 := nbl hg (bkn BK135); have NB153_135 := nbg hg (bkn BK135); have NB136_153 := nbl hg (bkn BK136); have NB153_136 := nbg hg (bkn BK136); have NB142_153 := nbl hg (bkn BK142); have NB153_142 := nbg hg (bkn BK142); replace BK135 := AX (bkb BK135 hb); replace BK136 := AX (bkb BK136 hb); replace BK142 := AX (bkb BK142 hb); replace HB := AX (below_step bw hb); clear hb hbox hg; have hnb86 := NB153_135.out; have hnc86 := NB135_153.out; have hnb87 := NB153_136.out; have hnc87 := NB136_153.out; have hnb88 := NB153_142.out; have hnc88 := NB142_153.out; obtain ⟨hcz89_0, hcz89_1, hcz89_2⟩ := blkC3 (w := w85) BK153.out; obtain ⟨hfz89_0, hfz89_1, hfz89_2⟩ := blkF3 BK153.out; obtain ⟨hcz90_0, hcz90_1, hcz90_2⟩ := blkC3 (w := w85) BK136.out; obtain ⟨hfz90_0, hfz90_1, hfz90_2⟩ := blkF3 BK136.out))
      refine bodyPost_ret (results_ct rfl _ _ gb136 33 #[.int .i64 0, .int .i64 0, .int .i64 0] (0, 0) _ rfl (by (with_reducible repeat first|refine blk_drewN ?_ _|refine blk_drew ?_|refine blk_alloc ?_ _); refine blk_put (cs := #[.int .i64 0, .int .i64 0, .int .i64 0]) ?_ 2 _ rfl; (with_reducible repeat first|refine blk_drewN ?_ _|refine blk_drew ?_|refine blk_alloc ?_ _); refine blk_put (cs := #[.int .i64 0, .int .i64 0, .int .i64 0]) ?_ 1 _ rfl; (with_reducible repeat first|refine blk_drewN ?_ _|refine blk_drew ?_|refine blk_alloc ?_ _); refine blk_put (cs := #[.int .i64 0, .int .i64 0, .int .i64 0]) ?_ 0 _ rfl; (with_reducible repeat first|refine blk_drewN ?_ _|refine blk_drew ?_|refine blk_alloc ?_ _); refine blk_far ?_ NB136_153.out _; (with_reducible repeat first|refine blk_drewN ?_ _|refine blk_drew ?_|refine blk_alloc ?_ _); refine blk_far ?_ NB136_153.out _; (with_reducible repeat first|refine blk_drewN ?_ _|refine blk_drew ?_|refine blk_alloc ?_ _); refine blk_far ?_ NB136_153.out _; (with_reducible repeat first|refine blk_drewN ?_ _|refine blk_drew ?_|refine blk_alloc ?_ _); exact BK136.out) Try.underlying33 rfl (by kernel_rfl)) rfl ?_
      exact ⟨by first | rfl | (simp [errW_none, errW_some] <;> rfl) | (simp [*, errW_none, errW_some] <;> rfl), bw⟩
  ·rw [if_neg c6] at H
   have c6b0 : (t141 == 0) = false := beq_eq_false_iff_ne.mpr c6
   have c6b1 : (t141 != 0) = true := bne_iff_ne.mpr c6
   simp only [Option.some.injEq, Prod.mk.injEq] at H
   obtain ⟨rfl, rfl, rfl, rfl⟩ := H
   go_enter Try.func11, Try.ntmps11
   go_wp2_with (first | ((with_reducible refine gate_dst (N := 2) rfl ?_); refine bx 2 #[.int .i64 a0_0, .int .i64 a0_1, .int .i64 a0_2, .int .i64 a0_3] 25 ?_; intro gb135 hg w91 hbox hb; have BK135 := AX (hbox); have GW135 := gwl (w := w) hg bw; have GE135 := GW135; replace HB := AX (below_step bw hb); clear hb hbox hg) | ((with_reducible refine gate_dst (N := 4) rfl ?_); refine bx 4 #[.int .i64 0, .int .i64 0, .int .i64 0] 33 ?_; intro gb136 hg w92 hbox hb; have BK136 := AX (hbox); have GW136 := gwl (w := w) hg bw; have GE136 := GW136; have NB135_136 := nbl hg (bkn BK135); have NB136_135 := nbg hg (bkn BK135); replace BK135 := AX (bkb BK135 hb); replace HB := AX (below_step bw hb); clear hb hbox hg; have hnb93 := NB135_136.out; have hnc93 := NB136_135.out; obtain ⟨hcz94_0, hcz94_1, hcz94_2, hcz94_3⟩ := blkC4 (w := w92) BK135.out; obtain ⟨hfz94_0, hfz94_1, hfz94_2, hfz94_3⟩ := blkF4 BK135.out) | ((with_reducible refine gate_callee (f := 12) rfl ?_); refine gL (some 13) Try.func12 #[.agg #[.int .i64 a0_0, .int .i64 a0_1, .int .i64 a0_2, .int .i64 a0_3]] ?_; (with_reducible refine (holiday_Check.calls k a0_0 a0_1 a0_2 a0_3 t137 _ A3.out).mono ?_); rintro e w95 ⟨rfl, hb⟩; refine ⟨_, rfl, ?_⟩; replace BK135 := AX (bkb BK135 hb); replace BK136 := AX (bkb BK136 hb); replace HB := AX (below_step bw hb); (try clear hb)) | ((with_reducible refine gate_callee (f := 21) rfl ?_); refine gL (some 18) Try.func21 #[.int .i64 a1] ?_; (with_reducible refine (holiday_Easter.calls a1 t138 t139 t140 t141 _ A5.out).mono ?_); rintro e w96 ⟨rfl, hb⟩; refine ⟨_, rfl, ?_⟩; replace BK135 := AX (bkb BK135 hb); replace BK136 := AX (bkb BK136 hb); replace HB := AX (below_step bw hb); (try clear hb)) | ((with_reducible refine gate_dst (N := 6) rfl ?_); refine bx 6 #[.int .i64 0, .int .i64 0, .int .i64 0] 33 ?_; intro gb142 hg w97 hbox hb; have BK142 := AX (hbox); have GW142 := gwl (w := w) hg bw; have GE142 := GW142; have NB135_142 := nbl hg (bkn BK135); have NB142_135 := nbg hg (bkn BK135); have NB136_142 := nbl hg (bkn BK136); have NB142_136 := nbg hg (bkn BK136); replace BK135 := AX (bkb BK135 hb); replace BK136 := AX (bkb BK136 hb); replace HB := AX (below_step bw hb); clear hb hbox hg; have hnb98 := NB142_135.out; have hnc98 := NB135_142.out; have hnb99 := NB142_136.out; have hnc99 := NB136_142.out; obtain ⟨hcz100_0, hcz100_1, hcz100_2⟩ := blkC3 (w := w97) BK142.out; obtain ⟨hfz100_0, hfz100_1, hfz100_2⟩ := blkF3 BK142.out; obtain ⟨hcz101_0, hcz101_1, hcz101_2⟩ := blkC3 (w := w97) BK136.out; obtain ⟨hfz101_0, hfz101_1, hfz101_2⟩ := blkF3 BK136.out))
   refine bodyPost_ret (results_ct rfl _ _ gb136 33 #[.int .i64 0, .int .i64 0, .int .i64 0] (0, 0) _ rfl (by (with_reducible repeat first|refine blk_drewN ?_ _|refine blk_drew ?_|refine blk_alloc ?_ _); refine blk_put (cs := #[.int .i64 0, .int .i64 0, .int .i64 0]) ?_ 2 _ rfl; (with_reducible repeat first|refine blk_drewN ?_ _|refine blk_drew ?_|refine blk_alloc ?_ _); refine blk_put (cs := #[.int .i64 0, .int .i64 0, .int .i64 0]) ?_ 1 _ rfl; (with_reducible repeat first|refine blk_drewN ?_ _|refine blk_drew ?_|refine blk_alloc ?_ _); refine blk_put (cs := #[.int .i64 0, .int .i64 0, .int .i64 0]) ?_ 0 _ rfl; (with_reducible repeat first|refine blk_drewN ?_ _|refine blk_drew ?_|refine blk_alloc ?_ _); refine blk_far ?_ NB136_142.out _; (with_reducible repeat first|refine blk_drewN ?_ _|refine blk_drew ?_|refine blk_alloc ?_ _); refine blk_far ?_ NB136_142.out _; (with_reducible repeat first|refine blk_drewN ?_ _|refine blk_drew ?_|refine blk_alloc ?_ _); refine blk_far ?_ NB136_142.out _; (with_reducible repeat first|refine blk_drewN ?_ _|refine blk_drew ?_|refine blk_alloc ?_ _); exact BK136.out) Try.underlying33 rfl (by kernel_rfl)) rfl ?_
   exact ⟨by first | rfl | (simp [errW_none, errW_some] <;> rfl) | (simp [*, errW_none, errW_some] <;> rfl), bw⟩
 ·rw [if_neg c4] at H
  have c4b0 : (t137 == 0) = false := beq_eq_false_iff_ne.mpr c4
  have c4b1 : (t137 != 0) = true := bne_iff_ne.mpr c4
  simp only [Option.some.injEq, Prod.mk.injEq] at H
  obtain ⟨rfl, rfl, rfl, rfl⟩ := H
  go_enter Try.func11, Try.ntmps11
  go_wp2_with (first | ((with_reducible refine gate_dst (N := 2) rfl ?_); refine bx 2 #[.int .i64 a0_0, .int .i64 a0_1, .int .i64 a0_2, .int .i64 a0_3] 25 ?_; intro gb135 hg w102 hbox hb; have BK135 := AX (hbox); have GW135 := gwl (w := w) hg bw; have GE135 := GW135; replace HB := AX (below_step bw hb); clear hb hbox hg) | ((with_reducible refine gate_dst (N := 4) rfl ?_); refine bx 4 #[.int .i64 0, .int .i64 0, .int .i64 0] 33 ?_; intro gb136 hg w103 hbox hb; have BK136 := AX (hbox); have GW136 := gwl (w := w) hg bw; have GE136 := GW136; have NB135_136 := nbl hg (bkn BK135); have NB136_135 := nbg hg (bkn BK135); replace BK135 := AX (bkb BK135 hb); replace HB := AX (below_step bw hb); clear hb hbox hg; have hnb104 := NB135_136.out; have hnc104 := NB136_135.out; obtain ⟨hcz105_0, hcz105_1, hcz105_2, hcz105_3⟩ := blkC4 (w := w103) BK135.out; obtain ⟨hfz105_0, hfz105_1, hfz105_2, hfz105_3⟩ := blkF4 BK135.out) | ((with_reducible refine gate_callee (f := 12) rfl ?_); refine gL (some 13) Try.func12 #[.agg #[.int .i64 a0_0, .int .i64 a0_1, .int .i64 a0_2, .int .i64 a0_3]] ?_; (with_reducible refine (holiday_Check.calls k a0_0 a0_1 a0_2 a0_3 t137 _ A3.out).mono ?_); rintro e w106 ⟨rfl, hb⟩; refine ⟨_, rfl, ?_⟩; replace BK135 := AX (bkb BK135 hb); replace BK136 := AX (bkb BK136 hb); replace HB := AX (below_step bw hb); (try clear hb); obtain ⟨hcz107_0, hcz107_1, hcz107_2⟩ := blkC3 (w := w106) BK136.out; obtain ⟨hfz107_0, hfz107_1, hfz107_2⟩ := blkF3 BK136.out))
  refine bodyPost_ret (results_ct rfl _ _ gb136 33 #[.int .i64 0, .int .i64 0, .int .i64 0] (0, 0) _ rfl (by (with_reducible repeat first|refine blk_drewN ?_ _|refine blk_drew ?_|refine blk_alloc ?_ _); refine blk_put (cs := #[.int .i64 0, .int .i64 0, .int .i64 0]) ?_ 2 _ rfl; (with_reducible repeat first|refine blk_drewN ?_ _|refine blk_drew ?_|refine blk_alloc ?_ _); refine blk_put (cs := #[.int .i64 0, .int .i64 0, .int .i64 0]) ?_ 1 _ rfl; (with_reducible repeat first|refine blk_drewN ?_ _|refine blk_drew ?_|refine blk_alloc ?_ _); refine blk_put (cs := #[.int .i64 0, .int .i64 0, .int .i64 0]) ?_ 0 _ rfl; (with_reducible repeat first|refine blk_drewN ?_ _|refine blk_drew ?_|refine blk_alloc ?_ _); exact BK136.out) Try.underlying33 rfl (by kernel_rfl)) rfl ?_
  exact ⟨by first | rfl | (simp [errW_none, errW_some] <;> rfl) | (simp [*, errW_none, errW_some] <;> rfl), bw⟩

/-! ### civil_Compare: function 24 -/
def civil_Compare.f (a0_0 : Int) (a0_1 : Int) (a0_2 : Int) (a1_0 : Int) (a1_1 : Int) (a1_2 : Int) : Option (Int) := some (Civ.cmp a0_0 a0_1 a0_2 a1_0 a1_1 a1_2)
set_option maxRecDepth 100000 in
theorem civil_Compare.lt0 (a0_0 a0_1 a0_2 a1_0 a1_1 a1_2 : Int) (w : World) (p0 : a0_0 < a1_0) :
    Calls Try.prog 24 #[.agg #[.int .i64 a0_0, .int .i64 a0_1, .int .i64 a0_2], .agg #[.int .i64 a1_0, .int .i64 a1_1, .int .i64 a1_2]] w fun e w' => e = .returned (.int .i64 (-1)) ∧ Below w.heap.size w w' := by
  have i0 : ∀ w, (Instr.index 77 (.agg #[.int .i64 a0_0, .int .i64 a1_0, .int .i64 a0_1, .int .i64 a1_1, .int .i64 a0_2, .int .i64 a1_2]) (.int .i64 0)).run Try.prog w = .ok (.agg #[.int .i64 a0_0, .int .i64 a1_0]) w := fun _ => by kernel_rfl
  have i1 : ∀ w, (Instr.index 77 (.agg #[.int .i64 a0_0, .int .i64 a1_0, .int .i64 a0_1, .int .i64 a1_1, .int .i64 a0_2, .int .i64 a1_2]) (.int .i64 1)).run Try.prog w = .ok (.agg #[.int .i64 a0_1, .int .i64 a1_1]) w := fun _ => by kernel_rfl
  have i2 : ∀ w, (Instr.index 77 (.agg #[.int .i64 a0_0, .int .i64 a1_0, .int .i64 a0_1, .int .i64 a1_1, .int .i64 a0_2, .int .i64 a1_2]) (.int .i64 2)).run Try.prog w = .ok (.agg #[.int .i64 a0_2, .int .i64 a1_2]) w := fun _ => by kernel_rfl
  go_enter Try.func24, Try.ntmps24
  go_wp2
  refine wp_loop_rounds 4 ?_
  rw [rounds_succ]
  go_wp2
  go_ret
  exact ⟨rfl, by repeat (first | exact Below.refl _ _ | apply below_alloc | apply pw_below_drewN | apply below_drew)⟩
set_option maxRecDepth 100000 in
theorem civil_Compare.gt0 (a0_0 a0_1 a0_2 a1_0 a1_1 a1_2 : Int) (w : World) (p0 : ¬ a0_0 < a1_0) (q0 : a1_0 < a0_0) :
    Calls Try.prog 24 #[.agg #[.int .i64 a0_0, .int .i64 a0_1, .int .i64 a0_2], .agg #[.int .i64 a1_0, .int .i64 a1_1, .int .i64 a1_2]] w fun e w' => e = .returned (.int .i64 (1)) ∧ Below w.heap.size w w' := by
  have i0 : ∀ w, (Instr.index 77 (.agg #[.int .i64 a0_0, .int .i64 a1_0, .int .i64 a0_1, .int .i64 a1_1, .int .i64 a0_2, .int .i64 a1_2]) (.int .i64 0)).run Try.prog w = .ok (.agg #[.int .i64 a0_0, .int .i64 a1_0]) w := fun _ => by kernel_rfl
  have i1 : ∀ w, (Instr.index 77 (.agg #[.int .i64 a0_0, .int .i64 a1_0, .int .i64 a0_1, .int .i64 a1_1, .int .i64 a0_2, .int .i64 a1_2]) (.int .i64 1)).run Try.prog w = .ok (.agg #[.int .i64 a0_1, .int .i64 a1_1]) w := fun _ => by kernel_rfl
  have i2 : ∀ w, (Instr.index 77 (.agg #[.int .i64 a0_0, .int .i64 a1_0, .int .i64 a0_1, .int .i64 a1_1, .int .i64 a0_2, .int .i64 a1_2]) (.int .i64 2)).run Try.prog w = .ok (.agg #[.int .i64 a0_2, .int .i64 a1_2]) w := fun _ => by kernel_rfl
  go_enter Try.func24, Try.ntmps24
  go_wp2
  refine wp_loop_rounds 4 ?_
  rw [rounds_succ]
  go_wp2
  go_ret
  exact ⟨rfl, by repeat (first | exact Below.refl _ _ | apply below_alloc | apply pw_below_drewN | apply below_drew)⟩
set_option maxRecDepth 100000 in
theorem civil_Compare.lt1 (a0_0 a0_1 a0_2 a1_0 a1_1 a1_2 : Int) (w : World) (p0 : ¬ a0_0 < a1_0) (q0 : ¬ a1_0 < a0_0) (p1 : a0_1 < a1_1) :
    Calls Try.prog 24 #[.agg #[.int .i64 a0_0, .int .i64 a0_1, .int .i64 a0_2], .agg #[.int .i64 a1_0, .int .i64 a1_1, .int .i64 a1_2]] w fun e w' => e = .returned (.int .i64 (-1)) ∧ Below w.heap.size w w' := by
  have i0 : ∀ w, (Instr.index 77 (.agg #[.int .i64 a0_0, .int .i64 a1_0, .int .i64 a0_1, .int .i64 a1_1, .int .i64 a0_2, .int .i64 a1_2]) (.int .i64 0)).run Try.prog w = .ok (.agg #[.int .i64 a0_0, .int .i64 a1_0]) w := fun _ => by kernel_rfl
  have i1 : ∀ w, (Instr.index 77 (.agg #[.int .i64 a0_0, .int .i64 a1_0, .int .i64 a0_1, .int .i64 a1_1, .int .i64 a0_2, .int .i64 a1_2]) (.int .i64 1)).run Try.prog w = .ok (.agg #[.int .i64 a0_1, .int .i64 a1_1]) w := fun _ => by kernel_rfl
  have i2 : ∀ w, (Instr.index 77 (.agg #[.int .i64 a0_0, .int .i64 a1_0, .int .i64 a0_1, .int .i64 a1_1, .int .i64 a0_2, .int .i64 a1_2]) (.int .i64 2)).run Try.prog w = .ok (.agg #[.int .i64 a0_2, .int .i64 a1_2]) w := fun _ => by kernel_rfl
  go_enter Try.func24, Try.ntmps24
  go_wp2
  refine wp_loop_rounds 4 ?_
  rw [rounds_succ]
  go_wp2
  rw [rounds_succ]
  go_wp2
  go_ret
  exact ⟨rfl, by repeat (first | exact Below.refl _ _ | apply below_alloc | apply pw_below_drewN | apply below_drew)⟩
set_option maxRecDepth 100000 in
theorem civil_Compare.gt1 (a0_0 a0_1 a0_2 a1_0 a1_1 a1_2 : Int) (w : World) (p0 : ¬ a0_0 < a1_0) (q0 : ¬ a1_0 < a0_0) (p1 : ¬ a0_1 < a1_1) (q1 : a1_1 < a0_1) :
    Calls Try.prog 24 #[.agg #[.int .i64 a0_0, .int .i64 a0_1, .int .i64 a0_2], .agg #[.int .i64 a1_0, .int .i64 a1_1, .int .i64 a1_2]] w fun e w' => e = .returned (.int .i64 (1)) ∧ Below w.heap.size w w' := by
  have i0 : ∀ w, (Instr.index 77 (.agg #[.int .i64 a0_0, .int .i64 a1_0, .int .i64 a0_1, .int .i64 a1_1, .int .i64 a0_2, .int .i64 a1_2]) (.int .i64 0)).run Try.prog w = .ok (.agg #[.int .i64 a0_0, .int .i64 a1_0]) w := fun _ => by kernel_rfl
  have i1 : ∀ w, (Instr.index 77 (.agg #[.int .i64 a0_0, .int .i64 a1_0, .int .i64 a0_1, .int .i64 a1_1, .int .i64 a0_2, .int .i64 a1_2]) (.int .i64 1)).run Try.prog w = .ok (.agg #[.int .i64 a0_1, .int .i64 a1_1]) w := fun _ => by kernel_rfl
  have i2 : ∀ w, (Instr.index 77 (.agg #[.int .i64 a0_0, .int .i64 a1_0, .int .i64 a0_1, .int .i64 a1_1, .int .i64 a0_2, .int .i64 a1_2]) (.int .i64 2)).run Try.prog w = .ok (.agg #[.int .i64 a0_2, .int .i64 a1_2]) w := fun _ => by kernel_rfl
  go_enter Try.func24, Try.ntmps24
  go_wp2
  refine wp_loop_rounds 4 ?_
  rw [rounds_succ]
  go_wp2
  rw [rounds_succ]
  go_wp2
  go_ret
  exact ⟨rfl, by repeat (first | exact Below.refl _ _ | apply below_alloc | apply pw_below_drewN | apply below_drew)⟩
set_option maxRecDepth 100000 in
theorem civil_Compare.lt2 (a0_0 a0_1 a0_2 a1_0 a1_1 a1_2 : Int) (w : World) (p0 : ¬ a0_0 < a1_0) (q0 : ¬ a1_0 < a0_0) (p1 : ¬ a0_1 < a1_1) (q1 : ¬ a1_1 < a0_1) (p2 : a0_2 < a1_2) :
    Calls Try.prog 24 #[.agg #[.int .i64 a0_0, .int .i64 a0_1, .int .i64 a0_2], .agg #[.int .i64 a1_0, .int .i64 a1_1, .int .i64 a1_2]] w fun e w' => e = .returned (.int .i64 (-1)) ∧ Below w.heap.size w w' := by
  have i0 : ∀ w, (Instr.index 77 (.agg #[.int .i64 a0_0, .int .i64 a1_0, .int .i64 a0_1, .int .i64 a1_1, .int .i64 a0_2, .int .i64 a1_2]) (.int .i64 0)).run Try.prog w = .ok (.agg #[.int .i64 a0_0, .int .i64 a1_0]) w := fun _ => by kernel_rfl
  have i1 : ∀ w, (Instr.index 77 (.agg #[.int .i64 a0_0, .int .i64 a1_0, .int .i64 a0_1, .int .i64 a1_1, .int .i64 a0_2, .int .i64 a1_2]) (.int .i64 1)).run Try.prog w = .ok (.agg #[.int .i64 a0_1, .int .i64 a1_1]) w := fun _ => by kernel_rfl
  have i2 : ∀ w, (Instr.index 77 (.agg #[.int .i64 a0_0, .int .i64 a1_0, .int .i64 a0_1, .int .i64 a1_1, .int .i64 a0_2, .int .i64 a1_2]) (.int .i64 2)).run Try.prog w = .ok (.agg #[.int .i64 a0_2, .int .i64 a1_2]) w := fun _ => by kernel_rfl
  go_enter Try.func24, Try.ntmps24
  go_wp2
  refine wp_loop_rounds 4 ?_
  rw [rounds_succ]
  go_wp2
  rw [rounds_succ]
  go_wp2
  rw [rounds_succ]
  go_wp2
  go_ret
  exact ⟨rfl, by repeat (first | exact Below.refl _ _ | apply below_alloc | apply pw_below_drewN | apply below_drew)⟩
set_option maxRecDepth 100000 in
theorem civil_Compare.gt2 (a0_0 a0_1 a0_2 a1_0 a1_1 a1_2 : Int) (w : World) (p0 : ¬ a0_0 < a1_0) (q0 : ¬ a1_0 < a0_0) (p1 : ¬ a0_1 < a1_1) (q1 : ¬ a1_1 < a0_1) (p2 : ¬ a0_2 < a1_2) (q2 : a1_2 < a0_2) :
    Calls Try.prog 24 #[.agg #[.int .i64 a0_0, .int .i64 a0_1, .int .i64 a0_2], .agg #[.int .i64 a1_0, .int .i64 a1_1, .int .i64 a1_2]] w fun e w' => e = .returned (.int .i64 (1)) ∧ Below w.heap.size w w' := by
  have i0 : ∀ w, (Instr.index 77 (.agg #[.int .i64 a0_0, .int .i64 a1_0, .int .i64 a0_1, .int .i64 a1_1, .int .i64 a0_2, .int .i64 a1_2]) (.int .i64 0)).run Try.prog w = .ok (.agg #[.int .i64 a0_0, .int .i64 a1_0]) w := fun _ => by kernel_rfl
  have i1 : ∀ w, (Instr.index 77 (.agg #[.int .i64 a0_0, .int .i64 a1_0, .int .i64 a0_1, .int .i64 a1_1, .int .i64 a0_2, .int .i64 a1_2]) (.int .i64 1)).run Try.prog w = .ok (.agg #[.int .i64 a0_1, .int .i64 a1_1]) w := fun _ => by kernel_rfl
  have i2 : ∀ w, (Instr.index 77 (.agg #[.int .i64 a0_0, .int .i64 a1_0, .int .i64 a0_1, .int .i64 a1_1, .int .i64 a0_2, .int .i64 a1_2]) (.int .i64 2)).run Try.prog w = .ok (.agg #[.int .i64 a0_2, .int .i64 a1_2]) w := fun _ => by kernel_rfl
  go_enter Try.func24, Try.ntmps24
  go_wp2
  refine wp_loop_rounds 4 ?_
  rw [rounds_succ]
  go_wp2
  rw [rounds_succ]
  go_wp2
  rw [rounds_succ]
  go_wp2
  go_ret
  exact ⟨rfl, by repeat (first | exact Below.refl _ _ | apply below_alloc | apply pw_below_drewN | apply below_drew)⟩
set_option maxRecDepth 100000 in
theorem civil_Compare.eq3 (a0_0 a0_1 a0_2 a1_0 a1_1 a1_2 : Int) (w : World) (p0 : ¬ a0_0 < a1_0) (q0 : ¬ a1_0 < a0_0) (p1 : ¬ a0_1 < a1_1) (q1 : ¬ a1_1 < a0_1) (p2 : ¬ a0_2 < a1_2) (q2 : ¬ a1_2 < a0_2) :
    Calls Try.prog 24 #[.agg #[.int .i64 a0_0, .int .i64 a0_1, .int .i64 a0_2], .agg #[.int .i64 a1_0, .int .i64 a1_1, .int .i64 a1_2]] w fun e w' => e = .returned (.int .i64 (0)) ∧ Below w.heap.size w w' := by
  have i0 : ∀ w, (Instr.index 77 (.agg #[.int .i64 a0_0, .int .i64 a1_0, .int .i64 a0_1, .int .i64 a1_1, .int .i64 a0_2, .int .i64 a1_2]) (.int .i64 0)).run Try.prog w = .ok (.agg #[.int .i64 a0_0, .int .i64 a1_0]) w := fun _ => by kernel_rfl
  have i1 : ∀ w, (Instr.index 77 (.agg #[.int .i64 a0_0, .int .i64 a1_0, .int .i64 a0_1, .int .i64 a1_1, .int .i64 a0_2, .int .i64 a1_2]) (.int .i64 1)).run Try.prog w = .ok (.agg #[.int .i64 a0_1, .int .i64 a1_1]) w := fun _ => by kernel_rfl
  have i2 : ∀ w, (Instr.index 77 (.agg #[.int .i64 a0_0, .int .i64 a1_0, .int .i64 a0_1, .int .i64 a1_1, .int .i64 a0_2, .int .i64 a1_2]) (.int .i64 2)).run Try.prog w = .ok (.agg #[.int .i64 a0_2, .int .i64 a1_2]) w := fun _ => by kernel_rfl
  go_enter Try.func24, Try.ntmps24
  go_wp2
  refine wp_loop_rounds 4 ?_
  rw [rounds_succ]
  go_wp2
  rw [rounds_succ]
  go_wp2
  rw [rounds_succ]
  go_wp2
  rw [rounds_succ]
  go_wp2
  go_ret
  exact ⟨rfl, by repeat (first | exact Below.refl _ _ | apply below_alloc | apply pw_below_drewN | apply below_drew)⟩
theorem civil_Compare.calls (a0_0 : Int) (a0_1 : Int) (a0_2 : Int) (a1_0 : Int) (a1_1 : Int) (a1_2 : Int) (r : Int) (w : World) (h : civil_Compare.f a0_0 a0_1 a0_2 a1_0 a1_1 a1_2 = some r) :
    Calls Try.prog 24 #[.agg #[.int .i64 a0_0, .int .i64 a0_1, .int .i64 a0_2], .agg #[.int .i64 a1_0, .int .i64 a1_1, .int .i64 a1_2]] w fun e w' => e = .returned (.int .i64 r) ∧ Below w.heap.size w w' := by
  unfold civil_Compare.f Civ.cmp at h
  injection h with h
  by_cases p0 : a0_0 < a1_0
  · rw [if_pos p0] at h; subst h; exact civil_Compare.lt0 _ _ _ _ _ _ w p0
  · rw [if_neg p0] at h
    by_cases q0 : a1_0 < a0_0
    · rw [if_pos q0] at h; subst h; exact civil_Compare.gt0 _ _ _ _ _ _ w p0 q0
    · rw [if_neg q0] at h
      by_cases p1 : a0_1 < a1_1
      · rw [if_pos p1] at h; subst h; exact civil_Compare.lt1 _ _ _ _ _ _ w p0 q0 p1
      · rw [if_neg p1] at h
        by_cases q1 : a1_1 < a0_1
        · rw [if_pos q1] at h; subst h; exact civil_Compare.gt1 _ _ _ _ _ _ w p0 q0 p1 q1
        · rw [if_neg q1] at h
          by_cases p2 : a0_2 < a1_2
          · rw [if_pos p2] at h; subst h; exact civil_Compare.lt2 _ _ _ _ _ _ w p0 q0 p1 q1 p2
          · rw [if_neg p2] at h
            by_cases q2 : a1_2 < a0_2
            · rw [if_pos q2] at h; subst h; exact civil_Compare.gt2 _ _ _ _ _ _ w p0 q0 p1 q1 p2 q2
            · rw [if_neg q2] at h
              subst h; exact civil_Compare.eq3 _ _ _ _ _ _ w p0 q0 p1 q1 p2 q2

end Go.Proofs.Ytegedhnbmclbkaa.PX
