/- Functions of the program as plain Lean functions, each with a proof that the call in the machine answers just what the plain function says; condition: the plain function answers at all. -/
import Derived.Test.YtegedhnbmclbkaaPXx0
import Derived.Test.YtegedhnbmclbkaaPXx1
import Derived.Test.YtegedhnbmclbkaaPXx9
import Derived.Test.YtegedhnbmclbkaaPXx10
namespace Go.Proofs.Ytegedhnbmclbkaa.PX
open Go.RowKit Go.Proofs.YtegedhnbmclbkaaW.PrintWords Go.Proofs.YtegedhnbmclbkaaW.PrintLast Go.Proofs.YtegedhnbmclbkaaW.PrintMore
attribute [local go_sem] max2_int min2_int max_two min_two max_three min_three max_four min_four   -- for this text's walks alone
set_option linter.unusedVariables false
set_option linter.unusedSimpArgs false

attribute [local go_sem high] eqA33
/-! ### pylonref05_On: function 29 -/
def pylonref05_On.j0 : Nat → Int → Bool → Int → Int → Int → Int → Option (Int × Int × Int × Int)
 | 0, _, _, _, _, _, _ => none
 | k + 1, x1, x21, x273000, x273001, x273002, x273003 => if x21 = true then (some (0, 0, 0, 5)) else (if x273000 = 1 then ((pylonref03_Is.f k x1 x273001 x273002).bind fun t276 => (if t276 = true then (some (x1, x273001, x273002, 0)) else (some (0, 0, 0, 7)))) else (if x273000 = 2 then ((pylonref03_Nth.f k x1 x273001 x273002 x273003).bind fun bt277 => (some (bt277.1, bt277.2.1, bt277.2.2.1, 0))) else ((pylonref05_Easter.f x1).bind fun bt282 => ((pylonref03_Add.f k bt282.1 bt282.2.1 bt282.2.2.1 x273001).bind fun bt287 => (if bt287.2.2.2 = 0 then (some (bt287.1, bt287.2.1, bt287.2.2.1, 0)) else (some (0, 0, 0, 7)))))))
def pylonref05_On.f (k : Nat) (a0_0 : Int) (a0_1 : Int) (a0_2 : Int) (a0_3 : Int) (a1 : Int) : Option (Int × Int × Int × Int) := (pylonref05_Check.f k a0_0 a0_1 a0_2 a0_3).bind fun t274 => (if t274 = 0 then (if a1 < 1 then (pylonref05_On.j0 k a1 true a0_0 a0_1 a0_2 a0_3) else (pylonref05_On.j0 k a1 (decide (a1 > 9999)) a0_0 a0_1 a0_2 a0_3)) else (some (0, 0, 0, 8)))
theorem pylonref05_On.mono_l : ∀ k, (∀ y0 y1 y2 y3 y4 y5, LeO (pylonref05_On.j0 k y0 y1 y2 y3 y4 y5) (pylonref05_On.j0 (k + 1) y0 y1 y2 y3 y4 y5))
 | 0 => fun _ _ _ _ _ _ r h => by simp [pylonref05_On.j0] at h
 | k + 1 => by
  have ih0 := pylonref05_On.mono_l k
  ·intro y0 y1 y2 y3 y4 y5
   unfold pylonref05_On.j0
   repeat' first
   | (with_reducible exact ih0 _ _ _ _ _ _)
   | (with_reducible exact pylonref03_Add.mono _ _ _ _ _)
   | (with_reducible exact pylonref03_Is.mono _ _ _ _)
   | (with_reducible exact pylonref03_Nth.mono _ _ _ _ _)
   | (with_reducible exact pylonref05_Check.mono _ _ _ _ _)
   | (with_reducible exact LeO.refl _)
   | (with_reducible exact LeO.none _)
   | (with_reducible refine LeO.ite ?_ ?_)
   | (with_reducible refine LeO.bind ?_ (fun _ => ?_))
theorem pylonref05_On.mono : ∀ a0 a1 a2 a3 a4 k, LeO (pylonref05_On.f k a0 a1 a2 a3 a4) (pylonref05_On.f (k + 1) a0 a1 a2 a3 a4) := by
 intro a0 a1 a2 a3 a4 k
 have ih0 := pylonref05_On.mono_l k
 unfold pylonref05_On.f
 repeat' first
   | (with_reducible exact ih0 _ _ _ _ _ _)
   | (with_reducible exact pylonref03_Add.mono _ _ _ _ _)
   | (with_reducible exact pylonref03_Is.mono _ _ _ _)
   | (with_reducible exact pylonref03_Nth.mono _ _ _ _ _)
   | (with_reducible exact pylonref05_Check.mono _ _ _ _ _)
   | (with_reducible exact LeO.refl _)
   | (with_reducible exact LeO.none _)
   | (with_reducible refine LeO.ite ?_ ?_)
   | (with_reducible refine LeO.bind ?_ (fun _ => ?_))
set_option maxHeartbeats 8000000 in
set_option maxRecDepth 100000 in
theorem pylonref05_On.calls (k : Nat) (a0_0 : Int) (a0_1 : Int) (a0_2 : Int) (a0_3 : Int) (a1 : Int) (r1 : Int) (r2 : Int) (r3 : Int) (r4 : Int) (w : World) (h : pylonref05_On.f k a0_0 a0_1 a0_2 a0_3 a1 = some (r1, r2, r3, r4)) :
  Calls Try.prog 29 #[.agg #[.int .i64 a0_0, .int .i64 a0_1, .int .i64 a0_2, .int .i64 a0_3], .int .i64 a1] w fun e w' => e = .returned (.tuple #[.agg #[.int .i64 r1, .int .i64 r2, .int .i64 r3], .int .i64 r4]) ∧ Below w.heap.size w w' := by
 have hu25 := Try.underlying25
 have hu33 := Try.underlying33
 have HB := AX (Below.refl w.heap.size w)
 have H : ((pylonref05_Check.f k a0_0 a0_1 a0_2 a0_3).bind fun t274 => (if t274 = 0 then (if a1 < 1 then (pylonref05_On.j0 k a1 true a0_0 a0_1 a0_2 a0_3) else (pylonref05_On.j0 k a1 (decide (a1 > 9999)) a0_0 a0_1 a0_2 a0_3)) else (some (0, 0, 0, 8)))) = some (r1, r2, r3, r4) := h
 clear h
 replace H := Option.bind_eq_some_iff.mp H
 obtain ⟨t274, A30, H⟩ := H
 replace H : (if t274 = 0 then (if a1 < 1 then (pylonref05_On.j0 k a1 true a0_0 a0_1 a0_2 a0_3) else (pylonref05_On.j0 k a1 (decide (a1 > 9999)) a0_0 a0_1 a0_2 a0_3)) else (some (0, 0, 0, 8))) = some (r1, r2, r3, r4) := H
 have A3 := AX A30
 clear A30
 by_cases c4 : t274 = 0
 ·rw [if_pos c4] at H
  have c4b0 : (t274 == 0) = true := beq_iff_eq.mpr c4
  have c4b1 : (t274 != 0) = false := bne_eq_false_iff_eq.mpr c4
  clear c4
  have HC5 := AX H
  clear H
  go_enter Try.func29, Try.ntmps29
  go_upto_region 3 with (first | ((with_reducible refine gate_dst (N := 2) rfl ?_); refine bx 2 #[.int .i64 a0_0, .int .i64 a0_1, .int .i64 a0_2, .int .i64 a0_3] 25 ?_; intro gb272 hg w6 hbox hb; have BK272 := AX (hbox); have GW272 := gwl (w := w) hg bw; have GE272 := GW272; replace HB := AX (below_step bw hb); clear hb hbox hg) | ((with_reducible refine gate_dst (N := 4) rfl ?_); refine bx 4 #[.int .i64 0, .int .i64 0, .int .i64 0] 33 ?_; intro gb273 hg w7 hbox hb; have BK273 := AX (hbox); have GW273 := gwl (w := w) hg bw; have GE273 := GW273; have NB272_273 := nbl hg (bkn BK272); have NB273_272 := nbg hg (bkn BK272); replace BK272 := AX (bkb BK272 hb); replace HB := AX (below_step bw hb); clear hb hbox hg; have hnb8 := NB272_273.out; have hnc8 := NB273_272.out; obtain ⟨hcz9_0, hcz9_1, hcz9_2, hcz9_3⟩ := blkC4 (w := w7) BK272.out; obtain ⟨hfz9_0, hfz9_1, hfz9_2, hfz9_3⟩ := blkF4 BK272.out) | ((with_reducible refine gate_callee (f := 15) rfl ?_); refine gL (some 13) Try.func15 #[.agg #[.int .i64 a0_0, .int .i64 a0_1, .int .i64 a0_2, .int .i64 a0_3]] ?_; (with_reducible refine (pylonref05_Check.calls k a0_0 a0_1 a0_2 a0_3 t274 _ A3.out).mono ?_); rintro e w10 ⟨rfl, hb⟩; refine ⟨_, rfl, ?_⟩; replace BK272 := AX (bkb BK272 hb); replace BK273 := AX (bkb BK273 hb); replace HB := AX (below_step bw hb); (try clear hb)))
  (try simp only [Act.put, List.setIfInBounds_toArray, List.set_cons_zero, List.set_cons_succ])
  go_cut [21] (fun v21 wc => ∃ (kq : Nat) (x21_4 : Bool), v21 = .bool x21_4 ∧ Aside0 (pylonref05_On.j0 kq a1 x21_4 a0_0 a0_1 a0_2 a0_3 = some (r1, r2, r3, r4)) ∧ Aside0 (kq ≤ k) ∧ Aside0 (wc.heap[gb272]? = some (.cells #[.int .i64 a0_0, .int .i64 a0_1, .int .i64 a0_2, .int .i64 a0_3] 25 (0, 0))) ∧ Aside0 (wc.heap[gb273]? = some (.cells #[.int .i64 0, .int .i64 0, .int .i64 0] 33 (0, 0))) ∧ Aside0 (Below w.heap.size w wc))
  case first =>
   have H := HC5.out
   clear HC5
   by_cases c11 : a1 < 1
   ·rw [if_pos c11] at H
    have c11b0 : decide (a1 < 1) = true := decide_eq_true c11
    clear c11
    (first | rw [c11b0] | (simp only [i64_w, i32_w]; rw [c11b0]) | skip)
    have H' := AX H
    clear H
    go_wp2
    go_meet
    case rel => exact ⟨_, (true), (by first | rfl | (simp; done) | (simp [*]; done)), H', ⟨by first | omega | exact Nat.le_refl _⟩, ⟨bkn BK272⟩, ⟨bkn BK273⟩, ⟨bw⟩⟩
   ·rw [if_neg c11] at H
    have c11b0 : decide (a1 < 1) = false := decide_eq_false c11
    clear c11
    (first | rw [c11b0] | (simp only [i64_w, i32_w]; rw [c11b0]) | skip)
    have H' := AX H
    clear H
    go_wp2
    go_meet
    case rel => exact ⟨_, (decide (a1 > 9999)), (by first | rfl | (simp; done) | (simp [*]; done)), H', ⟨by first | omega | exact Nat.le_refl _⟩, ⟨bkn BK272⟩, ⟨bkn BK273⟩, ⟨bw⟩⟩
  case rest =>
   clear HC5
   try clear c4b0 c4b1
   try clear hcz9_0 hcz9_1 hcz9_2 hcz9_3
   try clear hfz9_0 hfz9_1 hfz9_2 hfz9_3
   obtain ⟨kq, x21_4, rfl, HA, HJ4, BK272, BK273, HB⟩ := hcut
   cases kq with
   | zero => exact absurd HA.out (by simp [pylonref05_On.j0])
   | succ kj4 =>
    have H := HA.out
    clear HA
    simp only [pylonref05_On.j0] at H
    by_cases c12 : x21_4 = true
    ·subst c12
     have H1 : (some (0, 0, 0, 5)) = some (r1, r2, r3, r4) := by rw [if_pos rfl] at H; exact H
     clear H
     have H := H1
     clear H1
     simp only [Option.some.injEq, Prod.mk.injEq] at H
     obtain ⟨rfl, rfl, rfl, rfl⟩ := H
     have hnb13 := NB273_272.out
     have hnc13 := NB272_273.out
     obtain ⟨hcz14_0, hcz14_1, hcz14_2⟩ := blkC3 (w := wc) BK273.out
     obtain ⟨hfz14_0, hfz14_1, hfz14_2⟩ := blkF3 BK273.out
     go_wp2
     refine bodyPost_ret (results_ct rfl _ _ gb273 33 #[.int .i64 0, .int .i64 0, .int .i64 0] (0, 0) _ rfl (by (with_reducible repeat first|refine blk_drewN ?_ _|refine blk_drew ?_|refine blk_alloc ?_ _); refine blk_put (cs := #[.int .i64 0, .int .i64 0, .int .i64 0]) ?_ 2 _ rfl; (with_reducible repeat first|refine blk_drewN ?_ _|refine blk_drew ?_|refine blk_alloc ?_ _); refine blk_put (cs := #[.int .i64 0, .int .i64 0, .int .i64 0]) ?_ 1 _ rfl; (with_reducible repeat first|refine blk_drewN ?_ _|refine blk_drew ?_|refine blk_alloc ?_ _); refine blk_put (cs := #[.int .i64 0, .int .i64 0, .int .i64 0]) ?_ 0 _ rfl; (with_reducible repeat first|refine blk_drewN ?_ _|refine blk_drew ?_|refine blk_alloc ?_ _); exact BK273.out) Try.underlying33 rfl (by kernel_rfl)) rfl ?_
     exact ⟨by first | rfl | (simp [errW_none, errW_some] <;> rfl) | (simp [*, errW_none, errW_some] <;> rfl), bw⟩
    ·replace c12 := Bool.eq_false_iff.mpr c12
     subst c12
     have H1 : (if a0_0 = 1 then ((pylonref03_Is.f kj4 a1 a0_1 a0_2).bind fun t276 => (if t276 = true then (some (a1, a0_1, a0_2, 0)) else (some (0, 0, 0, 7)))) else (if a0_0 = 2 then ((pylonref03_Nth.f kj4 a1 a0_1 a0_2 a0_3).bind fun bt277 => (some (bt277.1, bt277.2.1, bt277.2.2.1, 0))) else ((pylonref05_Easter.f a1).bind fun bt282 => ((pylonref03_Add.f kj4 bt282.1 bt282.2.1 bt282.2.2.1 a0_1).bind fun bt287 => (if bt287.2.2.2 = 0 then (some (bt287.1, bt287.2.1, bt287.2.2.1, 0)) else (some (0, 0, 0, 7))))))) = some (r1, r2, r3, r4) := by rw [if_neg (show ¬ (false = true) by decide)] at H; exact H
     clear H
     have H := H1
     clear H1
     by_cases c15 : a0_0 = 1
     ·rw [if_pos c15] at H
      have c15b0 : (a0_0 == 1) = true := beq_iff_eq.mpr c15
      have c15b1 : (a0_0 != 1) = false := bne_eq_false_iff_eq.mpr c15
      clear c15
      replace H := Option.bind_eq_some_iff.mp H
      obtain ⟨t276, A160, H⟩ := H
      replace H : (if t276 = true then (some (a1, a0_1, a0_2, 0)) else (some (0, 0, 0, 7))) = some (r1, r2, r3, r4) := H
      have A16 := AX A160
      clear A160
      by_cases c17 : t276 = true
      ·subst c17
       have H1 : (some (a1, a0_1, a0_2, 0)) = some (r1, r2, r3, r4) := by rw [if_pos rfl] at H; exact H
       clear H
       have H := H1
       clear H1
       simp only [Option.some.injEq, Prod.mk.injEq] at H
       obtain ⟨rfl, rfl, rfl, rfl⟩ := H
       have hnb18 := NB272_273.out
       have hnc18 := NB273_272.out
       obtain ⟨hcz19_0, hcz19_1, hcz19_2, hcz19_3⟩ := blkC4 (w := wc) BK272.out
       obtain ⟨hfz19_0, hfz19_1, hfz19_2, hfz19_3⟩ := blkF4 BK272.out
       go_wp2_with (first | ((with_reducible refine gate_dst (N := 6) rfl ?_); refine bx 6 #[.int .i64 0, .int .i64 0, .int .i64 0] 33 ?_; intro gb275 hg w20 hbox hb; have BK275 := AX (hbox); have GW275 := gwl (w := w) hg bw; have GE275 := GW275; have NB272_275 := nbl hg (bkn BK272); have NB275_272 := nbg hg (bkn BK272); have NB273_275 := nbl hg (bkn BK273); have NB275_273 := nbg hg (bkn BK273); replace BK272 := AX (bkb BK272 hb); replace BK273 := AX (bkb BK273 hb); replace HB := AX (below_step bw hb); clear hb hbox hg; have hnb21 := NB275_272.out; have hnc21 := NB272_275.out; have hnb22 := NB275_273.out; have hnc22 := NB273_275.out; obtain ⟨hcz23_0, hcz23_1, hcz23_2⟩ := blkC3 (w := w20) BK275.out; obtain ⟨hfz23_0, hfz23_1, hfz23_2⟩ := blkF3 BK275.out) | ((with_reducible refine gate_callee (f := 45) rfl ?_); refine gL (some 34) Try.func45 #[.agg #[.int .i64 a1, .int .i64 a0_1, .int .i64 a0_2]] ?_; (with_reducible refine (pylonref03_Is.calls kj4 a1 a0_1 a0_2 true _ A16.out).mono ?_); rintro e w24 ⟨rfl, hb⟩; refine ⟨_, rfl, ?_⟩; replace BK272 := AX (blk_below (g := gb272) (o := .cells #[.int .i64 a0_0, .int .i64 a0_1, .int .i64 a0_2, .int .i64 a0_3] 25 (0, 0)) (by (with_reducible repeat first|refine blk_drewN ?_ _|refine blk_drew ?_|refine blk_alloc ?_ _|refine blk_far ?_ NB272_275.out _); exact BK272.out) hb); replace BK273 := AX (blk_below (g := gb273) (o := .cells #[.int .i64 0, .int .i64 0, .int .i64 0] 33 (0, 0)) (by (with_reducible repeat first|refine blk_drewN ?_ _|refine blk_drew ?_|refine blk_alloc ?_ _|refine blk_far ?_ NB273_275.out _); exact BK273.out) hb); replace BK275 := AX (blk_below (g := gb275) (o := .cells #[.int .i64 a1, .int .i64 a0_1, .int .i64 a0_2] 33 (0, 0)) (by (with_reducible repeat first|refine blk_drewN ?_ _|refine blk_drew ?_|refine blk_alloc ?_ _); refine blk_put (cs := #[.int .i64 a1, .int .i64 a0_1, .int .i64 0]) ?_ 2 _ rfl; (with_reducible repeat first|refine blk_drewN ?_ _|refine blk_drew ?_|refine blk_alloc ?_ _); refine blk_put (cs := #[.int .i64 a1, .int .i64 0, .int .i64 0]) ?_ 1 _ rfl; (with_reducible repeat first|refine blk_drewN ?_ _|refine blk_drew ?_|refine blk_alloc ?_ _); refine blk_put (cs := #[.int .i64 0, .int .i64 0, .int .i64 0]) ?_ 0 _ rfl; (with_reducible repeat first|refine blk_drewN ?_ _|refine blk_drew ?_|refine blk_alloc ?_ _); exact BK275.out) hb); replace HB := AX (below_step bw hb); (try clear hb); obtain ⟨hcz25_0, hcz25_1, hcz25_2⟩ := blkC3 (w := w24) BK275.out; obtain ⟨hfz25_0, hfz25_1, hfz25_2⟩ := blkF3 BK275.out; obtain ⟨hcz26_0, hcz26_1, hcz26_2⟩ := blkC3 (w := w24) BK273.out; obtain ⟨hfz26_0, hfz26_1, hfz26_2⟩ := blkF3 BK273.out))
       refine bodyPost_ret (results_ct rfl _ _ gb273 33 #[.int .i64 a1, .int .i64 a0_1, .int .i64 a0_2] (0, 0) _ rfl (by (with_reducible repeat first|refine blk_drewN ?_ _|refine blk_drew ?_|refine blk_alloc ?_ _); refine blk_put (cs := #[.int .i64 a1, .int .i64 a0_1, .int .i64 0]) ?_ 2 _ rfl; (with_reducible repeat first|refine blk_drewN ?_ _|refine blk_drew ?_|refine blk_alloc ?_ _); refine blk_put (cs := #[.int .i64 a1, .int .i64 0, .int .i64 0]) ?_ 1 _ rfl; (with_reducible repeat first|refine blk_drewN ?_ _|refine blk_drew ?_|refine blk_alloc ?_ _); refine blk_put (cs := #[.int .i64 0, .int .i64 0, .int .i64 0]) ?_ 0 _ rfl; (with_reducible repeat first|refine blk_drewN ?_ _|refine blk_drew ?_|refine blk_alloc ?_ _); exact BK273.out) Try.underlying33 rfl (by kernel_rfl)) rfl ?_
       exact ⟨by first | rfl | (simp [errW_none, errW_some] <;> rfl) | (simp [*, errW_none, errW_some] <;> rfl), bw⟩
      ·replace c17 := Bool.eq_false_iff.mpr c17
       subst c17
       have H1 : (some (0, 0, 0, 7)) = some (r1, r2, r3, r4) := by rw [if_neg (show ¬ (false = true) by decide)] at H; exact H
       clear H
       have H := H1
       clear H1
       simp only [Option.some.injEq, Prod.mk.injEq] at H
       obtain ⟨rfl, rfl, rfl, rfl⟩ := H
       have hnb27 := NB272_273.out
       have hnc27 := NB273_272.out
       obtain ⟨hcz28_0, hcz28_1, hcz28_2, hcz28_3⟩ := blkC4 (w := wc) BK272.out
       obtain ⟨hfz28_0, hfz28_1, hfz28_2, hfz28_3⟩ := blkF4 BK272.out
       go_wp2_with (first | ((with_reducible refine gate_dst (N := 6) rfl ?_); refine bx 6 #[.int .i64 0, .int .i64 0, .int .i64 0] 33 ?_; intro gb275 hg w29 hbox hb; have BK275 := AX (hbox); have GW275 := gwl (w := w) hg bw; have GE275 := GW275; have NB272_275 := nbl hg (bkn BK272); have NB275_272 := nbg hg (bkn BK272); have NB273_275 := nbl hg (bkn BK273); have NB275_273 := nbg hg (bkn BK273); replace BK272 := AX (bkb BK272 hb); replace BK273 := AX (bkb BK273 hb); replace HB := AX (below_step bw hb); clear hb hbox hg; have hnb30 := NB275_272.out; have hnc30 := NB272_275.out; have hnb31 := NB275_273.out; have hnc31 := NB273_275.out; obtain ⟨hcz32_0, hcz32_1, hcz32_2⟩ := blkC3 (w := w29) BK275.out; obtain ⟨hfz32_0, hfz32_1, hfz32_2⟩ := blkF3 BK275.out) | ((with_reducible refine gate_callee (f := 45) rfl ?_); refine gL (some 34) Try.func45 #[.agg #[.int .i64 a1, .int .i64 a0_1, .int .i64 a0_2]] ?_; (with_reducible refine (pylonref03_Is.calls kj4 a1 a0_1 a0_2 false _ A16.out).mono ?_); rintro e w33 ⟨rfl, hb⟩; refine ⟨_, rfl, ?_⟩; replace BK272 := AX (blk_below (g := gb272) (o := .cells #[.int .i64 a0_0, .int .i64 a0_1, .int .i64 a0_2, .int .i64 a0_3] 25 (0, 0)) (by (with_reducible repeat first|refine blk_drewN ?_ _|refine blk_drew ?_|refine blk_alloc ?_ _|refine blk_far ?_ NB272_275.out _); exact BK272.out) hb); replace BK273 := AX (blk_below (g := gb273) (o := .cells #[.int .i64 0, .int .i64 0, .int .i64 0] 33 (0, 0)) (by (with_reducible repeat first|refine blk_drewN ?_ _|refine blk_drew ?_|refine blk_alloc ?_ _|refine blk_far ?_ NB273_275.out _); exact BK273.out) hb); replace BK275 := AX (blk_below (g := gb275) (o := .cells #[.int .i64 a1, .int .i64 a0_1, .int .i64 a0_2] 33 (0, 0)) (by (with_reducible repeat first|refine blk_drewN ?_ _|refine blk_drew ?_|refine blk_alloc ?_ _); refine blk_put (cs := #[.int .i64 a1, .int .i64 a0_1, .int .i64 0]) ?_ 2 _ rfl; (with_reducible repeat first|refine blk_drewN ?_ _|refine blk_drew ?_|refine blk_alloc ?_ _); refine blk_put (cs := #[.int .i64 a1, .int .i64 0, .int .i64 0]) ?_ 1 _ rfl; (with_reducible repeat first|refine blk_drewN ?_ _|refine blk_drew ?_|refine blk_alloc ?_ _); refine blk_put (cs := #[.int .i64 0, .int .i64 0, .int .i64 0]) ?_ 0 _ rfl; (with_reducible repeat first|refine blk_drewN ?_ _|refine blk_drew ?_|refine blk_alloc ?_ _); exact BK275.out) hb); replace HB := AX (below_step bw hb); (try clear hb); obtain ⟨hcz34_0, hcz34_1, hcz34_2⟩ := blkC3 (w := w33) BK273.out; obtain ⟨hfz34_0, hfz34_1, hfz34_2⟩ := blkF3 BK273.out))
       refine bodyPost_ret (results_ct rfl _ _ gb273 33 #[.int .i64 0, .int .i64 0, .int .i64 0] (0, 0) _ rfl (by (with_reducible repeat first|refine blk_drewN ?_ _|refine blk_drew ?_|refine blk_alloc ?_ _); refine blk_put (cs := #[.int .i64 0, .int .i64 0, .int .i64 0]) ?_ 2 _ rfl; (with_reducible repeat first|refine blk_drewN ?_ _|refine blk_drew ?_|refine blk_alloc ?_ _); refine blk_put (cs := #[.int .i64 0, .int .i64 0, .int .i64 0]) ?_ 1 _ rfl; (with_reducible repeat first|refine blk_drewN ?_ _|refine blk_drew ?_|refine blk_alloc ?_ _); refine blk_put (cs := #[.int .i64 0, .int .i64 0, .int .i64 0]) ?_ 0 _ rfl; (with_reducible repeat first|refine blk_drewN ?_ _|refine blk_drew ?_|refine blk_alloc ?_ _); exact BK273.out) Try.underlying33 rfl (by kernel_rfl)) rfl ?_
       exact ⟨by first | rfl | (simp [errW_none, errW_some] <;> rfl) | (simp [*, errW_none, errW_some] <;> rfl), bw⟩
     ·rw [if_neg c15] at H
      have c15b0 : (a0_0 == 1) = false := beq_eq_false_iff_ne.mpr c15
      have c15b1 : (a0_0 != 1) = true := bne_iff_ne.mpr c15
      by_cases c35 : a0_0 = 2
      ·rw [if_pos c35] at H
       have c35b0 : (a0_0 == 2) = true := beq_iff_eq.mpr c35
       have c35b1 : (a0_0 != 2) = false := bne_eq_false_iff_eq.mpr c35
       clear c35
       replace H := Option.bind_eq_some_iff.mp H
       obtain ⟨⟨t277, t278, t279, t280⟩, A360, H⟩ := H
       replace H : (some (t277, t278, t279, 0)) = some (r1, r2, r3, r4) := H
       have A36 := AX A360
       clear A360
       simp only [Option.some.injEq, Prod.mk.injEq] at H
       obtain ⟨rfl, rfl, rfl, rfl⟩ := H
       have hnb37 := NB272_273.out
       have hnc37 := NB273_272.out
       obtain ⟨hcz38_0, hcz38_1, hcz38_2, hcz38_3⟩ := blkC4 (w := wc) BK272.out
       obtain ⟨hfz38_0, hfz38_1, hfz38_2, hfz38_3⟩ := blkF4 BK272.out
       go_wp2_with (first | ((with_reducible refine gate_callee (f := 46) rfl ?_); refine gL (some 48) Try.func46 #[.int .i64 a1, .int .i64 a0_1, .int .i64 a0_2, .int .i64 a0_3] ?_; (with_reducible refine (pylonref03_Nth.calls kj4 a1 a0_1 a0_2 a0_3 t277 t278 t279 t280 _ A36.out).mono ?_); rintro e w39 ⟨rfl, hb⟩; refine ⟨_, rfl, ?_⟩; replace BK272 := AX (bkb BK272 hb); replace BK273 := AX (bkb BK273 hb); replace HB := AX (below_step bw hb); (try clear hb)) | ((with_reducible refine gate_dst (N := 7) rfl ?_); refine bx 7 #[.int .i64 0, .int .i64 0, .int .i64 0] 33 ?_; intro gb281 hg w40 hbox hb; have BK281 := AX (hbox); have GW281 := gwl (w := w) hg bw; have GE281 := GW281; have NB272_281 := nbl hg (bkn BK272); have NB281_272 := nbg hg (bkn BK272); have NB273_281 := nbl hg (bkn BK273); have NB281_273 := nbg hg (bkn BK273); replace BK272 := AX (bkb BK272 hb); replace BK273 := AX (bkb BK273 hb); replace HB := AX (below_step bw hb); clear hb hbox hg; have hnb41 := NB281_272.out; have hnc41 := NB272_281.out; have hnb42 := NB281_273.out; have hnc42 := NB273_281.out; obtain ⟨hcz43_0, hcz43_1, hcz43_2⟩ := blkC3 (w := w40) BK281.out; obtain ⟨hfz43_0, hfz43_1, hfz43_2⟩ := blkF3 BK281.out; obtain ⟨hcz44_0, hcz44_1, hcz44_2⟩ := blkC3 (w := w40) BK273.out; obtain ⟨hfz44_0, hfz44_1, hfz44_2⟩ := blkF3 BK273.out))
       refine bodyPost_ret (results_ct rfl _ _ gb273 33 #[.int .i64 t277, .int .i64 t278, .int .i64 t279] (0, 0) _ rfl (by (with_reducible repeat first|refine blk_drewN ?_ _|refine blk_drew ?_|refine blk_alloc ?_ _); refine blk_put (cs := #[.int .i64 t277, .int .i64 t278, .int .i64 0]) ?_ 2 _ rfl; (with_reducible repeat first|refine blk_drewN ?_ _|refine blk_drew ?_|refine blk_alloc ?_ _); refine blk_put (cs := #[.int .i64 t277, .int .i64 0, .int .i64 0]) ?_ 1 _ rfl; (with_reducible repeat first|refine blk_drewN ?_ _|refine blk_drew ?_|refine blk_alloc ?_ _); refine blk_put (cs := #[.int .i64 0, .int .i64 0, .int .i64 0]) ?_ 0 _ rfl; (with_reducible repeat first|refine blk_drewN ?_ _|refine blk_drew ?_|refine blk_alloc ?_ _); refine blk_far ?_ NB273_281.out _; (with_reducible repeat first|refine blk_drewN ?_ _|refine blk_drew ?_|refine blk_alloc ?_ _); refine blk_far ?_ NB273_281.out _; (with_reducible repeat first|refine blk_drewN ?_ _|refine blk_drew ?_|refine blk_alloc ?_ _); refine blk_far ?_ NB273_281.out _; (with_reducible repeat first|refine blk_drewN ?_ _|refine blk_drew ?_|refine blk_alloc ?_ _); exact BK273.out) Try.underlying33 rfl (by kernel_rfl)) rfl ?_
       exact ⟨by first | rfl | (simp [errW_none, errW_some] <;> rfl) | (simp [*, errW_none, errW_some] <;> rfl), bw⟩
      ·rw [if_neg c35] at H
       have c35b0 : (a0_0 == 2) = false := beq_eq_false_iff_ne.mpr c35
       have c35b1 : (a0_0 != 2) = true := bne_iff_ne.mpr c35
       replace H := Option.bind_eq_some_iff.mp H
       obtain ⟨⟨t282, t283, t284, t285⟩, A450, H⟩ := H
       replace H : ((pylonref03_Add.f kj4 t282 t283 t284 a0_1).bind fun bt287 => (if bt287.2.2.2 = 0 then (some (bt287.1, bt287.2.1, bt287.2.2.1, 0)) else (some (0, 0, 0, 7)))) = some (r1, r2, r3, r4) := H
       have A45 := AX A450
       clear A450
       replace H := Option.bind_eq_some_iff.mp H
       obtain ⟨⟨t287, t288, t289, t290⟩, A460, H⟩ := H
       replace H : (if t290 = 0 then (some (t287, t288, t289, 0)) else (some (0, 0, 0, 7))) = some (r1, r2, r3, r4) := H
       have A46 := AX A460
       clear A460
       by_cases c47 : t290 = 0
       ·rw [if_pos c47] at H
        have c47b0 : (t290 == 0) = true := beq_iff_eq.mpr c47
        have c47b1 : (t290 != 0) = false := bne_eq_false_iff_eq.mpr c47
        clear c47
        simp only [Option.some.injEq, Prod.mk.injEq] at H
        obtain ⟨rfl, rfl, rfl, rfl⟩ := H
        have hnb48 := NB272_273.out
        have hnc48 := NB273_272.out
        obtain ⟨hcz49_0, hcz49_1, hcz49_2, hcz49_3⟩ := blkC4 (w := wc) BK272.out
        obtain ⟨hfz49_0, hfz49_1, hfz49_2, hfz49_3⟩ := blkF4 BK272.out
        go_wp2_with (first | ((with_reducible refine gate_callee (f := 28) rfl ?_); refine gL (some 54) Try.func28 #[.int .i64 a1] ?_; (with_reducible refine (pylonref05_Easter.calls a1 t282 t283 t284 t285 _ A45.out).mono ?_); rintro e w50 ⟨rfl, hb⟩; refine ⟨_, rfl, ?_⟩; replace BK272 := AX (bkb BK272 hb); replace BK273 := AX (bkb BK273 hb); replace HB := AX (below_step bw hb); (try clear hb)) | ((with_reducible refine gate_dst (N := 9) rfl ?_); refine bx 9 #[.int .i64 0, .int .i64 0, .int .i64 0] 33 ?_; intro gb286 hg w51 hbox hb; have BK286 := AX (hbox); have GW286 := gwl (w := w) hg bw; have GE286 := GW286; have NB272_286 := nbl hg (bkn BK272); have NB286_272 := nbg hg (bkn BK272); have NB273_286 := nbl hg (bkn BK273); have NB286_273 := nbg hg (bkn BK273); replace BK272 := AX (bkb BK272 hb); replace BK273 := AX (bkb BK273 hb); replace HB := AX (below_step bw hb); clear hb hbox hg; have hnb52 := NB286_272.out; have hnc52 := NB272_286.out; have hnb53 := NB286_273.out; have hnc53 := NB273_286.out; obtain ⟨hcz54_0, hcz54_1, hcz54_2⟩ := blkC3 (w := w51) BK286.out; obtain ⟨hfz54_0, hfz54_1, hfz54_2⟩ := blkF3 BK286.out; obtain ⟨hcz55_0, hcz55_1, hcz55_2, hcz55_3⟩ := blkC4 (w := w51) BK272.out; obtain ⟨hfz55_0, hfz55_1, hfz55_2, hfz55_3⟩ := blkF4 BK272.out) | ((with_reducible refine gate_callee (f := 47) rfl ?_); refine gL (some 61) Try.func47 #[.agg #[.int .i64 t282, .int .i64 t283, .int .i64 t284], .int .i64 a0_1] ?_; (with_reducible refine (pylonref03_Add.calls kj4 t282 t283 t284 a0_1 t287 t288 t289 t290 _ A46.out).mono ?_); rintro e w56 ⟨rfl, hb⟩; refine ⟨_, rfl, ?_⟩; replace BK272 := AX (blk_below (g := gb272) (o := .cells #[.int .i64 a0_0, .int .i64 a0_1, .int .i64 a0_2, .int .i64 a0_3] 25 (0, 0)) (by (with_reducible repeat first|refine blk_drewN ?_ _|refine blk_drew ?_|refine blk_alloc ?_ _|refine blk_far ?_ NB272_286.out _); exact BK272.out) hb); replace BK273 := AX (blk_below (g := gb273) (o := .cells #[.int .i64 0, .int .i64 0, .int .i64 0] 33 (0, 0)) (by (with_reducible repeat first|refine blk_drewN ?_ _|refine blk_drew ?_|refine blk_alloc ?_ _|refine blk_far ?_ NB273_286.out _); exact BK273.out) hb); replace BK286 := AX (blk_below (g := gb286) (o := .cells #[.int .i64 t282, .int .i64 t283, .int .i64 t284] 33 (0, 0)) (by (with_reducible repeat first|refine blk_drewN ?_ _|refine blk_drew ?_|refine blk_alloc ?_ _); refine blk_put (cs := #[.int .i64 t282, .int .i64 t283, .int .i64 0]) ?_ 2 _ rfl; (with_reducible repeat first|refine blk_drewN ?_ _|refine blk_drew ?_|refine blk_alloc ?_ _); refine blk_put (cs := #[.int .i64 t282, .int .i64 0, .int .i64 0]) ?_ 1 _ rfl; (with_reducible repeat first|refine blk_drewN ?_ _|refine blk_drew ?_|refine blk_alloc ?_ _); refine blk_put (cs := #[.int .i64 0, .int .i64 0, .int .i64 0]) ?_ 0 _ rfl; (with_reducible repeat first|refine blk_drewN ?_ _|refine blk_drew ?_|refine blk_alloc ?_ _); exact BK286.out) hb); replace HB := AX (below_step bw hb); (try clear hb); obtain ⟨hcz57_0, hcz57_1, hcz57_2⟩ := blkC3 (w := w56) BK286.out; obtain ⟨hfz57_0, hfz57_1, hfz57_2⟩ := blkF3 BK286.out; obtain ⟨hcz58_0, hcz58_1, hcz58_2⟩ := blkC3 (w := w56) BK273.out; obtain ⟨hfz58_0, hfz58_1, hfz58_2⟩ := blkF3 BK273.out))
        refine bodyPost_ret (results_ct rfl _ _ gb273 33 #[.int .i64 t287, .int .i64 t288, .int .i64 t289] (0, 0) _ rfl (by (with_reducible repeat first|refine blk_drewN ?_ _|refine blk_drew ?_|refine blk_alloc ?_ _); refine blk_put (cs := #[.int .i64 t287, .int .i64 t288, .int .i64 0]) ?_ 2 _ rfl; (with_reducible repeat first|refine blk_drewN ?_ _|refine blk_drew ?_|refine blk_alloc ?_ _); refine blk_put (cs := #[.int .i64 t287, .int .i64 0, .int .i64 0]) ?_ 1 _ rfl; (with_reducible repeat first|refine blk_drewN ?_ _|refine blk_drew ?_|refine blk_alloc ?_ _); refine blk_put (cs := #[.int .i64 0, .int .i64 0, .int .i64 0]) ?_ 0 _ rfl; (with_reducible repeat first|refine blk_drewN ?_ _|refine blk_drew ?_|refine blk_alloc ?_ _); refine blk_far ?_ NB273_286.out _; (with_reducible repeat first|refine blk_drewN ?_ _|refine blk_drew ?_|refine blk_alloc ?_ _); refine blk_far ?_ NB273_286.out _; (with_reducible repeat first|refine blk_drewN ?_ _|refine blk_drew ?_|refine blk_alloc ?_ _); refine blk_far ?_ NB273_286.out _; (with_reducible repeat first|refine blk_drewN ?_ _|refine blk_drew ?_|refine blk_alloc ?_ _); exact BK273.out) Try.underlying33 rfl (by kernel_rfl)) rfl ?_
        exact ⟨by first | rfl | (simp [errW_none, errW_some] <;> rfl) | (simp [*, errW_none, errW_some] <;> rfl), bw⟩
       ·rw [if_neg c47] at H
        have c47b0 : (t290 == 0) = false := beq_eq_false_iff_ne.mpr c47
        have c47b1 : (t290 != 0) = true := bne_iff_ne.mpr c47
        simp only [Option.some.injEq, Prod.mk.injEq] at H
        obtain ⟨rfl, rfl, rfl, rfl⟩ := H
        have hnb59 := NB272_273.out
        have hnc59 := NB273_272.out
        obtain ⟨hcz60_0, hcz60_1, hcz60_2, hcz60_3⟩ := blkC4 (w := wc) BK272.out
        obtain ⟨hfz60_0, hfz60_1, hfz60_2, hfz60_3⟩ := blkF4 BK272.out
        go_wp2_with (first | ((with_reducible refine gate_callee (f := 28) rfl ?_); refine gL (some 54) Try.func28 #[.int .i64 a1] ?_; (with_reducible refine (pylonref05_Easter.calls a1 t282 t283 t284 t285 _ A45.out).mono ?_); rintro e w61 ⟨rfl, hb⟩; refine ⟨_, rfl, ?_⟩; replace BK272 := AX (bkb BK272 hb); replace BK273 := AX (bkb BK273 hb); replace HB := AX (below_step bw hb); (try clear hb)) | ((with_reducible refine gate_dst (N := 9) rfl ?_); refine bx 9 #[.int .i64 0, .int .i64 0, .int .i64 0] 33 ?_; intro gb286 hg w62 hbox hb; have BK286 := AX (hbox); have GW286 := gwl (w := w) hg bw; have GE286 := GW286; have NB272_286 := nbl hg (bkn BK272); have NB286_272 := nbg hg (bkn BK272); have NB273_286 := nbl hg (bkn BK273); have NB286_273 := nbg hg (bkn BK273); replace BK272 := AX (bkb BK272 hb); replace BK273 := AX (bkb BK273 hb); replace HB := AX (below_step bw hb); clear hb hbox hg; have hnb63 := NB286_272.out; have hnc63 := NB272_286.out; have hnb64 := NB286_273.out; have hnc64 := NB273_286.out; obtain ⟨hcz65_0, hcz65_1, hcz65_2⟩ := blkC3 (w := w62) BK286.out; obtain ⟨hfz65_0, hfz65_1, hfz65_2⟩ := blkF3 BK286.out; obtain ⟨hcz66_0, hcz66_1, hcz66_2, hcz66_3⟩ := blkC4 (w := w62) BK272.out; obtain ⟨hfz66_0, hfz66_1, hfz66_2, hfz66_3⟩ := blkF4 BK272.out) | ((with_reducible refine gate_callee (f := 47) rfl ?_); refine gL (some 61) Try.func47 #[.agg #[.int .i64 t282, .int .i64 t283, .int .i64 t284], .int .i64 a0_1] ?_; (with_reducible refine (pylonref03_Add.calls kj4 t282 t283 t284 a0_1 t287 t288 t289 t290 _ A46.out).mono ?_); rintro e w67 ⟨rfl, hb⟩; refine ⟨_, rfl, ?_⟩; replace BK272 := AX (blk_below (g := gb272) (o := .cells #[.int .i64 a0_0, .int .i64 a0_1, .int .i64 a0_2, .int .i64 a0_3] 25 (0, 0)) (by (with_reducible repeat first|refine blk_drewN ?_ _|refine blk_drew ?_|refine blk_alloc ?_ _|refine blk_far ?_ NB272_286.out _); exact BK272.out) hb); replace BK273 := AX (blk_below (g := gb273) (o := .cells #[.int .i64 0, .int .i64 0, .int .i64 0] 33 (0, 0)) (by (with_reducible repeat first|refine blk_drewN ?_ _|refine blk_drew ?_|refine blk_alloc ?_ _|refine blk_far ?_ NB273_286.out _); exact BK273.out) hb); replace BK286 := AX (blk_below (g := gb286) (o := .cells #[.int .i64 t282, .int .i64 t283, .int .i64 t284] 33 (0, 0)) (by (with_reducible repeat first|refine blk_drewN ?_ _|refine blk_drew ?_|refine blk_alloc ?_ _); refine blk_put (cs := #[.int .i64 t282, .int .i64 t283, .int .i64 0]) ?_ 2 _ rfl; (with_reducible repeat first|refine blk_drewN ?_ _|refine blk_drew ?_|refine blk_alloc ?_ _); refine blk_put (cs := #[.int .i64 t282, .int .i64 0, .int .i64 0]) ?_ 1 _ rfl; (with_reducible repeat first|refine blk_drewN ?_ _|refine blk_drew ?_|refine blk_alloc ?_ _); refine blk_put (cs := #[.int .i64 0, .int .i64 0, .int .i64 0]) ?_ 0 _ rfl; (with_reducible repeat first|refine blk_drewN ?_ _|refine blk_drew ?_|refine blk_alloc ?_ _); exact BK286.out) hb); replace HB := AX (below_step bw hb); (try clear hb); obtain ⟨hcz68_0, hcz68_1, hcz68_2⟩ := blkC3 (w := w67) BK286.out; obtain ⟨hfz68_0, hfz68_1, hfz68_2⟩ := blkF3 BK286.out; obtain ⟨hcz69_0, hcz69_1, hcz69_2⟩ := blkC3 (w := w67) BK273.out; obtain ⟨hfz69_0, hfz69_1, hfz69_2⟩ := blkF3 BK273.out))
        refine bodyPost_ret (results_ct rfl _ _ gb273 33 #[.int .i64 0, .int .i64 0, .int .i64 0] (0, 0) _ rfl (by (with_reducible repeat first|refine blk_drewN ?_ _|refine blk_drew ?_|refine blk_alloc ?_ _); refine blk_put (cs := #[.int .i64 0, .int .i64 0, .int .i64 0]) ?_ 2 _ rfl; (with_reducible repeat first|refine blk_drewN ?_ _|refine blk_drew ?_|refine blk_alloc ?_ _); refine blk_put (cs := #[.int .i64 0, .int .i64 0, .int .i64 0]) ?_ 1 _ rfl; (with_reducible repeat first|refine blk_drewN ?_ _|refine blk_drew ?_|refine blk_alloc ?_ _); refine blk_put (cs := #[.int .i64 0, .int .i64 0, .int .i64 0]) ?_ 0 _ rfl; (with_reducible repeat first|refine blk_drewN ?_ _|refine blk_drew ?_|refine blk_alloc ?_ _); refine blk_far ?_ NB273_286.out _; (with_reducible repeat first|refine blk_drewN ?_ _|refine blk_drew ?_|refine blk_alloc ?_ _); refine blk_far ?_ NB273_286.out _; (with_reducible repeat first|refine blk_drewN ?_ _|refine blk_drew ?_|refine blk_alloc ?_ _); refine blk_far ?_ NB273_286.out _; (with_reducible repeat first|refine blk_drewN ?_ _|refine blk_drew ?_|refine blk_alloc ?_ _); exact BK273.out) Try.underlying33 rfl (by kernel_rfl)) rfl ?_
        exact ⟨by first | rfl | (simp [errW_none, errW_some] <;> rfl) | (simp [*, errW_none, errW_some] <;> rfl), bw⟩
 ·rw [if_neg c4] at H
  have c4b0 : (t274 == 0) = false := beq_eq_false_iff_ne.mpr c4
  have c4b1 : (t274 != 0) = true := bne_iff_ne.mpr c4
  simp only [Option.some.injEq, Prod.mk.injEq] at H
  obtain ⟨rfl, rfl, rfl, rfl⟩ := H
  go_enter Try.func29, Try.ntmps29
  go_wp2_with (first | ((with_reducible refine gate_dst (N := 2) rfl ?_); refine bx 2 #[.int .i64 a0_0, .int .i64 a0_1, .int .i64 a0_2, .int .i64 a0_3] 25 ?_; intro gb272 hg w70 hbox hb; have BK272 := AX (hbox); have GW272 := gwl (w := w) hg bw; have GE272 := GW272; replace HB := AX (below_step bw hb); clear hb hbox hg) | ((with_reducible refine gate_dst (N := 4) rfl ?_); refine bx 4 #[.int .i64 0, .int .i64 0, .int .i64 0] 33 ?_; intro gb273 hg w71 hbox hb; have BK273 := AX (hbox); have GW273 := gwl (w := w) hg bw; have GE273 := GW273; have NB272_273 := nbl hg (bkn BK272); have NB273_272 := nbg hg (bkn BK272); replace BK272 := AX (bkb BK272 hb); replace HB := AX (below_step bw hb); clear hb hbox hg; have hnb72 := NB272_273.out; have hnc72 := NB273_272.out; obtain ⟨hcz73_0, hcz73_1, hcz73_2, hcz73_3⟩ := blkC4 (w := w71) BK272.out; obtain ⟨hfz73_0, hfz73_1, hfz73_2, hfz73_3⟩ := blkF4 BK272.out) | ((with_reducible refine gate_callee (f := 15) rfl ?_); refine gL (some 13) Try.func15 #[.agg #[.int .i64 a0_0, .int .i64 a0_1, .int .i64 a0_2, .int .i64 a0_3]] ?_; (with_reducible refine (pylonref05_Check.calls k a0_0 a0_1 a0_2 a0_3 t274 _ A3.out).mono ?_); rintro e w74 ⟨rfl, hb⟩; refine ⟨_, rfl, ?_⟩; replace BK272 := AX (bkb BK272 hb); replace BK273 := AX (bkb BK273 hb); replace HB := AX (below_step bw hb); (try clear hb); obtain ⟨hcz75_0, hcz75_1, hcz75_2⟩ := blkC3 (w := w74) BK273.out; obtain ⟨hfz75_0, hfz75_1, hfz75_2⟩ := blkF3 BK273.out))
  refine bodyPost_ret (results_ct rfl _ _ gb273 33 #[.int .i64 0, .int .i64 0, .int .i64 0] (0, 0) _ rfl (by (with_reducible repeat first|refine blk_drewN ?_ _|refine blk_drew ?_|refine blk_alloc ?_ _); refine blk_put (cs := #[.int .i64 0, .int .i64 0, .int .i64 0]) ?_ 2 _ rfl; (with_reducible repeat first|refine blk_drewN ?_ _|refine blk_drew ?_|refine blk_alloc ?_ _); refine blk_put (cs := #[.int .i64 0, .int .i64 0, .int .i64 0]) ?_ 1 _ rfl; (with_reducible repeat first|refine blk_drewN ?_ _|refine blk_drew ?_|refine blk_alloc ?_ _); refine blk_put (cs := #[.int .i64 0, .int .i64 0, .int .i64 0]) ?_ 0 _ rfl; (with_reducible repeat first|refine blk_drewN ?_ _|refine blk_drew ?_|refine blk_alloc ?_ _); exact BK273.out) Try.underlying33 rfl (by kernel_rfl)) rfl ?_
  exact ⟨by first | rfl | (simp [errW_none, errW_some] <;> rfl) | (simp [*, errW_none, errW_some] <;> rfl), bw⟩

/-! ### pylonref05_falls: function 36 -/
mutual
def pylonref05_falls.l0 : Nat → List (S25) → Int → Int → Int → Int → Int → Option (Bool)
 | 0, _, _, _, _, _, _ => none
 | k + 1, x0, x10, x11, x292000, x292001, x292002 => if x11 < x10 then (pylonref05_falls.l1 k x0 x11 (wrap64 (x292000 - 1)) x10 x11 x292000 x292001 x292002) else (some false)
def pylonref05_falls.l1 : Nat → List (S25) → Int → Int → Int → Int → Int → Int → Int → Option (Bool)
 | 0, _, _, _, _, _, _, _, _ => none
 | k + 1, x0, x5, x6, x10, x11, x292000, x292001, x292002 => if x6 ≤ (wrap64 (x292000 + 1)) then (if 0 ≤ x5 then (if x5 < (x0.length : Int) then ((pylonref05_On.f k ((rd_T25 x0 x5).f0) ((rd_T25 x0 x5).f1) ((rd_T25 x0 x5).f2) ((rd_T25 x0 x5).f3) x6).bind fun bt293 => (if bt293.2.2.2 = 0 then (if (bt293.1 == x292000 && (bt293.2.1 == x292001 && (bt293.2.2.1 == x292002))) = true then (some true) else (pylonref05_falls.l1 k x0 x5 (wrap64 (x6 + 1)) x10 x11 x292000 x292001 x292002)) else (pylonref05_falls.l1 k x0 x5 (wrap64 (x6 + 1)) x10 x11 x292000 x292001 x292002))) else (none)) else (none)) else (pylonref05_falls.l0 k x0 x10 (wrap64 (x11 + 1)) x292000 x292001 x292002)
end
def pylonref05_falls.f (k : Nat) (l0 : List (S25)) (a1_0 : Int) (a1_1 : Int) (a1_2 : Int) : Option (Bool) := pylonref05_falls.l0 k l0 (l0.length : Int) 0 a1_0 a1_1 a1_2
theorem pylonref05_falls.mono_l : ∀ k, (∀ y0 y1 y2 y3 y4 y5, LeO (pylonref05_falls.l0 k y0 y1 y2 y3 y4 y5) (pylonref05_falls.l0 (k + 1) y0 y1 y2 y3 y4 y5)) ∧ (∀ y0 y1 y2 y3 y4 y5 y6 y7, LeO (pylonref05_falls.l1 k y0 y1 y2 y3 y4 y5 y6 y7) (pylonref05_falls.l1 (k + 1) y0 y1 y2 y3 y4 y5 y6 y7))
 | 0 => ⟨fun _ _ _ _ _ _ r h => by simp [pylonref05_falls.l0] at h, fun _ _ _ _ _ _ _ _ r h => by simp [pylonref05_falls.l1] at h⟩
 | k + 1 => by
  obtain ⟨ih0, ih1⟩ := pylonref05_falls.mono_l k
  refine ⟨?_, ?_⟩
  ·intro y0 y1 y2 y3 y4 y5
   unfold pylonref05_falls.l0
   repeat' first
   | (with_reducible exact ih0 _ _ _ _ _ _)
   | (with_reducible exact ih1 _ _ _ _ _ _ _ _)
   | (with_reducible exact pylonref05_On.mono _ _ _ _ _ _)
   | (with_reducible exact LeO.refl _)
   | (with_reducible exact LeO.none _)
   | (with_reducible refine LeO.ite ?_ ?_)
   | (with_reducible refine LeO.bind ?_ (fun _ => ?_))
  ·intro y0 y1 y2 y3 y4 y5 y6 y7
   unfold pylonref05_falls.l1
   repeat' first
   | (with_reducible exact ih0 _ _ _ _ _ _)
   | (with_reducible exact ih1 _ _ _ _ _ _ _ _)
   | (with_reducible exact pylonref05_On.mono _ _ _ _ _ _)
   | (with_reducible exact LeO.refl _)
   | (with_reducible exact LeO.none _)
   | (with_reducible refine LeO.ite ?_ ?_)
   | (with_reducible refine LeO.bind ?_ (fun _ => ?_))
theorem pylonref05_falls.mono : ∀ a0 a1 a2 a3 k, LeO (pylonref05_falls.f k a0 a1 a2 a3) (pylonref05_falls.f (k + 1) a0 a1 a2 a3) := by
 intro a0 a1 a2 a3 k
 obtain ⟨ih0, ih1⟩ := pylonref05_falls.mono_l k
 unfold pylonref05_falls.f
 repeat' first
   | (with_reducible exact ih0 _ _ _ _ _ _)
   | (with_reducible exact ih1 _ _ _ _ _ _ _ _)
   | (with_reducible exact pylonref05_On.mono _ _ _ _ _ _)
   | (with_reducible exact LeO.refl _)
   | (with_reducible exact LeO.none _)
   | (with_reducible refine LeO.ite ?_ ?_)
   | (with_reducible refine LeO.bind ?_ (fun _ => ?_))
set_option maxHeartbeats 8000000 in
set_option maxRecDepth 100000 in
theorem pylonref05_falls.calls (k : Nat) (A0 : Option Addr) (c0 : Nat) (l0 : List (S25)) (a1_0 : Int) (a1_1 : Int) (a1_2 : Int) (r : Bool) (w : World) (hr0 : Kd.C k25 w A0 l0.length l0) (hc0 : l0.length ≤ c0) (h : pylonref05_falls.f k l0 a1_0 a1_1 a1_2 = some r) :
  Calls Try.prog 36 #[.slice A0 l0.length c0, .agg #[.int .i64 a1_0, .int .i64 a1_1, .int .i64 a1_2]] w fun e w' => e = .returned (.bool r) ∧ Below w.heap.size w w' := by
 have hu33 := Try.underlying33
 have hu25 := Try.underlying25
 have HR0 := AX hr0
 have HC0 := AX hc0
 clear hr0 hc0
 have HB := AX (Below.refl w.heap.size w)
 have H : (pylonref05_falls.l0 k l0 (l0.length : Int) 0 a1_0 a1_1 a1_2) = some r := h
 clear h
 have H' := AX H
 clear H
 go_enter Try.func36, Try.ntmps36
 go_wp2_with (first | ((with_reducible refine gate_dst (N := 3) rfl ?_); refine bx 3 #[.int .i64 a1_0, .int .i64 a1_1, .int .i64 a1_2] 33 ?_; intro gb291 hg w3 hbox hb; have BK291 := AX (hbox); have GW291 := gwl (w := w) hg bw; have GE291 := GW291; replace HB := AX (below_step bw hb); clear hb hbox hg))
 go_loopg [11] k (fun kq v11 w' => ∃ (x11_1 : Int), v11 = .int .i64 x11_1 ∧ Aside0 (pylonref05_falls.l0 kq l0 (l0.length : Int) x11_1 a1_0 a1_1 a1_2 = some r) ∧ Aside0 (kq ≤ k) ∧ Aside0 (w'.heap[gb291]? = some (.cells #[.int .i64 a1_0, .int .i64 a1_1, .int .i64 a1_2] 33 (0, 0))) ∧ Aside0 (Below w.heap.size w w'))
 case atStart => exact ⟨(0), (by first | rfl | (simp; done) | (simp [*]; done)), H', ⟨Nat.le_refl _⟩, ⟨bkn BK291⟩, ⟨bw⟩⟩
 case round =>
  clear H'
  obtain ⟨x11_1, rfl, HA, HK1, BK291, HB⟩ := hrel
  cases gk with
  | zero => exact absurd HA.out (by simp [pylonref05_falls.l0])
  | succ k1 =>
   have H := HA.out
   clear HA
   simp only [pylonref05_falls.l0] at H
   by_cases c4 : x11_1 < (l0.length : Int)
   ·rw [if_pos c4] at H
    have c4b0 : decide (x11_1 < (l0.length : Int)) = true := decide_eq_true c4
    clear c4
    have H' := AX H
    clear H
    obtain ⟨hcz5_0, hcz5_1, hcz5_2⟩ := blkC3 (w := wr) BK291.out
    obtain ⟨hfz5_0, hfz5_1, hfz5_2⟩ := blkF3 BK291.out
    go_wp2
    go_loopg [6] k1 (fun kq v6 w' => ∃ (x6_2 : Int), v6 = .int .i64 x6_2 ∧ Aside0 (pylonref05_falls.l1 kq l0 x11_1 x6_2 (l0.length : Int) x11_1 a1_0 a1_1 a1_2 = some r) ∧ Aside0 (kq ≤ k1) ∧ Aside0 (w'.heap[gb291]? = some (.cells #[.int .i64 a1_0, .int .i64 a1_1, .int .i64 a1_2] 33 (0, 0))) ∧ Aside0 (Below w.heap.size w w'))
    case atStart => exact ⟨(wrap64 (a1_0 - 1)), (by first | rfl | (simp; done) | (simp [*]; done)), H', ⟨Nat.le_refl _⟩, ⟨bkn BK291⟩, ⟨bw⟩⟩
    case round =>
     clear H'
     try clear c4b0
     try clear hcz5_0 hcz5_1 hcz5_2
     try clear hfz5_0 hfz5_1 hfz5_2
     obtain ⟨x6_2, rfl, HA, HK2, BK291, HB⟩ := hrel
     cases gk with
     | zero => exact absurd HA.out (by simp [pylonref05_falls.l1])
     | succ k2 =>
      have H := HA.out
      clear HA
      simp only [pylonref05_falls.l1] at H
      by_cases c6 : x6_2 ≤ (wrap64 (a1_0 + 1))
      ·rw [if_pos c6] at H
       have c6b0 : decide (x6_2 ≤ (wrap64 (a1_0 + 1))) = true := decide_eq_true c6
       clear c6
       by_cases c7 : 0 ≤ x11_1
       ·rw [if_pos c7] at H
        have c7b0 : decide (0 ≤ x11_1) = true := decide_eq_true c7
        clear c7
        by_cases c8 : x11_1 < (l0.length : Int)
        ·rw [if_pos c8] at H
         have c8b0 : decide (x11_1 < (l0.length : Int)) = true := decide_eq_true c8
         clear c8
         replace H := Option.bind_eq_some_iff.mp H
         obtain ⟨⟨t293, t294, t295, t296⟩, A90, H⟩ := H
         replace H : (if t296 = 0 then (if (t293 == a1_0 && (t294 == a1_1 && (t295 == a1_2))) = true then (some true) else (pylonref05_falls.l1 k2 l0 x11_1 (wrap64 (x6_2 + 1)) (l0.length : Int) x11_1 a1_0 a1_1 a1_2)) else (pylonref05_falls.l1 k2 l0 x11_1 (wrap64 (x6_2 + 1)) (l0.length : Int) x11_1 a1_0 a1_1 a1_2)) = some r := H
         have A9 := AX A90
         clear A90
         by_cases c10 : t296 = 0
         ·rw [if_pos c10] at H
          have c10b0 : (t296 == 0) = true := beq_iff_eq.mpr c10
          have c10b1 : (t296 != 0) = false := bne_eq_false_iff_eq.mpr c10
          clear c10
          by_cases c11 : (t293 == a1_0 && (t294 == a1_1 && (t295 == a1_2))) = true
          ·rw [if_pos c11] at H
           have c11b0 : (t293 == a1_0 && (t294 == a1_1 && (t295 == a1_2))) = true := c11
           (try (have c11b1 : decide (t293 = a1_0 && (t294 == a1_1 && (t295 == a1_2))) = true := by simpa using c11))
           (try (have c11b2 : (t293 == a1_0 && (t294 == a1_1 && (t295 == a1_2))) = true := by simpa using c11))
           clear c11
           obtain rfl := Option.some.inj H
           obtain ⟨hcz12_0, hcz12_1, hcz12_2⟩ := blkC3 (w := wr) BK291.out
           obtain ⟨hfz12_0, hfz12_1, hfz12_2⟩ := blkF3 BK291.out
           have p292 : 0 ≤ (x11_1 : Int) := of_decide_eq_true (by first | (with_reducible assumption) | assumption)
           have q292 : x11_1 < (l0.length : Int) := of_decide_eq_true (by first | (with_reducible assumption) | assumption)
           obtain ⟨ad292, e292, hx292_0, hx292_1, hx292_2, hx292_3⟩ := at_T25 HR0.out x11_1 p292 q292
           cases e292
           replace hx292_0 := bcl HB hx292_0
           replace hx292_1 := bcl HB hx292_1
           replace hx292_2 := bcl HB hx292_2
           replace hx292_3 := bcl HB hx292_3
           replace p292 := eq_true p292
           replace q292 := eq_true q292
           go_wp2_with (first | ((with_reducible refine gate_callee (f := 29) rfl ?_); refine gL (some 30) Try.func29 #[.agg #[.int .i64 ((rd_T25 l0 x11_1).f0), .int .i64 ((rd_T25 l0 x11_1).f1), .int .i64 ((rd_T25 l0 x11_1).f2), .int .i64 ((rd_T25 l0 x11_1).f3)], .int .i64 x6_2] ?_; (with_reducible refine (pylonref05_On.calls k2 ((rd_T25 l0 x11_1).f0) ((rd_T25 l0 x11_1).f1) ((rd_T25 l0 x11_1).f2) ((rd_T25 l0 x11_1).f3) x6_2 t293 t294 t295 t296 _ A9.out).mono ?_); rintro e w13 ⟨rfl, hb⟩; refine ⟨_, rfl, ?_⟩; replace BK291 := AX (bkb BK291 hb); replace HB := AX (below_step bw hb); (try clear hb)) | ((with_reducible refine gate_dst (N := 7) rfl ?_); refine bx 7 #[.int .i64 0, .int .i64 0, .int .i64 0] 33 ?_; intro gb297 hg w14 hbox hb; have BK297 := AX (hbox); have GW297 := gwl (w := w) hg bw; have GE297 := GW297; have NB291_297 := nbl hg (bkn BK291); have NB297_291 := nbg hg (bkn BK291); replace BK291 := AX (bkb BK291 hb); replace HB := AX (below_step bw hb); clear hb hbox hg; have hnb15 := NB297_291.out; have hnc15 := NB291_297.out; obtain ⟨hcz16_0, hcz16_1, hcz16_2⟩ := blkC3 (w := w14) BK297.out; obtain ⟨hfz16_0, hfz16_1, hfz16_2⟩ := blkF3 BK297.out; obtain ⟨hcz17_0, hcz17_1, hcz17_2⟩ := blkC3 (w := w14) BK291.out; obtain ⟨hfz17_0, hfz17_1, hfz17_2⟩ := blkF3 BK291.out))
           go_ret
           exact ⟨by first | rfl | (simp [errW_none, errW_some] <;> rfl) | (simp [*, errW_none, errW_some] <;> rfl), bw⟩
          ·rw [if_neg c11] at H
           have c11b0 : (t293 == a1_0 && (t294 == a1_1 && (t295 == a1_2))) = false := by simpa using c11
           (try (have c11b1 : decide (t293 = a1_0 && (t294 == a1_1 && (t295 == a1_2))) = false := by simpa using c11))
           (try (have c11b2 : (t293 == a1_0 && (t294 == a1_1 && (t295 == a1_2))) = false := by simpa using c11))
           (try (have c11b3 : ¬ (t293 = a1_0 && (t294 == a1_1 && (t295 == a1_2))) := by simpa using c11))
           clear c11
           have H' := AX H
           clear H
           obtain ⟨hcz18_0, hcz18_1, hcz18_2⟩ := blkC3 (w := wr) BK291.out
           obtain ⟨hfz18_0, hfz18_1, hfz18_2⟩ := blkF3 BK291.out
           have p292 : 0 ≤ (x11_1 : Int) := of_decide_eq_true (by first | (with_reducible assumption) | assumption)
           have q292 : x11_1 < (l0.length : Int) := of_decide_eq_true (by first | (with_reducible assumption) | assumption)
           obtain ⟨ad292, e292, hx292_0, hx292_1, hx292_2, hx292_3⟩ := at_T25 HR0.out x11_1 p292 q292
           cases e292
           replace hx292_0 := bcl HB hx292_0
           replace hx292_1 := bcl HB hx292_1
           replace hx292_2 := bcl HB hx292_2
           replace hx292_3 := bcl HB hx292_3
           replace p292 := eq_true p292
           replace q292 := eq_true q292
           go_wp2_with (first | ((with_reducible refine gate_callee (f := 29) rfl ?_); refine gL (some 30) Try.func29 #[.agg #[.int .i64 ((rd_T25 l0 x11_1).f0), .int .i64 ((rd_T25 l0 x11_1).f1), .int .i64 ((rd_T25 l0 x11_1).f2), .int .i64 ((rd_T25 l0 x11_1).f3)], .int .i64 x6_2] ?_; (with_reducible refine (pylonref05_On.calls k2 ((rd_T25 l0 x11_1).f0) ((rd_T25 l0 x11_1).f1) ((rd_T25 l0 x11_1).f2) ((rd_T25 l0 x11_1).f3) x6_2 t293 t294 t295 t296 _ A9.out).mono ?_); rintro e w19 ⟨rfl, hb⟩; refine ⟨_, rfl, ?_⟩; replace BK291 := AX (bkb BK291 hb); replace HB := AX (below_step bw hb); (try clear hb)) | ((with_reducible refine gate_dst (N := 7) rfl ?_); refine bx 7 #[.int .i64 0, .int .i64 0, .int .i64 0] 33 ?_; intro gb297 hg w20 hbox hb; have BK297 := AX (hbox); have GW297 := gwl (w := w) hg bw; have GE297 := GW297; have NB291_297 := nbl hg (bkn BK291); have NB297_291 := nbg hg (bkn BK291); replace BK291 := AX (bkb BK291 hb); replace HB := AX (below_step bw hb); clear hb hbox hg; have hnb21 := NB297_291.out; have hnc21 := NB291_297.out; obtain ⟨hcz22_0, hcz22_1, hcz22_2⟩ := blkC3 (w := w20) BK297.out; obtain ⟨hfz22_0, hfz22_1, hfz22_2⟩ := blkF3 BK297.out; obtain ⟨hcz23_0, hcz23_1, hcz23_2⟩ := blkC3 (w := w20) BK291.out; obtain ⟨hfz23_0, hfz23_1, hfz23_2⟩ := blkF3 BK291.out))
           go_roundg k2
           case measure => have := HK1.out; have := HK2.out; omega
           case rel => exact ⟨(wrap64 (x6_2 + 1)), (by first | rfl | (simp; done) | (simp [*]; done)), H', ⟨by have := HK1.out; have := HK2.out; omega⟩, ⟨by (with_reducible repeat first|refine blk_drewN ?_ _|refine blk_drew ?_|refine blk_alloc ?_ _); refine blk_far ?_ NB291_297.out _; (with_reducible repeat first|refine blk_drewN ?_ _|refine blk_drew ?_|refine blk_alloc ?_ _); refine blk_far ?_ NB291_297.out _; (with_reducible repeat first|refine blk_drewN ?_ _|refine blk_drew ?_|refine blk_alloc ?_ _); refine blk_far ?_ NB291_297.out _; (with_reducible repeat first|refine blk_drewN ?_ _|refine blk_drew ?_|refine blk_alloc ?_ _); exact BK291.out⟩, ⟨bw⟩⟩
         ·rw [if_neg c10] at H
          have c10b0 : (t296 == 0) = false := beq_eq_false_iff_ne.mpr c10
          have c10b1 : (t296 != 0) = true := bne_iff_ne.mpr c10
          have H' := AX H
          clear H
          obtain ⟨hcz24_0, hcz24_1, hcz24_2⟩ := blkC3 (w := wr) BK291.out
          obtain ⟨hfz24_0, hfz24_1, hfz24_2⟩ := blkF3 BK291.out
          have p292 : 0 ≤ (x11_1 : Int) := of_decide_eq_true (by first | (with_reducible assumption) | assumption)
          have q292 : x11_1 < (l0.length : Int) := of_decide_eq_true (by first | (with_reducible assumption) | assumption)
          obtain ⟨ad292, e292, hx292_0, hx292_1, hx292_2, hx292_3⟩ := at_T25 HR0.out x11_1 p292 q292
          cases e292
          replace hx292_0 := bcl HB hx292_0
          replace hx292_1 := bcl HB hx292_1
          replace hx292_2 := bcl HB hx292_2
          replace hx292_3 := bcl HB hx292_3
          replace p292 := eq_true p292
          replace q292 := eq_true q292
          go_wp2_with (first | ((with_reducible refine gate_callee (f := 29) rfl ?_); refine gL (some 30) Try.func29 #[.agg #[.int .i64 ((rd_T25 l0 x11_1).f0), .int .i64 ((rd_T25 l0 x11_1).f1), .int .i64 ((rd_T25 l0 x11_1).f2), .int .i64 ((rd_T25 l0 x11_1).f3)], .int .i64 x6_2] ?_; (with_reducible refine (pylonref05_On.calls k2 ((rd_T25 l0 x11_1).f0) ((rd_T25 l0 x11_1).f1) ((rd_T25 l0 x11_1).f2) ((rd_T25 l0 x11_1).f3) x6_2 t293 t294 t295 t296 _ A9.out).mono ?_); rintro e w25 ⟨rfl, hb⟩; refine ⟨_, rfl, ?_⟩; replace BK291 := AX (bkb BK291 hb); replace HB := AX (below_step bw hb); (try clear hb)) | ((with_reducible refine gate_dst (N := 7) rfl ?_); refine bx 7 #[.int .i64 0, .int .i64 0, .int .i64 0] 33 ?_; intro gb297 hg w26 hbox hb; have BK297 := AX (hbox); have GW297 := gwl (w := w) hg bw; have GE297 := GW297; have NB291_297 := nbl hg (bkn BK291); have NB297_291 := nbg hg (bkn BK291); replace BK291 := AX (bkb BK291 hb); replace HB := AX (below_step bw hb); clear hb hbox hg; have hnb27 := NB297_291.out; have hnc27 := NB291_297.out; obtain ⟨hcz28_0, hcz28_1, hcz28_2⟩ := blkC3 (w := w26) BK297.out; obtain ⟨hfz28_0, hfz28_1, hfz28_2⟩ := blkF3 BK297.out))
          go_roundg k2
          case measure => have := HK1.out; have := HK2.out; omega
          case rel => exact ⟨(wrap64 (x6_2 + 1)), (by first | rfl | (simp; done) | (simp [*]; done)), H', ⟨by have := HK1.out; have := HK2.out; omega⟩, ⟨by (with_reducible repeat first|refine blk_drewN ?_ _|refine blk_drew ?_|refine blk_alloc ?_ _); refine blk_far ?_ NB291_297.out _; (with_reducible repeat first|refine blk_drewN ?_ _|refine blk_drew ?_|refine blk_alloc ?_ _); refine blk_far ?_ NB291_297.out _; (with_reducible repeat first|refine blk_drewN ?_ _|refine blk_drew ?_|refine blk_alloc ?_ _); refine blk_far ?_ NB291_297.out _; (with_reducible repeat first|refine blk_drewN ?_ _|refine blk_drew ?_|refine blk_alloc ?_ _); exact BK291.out⟩, ⟨bw⟩⟩
        ·rw [if_neg c8] at H
         exact absurd H (by simp)
       ·rw [if_neg c7] at H
        exact absurd H (by simp)
      ·rw [if_neg c6] at H
       have c6b0 : decide (x6_2 ≤ (wrap64 (a1_0 + 1))) = false := decide_eq_false c6
       clear c6
       have H' := AX H
       clear H
       obtain ⟨hcz29_0, hcz29_1, hcz29_2⟩ := blkC3 (w := wr) BK291.out
       obtain ⟨hfz29_0, hfz29_1, hfz29_2⟩ := blkF3 BK291.out
       go_wp2
       go_roundg k2
       case measure => have := HK1.out; have := HK2.out; omega
       case rel => exact ⟨(wrap64 (x11_1 + 1)), (by first | rfl | (simp; done) | (simp [*]; done)), H', ⟨by have := HK1.out; have := HK2.out; omega⟩, ⟨bkn BK291⟩, ⟨bw⟩⟩
   ·rw [if_neg c4] at H
    have c4b0 : decide (x11_1 < (l0.length : Int)) = false := decide_eq_false c4
    clear c4
    obtain rfl := Option.some.inj H
    go_wp2
    go_ret
    exact ⟨by first | rfl | (simp [errW_none, errW_some] <;> rfl) | (simp [*, errW_none, errW_some] <;> rfl), bw⟩

end Go.Proofs.Ytegedhnbmclbkaa.PX
