/- Functions of the program as plain Lean functions, each with a proof that the call in the machine answers just what the plain function says; condition: the plain function answers at all. -/
import Derived.Test.YtegedhnbmclbkaaPXx0
import Derived.Test.YtegedhnbmclbkaaPXx8
import Derived.Test.YtegedhnbmclbkaaPXx9
namespace Go.Proofs.Ytegedhnbmclbkaa.PX
open Go.RowKit Go.Proofs.YtegedhnbmclbkaaW.PrintWords Go.Proofs.YtegedhnbmclbkaaW.PrintLast Go.Proofs.YtegedhnbmclbkaaW.PrintMore
attribute [local go_sem] max2_int min2_int max_two min_two max_three min_three max_four min_four   -- for this text's walks alone
set_option linter.unusedVariables false
set_option linter.unusedSimpArgs false

/-! ### pylonref03_Nth: function 46 -/
mutual
def pylonref03_Nth.j0 : Nat → Int → Int → Int → Int → Int → Bool → Option (Int × Int × Int × Int)
 | 0, _, _, _, _, _, _ => none
 | k + 1, x0, x1, x2, x3, x10, x40 => if x40 = true then (some (0, 0, 0, 8)) else (pylonref03_Nth.l0 k x0 x1 x2 x3 x10 0 0 1)
def pylonref03_Nth.l0 : Nat → Int → Int → Int → Int → Int → Int → Int → Int → Option (Int × Int × Int × Int)
 | 0, _, _, _, _, _, _, _, _ => none
 | k + 1, x0, x1, x2, x3, x10, x12, x13, x14 => if x14 ≤ x10 then ((pylonref03_Weekday.f k x0 x1 x14).bind fun bt257 => (if bt257.1 = x3 then (if (wrap64 (x12 + 1)) = x2 then (some (x0, x1, x14, 0)) else (pylonref03_Nth.l0 k x0 x1 x2 x3 x10 (wrap64 (x12 + 1)) x14 (wrap64 (x14 + 1)))) else (pylonref03_Nth.l0 k x0 x1 x2 x3 x10 x12 x13 (wrap64 (x14 + 1))))) else (some (x0, x1, x13, 0))
end
def pylonref03_Nth.f (k : Nat) (a0 : Int) (a1 : Int) (a2 : Int) (a3 : Int) : Option (Int × Int × Int × Int) := (pylonref03_Length.f k a0 a1).bind fun bt255 => (if bt255.2 = 0 then (if a2 < 1 then (pylonref03_Nth.j0 k a0 a1 a2 a3 bt255.1 true) else (if a2 > 5 then (pylonref03_Nth.j0 k a0 a1 a2 a3 bt255.1 true) else (if a3 < 0 then (pylonref03_Nth.j0 k a0 a1 a2 a3 bt255.1 true) else (pylonref03_Nth.j0 k a0 a1 a2 a3 bt255.1 (decide (a3 > 6)))))) else (some (0, 0, 0, bt255.2)))
theorem pylonref03_Nth.mono_l : ∀ k, (∀ y0 y1 y2 y3 y4 y5, LeO (pylonref03_Nth.j0 k y0 y1 y2 y3 y4 y5) (pylonref03_Nth.j0 (k + 1) y0 y1 y2 y3 y4 y5)) ∧ (∀ y0 y1 y2 y3 y4 y5 y6 y7, LeO (pylonref03_Nth.l0 k y0 y1 y2 y3 y4 y5 y6 y7) (pylonref03_Nth.l0 (k + 1) y0 y1 y2 y3 y4 y5 y6 y7))
 | 0 => ⟨fun _ _ _ _ _ _ r h => by simp [pylonref03_Nth.j0] at h, fun _ _ _ _ _ _ _ _ r h => by simp [pylonref03_Nth.l0] at h⟩
 | k + 1 => by
  obtain ⟨ih0, ih1⟩ := pylonref03_Nth.mono_l k
  refine ⟨?_, ?_⟩
  ·intro y0 y1 y2 y3 y4 y5
   unfold pylonref03_Nth.j0
   repeat' first
   | (with_reducible exact ih0 _ _ _ _ _ _)
   | (with_reducible exact ih1 _ _ _ _ _ _ _ _)
   | (with_reducible exact pylonref03_Length.mono _ _ _)
   | (with_reducible exact pylonref03_Weekday.mono _ _ _ _)
   | (with_reducible exact LeO.refl _)
   | (with_reducible exact LeO.none _)
   | (with_reducible refine LeO.ite ?_ ?_)
   | (with_reducible refine LeO.bind ?_ (fun _ => ?_))
  ·intro y0 y1 y2 y3 y4 y5 y6 y7
   unfold pylonref03_Nth.l0
   repeat' first
   | (with_reducible exact ih0 _ _ _ _ _ _)
   | (with_reducible exact ih1 _ _ _ _ _ _ _ _)
   | (with_reducible exact pylonref03_Length.mono _ _ _)
   | (with_reducible exact pylonref03_Weekday.mono _ _ _ _)
   | (with_reducible exact LeO.refl _)
   | (with_reducible exact LeO.none _)
   | (with_reducible refine LeO.ite ?_ ?_)
   | (with_reducible refine LeO.bind ?_ (fun _ => ?_))
theorem pylonref03_Nth.mono : ∀ a0 a1 a2 a3 k, LeO (pylonref03_Nth.f k a0 a1 a2 a3) (pylonref03_Nth.f (k + 1) a0 a1 a2 a3) := by
 intro a0 a1 a2 a3 k
 obtain ⟨ih0, ih1⟩ := pylonref03_Nth.mono_l k
 unfold pylonref03_Nth.f
 repeat' first
   | (with_reducible exact ih0 _ _ _ _ _ _)
   | (with_reducible exact ih1 _ _ _ _ _ _ _ _)
   | (with_reducible exact pylonref03_Length.mono _ _ _)
   | (with_reducible exact pylonref03_Weekday.mono _ _ _ _)
   | (with_reducible exact LeO.refl _)
   | (with_reducible exact LeO.none _)
   | (with_reducible refine LeO.ite ?_ ?_)
   | (with_reducible refine LeO.bind ?_ (fun _ => ?_))
set_option maxHeartbeats 8000000 in
set_option maxRecDepth 100000 in
theorem pylonref03_Nth.calls (k : Nat) (a0 : Int) (a1 : Int) (a2 : Int) (a3 : Int) (r1 : Int) (r2 : Int) (r3 : Int) (r4 : Int) (w : World) (h : pylonref03_Nth.f k a0 a1 a2 a3 = some (r1, r2, r3, r4)) :
  Calls Try.prog 46 #[.int .i64 a0, .int .i64 a1, .int .i64 a2, .int .i64 a3] w fun e w' => e = .returned (.tuple #[.agg #[.int .i64 r1, .int .i64 r2, .int .i64 r3], .int .i64 r4]) ∧ Below w.heap.size w w' := by
 have hu33 := Try.underlying33
 have HB := AX (Below.refl w.heap.size w)
 have H : ((pylonref03_Length.f k a0 a1).bind fun bt255 => (if bt255.2 = 0 then (if a2 < 1 then (pylonref03_Nth.j0 k a0 a1 a2 a3 bt255.1 true) else (if a2 > 5 then (pylonref03_Nth.j0 k a0 a1 a2 a3 bt255.1 true) else (if a3 < 0 then (pylonref03_Nth.j0 k a0 a1 a2 a3 bt255.1 true) else (pylonref03_Nth.j0 k a0 a1 a2 a3 bt255.1 (decide (a3 > 6)))))) else (some (0, 0, 0, bt255.2)))) = some (r1, r2, r3, r4) := h
 clear h
 replace H := Option.bind_eq_some_iff.mp H
 obtain ⟨⟨t255, t256⟩, A50, H⟩ := H
 replace H : (if t256 = 0 then (if a2 < 1 then (pylonref03_Nth.j0 k a0 a1 a2 a3 t255 true) else (if a2 > 5 then (pylonref03_Nth.j0 k a0 a1 a2 a3 t255 true) else (if a3 < 0 then (pylonref03_Nth.j0 k a0 a1 a2 a3 t255 true) else (pylonref03_Nth.j0 k a0 a1 a2 a3 t255 (decide (a3 > 6)))))) else (some (0, 0, 0, t256))) = some (r1, r2, r3, r4) := H
 have A5 := AX A50
 clear A50
 by_cases c6 : t256 = 0
 ·rw [if_pos c6] at H
  have c6b0 : (t256 == 0) = true := beq_iff_eq.mpr c6
  have c6b1 : (t256 != 0) = false := bne_eq_false_iff_eq.mpr c6
  clear c6
  have HC7 := AX H
  clear H
  go_enter Try.func46, Try.ntmps46
  go_upto_region 4 with (first | ((with_reducible refine gate_dst (N := 8) rfl ?_); refine bx 8 #[.int .i64 0, .int .i64 0, .int .i64 0] 33 ?_; intro gb254 hg w8 hbox hb; have BK254 := AX (hbox); have GW254 := gwl (w := w) hg bw; have GE254 := GW254; replace HB := AX (below_step bw hb); clear hb hbox hg) | ((with_reducible refine gate_callee (f := 31) rfl ?_); refine gL (some 20) Try.func31 #[.int .i64 a0, .int .i64 a1] ?_; (with_reducible refine (pylonref03_Length.calls k a0 a1 t255 t256 _ A5.out).mono ?_); rintro e w' ⟨rfl, ⟨nd, rfl⟩⟩; refine ⟨_, rfl, ?_⟩))
  (try simp only [Act.put, List.setIfInBounds_toArray, List.set_cons_zero, List.set_cons_succ])
  go_cut [40] (fun v40 wc => ∃ (kq : Nat) (x40_6 : Bool), v40 = .bool x40_6 ∧ Aside0 (pylonref03_Nth.j0 kq a0 a1 a2 a3 t255 x40_6 = some (r1, r2, r3, r4)) ∧ Aside0 (kq ≤ k) ∧ Aside0 (wc.heap[gb254]? = some (.cells #[.int .i64 0, .int .i64 0, .int .i64 0] 33 (0, 0))) ∧ Aside0 (Below w.heap.size w wc))
  case first =>
   have H := HC7.out
   clear HC7
   by_cases c9 : a2 < 1
   ·rw [if_pos c9] at H
    have c9b0 : decide (a2 < 1) = true := decide_eq_true c9
    clear c9
    (first | rw [c9b0] | (simp only [i64_w, i32_w]; rw [c9b0]) | skip)
    have H' := AX H
    clear H
    go_wp2
    go_meet
    case rel => exact ⟨_, (true), (by first | rfl | (simp; done) | (simp [*]; done)), H', ⟨by first | omega | exact Nat.le_refl _⟩, ⟨bkn BK254⟩, ⟨bw⟩⟩
   ·rw [if_neg c9] at H
    have c9b0 : decide (a2 < 1) = false := decide_eq_false c9
    clear c9
    (first | rw [c9b0] | (simp only [i64_w, i32_w]; rw [c9b0]) | skip)
    by_cases c10 : a2 > 5
    ·rw [if_pos c10] at H
     have c10b0 : decide (5 < a2) = true := decide_eq_true c10
     clear c10
     have H' := AX H
     clear H
     go_wp2
     go_meet
     case rel => exact ⟨_, (true), (by first | rfl | (simp; done) | (simp [*]; done)), H', ⟨by first | omega | exact Nat.le_refl _⟩, ⟨bkn BK254⟩, ⟨bw⟩⟩
    ·rw [if_neg c10] at H
     have c10b0 : decide (5 < a2) = false := decide_eq_false c10
     clear c10
     by_cases c11 : a3 < 0
     ·rw [if_pos c11] at H
      have c11b0 : decide (a3 < 0) = true := decide_eq_true c11
      clear c11
      have H' := AX H
      clear H
      go_wp2
      go_meet
      case rel => exact ⟨_, (true), (by first | rfl | (simp; done) | (simp [*]; done)), H', ⟨by first | omega | exact Nat.le_refl _⟩, ⟨bkn BK254⟩, ⟨bw⟩⟩
     ·rw [if_neg c11] at H
      have c11b0 : decide (a3 < 0) = false := decide_eq_false c11
      clear c11
      have H' := AX H
      clear H
      go_wp2
      go_meet
      case rel => exact ⟨_, (decide (a3 > 6)), (by first | rfl | (simp; done) | (simp [*]; done)), H', ⟨by first | omega | exact Nat.le_refl _⟩, ⟨bkn BK254⟩, ⟨bw⟩⟩
  case rest =>
   clear HC7
   try clear c6b0 c6b1
   obtain ⟨kq, x40_6, rfl, HA, HJ6, BK254, HB⟩ := hcut
   cases kq with
   | zero => exact absurd HA.out (by simp [pylonref03_Nth.j0])
   | succ kj6 =>
    have H := HA.out
    clear HA
    simp only [pylonref03_Nth.j0] at H
    by_cases c12 : x40_6 = true
    ·subst c12
     have H1 : (some (0, 0, 0, 8)) = some (r1, r2, r3, r4) := by rw [if_pos rfl] at H; exact H
     clear H
     have H := H1
     clear H1
     simp only [Option.some.injEq, Prod.mk.injEq] at H
     obtain ⟨rfl, rfl, rfl, rfl⟩ := H
     obtain ⟨hcz13_0, hcz13_1, hcz13_2⟩ := blkC3 (w := wc) BK254.out
     obtain ⟨hfz13_0, hfz13_1, hfz13_2⟩ := blkF3 BK254.out
     go_wp2
     refine bodyPost_ret (results_ct rfl _ _ gb254 33 #[.int .i64 0, .int .i64 0, .int .i64 0] (0, 0) _ rfl (by (with_reducible repeat first|refine blk_drewN ?_ _|refine blk_drew ?_|refine blk_alloc ?_ _); refine blk_put (cs := #[.int .i64 0, .int .i64 0, .int .i64 0]) ?_ 2 _ rfl; (with_reducible repeat first|refine blk_drewN ?_ _|refine blk_drew ?_|refine blk_alloc ?_ _); refine blk_put (cs := #[.int .i64 0, .int .i64 0, .int .i64 0]) ?_ 1 _ rfl; (with_reducible repeat first|refine blk_drewN ?_ _|refine blk_drew ?_|refine blk_alloc ?_ _); refine blk_put (cs := #[.int .i64 0, .int .i64 0, .int .i64 0]) ?_ 0 _ rfl; (with_reducible repeat first|refine blk_drewN ?_ _|refine blk_drew ?_|refine blk_alloc ?_ _); exact BK254.out) Try.underlying33 rfl (by kernel_rfl)) rfl ?_
     exact ⟨by first | rfl | (simp [errW_none, errW_some] <;> rfl) | (simp [*, errW_none, errW_some] <;> rfl), bw⟩
    ·replace c12 := Bool.eq_false_iff.mpr c12
     subst c12
     have H1 : (pylonref03_Nth.l0 kj6 a0 a1 a2 a3 t255 0 0 1) = some (r1, r2, r3, r4) := by rw [if_neg (show ¬ (false = true) by decide)] at H; exact H
     clear H
     have H := H1
     clear H1
     have H' := AX H
     clear H
     go_wp2
     go_loopg [12, 13, 14] kj6 (fun kq v12 v13 v14 w' => ∃ (x12_2 : Int) (x13_2 : Int) (x14_2 : Int), v12 = .int .i64 x12_2 ∧ v13 = .int .i64 x13_2 ∧ v14 = .int .i64 x14_2 ∧ Aside0 (pylonref03_Nth.l0 kq a0 a1 a2 a3 t255 x12_2 x13_2 x14_2 = some (r1, r2, r3, r4)) ∧ Aside0 (kq ≤ kj6) ∧ Aside0 (w'.heap[gb254]? = some (.cells #[.int .i64 0, .int .i64 0, .int .i64 0] 33 (0, 0))) ∧ Aside0 (Below w.heap.size w w'))
     case atStart => exact ⟨(0), (0), (1), (by first | rfl | (simp; done) | (simp [*]; done)), (by first | rfl | (simp; done) | (simp [*]; done)), (by first | rfl | (simp; done) | (simp [*]; done)), H', ⟨Nat.le_refl _⟩, ⟨bkn BK254⟩, ⟨bw⟩⟩
     case round =>
      clear H'
      try clear c12
      obtain ⟨x12_2, x13_2, x14_2, rfl, rfl, rfl, HA, HK2, BK254, HB⟩ := hrel
      cases gk with
      | zero => exact absurd HA.out (by simp [pylonref03_Nth.l0])
      | succ k2 =>
       have H := HA.out
       clear HA
       simp only [pylonref03_Nth.l0] at H
       by_cases c14 : x14_2 ≤ t255
       ·rw [if_pos c14] at H
        have c14b0 : decide (x14_2 ≤ t255) = true := decide_eq_true c14
        clear c14
        replace H := Option.bind_eq_some_iff.mp H
        obtain ⟨⟨t257, t258⟩, A150, H⟩ := H
        replace H : (if t257 = a3 then (if (wrap64 (x12_2 + 1)) = a2 then (some (a0, a1, x14_2, 0)) else (pylonref03_Nth.l0 k2 a0 a1 a2 a3 t255 (wrap64 (x12_2 + 1)) x14_2 (wrap64 (x14_2 + 1)))) else (pylonref03_Nth.l0 k2 a0 a1 a2 a3 t255 x12_2 x13_2 (wrap64 (x14_2 + 1)))) = some (r1, r2, r3, r4) := H
        have A15 := AX A150
        clear A150
        by_cases c16 : t257 = a3
        ·rw [if_pos c16] at H
         have c16b0 : (t257 == a3) = true := beq_iff_eq.mpr c16
         have c16b1 : (t257 != a3) = false := bne_eq_false_iff_eq.mpr c16
         clear c16
         by_cases c17 : (wrap64 (x12_2 + 1)) = a2
         ·rw [if_pos c17] at H
          have c17b0 : ((wrap64 (x12_2 + 1)) == a2) = true := beq_iff_eq.mpr c17
          have c17b1 : ((wrap64 (x12_2 + 1)) != a2) = false := bne_eq_false_iff_eq.mpr c17
          clear c17
          simp only [Option.some.injEq, Prod.mk.injEq] at H
          obtain ⟨rfl, rfl, rfl, rfl⟩ := H
          go_wp2_with (first | ((with_reducible refine gate_callee (f := 69) rfl ?_); refine gL (some 52) Try.func69 #[.agg #[.int .i64 a0, .int .i64 a1, .int .i64 x14_2]] ?_; (with_reducible refine (pylonref03_Weekday.calls k2 a0 a1 x14_2 t257 t258 _ A15.out).mono ?_); rintro e w18 ⟨rfl, hb⟩; refine ⟨_, rfl, ?_⟩; replace BK254 := AX (bkb BK254 hb); replace HB := AX (below_step bw hb); (try clear hb); obtain ⟨hcz19_0, hcz19_1, hcz19_2⟩ := blkC3 (w := w18) BK254.out; obtain ⟨hfz19_0, hfz19_1, hfz19_2⟩ := blkF3 BK254.out))
          refine bodyPost_ret (results_ct rfl _ _ gb254 33 #[.int .i64 a0, .int .i64 a1, .int .i64 x14_2] (0, 0) _ rfl (by (with_reducible repeat first|refine blk_drewN ?_ _|refine blk_drew ?_|refine blk_alloc ?_ _); refine blk_put (cs := #[.int .i64 a0, .int .i64 a1, .int .i64 0]) ?_ 2 _ rfl; (with_reducible repeat first|refine blk_drewN ?_ _|refine blk_drew ?_|refine blk_alloc ?_ _); refine blk_put (cs := #[.int .i64 a0, .int .i64 0, .int .i64 0]) ?_ 1 _ rfl; (with_reducible repeat first|refine blk_drewN ?_ _|refine blk_drew ?_|refine blk_alloc ?_ _); refine blk_put (cs := #[.int .i64 0, .int .i64 0, .int .i64 0]) ?_ 0 _ rfl; (with_reducible repeat first|refine blk_drewN ?_ _|refine blk_drew ?_|refine blk_alloc ?_ _); exact BK254.out) Try.underlying33 rfl (by kernel_rfl)) rfl ?_
          exact ⟨by first | rfl | (simp [errW_none, errW_some] <;> rfl) | (simp [*, errW_none, errW_some] <;> rfl), bw⟩
         ·rw [if_neg c17] at H
          have c17b0 : ((wrap64 (x12_2 + 1)) == a2) = false := beq_eq_false_iff_ne.mpr c17
          have c17b1 : ((wrap64 (x12_2 + 1)) != a2) = true := bne_iff_ne.mpr c17
          have H' := AX H
          clear H
          go_wp2_with (first | ((with_reducible refine gate_callee (f := 69) rfl ?_); refine gL (some 52) Try.func69 #[.agg #[.int .i64 a0, .int .i64 a1, .int .i64 x14_2]] ?_; (with_reducible refine (pylonref03_Weekday.calls k2 a0 a1 x14_2 t257 t258 _ A15.out).mono ?_); rintro e w20 ⟨rfl, hb⟩; refine ⟨_, rfl, ?_⟩; replace BK254 := AX (bkb BK254 hb); replace HB := AX (below_step bw hb); (try clear hb)))
          go_roundg k2
          case measure => have := HJ6.out; have := HK2.out; omega
          case rel => exact ⟨(wrap64 (x12_2 + 1)), (x14_2), (wrap64 (x14_2 + 1)), (by first | rfl | (simp; done) | (simp [*]; done)), (by first | rfl | (simp; done) | (simp [*]; done)), (by first | rfl | (simp; done) | (simp [*]; done)), H', ⟨by have := HJ6.out; have := HK2.out; omega⟩, ⟨bkn BK254⟩, ⟨bw⟩⟩
        ·rw [if_neg c16] at H
         have c16b0 : (t257 == a3) = false := beq_eq_false_iff_ne.mpr c16
         have c16b1 : (t257 != a3) = true := bne_iff_ne.mpr c16
         have H' := AX H
         clear H
         go_wp2_with (first | ((with_reducible refine gate_callee (f := 69) rfl ?_); refine gL (some 52) Try.func69 #[.agg #[.int .i64 a0, .int .i64 a1, .int .i64 x14_2]] ?_; (with_reducible refine (pylonref03_Weekday.calls k2 a0 a1 x14_2 t257 t258 _ A15.out).mono ?_); rintro e w21 ⟨rfl, hb⟩; refine ⟨_, rfl, ?_⟩; replace BK254 := AX (bkb BK254 hb); replace HB := AX (below_step bw hb); (try clear hb)))
         go_roundg k2
         case measure => have := HJ6.out; have := HK2.out; omega
         case rel => exact ⟨(x12_2), (x13_2), (wrap64 (x14_2 + 1)), (by first | rfl | (simp; done) | (simp [*]; done)), (by first | rfl | (simp; done) | (simp [*]; done)), (by first | rfl | (simp; done) | (simp [*]; done)), H', ⟨by have := HJ6.out; have := HK2.out; omega⟩, ⟨bkn BK254⟩, ⟨bw⟩⟩
       ·rw [if_neg c14] at H
        have c14b0 : decide (x14_2 ≤ t255) = false := decide_eq_false c14
        clear c14
        simp only [Option.some.injEq, Prod.mk.injEq] at H
        obtain ⟨rfl, rfl, rfl, rfl⟩ := H
        obtain ⟨hcz22_0, hcz22_1, hcz22_2⟩ := blkC3 (w := wr) BK254.out
        obtain ⟨hfz22_0, hfz22_1, hfz22_2⟩ := blkF3 BK254.out
        go_wp2
        refine bodyPost_ret (results_ct rfl _ _ gb254 33 #[.int .i64 a0, .int .i64 a1, .int .i64 x13_2] (0, 0) _ rfl (by (with_reducible repeat first|refine blk_drewN ?_ _|refine blk_drew ?_|refine blk_alloc ?_ _); refine blk_put (cs := #[.int .i64 a0, .int .i64 a1, .int .i64 0]) ?_ 2 _ rfl; (with_reducible repeat first|refine blk_drewN ?_ _|refine blk_drew ?_|refine blk_alloc ?_ _); refine blk_put (cs := #[.int .i64 a0, .int .i64 0, .int .i64 0]) ?_ 1 _ rfl; (with_reducible repeat first|refine blk_drewN ?_ _|refine blk_drew ?_|refine blk_alloc ?_ _); refine blk_put (cs := #[.int .i64 0, .int .i64 0, .int .i64 0]) ?_ 0 _ rfl; (with_reducible repeat first|refine blk_drewN ?_ _|refine blk_drew ?_|refine blk_alloc ?_ _); exact BK254.out) Try.underlying33 rfl (by kernel_rfl)) rfl ?_
        exact ⟨by first | rfl | (simp [errW_none, errW_some] <;> rfl) | (simp [*, errW_none, errW_some] <;> rfl), bw⟩
 ·rw [if_neg c6] at H
  have c6b0 : (t256 == 0) = false := beq_eq_false_iff_ne.mpr c6
  have c6b1 : (t256 != 0) = true := bne_iff_ne.mpr c6
  simp only [Option.some.injEq, Prod.mk.injEq] at H
  obtain ⟨rfl, rfl, rfl, rfl⟩ := H
  go_enter Try.func46, Try.ntmps46
  go_wp2_with (first | ((with_reducible refine gate_dst (N := 8) rfl ?_); refine bx 8 #[.int .i64 0, .int .i64 0, .int .i64 0] 33 ?_; intro gb254 hg w23 hbox hb; have BK254 := AX (hbox); have GW254 := gwl (w := w) hg bw; have GE254 := GW254; replace HB := AX (below_step bw hb); clear hb hbox hg) | ((with_reducible refine gate_callee (f := 31) rfl ?_); refine gL (some 20) Try.func31 #[.int .i64 a0, .int .i64 a1] ?_; (with_reducible refine (pylonref03_Length.calls k a0 a1 t255 t256 _ A5.out).mono ?_); rintro e w' ⟨rfl, ⟨nd, rfl⟩⟩; refine ⟨_, rfl, ?_⟩; (try (rw [drewN_self w23]; generalize hq_ : World.drewN w23 _ = w23; have n0_ : Aside0 (w23.heap[gb254]? = some (.cells #[.int .i64 0, .int .i64 0, .int .i64 0] 33 (0, 0))) := ⟨by rw [← hq_]; exact (bkn BK254)⟩; have n1_ : Aside0 (Below w.heap.size w w23) := ⟨by rw [← hq_]; exact bw⟩; clear BK254 HB hq_; have BK254 := n0_; have HB := n1_; clear n0_ n1_)); obtain ⟨hcz24_0, hcz24_1, hcz24_2⟩ := blkC3 (w := w23) BK254.out; obtain ⟨hfz24_0, hfz24_1, hfz24_2⟩ := blkF3 BK254.out))
  refine bodyPost_ret (results_ct rfl _ _ gb254 33 #[.int .i64 0, .int .i64 0, .int .i64 0] (0, 0) _ rfl (by (with_reducible repeat first|refine blk_drewN ?_ _|refine blk_drew ?_|refine blk_alloc ?_ _); refine blk_put (cs := #[.int .i64 0, .int .i64 0, .int .i64 0]) ?_ 2 _ rfl; (with_reducible repeat first|refine blk_drewN ?_ _|refine blk_drew ?_|refine blk_alloc ?_ _); refine blk_put (cs := #[.int .i64 0, .int .i64 0, .int .i64 0]) ?_ 1 _ rfl; (with_reducible repeat first|refine blk_drewN ?_ _|refine blk_drew ?_|refine blk_alloc ?_ _); refine blk_put (cs := #[.int .i64 0, .int .i64 0, .int .i64 0]) ?_ 0 _ rfl; (with_reducible repeat first|refine blk_drewN ?_ _|refine blk_drew ?_|refine blk_alloc ?_ _); exact BK254.out) Try.underlying33 rfl (by kernel_rfl)) rfl ?_
  exact ⟨by first | rfl | (simp [errW_none, errW_some] <;> rfl) | (simp [*, errW_none, errW_some] <;> rfl), bw⟩

/-! ### pylonref03_Of: function 19 -/
mutual
def pylonref03_Of.j0 : Nat → Int → Bool → Option (Int × Int × Int × Int)
 | 0, _, _ => none
 | k + 1, x0, x14 => if x14 = true then (some (0, 0, 0, 5)) else (pylonref03_Of.l0 k (wrap64 (x0 + 719162)) (wrap64 ((wrap64 (Int.tdiv (wrap64 (x0 + 719162)) 366)) + 1)))
def pylonref03_Of.j2 : Nat → Int → Int → Option (Int × Int × Int × Int)
 | 0, _, _ => none
 | k + 1, x4, x5 => (pylonref03_ahead.f x5).bind fun t261 => (pylonref03_Of.l1 k (wrap64 (x4 - t261)) x5 1)
def pylonref03_Of.l1 : Nat → Int → Int → Int → Option (Int × Int × Int × Int)
 | 0, _, _, _ => none
 | k + 1, x4, x5, x6 => if x6 ≤ 12 then ((pylonref03_Length.f k x5 x6).bind fun bt262 => (if x4 < bt262.1 then (some (x5, x6, wrap64 (x4 + 1), 0)) else (pylonref03_Of.l1 k (wrap64 (x4 - bt262.1)) x5 (wrap64 (x6 + 1))))) else (some (0, 0, 0, 5))
def pylonref03_Of.l0 : Nat → Int → Int → Option (Int × Int × Int × Int)
 | 0, _, _ => none
 | k + 1, x4, x5 => if x5 < 9999 then ((pylonref03_ahead.f (wrap64 (x5 + 1))).bind fun t260 => (if t260 ≤ x4 then (pylonref03_Of.l0 k x4 (wrap64 (x5 + 1))) else (pylonref03_Of.j2 k x4 x5))) else (pylonref03_Of.j2 k x4 x5)
end
def pylonref03_Of.f (k : Nat) (a0 : Int) : Option (Int × Int × Int × Int) := if a0 < (-719162) then (pylonref03_Of.j0 k a0 true) else (pylonref03_Of.j0 k a0 (decide (a0 > 2932896)))
theorem pylonref03_Of.mono_l : ∀ k, (∀ y0 y1, LeO (pylonref03_Of.j0 k y0 y1) (pylonref03_Of.j0 (k + 1) y0 y1)) ∧ (∀ y0 y1, LeO (pylonref03_Of.j2 k y0 y1) (pylonref03_Of.j2 (k + 1) y0 y1)) ∧ (∀ y0 y1 y2, LeO (pylonref03_Of.l1 k y0 y1 y2) (pylonref03_Of.l1 (k + 1) y0 y1 y2)) ∧ (∀ y0 y1, LeO (pylonref03_Of.l0 k y0 y1) (pylonref03_Of.l0 (k + 1) y0 y1))
 | 0 => ⟨fun _ _ r h => by simp [pylonref03_Of.j0] at h, fun _ _ r h => by simp [pylonref03_Of.j2] at h, fun _ _ _ r h => by simp [pylonref03_Of.l1] at h, fun _ _ r h => by simp [pylonref03_Of.l0] at h⟩
 | k + 1 => by
  obtain ⟨ih0, ih1, ih2, ih3⟩ := pylonref03_Of.mono_l k
  refine ⟨?_, ?_, ?_, ?_⟩
  ·intro y0 y1
   unfold pylonref03_Of.j0
   repeat' first
   | (with_reducible exact ih0 _ _)
   | (with_reducible exact ih1 _ _)
   | (with_reducible exact ih2 _ _ _)
   | (with_reducible exact ih3 _ _)
   | (with_reducible exact pylonref03_Length.mono _ _ _)
   | (with_reducible exact LeO.refl _)
   | (with_reducible exact LeO.none _)
   | (with_reducible refine LeO.ite ?_ ?_)
   | (with_reducible refine LeO.bind ?_ (fun _ => ?_))
  ·intro y0 y1
   unfold pylonref03_Of.j2
   repeat' first
   | (with_reducible exact ih0 _ _)
   | (with_reducible exact ih1 _ _)
   | (with_reducible exact ih2 _ _ _)
   | (with_reducible exact ih3 _ _)
   | (with_reducible exact pylonref03_Length.mono _ _ _)
   | (with_reducible exact LeO.refl _)
   | (with_reducible exact LeO.none _)
   | (with_reducible refine LeO.ite ?_ ?_)
   | (with_reducible refine LeO.bind ?_ (fun _ => ?_))
  ·intro y0 y1 y2
   unfold pylonref03_Of.l1
   repeat' first
   | (with_reducible exact ih0 _ _)
   | (with_reducible exact ih1 _ _)
   | (with_reducible exact ih2 _ _ _)
   | (with_reducible exact ih3 _ _)
   | (with_reducible exact pylonref03_Length.mono _ _ _)
   | (with_reducible exact LeO.refl _)
   | (with_reducible exact LeO.none _)
   | (with_reducible refine LeO.ite ?_ ?_)
   | (with_reducible refine LeO.bind ?_ (fun _ => ?_))
  ·intro y0 y1
   unfold pylonref03_Of.l0
   repeat' first
   | (with_reducible exact ih0 _ _)
   | (with_reducible exact ih1 _ _)
   | (with_reducible exact ih2 _ _ _)
   | (with_reducible exact ih3 _ _)
   | (with_reducible exact pylonref03_Length.mono _ _ _)
   | (with_reducible exact LeO.refl _)
   | (with_reducible exact LeO.none _)
   | (with_reducible refine LeO.ite ?_ ?_)
   | (with_reducible refine LeO.bind ?_ (fun _ => ?_))
theorem pylonref03_Of.mono : ∀ a0 k, LeO (pylonref03_Of.f k a0) (pylonref03_Of.f (k + 1) a0) := by
 intro a0 k
 obtain ⟨ih0, ih1, ih2, ih3⟩ := pylonref03_Of.mono_l k
 unfold pylonref03_Of.f
 repeat' first
   | (with_reducible exact ih0 _ _)
   | (with_reducible exact ih1 _ _)
   | (with_reducible exact ih2 _ _ _)
   | (with_reducible exact ih3 _ _)
   | (with_reducible exact pylonref03_Length.mono _ _ _)
   | (with_reducible exact LeO.refl _)
   | (with_reducible exact LeO.none _)
   | (with_reducible refine LeO.ite ?_ ?_)
   | (with_reducible refine LeO.bind ?_ (fun _ => ?_))
set_option maxHeartbeats 8000000 in
set_option maxRecDepth 100000 in
theorem pylonref03_Of.calls (k : Nat) (a0 : Int) (r1 : Int) (r2 : Int) (r3 : Int) (r4 : Int) (w : World) (h : pylonref03_Of.f k a0 = some (r1, r2, r3, r4)) :
  Calls Try.prog 19 #[.int .i64 a0] w fun e w' => e = .returned (.tuple #[.agg #[.int .i64 r1, .int .i64 r2, .int .i64 r3], .int .i64 r4]) ∧ Below w.heap.size w w' := by
 have hu33 := Try.underlying33
 have HB := AX (Below.refl w.heap.size w)
 have H : (if a0 < (-719162) then (pylonref03_Of.j0 k a0 true) else (pylonref03_Of.j0 k a0 (decide (a0 > 2932896)))) = some (r1, r2, r3, r4) := h
 clear h
 have HC2 := AX H
 clear H
 go_enter Try.func19, Try.ntmps19
 go_upto_region 1 with (first | ((with_reducible refine gate_dst (N := 2) rfl ?_); refine bx 2 #[.int .i64 0, .int .i64 0, .int .i64 0] 33 ?_; intro gb259 hg w3 hbox hb; have BK259 := AX (hbox); have GW259 := gwl (w := w) hg bw; have GE259 := GW259; replace HB := AX (below_step bw hb); clear hb hbox hg))
 (try simp only [Act.put, List.setIfInBounds_toArray, List.set_cons_zero, List.set_cons_succ])
 go_cut [14] (fun v14 wc => ∃ (kq : Nat) (x14_1 : Bool), v14 = .bool x14_1 ∧ Aside0 (pylonref03_Of.j0 kq a0 x14_1 = some (r1, r2, r3, r4)) ∧ Aside0 (kq ≤ k) ∧ Aside0 (wc.heap[gb259]? = some (.cells #[.int .i64 0, .int .i64 0, .int .i64 0] 33 (0, 0))) ∧ Aside0 (Below w.heap.size w wc))
 case first =>
  have H := HC2.out
  clear HC2
  by_cases c4 : a0 < (-719162)
  ·rw [if_pos c4] at H
   have c4b0 : decide (a0 < (-719162)) = true := decide_eq_true c4
   clear c4
   (first | rw [c4b0] | (simp only [i64_w, i32_w]; rw [c4b0]) | skip)
   have H' := AX H
   clear H
   go_wp2
   go_meet
   case rel => exact ⟨_, (true), (by first | rfl | (simp; done) | (simp [*]; done)), H', ⟨by first | omega | exact Nat.le_refl _⟩, ⟨bkn BK259⟩, ⟨bw⟩⟩
  ·rw [if_neg c4] at H
   have c4b0 : decide (a0 < (-719162)) = false := decide_eq_false c4
   clear c4
   (first | rw [c4b0] | (simp only [i64_w, i32_w]; rw [c4b0]) | skip)
   have H' := AX H
   clear H
   go_wp2
   go_meet
   case rel => exact ⟨_, (decide (a0 > 2932896)), (by first | rfl | (simp; done) | (simp [*]; done)), H', ⟨by first | omega | exact Nat.le_refl _⟩, ⟨bkn BK259⟩, ⟨bw⟩⟩
 case rest =>
  clear HC2
  obtain ⟨kq, x14_1, rfl, HA, HJ1, BK259, HB⟩ := hcut
  cases kq with
  | zero => exact absurd HA.out (by simp [pylonref03_Of.j0])
  | succ kj1 =>
   have H := HA.out
   clear HA
   simp only [pylonref03_Of.j0] at H
   by_cases c5 : x14_1 = true
   ·subst c5
    have H1 : (some (0, 0, 0, 5)) = some (r1, r2, r3, r4) := by rw [if_pos rfl] at H; exact H
    clear H
    have H := H1
    clear H1
    simp only [Option.some.injEq, Prod.mk.injEq] at H
    obtain ⟨rfl, rfl, rfl, rfl⟩ := H
    obtain ⟨hcz6_0, hcz6_1, hcz6_2⟩ := blkC3 (w := wc) BK259.out
    obtain ⟨hfz6_0, hfz6_1, hfz6_2⟩ := blkF3 BK259.out
    go_wp2
    refine bodyPost_ret (results_ct rfl _ _ gb259 33 #[.int .i64 0, .int .i64 0, .int .i64 0] (0, 0) _ rfl (by (with_reducible repeat first|refine blk_drewN ?_ _|refine blk_drew ?_|refine blk_alloc ?_ _); refine blk_put (cs := #[.int .i64 0, .int .i64 0, .int .i64 0]) ?_ 2 _ rfl; (with_reducible repeat first|refine blk_drewN ?_ _|refine blk_drew ?_|refine blk_alloc ?_ _); refine blk_put (cs := #[.int .i64 0, .int .i64 0, .int .i64 0]) ?_ 1 _ rfl; (with_reducible repeat first|refine blk_drewN ?_ _|refine blk_drew ?_|refine blk_alloc ?_ _); refine blk_put (cs := #[.int .i64 0, .int .i64 0, .int .i64 0]) ?_ 0 _ rfl; (with_reducible repeat first|refine blk_drewN ?_ _|refine blk_drew ?_|refine blk_alloc ?_ _); exact BK259.out) Try.underlying33 rfl (by kernel_rfl)) rfl ?_
    exact ⟨by first | rfl | (simp [errW_none, errW_some] <;> rfl) | (simp [*, errW_none, errW_some] <;> rfl), bw⟩
   ·replace c5 := Bool.eq_false_iff.mpr c5
    subst c5
    have H1 : (pylonref03_Of.l0 kj1 (wrap64 (a0 + 719162)) (wrap64 ((wrap64 (Int.tdiv (wrap64 (a0 + 719162)) 366)) + 1))) = some (r1, r2, r3, r4) := by rw [if_neg (show ¬ (false = true) by decide)] at H; exact H
    clear H
    have H := H1
    clear H1
    have HC7 := AX H
    clear H
    go_upto_block 0 with (fail)
    go_cut [5] (fun v5 wc => ∃ (kq : Nat) (x5_6 : Int), v5 = .int .i64 x5_6 ∧ Aside0 (pylonref03_Of.j2 kq (wrap64 (a0 + 719162)) x5_6 = some (r1, r2, r3, r4)) ∧ Aside0 (kq ≤ kj1) ∧ Aside0 (wc.heap[gb259]? = some (.cells #[.int .i64 0, .int .i64 0, .int .i64 0] 33 (0, 0))) ∧ Aside0 (Below w.heap.size w wc))
    case first =>
     have H := HC7.out
     clear HC7
     have H' := AX H
     clear H
     go_wp2
     go_loopg [5] kj1 (fun kq v5 w' => ∃ (x5_2 : Int), v5 = .int .i64 x5_2 ∧ Aside0 (pylonref03_Of.l0 kq (wrap64 (a0 + 719162)) x5_2 = some (r1, r2, r3, r4)) ∧ Aside0 (kq ≤ kj1) ∧ Aside0 (w'.heap[gb259]? = some (.cells #[.int .i64 0, .int .i64 0, .int .i64 0] 33 (0, 0))) ∧ Aside0 (Below w.heap.size w w'))
     case atStart => exact ⟨(wrap64 ((wrap64 (Int.tdiv (wrap64 (a0 + 719162)) 366)) + 1)), (by first | rfl | (simp; done) | (simp [*]; done)), H', ⟨Nat.le_refl _⟩, ⟨bkn BK259⟩, ⟨bw⟩⟩
     case round =>
      clear H'
      try clear c5
      obtain ⟨x5_2, rfl, HA, HK2, BK259, HB⟩ := hrel
      cases gk with
      | zero => exact absurd HA.out (by simp [pylonref03_Of.l0])
      | succ k2 =>
       have H := HA.out
       clear HA
       simp only [pylonref03_Of.l0] at H
       by_cases c8 : x5_2 < 9999
       ·rw [if_pos c8] at H
        have c8b0 : decide (x5_2 < 9999) = true := decide_eq_true c8
        clear c8
        (first | rw [c8b0] | (simp only [i64_w, i32_w]; rw [c8b0]) | skip)
        replace H := Option.bind_eq_some_iff.mp H
        obtain ⟨t260, A90, H⟩ := H
        replace H : (if t260 ≤ (wrap64 (a0 + 719162)) then (pylonref03_Of.l0 k2 (wrap64 (a0 + 719162)) (wrap64 (x5_2 + 1))) else (pylonref03_Of.j2 k2 (wrap64 (a0 + 719162)) x5_2)) = some (r1, r2, r3, r4) := H
        have A9 := AX A90
        clear A90
        by_cases c10 : t260 ≤ (wrap64 (a0 + 719162))
        ·rw [if_pos c10] at H
         have c10b0 : decide (t260 ≤ (wrap64 (a0 + 719162))) = true := decide_eq_true c10
         clear c10
         have H' := AX H
         clear H
         go_wp2_with (first | (go_at_call 34; (with_reducible refine (pylonref03_ahead.calls (wrap64 (x5_2 + 1)) t260 _ A9.out).mono ?_); rintro e w' ⟨rfl, ⟨nd, rfl⟩⟩))
         go_roundg k2
         case measure => have := HJ1.out; have := HK2.out; omega
         case rel => exact ⟨(wrap64 (x5_2 + 1)), (by first | rfl | (simp; done) | (simp [*]; done)), H', ⟨by have := HJ1.out; have := HK2.out; omega⟩, ⟨bkn BK259⟩, ⟨bw⟩⟩
        ·rw [if_neg c10] at H
         have c10b0 : decide (t260 ≤ (wrap64 (a0 + 719162))) = false := decide_eq_false c10
         clear c10
         have H' := AX H
         clear H
         go_wp2_with (first | (go_at_call 34; (with_reducible refine (pylonref03_ahead.calls (wrap64 (x5_2 + 1)) t260 _ A9.out).mono ?_); rintro e w' ⟨rfl, ⟨nd, rfl⟩⟩))
         go_meet
         case rel => exact ⟨_, (x5_2), (by first | rfl | (simp; done) | (simp [*]; done)), H', ⟨by have := HJ1.out; have := HK2.out; first | omega | exact Nat.le_refl _⟩, ⟨bkn BK259⟩, ⟨bw⟩⟩
       ·rw [if_neg c8] at H
        have c8b0 : decide (x5_2 < 9999) = false := decide_eq_false c8
        clear c8
        (first | rw [c8b0] | (simp only [i64_w, i32_w]; rw [c8b0]) | skip)
        have H' := AX H
        clear H
        go_wp2
        go_meet
        case rel => exact ⟨_, (x5_2), (by first | rfl | (simp; done) | (simp [*]; done)), H', ⟨by have := HJ1.out; have := HK2.out; first | omega | exact Nat.le_refl _⟩, ⟨bkn BK259⟩, ⟨bw⟩⟩
    case rest =>
     clear HC7
     try clear c5
     obtain ⟨kq, x5_6, rfl, HA, HJ6, BK259, HB⟩ := hcut
     cases kq with
     | zero => exact absurd HA.out (by simp [pylonref03_Of.j2])
     | succ kj6 =>
      have H := HA.out
      clear HA
      simp only [pylonref03_Of.j2] at H
      replace H := Option.bind_eq_some_iff.mp H
      obtain ⟨t261, A110, H⟩ := H
      replace H : (pylonref03_Of.l1 kj6 (wrap64 ((wrap64 (a0 + 719162)) - t261)) x5_6 1) = some (r1, r2, r3, r4) := H
      have A11 := AX A110
      clear A110
      have H' := AX H
      clear H
      go_wp2_with (first | ((with_reducible refine gate_callee (f := 34) rfl ?_); refine gL (some 34) Try.func34 #[.int .i64 x5_6] ?_; (with_reducible refine (pylonref03_ahead.calls x5_6 t261 _ A11.out).mono ?_); rintro e w' ⟨rfl, ⟨nd, rfl⟩⟩; refine ⟨_, rfl, ?_⟩))
      go_loopg [4, 6] kj6 (fun kq v4 v6 w' => ∃ (x4_3 : Int) (x6_3 : Int) (x260000_3 : Int) (x260001_3 : Int) (x260002_3 : Int), v4 = .int .i64 x4_3 ∧ v6 = .int .i64 x6_3 ∧ Aside0 (pylonref03_Of.l1 kq x4_3 x5_6 x6_3 = some (r1, r2, r3, r4)) ∧ Aside0 (kq ≤ kj6) ∧ Aside0 (w'.heap[gb259]? = some (.cells #[.int .i64 x260000_3, .int .i64 x260001_3, .int .i64 x260002_3] 33 (0, 0))) ∧ Aside0 (Below w.heap.size w w'))
      case atStart => exact ⟨(wrap64 ((wrap64 (a0 + 719162)) - t261)), (1), (0), (0), (0), (by first | rfl | (simp; done) | (simp [*]; done)), (by first | rfl | (simp; done) | (simp [*]; done)), H', ⟨Nat.le_refl _⟩, ⟨bkn BK259⟩, ⟨bw⟩⟩
      case round =>
       clear H'
       obtain ⟨x4_3, x6_3, x260000_3, x260001_3, x260002_3, rfl, rfl, HA, HK3, BK259, HB⟩ := hrel
       cases gk with
       | zero => exact absurd HA.out (by simp [pylonref03_Of.l1])
       | succ k3 =>
        have H := HA.out
        clear HA
        simp only [pylonref03_Of.l1] at H
        by_cases c12 : x6_3 ≤ 12
        ·rw [if_pos c12] at H
         have c12b0 : decide (x6_3 ≤ 12) = true := decide_eq_true c12
         clear c12
         replace H := Option.bind_eq_some_iff.mp H
         obtain ⟨⟨t262, t263⟩, A130, H⟩ := H
         replace H : (if x4_3 < t262 then (some (x5_6, x6_3, wrap64 (x4_3 + 1), 0)) else (pylonref03_Of.l1 k3 (wrap64 (x4_3 - t262)) x5_6 (wrap64 (x6_3 + 1)))) = some (r1, r2, r3, r4) := H
         have A13 := AX A130
         clear A130
         by_cases c14 : x4_3 < t262
         ·rw [if_pos c14] at H
          have c14b0 : decide (x4_3 < t262) = true := decide_eq_true c14
          clear c14
          simp only [Option.some.injEq, Prod.mk.injEq] at H
          obtain ⟨rfl, rfl, rfl, rfl⟩ := H
          go_wp2_with (first | ((with_reducible refine gate_callee (f := 31) rfl ?_); refine gL (some 43) Try.func31 #[.int .i64 x5_6, .int .i64 x6_3] ?_; (with_reducible refine (pylonref03_Length.calls k3 x5_6 x6_3 t262 t263 _ A13.out).mono ?_); rintro e w' ⟨rfl, ⟨nd, rfl⟩⟩; refine ⟨_, rfl, ?_⟩; (try (rw [drewN_self wr]; generalize hq_ : World.drewN wr _ = wr; have n0_ : Aside0 (wr.heap[gb259]? = some (.cells #[.int .i64 x260000_3, .int .i64 x260001_3, .int .i64 x260002_3] 33 (0, 0))) := ⟨by rw [← hq_]; exact (bkn BK259)⟩; have n1_ : Aside0 (Below w.heap.size w wr) := ⟨by rw [← hq_]; exact bw⟩; clear BK259 HB hq_; have BK259 := n0_; have HB := n1_; clear n0_ n1_)); obtain ⟨hcz15_0, hcz15_1, hcz15_2⟩ := blkC3 (w := wr) BK259.out; obtain ⟨hfz15_0, hfz15_1, hfz15_2⟩ := blkF3 BK259.out))
          refine bodyPost_ret (results_ct rfl _ _ gb259 33 #[.int .i64 x5_6, .int .i64 x6_3, .int .i64 (wrap64 (x4_3 + 1))] (0, 0) _ rfl (by (with_reducible repeat first|refine blk_drewN ?_ _|refine blk_drew ?_|refine blk_alloc ?_ _); refine blk_put (cs := #[.int .i64 x5_6, .int .i64 x6_3, .int .i64 x260002_3]) ?_ 2 _ rfl; (with_reducible repeat first|refine blk_drewN ?_ _|refine blk_drew ?_|refine blk_alloc ?_ _); refine blk_put (cs := #[.int .i64 x5_6, .int .i64 x260001_3, .int .i64 x260002_3]) ?_ 1 _ rfl; (with_reducible repeat first|refine blk_drewN ?_ _|refine blk_drew ?_|refine blk_alloc ?_ _); refine blk_put (cs := #[.int .i64 x260000_3, .int .i64 x260001_3, .int .i64 x260002_3]) ?_ 0 _ rfl; (with_reducible repeat first|refine blk_drewN ?_ _|refine blk_drew ?_|refine blk_alloc ?_ _); exact BK259.out) Try.underlying33 rfl (by kernel_rfl)) rfl ?_
          exact ⟨by first | rfl | (simp [errW_none, errW_some] <;> rfl) | (simp [*, errW_none, errW_some] <;> rfl), bw⟩
         ·rw [if_neg c14] at H
          have c14b0 : decide (x4_3 < t262) = false := decide_eq_false c14
          clear c14
          have H' := AX H
          clear H
          go_wp2_with (first | ((with_reducible refine gate_callee (f := 31) rfl ?_); refine gL (some 43) Try.func31 #[.int .i64 x5_6, .int .i64 x6_3] ?_; (with_reducible refine (pylonref03_Length.calls k3 x5_6 x6_3 t262 t263 _ A13.out).mono ?_); rintro e w' ⟨rfl, ⟨nd, rfl⟩⟩; refine ⟨_, rfl, ?_⟩))
          go_roundg k3
          case measure => have := HJ1.out; have := HJ6.out; have := HK3.out; omega
          case rel => exact ⟨(wrap64 (x4_3 - t262)), (wrap64 (x6_3 + 1)), (x260000_3), (x260001_3), (x260002_3), (by first | rfl | (simp; done) | (simp [*]; done)), (by first | rfl | (simp; done) | (simp [*]; done)), H', ⟨by have := HJ1.out; have := HJ6.out; have := HK3.out; omega⟩, ⟨bkn BK259⟩, ⟨bw⟩⟩
        ·rw [if_neg c12] at H
         have c12b0 : decide (x6_3 ≤ 12) = false := decide_eq_false c12
         clear c12
         simp only [Option.some.injEq, Prod.mk.injEq] at H
         obtain ⟨rfl, rfl, rfl, rfl⟩ := H
         obtain ⟨hcz16_0, hcz16_1, hcz16_2⟩ := blkC3 (w := wr) BK259.out
         obtain ⟨hfz16_0, hfz16_1, hfz16_2⟩ := blkF3 BK259.out
         go_wp2
         refine bodyPost_ret (results_ct rfl _ _ gb259 33 #[.int .i64 0, .int .i64 0, .int .i64 0] (0, 0) _ rfl (by (with_reducible repeat first|refine blk_drewN ?_ _|refine blk_drew ?_|refine blk_alloc ?_ _); refine blk_put (cs := #[.int .i64 0, .int .i64 0, .int .i64 x260002_3]) ?_ 2 _ rfl; (with_reducible repeat first|refine blk_drewN ?_ _|refine blk_drew ?_|refine blk_alloc ?_ _); refine blk_put (cs := #[.int .i64 0, .int .i64 x260001_3, .int .i64 x260002_3]) ?_ 1 _ rfl; (with_reducible repeat first|refine blk_drewN ?_ _|refine blk_drew ?_|refine blk_alloc ?_ _); refine blk_put (cs := #[.int .i64 x260000_3, .int .i64 x260001_3, .int .i64 x260002_3]) ?_ 0 _ rfl; (with_reducible repeat first|refine blk_drewN ?_ _|refine blk_drew ?_|refine blk_alloc ?_ _); exact BK259.out) Try.underlying33 rfl (by kernel_rfl)) rfl ?_
         exact ⟨by first | rfl | (simp [errW_none, errW_some] <;> rfl) | (simp [*, errW_none, errW_some] <;> rfl), bw⟩

/-! ### pylonref03_Add: function 47 -/
def pylonref03_Add.f (k : Nat) (a0_0 : Int) (a0_1 : Int) (a0_2 : Int) (a1 : Int) : Option (Int × Int × Int × Int) := (pylonref03_Days.f k a0_0 a0_1 a0_2).bind fun bt266 => (if bt266.2 = 0 then (if a1 > 5000000 then (some (0, 0, 0, 5)) else (if a1 < (-5000000) then (some (0, 0, 0, 5)) else ((pylonref03_Of.f k (wrap64 (bt266.1 + a1))).bind fun bt268 => (some (bt268.1, bt268.2.1, bt268.2.2.1, bt268.2.2.2))))) else (some (0, 0, 0, 5)))
theorem pylonref03_Add.mono : ∀ a0 a1 a2 a3 k, LeO (pylonref03_Add.f k a0 a1 a2 a3) (pylonref03_Add.f (k + 1) a0 a1 a2 a3) := by
 intro a0 a1 a2 a3 k
 unfold pylonref03_Add.f
 repeat' first
   | (with_reducible exact pylonref03_Days.mono _ _ _ _)
   | (with_reducible exact pylonref03_Of.mono _ _)
   | (with_reducible exact LeO.refl _)
   | (with_reducible exact LeO.none _)
   | (with_reducible refine LeO.ite ?_ ?_)
   | (with_reducible refine LeO.bind ?_ (fun _ => ?_))
set_option maxHeartbeats 8000000 in
set_option maxRecDepth 100000 in
theorem pylonref03_Add.calls (k : Nat) (a0_0 : Int) (a0_1 : Int) (a0_2 : Int) (a1 : Int) (r1 : Int) (r2 : Int) (r3 : Int) (r4 : Int) (w : World) (h : pylonref03_Add.f k a0_0 a0_1 a0_2 a1 = some (r1, r2, r3, r4)) :
  Calls Try.prog 47 #[.agg #[.int .i64 a0_0, .int .i64 a0_1, .int .i64 a0_2], .int .i64 a1] w fun e w' => e = .returned (.tuple #[.agg #[.int .i64 r1, .int .i64 r2, .int .i64 r3], .int .i64 r4]) ∧ Below w.heap.size w w' := by
 have hu33 := Try.underlying33
 have HB := AX (Below.refl w.heap.size w)
 have H : ((pylonref03_Days.f k a0_0 a0_1 a0_2).bind fun bt266 => (if bt266.2 = 0 then (if a1 > 5000000 then (some (0, 0, 0, 5)) else (if a1 < (-5000000) then (some (0, 0, 0, 5)) else ((pylonref03_Of.f k (wrap64 (bt266.1 + a1))).bind fun bt268 => (some (bt268.1, bt268.2.1, bt268.2.2.1, bt268.2.2.2))))) else (some (0, 0, 0, 5)))) = some (r1, r2, r3, r4) := h
 clear h
 replace H := Option.bind_eq_some_iff.mp H
 obtain ⟨⟨t266, t267⟩, A30, H⟩ := H
 replace H : (if t267 = 0 then (if a1 > 5000000 then (some (0, 0, 0, 5)) else (if a1 < (-5000000) then (some (0, 0, 0, 5)) else ((pylonref03_Of.f k (wrap64 (t266 + a1))).bind fun bt268 => (some (bt268.1, bt268.2.1, bt268.2.2.1, bt268.2.2.2))))) else (some (0, 0, 0, 5))) = some (r1, r2, r3, r4) := H
 have A3 := AX A30
 clear A30
 by_cases c4 : t267 = 0
 ·rw [if_pos c4] at H
  have c4b0 : (t267 == 0) = true := beq_iff_eq.mpr c4
  have c4b1 : (t267 != 0) = false := bne_eq_false_iff_eq.mpr c4
  clear c4
  by_cases c5 : a1 > 5000000
  ·rw [if_pos c5] at H
   have c5b0 : decide (5000000 < a1) = true := decide_eq_true c5
   clear c5
   simp only [Option.some.injEq, Prod.mk.injEq] at H
   obtain ⟨rfl, rfl, rfl, rfl⟩ := H
   go_enter Try.func47, Try.ntmps47
   go_wp2_with (first | ((with_reducible refine gate_dst (N := 2) rfl ?_); refine bx 2 #[.int .i64 a0_0, .int .i64 a0_1, .int .i64 a0_2] 33 ?_; intro gb264 hg w6 hbox hb; have BK264 := AX (hbox); have GW264 := gwl (w := w) hg bw; have GE264 := GW264; replace HB := AX (below_step bw hb); clear hb hbox hg) | ((with_reducible refine gate_dst (N := 4) rfl ?_); refine bx 4 #[.int .i64 0, .int .i64 0, .int .i64 0] 33 ?_; intro gb265 hg w7 hbox hb; have BK265 := AX (hbox); have GW265 := gwl (w := w) hg bw; have GE265 := GW265; have NB264_265 := nbl hg (bkn BK264); have NB265_264 := nbg hg (bkn BK264); replace BK264 := AX (bkb BK264 hb); replace HB := AX (below_step bw hb); clear hb hbox hg; have hnb8 := NB264_265.out; have hnc8 := NB265_264.out; obtain ⟨hcz9_0, hcz9_1, hcz9_2⟩ := blkC3 (w := w7) BK264.out; obtain ⟨hfz9_0, hfz9_1, hfz9_2⟩ := blkF3 BK264.out) | ((with_reducible refine gate_callee (f := 18) rfl ?_); refine gL (some 10) Try.func18 #[.agg #[.int .i64 a0_0, .int .i64 a0_1, .int .i64 a0_2]] ?_; (with_reducible refine (pylonref03_Days.calls k a0_0 a0_1 a0_2 t266 t267 _ A3.out).mono ?_); rintro e w10 ⟨rfl, hb⟩; refine ⟨_, rfl, ?_⟩; replace BK264 := AX (bkb BK264 hb); replace BK265 := AX (bkb BK265 hb); replace HB := AX (below_step bw hb); (try clear hb); obtain ⟨hcz11_0, hcz11_1, hcz11_2⟩ := blkC3 (w := w10) BK265.out; obtain ⟨hfz11_0, hfz11_1, hfz11_2⟩ := blkF3 BK265.out))
   refine bodyPost_ret (results_ct rfl _ _ gb265 33 #[.int .i64 0, .int .i64 0, .int .i64 0] (0, 0) _ rfl (by (with_reducible repeat first|refine blk_drewN ?_ _|refine blk_drew ?_|refine blk_alloc ?_ _); refine blk_put (cs := #[.int .i64 0, .int .i64 0, .int .i64 0]) ?_ 2 _ rfl; (with_reducible repeat first|refine blk_drewN ?_ _|refine blk_drew ?_|refine blk_alloc ?_ _); refine blk_put (cs := #[.int .i64 0, .int .i64 0, .int .i64 0]) ?_ 1 _ rfl; (with_reducible repeat first|refine blk_drewN ?_ _|refine blk_drew ?_|refine blk_alloc ?_ _); refine blk_put (cs := #[.int .i64 0, .int .i64 0, .int .i64 0]) ?_ 0 _ rfl; (with_reducible repeat first|refine blk_drewN ?_ _|refine blk_drew ?_|refine blk_alloc ?_ _); exact BK265.out) Try.underlying33 rfl (by kernel_rfl)) rfl ?_
   exact ⟨by first | rfl | (simp [errW_none, errW_some] <;> rfl) | (simp [*, errW_none, errW_some] <;> rfl), bw⟩
  ·rw [if_neg c5] at H
   have c5b0 : decide (5000000 < a1) = false := decide_eq_false c5
   clear c5
   by_cases c12 : a1 < (-5000000)
   ·rw [if_pos c12] at H
    have c12b0 : decide (a1 < (-5000000)) = true := decide_eq_true c12
    clear c12
    simp only [Option.some.injEq, Prod.mk.injEq] at H
    obtain ⟨rfl, rfl, rfl, rfl⟩ := H
    go_enter Try.func47, Try.ntmps47
    go_wp2_with (first | ((with_reducible refine gate_dst (N := 2) rfl ?_); refine bx 2 #[.int .i64 a0_0, .int .i64 a0_1, .int .i64 a0_2] 33 ?_; intro gb264 hg w13 hbox hb; have BK264 := AX (hbox); have GW264 := gwl (w := w) hg bw; have GE264 := GW264; replace HB := AX (below_step bw hb); clear hb hbox hg) | ((with_reducible refine gate_dst (N := 4) rfl ?_); refine bx 4 #[.int .i64 0, .int .i64 0, .int .i64 0] 33 ?_; intro gb265 hg w14 hbox hb; have BK265 := AX (hbox); have GW265 := gwl (w := w) hg bw; have GE265 := GW265; have NB264_265 := nbl hg (bkn BK264); have NB265_264 := nbg hg (bkn BK264); replace BK264 := AX (bkb BK264 hb); replace HB := AX (below_step bw hb); clear hb hbox hg; have hnb15 := NB264_265.out; have hnc15 := NB265_264.out; obtain ⟨hcz16_0, hcz16_1, hcz16_2⟩ := blkC3 (w := w14) BK264.out; obtain ⟨hfz16_0, hfz16_1, hfz16_2⟩ := blkF3 BK264.out) | ((with_reducible refine gate_callee (f := 18) rfl ?_); refine gL (some 10) Try.func18 #[.agg #[.int .i64 a0_0, .int .i64 a0_1, .int .i64 a0_2]] ?_; (with_reducible refine (pylonref03_Days.calls k a0_0 a0_1 a0_2 t266 t267 _ A3.out).mono ?_); rintro e w17 ⟨rfl, hb⟩; refine ⟨_, rfl, ?_⟩; replace BK264 := AX (bkb BK264 hb); replace BK265 := AX (bkb BK265 hb); replace HB := AX (below_step bw hb); (try clear hb); obtain ⟨hcz18_0, hcz18_1, hcz18_2⟩ := blkC3 (w := w17) BK265.out; obtain ⟨hfz18_0, hfz18_1, hfz18_2⟩ := blkF3 BK265.out))
    refine bodyPost_ret (results_ct rfl _ _ gb265 33 #[.int .i64 0, .int .i64 0, .int .i64 0] (0, 0) _ rfl (by (with_reducible repeat first|refine blk_drewN ?_ _|refine blk_drew ?_|refine blk_alloc ?_ _); refine blk_put (cs := #[.int .i64 0, .int .i64 0, .int .i64 0]) ?_ 2 _ rfl; (with_reducible repeat first|refine blk_drewN ?_ _|refine blk_drew ?_|refine blk_alloc ?_ _); refine blk_put (cs := #[.int .i64 0, .int .i64 0, .int .i64 0]) ?_ 1 _ rfl; (with_reducible repeat first|refine blk_drewN ?_ _|refine blk_drew ?_|refine blk_alloc ?_ _); refine blk_put (cs := #[.int .i64 0, .int .i64 0, .int .i64 0]) ?_ 0 _ rfl; (with_reducible repeat first|refine blk_drewN ?_ _|refine blk_drew ?_|refine blk_alloc ?_ _); exact BK265.out) Try.underlying33 rfl (by kernel_rfl)) rfl ?_
    exact ⟨by first | rfl | (simp [errW_none, errW_some] <;> rfl) | (simp [*, errW_none, errW_some] <;> rfl), bw⟩
   ·rw [if_neg c12] at H
    have c12b0 : decide (a1 < (-5000000)) = false := decide_eq_false c12
    clear c12
    replace H := Option.bind_eq_some_iff.mp H
    obtain ⟨⟨t268, t269, t270, t271⟩, A190, H⟩ := H
    replace H : (some (t268, t269, t270, t271)) = some (r1, r2, r3, r4) := H
    have A19 := AX A190
    clear A190
    simp only [Option.some.injEq, Prod.mk.injEq] at H
    obtain ⟨rfl, rfl, rfl, rfl⟩ := H
    go_enter Try.func47, Try.ntmps47
    go_wp2_with (first | ((with_reducible refine gate_dst (N := 2) rfl ?_); refine bx 2 #[.int .i64 a0_0, .int .i64 a0_1, .int .i64 a0_2] 33 ?_; intro gb264 hg w20 hbox hb; have BK264 := AX (hbox); have GW264 := gwl (w := w) hg bw; have GE264 := GW264; replace HB := AX (below_step bw hb); clear hb hbox hg) | ((with_reducible refine gate_dst (N := 4) rfl ?_); refine bx 4 #[.int .i64 0, .int .i64 0, .int .i64 0] 33 ?_; intro gb265 hg w21 hbox hb; have BK265 := AX (hbox); have GW265 := gwl (w := w) hg bw; have GE265 := GW265; have NB264_265 := nbl hg (bkn BK264); have NB265_264 := nbg hg (bkn BK264); replace BK264 := AX (bkb BK264 hb); replace HB := AX (below_step bw hb); clear hb hbox hg; have hnb22 := NB264_265.out; have hnc22 := NB265_264.out; obtain ⟨hcz23_0, hcz23_1, hcz23_2⟩ := blkC3 (w := w21) BK264.out; obtain ⟨hfz23_0, hfz23_1, hfz23_2⟩ := blkF3 BK264.out) | ((with_reducible refine gate_callee (f := 18) rfl ?_); refine gL (some 10) Try.func18 #[.agg #[.int .i64 a0_0, .int .i64 a0_1, .int .i64 a0_2]] ?_; (with_reducible refine (pylonref03_Days.calls k a0_0 a0_1 a0_2 t266 t267 _ A3.out).mono ?_); rintro e w24 ⟨rfl, hb⟩; refine ⟨_, rfl, ?_⟩; replace BK264 := AX (bkb BK264 hb); replace BK265 := AX (bkb BK265 hb); replace HB := AX (below_step bw hb); (try clear hb)) | ((with_reducible refine gate_callee (f := 19) rfl ?_); refine gL (some 27) Try.func19 #[.int .i64 (wrap64 (t266 + a1))] ?_; (with_reducible refine (pylonref03_Of.calls k (wrap64 (t266 + a1)) t268 t269 t270 t271 _ A19.out).mono ?_); rintro e w25 ⟨rfl, hb⟩; refine ⟨_, rfl, ?_⟩; replace BK264 := AX (bkb BK264 hb); replace BK265 := AX (bkb BK265 hb); replace HB := AX (below_step bw hb); (try clear hb); obtain ⟨hcz26_0, hcz26_1, hcz26_2⟩ := blkC3 (w := w25) BK265.out; obtain ⟨hfz26_0, hfz26_1, hfz26_2⟩ := blkF3 BK265.out))
    refine bodyPost_ret (results_ct rfl _ _ gb265 33 #[.int .i64 t268, .int .i64 t269, .int .i64 t270] (0, 0) _ rfl (by (with_reducible repeat first|refine blk_drewN ?_ _|refine blk_drew ?_|refine blk_alloc ?_ _); refine blk_put (cs := #[.int .i64 t268, .int .i64 t269, .int .i64 0]) ?_ 2 _ rfl; (with_reducible repeat first|refine blk_drewN ?_ _|refine blk_drew ?_|refine blk_alloc ?_ _); refine blk_put (cs := #[.int .i64 t268, .int .i64 0, .int .i64 0]) ?_ 1 _ rfl; (with_reducible repeat first|refine blk_drewN ?_ _|refine blk_drew ?_|refine blk_alloc ?_ _); refine blk_put (cs := #[.int .i64 0, .int .i64 0, .int .i64 0]) ?_ 0 _ rfl; (with_reducible repeat first|refine blk_drewN ?_ _|refine blk_drew ?_|refine blk_alloc ?_ _); exact BK265.out) Try.underlying33 rfl (by kernel_rfl)) rfl ?_
    exact ⟨by first | rfl | (simp [errW_none, errW_some] <;> rfl) | (simp [*, errW_none, errW_some] <;> rfl), bw⟩
 ·rw [if_neg c4] at H
  have c4b0 : (t267 == 0) = false := beq_eq_false_iff_ne.mpr c4
  have c4b1 : (t267 != 0) = true := bne_iff_ne.mpr c4
  simp only [Option.some.injEq, Prod.mk.injEq] at H
  obtain ⟨rfl, rfl, rfl, rfl⟩ := H
  go_enter Try.func47, Try.ntmps47
  go_wp2_with (first | ((with_reducible refine gate_dst (N := 2) rfl ?_); refine bx 2 #[.int .i64 a0_0, .int .i64 a0_1, .int .i64 a0_2] 33 ?_; intro gb264 hg w27 hbox hb; have BK264 := AX (hbox); have GW264 := gwl (w := w) hg bw; have GE264 := GW264; replace HB := AX (below_step bw hb); clear hb hbox hg) | ((with_reducible refine gate_dst (N := 4) rfl ?_); refine bx 4 #[.int .i64 0, .int .i64 0, .int .i64 0] 33 ?_; intro gb265 hg w28 hbox hb; have BK265 := AX (hbox); have GW265 := gwl (w := w) hg bw; have GE265 := GW265; have NB264_265 := nbl hg (bkn BK264); have NB265_264 := nbg hg (bkn BK264); replace BK264 := AX (bkb BK264 hb); replace HB := AX (below_step bw hb); clear hb hbox hg; have hnb29 := NB264_265.out; have hnc29 := NB265_264.out; obtain ⟨hcz30_0, hcz30_1, hcz30_2⟩ := blkC3 (w := w28) BK264.out; obtain ⟨hfz30_0, hfz30_1, hfz30_2⟩ := blkF3 BK264.out) | ((with_reducible refine gate_callee (f := 18) rfl ?_); refine gL (some 10) Try.func18 #[.agg #[.int .i64 a0_0, .int .i64 a0_1, .int .i64 a0_2]] ?_; (with_reducible refine (pylonref03_Days.calls k a0_0 a0_1 a0_2 t266 t267 _ A3.out).mono ?_); rintro e w31 ⟨rfl, hb⟩; refine ⟨_, rfl, ?_⟩; replace BK264 := AX (bkb BK264 hb); replace BK265 := AX (bkb BK265 hb); replace HB := AX (below_step bw hb); (try clear hb); obtain ⟨hcz32_0, hcz32_1, hcz32_2⟩ := blkC3 (w := w31) BK265.out; obtain ⟨hfz32_0, hfz32_1, hfz32_2⟩ := blkF3 BK265.out))
  refine bodyPost_ret (results_ct rfl _ _ gb265 33 #[.int .i64 0, .int .i64 0, .int .i64 0] (0, 0) _ rfl (by (with_reducible repeat first|refine blk_drewN ?_ _|refine blk_drew ?_|refine blk_alloc ?_ _); refine blk_put (cs := #[.int .i64 0, .int .i64 0, .int .i64 0]) ?_ 2 _ rfl; (with_reducible repeat first|refine blk_drewN ?_ _|refine blk_drew ?_|refine blk_alloc ?_ _); refine blk_put (cs := #[.int .i64 0, .int .i64 0, .int .i64 0]) ?_ 1 _ rfl; (with_reducible repeat first|refine blk_drewN ?_ _|refine blk_drew ?_|refine blk_alloc ?_ _); refine blk_put (cs := #[.int .i64 0, .int .i64 0, .int .i64 0]) ?_ 0 _ rfl; (with_reducible repeat first|refine blk_drewN ?_ _|refine blk_drew ?_|refine blk_alloc ?_ _); exact BK265.out) Try.underlying33 rfl (by kernel_rfl)) rfl ?_
  exact ⟨by first | rfl | (simp [errW_none, errW_some] <;> rfl) | (simp [*, errW_none, errW_some] <;> rfl), bw⟩

end Go.Proofs.Ytegedhnbmclbkaa.PX
