/- Functions of the program as plain Lean functions, each with a proof that the call in the machine answers just what the plain function says; condition: the plain function answers at all. -/
import Derived.Test.YtkggjjggcbcdiaaPXx0
import Derived.Test.YtkggjjggcbcdiaaPXx8
namespace Go.Proofs.Ytkggjjggcbcdiaa.PX
open Go.RowKit Go.Proofs.YtkggjjggcbcdiaaW.PrintWords Go.Proofs.YtkggjjggcbcdiaaW.PrintLast Go.Proofs.YtkggjjggcbcdiaaW.PrintMore
attribute [local go_sem] max2_int min2_int max_two min_two max_three min_three max_four min_four   -- for this text's walks alone
set_option linter.unusedVariables false
set_option linter.unusedSimpArgs false

/-! ### pylonref17_Good: function 81 -/
mutual
def pylonref17_Good.j0 : Nat → List (S122) → Bool → Option (Bool)
 | 0, _, _ => none
 | k + 1, x0, x13 => if x13 = true then (some false) else (pylonref17_Good.l0 k x0 0 (x0.length : Int) 0)
def pylonref17_Good.l0 : Nat → List (S122) → Int → Int → Int → Option (Bool)
 | 0, _, _, _, _ => none
 | k + 1, x0, x3, x15, x16 => if x16 < x15 then (if 0 ≤ x16 then (if x16 < (x0.length : Int) then (if ((rd_T122 x0 x16).f1) < (-10000000) then (pylonref17_Good.j2 k x0 x3 x16 x15 x16 true ((rd_T122 x0 x16).f0) ((rd_T122 x0 x16).f1)) else (pylonref17_Good.j2 k x0 x3 x16 x15 x16 (decide (((rd_T122 x0 x16).f1) > 10000000)) ((rd_T122 x0 x16).f0) ((rd_T122 x0 x16).f1))) else (none)) else (none)) else (some false)
def pylonref17_Good.j2 : Nat → List (S122) → Int → Int → Int → Int → Bool → Int → Int → Option (Bool)
 | 0, _, _, _, _, _, _, _, _ => none
 | k + 1, x0, x3, x4, x15, x16, x30, x206000, x206001 => if x30 = true then (some false) else (if x4 = (wrap64 ((x0.length : Int) - 1)) then (some (x206000 == 0)) else (if x206000 ≤ x3 then (some false) else (if x206000 > 500000000000000 then (some false) else (pylonref17_Good.l0 k x0 x206000 x15 (wrap64 (x16 + 1))))))
end
def pylonref17_Good.f (k : Nat) (l0 : List (S122)) : Option (Bool) := if (l0.length : Int) < 1 then (pylonref17_Good.j0 k l0 true) else (pylonref17_Good.j0 k l0 (decide ((l0.length : Int) > 64)))
theorem pylonref17_Good.mono_l : ∀ k, (∀ y0 y1, LeO (pylonref17_Good.j0 k y0 y1) (pylonref17_Good.j0 (k + 1) y0 y1)) ∧ (∀ y0 y1 y2 y3, LeO (pylonref17_Good.l0 k y0 y1 y2 y3) (pylonref17_Good.l0 (k + 1) y0 y1 y2 y3)) ∧ (∀ y0 y1 y2 y3 y4 y5 y6 y7, LeO (pylonref17_Good.j2 k y0 y1 y2 y3 y4 y5 y6 y7) (pylonref17_Good.j2 (k + 1) y0 y1 y2 y3 y4 y5 y6 y7))
 | 0 => ⟨fun _ _ r h => by simp [pylonref17_Good.j0] at h, fun _ _ _ _ r h => by simp [pylonref17_Good.l0] at h, fun _ _ _ _ _ _ _ _ r h => by simp [pylonref17_Good.j2] at h⟩
 | k + 1 => by
  obtain ⟨ih0, ih1, ih2⟩ := pylonref17_Good.mono_l k
  refine ⟨?_, ?_, ?_⟩
  ·intro y0 y1
   unfold pylonref17_Good.j0
   repeat' first
   | (with_reducible exact ih0 _ _)
   | (with_reducible exact ih1 _ _ _ _)
   | (with_reducible exact ih2 _ _ _ _ _ _ _ _)
   | (with_reducible exact LeO.refl _)
   | (with_reducible exact LeO.none _)
   | (with_reducible refine LeO.ite ?_ ?_)
   | (with_reducible refine LeO.bind ?_ (fun _ => ?_))
  ·intro y0 y1 y2 y3
   unfold pylonref17_Good.l0
   repeat' first
   | (with_reducible exact ih0 _ _)
   | (with_reducible exact ih1 _ _ _ _)
   | (with_reducible exact ih2 _ _ _ _ _ _ _ _)
   | (with_reducible exact LeO.refl _)
   | (with_reducible exact LeO.none _)
   | (with_reducible refine LeO.ite ?_ ?_)
   | (with_reducible refine LeO.bind ?_ (fun _ => ?_))
  ·intro y0 y1 y2 y3 y4 y5 y6 y7
   unfold pylonref17_Good.j2
   repeat' first
   | (with_reducible exact ih0 _ _)
   | (with_reducible exact ih1 _ _ _ _)
   | (with_reducible exact ih2 _ _ _ _ _ _ _ _)
   | (with_reducible exact LeO.refl _)
   | (with_reducible exact LeO.none _)
   | (with_reducible refine LeO.ite ?_ ?_)
   | (with_reducible refine LeO.bind ?_ (fun _ => ?_))
theorem pylonref17_Good.mono : ∀ a0 k, LeO (pylonref17_Good.f k a0) (pylonref17_Good.f (k + 1) a0) := by
 intro a0 k
 obtain ⟨ih0, ih1, ih2⟩ := pylonref17_Good.mono_l k
 unfold pylonref17_Good.f
 repeat' first
   | (with_reducible exact ih0 _ _)
   | (with_reducible exact ih1 _ _ _ _)
   | (with_reducible exact ih2 _ _ _ _ _ _ _ _)
   | (with_reducible exact LeO.refl _)
   | (with_reducible exact LeO.none _)
   | (with_reducible refine LeO.ite ?_ ?_)
   | (with_reducible refine LeO.bind ?_ (fun _ => ?_))
set_option maxHeartbeats 8000000 in
set_option maxRecDepth 100000 in
theorem pylonref17_Good.calls (k : Nat) (A0 : Option Addr) (c0 : Nat) (l0 : List (S122)) (r : Bool) (w : World) (hr0 : Kd.C k122 w A0 l0.length l0) (hc0 : l0.length ≤ c0) (h : pylonref17_Good.f k l0 = some r) :
  Calls Try.prog 81 #[.slice A0 l0.length c0] w fun e w' => e = .returned (.bool r) ∧ Below w.heap.size w w' := by
 have hu122 := Try.underlying122
 have HR0 := AX hr0
 have HC0 := AX hc0
 clear hr0 hc0
 have HB := AX (Below.refl w.heap.size w)
 have H : (if (l0.length : Int) < 1 then (pylonref17_Good.j0 k l0 true) else (pylonref17_Good.j0 k l0 (decide ((l0.length : Int) > 64)))) = some r := h
 clear h
 have HC2 := AX H
 clear H
 go_enter Try.func81, Try.ntmps81
 go_upto_region 1 with (fail)
 go_cut [13] (fun v13 wc => ∃ (kq : Nat) (x13_1 : Bool), v13 = .bool x13_1 ∧ Aside0 (pylonref17_Good.j0 kq l0 x13_1 = some r) ∧ Aside0 (kq ≤ k) ∧ Aside0 (Below w.heap.size w wc))
 case first =>
  have H := HC2.out
  clear HC2
  by_cases c3 : (l0.length : Int) < 1
  ·rw [if_pos c3] at H
   have c3b0 : decide ((l0.length : Int) < 1) = true := decide_eq_true c3
   have c3b1 : decide (l0.length < 1) = true := decide_eq_true (by omega)
   clear c3
   (first | rw [c3b0] | (simp only [i64_w, i32_w]; rw [c3b0]) | skip)
   have H' := AX H
   clear H
   go_wp2
   go_meet
   case rel => exact ⟨_, (true), (by first | rfl | (simp; done) | (simp [*]; done)), H', ⟨by first | omega | exact Nat.le_refl _⟩, ⟨bw⟩⟩
  ·rw [if_neg c3] at H
   have c3b0 : decide ((l0.length : Int) < 1) = false := decide_eq_false c3
   have c3b1 : decide (l0.length < 1) = false := decide_eq_false (by omega)
   clear c3
   (first | rw [c3b0] | (simp only [i64_w, i32_w]; rw [c3b0]) | skip)
   have H' := AX H
   clear H
   go_wp2
   go_meet
   case rel => exact ⟨_, (decide ((l0.length : Int) > 64)), (by first | rfl | (simp; done) | (simp [*]; done)), H', ⟨by first | omega | exact Nat.le_refl _⟩, ⟨bw⟩⟩
 case rest =>
  clear HC2
  obtain ⟨kq, x13_1, rfl, HA, HJ1, HB⟩ := hcut
  cases kq with
  | zero => exact absurd HA.out (by simp [pylonref17_Good.j0])
  | succ kj1 =>
   have H := HA.out
   clear HA
   simp only [pylonref17_Good.j0] at H
   by_cases c4 : x13_1 = true
   ·subst c4
    have H1 : (some false) = some r := by rw [if_pos rfl] at H; exact H
    clear H
    have H := H1
    clear H1
    obtain rfl := Option.some.inj H
    go_wp2
    go_ret
    exact ⟨by first | rfl | (simp [errW_none, errW_some] <;> rfl) | (simp [*, errW_none, errW_some] <;> rfl), bw⟩
   ·replace c4 := Bool.eq_false_iff.mpr c4
    subst c4
    have H1 : (pylonref17_Good.l0 kj1 l0 0 (l0.length : Int) 0) = some r := by rw [if_neg (show ¬ (false = true) by decide)] at H; exact H
    clear H
    have H := H1
    clear H1
    have H' := AX H
    clear H
    go_wp2
    go_loopg [3, 16] kj1 (fun kq v3 v16 w' => ∃ (x3_2 : Int) (x16_2 : Int), v3 = .int .i64 x3_2 ∧ v16 = .int .i64 x16_2 ∧ Aside0 (pylonref17_Good.l0 kq l0 x3_2 (l0.length : Int) x16_2 = some r) ∧ Aside0 (kq ≤ kj1) ∧ Aside0 (Below w.heap.size w w'))
    case atStart => exact ⟨(0), (0), (by first | rfl | (simp; done) | (simp [*]; done)), (by first | rfl | (simp; done) | (simp [*]; done)), H', ⟨Nat.le_refl _⟩, ⟨bw⟩⟩
    case round =>
     clear H'
     try clear c4
     obtain ⟨x3_2, x16_2, rfl, rfl, HA, HK2, HB⟩ := hrel
     cases gk with
     | zero => exact absurd HA.out (by simp [pylonref17_Good.l0])
     | succ k2 =>
      have H := HA.out
      clear HA
      simp only [pylonref17_Good.l0] at H
      by_cases c5 : x16_2 < (l0.length : Int)
      ·rw [if_pos c5] at H
       have c5b0 : decide (x16_2 < (l0.length : Int)) = true := decide_eq_true c5
       clear c5
       by_cases c6 : 0 ≤ x16_2
       ·rw [if_pos c6] at H
        have c6b0 : decide (0 ≤ x16_2) = true := decide_eq_true c6
        clear c6
        by_cases c7 : x16_2 < (l0.length : Int)
        ·rw [if_pos c7] at H
         have c7b0 : decide (x16_2 < (l0.length : Int)) = true := decide_eq_true c7
         clear c7
         have HC8 := AX H
         clear H
         have p204 : 0 ≤ (x16_2 : Int) := of_decide_eq_true (by first | (with_reducible assumption) | assumption)
         have q204 : x16_2 < (l0.length : Int) := of_decide_eq_true (by first | (with_reducible assumption) | assumption)
         obtain ⟨ad204, e204, hx204_0, hx204_1⟩ := at_T122 HR0.out x16_2 p204 q204
         cases e204
         replace hx204_0 := bcl HB hx204_0
         replace hx204_1 := bcl HB hx204_1
         replace p204 := eq_true p204
         replace q204 := eq_true q204
         go_upto_region 8 with (first | ((with_reducible refine gate_dst (N := 5) rfl ?_); (try (refine gate_guard (by rfl) ?_; dsimp only)); refine bx 5 #[.int .i64 0, .int .i64 0] 122 ?_; intro gb205 hg w9 hbox hb; have BK205 := AX (hbox); have GW205 := gwl (w := w) hg bw; have GE205 := GW205; replace HB := AX (below_step bw hb); clear hb hbox hg; obtain ⟨hcz10_0, hcz10_1⟩ := blkC2 (w := w9) BK205.out; obtain ⟨hfz10_0, hfz10_1⟩ := blkF2 BK205.out))
         (try simp only [Act.put, List.setIfInBounds_toArray, List.set_cons_zero, List.set_cons_succ])
         go_cut [30] (fun v30 wc => ∃ (kq : Nat) (x30_7 : Bool), v30 = .bool x30_7 ∧ Aside0 (pylonref17_Good.j2 kq l0 x3_2 x16_2 (l0.length : Int) x16_2 x30_7 ((rd_T122 l0 x16_2).f0) ((rd_T122 l0 x16_2).f1) = some r) ∧ Aside0 (kq ≤ k2) ∧ Aside0 (wc.heap[gb205]? = some (.cells #[.int .i64 ((rd_T122 l0 x16_2).f0), .int .i64 ((rd_T122 l0 x16_2).f1)] 122 (0, 0))) ∧ Aside0 (Below w.heap.size w wc))
         case first =>
          have H := HC8.out
          clear HC8
          by_cases c11 : ((rd_T122 l0 x16_2).f1) < (-10000000)
          ·rw [if_pos c11] at H
           have c11b0 : decide (((rd_T122 l0 x16_2).f1) < (-10000000)) = true := decide_eq_true c11
           clear c11
           (first | rw [c11b0] | (simp only [i64_w, i32_w]; rw [c11b0]) | skip)
           have H' := AX H
           clear H
           obtain ⟨hcz12_0, hcz12_1⟩ := blkC2 (w := w9) BK205.out
           obtain ⟨hfz12_0, hfz12_1⟩ := blkF2 BK205.out
           go_wp2
           go_meet
           case rel => exact ⟨_, (true), (by first | rfl | (simp; done) | (simp [*]; done)), H', ⟨by have := HJ1.out; have := HK2.out; first | omega | exact Nat.le_refl _⟩, ⟨by (with_reducible repeat first|refine blk_drewN ?_ _|refine blk_drew ?_|refine blk_alloc ?_ _); refine blk_put (cs := #[.int .i64 ((rd_T122 l0 x16_2).f0), .int .i64 0]) ?_ 1 _ rfl; (with_reducible repeat first|refine blk_drewN ?_ _|refine blk_drew ?_|refine blk_alloc ?_ _); refine blk_put (cs := #[.int .i64 0, .int .i64 0]) ?_ 0 _ rfl; (with_reducible repeat first|refine blk_drewN ?_ _|refine blk_drew ?_|refine blk_alloc ?_ _); exact BK205.out⟩, ⟨bw⟩⟩
          ·rw [if_neg c11] at H
           have c11b0 : decide (((rd_T122 l0 x16_2).f1) < (-10000000)) = false := decide_eq_false c11
           clear c11
           (first | rw [c11b0] | (simp only [i64_w, i32_w]; rw [c11b0]) | skip)
           have H' := AX H
           clear H
           obtain ⟨hcz13_0, hcz13_1⟩ := blkC2 (w := w9) BK205.out
           obtain ⟨hfz13_0, hfz13_1⟩ := blkF2 BK205.out
           go_wp2
           go_meet
           case rel => exact ⟨_, (decide (((rd_T122 l0 x16_2).f1) > 10000000)), (by first | rfl | (simp; done) | (simp [*]; done)), H', ⟨by have := HJ1.out; have := HK2.out; first | omega | exact Nat.le_refl _⟩, ⟨by (with_reducible repeat first|refine blk_drewN ?_ _|refine blk_drew ?_|refine blk_alloc ?_ _); refine blk_put (cs := #[.int .i64 ((rd_T122 l0 x16_2).f0), .int .i64 0]) ?_ 1 _ rfl; (with_reducible repeat first|refine blk_drewN ?_ _|refine blk_drew ?_|refine blk_alloc ?_ _); refine blk_put (cs := #[.int .i64 0, .int .i64 0]) ?_ 0 _ rfl; (with_reducible repeat first|refine blk_drewN ?_ _|refine blk_drew ?_|refine blk_alloc ?_ _); exact BK205.out⟩, ⟨bw⟩⟩
         case rest =>
          clear HC8
          try clear c5b0
          try clear c6b0
          try clear c7b0
          try clear hcz10_0 hcz10_1
          try clear hfz10_0 hfz10_1
          try clear hx204_0
          try clear hx204_1
          try clear p204
          try clear q204
          obtain ⟨kq, x30_7, rfl, HA, HJ7, BK205, HB⟩ := hcut
          cases kq with
          | zero => exact absurd HA.out (by simp [pylonref17_Good.j2])
          | succ kj7 =>
           have H := HA.out
           clear HA
           simp only [pylonref17_Good.j2] at H
           by_cases c14 : x30_7 = true
           ·subst c14
            have H1 : (some false) = some r := by rw [if_pos rfl] at H; exact H
            clear H
            have H := H1
            clear H1
            obtain rfl := Option.some.inj H
            go_wp2
            go_ret
            exact ⟨by first | rfl | (simp [errW_none, errW_some] <;> rfl) | (simp [*, errW_none, errW_some] <;> rfl), bw⟩
           ·replace c14 := Bool.eq_false_iff.mpr c14
            subst c14
            have H1 : (if x16_2 = (wrap64 ((l0.length : Int) - 1)) then (some (((rd_T122 l0 x16_2).f0) == 0)) else (if ((rd_T122 l0 x16_2).f0) ≤ x3_2 then (some false) else (if ((rd_T122 l0 x16_2).f0) > 500000000000000 then (some false) else (pylonref17_Good.l0 kj7 l0 ((rd_T122 l0 x16_2).f0) (l0.length : Int) (wrap64 (x16_2 + 1)))))) = some r := by rw [if_neg (show ¬ (false = true) by decide)] at H; exact H
            clear H
            have H := H1
            clear H1
            by_cases c15 : x16_2 = (wrap64 ((l0.length : Int) - 1))
            ·rw [if_pos c15] at H
             have c15b0 : (x16_2 == (wrap64 ((l0.length : Int) - 1))) = true := beq_iff_eq.mpr c15
             have c15b1 : (x16_2 != (wrap64 ((l0.length : Int) - 1))) = false := bne_eq_false_iff_eq.mpr c15
             clear c15
             obtain rfl := Option.some.inj H
             obtain ⟨hcz16_0, hcz16_1⟩ := blkC2 (w := wc) BK205.out
             obtain ⟨hfz16_0, hfz16_1⟩ := blkF2 BK205.out
             go_wp2
             go_ret
             exact ⟨by first | rfl | (simp [errW_none, errW_some] <;> rfl) | (simp [*, errW_none, errW_some] <;> rfl), bw⟩
            ·rw [if_neg c15] at H
             have c15b0 : (x16_2 == (wrap64 ((l0.length : Int) - 1))) = false := beq_eq_false_iff_ne.mpr c15
             have c15b1 : (x16_2 != (wrap64 ((l0.length : Int) - 1))) = true := bne_iff_ne.mpr c15
             by_cases c17 : ((rd_T122 l0 x16_2).f0) ≤ x3_2
             ·rw [if_pos c17] at H
              have c17b0 : decide (((rd_T122 l0 x16_2).f0) ≤ x3_2) = true := decide_eq_true c17
              clear c17
              obtain rfl := Option.some.inj H
              obtain ⟨hcz18_0, hcz18_1⟩ := blkC2 (w := wc) BK205.out
              obtain ⟨hfz18_0, hfz18_1⟩ := blkF2 BK205.out
              go_wp2
              go_ret
              exact ⟨by first | rfl | (simp [errW_none, errW_some] <;> rfl) | (simp [*, errW_none, errW_some] <;> rfl), bw⟩
             ·rw [if_neg c17] at H
              have c17b0 : decide (((rd_T122 l0 x16_2).f0) ≤ x3_2) = false := decide_eq_false c17
              clear c17
              by_cases c19 : ((rd_T122 l0 x16_2).f0) > 500000000000000
              ·rw [if_pos c19] at H
               have c19b0 : decide (500000000000000 < ((rd_T122 l0 x16_2).f0)) = true := decide_eq_true c19
               clear c19
               obtain rfl := Option.some.inj H
               obtain ⟨hcz20_0, hcz20_1⟩ := blkC2 (w := wc) BK205.out
               obtain ⟨hfz20_0, hfz20_1⟩ := blkF2 BK205.out
               go_wp2
               go_ret
               exact ⟨by first | rfl | (simp [errW_none, errW_some] <;> rfl) | (simp [*, errW_none, errW_some] <;> rfl), bw⟩
              ·rw [if_neg c19] at H
               have c19b0 : decide (500000000000000 < ((rd_T122 l0 x16_2).f0)) = false := decide_eq_false c19
               clear c19
               have H' := AX H
               clear H
               obtain ⟨hcz21_0, hcz21_1⟩ := blkC2 (w := wc) BK205.out
               obtain ⟨hfz21_0, hfz21_1⟩ := blkF2 BK205.out
               go_wp2
               go_roundg kj7
               case measure => have := HJ1.out; have := HK2.out; have := HJ7.out; omega
               case rel => exact ⟨(((rd_T122 l0 x16_2).f0)), (wrap64 (x16_2 + 1)), (by first | rfl | (simp; done) | (simp [*]; done)), (by first | rfl | (simp; done) | (simp [*]; done)), H', ⟨by have := HJ1.out; have := HK2.out; have := HJ7.out; omega⟩, ⟨bw⟩⟩
        ·rw [if_neg c7] at H
         exact absurd H (by simp)
       ·rw [if_neg c6] at H
        exact absurd H (by simp)
      ·rw [if_neg c5] at H
       have c5b0 : decide (x16_2 < (l0.length : Int)) = false := decide_eq_false c5
       clear c5
       obtain rfl := Option.some.inj H
       go_wp2
       go_ret
       exact ⟨by first | rfl | (simp [errW_none, errW_some] <;> rfl) | (simp [*, errW_none, errW_some] <;> rfl), bw⟩

/-! ### pylonref09_blocks: function 56 -/
mutual
def pylonref09_blocks.l0 : Nat → List (S63) → Int → Int → Option (Bool)
 | 0, _, _, _ => none
 | k + 1, x0, x6, x7 => if x7 < x6 then (if 0 ≤ x7 then (if x7 < (x0.length : Int) then ((pylonref06_Name.f k ((rd_T63 x0 x7).f0)).bind fun t207 => (if t207 = true then ((pylonref17_Good.f k ((rd_T63 x0 x7).f1)).bind fun t209 => (pylonref09_blocks.j1 k x0 x7 x6 x7 (!t209))) else (pylonref09_blocks.j1 k x0 x7 x6 x7 true))) else (none)) else (none)) else (if (x0.length : Int) ≥ 1 then (some (decide ((x0.length : Int) ≤ 64))) else (some false))
def pylonref09_blocks.j1 : Nat → List (S63) → Int → Int → Int → Bool → Option (Bool)
 | 0, _, _, _, _, _ => none
 | k + 1, x0, x3, x6, x7, x25 => if x25 = true then (some false) else (pylonref09_blocks.l1 k x0 x3 0 x6 x7)
def pylonref09_blocks.l1 : Nat → List (S63) → Int → Int → Int → Int → Option (Bool)
 | 0, _, _, _, _, _ => none
 | k + 1, x0, x3, x4, x6, x7 => if x4 < x3 then (if 0 ≤ x4 then (if x4 < (x0.length : Int) then (if 0 ≤ x3 then (if x3 < (x0.length : Int) then (if ((rd_T63 x0 x4).f0).toList = ((rd_T63 x0 x3).f0).toList then (some false) else (pylonref09_blocks.l1 k x0 x3 (wrap64 (x4 + 1)) x6 x7)) else (none)) else (none)) else (none)) else (none)) else (pylonref09_blocks.l0 k x0 x6 (wrap64 (x7 + 1)))
end
def pylonref09_blocks.f (k : Nat) (l0 : List (S63)) : Option (Bool) := pylonref09_blocks.l0 k l0 (l0.length : Int) 0
theorem pylonref09_blocks.mono_l : ∀ k, (∀ y0 y1 y2, LeO (pylonref09_blocks.l0 k y0 y1 y2) (pylonref09_blocks.l0 (k + 1) y0 y1 y2)) ∧ (∀ y0 y1 y2 y3 y4, LeO (pylonref09_blocks.j1 k y0 y1 y2 y3 y4) (pylonref09_blocks.j1 (k + 1) y0 y1 y2 y3 y4)) ∧ (∀ y0 y1 y2 y3 y4, LeO (pylonref09_blocks.l1 k y0 y1 y2 y3 y4) (pylonref09_blocks.l1 (k + 1) y0 y1 y2 y3 y4))
 | 0 => ⟨fun _ _ _ r h => by simp [pylonref09_blocks.l0] at h, fun _ _ _ _ _ r h => by simp [pylonref09_blocks.j1] at h, fun _ _ _ _ _ r h => by simp [pylonref09_blocks.l1] at h⟩
 | k + 1 => by
  obtain ⟨ih0, ih1, ih2⟩ := pylonref09_blocks.mono_l k
  refine ⟨?_, ?_, ?_⟩
  ·intro y0 y1 y2
   unfold pylonref09_blocks.l0
   repeat' first
   | (with_reducible exact ih0 _ _ _)
   | (with_reducible exact ih1 _ _ _ _ _)
   | (with_reducible exact ih2 _ _ _ _ _)
   | (with_reducible exact pylonref06_Name.mono _ _)
   | (with_reducible exact pylonref17_Good.mono _ _)
   | (with_reducible exact LeO.refl _)
   | (with_reducible exact LeO.none _)
   | (with_reducible refine LeO.ite ?_ ?_)
   | (with_reducible refine LeO.bind ?_ (fun _ => ?_))
  ·intro y0 y1 y2 y3 y4
   unfold pylonref09_blocks.j1
   repeat' first
   | (with_reducible exact ih0 _ _ _)
   | (with_reducible exact ih1 _ _ _ _ _)
   | (with_reducible exact ih2 _ _ _ _ _)
   | (with_reducible exact pylonref06_Name.mono _ _)
   | (with_reducible exact pylonref17_Good.mono _ _)
   | (with_reducible exact LeO.refl _)
   | (with_reducible exact LeO.none _)
   | (with_reducible refine LeO.ite ?_ ?_)
   | (with_reducible refine LeO.bind ?_ (fun _ => ?_))
  ·intro y0 y1 y2 y3 y4
   unfold pylonref09_blocks.l1
   repeat' first
   | (with_reducible exact ih0 _ _ _)
   | (with_reducible exact ih1 _ _ _ _ _)
   | (with_reducible exact ih2 _ _ _ _ _)
   | (with_reducible exact pylonref06_Name.mono _ _)
   | (with_reducible exact pylonref17_Good.mono _ _)
   | (with_reducible exact LeO.refl _)
   | (with_reducible exact LeO.none _)
   | (with_reducible refine LeO.ite ?_ ?_)
   | (with_reducible refine LeO.bind ?_ (fun _ => ?_))
theorem pylonref09_blocks.mono : ∀ a0 k, LeO (pylonref09_blocks.f k a0) (pylonref09_blocks.f (k + 1) a0) := by
 intro a0 k
 obtain ⟨ih0, ih1, ih2⟩ := pylonref09_blocks.mono_l k
 unfold pylonref09_blocks.f
 repeat' first
   | (with_reducible exact ih0 _ _ _)
   | (with_reducible exact ih1 _ _ _ _ _)
   | (with_reducible exact ih2 _ _ _ _ _)
   | (with_reducible exact pylonref06_Name.mono _ _)
   | (with_reducible exact pylonref17_Good.mono _ _)
   | (with_reducible exact LeO.refl _)
   | (with_reducible exact LeO.none _)
   | (with_reducible refine LeO.ite ?_ ?_)
   | (with_reducible refine LeO.bind ?_ (fun _ => ?_))
set_option maxHeartbeats 8000000 in
set_option maxRecDepth 100000 in
theorem pylonref09_blocks.calls (k : Nat) (A0 : Option Addr) (c0 : Nat) (l0 : List (S63)) (r : Bool) (w : World) (hr0 : Kd.C k63 w A0 l0.length l0) (hc0 : l0.length ≤ c0) (h : pylonref09_blocks.f k l0 = some r) :
  Calls Try.prog 56 #[.slice A0 l0.length c0] w fun e w' => e = .returned (.bool r) ∧ Below w.heap.size w w' := by
 have HR0 := AX hr0
 have HC0 := AX hc0
 clear hr0 hc0
 have HB := AX (Below.refl w.heap.size w)
 have H : (pylonref09_blocks.l0 k l0 (l0.length : Int) 0) = some r := h
 clear h
 have H' := AX H
 clear H
 go_enter Try.func56, Try.ntmps56
 go_wp2
 repeat (go_quiet (fail); try go_wp2)
 go_loopg [7] k (fun kq v7 w' => ∃ (x7_1 : Int), v7 = .int .i64 x7_1 ∧ Aside0 (pylonref09_blocks.l0 kq l0 (l0.length : Int) x7_1 = some r) ∧ Aside0 (kq ≤ k) ∧ Aside0 (Below w.heap.size w w'))
 case atStart => exact ⟨(0), (by first | rfl | (simp; done) | (simp [*]; done)), H', ⟨Nat.le_refl _⟩, ⟨bw⟩⟩
 case round =>
  clear H'
  obtain ⟨x7_1, rfl, HA, HK1, HB⟩ := hrel
  cases gk with
  | zero => exact absurd HA.out (by simp [pylonref09_blocks.l0])
  | succ k1 =>
   have H := HA.out
   clear HA
   simp only [pylonref09_blocks.l0] at H
   by_cases c2 : x7_1 < (l0.length : Int)
   ·rw [if_pos c2] at H
    have c2b0 : decide (x7_1 < (l0.length : Int)) = true := decide_eq_true c2
    clear c2
    have HC3 := AX H
    clear H
    go_upto_region 4 with (fail)
    repeat (go_quiet (fail); go_upto_region 4 with (fail))
    go_cut [25] (fun v25 wc => ∃ (kq : Nat) (x25_2 : Bool), v25 = .bool x25_2 ∧ Aside0 (pylonref09_blocks.j1 kq l0 x7_1 (l0.length : Int) x7_1 x25_2 = some r) ∧ Aside0 (kq ≤ k1) ∧ Aside0 (Below w.heap.size w wc))
    case first =>
     have H := HC3.out
     clear HC3
     by_cases c4 : 0 ≤ x7_1
     ·rw [if_pos c4] at H
      have c4b0 : decide (0 ≤ x7_1) = true := decide_eq_true c4
      clear c4
      (first | rw [c4b0] | (simp only [i64_w, i32_w]; rw [c4b0]) | skip)
      by_cases c5 : x7_1 < (l0.length : Int)
      ·rw [if_pos c5] at H
       have c5b0 : decide (x7_1 < (l0.length : Int)) = true := decide_eq_true c5
       clear c5
       replace H := Option.bind_eq_some_iff.mp H
       obtain ⟨t207, A60, H⟩ := H
       replace H : (if t207 = true then ((pylonref17_Good.f k1 ((rd_T63 l0 x7_1).f1)).bind fun t209 => (pylonref09_blocks.j1 k1 l0 x7_1 (l0.length : Int) x7_1 (!t209))) else (pylonref09_blocks.j1 k1 l0 x7_1 (l0.length : Int) x7_1 true)) = some r := H
       have A6 := AX A60
       clear A60
       by_cases c7 : t207 = true
       ·subst c7
        have H1 : ((pylonref17_Good.f k1 ((rd_T63 l0 x7_1).f1)).bind fun t209 => (pylonref09_blocks.j1 k1 l0 x7_1 (l0.length : Int) x7_1 (!t209))) = some r := by rw [if_pos rfl] at H; exact H
        clear H
        have H := H1
        clear H1
        replace H := Option.bind_eq_some_iff.mp H
        obtain ⟨t209, A80, H⟩ := H
        replace H : (pylonref09_blocks.j1 k1 l0 x7_1 (l0.length : Int) x7_1 (!t209)) = some r := H
        have A8 := AX A80
        clear A80
        have H' := AX H
        clear H
        have p206 : 0 ≤ (x7_1 : Int) := of_decide_eq_true (by first | (with_reducible assumption) | assumption)
        have q206 : x7_1 < (l0.length : Int) := of_decide_eq_true (by first | (with_reducible assumption) | assumption)
        obtain ⟨ad206, A206_1, c206_1, e206, hx206_0, hx206_1, hl206_1, hi206_1⟩ := at_T63 HR0.out x7_1 p206 q206
        cases e206
        replace hx206_0 := bcl HB hx206_0
        replace hx206_1 := bcl HB hx206_1
        have HR206_1 := AX hi206_1
        have HC206_1 := AX hl206_1
        clear hi206_1 hl206_1
        replace p206 := eq_true p206
        replace q206 := eq_true q206
        go_wp2_with (first | (go_at_call 51; (with_reducible refine (pylonref06_Name.calls k1 ((rd_T63 l0 x7_1).f0) true _ A6.out).mono ?_); rintro e w' ⟨rfl, ⟨nd, rfl⟩⟩; (try first | exact ⟨rfl, _, World.drewN_drewN _ _ _⟩ | exact ⟨rfl, _, Eq.trans (World.drewN_drewN _ _ _) (congrArg (World.drewN _) (Nat.add_assoc _ _ _))⟩); have p208 : 0 ≤ (x7_1 : Int) := of_decide_eq_true (by first | (with_reducible assumption) | assumption); have q208 : x7_1 < (l0.length : Int) := of_decide_eq_true (by first | (with_reducible assumption) | assumption); obtain ⟨ad208, A208_1, c208_1, e208, hx208_0, hx208_1, hl208_1, hi208_1⟩ := at_T63 HR0.out x7_1 p208 q208; obtain rfl : ad206 = ad208 := (by injection e208); replace hx208_0 := bcl HB hx208_0; replace hx208_1 := bcl HB hx208_1; have HR208_1 := AX hi208_1; have HC208_1 := AX hl208_1; clear hi208_1 hl208_1; replace p208 := eq_true p208; replace q208 := eq_true q208; have ea_ := Option.some.inj (hx206_1.symm.trans hx208_1); injection ea_ with ea_ en_ ec_; subst ea_; subst ec_; clear en_) | (go_at_call 81; (with_reducible refine (pylonref17_Good.calls k1 _ _ ((rd_T63 l0 x7_1).f1) t209 _ ?side1 ?side2 A8.out).mono ?_); (case side1 => repeat (first | exact (Kd.C_below HR208_1.out bw) | (with_reducible refine Kd.C_alloc ?_ _) | (with_reducible refine Kd.C_drewN ?_ _) | (with_reducible refine Kd.C_drew ?_))); (case side2 => exact HC208_1.out); rintro e w9 ⟨rfl, hb⟩; replace HB := AX (below_step bw hb); (try clear hb); (try clear hb2); (try clear hk); (try clear hi)))
        repeat (go_quiet (first | (go_at_call 51; (with_reducible refine (pylonref06_Name.calls k1 ((rd_T63 l0 x7_1).f0) true _ A6.out).mono ?_); rintro e w' ⟨rfl, ⟨nd, rfl⟩⟩; (try first | exact ⟨rfl, _, World.drewN_drewN _ _ _⟩ | exact ⟨rfl, _, Eq.trans (World.drewN_drewN _ _ _) (congrArg (World.drewN _) (Nat.add_assoc _ _ _))⟩); have p208 : 0 ≤ (x7_1 : Int) := of_decide_eq_true (by first | (with_reducible assumption) | assumption); have q208 : x7_1 < (l0.length : Int) := of_decide_eq_true (by first | (with_reducible assumption) | assumption); obtain ⟨ad208, A208_1, c208_1, e208, hx208_0, hx208_1, hl208_1, hi208_1⟩ := at_T63 HR0.out x7_1 p208 q208; obtain rfl : ad206 = ad208 := (by injection e208); replace hx208_0 := bcl HB hx208_0; replace hx208_1 := bcl HB hx208_1; have HR208_1 := AX hi208_1; have HC208_1 := AX hl208_1; clear hi208_1 hl208_1; replace p208 := eq_true p208; replace q208 := eq_true q208; have ea_ := Option.some.inj (hx206_1.symm.trans hx208_1); injection ea_ with ea_ en_ ec_; subst ea_; subst ec_; clear en_) | (go_at_call 81; (with_reducible refine (pylonref17_Good.calls k1 _ _ ((rd_T63 l0 x7_1).f1) t209 _ ?side1 ?side2 A8.out).mono ?_); (case side1 => repeat (first | exact (Kd.C_below HR208_1.out bw) | (with_reducible refine Kd.C_alloc ?_ _) | (with_reducible refine Kd.C_drewN ?_ _) | (with_reducible refine Kd.C_drew ?_))); (case side2 => exact HC208_1.out); rintro e w9 ⟨rfl, hb⟩; replace HB := AX (below_step bw hb); (try clear hb); (try clear hb2); (try clear hk); (try clear hi))); try go_wp2_with (first | (go_at_call 51; (with_reducible refine (pylonref06_Name.calls k1 ((rd_T63 l0 x7_1).f0) true _ A6.out).mono ?_); rintro e w' ⟨rfl, ⟨nd, rfl⟩⟩; (try first | exact ⟨rfl, _, World.drewN_drewN _ _ _⟩ | exact ⟨rfl, _, Eq.trans (World.drewN_drewN _ _ _) (congrArg (World.drewN _) (Nat.add_assoc _ _ _))⟩); have p208 : 0 ≤ (x7_1 : Int) := of_decide_eq_true (by first | (with_reducible assumption) | assumption); have q208 : x7_1 < (l0.length : Int) := of_decide_eq_true (by first | (with_reducible assumption) | assumption); obtain ⟨ad208, A208_1, c208_1, e208, hx208_0, hx208_1, hl208_1, hi208_1⟩ := at_T63 HR0.out x7_1 p208 q208; obtain rfl : ad206 = ad208 := (by injection e208); replace hx208_0 := bcl HB hx208_0; replace hx208_1 := bcl HB hx208_1; have HR208_1 := AX hi208_1; have HC208_1 := AX hl208_1; clear hi208_1 hl208_1; replace p208 := eq_true p208; replace q208 := eq_true q208; have ea_ := Option.some.inj (hx206_1.symm.trans hx208_1); injection ea_ with ea_ en_ ec_; subst ea_; subst ec_; clear en_) | (go_at_call 81; (with_reducible refine (pylonref17_Good.calls k1 _ _ ((rd_T63 l0 x7_1).f1) t209 _ ?side1 ?side2 A8.out).mono ?_); (case side1 => repeat (first | exact (Kd.C_below HR208_1.out bw) | (with_reducible refine Kd.C_alloc ?_ _) | (with_reducible refine Kd.C_drewN ?_ _) | (with_reducible refine Kd.C_drew ?_))); (case side2 => exact HC208_1.out); rintro e w9 ⟨rfl, hb⟩; replace HB := AX (below_step bw hb); (try clear hb); (try clear hb2); (try clear hk); (try clear hi))))
        go_meet
        case rel => exact ⟨_, (!t209), (by first | rfl | (simp; done) | (simp [*]; done)), H', ⟨by have := HK1.out; first | omega | exact Nat.le_refl _⟩, ⟨bw⟩⟩
       ·replace c7 := Bool.eq_false_iff.mpr c7
        subst c7
        have H1 : (pylonref09_blocks.j1 k1 l0 x7_1 (l0.length : Int) x7_1 true) = some r := by rw [if_neg (show ¬ (false = true) by decide)] at H; exact H
        clear H
        have H := H1
        clear H1
        have H' := AX H
        clear H
        have p206 : 0 ≤ (x7_1 : Int) := of_decide_eq_true (by first | (with_reducible assumption) | assumption)
        have q206 : x7_1 < (l0.length : Int) := of_decide_eq_true (by first | (with_reducible assumption) | assumption)
        obtain ⟨ad206, A206_1, c206_1, e206, hx206_0, hx206_1, hl206_1, hi206_1⟩ := at_T63 HR0.out x7_1 p206 q206
        cases e206
        replace hx206_0 := bcl HB hx206_0
        replace hx206_1 := bcl HB hx206_1
        have HR206_1 := AX hi206_1
        have HC206_1 := AX hl206_1
        clear hi206_1 hl206_1
        replace p206 := eq_true p206
        replace q206 := eq_true q206
        go_wp2_with (first | (go_at_call 51; (with_reducible refine (pylonref06_Name.calls k1 ((rd_T63 l0 x7_1).f0) false _ A6.out).mono ?_); rintro e w' ⟨rfl, ⟨nd, rfl⟩⟩; (try first | exact ⟨rfl, _, World.drewN_drewN _ _ _⟩ | exact ⟨rfl, _, Eq.trans (World.drewN_drewN _ _ _) (congrArg (World.drewN _) (Nat.add_assoc _ _ _))⟩)))
        repeat (go_quiet (first | (go_at_call 51; (with_reducible refine (pylonref06_Name.calls k1 ((rd_T63 l0 x7_1).f0) false _ A6.out).mono ?_); rintro e w' ⟨rfl, ⟨nd, rfl⟩⟩; (try first | exact ⟨rfl, _, World.drewN_drewN _ _ _⟩ | exact ⟨rfl, _, Eq.trans (World.drewN_drewN _ _ _) (congrArg (World.drewN _) (Nat.add_assoc _ _ _))⟩))); try go_wp2_with (first | (go_at_call 51; (with_reducible refine (pylonref06_Name.calls k1 ((rd_T63 l0 x7_1).f0) false _ A6.out).mono ?_); rintro e w' ⟨rfl, ⟨nd, rfl⟩⟩; (try first | exact ⟨rfl, _, World.drewN_drewN _ _ _⟩ | exact ⟨rfl, _, Eq.trans (World.drewN_drewN _ _ _) (congrArg (World.drewN _) (Nat.add_assoc _ _ _))⟩))))
        go_meet
        case rel => exact ⟨_, (true), (by first | rfl | (simp; done) | (simp [*]; done)), H', ⟨by have := HK1.out; first | omega | exact Nat.le_refl _⟩, ⟨bw⟩⟩
      ·rw [if_neg c5] at H
       exact absurd H (by simp)
     ·rw [if_neg c4] at H
      exact absurd H (by simp)
    case rest =>
     clear HC3
     try clear c2b0
     obtain ⟨kq, x25_2, rfl, HA, HJ2, HB⟩ := hcut
     cases kq with
     | zero => exact absurd HA.out (by simp [pylonref09_blocks.j1])
     | succ kj2 =>
      have H := HA.out
      clear HA
      simp only [pylonref09_blocks.j1] at H
      by_cases c10 : x25_2 = true
      ·subst c10
       have H1 : (some false) = some r := by rw [if_pos rfl] at H; exact H
       clear H
       have H := H1
       clear H1
       obtain rfl := Option.some.inj H
       go_wp2
       repeat (go_quiet (fail); try go_wp2)
       go_ret
       exact ⟨by first | rfl | (simp [errW_none, errW_some] <;> rfl) | (simp [*, errW_none, errW_some] <;> rfl), bw⟩
      ·replace c10 := Bool.eq_false_iff.mpr c10
       subst c10
       have H1 : (pylonref09_blocks.l1 kj2 l0 x7_1 0 (l0.length : Int) x7_1) = some r := by rw [if_neg (show ¬ (false = true) by decide)] at H; exact H
       clear H
       have H := H1
       clear H1
       have H' := AX H
       clear H
       go_wp2
       repeat (go_quiet (fail); try go_wp2)
       go_loopg [4] kj2 (fun kq v4 w' => ∃ (x4_3 : Int), v4 = .int .i64 x4_3 ∧ Aside0 (pylonref09_blocks.l1 kq l0 x7_1 x4_3 (l0.length : Int) x7_1 = some r) ∧ Aside0 (kq ≤ kj2) ∧ Aside0 (Below w.heap.size w w'))
       case atStart => exact ⟨(0), (by first | rfl | (simp; done) | (simp [*]; done)), H', ⟨Nat.le_refl _⟩, ⟨bw⟩⟩
       case round =>
        clear H'
        try clear c10
        obtain ⟨x4_3, rfl, HA, HK3, HB⟩ := hrel
        cases gk with
        | zero => exact absurd HA.out (by simp [pylonref09_blocks.l1])
        | succ k3 =>
         have H := HA.out
         clear HA
         simp only [pylonref09_blocks.l1] at H
         by_cases c11 : x4_3 < x7_1
         ·rw [if_pos c11] at H
          have c11b0 : decide (x4_3 < x7_1) = true := decide_eq_true c11
          clear c11
          by_cases c12 : 0 ≤ x4_3
          ·rw [if_pos c12] at H
           have c12b0 : decide (0 ≤ x4_3) = true := decide_eq_true c12
           clear c12
           by_cases c13 : x4_3 < (l0.length : Int)
           ·rw [if_pos c13] at H
            have c13b0 : decide (x4_3 < (l0.length : Int)) = true := decide_eq_true c13
            clear c13
            by_cases c14 : 0 ≤ x7_1
            ·rw [if_pos c14] at H
             have c14b0 : decide (0 ≤ x7_1) = true := decide_eq_true c14
             clear c14
             by_cases c15 : x7_1 < (l0.length : Int)
             ·rw [if_pos c15] at H
              have c15b0 : decide (x7_1 < (l0.length : Int)) = true := decide_eq_true c15
              clear c15
              by_cases c16 : ((rd_T63 l0 x4_3).f0).toList = ((rd_T63 l0 x7_1).f0).toList
              ·rw [if_pos c16] at H
               have c16b0 : (((rd_T63 l0 x4_3).f0).toList == ((rd_T63 l0 x7_1).f0).toList) = true := beq_iff_eq.mpr c16
               have c16b1 : (((rd_T63 l0 x4_3).f0).toList != ((rd_T63 l0 x7_1).f0).toList) = false := bne_eq_false_iff_eq.mpr c16
               clear c16
               obtain rfl := Option.some.inj H
               have p210 : 0 ≤ (x4_3 : Int) := of_decide_eq_true (by first | (with_reducible assumption) | assumption)
               have q210 : x4_3 < (l0.length : Int) := of_decide_eq_true (by first | (with_reducible assumption) | assumption)
               obtain ⟨ad210, A210_1, c210_1, e210, hx210_0, hx210_1, hl210_1, hi210_1⟩ := at_T63 HR0.out x4_3 p210 q210
               cases e210
               replace hx210_0 := bcl HB hx210_0
               replace hx210_1 := bcl HB hx210_1
               have HR210_1 := AX hi210_1
               have HC210_1 := AX hl210_1
               clear hi210_1 hl210_1
               replace p210 := eq_true p210
               replace q210 := eq_true q210
               have p211 : 0 ≤ (x7_1 : Int) := of_decide_eq_true (by first | (with_reducible assumption) | assumption)
               have q211 : x7_1 < (l0.length : Int) := of_decide_eq_true (by first | (with_reducible assumption) | assumption)
               obtain ⟨ad211, A211_1, c211_1, e211, hx211_0, hx211_1, hl211_1, hi211_1⟩ := at_T63 HR0.out x7_1 p211 q211
               obtain rfl : ad210 = ad211 := (by injection e211)
               replace hx211_0 := bcl HB hx211_0
               replace hx211_1 := bcl HB hx211_1
               have HR211_1 := AX hi211_1
               have HC211_1 := AX hl211_1
               clear hi211_1 hl211_1
               replace p211 := eq_true p211
               replace q211 := eq_true q211
               go_wp2
               repeat (go_quiet (fail); try go_wp2)
               go_ret
               exact ⟨by first | rfl | (simp [errW_none, errW_some] <;> rfl) | (simp [*, errW_none, errW_some] <;> rfl), bw⟩
              ·rw [if_neg c16] at H
               have c16b0 : (((rd_T63 l0 x4_3).f0).toList == ((rd_T63 l0 x7_1).f0).toList) = false := beq_eq_false_iff_ne.mpr c16
               have c16b1 : (((rd_T63 l0 x4_3).f0).toList != ((rd_T63 l0 x7_1).f0).toList) = true := bne_iff_ne.mpr c16
               have H' := AX H
               clear H
               have p210 : 0 ≤ (x4_3 : Int) := of_decide_eq_true (by first | (with_reducible assumption) | assumption)
               have q210 : x4_3 < (l0.length : Int) := of_decide_eq_true (by first | (with_reducible assumption) | assumption)
               obtain ⟨ad210, A210_1, c210_1, e210, hx210_0, hx210_1, hl210_1, hi210_1⟩ := at_T63 HR0.out x4_3 p210 q210
               cases e210
               replace hx210_0 := bcl HB hx210_0
               replace hx210_1 := bcl HB hx210_1
               have HR210_1 := AX hi210_1
               have HC210_1 := AX hl210_1
               clear hi210_1 hl210_1
               replace p210 := eq_true p210
               replace q210 := eq_true q210
               have p211 : 0 ≤ (x7_1 : Int) := of_decide_eq_true (by first | (with_reducible assumption) | assumption)
               have q211 : x7_1 < (l0.length : Int) := of_decide_eq_true (by first | (with_reducible assumption) | assumption)
               obtain ⟨ad211, A211_1, c211_1, e211, hx211_0, hx211_1, hl211_1, hi211_1⟩ := at_T63 HR0.out x7_1 p211 q211
               obtain rfl : ad210 = ad211 := (by injection e211)
               replace hx211_0 := bcl HB hx211_0
               replace hx211_1 := bcl HB hx211_1
               have HR211_1 := AX hi211_1
               have HC211_1 := AX hl211_1
               clear hi211_1 hl211_1
               replace p211 := eq_true p211
               replace q211 := eq_true q211
               go_wp2
               repeat (go_quiet (fail); try go_wp2)
               go_roundg k3
               case measure => have := HK1.out; have := HJ2.out; have := HK3.out; omega
               case rel => exact ⟨(wrap64 (x4_3 + 1)), (by first | rfl | (simp; done) | (simp [*]; done)), H', ⟨by have := HK1.out; have := HJ2.out; have := HK3.out; omega⟩, ⟨bw⟩⟩
             ·rw [if_neg c15] at H
              exact absurd H (by simp)
            ·rw [if_neg c14] at H
             exact absurd H (by simp)
           ·rw [if_neg c13] at H
            exact absurd H (by simp)
          ·rw [if_neg c12] at H
           exact absurd H (by simp)
         ·rw [if_neg c11] at H
          have c11b0 : decide (x4_3 < x7_1) = false := decide_eq_false c11
          clear c11
          have H' := AX H
          clear H
          go_wp2
          repeat (go_quiet (fail); try go_wp2)
          go_roundg k3
          case measure => have := HK1.out; have := HJ2.out; have := HK3.out; omega
          case rel => exact ⟨(wrap64 (x7_1 + 1)), (by first | rfl | (simp; done) | (simp [*]; done)), H', ⟨by have := HK1.out; have := HJ2.out; have := HK3.out; omega⟩, ⟨bw⟩⟩
   ·rw [if_neg c2] at H
    have c2b0 : decide (x7_1 < (l0.length : Int)) = false := decide_eq_false c2
    clear c2
    by_cases c17 : (l0.length : Int) ≥ 1
    ·rw [if_pos c17] at H
     have c17b0 : decide (1 ≤ (l0.length : Int)) = true := decide_eq_true c17
     have c17b1 : decide (1 ≤ l0.length) = true := decide_eq_true (by omega)
     clear c17
     obtain rfl := Option.some.inj H
     go_wp2
     repeat (go_quiet (fail); try go_wp2)
     go_ret
     exact ⟨by first | rfl | (simp [errW_none, errW_some] <;> rfl) | (simp [*, errW_none, errW_some] <;> rfl), bw⟩
    ·rw [if_neg c17] at H
     have c17b0 : decide (1 ≤ (l0.length : Int)) = false := decide_eq_false c17
     have c17b1 : decide (1 ≤ l0.length) = false := decide_eq_false (by omega)
     clear c17
     obtain rfl := Option.some.inj H
     go_wp2
     repeat (go_quiet (fail); try go_wp2)
     go_ret
     exact ⟨by first | rfl | (simp [errW_none, errW_some] <;> rfl) | (simp [*, errW_none, errW_some] <;> rfl), bw⟩

end Go.Proofs.Ytkggjjggcbcdiaa.PX
