/- Functions of the program as plain Lean functions, each with a proof that the call in the machine answers just what the plain function says; condition: the plain function answers at all. -/
import Derived.Test.YtkggjjggcbcdiaaPXx0
import Derived.Test.YtkggjjggcbcdiaaPXx8
namespace Go.Proofs.Ytkggjjggcbcdiaa.PX
open Go.RowKit Go.Proofs.YtkggjjggcbcdiaaW.PrintWords Go.Proofs.YtkggjjggcbcdiaaW.PrintLast Go.Proofs.YtkggjjggcbcdiaaW.PrintMore
attribute [local go_sem] max2_int min2_int max_two min_two max_three min_three max_four min_four   -- for this text's walks alone
set_option linter.unusedVariables false
set_option linter.unusedSimpArgs false

/-! ### pylonref04_Check: function 52 -/
def pylonref04_Check.j0 : Nat → Bool → Int → Int → Int → Int → Int → Int → Int → Int → Int → Int → Option (Int)
 | 0, _, _, _, _, _, _, _, _, _, _, _ => none
 | k + 1, x31, x187000, x187001, x187002, x187003, x187004, x187005, x187006, x187007, x187008, x187009 => if x31 = true then (some 8) else (if x187001 = 0 then (some 0) else ((pylonref04_good.f x187002 x187003 x187004 x187005).bind fun t187 => (if t187 = true then ((pylonref04_good.f x187006 x187007 x187008 x187009).bind fun t188 => (if t188 = true then (if x187002 = x187006 then (some 8) else (some 0)) else (some 8))) else (some 8))))
def pylonref04_Check.f (k : Nat) (a0_0 : Int) (a0_1 : Int) (a0_2 : Int) (a0_3 : Int) (a0_4 : Int) (a0_5 : Int) (a0_6 : Int) (a0_7 : Int) (a0_8 : Int) (a0_9 : Int) : Option (Int) := if a0_0 < (-720) then (pylonref04_Check.j0 k true a0_0 a0_1 a0_2 a0_3 a0_4 a0_5 a0_6 a0_7 a0_8 a0_9) else (if a0_0 > 840 then (pylonref04_Check.j0 k true a0_0 a0_1 a0_2 a0_3 a0_4 a0_5 a0_6 a0_7 a0_8 a0_9) else (if (Int.tmod a0_0 15) = 0 then (if a0_1 = 0 then (pylonref04_Check.j0 k false a0_0 a0_1 a0_2 a0_3 a0_4 a0_5 a0_6 a0_7 a0_8 a0_9) else (if a0_1 = 30 then (pylonref04_Check.j0 k false a0_0 a0_1 a0_2 a0_3 a0_4 a0_5 a0_6 a0_7 a0_8 a0_9) else (pylonref04_Check.j0 k (a0_1 != 60) a0_0 a0_1 a0_2 a0_3 a0_4 a0_5 a0_6 a0_7 a0_8 a0_9))) else (pylonref04_Check.j0 k true a0_0 a0_1 a0_2 a0_3 a0_4 a0_5 a0_6 a0_7 a0_8 a0_9)))
theorem pylonref04_Check.mono_l : ∀ k, (∀ y0 y1 y2 y3 y4 y5 y6 y7 y8 y9 y10, LeO (pylonref04_Check.j0 k y0 y1 y2 y3 y4 y5 y6 y7 y8 y9 y10) (pylonref04_Check.j0 (k + 1) y0 y1 y2 y3 y4 y5 y6 y7 y8 y9 y10))
 | 0 => fun _ _ _ _ _ _ _ _ _ _ _ r h => by simp [pylonref04_Check.j0] at h
 | k + 1 => by
  have ih0 := pylonref04_Check.mono_l k
  ·intro y0 y1 y2 y3 y4 y5 y6 y7 y8 y9 y10
   unfold pylonref04_Check.j0
   repeat' first
   | (with_reducible exact ih0 _ _ _ _ _ _ _ _ _ _ _)
   | (with_reducible exact LeO.refl _)
   | (with_reducible exact LeO.none _)
   | (with_reducible refine LeO.ite ?_ ?_)
   | (with_reducible refine LeO.bind ?_ (fun _ => ?_))
theorem pylonref04_Check.mono : ∀ a0 a1 a2 a3 a4 a5 a6 a7 a8 a9 k, LeO (pylonref04_Check.f k a0 a1 a2 a3 a4 a5 a6 a7 a8 a9) (pylonref04_Check.f (k + 1) a0 a1 a2 a3 a4 a5 a6 a7 a8 a9) := by
 intro a0 a1 a2 a3 a4 a5 a6 a7 a8 a9 k
 have ih0 := pylonref04_Check.mono_l k
 unfold pylonref04_Check.f
 repeat' first
   | (with_reducible exact ih0 _ _ _ _ _ _ _ _ _ _ _)
   | (with_reducible exact LeO.refl _)
   | (with_reducible exact LeO.none _)
   | (with_reducible refine LeO.ite ?_ ?_)
   | (with_reducible refine LeO.bind ?_ (fun _ => ?_))
set_option maxHeartbeats 8000000 in
set_option maxRecDepth 100000 in
theorem pylonref04_Check.calls (k : Nat) (a0_0 : Int) (a0_1 : Int) (a0_2 : Int) (a0_3 : Int) (a0_4 : Int) (a0_5 : Int) (a0_6 : Int) (a0_7 : Int) (a0_8 : Int) (a0_9 : Int) (r : Int) (w : World) (h : pylonref04_Check.f k a0_0 a0_1 a0_2 a0_3 a0_4 a0_5 a0_6 a0_7 a0_8 a0_9 = some r) :
  Calls Try.prog 52 #[.agg #[.int .i64 a0_0, .int .i64 a0_1, .int .i64 a0_2, .int .i64 a0_3, .int .i64 a0_4, .int .i64 a0_5, .int .i64 a0_6, .int .i64 a0_7, .int .i64 a0_8, .int .i64 a0_9]] w fun e w' => e = .returned (.int .i64 r) ∧ Below w.heap.size w w' := by
 have hu42 := Try.underlying42
 have hu40 := Try.underlying40
 have HB := AX (Below.refl w.heap.size w)
 have H : (if a0_0 < (-720) then (pylonref04_Check.j0 k true a0_0 a0_1 a0_2 a0_3 a0_4 a0_5 a0_6 a0_7 a0_8 a0_9) else (if a0_0 > 840 then (pylonref04_Check.j0 k true a0_0 a0_1 a0_2 a0_3 a0_4 a0_5 a0_6 a0_7 a0_8 a0_9) else (if (Int.tmod a0_0 15) = 0 then (if a0_1 = 0 then (pylonref04_Check.j0 k false a0_0 a0_1 a0_2 a0_3 a0_4 a0_5 a0_6 a0_7 a0_8 a0_9) else (if a0_1 = 30 then (pylonref04_Check.j0 k false a0_0 a0_1 a0_2 a0_3 a0_4 a0_5 a0_6 a0_7 a0_8 a0_9) else (pylonref04_Check.j0 k (a0_1 != 60) a0_0 a0_1 a0_2 a0_3 a0_4 a0_5 a0_6 a0_7 a0_8 a0_9))) else (pylonref04_Check.j0 k true a0_0 a0_1 a0_2 a0_3 a0_4 a0_5 a0_6 a0_7 a0_8 a0_9)))) = some r := h
 clear h
 have HC2 := AX H
 clear H
 go_enter Try.func52, Try.ntmps52
 go_upto_region 1 with (first | ((with_reducible refine gate_dst (N := 1) rfl ?_); refine bx 1 #[.int .i64 a0_0, .int .i64 a0_1, .int .i64 a0_2, .int .i64 a0_3, .int .i64 a0_4, .int .i64 a0_5, .int .i64 a0_6, .int .i64 a0_7, .int .i64 a0_8, .int .i64 a0_9] 42 ?_; intro gb186 hg w3 hbox hb; have BK186 := AX (hbox); have GW186 := gwl (w := w) hg bw; have GE186 := GW186; replace HB := AX (below_step bw hb); clear hb hbox hg))
 (try simp only [Act.put, List.setIfInBounds_toArray, List.set_cons_zero, List.set_cons_succ])
 go_cut [31] (fun v31 wc => ∃ (kq : Nat) (x31_1 : Bool), v31 = .bool x31_1 ∧ Aside0 (pylonref04_Check.j0 kq x31_1 a0_0 a0_1 a0_2 a0_3 a0_4 a0_5 a0_6 a0_7 a0_8 a0_9 = some r) ∧ Aside0 (kq ≤ k) ∧ Aside0 (wc.heap[gb186]? = some (.cells #[.int .i64 a0_0, .int .i64 a0_1, .int .i64 a0_2, .int .i64 a0_3, .int .i64 a0_4, .int .i64 a0_5, .int .i64 a0_6, .int .i64 a0_7, .int .i64 a0_8, .int .i64 a0_9] 42 (0, 0))) ∧ Aside0 (Below w.heap.size w wc))
 case first =>
  have H := HC2.out
  clear HC2
  by_cases c4 : a0_0 < (-720)
  ·rw [if_pos c4] at H
   have c4b0 : decide (a0_0 < (-720)) = true := decide_eq_true c4
   clear c4
   (first | rw [c4b0] | (simp only [i64_w, i32_w]; rw [c4b0]) | skip)
   have H' := AX H
   clear H
   obtain ⟨hcz5_0, hcz5_1, hcz5_2, hcz5_3, hcz5_4, hcz5_5, hcz5_6, hcz5_7, hcz5_8, hcz5_9⟩ := blkC10 (w := w3) BK186.out
   obtain ⟨hfz5_0, hfz5_1, hfz5_2, hfz5_3, hfz5_4, hfz5_5, hfz5_6, hfz5_7, hfz5_8, hfz5_9⟩ := blkF10 BK186.out
   go_wp2
   go_meet
   case rel => exact ⟨_, (true), (by first | rfl | (simp; done) | (simp [*]; done)), H', ⟨by first | omega | exact Nat.le_refl _⟩, ⟨bkn BK186⟩, ⟨bw⟩⟩
  ·rw [if_neg c4] at H
   have c4b0 : decide (a0_0 < (-720)) = false := decide_eq_false c4
   clear c4
   (first | rw [c4b0] | (simp only [i64_w, i32_w]; rw [c4b0]) | skip)
   by_cases c6 : a0_0 > 840
   ·rw [if_pos c6] at H
    have c6b0 : decide (840 < a0_0) = true := decide_eq_true c6
    clear c6
    have H' := AX H
    clear H
    obtain ⟨hcz7_0, hcz7_1, hcz7_2, hcz7_3, hcz7_4, hcz7_5, hcz7_6, hcz7_7, hcz7_8, hcz7_9⟩ := blkC10 (w := w3) BK186.out
    obtain ⟨hfz7_0, hfz7_1, hfz7_2, hfz7_3, hfz7_4, hfz7_5, hfz7_6, hfz7_7, hfz7_8, hfz7_9⟩ := blkF10 BK186.out
    go_wp2
    go_meet
    case rel => exact ⟨_, (true), (by first | rfl | (simp; done) | (simp [*]; done)), H', ⟨by first | omega | exact Nat.le_refl _⟩, ⟨bkn BK186⟩, ⟨bw⟩⟩
   ·rw [if_neg c6] at H
    have c6b0 : decide (840 < a0_0) = false := decide_eq_false c6
    clear c6
    by_cases c8 : (Int.tmod a0_0 15) = 0
    ·rw [if_pos c8] at H
     have c8b0 : ((Int.tmod a0_0 15) == 0) = true := beq_iff_eq.mpr c8
     have c8b1 : ((Int.tmod a0_0 15) != 0) = false := bne_eq_false_iff_eq.mpr c8
     clear c8
     by_cases c9 : a0_1 = 0
     ·rw [if_pos c9] at H
      have c9b0 : (a0_1 == 0) = true := beq_iff_eq.mpr c9
      have c9b1 : (a0_1 != 0) = false := bne_eq_false_iff_eq.mpr c9
      clear c9
      have H' := AX H
      clear H
      obtain ⟨hcz10_0, hcz10_1, hcz10_2, hcz10_3, hcz10_4, hcz10_5, hcz10_6, hcz10_7, hcz10_8, hcz10_9⟩ := blkC10 (w := w3) BK186.out
      obtain ⟨hfz10_0, hfz10_1, hfz10_2, hfz10_3, hfz10_4, hfz10_5, hfz10_6, hfz10_7, hfz10_8, hfz10_9⟩ := blkF10 BK186.out
      go_wp2
      go_meet
      case rel => exact ⟨_, (false), (by first | rfl | (simp; done) | (simp [*]; done)), H', ⟨by first | omega | exact Nat.le_refl _⟩, ⟨bkn BK186⟩, ⟨bw⟩⟩
     ·rw [if_neg c9] at H
      have c9b0 : (a0_1 == 0) = false := beq_eq_false_iff_ne.mpr c9
      have c9b1 : (a0_1 != 0) = true := bne_iff_ne.mpr c9
      by_cases c11 : a0_1 = 30
      ·rw [if_pos c11] at H
       have c11b0 : (a0_1 == 30) = true := beq_iff_eq.mpr c11
       have c11b1 : (a0_1 != 30) = false := bne_eq_false_iff_eq.mpr c11
       clear c11
       have H' := AX H
       clear H
       obtain ⟨hcz12_0, hcz12_1, hcz12_2, hcz12_3, hcz12_4, hcz12_5, hcz12_6, hcz12_7, hcz12_8, hcz12_9⟩ := blkC10 (w := w3) BK186.out
       obtain ⟨hfz12_0, hfz12_1, hfz12_2, hfz12_3, hfz12_4, hfz12_5, hfz12_6, hfz12_7, hfz12_8, hfz12_9⟩ := blkF10 BK186.out
       go_wp2
       go_meet
       case rel => exact ⟨_, (false), (by first | rfl | (simp; done) | (simp [*]; done)), H', ⟨by first | omega | exact Nat.le_refl _⟩, ⟨bkn BK186⟩, ⟨bw⟩⟩
      ·rw [if_neg c11] at H
       have c11b0 : (a0_1 == 30) = false := beq_eq_false_iff_ne.mpr c11
       have c11b1 : (a0_1 != 30) = true := bne_iff_ne.mpr c11
       have H' := AX H
       clear H
       obtain ⟨hcz13_0, hcz13_1, hcz13_2, hcz13_3, hcz13_4, hcz13_5, hcz13_6, hcz13_7, hcz13_8, hcz13_9⟩ := blkC10 (w := w3) BK186.out
       obtain ⟨hfz13_0, hfz13_1, hfz13_2, hfz13_3, hfz13_4, hfz13_5, hfz13_6, hfz13_7, hfz13_8, hfz13_9⟩ := blkF10 BK186.out
       go_wp2
       go_meet
       case rel => exact ⟨_, ((a0_1 != 60)), (by first | rfl | (simp; done) | (simp [*]; done)), H', ⟨by first | omega | exact Nat.le_refl _⟩, ⟨bkn BK186⟩, ⟨bw⟩⟩
    ·rw [if_neg c8] at H
     have c8b0 : ((Int.tmod a0_0 15) == 0) = false := beq_eq_false_iff_ne.mpr c8
     have c8b1 : ((Int.tmod a0_0 15) != 0) = true := bne_iff_ne.mpr c8
     have H' := AX H
     clear H
     obtain ⟨hcz14_0, hcz14_1, hcz14_2, hcz14_3, hcz14_4, hcz14_5, hcz14_6, hcz14_7, hcz14_8, hcz14_9⟩ := blkC10 (w := w3) BK186.out
     obtain ⟨hfz14_0, hfz14_1, hfz14_2, hfz14_3, hfz14_4, hfz14_5, hfz14_6, hfz14_7, hfz14_8, hfz14_9⟩ := blkF10 BK186.out
     go_wp2
     go_meet
     case rel => exact ⟨_, (true), (by first | rfl | (simp; done) | (simp [*]; done)), H', ⟨by first | omega | exact Nat.le_refl _⟩, ⟨bkn BK186⟩, ⟨bw⟩⟩
 case rest =>
  clear HC2
  obtain ⟨kq, x31_1, rfl, HA, HJ1, BK186, HB⟩ := hcut
  cases kq with
  | zero => exact absurd HA.out (by simp [pylonref04_Check.j0])
  | succ kj1 =>
   have H := HA.out
   clear HA
   simp only [pylonref04_Check.j0] at H
   by_cases c15 : x31_1 = true
   ·subst c15
    have H1 : (some 8) = some r := by rw [if_pos rfl] at H; exact H
    clear H
    have H := H1
    clear H1
    obtain rfl := Option.some.inj H
    go_wp2
    go_ret
    exact ⟨by first | rfl | (simp [errW_none, errW_some] <;> rfl) | (simp [*, errW_none, errW_some] <;> rfl), bw⟩
   ·replace c15 := Bool.eq_false_iff.mpr c15
    subst c15
    have H1 : (if a0_1 = 0 then (some 0) else ((pylonref04_good.f a0_2 a0_3 a0_4 a0_5).bind fun t187 => (if t187 = true then ((pylonref04_good.f a0_6 a0_7 a0_8 a0_9).bind fun t188 => (if t188 = true then (if a0_2 = a0_6 then (some 8) else (some 0)) else (some 8))) else (some 8)))) = some r := by rw [if_neg (show ¬ (false = true) by decide)] at H; exact H
    clear H
    have H := H1
    clear H1
    by_cases c16 : a0_1 = 0
    ·rw [if_pos c16] at H
     have c16b0 : (a0_1 == 0) = true := beq_iff_eq.mpr c16
     have c16b1 : (a0_1 != 0) = false := bne_eq_false_iff_eq.mpr c16
     clear c16
     obtain rfl := Option.some.inj H
     obtain ⟨hcz17_0, hcz17_1, hcz17_2, hcz17_3, hcz17_4, hcz17_5, hcz17_6, hcz17_7, hcz17_8, hcz17_9⟩ := blkC10 (w := wc) BK186.out
     obtain ⟨hfz17_0, hfz17_1, hfz17_2, hfz17_3, hfz17_4, hfz17_5, hfz17_6, hfz17_7, hfz17_8, hfz17_9⟩ := blkF10 BK186.out
     go_wp2
     go_ret
     exact ⟨by first | rfl | (simp [errW_none, errW_some] <;> rfl) | (simp [*, errW_none, errW_some] <;> rfl), bw⟩
    ·rw [if_neg c16] at H
     have c16b0 : (a0_1 == 0) = false := beq_eq_false_iff_ne.mpr c16
     have c16b1 : (a0_1 != 0) = true := bne_iff_ne.mpr c16
     replace H := Option.bind_eq_some_iff.mp H
     obtain ⟨t187, A180, H⟩ := H
     replace H : (if t187 = true then ((pylonref04_good.f a0_6 a0_7 a0_8 a0_9).bind fun t188 => (if t188 = true then (if a0_2 = a0_6 then (some 8) else (some 0)) else (some 8))) else (some 8)) = some r := H
     have A18 := AX A180
     clear A180
     by_cases c19 : t187 = true
     ·subst c19
      have H1 : ((pylonref04_good.f a0_6 a0_7 a0_8 a0_9).bind fun t188 => (if t188 = true then (if a0_2 = a0_6 then (some 8) else (some 0)) else (some 8))) = some r := by rw [if_pos rfl] at H; exact H
      clear H
      have H := H1
      clear H1
      replace H := Option.bind_eq_some_iff.mp H
      obtain ⟨t188, A200, H⟩ := H
      replace H : (if t188 = true then (if a0_2 = a0_6 then (some 8) else (some 0)) else (some 8)) = some r := H
      have A20 := AX A200
      clear A200
      by_cases c21 : t188 = true
      ·subst c21
       have H1 : (if a0_2 = a0_6 then (some 8) else (some 0)) = some r := by rw [if_pos rfl] at H; exact H
       clear H
       have H := H1
       clear H1
       by_cases c22 : a0_2 = a0_6
       ·rw [if_pos c22] at H
        have c22b0 : (a0_2 == a0_6) = true := beq_iff_eq.mpr c22
        have c22b1 : (a0_2 != a0_6) = false := bne_eq_false_iff_eq.mpr c22
        clear c22
        obtain rfl := Option.some.inj H
        obtain ⟨hcz23_0, hcz23_1, hcz23_2, hcz23_3, hcz23_4, hcz23_5, hcz23_6, hcz23_7, hcz23_8, hcz23_9⟩ := blkC10 (w := wc) BK186.out
        obtain ⟨hfz23_0, hfz23_1, hfz23_2, hfz23_3, hfz23_4, hfz23_5, hfz23_6, hfz23_7, hfz23_8, hfz23_9⟩ := blkF10 BK186.out
        go_wp2_with (first | (go_at_call 80; (with_reducible refine (pylonref04_good.calls a0_2 a0_3 a0_4 a0_5 true _ A18.out).mono ?_); rintro e w24 ⟨rfl, hb⟩; replace BK186 := AX (bkb BK186 hb); replace HB := AX (below_step bw hb); (try clear hb); obtain ⟨hcz25_0, hcz25_1, hcz25_2, hcz25_3, hcz25_4, hcz25_5, hcz25_6, hcz25_7, hcz25_8, hcz25_9⟩ := blkC10 (w := w24) BK186.out; obtain ⟨hfz25_0, hfz25_1, hfz25_2, hfz25_3, hfz25_4, hfz25_5, hfz25_6, hfz25_7, hfz25_8, hfz25_9⟩ := blkF10 BK186.out) | (go_at_call 80; (with_reducible refine (pylonref04_good.calls a0_6 a0_7 a0_8 a0_9 true _ A20.out).mono ?_); rintro e w26 ⟨rfl, hb⟩; replace BK186 := AX (bkb BK186 hb); replace HB := AX (below_step bw hb); (try clear hb); obtain ⟨hcz27_0, hcz27_1, hcz27_2, hcz27_3, hcz27_4, hcz27_5, hcz27_6, hcz27_7, hcz27_8, hcz27_9⟩ := blkC10 (w := w26) BK186.out; obtain ⟨hfz27_0, hfz27_1, hfz27_2, hfz27_3, hfz27_4, hfz27_5, hfz27_6, hfz27_7, hfz27_8, hfz27_9⟩ := blkF10 BK186.out))
        go_ret
        exact ⟨by first | rfl | (simp [errW_none, errW_some] <;> rfl) | (simp [*, errW_none, errW_some] <;> rfl), bw⟩
       ·rw [if_neg c22] at H
        have c22b0 : (a0_2 == a0_6) = false := beq_eq_false_iff_ne.mpr c22
        have c22b1 : (a0_2 != a0_6) = true := bne_iff_ne.mpr c22
        obtain rfl := Option.some.inj H
        obtain ⟨hcz28_0, hcz28_1, hcz28_2, hcz28_3, hcz28_4, hcz28_5, hcz28_6, hcz28_7, hcz28_8, hcz28_9⟩ := blkC10 (w := wc) BK186.out
        obtain ⟨hfz28_0, hfz28_1, hfz28_2, hfz28_3, hfz28_4, hfz28_5, hfz28_6, hfz28_7, hfz28_8, hfz28_9⟩ := blkF10 BK186.out
        go_wp2_with (first | (go_at_call 80; (with_reducible refine (pylonref04_good.calls a0_2 a0_3 a0_4 a0_5 true _ A18.out).mono ?_); rintro e w29 ⟨rfl, hb⟩; replace BK186 := AX (bkb BK186 hb); replace HB := AX (below_step bw hb); (try clear hb); obtain ⟨hcz30_0, hcz30_1, hcz30_2, hcz30_3, hcz30_4, hcz30_5, hcz30_6, hcz30_7, hcz30_8, hcz30_9⟩ := blkC10 (w := w29) BK186.out; obtain ⟨hfz30_0, hfz30_1, hfz30_2, hfz30_3, hfz30_4, hfz30_5, hfz30_6, hfz30_7, hfz30_8, hfz30_9⟩ := blkF10 BK186.out) | (go_at_call 80; (with_reducible refine (pylonref04_good.calls a0_6 a0_7 a0_8 a0_9 true _ A20.out).mono ?_); rintro e w31 ⟨rfl, hb⟩; replace BK186 := AX (bkb BK186 hb); replace HB := AX (below_step bw hb); (try clear hb); obtain ⟨hcz32_0, hcz32_1, hcz32_2, hcz32_3, hcz32_4, hcz32_5, hcz32_6, hcz32_7, hcz32_8, hcz32_9⟩ := blkC10 (w := w31) BK186.out; obtain ⟨hfz32_0, hfz32_1, hfz32_2, hfz32_3, hfz32_4, hfz32_5, hfz32_6, hfz32_7, hfz32_8, hfz32_9⟩ := blkF10 BK186.out))
        go_ret
        exact ⟨by first | rfl | (simp [errW_none, errW_some] <;> rfl) | (simp [*, errW_none, errW_some] <;> rfl), bw⟩
      ·replace c21 := Bool.eq_false_iff.mpr c21
       subst c21
       have H1 : (some 8) = some r := by rw [if_neg (show ¬ (false = true) by decide)] at H; exact H
       clear H
       have H := H1
       clear H1
       obtain rfl := Option.some.inj H
       obtain ⟨hcz33_0, hcz33_1, hcz33_2, hcz33_3, hcz33_4, hcz33_5, hcz33_6, hcz33_7, hcz33_8, hcz33_9⟩ := blkC10 (w := wc) BK186.out
       obtain ⟨hfz33_0, hfz33_1, hfz33_2, hfz33_3, hfz33_4, hfz33_5, hfz33_6, hfz33_7, hfz33_8, hfz33_9⟩ := blkF10 BK186.out
       go_wp2_with (first | (go_at_call 80; (with_reducible refine (pylonref04_good.calls a0_2 a0_3 a0_4 a0_5 true _ A18.out).mono ?_); rintro e w34 ⟨rfl, hb⟩; replace BK186 := AX (bkb BK186 hb); replace HB := AX (below_step bw hb); (try clear hb); obtain ⟨hcz35_0, hcz35_1, hcz35_2, hcz35_3, hcz35_4, hcz35_5, hcz35_6, hcz35_7, hcz35_8, hcz35_9⟩ := blkC10 (w := w34) BK186.out; obtain ⟨hfz35_0, hfz35_1, hfz35_2, hfz35_3, hfz35_4, hfz35_5, hfz35_6, hfz35_7, hfz35_8, hfz35_9⟩ := blkF10 BK186.out) | (go_at_call 80; (with_reducible refine (pylonref04_good.calls a0_6 a0_7 a0_8 a0_9 false _ A20.out).mono ?_); rintro e w36 ⟨rfl, hb⟩; replace BK186 := AX (bkb BK186 hb); replace HB := AX (below_step bw hb); (try clear hb)))
       go_ret
       exact ⟨by first | rfl | (simp [errW_none, errW_some] <;> rfl) | (simp [*, errW_none, errW_some] <;> rfl), bw⟩
     ·replace c19 := Bool.eq_false_iff.mpr c19
      subst c19
      have H1 : (some 8) = some r := by rw [if_neg (show ¬ (false = true) by decide)] at H; exact H
      clear H
      have H := H1
      clear H1
      obtain rfl := Option.some.inj H
      obtain ⟨hcz37_0, hcz37_1, hcz37_2, hcz37_3, hcz37_4, hcz37_5, hcz37_6, hcz37_7, hcz37_8, hcz37_9⟩ := blkC10 (w := wc) BK186.out
      obtain ⟨hfz37_0, hfz37_1, hfz37_2, hfz37_3, hfz37_4, hfz37_5, hfz37_6, hfz37_7, hfz37_8, hfz37_9⟩ := blkF10 BK186.out
      go_wp2_with (first | (go_at_call 80; (with_reducible refine (pylonref04_good.calls a0_2 a0_3 a0_4 a0_5 false _ A18.out).mono ?_); rintro e w38 ⟨rfl, hb⟩; replace BK186 := AX (bkb BK186 hb); replace HB := AX (below_step bw hb); (try clear hb)))
      go_ret
      exact ⟨by first | rfl | (simp [errW_none, errW_some] <;> rfl) | (simp [*, errW_none, errW_some] <;> rfl), bw⟩

/-! ### pylonref09_within: function 53 -/
def pylonref09_within.f (a0 : Int) (a1 : Int) (a2 : Int) : Option (Bool) := if a0 ≥ a1 then (some (decide (a0 ≤ a2))) else (some false)
set_option maxHeartbeats 8000000 in
set_option maxRecDepth 100000 in
theorem pylonref09_within.calls (a0 : Int) (a1 : Int) (a2 : Int) (r : Bool) (w : World) (h : pylonref09_within.f a0 a1 a2 = some r) :
  Calls Try.prog 53 #[.int .i64 a0, .int .i64 a1, .int .i64 a2] w fun e w' => e = .returned (.bool r) ∧ Drawn0 w w' := by
 have H : (if a0 ≥ a1 then (some (decide (a0 ≤ a2))) else (some false)) = some r := h
 clear h
 by_cases c4 : a0 ≥ a1
 ·rw [if_pos c4] at H
  have c4b0 : decide (a1 ≤ a0) = true := decide_eq_true c4
  clear c4
  obtain rfl := Option.some.inj H
  go_enter Try.func53, Try.ntmps53
  go_wp2
  go_ret
  exact ⟨by first | rfl | (simp; done) | (simp [*]; done), by repeat (first | exact Drawn0.refl _ | apply Drawn0.step)⟩
 ·rw [if_neg c4] at H
  have c4b0 : decide (a1 ≤ a0) = false := decide_eq_false c4
  clear c4
  obtain rfl := Option.some.inj H
  go_enter Try.func53, Try.ntmps53
  go_wp2
  go_ret
  exact ⟨by first | rfl | (simp; done) | (simp [*]; done), by repeat (first | exact Drawn0.refl _ | apply Drawn0.step)⟩

/-! ### pylonref03_leap: function 92 -/
def pylonref03_leap.f (a0 : Int) : Option (Bool) := if (Int.tmod a0 4) = 0 then (if (Int.tmod a0 100) = 0 then (some ((Int.tmod a0 400) == 0)) else (some true)) else (some false)
set_option maxHeartbeats 8000000 in
set_option maxRecDepth 100000 in
theorem pylonref03_leap.calls (a0 : Int) (r : Bool) (w : World) (h : pylonref03_leap.f a0 = some r) :
  Calls Try.prog 92 #[.int .i64 a0] w fun e w' => e = .returned (.bool r) ∧ Drawn0 w w' := by
 have H : (if (Int.tmod a0 4) = 0 then (if (Int.tmod a0 100) = 0 then (some ((Int.tmod a0 400) == 0)) else (some true)) else (some false)) = some r := h
 clear h
 by_cases c2 : (Int.tmod a0 4) = 0
 ·rw [if_pos c2] at H
  have c2b0 : ((Int.tmod a0 4) == 0) = true := beq_iff_eq.mpr c2
  have c2b1 : ((Int.tmod a0 4) != 0) = false := bne_eq_false_iff_eq.mpr c2
  clear c2
  by_cases c3 : (Int.tmod a0 100) = 0
  ·rw [if_pos c3] at H
   have c3b0 : ((Int.tmod a0 100) == 0) = true := beq_iff_eq.mpr c3
   have c3b1 : ((Int.tmod a0 100) != 0) = false := bne_eq_false_iff_eq.mpr c3
   clear c3
   obtain rfl := Option.some.inj H
   go_enter Try.func92, Try.ntmps92
   go_wp2
   go_ret
   exact ⟨by first | rfl | (simp; done) | (simp [*]; done), by repeat (first | exact Drawn0.refl _ | apply Drawn0.step)⟩
  ·rw [if_neg c3] at H
   have c3b0 : ((Int.tmod a0 100) == 0) = false := beq_eq_false_iff_ne.mpr c3
   have c3b1 : ((Int.tmod a0 100) != 0) = true := bne_iff_ne.mpr c3
   obtain rfl := Option.some.inj H
   go_enter Try.func92, Try.ntmps92
   go_wp2
   go_ret
   exact ⟨by first | rfl | (simp; done) | (simp [*]; done), by repeat (first | exact Drawn0.refl _ | apply Drawn0.step)⟩
 ·rw [if_neg c2] at H
  have c2b0 : ((Int.tmod a0 4) == 0) = false := beq_eq_false_iff_ne.mpr c2
  have c2b1 : ((Int.tmod a0 4) != 0) = true := bne_iff_ne.mpr c2
  obtain rfl := Option.some.inj H
  go_enter Try.func92, Try.ntmps92
  go_wp2
  go_ret
  exact ⟨by first | rfl | (simp; done) | (simp [*]; done), by repeat (first | exact Drawn0.refl _ | apply Drawn0.step)⟩

/-! ### pylonref03_Length: function 70 -/
mutual
def pylonref03_Length.j0 : Nat → Int → Int → Bool → Option (Int × Int)
 | 0, _, _, _ => none
 | k + 1, x0, x1, x19 => if x19 = true then (some (0, 5)) else (if x1 = 4 then (pylonref03_Length.j1 k x0 x1 (x1 == 4)) else (if x1 = 6 then (pylonref03_Length.j1 k x0 x1 (x1 == 6)) else (if x1 = 9 then (pylonref03_Length.j1 k x0 x1 (x1 == 9)) else (pylonref03_Length.j1 k x0 x1 (x1 == 11)))))
def pylonref03_Length.j1 : Nat → Int → Int → Bool → Option (Int × Int)
 | 0, _, _, _ => none
 | k + 1, x0, x20, x21 => if x21 = true then (some (30, 0)) else (if x20 = 2 then ((pylonref03_leap.f x0).bind fun t189 => (if t189 = true then (some (29, 0)) else (some (28, 0)))) else (some (31, 0)))
end
def pylonref03_Length.f (k : Nat) (a0 : Int) (a1 : Int) : Option (Int × Int) := if a0 < 1 then (pylonref03_Length.j0 k a0 a1 true) else (if a0 > 9999 then (pylonref03_Length.j0 k a0 a1 true) else (if a1 < 1 then (pylonref03_Length.j0 k a0 a1 true) else (pylonref03_Length.j0 k a0 a1 (decide (a1 > 12)))))
theorem pylonref03_Length.mono_l : ∀ k, (∀ y0 y1 y2, LeO (pylonref03_Length.j0 k y0 y1 y2) (pylonref03_Length.j0 (k + 1) y0 y1 y2)) ∧ (∀ y0 y1 y2, LeO (pylonref03_Length.j1 k y0 y1 y2) (pylonref03_Length.j1 (k + 1) y0 y1 y2))
 | 0 => ⟨fun _ _ _ r h => by simp [pylonref03_Length.j0] at h, fun _ _ _ r h => by simp [pylonref03_Length.j1] at h⟩
 | k + 1 => by
  obtain ⟨ih0, ih1⟩ := pylonref03_Length.mono_l k
  refine ⟨?_, ?_⟩
  ·intro y0 y1 y2
   unfold pylonref03_Length.j0
   repeat' first
   | (with_reducible exact ih0 _ _ _)
   | (with_reducible exact ih1 _ _ _)
   | (with_reducible exact LeO.refl _)
   | (with_reducible exact LeO.none _)
   | (with_reducible refine LeO.ite ?_ ?_)
   | (with_reducible refine LeO.bind ?_ (fun _ => ?_))
  ·intro y0 y1 y2
   unfold pylonref03_Length.j1
   repeat' first
   | (with_reducible exact ih0 _ _ _)
   | (with_reducible exact ih1 _ _ _)
   | (with_reducible exact LeO.refl _)
   | (with_reducible exact LeO.none _)
   | (with_reducible refine LeO.ite ?_ ?_)
   | (with_reducible refine LeO.bind ?_ (fun _ => ?_))
theorem pylonref03_Length.mono : ∀ a0 a1 k, LeO (pylonref03_Length.f k a0 a1) (pylonref03_Length.f (k + 1) a0 a1) := by
 intro a0 a1 k
 obtain ⟨ih0, ih1⟩ := pylonref03_Length.mono_l k
 unfold pylonref03_Length.f
 repeat' first
   | (with_reducible exact ih0 _ _ _)
   | (with_reducible exact ih1 _ _ _)
   | (with_reducible exact LeO.refl _)
   | (with_reducible exact LeO.none _)
   | (with_reducible refine LeO.ite ?_ ?_)
   | (with_reducible refine LeO.bind ?_ (fun _ => ?_))
set_option maxHeartbeats 8000000 in
set_option maxRecDepth 100000 in
theorem pylonref03_Length.calls (k : Nat) (a0 : Int) (a1 : Int) (r1 : Int) (r2 : Int) (w : World) (h : pylonref03_Length.f k a0 a1 = some (r1, r2)) :
  Calls Try.prog 70 #[.int .i64 a0, .int .i64 a1] w fun e w' => e = .returned (.tuple #[.int .i64 r1, .int .i64 r2]) ∧ Drawn0 w w' := by
 have H : (if a0 < 1 then (pylonref03_Length.j0 k a0 a1 true) else (if a0 > 9999 then (pylonref03_Length.j0 k a0 a1 true) else (if a1 < 1 then (pylonref03_Length.j0 k a0 a1 true) else (pylonref03_Length.j0 k a0 a1 (decide (a1 > 12)))))) = some (r1, r2) := h
 clear h
 have HC3 := AX H
 clear H
 go_enter Try.func70, Try.ntmps70
 go_upto_region 1 with (fail)
 go_cut [19] (fun v19 wc => ∃ (kq : Nat) (x19_2 : Bool), v19 = .bool x19_2 ∧ Aside0 (pylonref03_Length.j0 kq a0 a1 x19_2 = some (r1, r2)) ∧ Aside0 (kq ≤ k) ∧ Drawn0 w wc)
 case first =>
  have H := HC3.out
  clear HC3
  by_cases c4 : a0 < 1
  ·rw [if_pos c4] at H
   have c4b0 : decide (a0 < 1) = true := decide_eq_true c4
   clear c4
   (first | rw [c4b0] | (simp only [i64_w, i32_w]; rw [c4b0]) | skip)
   have H' := AX H
   clear H
   go_wp2
   go_meet
   case rel => exact ⟨_, (true), (by first | rfl | (simp; done) | (simp [*]; done)), H', ⟨by first | omega | exact Nat.le_refl _⟩, by repeat (first | exact Drawn0.refl _ | apply Drawn0.step)⟩
  ·rw [if_neg c4] at H
   have c4b0 : decide (a0 < 1) = false := decide_eq_false c4
   clear c4
   (first | rw [c4b0] | (simp only [i64_w, i32_w]; rw [c4b0]) | skip)
   by_cases c5 : a0 > 9999
   ·rw [if_pos c5] at H
    have c5b0 : decide (9999 < a0) = true := decide_eq_true c5
    clear c5
    have H' := AX H
    clear H
    go_wp2
    go_meet
    case rel => exact ⟨_, (true), (by first | rfl | (simp; done) | (simp [*]; done)), H', ⟨by first | omega | exact Nat.le_refl _⟩, by repeat (first | exact Drawn0.refl _ | apply Drawn0.step)⟩
   ·rw [if_neg c5] at H
    have c5b0 : decide (9999 < a0) = false := decide_eq_false c5
    clear c5
    by_cases c6 : a1 < 1
    ·rw [if_pos c6] at H
     have c6b0 : decide (a1 < 1) = true := decide_eq_true c6
     clear c6
     have H' := AX H
     clear H
     go_wp2
     go_meet
     case rel => exact ⟨_, (true), (by first | rfl | (simp; done) | (simp [*]; done)), H', ⟨by first | omega | exact Nat.le_refl _⟩, by repeat (first | exact Drawn0.refl _ | apply Drawn0.step)⟩
    ·rw [if_neg c6] at H
     have c6b0 : decide (a1 < 1) = false := decide_eq_false c6
     clear c6
     have H' := AX H
     clear H
     go_wp2
     go_meet
     case rel => exact ⟨_, (decide (a1 > 12)), (by first | rfl | (simp; done) | (simp [*]; done)), H', ⟨by first | omega | exact Nat.le_refl _⟩, by repeat (first | exact Drawn0.refl _ | apply Drawn0.step)⟩
 case rest =>
  clear HC3
  obtain ⟨kq, x19_2, rfl, HA, HJ2, ⟨mc2, rfl⟩⟩ := hcut
  cases kq with
  | zero => exact absurd HA.out (by simp [pylonref03_Length.j0])
  | succ kj2 =>
   have H := HA.out
   clear HA
   simp only [pylonref03_Length.j0] at H
   by_cases c7 : x19_2 = true
   ·subst c7
    have H1 : (some (0, 5)) = some (r1, r2) := by rw [if_pos rfl] at H; exact H
    clear H
    have H := H1
    clear H1
    simp only [Option.some.injEq, Prod.mk.injEq] at H
    obtain ⟨rfl, rfl⟩ := H
    go_wp2
    go_ret2
    exact ⟨by first | rfl | (simp; done) | (simp [*]; done), by repeat (first | exact Drawn0.refl _ | apply Drawn0.step)⟩
   ·replace c7 := Bool.eq_false_iff.mpr c7
    subst c7
    have H1 : (if a1 = 4 then (pylonref03_Length.j1 kj2 a0 a1 (a1 == 4)) else (if a1 = 6 then (pylonref03_Length.j1 kj2 a0 a1 (a1 == 6)) else (if a1 = 9 then (pylonref03_Length.j1 kj2 a0 a1 (a1 == 9)) else (pylonref03_Length.j1 kj2 a0 a1 (a1 == 11))))) = some (r1, r2) := by rw [if_neg (show ¬ (false = true) by decide)] at H; exact H
    clear H
    have H := H1
    clear H1
    have HC8 := AX H
    clear H
    go_upto_if 21 with (fail)
    go_cut [21] (fun v21 wc => ∃ (kq : Nat) (x21_7 : Bool), v21 = .bool x21_7 ∧ Aside0 (pylonref03_Length.j1 kq a0 a1 x21_7 = some (r1, r2)) ∧ Aside0 (kq ≤ kj2) ∧ Drawn0 w wc)
    case first =>
     have H := HC8.out
     clear HC8
     by_cases c9 : a1 = 4
     ·rw [if_pos c9] at H
      have c9b0 : (a1 == 4) = true := beq_iff_eq.mpr c9
      have c9b1 : (a1 != 4) = false := bne_eq_false_iff_eq.mpr c9
      clear c9
      (first | rw [c9b0] | (simp only [i64_w, i32_w]; rw [c9b0]) | skip)
      have H' := AX H
      clear H
      go_wp2
      go_meet
      case rel => exact ⟨_, ((a1 == 4)), (by first | rfl | (simp; done) | (simp [*]; done)), H', ⟨by have := HJ2.out; first | omega | exact Nat.le_refl _⟩, by repeat (first | exact Drawn0.refl _ | apply Drawn0.step)⟩
     ·rw [if_neg c9] at H
      have c9b0 : (a1 == 4) = false := beq_eq_false_iff_ne.mpr c9
      have c9b1 : (a1 != 4) = true := bne_iff_ne.mpr c9
      (first | rw [c9b0] | (simp only [i64_w, i32_w]; rw [c9b0]) | skip)
      by_cases c10 : a1 = 6
      ·rw [if_pos c10] at H
       have c10b0 : (a1 == 6) = true := beq_iff_eq.mpr c10
       have c10b1 : (a1 != 6) = false := bne_eq_false_iff_eq.mpr c10
       clear c10
       have H' := AX H
       clear H
       go_wp2
       go_meet
       case rel => exact ⟨_, ((a1 == 6)), (by first | rfl | (simp; done) | (simp [*]; done)), H', ⟨by have := HJ2.out; first | omega | exact Nat.le_refl _⟩, by repeat (first | exact Drawn0.refl _ | apply Drawn0.step)⟩
      ·rw [if_neg c10] at H
       have c10b0 : (a1 == 6) = false := beq_eq_false_iff_ne.mpr c10
       have c10b1 : (a1 != 6) = true := bne_iff_ne.mpr c10
       by_cases c11 : a1 = 9
       ·rw [if_pos c11] at H
        have c11b0 : (a1 == 9) = true := beq_iff_eq.mpr c11
        have c11b1 : (a1 != 9) = false := bne_eq_false_iff_eq.mpr c11
        clear c11
        have H' := AX H
        clear H
        go_wp2
        go_meet
        case rel => exact ⟨_, ((a1 == 9)), (by first | rfl | (simp; done) | (simp [*]; done)), H', ⟨by have := HJ2.out; first | omega | exact Nat.le_refl _⟩, by repeat (first | exact Drawn0.refl _ | apply Drawn0.step)⟩
       ·rw [if_neg c11] at H
        have c11b0 : (a1 == 9) = false := beq_eq_false_iff_ne.mpr c11
        have c11b1 : (a1 != 9) = true := bne_iff_ne.mpr c11
        have H' := AX H
        clear H
        go_wp2
        go_meet
        case rel => exact ⟨_, ((a1 == 11)), (by first | rfl | (simp; done) | (simp [*]; done)), H', ⟨by have := HJ2.out; first | omega | exact Nat.le_refl _⟩, by repeat (first | exact Drawn0.refl _ | apply Drawn0.step)⟩
    case rest =>
     clear HC8
     try clear c7
     obtain ⟨kq, x21_7, rfl, HA, HJ7, ⟨mc7, rfl⟩⟩ := hcut
     cases kq with
     | zero => exact absurd HA.out (by simp [pylonref03_Length.j1])
     | succ kj7 =>
      have H := HA.out
      clear HA
      simp only [pylonref03_Length.j1] at H
      by_cases c12 : x21_7 = true
      ·subst c12
       have H1 : (some (30, 0)) = some (r1, r2) := by rw [if_pos rfl] at H; exact H
       clear H
       have H := H1
       clear H1
       simp only [Option.some.injEq, Prod.mk.injEq] at H
       obtain ⟨rfl, rfl⟩ := H
       go_wp2
       go_ret2
       exact ⟨by first | rfl | (simp; done) | (simp [*]; done), by repeat (first | exact Drawn0.refl _ | apply Drawn0.step)⟩
      ·replace c12 := Bool.eq_false_iff.mpr c12
       subst c12
       have H1 : (if a1 = 2 then ((pylonref03_leap.f a0).bind fun t189 => (if t189 = true then (some (29, 0)) else (some (28, 0)))) else (some (31, 0))) = some (r1, r2) := by rw [if_neg (show ¬ (false = true) by decide)] at H; exact H
       clear H
       have H := H1
       clear H1
       by_cases c13 : a1 = 2
       ·rw [if_pos c13] at H
        have c13b0 : (a1 == 2) = true := beq_iff_eq.mpr c13
        have c13b1 : (a1 != 2) = false := bne_eq_false_iff_eq.mpr c13
        clear c13
        replace H := Option.bind_eq_some_iff.mp H
        obtain ⟨t189, A140, H⟩ := H
        replace H : (if t189 = true then (some (29, 0)) else (some (28, 0))) = some (r1, r2) := H
        have A14 := AX A140
        clear A140
        by_cases c15 : t189 = true
        ·subst c15
         have H1 : (some (29, 0)) = some (r1, r2) := by rw [if_pos rfl] at H; exact H
         clear H
         have H := H1
         clear H1
         simp only [Option.some.injEq, Prod.mk.injEq] at H
         obtain ⟨rfl, rfl⟩ := H
         go_wp2_with (first | ((with_reducible refine gate_callee (f := 92) rfl ?_); refine gL (some 29) Try.func92 #[.int .i64 a0] ?_; (with_reducible refine (pylonref03_leap.calls a0 true _ A14.out).mono ?_); rintro e w' ⟨rfl, ⟨nd, rfl⟩⟩; refine ⟨_, rfl, ?_⟩))
         go_ret2
         exact ⟨by first | rfl | (simp; done) | (simp [*]; done), by repeat (first | exact Drawn0.refl _ | apply Drawn0.step)⟩
        ·replace c15 := Bool.eq_false_iff.mpr c15
         subst c15
         have H1 : (some (28, 0)) = some (r1, r2) := by rw [if_neg (show ¬ (false = true) by decide)] at H; exact H
         clear H
         have H := H1
         clear H1
         simp only [Option.some.injEq, Prod.mk.injEq] at H
         obtain ⟨rfl, rfl⟩ := H
         go_wp2_with (first | ((with_reducible refine gate_callee (f := 92) rfl ?_); refine gL (some 29) Try.func92 #[.int .i64 a0] ?_; (with_reducible refine (pylonref03_leap.calls a0 false _ A14.out).mono ?_); rintro e w' ⟨rfl, ⟨nd, rfl⟩⟩; refine ⟨_, rfl, ?_⟩))
         go_ret2
         exact ⟨by first | rfl | (simp; done) | (simp [*]; done), by repeat (first | exact Drawn0.refl _ | apply Drawn0.step)⟩
       ·rw [if_neg c13] at H
        have c13b0 : (a1 == 2) = false := beq_eq_false_iff_ne.mpr c13
        have c13b1 : (a1 != 2) = true := bne_iff_ne.mpr c13
        simp only [Option.some.injEq, Prod.mk.injEq] at H
        obtain ⟨rfl, rfl⟩ := H
        go_wp2
        go_ret2
        exact ⟨by first | rfl | (simp; done) | (simp [*]; done), by repeat (first | exact Drawn0.refl _ | apply Drawn0.step)⟩

/-! ### pylonref03_Is: function 45 -/
def pylonref03_Is.f (k : Nat) (a0_0 : Int) (a0_1 : Int) (a0_2 : Int) : Option (Bool) := (pylonref03_Length.f k a0_0 a0_1).bind fun bt191 => (if bt191.2 = 0 then (if a0_2 ≥ 1 then (some (decide (a0_2 ≤ bt191.1))) else (some false)) else (some false))
theorem pylonref03_Is.mono : ∀ a0 a1 a2 k, LeO (pylonref03_Is.f k a0 a1 a2) (pylonref03_Is.f (k + 1) a0 a1 a2) := by
 intro a0 a1 a2 k
 unfold pylonref03_Is.f
 repeat' first
   | (with_reducible exact pylonref03_Length.mono _ _ _)
   | (with_reducible exact LeO.refl _)
   | (with_reducible exact LeO.none _)
   | (with_reducible refine LeO.ite ?_ ?_)
   | (with_reducible refine LeO.bind ?_ (fun _ => ?_))
set_option maxHeartbeats 8000000 in
set_option maxRecDepth 100000 in
theorem pylonref03_Is.calls (k : Nat) (a0_0 : Int) (a0_1 : Int) (a0_2 : Int) (r : Bool) (w : World) (h : pylonref03_Is.f k a0_0 a0_1 a0_2 = some r) :
  Calls Try.prog 45 #[.agg #[.int .i64 a0_0, .int .i64 a0_1, .int .i64 a0_2]] w fun e w' => e = .returned (.bool r) ∧ Below w.heap.size w w' := by
 have hu24 := Try.underlying24
 have HB := AX (Below.refl w.heap.size w)
 have H : ((pylonref03_Length.f k a0_0 a0_1).bind fun bt191 => (if bt191.2 = 0 then (if a0_2 ≥ 1 then (some (decide (a0_2 ≤ bt191.1))) else (some false)) else (some false))) = some r := h
 clear h
 replace H := Option.bind_eq_some_iff.mp H
 obtain ⟨⟨t191, t192⟩, A20, H⟩ := H
 replace H : (if t192 = 0 then (if a0_2 ≥ 1 then (some (decide (a0_2 ≤ t191))) else (some false)) else (some false)) = some r := H
 have A2 := AX A20
 clear A20
 by_cases c3 : t192 = 0
 ·rw [if_pos c3] at H
  have c3b0 : (t192 == 0) = true := beq_iff_eq.mpr c3
  have c3b1 : (t192 != 0) = false := bne_eq_false_iff_eq.mpr c3
  clear c3
  by_cases c4 : a0_2 ≥ 1
  ·rw [if_pos c4] at H
   have c4b0 : decide (1 ≤ a0_2) = true := decide_eq_true c4
   clear c4
   obtain rfl := Option.some.inj H
   go_enter Try.func45, Try.ntmps45
   go_wp2_with (first | ((with_reducible refine gate_dst (N := 1) rfl ?_); refine bx 1 #[.int .i64 a0_0, .int .i64 a0_1, .int .i64 a0_2] 24 ?_; intro gb190 hg w5 hbox hb; have BK190 := AX (hbox); have GW190 := gwl (w := w) hg bw; have GE190 := GW190; replace HB := AX (below_step bw hb); clear hb hbox hg; obtain ⟨hcz6_0, hcz6_1, hcz6_2⟩ := blkC3 (w := w5) BK190.out; obtain ⟨hfz6_0, hfz6_1, hfz6_2⟩ := blkF3 BK190.out) | ((with_reducible refine gate_callee (f := 70) rfl ?_); refine gL (some 10) Try.func70 #[.int .i64 a0_0, .int .i64 a0_1] ?_; (with_reducible refine (pylonref03_Length.calls k a0_0 a0_1 t191 t192 _ A2.out).mono ?_); rintro e w' ⟨rfl, ⟨nd, rfl⟩⟩; refine ⟨_, rfl, ?_⟩))
   go_ret
   exact ⟨by first | rfl | (simp [errW_none, errW_some] <;> rfl) | (simp [*, errW_none, errW_some] <;> rfl), bw⟩
  ·rw [if_neg c4] at H
   have c4b0 : decide (1 ≤ a0_2) = false := decide_eq_false c4
   clear c4
   obtain rfl := Option.some.inj H
   go_enter Try.func45, Try.ntmps45
   go_wp2_with (first | ((with_reducible refine gate_dst (N := 1) rfl ?_); refine bx 1 #[.int .i64 a0_0, .int .i64 a0_1, .int .i64 a0_2] 24 ?_; intro gb190 hg w7 hbox hb; have BK190 := AX (hbox); have GW190 := gwl (w := w) hg bw; have GE190 := GW190; replace HB := AX (below_step bw hb); clear hb hbox hg; obtain ⟨hcz8_0, hcz8_1, hcz8_2⟩ := blkC3 (w := w7) BK190.out; obtain ⟨hfz8_0, hfz8_1, hfz8_2⟩ := blkF3 BK190.out) | ((with_reducible refine gate_callee (f := 70) rfl ?_); refine gL (some 10) Try.func70 #[.int .i64 a0_0, .int .i64 a0_1] ?_; (with_reducible refine (pylonref03_Length.calls k a0_0 a0_1 t191 t192 _ A2.out).mono ?_); rintro e w' ⟨rfl, ⟨nd, rfl⟩⟩; refine ⟨_, rfl, ?_⟩))
   go_ret
   exact ⟨by first | rfl | (simp [errW_none, errW_some] <;> rfl) | (simp [*, errW_none, errW_some] <;> rfl), bw⟩
 ·rw [if_neg c3] at H
  have c3b0 : (t192 == 0) = false := beq_eq_false_iff_ne.mpr c3
  have c3b1 : (t192 != 0) = true := bne_iff_ne.mpr c3
  obtain rfl := Option.some.inj H
  go_enter Try.func45, Try.ntmps45
  go_wp2_with (first | ((with_reducible refine gate_dst (N := 1) rfl ?_); refine bx 1 #[.int .i64 a0_0, .int .i64 a0_1, .int .i64 a0_2] 24 ?_; intro gb190 hg w9 hbox hb; have BK190 := AX (hbox); have GW190 := gwl (w := w) hg bw; have GE190 := GW190; replace HB := AX (below_step bw hb); clear hb hbox hg; obtain ⟨hcz10_0, hcz10_1, hcz10_2⟩ := blkC3 (w := w9) BK190.out; obtain ⟨hfz10_0, hfz10_1, hfz10_2⟩ := blkF3 BK190.out) | ((with_reducible refine gate_callee (f := 70) rfl ?_); refine gL (some 10) Try.func70 #[.int .i64 a0_0, .int .i64 a0_1] ?_; (with_reducible refine (pylonref03_Length.calls k a0_0 a0_1 t191 t192 _ A2.out).mono ?_); rintro e w' ⟨rfl, ⟨nd, rfl⟩⟩; refine ⟨_, rfl, ?_⟩))
  go_ret
  exact ⟨by first | rfl | (simp [errW_none, errW_some] <;> rfl) | (simp [*, errW_none, errW_some] <;> rfl), bw⟩

/-! ### pylonref03_YearDay: function 71 -/
def pylonref03_YearDay.l0 : Nat → Int → Int → Int → Int → Int → Option (Int × Int)
 | 0, _, _, _, _, _ => none
 | k + 1, x4, x5, x194000, x194001, x194002 => if x5 < x194001 then ((pylonref03_Length.f k x194000 x5).bind fun bt195 => (pylonref03_YearDay.l0 k (wrap64 (x4 + bt195.1)) (wrap64 (x5 + 1)) x194000 x194001 x194002)) else (some (x4, 0))
def pylonref03_YearDay.f (k : Nat) (a0_0 : Int) (a0_1 : Int) (a0_2 : Int) : Option (Int × Int) := (pylonref03_Is.f k a0_0 a0_1 a0_2).bind fun t194 => (if t194 = true then (pylonref03_YearDay.l0 k a0_2 1 a0_0 a0_1 a0_2) else (some (0, 5)))
theorem pylonref03_YearDay.mono_l : ∀ k, (∀ y0 y1 y2 y3 y4, LeO (pylonref03_YearDay.l0 k y0 y1 y2 y3 y4) (pylonref03_YearDay.l0 (k + 1) y0 y1 y2 y3 y4))
 | 0 => fun _ _ _ _ _ r h => by simp [pylonref03_YearDay.l0] at h
 | k + 1 => by
  have ih0 := pylonref03_YearDay.mono_l k
  ·intro y0 y1 y2 y3 y4
   unfold pylonref03_YearDay.l0
   repeat' first
   | (with_reducible exact ih0 _ _ _ _ _)
   | (with_reducible exact pylonref03_Is.mono _ _ _ _)
   | (with_reducible exact pylonref03_Length.mono _ _ _)
   | (with_reducible exact LeO.refl _)
   | (with_reducible exact LeO.none _)
   | (with_reducible refine LeO.ite ?_ ?_)
   | (with_reducible refine LeO.bind ?_ (fun _ => ?_))
theorem pylonref03_YearDay.mono : ∀ a0 a1 a2 k, LeO (pylonref03_YearDay.f k a0 a1 a2) (pylonref03_YearDay.f (k + 1) a0 a1 a2) := by
 intro a0 a1 a2 k
 have ih0 := pylonref03_YearDay.mono_l k
 unfold pylonref03_YearDay.f
 repeat' first
   | (with_reducible exact ih0 _ _ _ _ _)
   | (with_reducible exact pylonref03_Is.mono _ _ _ _)
   | (with_reducible exact pylonref03_Length.mono _ _ _)
   | (with_reducible exact LeO.refl _)
   | (with_reducible exact LeO.none _)
   | (with_reducible refine LeO.ite ?_ ?_)
   | (with_reducible refine LeO.bind ?_ (fun _ => ?_))
set_option maxHeartbeats 8000000 in
set_option maxRecDepth 100000 in
theorem pylonref03_YearDay.calls (k : Nat) (a0_0 : Int) (a0_1 : Int) (a0_2 : Int) (r1 : Int) (r2 : Int) (w : World) (h : pylonref03_YearDay.f k a0_0 a0_1 a0_2 = some (r1, r2)) :
  Calls Try.prog 71 #[.agg #[.int .i64 a0_0, .int .i64 a0_1, .int .i64 a0_2]] w fun e w' => e = .returned (.tuple #[.int .i64 r1, .int .i64 r2]) ∧ Below w.heap.size w w' := by
 have hu24 := Try.underlying24
 have HB := AX (Below.refl w.heap.size w)
 have H : ((pylonref03_Is.f k a0_0 a0_1 a0_2).bind fun t194 => (if t194 = true then (pylonref03_YearDay.l0 k a0_2 1 a0_0 a0_1 a0_2) else (some (0, 5)))) = some (r1, r2) := h
 clear h
 replace H := Option.bind_eq_some_iff.mp H
 obtain ⟨t194, A20, H⟩ := H
 replace H : (if t194 = true then (pylonref03_YearDay.l0 k a0_2 1 a0_0 a0_1 a0_2) else (some (0, 5))) = some (r1, r2) := H
 have A2 := AX A20
 clear A20
 by_cases c3 : t194 = true
 ·subst c3
  have H1 : (pylonref03_YearDay.l0 k a0_2 1 a0_0 a0_1 a0_2) = some (r1, r2) := by rw [if_pos rfl] at H; exact H
  clear H
  have H := H1
  clear H1
  have H' := AX H
  clear H
  go_enter Try.func71, Try.ntmps71
  go_wp2_with (first | ((with_reducible refine gate_dst (N := 1) rfl ?_); refine bx 1 #[.int .i64 a0_0, .int .i64 a0_1, .int .i64 a0_2] 24 ?_; intro gb193 hg w4 hbox hb; have BK193 := AX (hbox); have GW193 := gwl (w := w) hg bw; have GE193 := GW193; replace HB := AX (below_step bw hb); clear hb hbox hg; obtain ⟨hcz5_0, hcz5_1, hcz5_2⟩ := blkC3 (w := w4) BK193.out; obtain ⟨hfz5_0, hfz5_1, hfz5_2⟩ := blkF3 BK193.out) | ((with_reducible refine gate_callee (f := 45) rfl ?_); refine gL (some 9) Try.func45 #[.agg #[.int .i64 a0_0, .int .i64 a0_1, .int .i64 a0_2]] ?_; (with_reducible refine (pylonref03_Is.calls k a0_0 a0_1 a0_2 true _ A2.out).mono ?_); rintro e w6 ⟨rfl, hb⟩; refine ⟨_, rfl, ?_⟩; replace BK193 := AX (bkb BK193 hb); replace HB := AX (below_step bw hb); (try clear hb); obtain ⟨hcz7_0, hcz7_1, hcz7_2⟩ := blkC3 (w := w6) BK193.out; obtain ⟨hfz7_0, hfz7_1, hfz7_2⟩ := blkF3 BK193.out))
  go_loopg [4, 5] k (fun kq v4 v5 w' => ∃ (x4_1 : Int) (x5_1 : Int), v4 = .int .i64 x4_1 ∧ v5 = .int .i64 x5_1 ∧ Aside0 (pylonref03_YearDay.l0 kq x4_1 x5_1 a0_0 a0_1 a0_2 = some (r1, r2)) ∧ Aside0 (kq ≤ k) ∧ Aside0 (w'.heap[gb193]? = some (.cells #[.int .i64 a0_0, .int .i64 a0_1, .int .i64 a0_2] 24 (0, 0))) ∧ Aside0 (Below w.heap.size w w'))
  case atStart => exact ⟨(a0_2), (1), (by first | rfl | (simp; done) | (simp [*]; done)), (by first | rfl | (simp; done) | (simp [*]; done)), H', ⟨Nat.le_refl _⟩, ⟨bkn BK193⟩, ⟨bw⟩⟩
  case round =>
   clear H'
   try clear c3
   try clear hcz5_0 hcz5_1 hcz5_2
   try clear hcz7_0 hcz7_1 hcz7_2
   try clear hfz5_0 hfz5_1 hfz5_2
   try clear hfz7_0 hfz7_1 hfz7_2
   obtain ⟨x4_1, x5_1, rfl, rfl, HA, HK1, BK193, HB⟩ := hrel
   cases gk with
   | zero => exact absurd HA.out (by simp [pylonref03_YearDay.l0])
   | succ k1 =>
    have H := HA.out
    clear HA
    simp only [pylonref03_YearDay.l0] at H
    by_cases c8 : x5_1 < a0_1
    ·rw [if_pos c8] at H
     have c8b0 : decide (x5_1 < a0_1) = true := decide_eq_true c8
     clear c8
     replace H := Option.bind_eq_some_iff.mp H
     obtain ⟨⟨t195, t196⟩, A90, H⟩ := H
     replace H : (pylonref03_YearDay.l0 k1 (wrap64 (x4_1 + t195)) (wrap64 (x5_1 + 1)) a0_0 a0_1 a0_2) = some (r1, r2) := H
     have A9 := AX A90
     clear A90
     have H' := AX H
     clear H
     obtain ⟨hcz10_0, hcz10_1, hcz10_2⟩ := blkC3 (w := wr) BK193.out
     obtain ⟨hfz10_0, hfz10_1, hfz10_2⟩ := blkF3 BK193.out
     go_wp2_with (first | ((with_reducible refine gate_callee (f := 70) rfl ?_); refine gL (some 23) Try.func70 #[.int .i64 a0_0, .int .i64 x5_1] ?_; (with_reducible refine (pylonref03_Length.calls k1 a0_0 x5_1 t195 t196 _ A9.out).mono ?_); rintro e w' ⟨rfl, ⟨nd, rfl⟩⟩; refine ⟨_, rfl, ?_⟩))
     go_roundg k1
     case measure => have := HK1.out; omega
     case rel => exact ⟨(wrap64 (x4_1 + t195)), (wrap64 (x5_1 + 1)), (by first | rfl | (simp; done) | (simp [*]; done)), (by first | rfl | (simp; done) | (simp [*]; done)), H', ⟨by have := HK1.out; omega⟩, ⟨bkn BK193⟩, ⟨bw⟩⟩
    ·rw [if_neg c8] at H
     have c8b0 : decide (x5_1 < a0_1) = false := decide_eq_false c8
     clear c8
     simp only [Option.some.injEq, Prod.mk.injEq] at H
     obtain ⟨rfl, rfl⟩ := H
     obtain ⟨hcz11_0, hcz11_1, hcz11_2⟩ := blkC3 (w := wr) BK193.out
     obtain ⟨hfz11_0, hfz11_1, hfz11_2⟩ := blkF3 BK193.out
     go_wp2
     go_ret2
     exact ⟨by first | rfl | (simp [errW_none, errW_some] <;> rfl) | (simp [*, errW_none, errW_some] <;> rfl), bw⟩
 ·replace c3 := Bool.eq_false_iff.mpr c3
  subst c3
  have H1 : (some (0, 5)) = some (r1, r2) := by rw [if_neg (show ¬ (false = true) by decide)] at H; exact H
  clear H
  have H := H1
  clear H1
  simp only [Option.some.injEq, Prod.mk.injEq] at H
  obtain ⟨rfl, rfl⟩ := H
  go_enter Try.func71, Try.ntmps71
  go_wp2_with (first | ((with_reducible refine gate_dst (N := 1) rfl ?_); refine bx 1 #[.int .i64 a0_0, .int .i64 a0_1, .int .i64 a0_2] 24 ?_; intro gb193 hg w12 hbox hb; have BK193 := AX (hbox); have GW193 := gwl (w := w) hg bw; have GE193 := GW193; replace HB := AX (below_step bw hb); clear hb hbox hg; obtain ⟨hcz13_0, hcz13_1, hcz13_2⟩ := blkC3 (w := w12) BK193.out; obtain ⟨hfz13_0, hfz13_1, hfz13_2⟩ := blkF3 BK193.out) | ((with_reducible refine gate_callee (f := 45) rfl ?_); refine gL (some 9) Try.func45 #[.agg #[.int .i64 a0_0, .int .i64 a0_1, .int .i64 a0_2]] ?_; (with_reducible refine (pylonref03_Is.calls k a0_0 a0_1 a0_2 false _ A2.out).mono ?_); rintro e w14 ⟨rfl, hb⟩; refine ⟨_, rfl, ?_⟩; replace BK193 := AX (bkb BK193 hb); replace HB := AX (below_step bw hb); (try clear hb)))
  go_ret2
  exact ⟨by first | rfl | (simp [errW_none, errW_some] <;> rfl) | (simp [*, errW_none, errW_some] <;> rfl), bw⟩

/-! ### pylonref09_Day: function 73 -/
def pylonref09_Day.j0 : Nat → Int → Bool → Option (Int × Int)
 | 0, _, _ => none
 | k + 1, x0, x11 => if x11 = true then (some (0, 8)) else ((pylonref03_YearDay.f k 2000 (wrap64 (Int.tdiv x0 100)) (Int.tmod x0 100)).bind fun bt197 => (if bt197.2 = 0 then (some (bt197.1, 0)) else (some (0, 8))))
def pylonref09_Day.f (k : Nat) (a0 : Int) : Option (Int × Int) := if a0 < 101 then (pylonref09_Day.j0 k a0 true) else (pylonref09_Day.j0 k a0 (decide (a0 > 1231)))
theorem pylonref09_Day.mono_l : ∀ k, (∀ y0 y1, LeO (pylonref09_Day.j0 k y0 y1) (pylonref09_Day.j0 (k + 1) y0 y1))
 | 0 => fun _ _ r h => by simp [pylonref09_Day.j0] at h
 | k + 1 => by
  have ih0 := pylonref09_Day.mono_l k
  ·intro y0 y1
   unfold pylonref09_Day.j0
   repeat' first
   | (with_reducible exact ih0 _ _)
   | (with_reducible exact pylonref03_YearDay.mono _ _ _ _)
   | (with_reducible exact LeO.refl _)
   | (with_reducible exact LeO.none _)
   | (with_reducible refine LeO.ite ?_ ?_)
   | (with_reducible refine LeO.bind ?_ (fun _ => ?_))
theorem pylonref09_Day.mono : ∀ a0 k, LeO (pylonref09_Day.f k a0) (pylonref09_Day.f (k + 1) a0) := by
 intro a0 k
 have ih0 := pylonref09_Day.mono_l k
 unfold pylonref09_Day.f
 repeat' first
   | (with_reducible exact ih0 _ _)
   | (with_reducible exact pylonref03_YearDay.mono _ _ _ _)
   | (with_reducible exact LeO.refl _)
   | (with_reducible exact LeO.none _)
   | (with_reducible refine LeO.ite ?_ ?_)
   | (with_reducible refine LeO.bind ?_ (fun _ => ?_))
set_option maxHeartbeats 8000000 in
set_option maxRecDepth 100000 in
theorem pylonref09_Day.calls (k : Nat) (a0 : Int) (r1 : Int) (r2 : Int) (w : World) (h : pylonref09_Day.f k a0 = some (r1, r2)) :
  Calls Try.prog 73 #[.int .i64 a0] w fun e w' => e = .returned (.tuple #[.int .i64 r1, .int .i64 r2]) ∧ Below w.heap.size w w' := by
 have hu24 := Try.underlying24
 have HB := AX (Below.refl w.heap.size w)
 have H : (if a0 < 101 then (pylonref09_Day.j0 k a0 true) else (pylonref09_Day.j0 k a0 (decide (a0 > 1231)))) = some (r1, r2) := h
 clear h
 have HC2 := AX H
 clear H
 go_enter Try.func73, Try.ntmps73
 go_upto_region 1 with (fail)
 go_cut [11] (fun v11 wc => ∃ (kq : Nat) (x11_1 : Bool), v11 = .bool x11_1 ∧ Aside0 (pylonref09_Day.j0 kq a0 x11_1 = some (r1, r2)) ∧ Aside0 (kq ≤ k) ∧ Aside0 (Below w.heap.size w wc))
 case first =>
  have H := HC2.out
  clear HC2
  by_cases c3 : a0 < 101
  ·rw [if_pos c3] at H
   have c3b0 : decide (a0 < 101) = true := decide_eq_true c3
   clear c3
   (first | rw [c3b0] | (simp only [i64_w, i32_w]; rw [c3b0]) | skip)
   have H' := AX H
   clear H
   go_wp2
   go_meet
   case rel => exact ⟨_, (true), (by first | rfl | (simp; done) | (simp [*]; done)), H', ⟨by first | omega | exact Nat.le_refl _⟩, ⟨bw⟩⟩
  ·rw [if_neg c3] at H
   have c3b0 : decide (a0 < 101) = false := decide_eq_false c3
   clear c3
   (first | rw [c3b0] | (simp only [i64_w, i32_w]; rw [c3b0]) | skip)
   have H' := AX H
   clear H
   go_wp2
   go_meet
   case rel => exact ⟨_, (decide (a0 > 1231)), (by first | rfl | (simp; done) | (simp [*]; done)), H', ⟨by first | omega | exact Nat.le_refl _⟩, ⟨bw⟩⟩
 case rest =>
  clear HC2
  obtain ⟨kq, x11_1, rfl, HA, HJ1, HB⟩ := hcut
  cases kq with
  | zero => exact absurd HA.out (by simp [pylonref09_Day.j0])
  | succ kj1 =>
   have H := HA.out
   clear HA
   simp only [pylonref09_Day.j0] at H
   by_cases c4 : x11_1 = true
   ·subst c4
    have H1 : (some (0, 8)) = some (r1, r2) := by rw [if_pos rfl] at H; exact H
    clear H
    have H := H1
    clear H1
    simp only [Option.some.injEq, Prod.mk.injEq] at H
    obtain ⟨rfl, rfl⟩ := H
    go_wp2
    go_ret2
    exact ⟨by first | rfl | (simp [errW_none, errW_some] <;> rfl) | (simp [*, errW_none, errW_some] <;> rfl), bw⟩
   ·replace c4 := Bool.eq_false_iff.mpr c4
    subst c4
    have H1 : ((pylonref03_YearDay.f kj1 2000 (wrap64 (Int.tdiv a0 100)) (Int.tmod a0 100)).bind fun bt197 => (if bt197.2 = 0 then (some (bt197.1, 0)) else (some (0, 8)))) = some (r1, r2) := by rw [if_neg (show ¬ (false = true) by decide)] at H; exact H
    clear H
    have H := H1
    clear H1
    replace H := Option.bind_eq_some_iff.mp H
    obtain ⟨⟨t197, t198⟩, A50, H⟩ := H
    replace H : (if t198 = 0 then (some (t197, 0)) else (some (0, 8))) = some (r1, r2) := H
    have A5 := AX A50
    clear A50
    by_cases c6 : t198 = 0
    ·rw [if_pos c6] at H
     have c6b0 : (t198 == 0) = true := beq_iff_eq.mpr c6
     have c6b1 : (t198 != 0) = false := bne_eq_false_iff_eq.mpr c6
     clear c6
     simp only [Option.some.injEq, Prod.mk.injEq] at H
     obtain ⟨rfl, rfl⟩ := H
     go_wp2_with (first | ((with_reducible refine gate_callee (f := 71) rfl ?_); refine gL (some 18) Try.func71 #[.agg #[.int .i64 2000, .int .i64 (wrap64 (Int.tdiv a0 100)), .int .i64 (Int.tmod a0 100)]] ?_; (with_reducible refine (pylonref03_YearDay.calls kj1 2000 (wrap64 (Int.tdiv a0 100)) (Int.tmod a0 100) t197 t198 _ A5.out).mono ?_); rintro e w7 ⟨rfl, hb⟩; refine ⟨_, rfl, ?_⟩; replace HB := AX (below_step bw hb); (try clear hb)))
     go_ret2
     exact ⟨by first | rfl | (simp [errW_none, errW_some] <;> rfl) | (simp [*, errW_none, errW_some] <;> rfl), bw⟩
    ·rw [if_neg c6] at H
     have c6b0 : (t198 == 0) = false := beq_eq_false_iff_ne.mpr c6
     have c6b1 : (t198 != 0) = true := bne_iff_ne.mpr c6
     simp only [Option.some.injEq, Prod.mk.injEq] at H
     obtain ⟨rfl, rfl⟩ := H
     go_wp2_with (first | ((with_reducible refine gate_callee (f := 71) rfl ?_); refine gL (some 18) Try.func71 #[.agg #[.int .i64 2000, .int .i64 (wrap64 (Int.tdiv a0 100)), .int .i64 (Int.tmod a0 100)]] ?_; (with_reducible refine (pylonref03_YearDay.calls kj1 2000 (wrap64 (Int.tdiv a0 100)) (Int.tmod a0 100) t197 t198 _ A5.out).mono ?_); rintro e w8 ⟨rfl, hb⟩; refine ⟨_, rfl, ?_⟩; replace HB := AX (below_step bw hb); (try clear hb)))
     go_ret2
     exact ⟨by first | rfl | (simp [errW_none, errW_some] <;> rfl) | (simp [*, errW_none, errW_some] <;> rfl), bw⟩

end Go.Proofs.Ytkggjjggcbcdiaa.PX
