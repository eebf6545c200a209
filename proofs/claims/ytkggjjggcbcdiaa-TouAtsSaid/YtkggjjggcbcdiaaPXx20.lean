/- Functions of the program as plain Lean functions, each with a proof that the call in the machine answers just what the plain function says; condition: the plain function answers at all. -/
import Derived.Test.YtkggjjggcbcdiaaPXx0
import Derived.Test.YtkggjjggcbcdiaaPXx15
import Derived.Test.YtkggjjggcbcdiaaPXx16
namespace Go.Proofs.Ytkggjjggcbcdiaa.PX
open Go.RowKit Go.Proofs.YtkggjjggcbcdiaaW.PrintWords Go.Proofs.YtkggjjggcbcdiaaW.PrintLast Go.Proofs.YtkggjjggcbcdiaaW.PrintMore
attribute [local go_sem] max2_int min2_int max_two min_two max_three min_three max_four min_four   -- for this text's walks alone
set_option linter.unusedVariables false
set_option linter.unusedSimpArgs false

/-! ### pylonref04_good: function 80 -/
def pylonref04_good.f (a0_0 : Int) (a0_1 : Int) (a0_2 : Int) (a0_3 : Int) : Option (Bool) := if a0_0 ≥ 1 then (if a0_0 ≤ 12 then (if a0_1 ≥ 1 then (if a0_1 ≤ 5 then (if a0_2 ≥ 0 then (if a0_2 ≤ 6 then (if a0_3 ≥ 60 then (some (decide (a0_3 ≤ 1380))) else (some false)) else (some false)) else (some false)) else (some false)) else (some false)) else (some false)) else (some false)
set_option maxHeartbeats 8000000 in
set_option maxRecDepth 100000 in
theorem pylonref04_good.calls (a0_0 : Int) (a0_1 : Int) (a0_2 : Int) (a0_3 : Int) (r : Bool) (w : World) (h : pylonref04_good.f a0_0 a0_1 a0_2 a0_3 = some r) :
  Calls Try.prog 80 #[.agg #[.int .i64 a0_0, .int .i64 a0_1, .int .i64 a0_2, .int .i64 a0_3]] w fun e w' => e = .returned (.bool r) ∧ Below w.heap.size w w' := by
 have hu40 := Try.underlying40
 have HB := AX (Below.refl w.heap.size w)
 have H : (if a0_0 ≥ 1 then (if a0_0 ≤ 12 then (if a0_1 ≥ 1 then (if a0_1 ≤ 5 then (if a0_2 ≥ 0 then (if a0_2 ≤ 6 then (if a0_3 ≥ 60 then (some (decide (a0_3 ≤ 1380))) else (some false)) else (some false)) else (some false)) else (some false)) else (some false)) else (some false)) else (some false)) = some r := h
 clear h
 by_cases c2 : a0_0 ≥ 1
 ·rw [if_pos c2] at H
  have c2b0 : decide (1 ≤ a0_0) = true := decide_eq_true c2
  clear c2
  by_cases c3 : a0_0 ≤ 12
  ·rw [if_pos c3] at H
   have c3b0 : decide (a0_0 ≤ 12) = true := decide_eq_true c3
   clear c3
   by_cases c4 : a0_1 ≥ 1
   ·rw [if_pos c4] at H
    have c4b0 : decide (1 ≤ a0_1) = true := decide_eq_true c4
    clear c4
    by_cases c5 : a0_1 ≤ 5
    ·rw [if_pos c5] at H
     have c5b0 : decide (a0_1 ≤ 5) = true := decide_eq_true c5
     clear c5
     by_cases c6 : a0_2 ≥ 0
     ·rw [if_pos c6] at H
      have c6b0 : decide (0 ≤ a0_2) = true := decide_eq_true c6
      clear c6
      by_cases c7 : a0_2 ≤ 6
      ·rw [if_pos c7] at H
       have c7b0 : decide (a0_2 ≤ 6) = true := decide_eq_true c7
       clear c7
       by_cases c8 : a0_3 ≥ 60
       ·rw [if_pos c8] at H
        have c8b0 : decide (60 ≤ a0_3) = true := decide_eq_true c8
        clear c8
        obtain rfl := Option.some.inj H
        go_enter Try.func80, Try.ntmps80
        go_wp2_with (first | ((with_reducible refine gate_dst (N := 1) rfl ?_); refine bx 1 #[.int .i64 a0_0, .int .i64 a0_1, .int .i64 a0_2, .int .i64 a0_3] 40 ?_; intro gb313 hg w9 hbox hb; have BK313 := AX (hbox); have GW313 := gwl (w := w) hg bw; have GE313 := GW313; replace HB := AX (below_step bw hb); clear hb hbox hg; obtain ⟨hcz10_0, hcz10_1, hcz10_2, hcz10_3⟩ := blkC4 (w := w9) BK313.out; obtain ⟨hfz10_0, hfz10_1, hfz10_2, hfz10_3⟩ := blkF4 BK313.out))
        go_ret
        exact ⟨by first | rfl | (simp [errW_none, errW_some] <;> rfl) | (simp [*, errW_none, errW_some] <;> rfl), bw⟩
       ·rw [if_neg c8] at H
        have c8b0 : decide (60 ≤ a0_3) = false := decide_eq_false c8
        clear c8
        obtain rfl := Option.some.inj H
        go_enter Try.func80, Try.ntmps80
        go_wp2_with (first | ((with_reducible refine gate_dst (N := 1) rfl ?_); refine bx 1 #[.int .i64 a0_0, .int .i64 a0_1, .int .i64 a0_2, .int .i64 a0_3] 40 ?_; intro gb313 hg w11 hbox hb; have BK313 := AX (hbox); have GW313 := gwl (w := w) hg bw; have GE313 := GW313; replace HB := AX (below_step bw hb); clear hb hbox hg; obtain ⟨hcz12_0, hcz12_1, hcz12_2, hcz12_3⟩ := blkC4 (w := w11) BK313.out; obtain ⟨hfz12_0, hfz12_1, hfz12_2, hfz12_3⟩ := blkF4 BK313.out))
        go_ret
        exact ⟨by first | rfl | (simp [errW_none, errW_some] <;> rfl) | (simp [*, errW_none, errW_some] <;> rfl), bw⟩
      ·rw [if_neg c7] at H
       have c7b0 : decide (a0_2 ≤ 6) = false := decide_eq_false c7
       clear c7
       obtain rfl := Option.some.inj H
       go_enter Try.func80, Try.ntmps80
       go_wp2_with (first | ((with_reducible refine gate_dst (N := 1) rfl ?_); refine bx 1 #[.int .i64 a0_0, .int .i64 a0_1, .int .i64 a0_2, .int .i64 a0_3] 40 ?_; intro gb313 hg w13 hbox hb; have BK313 := AX (hbox); have GW313 := gwl (w := w) hg bw; have GE313 := GW313; replace HB := AX (below_step bw hb); clear hb hbox hg; obtain ⟨hcz14_0, hcz14_1, hcz14_2, hcz14_3⟩ := blkC4 (w := w13) BK313.out; obtain ⟨hfz14_0, hfz14_1, hfz14_2, hfz14_3⟩ := blkF4 BK313.out))
       go_ret
       exact ⟨by first | rfl | (simp [errW_none, errW_some] <;> rfl) | (simp [*, errW_none, errW_some] <;> rfl), bw⟩
     ·rw [if_neg c6] at H
      have c6b0 : decide (0 ≤ a0_2) = false := decide_eq_false c6
      clear c6
      obtain rfl := Option.some.inj H
      go_enter Try.func80, Try.ntmps80
      go_wp2_with (first | ((with_reducible refine gate_dst (N := 1) rfl ?_); refine bx 1 #[.int .i64 a0_0, .int .i64 a0_1, .int .i64 a0_2, .int .i64 a0_3] 40 ?_; intro gb313 hg w15 hbox hb; have BK313 := AX (hbox); have GW313 := gwl (w := w) hg bw; have GE313 := GW313; replace HB := AX (below_step bw hb); clear hb hbox hg; obtain ⟨hcz16_0, hcz16_1, hcz16_2, hcz16_3⟩ := blkC4 (w := w15) BK313.out; obtain ⟨hfz16_0, hfz16_1, hfz16_2, hfz16_3⟩ := blkF4 BK313.out))
      go_ret
      exact ⟨by first | rfl | (simp [errW_none, errW_some] <;> rfl) | (simp [*, errW_none, errW_some] <;> rfl), bw⟩
    ·rw [if_neg c5] at H
     have c5b0 : decide (a0_1 ≤ 5) = false := decide_eq_false c5
     clear c5
     obtain rfl := Option.some.inj H
     go_enter Try.func80, Try.ntmps80
     go_wp2_with (first | ((with_reducible refine gate_dst (N := 1) rfl ?_); refine bx 1 #[.int .i64 a0_0, .int .i64 a0_1, .int .i64 a0_2, .int .i64 a0_3] 40 ?_; intro gb313 hg w17 hbox hb; have BK313 := AX (hbox); have GW313 := gwl (w := w) hg bw; have GE313 := GW313; replace HB := AX (below_step bw hb); clear hb hbox hg; obtain ⟨hcz18_0, hcz18_1, hcz18_2, hcz18_3⟩ := blkC4 (w := w17) BK313.out; obtain ⟨hfz18_0, hfz18_1, hfz18_2, hfz18_3⟩ := blkF4 BK313.out))
     go_ret
     exact ⟨by first | rfl | (simp [errW_none, errW_some] <;> rfl) | (simp [*, errW_none, errW_some] <;> rfl), bw⟩
   ·rw [if_neg c4] at H
    have c4b0 : decide (1 ≤ a0_1) = false := decide_eq_false c4
    clear c4
    obtain rfl := Option.some.inj H
    go_enter Try.func80, Try.ntmps80
    go_wp2_with (first | ((with_reducible refine gate_dst (N := 1) rfl ?_); refine bx 1 #[.int .i64 a0_0, .int .i64 a0_1, .int .i64 a0_2, .int .i64 a0_3] 40 ?_; intro gb313 hg w19 hbox hb; have BK313 := AX (hbox); have GW313 := gwl (w := w) hg bw; have GE313 := GW313; replace HB := AX (below_step bw hb); clear hb hbox hg; obtain ⟨hcz20_0, hcz20_1, hcz20_2, hcz20_3⟩ := blkC4 (w := w19) BK313.out; obtain ⟨hfz20_0, hfz20_1, hfz20_2, hfz20_3⟩ := blkF4 BK313.out))
    go_ret
    exact ⟨by first | rfl | (simp [errW_none, errW_some] <;> rfl) | (simp [*, errW_none, errW_some] <;> rfl), bw⟩
  ·rw [if_neg c3] at H
   have c3b0 : decide (a0_0 ≤ 12) = false := decide_eq_false c3
   clear c3
   obtain rfl := Option.some.inj H
   go_enter Try.func80, Try.ntmps80
   go_wp2_with (first | ((with_reducible refine gate_dst (N := 1) rfl ?_); refine bx 1 #[.int .i64 a0_0, .int .i64 a0_1, .int .i64 a0_2, .int .i64 a0_3] 40 ?_; intro gb313 hg w21 hbox hb; have BK313 := AX (hbox); have GW313 := gwl (w := w) hg bw; have GE313 := GW313; replace HB := AX (below_step bw hb); clear hb hbox hg; obtain ⟨hcz22_0, hcz22_1, hcz22_2, hcz22_3⟩ := blkC4 (w := w21) BK313.out; obtain ⟨hfz22_0, hfz22_1, hfz22_2, hfz22_3⟩ := blkF4 BK313.out))
   go_ret
   exact ⟨by first | rfl | (simp [errW_none, errW_some] <;> rfl) | (simp [*, errW_none, errW_some] <;> rfl), bw⟩
 ·rw [if_neg c2] at H
  have c2b0 : decide (1 ≤ a0_0) = false := decide_eq_false c2
  clear c2
  obtain rfl := Option.some.inj H
  go_enter Try.func80, Try.ntmps80
  go_wp2_with (first | ((with_reducible refine gate_dst (N := 1) rfl ?_); refine bx 1 #[.int .i64 a0_0, .int .i64 a0_1, .int .i64 a0_2, .int .i64 a0_3] 40 ?_; intro gb313 hg w23 hbox hb; have BK313 := AX (hbox); have GW313 := gwl (w := w) hg bw; have GE313 := GW313; replace HB := AX (below_step bw hb); clear hb hbox hg; obtain ⟨hcz24_0, hcz24_1, hcz24_2, hcz24_3⟩ := blkC4 (w := w23) BK313.out; obtain ⟨hfz24_0, hfz24_1, hfz24_2, hfz24_3⟩ := blkF4 BK313.out))
  go_ret
  exact ⟨by first | rfl | (simp [errW_none, errW_some] <;> rfl) | (simp [*, errW_none, errW_some] <;> rfl), bw⟩

/-! ### pylonref04_Check: function 52 -/
def pylonref04_Check.j0 : Nat → Bool → Int → Int → Int → Int → Int → Int → Int → Int → Int → Int → Option (Int)
 | 0, _, _, _, _, _, _, _, _, _, _, _ => none
 | k + 1, x31, x315000, x315001, x315002, x315003, x315004, x315005, x315006, x315007, x315008, x315009 => if x31 = true then (some 8) else (if x315001 = 0 then (some 0) else ((pylonref04_good.f x315002 x315003 x315004 x315005).bind fun t315 => (if t315 = true then ((pylonref04_good.f x315006 x315007 x315008 x315009).bind fun t316 => (if t316 = true then (if x315002 = x315006 then (some 8) else (some 0)) else (some 8))) else (some 8))))
def pylonref04_Check.f (k : Nat) (a0_0 : Int) (a0_1 : Int) (a0_2 : Int) (a0_3 : Int) (a0_4 : Int) (a0_5 : Int) (a0_6 : Int) (a0_7 : Int) (a0_8 : Int) (a0_9 : Int) : Option (Int) := if a0_0 < (-720) then (pylonref04_Check.j0 k true a0_0 a0_1 a0_2 a0_3 a0_4 a0_5 a0_6 a0_7 a0_8 a0_9) else (if a0_0 > 840 then (pylonref04_Check.j0 k true a0_0 a0_1 a0_2 a0_3 a0_4 a0_5 a0_6 a0_7 a0_8 a0_9) else (if (Int.tmod a0_0 15) = 0 then (if a0_1 = 0 then (pylonref04_Check.j0 k false a0_0 a0_1 a0_2 a0_3 a0_4 a0_5 a0_6 a0_7 a0_8 a0_9) else (if a0_1 = 30 then (pylonref04_Check.j0 k false a0_0 a0_1 a0_2 a0_3 a0_4 a0_5 a0_6 a0_7 a0_8 a0_9) else (pylonref04_Check.j0 k (a0_1 != 60) a0_0 a0_1 a0_2 a0_3 a0_4 a0_5 a0_6 a0_7 a0_8 a0_9))) else (pylonref04_Check.j0 k true a0_0 a0_1 a0_2 a0_3 a0_4 a0_5 a0_6 a0_7 a0_8 a0_9)))
theorem pylonref04_Check.mono_l : ∀ k, (∀ y0 y1 y2 y3 y4 y5 y6 y7 y8 y9 y10, LeO (pylonref04_Check.j0 k y0 y1 y2 y3 y4 y5 y6 y7 y8 y9 y10) (pylonref04_Check.j0 (k + 1) y0 y1 y2 y3 y4 y5 y6 y7 y8 y9 y10))
 | 0 => fun _ _ _ _ _ _ _ _ _ _ _ r h => by simp [pylonref04_Check.j0] at h
 | k + 1 => by
  have ih0 := pylonref04_Check.mono_l k
  ·intro y0 y1 y2 y3 y4 y5 y6 y7 y8 y9 y10
   unfold pylonref04_Check.j0
   repeat' first
   | (with_reducible exact ih0 _ _ _ _ _ _ _ _ _ _ _)
   | (with_reducible exact LeO.refl _)
   | (with_reducible exact LeO.none _)
   | (with_reducible refine LeO.ite ?_ ?_)
   | (with_reducible refine LeO.bind ?_ (fun _ => ?_))
theorem pylonref04_Check.mono : ∀ a0 a1 a2 a3 a4 a5 a6 a7 a8 a9 k, LeO (pylonref04_Check.f k a0 a1 a2 a3 a4 a5 a6 a7 a8 a9) (pylonref04_Check.f (k + 1) a0 a1 a2 a3 a4 a5 a6 a7 a8 a9) := by
 intro a0 a1 a2 a3 a4 a5 a6 a7 a8 a9 k
 have ih0 := pylonref04_Check.mono_l k
 unfold pylonref04_Check.f
 repeat' first
   | (with_reducible exact ih0 _ _ _ _ _ _ _ _ _ _ _)
   | (with_reducible exact LeO.refl _)
   | (with_reducible exact LeO.none _)
   | (with_reducible refine LeO.ite ?_ ?_)
   | (with_reducible refine LeO.bind ?_ (fun _ => ?_))
set_option maxHeartbeats 8000000 in
set_option maxRecDepth 100000 in
theorem pylonref04_Check.calls (k : Nat) (a0_0 : Int) (a0_1 : Int) (a0_2 : Int) (a0_3 : Int) (a0_4 : Int) (a0_5 : Int) (a0_6 : Int) (a0_7 : Int) (a0_8 : Int) (a0_9 : Int) (r : Int) (w : World) (h : pylonref04_Check.f k a0_0 a0_1 a0_2 a0_3 a0_4 a0_5 a0_6 a0_7 a0_8 a0_9 = some r) :
  Calls Try.prog 52 #[.agg #[.int .i64 a0_0, .int .i64 a0_1, .int .i64 a0_2, .int .i64 a0_3, .int .i64 a0_4, .int .i64 a0_5, .int .i64 a0_6, .int .i64 a0_7, .int .i64 a0_8, .int .i64 a0_9]] w fun e w' => e = .returned (.int .i64 r) ∧ Below w.heap.size w w' := by
 have hu42 := Try.underlying42
 have hu40 := Try.underlying40
 have HB := AX (Below.refl w.heap.size w)
 have H : (if a0_0 < (-720) then (pylonref04_Check.j0 k true a0_0 a0_1 a0_2 a0_3 a0_4 a0_5 a0_6 a0_7 a0_8 a0_9) else (if a0_0 > 840 then (pylonref04_Check.j0 k true a0_0 a0_1 a0_2 a0_3 a0_4 a0_5 a0_6 a0_7 a0_8 a0_9) else (if (Int.tmod a0_0 15) = 0 then (if a0_1 = 0 then (pylonref04_Check.j0 k false a0_0 a0_1 a0_2 a0_3 a0_4 a0_5 a0_6 a0_7 a0_8 a0_9) else (if a0_1 = 30 then (pylonref04_Check.j0 k false a0_0 a0_1 a0_2 a0_3 a0_4 a0_5 a0_6 a0_7 a0_8 a0_9) else (pylonref04_Check.j0 k (a0_1 != 60) a0_0 a0_1 a0_2 a0_3 a0_4 a0_5 a0_6 a0_7 a0_8 a0_9))) else (pylonref04_Check.j0 k true a0_0 a0_1 a0_2 a0_3 a0_4 a0_5 a0_6 a0_7 a0_8 a0_9)))) = some r := h
 clear h
 have HC2 := AX H
 clear H
 go_enter Try.func52, Try.ntmps52
 go_upto_region 1 with (first | ((with_reducible refine gate_dst (N := 1) rfl ?_); refine bx 1 #[.int .i64 a0_0, .int .i64 a0_1, .int .i64 a0_2, .int .i64 a0_3, .int .i64 a0_4, .int .i64 a0_5, .int .i64 a0_6, .int .i64 a0_7, .int .i64 a0_8, .int .i64 a0_9] 42 ?_; intro gb314 hg w3 hbox hb; have BK314 := AX (hbox); have GW314 := gwl (w := w) hg bw; have GE314 := GW314; replace HB := AX (below_step bw hb); clear hb hbox hg))
 (try simp only [Act.put, List.setIfInBounds_toArray, List.set_cons_zero, List.set_cons_succ])
 go_cut [31] (fun v31 wc => ∃ (kq : Nat) (x31_1 : Bool), v31 = .bool x31_1 ∧ Aside0 (pylonref04_Check.j0 kq x31_1 a0_0 a0_1 a0_2 a0_3 a0_4 a0_5 a0_6 a0_7 a0_8 a0_9 = some r) ∧ Aside0 (kq ≤ k) ∧ Aside0 (wc.heap[gb314]? = some (.cells #[.int .i64 a0_0, .int .i64 a0_1, .int .i64 a0_2, .int .i64 a0_3, .int .i64 a0_4, .int .i64 a0_5, .int .i64 a0_6, .int .i64 a0_7, .int .i64 a0_8, .int .i64 a0_9] 42 (0, 0))) ∧ Aside0 (Below w.heap.size w wc))
 case first =>
  have H := HC2.out
  clear HC2
  by_cases c4 : a0_0 < (-720)
  ·rw [if_pos c4] at H
   have c4b0 : decide (a0_0 < (-720)) = true := decide_eq_true c4
   clear c4
   (first | rw [c4b0] | (simp only [i64_w, i32_w]; rw [c4b0]) | skip)
   have H' := AX H
   clear H
   obtain ⟨hcz5_0, hcz5_1, hcz5_2, hcz5_3, hcz5_4, hcz5_5, hcz5_6, hcz5_7, hcz5_8, hcz5_9⟩ := blkC10 (w := w3) BK314.out
   obtain ⟨hfz5_0, hfz5_1, hfz5_2, hfz5_3, hfz5_4, hfz5_5, hfz5_6, hfz5_7, hfz5_8, hfz5_9⟩ := blkF10 BK314.out
   go_wp2
   go_meet
   case rel => exact ⟨_, (true), (by first | rfl | (simp; done) | (simp [*]; done)), H', ⟨by first | omega | exact Nat.le_refl _⟩, ⟨bkn BK314⟩, ⟨bw⟩⟩
  ·rw [if_neg c4] at H
   have c4b0 : decide (a0_0 < (-720)) = false := decide_eq_false c4
   clear c4
   (first | rw [c4b0] | (simp only [i64_w, i32_w]; rw [c4b0]) | skip)
   by_cases c6 : a0_0 > 840
   ·rw [if_pos c6] at H
    have c6b0 : decide (840 < a0_0) = true := decide_eq_true c6
    clear c6
    have H' := AX H
    clear H
    obtain ⟨hcz7_0, hcz7_1, hcz7_2, hcz7_3, hcz7_4, hcz7_5, hcz7_6, hcz7_7, hcz7_8, hcz7_9⟩ := blkC10 (w := w3) BK314.out
    obtain ⟨hfz7_0, hfz7_1, hfz7_2, hfz7_3, hfz7_4, hfz7_5, hfz7_6, hfz7_7, hfz7_8, hfz7_9⟩ := blkF10 BK314.out
    go_wp2
    go_meet
    case rel => exact ⟨_, (true), (by first | rfl | (simp; done) | (simp [*]; done)), H', ⟨by first | omega | exact Nat.le_refl _⟩, ⟨bkn BK314⟩, ⟨bw⟩⟩
   ·rw [if_neg c6] at H
    have c6b0 : decide (840 < a0_0) = false := decide_eq_false c6
    clear c6
    by_cases c8 : (Int.tmod a0_0 15) = 0
    ·rw [if_pos c8] at H
     have c8b0 : ((Int.tmod a0_0 15) == 0) = true := beq_iff_eq.mpr c8
     have c8b1 : ((Int.tmod a0_0 15) != 0) = false := bne_eq_false_iff_eq.mpr c8
     clear c8
     by_cases c9 : a0_1 = 0
     ·rw [if_pos c9] at H
      have c9b0 : (a0_1 == 0) = true := beq_iff_eq.mpr c9
      have c9b1 : (a0_1 != 0) = false := bne_eq_false_iff_eq.mpr c9
      clear c9
      have H' := AX H
      clear H
      obtain ⟨hcz10_0, hcz10_1, hcz10_2, hcz10_3, hcz10_4, hcz10_5, hcz10_6, hcz10_7, hcz10_8, hcz10_9⟩ := blkC10 (w := w3) BK314.out
      obtain ⟨hfz10_0, hfz10_1, hfz10_2, hfz10_3, hfz10_4, hfz10_5, hfz10_6, hfz10_7, hfz10_8, hfz10_9⟩ := blkF10 BK314.out
      go_wp2
      go_meet
      case rel => exact ⟨_, (false), (by first | rfl | (simp; done) | (simp [*]; done)), H', ⟨by first | omega | exact Nat.le_refl _⟩, ⟨bkn BK314⟩, ⟨bw⟩⟩
     ·rw [if_neg c9] at H
      have c9b0 : (a0_1 == 0) = false := beq_eq_false_iff_ne.mpr c9
      have c9b1 : (a0_1 != 0) = true := bne_iff_ne.mpr c9
      by_cases c11 : a0_1 = 30
      ·rw [if_pos c11] at H
       have c11b0 : (a0_1 == 30) = true := beq_iff_eq.mpr c11
       have c11b1 : (a0_1 != 30) = false := bne_eq_false_iff_eq.mpr c11
       clear c11
       have H' := AX H
       clear H
       obtain ⟨hcz12_0, hcz12_1, hcz12_2, hcz12_3, hcz12_4, hcz12_5, hcz12_6, hcz12_7, hcz12_8, hcz12_9⟩ := blkC10 (w := w3) BK314.out
       obtain ⟨hfz12_0, hfz12_1, hfz12_2, hfz12_3, hfz12_4, hfz12_5, hfz12_6, hfz12_7, hfz12_8, hfz12_9⟩ := blkF10 BK314.out
       go_wp2
       go_meet
       case rel => exact ⟨_, (false), (by first | rfl | (simp; done) | (simp [*]; done)), H', ⟨by first | omega | exact Nat.le_refl _⟩, ⟨bkn BK314⟩, ⟨bw⟩⟩
      ·rw [if_neg c11] at H
       have c11b0 : (a0_1 == 30) = false := beq_eq_false_iff_ne.mpr c11
       have c11b1 : (a0_1 != 30) = true := bne_iff_ne.mpr c11
       have H' := AX H
       clear H
       obtain ⟨hcz13_0, hcz13_1, hcz13_2, hcz13_3, hcz13_4, hcz13_5, hcz13_6, hcz13_7, hcz13_8, hcz13_9⟩ := blkC10 (w := w3) BK314.out
       obtain ⟨hfz13_0, hfz13_1, hfz13_2, hfz13_3, hfz13_4, hfz13_5, hfz13_6, hfz13_7, hfz13_8, hfz13_9⟩ := blkF10 BK314.out
       go_wp2
       go_meet
       case rel => exact ⟨_, ((a0_1 != 60)), (by first | rfl | (simp; done) | (simp [*]; done)), H', ⟨by first | omega | exact Nat.le_refl _⟩, ⟨bkn BK314⟩, ⟨bw⟩⟩
    ·rw [if_neg c8] at H
     have c8b0 : ((Int.tmod a0_0 15) == 0) = false := beq_eq_false_iff_ne.mpr c8
     have c8b1 : ((Int.tmod a0_0 15) != 0) = true := bne_iff_ne.mpr c8
     have H' := AX H
     clear H
     obtain ⟨hcz14_0, hcz14_1, hcz14_2, hcz14_3, hcz14_4, hcz14_5, hcz14_6, hcz14_7, hcz14_8, hcz14_9⟩ := blkC10 (w := w3) BK314.out
     obtain ⟨hfz14_0, hfz14_1, hfz14_2, hfz14_3, hfz14_4, hfz14_5, hfz14_6, hfz14_7, hfz14_8, hfz14_9⟩ := blkF10 BK314.out
     go_wp2
     go_meet
     case rel => exact ⟨_, (true), (by first | rfl | (simp; done) | (simp [*]; done)), H', ⟨by first | omega | exact Nat.le_refl _⟩, ⟨bkn BK314⟩, ⟨bw⟩⟩
 case rest =>
  clear HC2
  obtain ⟨kq, x31_1, rfl, HA, HJ1, BK314, HB⟩ := hcut
  cases kq with
  | zero => exact absurd HA.out (by simp [pylonref04_Check.j0])
  | succ kj1 =>
   have H := HA.out
   clear HA
   simp only [pylonref04_Check.j0] at H
   by_cases c15 : x31_1 = true
   ·subst c15
    have H1 : (some 8) = some r := by rw [if_pos rfl] at H; exact H
    clear H
    have H := H1
    clear H1
    obtain rfl := Option.some.inj H
    go_wp2
    go_ret
    exact ⟨by first | rfl | (simp [errW_none, errW_some] <;> rfl) | (simp [*, errW_none, errW_some] <;> rfl), bw⟩
   ·replace c15 := Bool.eq_false_iff.mpr c15
    subst c15
    have H1 : (if a0_1 = 0 then (some 0) else ((pylonref04_good.f a0_2 a0_3 a0_4 a0_5).bind fun t315 => (if t315 = true then ((pylonref04_good.f a0_6 a0_7 a0_8 a0_9).bind fun t316 => (if t316 = true then (if a0_2 = a0_6 then (some 8) else (some 0)) else (some 8))) else (some 8)))) = some r := by rw [if_neg (show ¬ (false = true) by decide)] at H; exact H
    clear H
    have H := H1
    clear H1
    by_cases c16 : a0_1 = 0
    ·rw [if_pos c16] at H
     have c16b0 : (a0_1 == 0) = true := beq_iff_eq.mpr c16
     have c16b1 : (a0_1 != 0) = false := bne_eq_false_iff_eq.mpr c16
     clear c16
     obtain rfl := Option.some.inj H
     obtain ⟨hcz17_0, hcz17_1, hcz17_2, hcz17_3, hcz17_4, hcz17_5, hcz17_6, hcz17_7, hcz17_8, hcz17_9⟩ := blkC10 (w := wc) BK314.out
     obtain ⟨hfz17_0, hfz17_1, hfz17_2, hfz17_3, hfz17_4, hfz17_5, hfz17_6, hfz17_7, hfz17_8, hfz17_9⟩ := blkF10 BK314.out
     go_wp2
     go_ret
     exact ⟨by first | rfl | (simp [errW_none, errW_some] <;> rfl) | (simp [*, errW_none, errW_some] <;> rfl), bw⟩
    ·rw [if_neg c16] at H
     have c16b0 : (a0_1 == 0) = false := beq_eq_false_iff_ne.mpr c16
     have c16b1 : (a0_1 != 0) = true := bne_iff_ne.mpr c16
     replace H := Option.bind_eq_some_iff.mp H
     obtain ⟨t315, A180, H⟩ := H
     replace H : (if t315 = true then ((pylonref04_good.f a0_6 a0_7 a0_8 a0_9).bind fun t316 => (if t316 = true then (if a0_2 = a0_6 then (some 8) else (some 0)) else (some 8))) else (some 8)) = some r := H
     have A18 := AX A180
     clear A180
     by_cases c19 : t315 = true
     ·subst c19
      have H1 : ((pylonref04_good.f a0_6 a0_7 a0_8 a0_9).bind fun t316 => (if t316 = true then (if a0_2 = a0_6 then (some 8) else (some 0)) else (some 8))) = some r := by rw [if_pos rfl] at H; exact H
      clear H
      have H := H1
      clear H1
      replace H := Option.bind_eq_some_iff.mp H
      obtain ⟨t316, A200, H⟩ := H
      replace H : (if t316 = true then (if a0_2 = a0_6 then (some 8) else (some 0)) else (some 8)) = some r := H
      have A20 := AX A200
      clear A200
      by_cases c21 : t316 = true
      ·subst c21
       have H1 : (if a0_2 = a0_6 then (some 8) else (some 0)) = some r := by rw [if_pos rfl] at H; exact H
       clear H
       have H := H1
       clear H1
       by_cases c22 : a0_2 = a0_6
       ·rw [if_pos c22] at H
        have c22b0 : (a0_2 == a0_6) = true := beq_iff_eq.mpr c22
        have c22b1 : (a0_2 != a0_6) = false := bne_eq_false_iff_eq.mpr c22
        clear c22
        obtain rfl := Option.some.inj H
        obtain ⟨hcz23_0, hcz23_1, hcz23_2, hcz23_3, hcz23_4, hcz23_5, hcz23_6, hcz23_7, hcz23_8, hcz23_9⟩ := blkC10 (w := wc) BK314.out
        obtain ⟨hfz23_0, hfz23_1, hfz23_2, hfz23_3, hfz23_4, hfz23_5, hfz23_6, hfz23_7, hfz23_8, hfz23_9⟩ := blkF10 BK314.out
        go_wp2_with (first | (go_at_call 80; (with_reducible refine (pylonref04_good.calls a0_2 a0_3 a0_4 a0_5 true _ A18.out).mono ?_); rintro e w24 ⟨rfl, hb⟩; replace BK314 := AX (bkb BK314 hb); replace HB := AX (below_step bw hb); (try clear hb); obtain ⟨hcz25_0, hcz25_1, hcz25_2, hcz25_3, hcz25_4, hcz25_5, hcz25_6, hcz25_7, hcz25_8, hcz25_9⟩ := blkC10 (w := w24) BK314.out; obtain ⟨hfz25_0, hfz25_1, hfz25_2, hfz25_3, hfz25_4, hfz25_5, hfz25_6, hfz25_7, hfz25_8, hfz25_9⟩ := blkF10 BK314.out) | (go_at_call 80; (with_reducible refine (pylonref04_good.calls a0_6 a0_7 a0_8 a0_9 true _ A20.out).mono ?_); rintro e w26 ⟨rfl, hb⟩; replace BK314 := AX (bkb BK314 hb); replace HB := AX (below_step bw hb); (try clear hb); obtain ⟨hcz27_0, hcz27_1, hcz27_2, hcz27_3, hcz27_4, hcz27_5, hcz27_6, hcz27_7, hcz27_8, hcz27_9⟩ := blkC10 (w := w26) BK314.out; obtain ⟨hfz27_0, hfz27_1, hfz27_2, hfz27_3, hfz27_4, hfz27_5, hfz27_6, hfz27_7, hfz27_8, hfz27_9⟩ := blkF10 BK314.out))
        go_ret
        exact ⟨by first | rfl | (simp [errW_none, errW_some] <;> rfl) | (simp [*, errW_none, errW_some] <;> rfl), bw⟩
       ·rw [if_neg c22] at H
        have c22b0 : (a0_2 == a0_6) = false := beq_eq_false_iff_ne.mpr c22
        have c22b1 : (a0_2 != a0_6) = true := bne_iff_ne.mpr c22
        obtain rfl := Option.some.inj H
        obtain ⟨hcz28_0, hcz28_1, hcz28_2, hcz28_3, hcz28_4, hcz28_5, hcz28_6, hcz28_7, hcz28_8, hcz28_9⟩ := blkC10 (w := wc) BK314.out
        obtain ⟨hfz28_0, hfz28_1, hfz28_2, hfz28_3, hfz28_4, hfz28_5, hfz28_6, hfz28_7, hfz28_8, hfz28_9⟩ := blkF10 BK314.out
        go_wp2_with (first | (go_at_call 80; (with_reducible refine (pylonref04_good.calls a0_2 a0_3 a0_4 a0_5 true _ A18.out).mono ?_); rintro e w29 ⟨rfl, hb⟩; replace BK314 := AX (bkb BK314 hb); replace HB := AX (below_step bw hb); (try clear hb); obtain ⟨hcz30_0, hcz30_1, hcz30_2, hcz30_3, hcz30_4, hcz30_5, hcz30_6, hcz30_7, hcz30_8, hcz30_9⟩ := blkC10 (w := w29) BK314.out; obtain ⟨hfz30_0, hfz30_1, hfz30_2, hfz30_3, hfz30_4, hfz30_5, hfz30_6, hfz30_7, hfz30_8, hfz30_9⟩ := blkF10 BK314.out) | (go_at_call 80; (with_reducible refine (pylonref04_good.calls a0_6 a0_7 a0_8 a0_9 true _ A20.out).mono ?_); rintro e w31 ⟨rfl, hb⟩; replace BK314 := AX (bkb BK314 hb); replace HB := AX (below_step bw hb); (try clear hb); obtain ⟨hcz32_0, hcz32_1, hcz32_2, hcz32_3, hcz32_4, hcz32_5, hcz32_6, hcz32_7, hcz32_8, hcz32_9⟩ := blkC10 (w := w31) BK314.out; obtain ⟨hfz32_0, hfz32_1, hfz32_2, hfz32_3, hfz32_4, hfz32_5, hfz32_6, hfz32_7, hfz32_8, hfz32_9⟩ := blkF10 BK314.out))
        go_ret
        exact ⟨by first | rfl | (simp [errW_none, errW_some] <;> rfl) | (simp [*, errW_none, errW_some] <;> rfl), bw⟩
      ·replace c21 := Bool.eq_false_iff.mpr c21
       subst c21
       have H1 : (some 8) = some r := by rw [if_neg (show ¬ (false = true) by decide)] at H; exact H
       clear H
       have H := H1
       clear H1
       obtain rfl := Option.some.inj H
       obtain ⟨hcz33_0, hcz33_1, hcz33_2, hcz33_3, hcz33_4, hcz33_5, hcz33_6, hcz33_7, hcz33_8, hcz33_9⟩ := blkC10 (w := wc) BK314.out
       obtain ⟨hfz33_0, hfz33_1, hfz33_2, hfz33_3, hfz33_4, hfz33_5, hfz33_6, hfz33_7, hfz33_8, hfz33_9⟩ := blkF10 BK314.out
       go_wp2_with (first | (go_at_call 80; (with_reducible refine (pylonref04_good.calls a0_2 a0_3 a0_4 a0_5 true _ A18.out).mono ?_); rintro e w34 ⟨rfl, hb⟩; replace BK314 := AX (bkb BK314 hb); replace HB := AX (below_step bw hb); (try clear hb); obtain ⟨hcz35_0, hcz35_1, hcz35_2, hcz35_3, hcz35_4, hcz35_5, hcz35_6, hcz35_7, hcz35_8, hcz35_9⟩ := blkC10 (w := w34) BK314.out; obtain ⟨hfz35_0, hfz35_1, hfz35_2, hfz35_3, hfz35_4, hfz35_5, hfz35_6, hfz35_7, hfz35_8, hfz35_9⟩ := blkF10 BK314.out) | (go_at_call 80; (with_reducible refine (pylonref04_good.calls a0_6 a0_7 a0_8 a0_9 false _ A20.out).mono ?_); rintro e w36 ⟨rfl, hb⟩; replace BK314 := AX (bkb BK314 hb); replace HB := AX (below_step bw hb); (try clear hb)))
       go_ret
       exact ⟨by first | rfl | (simp [errW_none, errW_some] <;> rfl) | (simp [*, errW_none, errW_some] <;> rfl), bw⟩
     ·replace c19 := Bool.eq_false_iff.mpr c19
      subst c19
      have H1 : (some 8) = some r := by rw [if_neg (show ¬ (false = true) by decide)] at H; exact H
      clear H
      have H := H1
      clear H1
      obtain rfl := Option.some.inj H
      obtain ⟨hcz37_0, hcz37_1, hcz37_2, hcz37_3, hcz37_4, hcz37_5, hcz37_6, hcz37_7, hcz37_8, hcz37_9⟩ := blkC10 (w := wc) BK314.out
      obtain ⟨hfz37_0, hfz37_1, hfz37_2, hfz37_3, hfz37_4, hfz37_5, hfz37_6, hfz37_7, hfz37_8, hfz37_9⟩ := blkF10 BK314.out
      go_wp2_with (first | (go_at_call 80; (with_reducible refine (pylonref04_good.calls a0_2 a0_3 a0_4 a0_5 false _ A18.out).mono ?_); rintro e w38 ⟨rfl, hb⟩; replace BK314 := AX (bkb BK314 hb); replace HB := AX (below_step bw hb); (try clear hb)))
      go_ret
      exact ⟨by first | rfl | (simp [errW_none, errW_some] <;> rfl) | (simp [*, errW_none, errW_some] <;> rfl), bw⟩

/-! ### pylonref04_shown: function 58 -/
def pylonref04_shown.j0 : Nat → Int → Int → Bool → Option (Int × Int × Int × Int × Bool)
 | 0, _, _, _ => none
 | k + 1, x0, x1, x17 => if x17 = true then (some (0, 0, 0, 0, false)) else (if (Int.tmod (wrap64 (x0 + (wrap64 (x1 * 60)))) 86400) < 0 then ((pylonref03_Of.f k (wrap64 ((wrap64 (Int.tdiv (wrap64 (x0 + (wrap64 (x1 * 60)))) 86400)) - 1))).bind fun bt318 => (some (bt318.1, bt318.2.1, bt318.2.2.1, wrap64 ((Int.tmod (wrap64 (x0 + (wrap64 (x1 * 60)))) 86400) + 86400), (bt318.2.2.2 == 0)))) else ((pylonref03_Of.f k (wrap64 (Int.tdiv (wrap64 (x0 + (wrap64 (x1 * 60)))) 86400))).bind fun bt323 => (some (bt323.1, bt323.2.1, bt323.2.2.1, Int.tmod (wrap64 (x0 + (wrap64 (x1 * 60)))) 86400, (bt323.2.2.2 == 0)))))
def pylonref04_shown.f (k : Nat) (a0 : Int) (a1 : Int) : Option (Int × Int × Int × Int × Bool) := if a0 < (-62200000000) then (pylonref04_shown.j0 k a0 a1 true) else (pylonref04_shown.j0 k a0 a1 (decide (a0 > 253500000000)))
theorem pylonref04_shown.mono_l : ∀ k, (∀ y0 y1 y2, LeO (pylonref04_shown.j0 k y0 y1 y2) (pylonref04_shown.j0 (k + 1) y0 y1 y2))
 | 0 => fun _ _ _ r h => by simp [pylonref04_shown.j0] at h
 | k + 1 => by
  have ih0 := pylonref04_shown.mono_l k
  ·intro y0 y1 y2
   unfold pylonref04_shown.j0
   repeat' first
   | (with_reducible exact ih0 _ _ _)
   | (with_reducible exact pylonref03_Of.mono _ _)
   | (with_reducible exact LeO.refl _)
   | (with_reducible exact LeO.none _)
   | (with_reducible refine LeO.ite ?_ ?_)
   | (with_reducible refine LeO.bind ?_ (fun _ => ?_))
theorem pylonref04_shown.mono : ∀ a0 a1 k, LeO (pylonref04_shown.f k a0 a1) (pylonref04_shown.f (k + 1) a0 a1) := by
 intro a0 a1 k
 have ih0 := pylonref04_shown.mono_l k
 unfold pylonref04_shown.f
 repeat' first
   | (with_reducible exact ih0 _ _ _)
   | (with_reducible exact pylonref03_Of.mono _ _)
   | (with_reducible exact LeO.refl _)
   | (with_reducible exact LeO.none _)
   | (with_reducible refine LeO.ite ?_ ?_)
   | (with_reducible refine LeO.bind ?_ (fun _ => ?_))
set_option maxHeartbeats 8000000 in
set_option maxRecDepth 100000 in
theorem pylonref04_shown.calls (k : Nat) (a0 : Int) (a1 : Int) (r1 : Int) (r2 : Int) (r3 : Int) (r4 : Int) (r5 : Bool) (w : World) (h : pylonref04_shown.f k a0 a1 = some (r1, r2, r3, r4, r5)) :
  Calls Try.prog 58 #[.int .i64 a0, .int .i64 a1] w fun e w' => e = .returned (.tuple #[.agg #[.int .i64 r1, .int .i64 r2, .int .i64 r3], .int .i64 r4, .bool r5]) ∧ Below w.heap.size w w' := by
 have hu24 := Try.underlying24
 have HB := AX (Below.refl w.heap.size w)
 have H : (if a0 < (-62200000000) then (pylonref04_shown.j0 k a0 a1 true) else (pylonref04_shown.j0 k a0 a1 (decide (a0 > 253500000000)))) = some (r1, r2, r3, r4, r5) := h
 clear h
 have HC3 := AX H
 clear H
 go_enter Try.func58, Try.ntmps58
 go_upto_region 1 with (first | ((with_reducible refine gate_dst (N := 4) rfl ?_); refine bx 4 #[.int .i64 0, .int .i64 0, .int .i64 0] 24 ?_; intro gb317 hg w4 hbox hb; have BK317 := AX (hbox); have GW317 := gwl (w := w) hg bw; have GE317 := GW317; replace HB := AX (below_step bw hb); clear hb hbox hg))
 (try simp only [Act.put, List.setIfInBounds_toArray, List.set_cons_zero, List.set_cons_succ])
 go_cut [17] (fun v17 wc => ∃ (kq : Nat) (x17_2 : Bool), v17 = .bool x17_2 ∧ Aside0 (pylonref04_shown.j0 kq a0 a1 x17_2 = some (r1, r2, r3, r4, r5)) ∧ Aside0 (kq ≤ k) ∧ Aside0 (wc.heap[gb317]? = some (.cells #[.int .i64 0, .int .i64 0, .int .i64 0] 24 (0, 0))) ∧ Aside0 (Below w.heap.size w wc))
 case first =>
  have H := HC3.out
  clear HC3
  by_cases c5 : a0 < (-62200000000)
  ·rw [if_pos c5] at H
   have c5b0 : decide (a0 < (-62200000000)) = true := decide_eq_true c5
   clear c5
   (first | rw [c5b0] | (simp only [i64_w, i32_w]; rw [c5b0]) | skip)
   have H' := AX H
   clear H
   go_wp2
   go_meet
   case rel => exact ⟨_, (true), (by first | rfl | (simp; done) | (simp [*]; done)), H', ⟨by first | omega | exact Nat.le_refl _⟩, ⟨bkn BK317⟩, ⟨bw⟩⟩
  ·rw [if_neg c5] at H
   have c5b0 : decide (a0 < (-62200000000)) = false := decide_eq_false c5
   clear c5
   (first | rw [c5b0] | (simp only [i64_w, i32_w]; rw [c5b0]) | skip)
   have H' := AX H
   clear H
   go_wp2
   go_meet
   case rel => exact ⟨_, (decide (a0 > 253500000000)), (by first | rfl | (simp; done) | (simp [*]; done)), H', ⟨by first | omega | exact Nat.le_refl _⟩, ⟨bkn BK317⟩, ⟨bw⟩⟩
 case rest =>
  clear HC3
  obtain ⟨kq, x17_2, rfl, HA, HJ2, BK317, HB⟩ := hcut
  cases kq with
  | zero => exact absurd HA.out (by simp [pylonref04_shown.j0])
  | succ kj2 =>
   have H := HA.out
   clear HA
   simp only [pylonref04_shown.j0] at H
   by_cases c6 : x17_2 = true
   ·subst c6
    have H1 : (some (0, 0, 0, 0, false)) = some (r1, r2, r3, r4, r5) := by rw [if_pos rfl] at H; exact H
    clear H
    have H := H1
    clear H1
    simp only [Option.some.injEq, Prod.mk.injEq] at H
    obtain ⟨rfl, rfl, rfl, rfl, rfl⟩ := H
    obtain ⟨hcz7_0, hcz7_1, hcz7_2⟩ := blkC3 (w := wc) BK317.out
    obtain ⟨hfz7_0, hfz7_1, hfz7_2⟩ := blkF3 BK317.out
    go_wp2
    refine bodyPost_ret (results_ctt rfl _ _ gb317 24 #[.int .i64 0, .int .i64 0, .int .i64 0] (0, 0) _ rfl (by (with_reducible repeat first|refine blk_drewN ?_ _|refine blk_drew ?_|refine blk_alloc ?_ _); refine blk_put (cs := #[.int .i64 0, .int .i64 0, .int .i64 0]) ?_ 2 _ rfl; (with_reducible repeat first|refine blk_drewN ?_ _|refine blk_drew ?_|refine blk_alloc ?_ _); refine blk_put (cs := #[.int .i64 0, .int .i64 0, .int .i64 0]) ?_ 1 _ rfl; (with_reducible repeat first|refine blk_drewN ?_ _|refine blk_drew ?_|refine blk_alloc ?_ _); refine blk_put (cs := #[.int .i64 0, .int .i64 0, .int .i64 0]) ?_ 0 _ rfl; (with_reducible repeat first|refine blk_drewN ?_ _|refine blk_drew ?_|refine blk_alloc ?_ _); exact BK317.out) Try.underlying24 rfl (by kernel_rfl)) rfl ?_
    exact ⟨by first | rfl | (simp [errW_none, errW_some] <;> rfl) | (simp [*, errW_none, errW_some] <;> rfl), bw⟩
   ·replace c6 := Bool.eq_false_iff.mpr c6
    subst c6
    have H1 : (if (Int.tmod (wrap64 (a0 + (wrap64 (a1 * 60)))) 86400) < 0 then ((pylonref03_Of.f kj2 (wrap64 ((wrap64 (Int.tdiv (wrap64 (a0 + (wrap64 (a1 * 60)))) 86400)) - 1))).bind fun bt318 => (some (bt318.1, bt318.2.1, bt318.2.2.1, wrap64 ((Int.tmod (wrap64 (a0 + (wrap64 (a1 * 60)))) 86400) + 86400), (bt318.2.2.2 == 0)))) else ((pylonref03_Of.f kj2 (wrap64 (Int.tdiv (wrap64 (a0 + (wrap64 (a1 * 60)))) 86400))).bind fun bt323 => (some (bt323.1, bt323.2.1, bt323.2.2.1, Int.tmod (wrap64 (a0 + (wrap64 (a1 * 60)))) 86400, (bt323.2.2.2 == 0))))) = some (r1, r2, r3, r4, r5) := by rw [if_neg (show ¬ (false = true) by decide)] at H; exact H
    clear H
    have H := H1
    clear H1
    by_cases c8 : (Int.tmod (wrap64 (a0 + (wrap64 (a1 * 60)))) 86400) < 0
    ·rw [if_pos c8] at H
     have c8b0 : decide ((Int.tmod (wrap64 (a0 + (wrap64 (a1 * 60)))) 86400) < 0) = true := decide_eq_true c8
     clear c8
     replace H := Option.bind_eq_some_iff.mp H
     obtain ⟨⟨t318, t319, t320, t321⟩, A90, H⟩ := H
     replace H : (some (t318, t319, t320, wrap64 ((Int.tmod (wrap64 (a0 + (wrap64 (a1 * 60)))) 86400) + 86400), (t321 == 0))) = some (r1, r2, r3, r4, r5) := H
     have A9 := AX A90
     clear A90
     simp only [Option.some.injEq, Prod.mk.injEq] at H
     obtain ⟨rfl, rfl, rfl, rfl, rfl⟩ := H
     go_wp2_with (first | ((with_reducible refine gate_callee (f := 41) rfl ?_); refine gL (some 35) Try.func41 #[.int .i64 (wrap64 ((wrap64 (Int.tdiv (wrap64 (a0 + (wrap64 (a1 * 60)))) 86400)) - 1))] ?_; (with_reducible refine (pylonref03_Of.calls kj2 (wrap64 ((wrap64 (Int.tdiv (wrap64 (a0 + (wrap64 (a1 * 60)))) 86400)) - 1)) t318 t319 t320 t321 _ A9.out).mono ?_); rintro e w10 ⟨rfl, hb⟩; refine ⟨_, rfl, ?_⟩; replace BK317 := AX (bkb BK317 hb); replace HB := AX (below_step bw hb); (try clear hb)) | ((with_reducible refine gate_dst (N := 10) rfl ?_); refine bx 10 #[.int .i64 0, .int .i64 0, .int .i64 0] 24 ?_; intro gb322 hg w11 hbox hb; have BK322 := AX (hbox); have GW322 := gwl (w := w) hg bw; have GE322 := GW322; have NB317_322 := nbl hg (bkn BK317); have NB322_317 := nbg hg (bkn BK317); replace BK317 := AX (bkb BK317 hb); replace HB := AX (below_step bw hb); clear hb hbox hg; have hnb12 := NB322_317.out; have hnc12 := NB317_322.out; obtain ⟨hcz13_0, hcz13_1, hcz13_2⟩ := blkC3 (w := w11) BK322.out; obtain ⟨hfz13_0, hfz13_1, hfz13_2⟩ := blkF3 BK322.out; obtain ⟨hcz14_0, hcz14_1, hcz14_2⟩ := blkC3 (w := w11) BK317.out; obtain ⟨hfz14_0, hfz14_1, hfz14_2⟩ := blkF3 BK317.out))
     refine bodyPost_ret (results_ctt rfl _ _ gb317 24 #[.int .i64 t318, .int .i64 t319, .int .i64 t320] (0, 0) _ rfl (by (with_reducible repeat first|refine blk_drewN ?_ _|refine blk_drew ?_|refine blk_alloc ?_ _); refine blk_put (cs := #[.int .i64 t318, .int .i64 t319, .int .i64 0]) ?_ 2 _ rfl; (with_reducible repeat first|refine blk_drewN ?_ _|refine blk_drew ?_|refine blk_alloc ?_ _); refine blk_put (cs := #[.int .i64 t318, .int .i64 0, .int .i64 0]) ?_ 1 _ rfl; (with_reducible repeat first|refine blk_drewN ?_ _|refine blk_drew ?_|refine blk_alloc ?_ _); refine blk_put (cs := #[.int .i64 0, .int .i64 0, .int .i64 0]) ?_ 0 _ rfl; (with_reducible repeat first|refine blk_drewN ?_ _|refine blk_drew ?_|refine blk_alloc ?_ _); refine blk_far ?_ NB317_322.out _; (with_reducible repeat first|refine blk_drewN ?_ _|refine blk_drew ?_|refine blk_alloc ?_ _); refine blk_far ?_ NB317_322.out _; (with_reducible repeat first|refine blk_drewN ?_ _|refine blk_drew ?_|refine blk_alloc ?_ _); refine blk_far ?_ NB317_322.out _; (with_reducible repeat first|refine blk_drewN ?_ _|refine blk_drew ?_|refine blk_alloc ?_ _); exact BK317.out) Try.underlying24 rfl (by kernel_rfl)) rfl ?_
     exact ⟨by first | rfl | (simp [errW_none, errW_some] <;> rfl) | (simp [*, errW_none, errW_some] <;> rfl), bw⟩
    ·rw [if_neg c8] at H
     have c8b0 : decide ((Int.tmod (wrap64 (a0 + (wrap64 (a1 * 60)))) 86400) < 0) = false := decide_eq_false c8
     clear c8
     replace H := Option.bind_eq_some_iff.mp H
     obtain ⟨⟨t323, t324, t325, t326⟩, A150, H⟩ := H
     replace H : (some (t323, t324, t325, Int.tmod (wrap64 (a0 + (wrap64 (a1 * 60)))) 86400, (t326 == 0))) = some (r1, r2, r3, r4, r5) := H
     have A15 := AX A150
     clear A150
     simp only [Option.some.injEq, Prod.mk.injEq] at H
     obtain ⟨rfl, rfl, rfl, rfl, rfl⟩ := H
     go_wp2_with (first | ((with_reducible refine gate_callee (f := 41) rfl ?_); refine gL (some 35) Try.func41 #[.int .i64 (wrap64 (Int.tdiv (wrap64 (a0 + (wrap64 (a1 * 60)))) 86400))] ?_; (with_reducible refine (pylonref03_Of.calls kj2 (wrap64 (Int.tdiv (wrap64 (a0 + (wrap64 (a1 * 60)))) 86400)) t323 t324 t325 t326 _ A15.out).mono ?_); rintro e w16 ⟨rfl, hb⟩; refine ⟨_, rfl, ?_⟩; replace BK317 := AX (bkb BK317 hb); replace HB := AX (below_step bw hb); (try clear hb)) | ((with_reducible refine gate_dst (N := 10) rfl ?_); refine bx 10 #[.int .i64 0, .int .i64 0, .int .i64 0] 24 ?_; intro gb327 hg w17 hbox hb; have BK327 := AX (hbox); have GW327 := gwl (w := w) hg bw; have GE327 := GW327; have NB317_327 := nbl hg (bkn BK317); have NB327_317 := nbg hg (bkn BK317); replace BK317 := AX (bkb BK317 hb); replace HB := AX (below_step bw hb); clear hb hbox hg; have hnb18 := NB327_317.out; have hnc18 := NB317_327.out; obtain ⟨hcz19_0, hcz19_1, hcz19_2⟩ := blkC3 (w := w17) BK327.out; obtain ⟨hfz19_0, hfz19_1, hfz19_2⟩ := blkF3 BK327.out; obtain ⟨hcz20_0, hcz20_1, hcz20_2⟩ := blkC3 (w := w17) BK317.out; obtain ⟨hfz20_0, hfz20_1, hfz20_2⟩ := blkF3 BK317.out))
     refine bodyPost_ret (results_ctt rfl _ _ gb317 24 #[.int .i64 t323, .int .i64 t324, .int .i64 t325] (0, 0) _ rfl (by (with_reducible repeat first|refine blk_drewN ?_ _|refine blk_drew ?_|refine blk_alloc ?_ _); refine blk_put (cs := #[.int .i64 t323, .int .i64 t324, .int .i64 0]) ?_ 2 _ rfl; (with_reducible repeat first|refine blk_drewN ?_ _|refine blk_drew ?_|refine blk_alloc ?_ _); refine blk_put (cs := #[.int .i64 t323, .int .i64 0, .int .i64 0]) ?_ 1 _ rfl; (with_reducible repeat first|refine blk_drewN ?_ _|refine blk_drew ?_|refine blk_alloc ?_ _); refine blk_put (cs := #[.int .i64 0, .int .i64 0, .int .i64 0]) ?_ 0 _ rfl; (with_reducible repeat first|refine blk_drewN ?_ _|refine blk_drew ?_|refine blk_alloc ?_ _); refine blk_far ?_ NB317_327.out _; (with_reducible repeat first|refine blk_drewN ?_ _|refine blk_drew ?_|refine blk_alloc ?_ _); refine blk_far ?_ NB317_327.out _; (with_reducible repeat first|refine blk_drewN ?_ _|refine blk_drew ?_|refine blk_alloc ?_ _); refine blk_far ?_ NB317_327.out _; (with_reducible repeat first|refine blk_drewN ?_ _|refine blk_drew ?_|refine blk_alloc ?_ _); exact BK317.out) Try.underlying24 rfl (by kernel_rfl)) rfl ?_
     exact ⟨by first | rfl | (simp [errW_none, errW_some] <;> rfl) | (simp [*, errW_none, errW_some] <;> rfl), bw⟩

/-! ### pylonref04_moment: function 82 -/
def pylonref04_moment.f (k : Nat) (a0_0 : Int) (a0_1 : Int) (a0_2 : Int) (a0_3 : Int) (a1 : Int) (a2 : Int) : Option (Int) := (pylonref03_Nth.f k a1 a0_0 a0_1 a0_2).bind fun bt329 => ((pylonref03_Days.f k bt329.1 bt329.2.1 bt329.2.2.1).bind fun bt334 => (some (wrap64 ((wrap64 (bt334.1 * 86400)) + (wrap64 ((wrap64 (a0_3 - a2)) * 60))))))
theorem pylonref04_moment.mono : ∀ a0 a1 a2 a3 a4 a5 k, LeO (pylonref04_moment.f k a0 a1 a2 a3 a4 a5) (pylonref04_moment.f (k + 1) a0 a1 a2 a3 a4 a5) := by
 intro a0 a1 a2 a3 a4 a5 k
 unfold pylonref04_moment.f
 repeat' first
   | (with_reducible exact pylonref03_Days.mono _ _ _ _)
   | (with_reducible exact pylonref03_Nth.mono _ _ _ _ _)
   | (with_reducible exact LeO.refl _)
   | (with_reducible exact LeO.none _)
   | (with_reducible refine LeO.ite ?_ ?_)
   | (with_reducible refine LeO.bind ?_ (fun _ => ?_))
set_option maxHeartbeats 8000000 in
set_option maxRecDepth 100000 in
theorem pylonref04_moment.calls (k : Nat) (a0_0 : Int) (a0_1 : Int) (a0_2 : Int) (a0_3 : Int) (a1 : Int) (a2 : Int) (r : Int) (w : World) (h : pylonref04_moment.f k a0_0 a0_1 a0_2 a0_3 a1 a2 = some r) :
  Calls Try.prog 82 #[.agg #[.int .i64 a0_0, .int .i64 a0_1, .int .i64 a0_2, .int .i64 a0_3], .int .i64 a1, .int .i64 a2] w fun e w' => e = .returned (.int .i64 r) ∧ Below w.heap.size w w' := by
 have hu40 := Try.underlying40
 have hu24 := Try.underlying24
 have HB := AX (Below.refl w.heap.size w)
 have H : ((pylonref03_Nth.f k a1 a0_0 a0_1 a0_2).bind fun bt329 => ((pylonref03_Days.f k bt329.1 bt329.2.1 bt329.2.2.1).bind fun bt334 => (some (wrap64 ((wrap64 (bt334.1 * 86400)) + (wrap64 ((wrap64 (a0_3 - a2)) * 60))))))) = some r := h
 clear h
 replace H := Option.bind_eq_some_iff.mp H
 obtain ⟨⟨t329, t330, t331, t332⟩, A40, H⟩ := H
 replace H : ((pylonref03_Days.f k t329 t330 t331).bind fun bt334 => (some (wrap64 ((wrap64 (bt334.1 * 86400)) + (wrap64 ((wrap64 (a0_3 - a2)) * 60)))))) = some r := H
 have A4 := AX A40
 clear A40
 replace H := Option.bind_eq_some_iff.mp H
 obtain ⟨⟨t334, t335⟩, A50, H⟩ := H
 replace H : (some (wrap64 ((wrap64 (t334 * 86400)) + (wrap64 ((wrap64 (a0_3 - a2)) * 60))))) = some r := H
 have A5 := AX A50
 clear A50
 obtain rfl := Option.some.inj H
 go_enter Try.func82, Try.ntmps82
 go_wp2_with (first | ((with_reducible refine gate_dst (N := 3) rfl ?_); refine bx 3 #[.int .i64 a0_0, .int .i64 a0_1, .int .i64 a0_2, .int .i64 a0_3] 40 ?_; intro gb328 hg w6 hbox hb; have BK328 := AX (hbox); have GW328 := gwl (w := w) hg bw; have GE328 := GW328; replace HB := AX (below_step bw hb); clear hb hbox hg; obtain ⟨hcz7_0, hcz7_1, hcz7_2, hcz7_3⟩ := blkC4 (w := w6) BK328.out; obtain ⟨hfz7_0, hfz7_1, hfz7_2, hfz7_3⟩ := blkF4 BK328.out) | ((with_reducible refine gate_callee (f := 90) rfl ?_); refine gL (some 19) Try.func90 #[.int .i64 a1, .int .i64 a0_0, .int .i64 a0_1, .int .i64 a0_2] ?_; (with_reducible refine (pylonref03_Nth.calls k a1 a0_0 a0_1 a0_2 t329 t330 t331 t332 _ A4.out).mono ?_); rintro e w8 ⟨rfl, hb⟩; refine ⟨_, rfl, ?_⟩; replace BK328 := AX (bkb BK328 hb); replace HB := AX (below_step bw hb); (try clear hb)) | ((with_reducible refine gate_dst (N := 7) rfl ?_); refine bx 7 #[.int .i64 0, .int .i64 0, .int .i64 0] 24 ?_; intro gb333 hg w9 hbox hb; have BK333 := AX (hbox); have GW333 := gwl (w := w) hg bw; have GE333 := GW333; have NB328_333 := nbl hg (bkn BK328); have NB333_328 := nbg hg (bkn BK328); replace BK328 := AX (bkb BK328 hb); replace HB := AX (below_step bw hb); clear hb hbox hg; have hnb10 := NB333_328.out; have hnc10 := NB328_333.out; obtain ⟨hcz11_0, hcz11_1, hcz11_2⟩ := blkC3 (w := w9) BK333.out; obtain ⟨hfz11_0, hfz11_1, hfz11_2⟩ := blkF3 BK333.out) | ((with_reducible refine gate_callee (f := 40) rfl ?_); refine gL (some 24) Try.func40 #[.agg #[.int .i64 t329, .int .i64 t330, .int .i64 t331]] ?_; (with_reducible refine (pylonref03_Days.calls k t329 t330 t331 t334 t335 _ A5.out).mono ?_); rintro e w12 ⟨rfl, hb⟩; refine ⟨_, rfl, ?_⟩; replace BK328 := AX (blk_below (g := gb328) (o := .cells #[.int .i64 a0_0, .int .i64 a0_1, .int .i64 a0_2, .int .i64 a0_3] 40 (0, 0)) (by (with_reducible repeat first|refine blk_drewN ?_ _|refine blk_drew ?_|refine blk_alloc ?_ _|refine blk_far ?_ NB328_333.out _); exact BK328.out) hb); replace BK333 := AX (blk_below (g := gb333) (o := .cells #[.int .i64 t329, .int .i64 t330, .int .i64 t331] 24 (0, 0)) (by (with_reducible repeat first|refine blk_drewN ?_ _|refine blk_drew ?_|refine blk_alloc ?_ _); refine blk_put (cs := #[.int .i64 t329, .int .i64 t330, .int .i64 0]) ?_ 2 _ rfl; (with_reducible repeat first|refine blk_drewN ?_ _|refine blk_drew ?_|refine blk_alloc ?_ _); refine blk_put (cs := #[.int .i64 t329, .int .i64 0, .int .i64 0]) ?_ 1 _ rfl; (with_reducible repeat first|refine blk_drewN ?_ _|refine blk_drew ?_|refine blk_alloc ?_ _); refine blk_put (cs := #[.int .i64 0, .int .i64 0, .int .i64 0]) ?_ 0 _ rfl; (with_reducible repeat first|refine blk_drewN ?_ _|refine blk_drew ?_|refine blk_alloc ?_ _); exact BK333.out) hb); replace HB := AX (below_step bw hb); (try clear hb); obtain ⟨hcz13_0, hcz13_1, hcz13_2, hcz13_3⟩ := blkC4 (w := w12) BK328.out; obtain ⟨hfz13_0, hfz13_1, hfz13_2, hfz13_3⟩ := blkF4 BK328.out))
 go_ret
 exact ⟨by first | rfl | (simp [errW_none, errW_some] <;> rfl) | (simp [*, errW_none, errW_some] <;> rfl), bw⟩

end Go.Proofs.Ytkggjjggcbcdiaa.PX
