/- Functions of the program as plain Lean functions, each with a proof that the call in the machine answers just what the plain function says; condition: the plain function answers at all. -/
import Derived.Test.YtegedhnbmclbkaaPXx0
import Derived.Test.YtegedhnbmclbkaaPXx1
import Derived.Test.YtegedhnbmclbkaaPXx8
namespace Go.Proofs.Ytegedhnbmclbkaa.PX
open Go.RowKit Go.Proofs.YtegedhnbmclbkaaW.PrintWords Go.Proofs.YtegedhnbmclbkaaW.PrintLast Go.Proofs.YtegedhnbmclbkaaW.PrintMore
attribute [local go_sem] max2_int min2_int max_two min_two max_three min_three max_four min_four   -- for this text's walks alone
set_option linter.unusedVariables false
set_option linter.unusedSimpArgs false

attribute [local go_sem high] eqA33
/-! ### pylonref05_Check: function 15 -/
def pylonref05_Check.f (k : Nat) (a0_0 : Int) (a0_1 : Int) (a0_2 : Int) (a0_3 : Int) : Option (Int) := if a0_0 = 1 then ((pylonref03_Length.f k 2000 a0_1).bind fun bt236 => (if bt236.2 = 0 then (if a0_2 ≥ 1 then (if a0_2 ≤ bt236.1 then (if a0_3 = 0 then (some 0) else (some 8)) else (some 8)) else (some 8)) else (some 8))) else (if a0_0 = 2 then (if a0_1 ≥ 1 then (if a0_1 ≤ 12 then (if a0_2 ≥ 1 then (if a0_2 ≤ 5 then (if a0_3 ≥ 0 then (if a0_3 ≤ 6 then (some 0) else (some 8)) else (some 8)) else (some 8)) else (some 8)) else (some 8)) else (some 8)) else (if a0_0 = 3 then (if a0_1 ≥ (-100) then (if a0_1 ≤ 100 then (if a0_2 = 0 then (if a0_3 = 0 then (some 0) else (some 8)) else (some 8)) else (some 8)) else (some 8)) else (some 8)))
theorem pylonref05_Check.mono : ∀ a0 a1 a2 a3 k, LeO (pylonref05_Check.f k a0 a1 a2 a3) (pylonref05_Check.f (k + 1) a0 a1 a2 a3) := by
 intro a0 a1 a2 a3 k
 unfold pylonref05_Check.f
 repeat' first
   | (with_reducible exact pylonref03_Length.mono _ _ _)
   | (with_reducible exact LeO.refl _)
   | (with_reducible exact LeO.none _)
   | (with_reducible refine LeO.ite ?_ ?_)
   | (with_reducible refine LeO.bind ?_ (fun _ => ?_))
set_option maxHeartbeats 8000000 in
set_option maxRecDepth 100000 in
theorem pylonref05_Check.calls (k : Nat) (a0_0 : Int) (a0_1 : Int) (a0_2 : Int) (a0_3 : Int) (r : Int) (w : World) (h : pylonref05_Check.f k a0_0 a0_1 a0_2 a0_3 = some r) :
  Calls Try.prog 15 #[.agg #[.int .i64 a0_0, .int .i64 a0_1, .int .i64 a0_2, .int .i64 a0_3]] w fun e w' => e = .returned (.int .i64 r) ∧ Below w.heap.size w w' := by
 have hu25 := Try.underlying25
 have HB := AX (Below.refl w.heap.size w)
 have H : (if a0_0 = 1 then ((pylonref03_Length.f k 2000 a0_1).bind fun bt236 => (if bt236.2 = 0 then (if a0_2 ≥ 1 then (if a0_2 ≤ bt236.1 then (if a0_3 = 0 then (some 0) else (some 8)) else (some 8)) else (some 8)) else (some 8))) else (if a0_0 = 2 then (if a0_1 ≥ 1 then (if a0_1 ≤ 12 then (if a0_2 ≥ 1 then (if a0_2 ≤ 5 then (if a0_3 ≥ 0 then (if a0_3 ≤ 6 then (some 0) else (some 8)) else (some 8)) else (some 8)) else (some 8)) else (some 8)) else (some 8)) else (if a0_0 = 3 then (if a0_1 ≥ (-100) then (if a0_1 ≤ 100 then (if a0_2 = 0 then (if a0_3 = 0 then (some 0) else (some 8)) else (some 8)) else (some 8)) else (some 8)) else (some 8)))) = some r := h
 clear h
 by_cases c2 : a0_0 = 1
 ·rw [if_pos c2] at H
  have c2b0 : (a0_0 == 1) = true := beq_iff_eq.mpr c2
  have c2b1 : (a0_0 != 1) = false := bne_eq_false_iff_eq.mpr c2
  clear c2
  replace H := Option.bind_eq_some_iff.mp H
  obtain ⟨⟨t236, t237⟩, A30, H⟩ := H
  replace H : (if t237 = 0 then (if a0_2 ≥ 1 then (if a0_2 ≤ t236 then (if a0_3 = 0 then (some 0) else (some 8)) else (some 8)) else (some 8)) else (some 8)) = some r := H
  have A3 := AX A30
  clear A30
  by_cases c4 : t237 = 0
  ·rw [if_pos c4] at H
   have c4b0 : (t237 == 0) = true := beq_iff_eq.mpr c4
   have c4b1 : (t237 != 0) = false := bne_eq_false_iff_eq.mpr c4
   clear c4
   by_cases c5 : a0_2 ≥ 1
   ·rw [if_pos c5] at H
    have c5b0 : decide (1 ≤ a0_2) = true := decide_eq_true c5
    clear c5
    by_cases c6 : a0_2 ≤ t236
    ·rw [if_pos c6] at H
     have c6b0 : decide (a0_2 ≤ t236) = true := decide_eq_true c6
     clear c6
     by_cases c7 : a0_3 = 0
     ·rw [if_pos c7] at H
      have c7b0 : (a0_3 == 0) = true := beq_iff_eq.mpr c7
      have c7b1 : (a0_3 != 0) = false := bne_eq_false_iff_eq.mpr c7
      clear c7
      obtain rfl := Option.some.inj H
      go_enter Try.func15, Try.ntmps15
      go_wp2_with (first | ((with_reducible refine gate_dst (N := 1) rfl ?_); refine bx 1 #[.int .i64 a0_0, .int .i64 a0_1, .int .i64 a0_2, .int .i64 a0_3] 25 ?_; intro gb235 hg w8 hbox hb; have BK235 := AX (hbox); have GW235 := gwl (w := w) hg bw; have GE235 := GW235; replace HB := AX (below_step bw hb); clear hb hbox hg; obtain ⟨hcz9_0, hcz9_1, hcz9_2, hcz9_3⟩ := blkC4 (w := w8) BK235.out; obtain ⟨hfz9_0, hfz9_1, hfz9_2, hfz9_3⟩ := blkF4 BK235.out) | ((with_reducible refine gate_callee (f := 31) rfl ?_); refine gL (some 13) Try.func31 #[.int .i64 2000, .int .i64 a0_1] ?_; (with_reducible refine (pylonref03_Length.calls k 2000 a0_1 t236 t237 _ A3.out).mono ?_); rintro e w' ⟨rfl, ⟨nd, rfl⟩⟩; refine ⟨_, rfl, ?_⟩))
      go_ret
      exact ⟨by first | rfl | (simp [errW_none, errW_some] <;> rfl) | (simp [*, errW_none, errW_some] <;> rfl), bw⟩
     ·rw [if_neg c7] at H
      have c7b0 : (a0_3 == 0) = false := beq_eq_false_iff_ne.mpr c7
      have c7b1 : (a0_3 != 0) = true := bne_iff_ne.mpr c7
      obtain rfl := Option.some.inj H
      go_enter Try.func15, Try.ntmps15
      go_wp2_with (first | ((with_reducible refine gate_dst (N := 1) rfl ?_); refine bx 1 #[.int .i64 a0_0, .int .i64 a0_1, .int .i64 a0_2, .int .i64 a0_3] 25 ?_; intro gb235 hg w10 hbox hb; have BK235 := AX (hbox); have GW235 := gwl (w := w) hg bw; have GE235 := GW235; replace HB := AX (below_step bw hb); clear hb hbox hg; obtain ⟨hcz11_0, hcz11_1, hcz11_2, hcz11_3⟩ := blkC4 (w := w10) BK235.out; obtain ⟨hfz11_0, hfz11_1, hfz11_2, hfz11_3⟩ := blkF4 BK235.out) | ((with_reducible refine gate_callee (f := 31) rfl ?_); refine gL (some 13) Try.func31 #[.int .i64 2000, .int .i64 a0_1] ?_; (with_reducible refine (pylonref03_Length.calls k 2000 a0_1 t236 t237 _ A3.out).mono ?_); rintro e w' ⟨rfl, ⟨nd, rfl⟩⟩; refine ⟨_, rfl, ?_⟩))
      go_ret
      exact ⟨by first | rfl | (simp [errW_none, errW_some] <;> rfl) | (simp [*, errW_none, errW_some] <;> rfl), bw⟩
    ·rw [if_neg c6] at H
     have c6b0 : decide (a0_2 ≤ t236) = false := decide_eq_false c6
     clear c6
     obtain rfl := Option.some.inj H
     go_enter Try.func15, Try.ntmps15
     go_wp2_with (first | ((with_reducible refine gate_dst (N := 1) rfl ?_); refine bx 1 #[.int .i64 a0_0, .int .i64 a0_1, .int .i64 a0_2, .int .i64 a0_3] 25 ?_; intro gb235 hg w12 hbox hb; have BK235 := AX (hbox); have GW235 := gwl (w := w) hg bw; have GE235 := GW235; replace HB := AX (below_step bw hb); clear hb hbox hg; obtain ⟨hcz13_0, hcz13_1, hcz13_2, hcz13_3⟩ := blkC4 (w := w12) BK235.out; obtain ⟨hfz13_0, hfz13_1, hfz13_2, hfz13_3⟩ := blkF4 BK235.out) | ((with_reducible refine gate_callee (f := 31) rfl ?_); refine gL (some 13) Try.func31 #[.int .i64 2000, .int .i64 a0_1] ?_; (with_reducible refine (pylonref03_Length.calls k 2000 a0_1 t236 t237 _ A3.out).mono ?_); rintro e w' ⟨rfl, ⟨nd, rfl⟩⟩; refine ⟨_, rfl, ?_⟩))
     go_ret
     exact ⟨by first | rfl | (simp [errW_none, errW_some] <;> rfl) | (simp [*, errW_none, errW_some] <;> rfl), bw⟩
   ·rw [if_neg c5] at H
    have c5b0 : decide (1 ≤ a0_2) = false := decide_eq_false c5
    clear c5
    obtain rfl := Option.some.inj H
    go_enter Try.func15, Try.ntmps15
    go_wp2_with (first | ((with_reducible refine gate_dst (N := 1) rfl ?_); refine bx 1 #[.int .i64 a0_0, .int .i64 a0_1, .int .i64 a0_2, .int .i64 a0_3] 25 ?_; intro gb235 hg w14 hbox hb; have BK235 := AX (hbox); have GW235 := gwl (w := w) hg bw; have GE235 := GW235; replace HB := AX (below_step bw hb); clear hb hbox hg; obtain ⟨hcz15_0, hcz15_1, hcz15_2, hcz15_3⟩ := blkC4 (w := w14) BK235.out; obtain ⟨hfz15_0, hfz15_1, hfz15_2, hfz15_3⟩ := blkF4 BK235.out) | ((with_reducible refine gate_callee (f := 31) rfl ?_); refine gL (some 13) Try.func31 #[.int .i64 2000, .int .i64 a0_1] ?_; (with_reducible refine (pylonref03_Length.calls k 2000 a0_1 t236 t237 _ A3.out).mono ?_); rintro e w' ⟨rfl, ⟨nd, rfl⟩⟩; refine ⟨_, rfl, ?_⟩))
    go_ret
    exact ⟨by first | rfl | (simp [errW_none, errW_some] <;> rfl) | (simp [*, errW_none, errW_some] <;> rfl), bw⟩
  ·rw [if_neg c4] at H
   have c4b0 : (t237 == 0) = false := beq_eq_false_iff_ne.mpr c4
   have c4b1 : (t237 != 0) = true := bne_iff_ne.mpr c4
   obtain rfl := Option.some.inj H
   go_enter Try.func15, Try.ntmps15
   go_wp2_with (first | ((with_reducible refine gate_dst (N := 1) rfl ?_); refine bx 1 #[.int .i64 a0_0, .int .i64 a0_1, .int .i64 a0_2, .int .i64 a0_3] 25 ?_; intro gb235 hg w16 hbox hb; have BK235 := AX (hbox); have GW235 := gwl (w := w) hg bw; have GE235 := GW235; replace HB := AX (below_step bw hb); clear hb hbox hg; obtain ⟨hcz17_0, hcz17_1, hcz17_2, hcz17_3⟩ := blkC4 (w := w16) BK235.out; obtain ⟨hfz17_0, hfz17_1, hfz17_2, hfz17_3⟩ := blkF4 BK235.out) | ((with_reducible refine gate_callee (f := 31) rfl ?_); refine gL (some 13) Try.func31 #[.int .i64 2000, .int .i64 a0_1] ?_; (with_reducible refine (pylonref03_Length.calls k 2000 a0_1 t236 t237 _ A3.out).mono ?_); rintro e w' ⟨rfl, ⟨nd, rfl⟩⟩; refine ⟨_, rfl, ?_⟩))
   go_ret
   exact ⟨by first | rfl | (simp [errW_none, errW_some] <;> rfl) | (simp [*, errW_none, errW_some] <;> rfl), bw⟩
 ·rw [if_neg c2] at H
  have c2b0 : (a0_0 == 1) = false := beq_eq_false_iff_ne.mpr c2
  have c2b1 : (a0_0 != 1) = true := bne_iff_ne.mpr c2
  by_cases c18 : a0_0 = 2
  ·rw [if_pos c18] at H
   have c18b0 : (a0_0 == 2) = true := beq_iff_eq.mpr c18
   have c18b1 : (a0_0 != 2) = false := bne_eq_false_iff_eq.mpr c18
   clear c18
   by_cases c19 : a0_1 ≥ 1
   ·rw [if_pos c19] at H
    have c19b0 : decide (1 ≤ a0_1) = true := decide_eq_true c19
    clear c19
    by_cases c20 : a0_1 ≤ 12
    ·rw [if_pos c20] at H
     have c20b0 : decide (a0_1 ≤ 12) = true := decide_eq_true c20
     clear c20
     by_cases c21 : a0_2 ≥ 1
     ·rw [if_pos c21] at H
      have c21b0 : decide (1 ≤ a0_2) = true := decide_eq_true c21
      clear c21
      by_cases c22 : a0_2 ≤ 5
      ·rw [if_pos c22] at H
       have c22b0 : decide (a0_2 ≤ 5) = true := decide_eq_true c22
       clear c22
       by_cases c23 : a0_3 ≥ 0
       ·rw [if_pos c23] at H
        have c23b0 : decide (0 ≤ a0_3) = true := decide_eq_true c23
        clear c23
        by_cases c24 : a0_3 ≤ 6
        ·rw [if_pos c24] at H
         have c24b0 : decide (a0_3 ≤ 6) = true := decide_eq_true c24
         clear c24
         obtain rfl := Option.some.inj H
         go_enter Try.func15, Try.ntmps15
         go_wp2_with (first | ((with_reducible refine gate_dst (N := 1) rfl ?_); refine bx 1 #[.int .i64 a0_0, .int .i64 a0_1, .int .i64 a0_2, .int .i64 a0_3] 25 ?_; intro gb235 hg w25 hbox hb; have BK235 := AX (hbox); have GW235 := gwl (w := w) hg bw; have GE235 := GW235; replace HB := AX (below_step bw hb); clear hb hbox hg; obtain ⟨hcz26_0, hcz26_1, hcz26_2, hcz26_3⟩ := blkC4 (w := w25) BK235.out; obtain ⟨hfz26_0, hfz26_1, hfz26_2, hfz26_3⟩ := blkF4 BK235.out))
         go_ret
         exact ⟨by first | rfl | (simp [errW_none, errW_some] <;> rfl) | (simp [*, errW_none, errW_some] <;> rfl), bw⟩
        ·rw [if_neg c24] at H
         have c24b0 : decide (a0_3 ≤ 6) = false := decide_eq_false c24
         clear c24
         obtain rfl := Option.some.inj H
         go_enter Try.func15, Try.ntmps15
         go_wp2_with (first | ((with_reducible refine gate_dst (N := 1) rfl ?_); refine bx 1 #[.int .i64 a0_0, .int .i64 a0_1, .int .i64 a0_2, .int .i64 a0_3] 25 ?_; intro gb235 hg w27 hbox hb; have BK235 := AX (hbox); have GW235 := gwl (w := w) hg bw; have GE235 := GW235; replace HB := AX (below_step bw hb); clear hb hbox hg; obtain ⟨hcz28_0, hcz28_1, hcz28_2, hcz28_3⟩ := blkC4 (w := w27) BK235.out; obtain ⟨hfz28_0, hfz28_1, hfz28_2, hfz28_3⟩ := blkF4 BK235.out))
         go_ret
         exact ⟨by first | rfl | (simp [errW_none, errW_some] <;> rfl) | (simp [*, errW_none, errW_some] <;> rfl), bw⟩
       ·rw [if_neg c23] at H
        have c23b0 : decide (0 ≤ a0_3) = false := decide_eq_false c23
        clear c23
        obtain rfl := Option.some.inj H
        go_enter Try.func15, Try.ntmps15
        go_wp2_with (first | ((with_reducible refine gate_dst (N := 1) rfl ?_); refine bx 1 #[.int .i64 a0_0, .int .i64 a0_1, .int .i64 a0_2, .int .i64 a0_3] 25 ?_; intro gb235 hg w29 hbox hb; have BK235 := AX (hbox); have GW235 := gwl (w := w) hg bw; have GE235 := GW235; replace HB := AX (below_step bw hb); clear hb hbox hg; obtain ⟨hcz30_0, hcz30_1, hcz30_2, hcz30_3⟩ := blkC4 (w := w29) BK235.out; obtain ⟨hfz30_0, hfz30_1, hfz30_2, hfz30_3⟩ := blkF4 BK235.out))
        go_ret
        exact ⟨by first | rfl | (simp [errW_none, errW_some] <;> rfl) | (simp [*, errW_none, errW_some] <;> rfl), bw⟩
      ·rw [if_neg c22] at H
       have c22b0 : decide (a0_2 ≤ 5) = false := decide_eq_false c22
       clear c22
       obtain rfl := Option.some.inj H
       go_enter Try.func15, Try.ntmps15
       go_wp2_with (first | ((with_reducible refine gate_dst (N := 1) rfl ?_); refine bx 1 #[.int .i64 a0_0, .int .i64 a0_1, .int .i64 a0_2, .int .i64 a0_3] 25 ?_; intro gb235 hg w31 hbox hb; have BK235 := AX (hbox); have GW235 := gwl (w := w) hg bw; have GE235 := GW235; replace HB := AX (below_step bw hb); clear hb hbox hg; obtain ⟨hcz32_0, hcz32_1, hcz32_2, hcz32_3⟩ := blkC4 (w := w31) BK235.out; obtain ⟨hfz32_0, hfz32_1, hfz32_2, hfz32_3⟩ := blkF4 BK235.out))
       go_ret
       exact ⟨by first | rfl | (simp [errW_none, errW_some] <;> rfl) | (simp [*, errW_none, errW_some] <;> rfl), bw⟩
     ·rw [if_neg c21] at H
      have c21b0 : decide (1 ≤ a0_2) = false := decide_eq_false c21
      clear c21
      obtain rfl := Option.some.inj H
      go_enter Try.func15, Try.ntmps15
      go_wp2_with (first | ((with_reducible refine gate_dst (N := 1) rfl ?_); refine bx 1 #[.int .i64 a0_0, .int .i64 a0_1, .int .i64 a0_2, .int .i64 a0_3] 25 ?_; intro gb235 hg w33 hbox hb; have BK235 := AX (hbox); have GW235 := gwl (w := w) hg bw; have GE235 := GW235; replace HB := AX (below_step bw hb); clear hb hbox hg; obtain ⟨hcz34_0, hcz34_1, hcz34_2, hcz34_3⟩ := blkC4 (w := w33) BK235.out; obtain ⟨hfz34_0, hfz34_1, hfz34_2, hfz34_3⟩ := blkF4 BK235.out))
      go_ret
      exact ⟨by first | rfl | (simp [errW_none, errW_some] <;> rfl) | (simp [*, errW_none, errW_some] <;> rfl), bw⟩
    ·rw [if_neg c20] at H
     have c20b0 : decide (a0_1 ≤ 12) = false := decide_eq_false c20
     clear c20
     obtain rfl := Option.some.inj H
     go_enter Try.func15, Try.ntmps15
     go_wp2_with (first | ((with_reducible refine gate_dst (N := 1) rfl ?_); refine bx 1 #[.int .i64 a0_0, .int .i64 a0_1, .int .i64 a0_2, .int .i64 a0_3] 25 ?_; intro gb235 hg w35 hbox hb; have BK235 := AX (hbox); have GW235 := gwl (w := w) hg bw; have GE235 := GW235; replace HB := AX (below_step bw hb); clear hb hbox hg; obtain ⟨hcz36_0, hcz36_1, hcz36_2, hcz36_3⟩ := blkC4 (w := w35) BK235.out; obtain ⟨hfz36_0, hfz36_1, hfz36_2, hfz36_3⟩ := blkF4 BK235.out))
     go_ret
     exact ⟨by first | rfl | (simp [errW_none, errW_some] <;> rfl) | (simp [*, errW_none, errW_some] <;> rfl), bw⟩
   ·rw [if_neg c19] at H
    have c19b0 : decide (1 ≤ a0_1) = false := decide_eq_false c19
    clear c19
    obtain rfl := Option.some.inj H
    go_enter Try.func15, Try.ntmps15
    go_wp2_with (first | ((with_reducible refine gate_dst (N := 1) rfl ?_); refine bx 1 #[.int .i64 a0_0, .int .i64 a0_1, .int .i64 a0_2, .int .i64 a0_3] 25 ?_; intro gb235 hg w37 hbox hb; have BK235 := AX (hbox); have GW235 := gwl (w := w) hg bw; have GE235 := GW235; replace HB := AX (below_step bw hb); clear hb hbox hg; obtain ⟨hcz38_0, hcz38_1, hcz38_2, hcz38_3⟩ := blkC4 (w := w37) BK235.out; obtain ⟨hfz38_0, hfz38_1, hfz38_2, hfz38_3⟩ := blkF4 BK235.out))
    go_ret
    exact ⟨by first | rfl | (simp [errW_none, errW_some] <;> rfl) | (simp [*, errW_none, errW_some] <;> rfl), bw⟩
  ·rw [if_neg c18] at H
   have c18b0 : (a0_0 == 2) = false := beq_eq_false_iff_ne.mpr c18
   have c18b1 : (a0_0 != 2) = true := bne_iff_ne.mpr c18
   by_cases c39 : a0_0 = 3
   ·rw [if_pos c39] at H
    have c39b0 : (a0_0 == 3) = true := beq_iff_eq.mpr c39
    have c39b1 : (a0_0 != 3) = false := bne_eq_false_iff_eq.mpr c39
    clear c39
    by_cases c40 : a0_1 ≥ (-100)
    ·rw [if_pos c40] at H
     have c40b0 : decide ((-100) ≤ a0_1) = true := decide_eq_true c40
     clear c40
     by_cases c41 : a0_1 ≤ 100
     ·rw [if_pos c41] at H
      have c41b0 : decide (a0_1 ≤ 100) = true := decide_eq_true c41
      clear c41
      by_cases c42 : a0_2 = 0
      ·rw [if_pos c42] at H
       have c42b0 : (a0_2 == 0) = true := beq_iff_eq.mpr c42
       have c42b1 : (a0_2 != 0) = false := bne_eq_false_iff_eq.mpr c42
       clear c42
       by_cases c43 : a0_3 = 0
       ·rw [if_pos c43] at H
        have c43b0 : (a0_3 == 0) = true := beq_iff_eq.mpr c43
        have c43b1 : (a0_3 != 0) = false := bne_eq_false_iff_eq.mpr c43
        clear c43
        obtain rfl := Option.some.inj H
        go_enter Try.func15, Try.ntmps15
        go_wp2_with (first | ((with_reducible refine gate_dst (N := 1) rfl ?_); refine bx 1 #[.int .i64 a0_0, .int .i64 a0_1, .int .i64 a0_2, .int .i64 a0_3] 25 ?_; intro gb235 hg w44 hbox hb; have BK235 := AX (hbox); have GW235 := gwl (w := w) hg bw; have GE235 := GW235; replace HB := AX (below_step bw hb); clear hb hbox hg; obtain ⟨hcz45_0, hcz45_1, hcz45_2, hcz45_3⟩ := blkC4 (w := w44) BK235.out; obtain ⟨hfz45_0, hfz45_1, hfz45_2, hfz45_3⟩ := blkF4 BK235.out))
        go_ret
        exact ⟨by first | rfl | (simp [errW_none, errW_some] <;> rfl) | (simp [*, errW_none, errW_some] <;> rfl), bw⟩
       ·rw [if_neg c43] at H
        have c43b0 : (a0_3 == 0) = false := beq_eq_false_iff_ne.mpr c43
        have c43b1 : (a0_3 != 0) = true := bne_iff_ne.mpr c43
        obtain rfl := Option.some.inj H
        go_enter Try.func15, Try.ntmps15
        go_wp2_with (first | ((with_reducible refine gate_dst (N := 1) rfl ?_); refine bx 1 #[.int .i64 a0_0, .int .i64 a0_1, .int .i64 a0_2, .int .i64 a0_3] 25 ?_; intro gb235 hg w46 hbox hb; have BK235 := AX (hbox); have GW235 := gwl (w := w) hg bw; have GE235 := GW235; replace HB := AX (below_step bw hb); clear hb hbox hg; obtain ⟨hcz47_0, hcz47_1, hcz47_2, hcz47_3⟩ := blkC4 (w := w46) BK235.out; obtain ⟨hfz47_0, hfz47_1, hfz47_2, hfz47_3⟩ := blkF4 BK235.out))
        go_ret
        exact ⟨by first | rfl | (simp [errW_none, errW_some] <;> rfl) | (simp [*, errW_none, errW_some] <;> rfl), bw⟩
      ·rw [if_neg c42] at H
       have c42b0 : (a0_2 == 0) = false := beq_eq_false_iff_ne.mpr c42
       have c42b1 : (a0_2 != 0) = true := bne_iff_ne.mpr c42
       obtain rfl := Option.some.inj H
       go_enter Try.func15, Try.ntmps15
       go_wp2_with (first | ((with_reducible refine gate_dst (N := 1) rfl ?_); refine bx 1 #[.int .i64 a0_0, .int .i64 a0_1, .int .i64 a0_2, .int .i64 a0_3] 25 ?_; intro gb235 hg w48 hbox hb; have BK235 := AX (hbox); have GW235 := gwl (w := w) hg bw; have GE235 := GW235; replace HB := AX (below_step bw hb); clear hb hbox hg; obtain ⟨hcz49_0, hcz49_1, hcz49_2, hcz49_3⟩ := blkC4 (w := w48) BK235.out; obtain ⟨hfz49_0, hfz49_1, hfz49_2, hfz49_3⟩ := blkF4 BK235.out))
       go_ret
       exact ⟨by first | rfl | (simp [errW_none, errW_some] <;> rfl) | (simp [*, errW_none, errW_some] <;> rfl), bw⟩
     ·rw [if_neg c41] at H
      have c41b0 : decide (a0_1 ≤ 100) = false := decide_eq_false c41
      clear c41
      obtain rfl := Option.some.inj H
      go_enter Try.func15, Try.ntmps15
      go_wp2_with (first | ((with_reducible refine gate_dst (N := 1) rfl ?_); refine bx 1 #[.int .i64 a0_0, .int .i64 a0_1, .int .i64 a0_2, .int .i64 a0_3] 25 ?_; intro gb235 hg w50 hbox hb; have BK235 := AX (hbox); have GW235 := gwl (w := w) hg bw; have GE235 := GW235; replace HB := AX (below_step bw hb); clear hb hbox hg; obtain ⟨hcz51_0, hcz51_1, hcz51_2, hcz51_3⟩ := blkC4 (w := w50) BK235.out; obtain ⟨hfz51_0, hfz51_1, hfz51_2, hfz51_3⟩ := blkF4 BK235.out))
      go_ret
      exact ⟨by first | rfl | (simp [errW_none, errW_some] <;> rfl) | (simp [*, errW_none, errW_some] <;> rfl), bw⟩
    ·rw [if_neg c40] at H
     have c40b0 : decide ((-100) ≤ a0_1) = false := decide_eq_false c40
     clear c40
     obtain rfl := Option.some.inj H
     go_enter Try.func15, Try.ntmps15
     go_wp2_with (first | ((with_reducible refine gate_dst (N := 1) rfl ?_); refine bx 1 #[.int .i64 a0_0, .int .i64 a0_1, .int .i64 a0_2, .int .i64 a0_3] 25 ?_; intro gb235 hg w52 hbox hb; have BK235 := AX (hbox); have GW235 := gwl (w := w) hg bw; have GE235 := GW235; replace HB := AX (below_step bw hb); clear hb hbox hg; obtain ⟨hcz53_0, hcz53_1, hcz53_2, hcz53_3⟩ := blkC4 (w := w52) BK235.out; obtain ⟨hfz53_0, hfz53_1, hfz53_2, hfz53_3⟩ := blkF4 BK235.out))
     go_ret
     exact ⟨by first | rfl | (simp [errW_none, errW_some] <;> rfl) | (simp [*, errW_none, errW_some] <;> rfl), bw⟩
   ·rw [if_neg c39] at H
    have c39b0 : (a0_0 == 3) = false := beq_eq_false_iff_ne.mpr c39
    have c39b1 : (a0_0 != 3) = true := bne_iff_ne.mpr c39
    obtain rfl := Option.some.inj H
    go_enter Try.func15, Try.ntmps15
    go_wp2_with (first | ((with_reducible refine gate_dst (N := 1) rfl ?_); refine bx 1 #[.int .i64 a0_0, .int .i64 a0_1, .int .i64 a0_2, .int .i64 a0_3] 25 ?_; intro gb235 hg w54 hbox hb; have BK235 := AX (hbox); have GW235 := gwl (w := w) hg bw; have GE235 := GW235; replace HB := AX (below_step bw hb); clear hb hbox hg; obtain ⟨hcz55_0, hcz55_1, hcz55_2, hcz55_3⟩ := blkC4 (w := w54) BK235.out; obtain ⟨hfz55_0, hfz55_1, hfz55_2, hfz55_3⟩ := blkF4 BK235.out))
    go_ret
    exact ⟨by first | rfl | (simp [errW_none, errW_some] <;> rfl) | (simp [*, errW_none, errW_some] <;> rfl), bw⟩

/-! ### pylonref05_all: function 35 -/
def pylonref05_all.l0 : Nat → List (S25) → Int → Int → Option (Bool)
 | 0, _, _, _ => none
 | k + 1, x0, x5, x6 => if x6 < x5 then (if 0 ≤ x6 then (if x6 < (x0.length : Int) then ((pylonref05_Check.f k ((rd_T25 x0 x6).f0) ((rd_T25 x0 x6).f1) ((rd_T25 x0 x6).f2) ((rd_T25 x0 x6).f3)).bind fun t239 => (if t239 = 0 then (pylonref05_all.l0 k x0 x5 (wrap64 (x6 + 1))) else (some false))) else (none)) else (none)) else (some true)
def pylonref05_all.f (k : Nat) (l0 : List (S25)) : Option (Bool) := pylonref05_all.l0 k l0 (l0.length : Int) 0
theorem pylonref05_all.mono_l : ∀ k, (∀ y0 y1 y2, LeO (pylonref05_all.l0 k y0 y1 y2) (pylonref05_all.l0 (k + 1) y0 y1 y2))
 | 0 => fun _ _ _ r h => by simp [pylonref05_all.l0] at h
 | k + 1 => by
  have ih0 := pylonref05_all.mono_l k
  ·intro y0 y1 y2
   unfold pylonref05_all.l0
   repeat' first
   | (with_reducible exact ih0 _ _ _)
   | (with_reducible exact pylonref05_Check.mono _ _ _ _ _)
   | (with_reducible exact LeO.refl _)
   | (with_reducible exact LeO.none _)
   | (with_reducible refine LeO.ite ?_ ?_)
   | (with_reducible refine LeO.bind ?_ (fun _ => ?_))
theorem pylonref05_all.mono : ∀ a0 k, LeO (pylonref05_all.f k a0) (pylonref05_all.f (k + 1) a0) := by
 intro a0 k
 have ih0 := pylonref05_all.mono_l k
 unfold pylonref05_all.f
 repeat' first
   | (with_reducible exact ih0 _ _ _)
   | (with_reducible exact pylonref05_Check.mono _ _ _ _ _)
   | (with_reducible exact LeO.refl _)
   | (with_reducible exact LeO.none _)
   | (with_reducible refine LeO.ite ?_ ?_)
   | (with_reducible refine LeO.bind ?_ (fun _ => ?_))
set_option maxHeartbeats 8000000 in
set_option maxRecDepth 100000 in
theorem pylonref05_all.calls (k : Nat) (A0 : Option Addr) (c0 : Nat) (l0 : List (S25)) (r : Bool) (w : World) (hr0 : Kd.C k25 w A0 l0.length l0) (hc0 : l0.length ≤ c0) (h : pylonref05_all.f k l0 = some r) :
  Calls Try.prog 35 #[.slice A0 l0.length c0] w fun e w' => e = .returned (.bool r) ∧ Below w.heap.size w w' := by
 have hu25 := Try.underlying25
 have HR0 := AX hr0
 have HC0 := AX hc0
 clear hr0 hc0
 have HB := AX (Below.refl w.heap.size w)
 have H : (pylonref05_all.l0 k l0 (l0.length : Int) 0) = some r := h
 clear h
 have H' := AX H
 clear H
 go_enter Try.func35, Try.ntmps35
 go_wp2
 go_loopg [6] k (fun kq v6 w' => ∃ (x6_1 : Int), v6 = .int .i64 x6_1 ∧ Aside0 (pylonref05_all.l0 kq l0 (l0.length : Int) x6_1 = some r) ∧ Aside0 (kq ≤ k) ∧ Aside0 (Below w.heap.size w w'))
 case atStart => exact ⟨(0), (by first | rfl | (simp; done) | (simp [*]; done)), H', ⟨Nat.le_refl _⟩, ⟨bw⟩⟩
 case round =>
  clear H'
  obtain ⟨x6_1, rfl, HA, HK1, HB⟩ := hrel
  cases gk with
  | zero => exact absurd HA.out (by simp [pylonref05_all.l0])
  | succ k1 =>
   have H := HA.out
   clear HA
   simp only [pylonref05_all.l0] at H
   by_cases c2 : x6_1 < (l0.length : Int)
   ·rw [if_pos c2] at H
    have c2b0 : decide (x6_1 < (l0.length : Int)) = true := decide_eq_true c2
    clear c2
    by_cases c3 : 0 ≤ x6_1
    ·rw [if_pos c3] at H
     have c3b0 : decide (0 ≤ x6_1) = true := decide_eq_true c3
     clear c3
     by_cases c4 : x6_1 < (l0.length : Int)
     ·rw [if_pos c4] at H
      have c4b0 : decide (x6_1 < (l0.length : Int)) = true := decide_eq_true c4
      clear c4
      replace H := Option.bind_eq_some_iff.mp H
      obtain ⟨t239, A50, H⟩ := H
      replace H : (if t239 = 0 then (pylonref05_all.l0 k1 l0 (l0.length : Int) (wrap64 (x6_1 + 1))) else (some false)) = some r := H
      have A5 := AX A50
      clear A50
      by_cases c6 : t239 = 0
      ·rw [if_pos c6] at H
       have c6b0 : (t239 == 0) = true := beq_iff_eq.mpr c6
       have c6b1 : (t239 != 0) = false := bne_eq_false_iff_eq.mpr c6
       clear c6
       have H' := AX H
       clear H
       have p238 : 0 ≤ (x6_1 : Int) := of_decide_eq_true (by first | (with_reducible assumption) | assumption)
       have q238 : x6_1 < (l0.length : Int) := of_decide_eq_true (by first | (with_reducible assumption) | assumption)
       obtain ⟨ad238, e238, hx238_0, hx238_1, hx238_2, hx238_3⟩ := at_T25 HR0.out x6_1 p238 q238
       cases e238
       replace hx238_0 := bcl HB hx238_0
       replace hx238_1 := bcl HB hx238_1
       replace hx238_2 := bcl HB hx238_2
       replace hx238_3 := bcl HB hx238_3
       replace p238 := eq_true p238
       replace q238 := eq_true q238
       go_wp2_with (first | ((with_reducible refine gate_callee (f := 15) rfl ?_); refine gL (some 13) Try.func15 #[.agg #[.int .i64 ((rd_T25 l0 x6_1).f0), .int .i64 ((rd_T25 l0 x6_1).f1), .int .i64 ((rd_T25 l0 x6_1).f2), .int .i64 ((rd_T25 l0 x6_1).f3)]] ?_; (with_reducible refine (pylonref05_Check.calls k1 ((rd_T25 l0 x6_1).f0) ((rd_T25 l0 x6_1).f1) ((rd_T25 l0 x6_1).f2) ((rd_T25 l0 x6_1).f3) t239 _ A5.out).mono ?_); rintro e w7 ⟨rfl, hb⟩; refine ⟨_, rfl, ?_⟩; replace HB := AX (below_step bw hb); (try clear hb)))
       go_roundg k1
       case measure => have := HK1.out; omega
       case rel => exact ⟨(wrap64 (x6_1 + 1)), (by first | rfl | (simp; done) | (simp [*]; done)), H', ⟨by have := HK1.out; omega⟩, ⟨bw⟩⟩
      ·rw [if_neg c6] at H
       have c6b0 : (t239 == 0) = false := beq_eq_false_iff_ne.mpr c6
       have c6b1 : (t239 != 0) = true := bne_iff_ne.mpr c6
       obtain rfl := Option.some.inj H
       have p238 : 0 ≤ (x6_1 : Int) := of_decide_eq_true (by first | (with_reducible assumption) | assumption)
       have q238 : x6_1 < (l0.length : Int) := of_decide_eq_true (by first | (with_reducible assumption) | assumption)
       obtain ⟨ad238, e238, hx238_0, hx238_1, hx238_2, hx238_3⟩ := at_T25 HR0.out x6_1 p238 q238
       cases e238
       replace hx238_0 := bcl HB hx238_0
       replace hx238_1 := bcl HB hx238_1
       replace hx238_2 := bcl HB hx238_2
       replace hx238_3 := bcl HB hx238_3
       replace p238 := eq_true p238
       replace q238 := eq_true q238
       go_wp2_with (first | ((with_reducible refine gate_callee (f := 15) rfl ?_); refine gL (some 13) Try.func15 #[.agg #[.int .i64 ((rd_T25 l0 x6_1).f0), .int .i64 ((rd_T25 l0 x6_1).f1), .int .i64 ((rd_T25 l0 x6_1).f2), .int .i64 ((rd_T25 l0 x6_1).f3)]] ?_; (with_reducible refine (pylonref05_Check.calls k1 ((rd_T25 l0 x6_1).f0) ((rd_T25 l0 x6_1).f1) ((rd_T25 l0 x6_1).f2) ((rd_T25 l0 x6_1).f3) t239 _ A5.out).mono ?_); rintro e w8 ⟨rfl, hb⟩; refine ⟨_, rfl, ?_⟩; replace HB := AX (below_step bw hb); (try clear hb)))
       go_ret
       exact ⟨by first | rfl | (simp [errW_none, errW_some] <;> rfl) | (simp [*, errW_none, errW_some] <;> rfl), bw⟩
     ·rw [if_neg c4] at H
      exact absurd H (by simp)
    ·rw [if_neg c3] at H
     exact absurd H (by simp)
   ·rw [if_neg c2] at H
    have c2b0 : decide (x6_1 < (l0.length : Int)) = false := decide_eq_false c2
    clear c2
    obtain rfl := Option.some.inj H
    go_wp2
    go_ret
    exact ⟨by first | rfl | (simp [errW_none, errW_some] <;> rfl) | (simp [*, errW_none, errW_some] <;> rfl), bw⟩

/-! ### pylonref05_Easter: function 28 -/
def pylonref05_Easter.f (a0 : Int) : Option (Int × Int × Int × Int) := if 1 ≤ a0 ∧ a0 ≤ 9999 then some (a0, Civ.eNum a0 / 31, Civ.eNum a0 % 31 + 1, 0) else some (0, 0, 0, 5)
theorem pylonref05_Easter.out (y : Int) (w : World) (h : y < 1 ∨ 9999 < y) :
    Calls Try.prog 28 #[.int .i64 y] w fun e w' => e = .returned (.tuple #[.agg #[.int .i64 0, .int .i64 0, .int .i64 0], .int .i64 5]) ∧ Below w.heap.size w w' := by
  by_cases h1 : y < 1
  · clear h
    go_enter Try.func28, Try.ntmps28
    go_wp2
    exact bodyPost_ret (v := .tuple #[.agg #[.int .i64 0, .int .i64 0, .int .i64 0], .int .i64 5]) (by simp [results, Try.results28, go_sem]) rfl ⟨rfl, by repeat (first | exact Below.refl _ _ | apply below_alloc)⟩
  · have h2 : 9999 < y := by omega
    clear h
    go_enter Try.func28, Try.ntmps28
    go_wp2
    exact bodyPost_ret (v := .tuple #[.agg #[.int .i64 0, .int .i64 0, .int .i64 0], .int .i64 5]) (by simp [results, Try.results28, go_sem]) rfl ⟨rfl, by repeat (first | exact Below.refl _ _ | apply below_alloc)⟩
set_option maxRecDepth 100000 in
theorem pylonref05_Easter.inn (y : Int) (w : World) (h1 : 1 ≤ y) (h2 : y ≤ 9999) :
    Calls Try.prog 28 #[.int .i64 y] w fun e w' => e = .returned (.tuple #[.agg #[.int .i64 y, .int .i64 (Civ.eNum y / 31), .int .i64 (Civ.eNum y % 31 + 1)], .int .i64 0]) ∧ Below w.heap.size w w' := by
  obtain ⟨⟨g1, g2⟩, ⟨g3, g4⟩, ⟨g5, g6⟩, ⟨g7, g8⟩, ⟨g9, g10⟩, ⟨g11, g12⟩⟩ := Civ.e_bd h1 h2
  obtain ⟨n1, n2, -, -⟩ := Civ.easter_at h1 h2
  go_enter Try.func28, Try.ntmps28
  go_upto_region 3 with (fail)
  go_cut [4, 5, 6] (fun v4 v5 v6 wc => v4 = .int .i64 (Civ.eGold y) ∧ v5 = .int .i64 (Civ.eCent y) ∧ v6 = .int .i64 (Civ.eOf y) ∧ wc = w.alloc (.cells #[.int .i64 0, .int .i64 0, .int .i64 0] 33))
  case first =>
    go_wp2
    go_meet
    case rel => exact ⟨rfl, rfl, rfl, rfl⟩
  case rest =>
   obtain ⟨rfl, rfl, rfl, rfl⟩ := hcut
   go_upto_region 4 with (fail)
   go_cut [7, 8] (fun v7 v8 wc => v7 = .int .i64 (Civ.eCent y / 4) ∧ v8 = .int .i64 (Civ.eCent y % 4) ∧ wc = w.alloc (.cells #[.int .i64 0, .int .i64 0, .int .i64 0] 33))
   case first =>
     go_wp2
     go_meet
     case rel => exact ⟨rfl, rfl, rfl⟩
   case rest =>
    obtain ⟨rfl, rfl, rfl⟩ := hcut
    go_upto_region 5 with (fail)
    go_cut [9] (fun v9 wc => v9 = .int .i64 ((Civ.eCent y + 8) / 25) ∧ wc = w.alloc (.cells #[.int .i64 0, .int .i64 0, .int .i64 0] 33))
    case first =>
      go_wp2
      go_meet
      case rel => exact ⟨rfl, rfl⟩
    case rest =>
     obtain ⟨rfl, rfl⟩ := hcut
     go_upto_region 6 with (fail)
     go_cut [10] (fun v10 wc => v10 = .int .i64 (Civ.eLeaps y) ∧ wc = w.alloc (.cells #[.int .i64 0, .int .i64 0, .int .i64 0] 33))
     case first =>
       go_wp2
       go_meet
       case rel => exact ⟨rfl, rfl⟩
     case rest =>
      obtain ⟨rfl, rfl⟩ := hcut
      go_upto_region 7 with (fail)
      go_cut [11] (fun v11 wc => v11 = .int .i64 (Civ.eMoon y) ∧ wc = w.alloc (.cells #[.int .i64 0, .int .i64 0, .int .i64 0] 33))
      case first =>
        go_wp2
        go_meet
        case rel => exact ⟨rfl, rfl⟩
      case rest =>
       obtain ⟨rfl, rfl⟩ := hcut
       go_upto_region 8 with (fail)
       go_cut [12, 13] (fun v12 v13 wc => v12 = .int .i64 (Civ.eOf y / 4) ∧ v13 = .int .i64 (Civ.eOf y % 4) ∧ wc = w.alloc (.cells #[.int .i64 0, .int .i64 0, .int .i64 0] 33))
       case first =>
         go_wp2
         go_meet
         case rel => exact ⟨rfl, rfl, rfl⟩
       case rest =>
        obtain ⟨rfl, rfl, rfl⟩ := hcut
        go_upto_region 9 with (fail)
        go_cut [14] (fun v14 wc => v14 = .int .i64 (Civ.eSun y) ∧ wc = w.alloc (.cells #[.int .i64 0, .int .i64 0, .int .i64 0] 33))
        case first =>
          go_wp2
          go_meet
          case rel => exact ⟨rfl, rfl⟩
        case rest =>
         obtain ⟨rfl, rfl⟩ := hcut
         go_upto_region 10 with (fail)
         go_cut [15] (fun v15 wc => v15 = .int .i64 ((Civ.eGold y + 11 * Civ.eMoon y + 22 * Civ.eSun y) / 451) ∧ wc = w.alloc (.cells #[.int .i64 0, .int .i64 0, .int .i64 0] 33))
         case first =>
           go_wp2
           go_meet
           case rel => exact ⟨rfl, rfl⟩
         case rest =>
          obtain ⟨rfl, rfl⟩ := hcut
          go_upto_region 11 with (fail)
          go_cut [16] (fun v16 wc => v16 = .int .i64 (Civ.eNum y) ∧ wc = w.alloc (.cells #[.int .i64 0, .int .i64 0, .int .i64 0] 33))
          case first =>
            go_wp2
            go_meet
            case rel => exact ⟨rfl, rfl⟩
          case rest =>
           obtain ⟨rfl, rfl⟩ := hcut
           go_wp2
           exact bodyPost_ret (v := .tuple #[.agg #[.int .i64 y, .int .i64 (Civ.eNum y / 31), .int .i64 (Civ.eNum y % 31 + 1)], .int .i64 0]) (by simp [results, Try.results28, go_sem]) rfl ⟨rfl, by repeat (first | exact Below.refl _ _ | apply below_alloc)⟩
theorem pylonref05_Easter.calls (a0 : Int) (r1 : Int) (r2 : Int) (r3 : Int) (r4 : Int) (w : World) (h : pylonref05_Easter.f a0 = some (r1, r2, r3, r4)) :
    Calls Try.prog 28 #[.int .i64 a0] w fun e w' => e = .returned (.tuple #[.agg #[.int .i64 r1, .int .i64 r2, .int .i64 r3], .int .i64 r4]) ∧ Below w.heap.size w w' := by
  unfold pylonref05_Easter.f at h
  by_cases c : 1 ≤ a0 ∧ a0 ≤ 9999
  · rw [if_pos c] at h
    simp only [Option.some.injEq, Prod.mk.injEq] at h
    obtain ⟨rfl, rfl, rfl, rfl⟩ := h
    exact pylonref05_Easter.inn a0 w c.1 c.2
  · rw [if_neg c] at h
    simp only [Option.some.injEq, Prod.mk.injEq] at h
    obtain ⟨rfl, rfl, rfl, rfl⟩ := h
    exact pylonref05_Easter.out a0 w (by omega)

/-! ### pylonref03_Is: function 45 -/
def pylonref03_Is.f (k : Nat) (a0_0 : Int) (a0_1 : Int) (a0_2 : Int) : Option (Bool) := (pylonref03_Length.f k a0_0 a0_1).bind fun bt241 => (if bt241.2 = 0 then (if a0_2 ≥ 1 then (some (decide (a0_2 ≤ bt241.1))) else (some false)) else (some false))
theorem pylonref03_Is.mono : ∀ a0 a1 a2 k, LeO (pylonref03_Is.f k a0 a1 a2) (pylonref03_Is.f (k + 1) a0 a1 a2) := by
 intro a0 a1 a2 k
 unfold pylonref03_Is.f
 repeat' first
   | (with_reducible exact pylonref03_Length.mono _ _ _)
   | (with_reducible exact LeO.refl _)
   | (with_reducible exact LeO.none _)
   | (with_reducible refine LeO.ite ?_ ?_)
   | (with_reducible refine LeO.bind ?_ (fun _ => ?_))
set_option maxHeartbeats 8000000 in
set_option maxRecDepth 100000 in
theorem pylonref03_Is.calls (k : Nat) (a0_0 : Int) (a0_1 : Int) (a0_2 : Int) (r : Bool) (w : World) (h : pylonref03_Is.f k a0_0 a0_1 a0_2 = some r) :
  Calls Try.prog 45 #[.agg #[.int .i64 a0_0, .int .i64 a0_1, .int .i64 a0_2]] w fun e w' => e = .returned (.bool r) ∧ Below w.heap.size w w' := by
 have hu33 := Try.underlying33
 have HB := AX (Below.refl w.heap.size w)
 have H : ((pylonref03_Length.f k a0_0 a0_1).bind fun bt241 => (if bt241.2 = 0 then (if a0_2 ≥ 1 then (some (decide (a0_2 ≤ bt241.1))) else (some false)) else (some false))) = some r := h
 clear h
 replace H := Option.bind_eq_some_iff.mp H
 obtain ⟨⟨t241, t242⟩, A20, H⟩ := H
 replace H : (if t242 = 0 then (if a0_2 ≥ 1 then (some (decide (a0_2 ≤ t241))) else (some false)) else (some false)) = some r := H
 have A2 := AX A20
 clear A20
 by_cases c3 : t242 = 0
 ·rw [if_pos c3] at H
  have c3b0 : (t242 == 0) = true := beq_iff_eq.mpr c3
  have c3b1 : (t242 != 0) = false := bne_eq_false_iff_eq.mpr c3
  clear c3
  by_cases c4 : a0_2 ≥ 1
  ·rw [if_pos c4] at H
   have c4b0 : decide (1 ≤ a0_2) = true := decide_eq_true c4
   clear c4
   obtain rfl := Option.some.inj H
   go_enter Try.func45, Try.ntmps45
   go_wp2_with (first | ((with_reducible refine gate_dst (N := 1) rfl ?_); refine bx 1 #[.int .i64 a0_0, .int .i64 a0_1, .int .i64 a0_2] 33 ?_; intro gb240 hg w5 hbox hb; have BK240 := AX (hbox); have GW240 := gwl (w := w) hg bw; have GE240 := GW240; replace HB := AX (below_step bw hb); clear hb hbox hg; obtain ⟨hcz6_0, hcz6_1, hcz6_2⟩ := blkC3 (w := w5) BK240.out; obtain ⟨hfz6_0, hfz6_1, hfz6_2⟩ := blkF3 BK240.out) | ((with_reducible refine gate_callee (f := 31) rfl ?_); refine gL (some 10) Try.func31 #[.int .i64 a0_0, .int .i64 a0_1] ?_; (with_reducible refine (pylonref03_Length.calls k a0_0 a0_1 t241 t242 _ A2.out).mono ?_); rintro e w' ⟨rfl, ⟨nd, rfl⟩⟩; refine ⟨_, rfl, ?_⟩))
   go_ret
   exact ⟨by first | rfl | (simp [errW_none, errW_some] <;> rfl) | (simp [*, errW_none, errW_some] <;> rfl), bw⟩
  ·rw [if_neg c4] at H
   have c4b0 : decide (1 ≤ a0_2) = false := decide_eq_false c4
   clear c4
   obtain rfl := Option.some.inj H
   go_enter Try.func45, Try.ntmps45
   go_wp2_with (first | ((with_reducible refine gate_dst (N := 1) rfl ?_); refine bx 1 #[.int .i64 a0_0, .int .i64 a0_1, .int .i64 a0_2] 33 ?_; intro gb240 hg w7 hbox hb; have BK240 := AX (hbox); have GW240 := gwl (w := w) hg bw; have GE240 := GW240; replace HB := AX (below_step bw hb); clear hb hbox hg; obtain ⟨hcz8_0, hcz8_1, hcz8_2⟩ := blkC3 (w := w7) BK240.out; obtain ⟨hfz8_0, hfz8_1, hfz8_2⟩ := blkF3 BK240.out) | ((with_reducible refine gate_callee (f := 31) rfl ?_); refine gL (some 10) Try.func31 #[.int .i64 a0_0, .int .i64 a0_1] ?_; (with_reducible refine (pylonref03_Length.calls k a0_0 a0_1 t241 t242 _ A2.out).mono ?_); rintro e w' ⟨rfl, ⟨nd, rfl⟩⟩; refine ⟨_, rfl, ?_⟩))
   go_ret
   exact ⟨by first | rfl | (simp [errW_none, errW_some] <;> rfl) | (simp [*, errW_none, errW_some] <;> rfl), bw⟩
 ·rw [if_neg c3] at H
  have c3b0 : (t242 == 0) = false := beq_eq_false_iff_ne.mpr c3
  have c3b1 : (t242 != 0) = true := bne_iff_ne.mpr c3
  obtain rfl := Option.some.inj H
  go_enter Try.func45, Try.ntmps45
  go_wp2_with (first | ((with_reducible refine gate_dst (N := 1) rfl ?_); refine bx 1 #[.int .i64 a0_0, .int .i64 a0_1, .int .i64 a0_2] 33 ?_; intro gb240 hg w9 hbox hb; have BK240 := AX (hbox); have GW240 := gwl (w := w) hg bw; have GE240 := GW240; replace HB := AX (below_step bw hb); clear hb hbox hg; obtain ⟨hcz10_0, hcz10_1, hcz10_2⟩ := blkC3 (w := w9) BK240.out; obtain ⟨hfz10_0, hfz10_1, hfz10_2⟩ := blkF3 BK240.out) | ((with_reducible refine gate_callee (f := 31) rfl ?_); refine gL (some 10) Try.func31 #[.int .i64 a0_0, .int .i64 a0_1] ?_; (with_reducible refine (pylonref03_Length.calls k a0_0 a0_1 t241 t242 _ A2.out).mono ?_); rintro e w' ⟨rfl, ⟨nd, rfl⟩⟩; refine ⟨_, rfl, ?_⟩))
  go_ret
  exact ⟨by first | rfl | (simp [errW_none, errW_some] <;> rfl) | (simp [*, errW_none, errW_some] <;> rfl), bw⟩

/-! ### pylonref03_YearDay: function 33 -/
def pylonref03_YearDay.l0 : Nat → Int → Int → Int → Int → Int → Option (Int × Int)
 | 0, _, _, _, _, _ => none
 | k + 1, x4, x5, x244000, x244001, x244002 => if x5 < x244001 then ((pylonref03_Length.f k x244000 x5).bind fun bt245 => (pylonref03_YearDay.l0 k (wrap64 (x4 + bt245.1)) (wrap64 (x5 + 1)) x244000 x244001 x244002)) else (some (x4, 0))
def pylonref03_YearDay.f (k : Nat) (a0_0 : Int) (a0_1 : Int) (a0_2 : Int) : Option (Int × Int) := (pylonref03_Is.f k a0_0 a0_1 a0_2).bind fun t244 => (if t244 = true then (pylonref03_YearDay.l0 k a0_2 1 a0_0 a0_1 a0_2) else (some (0, 5)))
theorem pylonref03_YearDay.mono_l : ∀ k, (∀ y0 y1 y2 y3 y4, LeO (pylonref03_YearDay.l0 k y0 y1 y2 y3 y4) (pylonref03_YearDay.l0 (k + 1) y0 y1 y2 y3 y4))
 | 0 => fun _ _ _ _ _ r h => by simp [pylonref03_YearDay.l0] at h
 | k + 1 => by
  have ih0 := pylonref03_YearDay.mono_l k
  ·intro y0 y1 y2 y3 y4
   unfold pylonref03_YearDay.l0
   repeat' first
   | (with_reducible exact ih0 _ _ _ _ _)
   | (with_reducible exact pylonref03_Is.mono _ _ _ _)
   | (with_reducible exact pylonref03_Length.mono _ _ _)
   | (with_reducible exact LeO.refl _)
   | (with_reducible exact LeO.none _)
   | (with_reducible refine LeO.ite ?_ ?_)
   | (with_reducible refine LeO.bind ?_ (fun _ => ?_))
theorem pylonref03_YearDay.mono : ∀ a0 a1 a2 k, LeO (pylonref03_YearDay.f k a0 a1 a2) (pylonref03_YearDay.f (k + 1) a0 a1 a2) := by
 intro a0 a1 a2 k
 have ih0 := pylonref03_YearDay.mono_l k
 unfold pylonref03_YearDay.f
 repeat' first
   | (with_reducible exact ih0 _ _ _ _ _)
   | (with_reducible exact pylonref03_Is.mono _ _ _ _)
   | (with_reducible exact pylonref03_Length.mono _ _ _)
   | (with_reducible exact LeO.refl _)
   | (with_reducible exact LeO.none _)
   | (with_reducible refine LeO.ite ?_ ?_)
   | (with_reducible refine LeO.bind ?_ (fun _ => ?_))
set_option maxHeartbeats 8000000 in
set_option maxRecDepth 100000 in
theorem pylonref03_YearDay.calls (k : Nat) (a0_0 : Int) (a0_1 : Int) (a0_2 : Int) (r1 : Int) (r2 : Int) (w : World) (h : pylonref03_YearDay.f k a0_0 a0_1 a0_2 = some (r1, r2)) :
  Calls Try.prog 33 #[.agg #[.int .i64 a0_0, .int .i64 a0_1, .int .i64 a0_2]] w fun e w' => e = .returned (.tuple #[.int .i64 r1, .int .i64 r2]) ∧ Below w.heap.size w w' := by
 have hu33 := Try.underlying33
 have HB := AX (Below.refl w.heap.size w)
 have H : ((pylonref03_Is.f k a0_0 a0_1 a0_2).bind fun t244 => (if t244 = true then (pylonref03_YearDay.l0 k a0_2 1 a0_0 a0_1 a0_2) else (some (0, 5)))) = some (r1, r2) := h
 clear h
 replace H := Option.bind_eq_some_iff.mp H
 obtain ⟨t244, A20, H⟩ := H
 replace H : (if t244 = true then (pylonref03_YearDay.l0 k a0_2 1 a0_0 a0_1 a0_2) else (some (0, 5))) = some (r1, r2) := H
 have A2 := AX A20
 clear A20
 by_cases c3 : t244 = true
 ·subst c3
  have H1 : (pylonref03_YearDay.l0 k a0_2 1 a0_0 a0_1 a0_2) = some (r1, r2) := by rw [if_pos rfl] at H; exact H
  clear H
  have H := H1
  clear H1
  have H' := AX H
  clear H
  go_enter Try.func33, Try.ntmps33
  go_wp2_with (first | ((with_reducible refine gate_dst (N := 1) rfl ?_); refine bx 1 #[.int .i64 a0_0, .int .i64 a0_1, .int .i64 a0_2] 33 ?_; intro gb243 hg w4 hbox hb; have BK243 := AX (hbox); have GW243 := gwl (w := w) hg bw; have GE243 := GW243; replace HB := AX (below_step bw hb); clear hb hbox hg; obtain ⟨hcz5_0, hcz5_1, hcz5_2⟩ := blkC3 (w := w4) BK243.out; obtain ⟨hfz5_0, hfz5_1, hfz5_2⟩ := blkF3 BK243.out) | ((with_reducible refine gate_callee (f := 45) rfl ?_); refine gL (some 9) Try.func45 #[.agg #[.int .i64 a0_0, .int .i64 a0_1, .int .i64 a0_2]] ?_; (with_reducible refine (pylonref03_Is.calls k a0_0 a0_1 a0_2 true _ A2.out).mono ?_); rintro e w6 ⟨rfl, hb⟩; refine ⟨_, rfl, ?_⟩; replace BK243 := AX (bkb BK243 hb); replace HB := AX (below_step bw hb); (try clear hb); obtain ⟨hcz7_0, hcz7_1, hcz7_2⟩ := blkC3 (w := w6) BK243.out; obtain ⟨hfz7_0, hfz7_1, hfz7_2⟩ := blkF3 BK243.out))
  go_loopg [4, 5] k (fun kq v4 v5 w' => ∃ (x4_1 : Int) (x5_1 : Int), v4 = .int .i64 x4_1 ∧ v5 = .int .i64 x5_1 ∧ Aside0 (pylonref03_YearDay.l0 kq x4_1 x5_1 a0_0 a0_1 a0_2 = some (r1, r2)) ∧ Aside0 (kq ≤ k) ∧ Aside0 (w'.heap[gb243]? = some (.cells #[.int .i64 a0_0, .int .i64 a0_1, .int .i64 a0_2] 33 (0, 0))) ∧ Aside0 (Below w.heap.size w w'))
  case atStart => exact ⟨(a0_2), (1), (by first | rfl | (simp; done) | (simp [*]; done)), (by first | rfl | (simp; done) | (simp [*]; done)), H', ⟨Nat.le_refl _⟩, ⟨bkn BK243⟩, ⟨bw⟩⟩
  case round =>
   clear H'
   try clear c3
   try clear hcz5_0 hcz5_1 hcz5_2
   try clear hcz7_0 hcz7_1 hcz7_2
   try clear hfz5_0 hfz5_1 hfz5_2
   try clear hfz7_0 hfz7_1 hfz7_2
   obtain ⟨x4_1, x5_1, rfl, rfl, HA, HK1, BK243, HB⟩ := hrel
   cases gk with
   | zero => exact absurd HA.out (by simp [pylonref03_YearDay.l0])
   | succ k1 =>
    have H := HA.out
    clear HA
    simp only [pylonref03_YearDay.l0] at H
    by_cases c8 : x5_1 < a0_1
    ·rw [if_pos c8] at H
     have c8b0 : decide (x5_1 < a0_1) = true := decide_eq_true c8
     clear c8
     replace H := Option.bind_eq_some_iff.mp H
     obtain ⟨⟨t245, t246⟩, A90, H⟩ := H
     replace H : (pylonref03_YearDay.l0 k1 (wrap64 (x4_1 + t245)) (wrap64 (x5_1 + 1)) a0_0 a0_1 a0_2) = some (r1, r2) := H
     have A9 := AX A90
     clear A90
     have H' := AX H
     clear H
     obtain ⟨hcz10_0, hcz10_1, hcz10_2⟩ := blkC3 (w := wr) BK243.out
     obtain ⟨hfz10_0, hfz10_1, hfz10_2⟩ := blkF3 BK243.out
     go_wp2_with (first | ((with_reducible refine gate_callee (f := 31) rfl ?_); refine gL (some 23) Try.func31 #[.int .i64 a0_0, .int .i64 x5_1] ?_; (with_reducible refine (pylonref03_Length.calls k1 a0_0 x5_1 t245 t246 _ A9.out).mono ?_); rintro e w' ⟨rfl, ⟨nd, rfl⟩⟩; refine ⟨_, rfl, ?_⟩))
     go_roundg k1
     case measure => have := HK1.out; omega
     case rel => exact ⟨(wrap64 (x4_1 + t245)), (wrap64 (x5_1 + 1)), (by first | rfl | (simp; done) | (simp [*]; done)), (by first | rfl | (simp; done) | (simp [*]; done)), H', ⟨by have := HK1.out; omega⟩, ⟨bkn BK243⟩, ⟨bw⟩⟩
    ·rw [if_neg c8] at H
     have c8b0 : decide (x5_1 < a0_1) = false := decide_eq_false c8
     clear c8
     simp only [Option.some.injEq, Prod.mk.injEq] at H
     obtain ⟨rfl, rfl⟩ := H
     obtain ⟨hcz11_0, hcz11_1, hcz11_2⟩ := blkC3 (w := wr) BK243.out
     obtain ⟨hfz11_0, hfz11_1, hfz11_2⟩ := blkF3 BK243.out
     go_wp2
     go_ret2
     exact ⟨by first | rfl | (simp [errW_none, errW_some] <;> rfl) | (simp [*, errW_none, errW_some] <;> rfl), bw⟩
 ·replace c3 := Bool.eq_false_iff.mpr c3
  subst c3
  have H1 : (some (0, 5)) = some (r1, r2) := by rw [if_neg (show ¬ (false = true) by decide)] at H; exact H
  clear H
  have H := H1
  clear H1
  simp only [Option.some.injEq, Prod.mk.injEq] at H
  obtain ⟨rfl, rfl⟩ := H
  go_enter Try.func33, Try.ntmps33
  go_wp2_with (first | ((with_reducible refine gate_dst (N := 1) rfl ?_); refine bx 1 #[.int .i64 a0_0, .int .i64 a0_1, .int .i64 a0_2] 33 ?_; intro gb243 hg w12 hbox hb; have BK243 := AX (hbox); have GW243 := gwl (w := w) hg bw; have GE243 := GW243; replace HB := AX (below_step bw hb); clear hb hbox hg; obtain ⟨hcz13_0, hcz13_1, hcz13_2⟩ := blkC3 (w := w12) BK243.out; obtain ⟨hfz13_0, hfz13_1, hfz13_2⟩ := blkF3 BK243.out) | ((with_reducible refine gate_callee (f := 45) rfl ?_); refine gL (some 9) Try.func45 #[.agg #[.int .i64 a0_0, .int .i64 a0_1, .int .i64 a0_2]] ?_; (with_reducible refine (pylonref03_Is.calls k a0_0 a0_1 a0_2 false _ A2.out).mono ?_); rintro e w14 ⟨rfl, hb⟩; refine ⟨_, rfl, ?_⟩; replace BK243 := AX (bkb BK243 hb); replace HB := AX (below_step bw hb); (try clear hb)))
  go_ret2
  exact ⟨by first | rfl | (simp [errW_none, errW_some] <;> rfl) | (simp [*, errW_none, errW_some] <;> rfl), bw⟩

/-! ### pylonref03_ahead: function 34 -/
def pylonref03_ahead.f (a0 : Int) : Option (Int) := some (wrap64 ((wrap64 ((wrap64 ((wrap64 (365 * (wrap64 (a0 - 1)))) + (wrap64 (Int.tdiv (wrap64 (a0 - 1)) 4)))) - (wrap64 (Int.tdiv (wrap64 (a0 - 1)) 100)))) + (wrap64 (Int.tdiv (wrap64 (a0 - 1)) 400))))
set_option maxHeartbeats 8000000 in
set_option maxRecDepth 100000 in
theorem pylonref03_ahead.calls (a0 : Int) (r : Int) (w : World) (h : pylonref03_ahead.f a0 = some r) :
  Calls Try.prog 34 #[.int .i64 a0] w fun e w' => e = .returned (.int .i64 r) ∧ Drawn0 w w' := by
 have H : (some (wrap64 ((wrap64 ((wrap64 ((wrap64 (365 * (wrap64 (a0 - 1)))) + (wrap64 (Int.tdiv (wrap64 (a0 - 1)) 4)))) - (wrap64 (Int.tdiv (wrap64 (a0 - 1)) 100)))) + (wrap64 (Int.tdiv (wrap64 (a0 - 1)) 400))))) = some r := h
 clear h
 obtain rfl := Option.some.inj H
 go_enter Try.func34, Try.ntmps34
 go_wp2
 go_ret
 exact ⟨by first | rfl | (simp; done) | (simp [*]; done), by repeat (first | exact Drawn0.refl _ | apply Drawn0.step)⟩

/-! ### pylonref03_Days: function 18 -/
def pylonref03_Days.f (k : Nat) (a0_0 : Int) (a0_1 : Int) (a0_2 : Int) : Option (Int × Int) := (pylonref03_YearDay.f k a0_0 a0_1 a0_2).bind fun bt248 => (if bt248.2 = 0 then ((pylonref03_ahead.f a0_0).bind fun t250 => (some (wrap64 ((wrap64 ((wrap64 (t250 + bt248.1)) - 1)) - 719162), 0))) else (some (0, bt248.2)))
theorem pylonref03_Days.mono : ∀ a0 a1 a2 k, LeO (pylonref03_Days.f k a0 a1 a2) (pylonref03_Days.f (k + 1) a0 a1 a2) := by
 intro a0 a1 a2 k
 unfold pylonref03_Days.f
 repeat' first
   | (with_reducible exact pylonref03_YearDay.mono _ _ _ _)
   | (with_reducible exact LeO.refl _)
   | (with_reducible exact LeO.none _)
   | (with_reducible refine LeO.ite ?_ ?_)
   | (with_reducible refine LeO.bind ?_ (fun _ => ?_))
set_option maxHeartbeats 8000000 in
set_option maxRecDepth 100000 in
theorem pylonref03_Days.calls (k : Nat) (a0_0 : Int) (a0_1 : Int) (a0_2 : Int) (r1 : Int) (r2 : Int) (w : World) (h : pylonref03_Days.f k a0_0 a0_1 a0_2 = some (r1, r2)) :
  Calls Try.prog 18 #[.agg #[.int .i64 a0_0, .int .i64 a0_1, .int .i64 a0_2]] w fun e w' => e = .returned (.tuple #[.int .i64 r1, .int .i64 r2]) ∧ Below w.heap.size w w' := by
 have hu33 := Try.underlying33
 have HB := AX (Below.refl w.heap.size w)
 have H : ((pylonref03_YearDay.f k a0_0 a0_1 a0_2).bind fun bt248 => (if bt248.2 = 0 then ((pylonref03_ahead.f a0_0).bind fun t250 => (some (wrap64 ((wrap64 ((wrap64 (t250 + bt248.1)) - 1)) - 719162), 0))) else (some (0, bt248.2)))) = some (r1, r2) := h
 clear h
 replace H := Option.bind_eq_some_iff.mp H
 obtain ⟨⟨t248, t249⟩, A20, H⟩ := H
 replace H : (if t249 = 0 then ((pylonref03_ahead.f a0_0).bind fun t250 => (some (wrap64 ((wrap64 ((wrap64 (t250 + t248)) - 1)) - 719162), 0))) else (some (0, t249))) = some (r1, r2) := H
 have A2 := AX A20
 clear A20
 by_cases c3 : t249 = 0
 ·rw [if_pos c3] at H
  have c3b0 : (t249 == 0) = true := beq_iff_eq.mpr c3
  have c3b1 : (t249 != 0) = false := bne_eq_false_iff_eq.mpr c3
  clear c3
  replace H := Option.bind_eq_some_iff.mp H
  obtain ⟨t250, A40, H⟩ := H
  replace H : (some (wrap64 ((wrap64 ((wrap64 (t250 + t248)) - 1)) - 719162), 0)) = some (r1, r2) := H
  have A4 := AX A40
  clear A40
  simp only [Option.some.injEq, Prod.mk.injEq] at H
  obtain ⟨rfl, rfl⟩ := H
  go_enter Try.func18, Try.ntmps18
  go_wp2_with (first | ((with_reducible refine gate_dst (N := 1) rfl ?_); refine bx 1 #[.int .i64 a0_0, .int .i64 a0_1, .int .i64 a0_2] 33 ?_; intro gb247 hg w5 hbox hb; have BK247 := AX (hbox); have GW247 := gwl (w := w) hg bw; have GE247 := GW247; replace HB := AX (below_step bw hb); clear hb hbox hg; obtain ⟨hcz6_0, hcz6_1, hcz6_2⟩ := blkC3 (w := w5) BK247.out; obtain ⟨hfz6_0, hfz6_1, hfz6_2⟩ := blkF3 BK247.out) | ((with_reducible refine gate_callee (f := 33) rfl ?_); refine gL (some 8) Try.func33 #[.agg #[.int .i64 a0_0, .int .i64 a0_1, .int .i64 a0_2]] ?_; (with_reducible refine (pylonref03_YearDay.calls k a0_0 a0_1 a0_2 t248 t249 _ A2.out).mono ?_); rintro e w7 ⟨rfl, hb⟩; refine ⟨_, rfl, ?_⟩; replace BK247 := AX (bkb BK247 hb); replace HB := AX (below_step bw hb); (try clear hb); obtain ⟨hcz8_0, hcz8_1, hcz8_2⟩ := blkC3 (w := w7) BK247.out; obtain ⟨hfz8_0, hfz8_1, hfz8_2⟩ := blkF3 BK247.out) | ((with_reducible refine gate_callee (f := 34) rfl ?_); refine gL (some 16) Try.func34 #[.int .i64 a0_0] ?_; (with_reducible refine (pylonref03_ahead.calls a0_0 t250 _ A4.out).mono ?_); rintro e w' ⟨rfl, ⟨nd, rfl⟩⟩; refine ⟨_, rfl, ?_⟩))
  go_ret2
  exact ⟨by first | rfl | (simp [errW_none, errW_some] <;> rfl) | (simp [*, errW_none, errW_some] <;> rfl), bw⟩
 ·rw [if_neg c3] at H
  have c3b0 : (t249 == 0) = false := beq_eq_false_iff_ne.mpr c3
  have c3b1 : (t249 != 0) = true := bne_iff_ne.mpr c3
  simp only [Option.some.injEq, Prod.mk.injEq] at H
  obtain ⟨rfl, rfl⟩ := H
  go_enter Try.func18, Try.ntmps18
  go_wp2_with (first | ((with_reducible refine gate_dst (N := 1) rfl ?_); refine bx 1 #[.int .i64 a0_0, .int .i64 a0_1, .int .i64 a0_2] 33 ?_; intro gb247 hg w9 hbox hb; have BK247 := AX (hbox); have GW247 := gwl (w := w) hg bw; have GE247 := GW247; replace HB := AX (below_step bw hb); clear hb hbox hg; obtain ⟨hcz10_0, hcz10_1, hcz10_2⟩ := blkC3 (w := w9) BK247.out; obtain ⟨hfz10_0, hfz10_1, hfz10_2⟩ := blkF3 BK247.out) | ((with_reducible refine gate_callee (f := 33) rfl ?_); refine gL (some 8) Try.func33 #[.agg #[.int .i64 a0_0, .int .i64 a0_1, .int .i64 a0_2]] ?_; (with_reducible refine (pylonref03_YearDay.calls k a0_0 a0_1 a0_2 t248 t249 _ A2.out).mono ?_); rintro e w11 ⟨rfl, hb⟩; refine ⟨_, rfl, ?_⟩; replace BK247 := AX (bkb BK247 hb); replace HB := AX (below_step bw hb); (try clear hb)))
  go_ret2
  exact ⟨by first | rfl | (simp [errW_none, errW_some] <;> rfl) | (simp [*, errW_none, errW_some] <;> rfl), bw⟩

/-! ### pylonref03_Weekday: function 69 -/
def pylonref03_Weekday.f (k : Nat) (a0_0 : Int) (a0_1 : Int) (a0_2 : Int) : Option (Int × Int) := (pylonref03_Days.f k a0_0 a0_1 a0_2).bind fun bt252 => (if bt252.2 = 0 then (some (Int.tmod (wrap64 (bt252.1 + 719162)) 7, 0)) else (some (0, bt252.2)))
theorem pylonref03_Weekday.mono : ∀ a0 a1 a2 k, LeO (pylonref03_Weekday.f k a0 a1 a2) (pylonref03_Weekday.f (k + 1) a0 a1 a2) := by
 intro a0 a1 a2 k
 unfold pylonref03_Weekday.f
 repeat' first
   | (with_reducible exact pylonref03_Days.mono _ _ _ _)
   | (with_reducible exact LeO.refl _)
   | (with_reducible exact LeO.none _)
   | (with_reducible refine LeO.ite ?_ ?_)
   | (with_reducible refine LeO.bind ?_ (fun _ => ?_))
set_option maxHeartbeats 8000000 in
set_option maxRecDepth 100000 in
theorem pylonref03_Weekday.calls (k : Nat) (a0_0 : Int) (a0_1 : Int) (a0_2 : Int) (r1 : Int) (r2 : Int) (w : World) (h : pylonref03_Weekday.f k a0_0 a0_1 a0_2 = some (r1, r2)) :
  Calls Try.prog 69 #[.agg #[.int .i64 a0_0, .int .i64 a0_1, .int .i64 a0_2]] w fun e w' => e = .returned (.tuple #[.int .i64 r1, .int .i64 r2]) ∧ Below w.heap.size w w' := by
 have hu33 := Try.underlying33
 have HB := AX (Below.refl w.heap.size w)
 have H : ((pylonref03_Days.f k a0_0 a0_1 a0_2).bind fun bt252 => (if bt252.2 = 0 then (some (Int.tmod (wrap64 (bt252.1 + 719162)) 7, 0)) else (some (0, bt252.2)))) = some (r1, r2) := h
 clear h
 replace H := Option.bind_eq_some_iff.mp H
 obtain ⟨⟨t252, t253⟩, A20, H⟩ := H
 replace H : (if t253 = 0 then (some (Int.tmod (wrap64 (t252 + 719162)) 7, 0)) else (some (0, t253))) = some (r1, r2) := H
 have A2 := AX A20
 clear A20
 by_cases c3 : t253 = 0
 ·rw [if_pos c3] at H
  have c3b0 : (t253 == 0) = true := beq_iff_eq.mpr c3
  have c3b1 : (t253 != 0) = false := bne_eq_false_iff_eq.mpr c3
  clear c3
  simp only [Option.some.injEq, Prod.mk.injEq] at H
  obtain ⟨rfl, rfl⟩ := H
  go_enter Try.func69, Try.ntmps69
  go_wp2_with (first | ((with_reducible refine gate_dst (N := 1) rfl ?_); refine bx 1 #[.int .i64 a0_0, .int .i64 a0_1, .int .i64 a0_2] 33 ?_; intro gb251 hg w4 hbox hb; have BK251 := AX (hbox); have GW251 := gwl (w := w) hg bw; have GE251 := GW251; replace HB := AX (below_step bw hb); clear hb hbox hg; obtain ⟨hcz5_0, hcz5_1, hcz5_2⟩ := blkC3 (w := w4) BK251.out; obtain ⟨hfz5_0, hfz5_1, hfz5_2⟩ := blkF3 BK251.out) | ((with_reducible refine gate_callee (f := 18) rfl ?_); refine gL (some 8) Try.func18 #[.agg #[.int .i64 a0_0, .int .i64 a0_1, .int .i64 a0_2]] ?_; (with_reducible refine (pylonref03_Days.calls k a0_0 a0_1 a0_2 t252 t253 _ A2.out).mono ?_); rintro e w6 ⟨rfl, hb⟩; refine ⟨_, rfl, ?_⟩; replace BK251 := AX (bkb BK251 hb); replace HB := AX (below_step bw hb); (try clear hb)))
  go_ret2
  exact ⟨by first | rfl | (simp [errW_none, errW_some] <;> rfl) | (simp [*, errW_none, errW_some] <;> rfl), bw⟩
 ·rw [if_neg c3] at H
  have c3b0 : (t253 == 0) = false := beq_eq_false_iff_ne.mpr c3
  have c3b1 : (t253 != 0) = true := bne_iff_ne.mpr c3
  simp only [Option.some.injEq, Prod.mk.injEq] at H
  obtain ⟨rfl, rfl⟩ := H
  go_enter Try.func69, Try.ntmps69
  go_wp2_with (first | ((with_reducible refine gate_dst (N := 1) rfl ?_); refine bx 1 #[.int .i64 a0_0, .int .i64 a0_1, .int .i64 a0_2] 33 ?_; intro gb251 hg w7 hbox hb; have BK251 := AX (hbox); have GW251 := gwl (w := w) hg bw; have GE251 := GW251; replace HB := AX (below_step bw hb); clear hb hbox hg; obtain ⟨hcz8_0, hcz8_1, hcz8_2⟩ := blkC3 (w := w7) BK251.out; obtain ⟨hfz8_0, hfz8_1, hfz8_2⟩ := blkF3 BK251.out) | ((with_reducible refine gate_callee (f := 18) rfl ?_); refine gL (some 8) Try.func18 #[.agg #[.int .i64 a0_0, .int .i64 a0_1, .int .i64 a0_2]] ?_; (with_reducible refine (pylonref03_Days.calls k a0_0 a0_1 a0_2 t252 t253 _ A2.out).mono ?_); rintro e w9 ⟨rfl, hb⟩; refine ⟨_, rfl, ?_⟩; replace BK251 := AX (bkb BK251 hb); replace HB := AX (below_step bw hb); (try clear hb)))
  go_ret2
  exact ⟨by first | rfl | (simp [errW_none, errW_some] <;> rfl) | (simp [*, errW_none, errW_some] <;> rfl), bw⟩

end Go.Proofs.Ytegedhnbmclbkaa.PX
