/- Functions of the program as plain Lean functions, each with a proof that the call in the machine answers just what the plain function says; condition: the plain function answers at all. -/
import Derived.Test.YtegedhnbmclbkaaPXx0
import Derived.Test.YtegedhnbmclbkaaPXx1
import Derived.Test.YtegedhnbmclbkaaPXx2
namespace Go.Proofs.Ytegedhnbmclbkaa.PX
open Go.RowKit Go.Proofs.YtegedhnbmclbkaaW.PrintWords Go.Proofs.YtegedhnbmclbkaaW.PrintLast Go.Proofs.YtegedhnbmclbkaaW.PrintMore
attribute [local go_sem] max2_int min2_int max_two min_two max_three min_three max_four min_four   -- for this text's walks alone
set_option linter.unusedVariables false
set_option linter.unusedSimpArgs false

attribute [local go_sem high] eqA33
/-! ### holiday_Check: function 12 -/
def holiday_Check.f (k : Nat) (a0_0 : Int) (a0_1 : Int) (a0_2 : Int) (a0_3 : Int) : Option (Int) := if a0_0 = 1 then ((civil_Length.f 2000 a0_1).bind fun bt120 => (if bt120.2 = 0 then (if a0_2 ≥ 1 then (if a0_2 ≤ bt120.1 then (if a0_3 = 0 then (some 0) else (some 8)) else (some 8)) else (some 8)) else (some 8))) else (if a0_0 = 2 then ((civil_Nth.f k 2000 a0_1 a0_2 a0_3).bind fun bt122 => (if bt122.2.2.2 = 0 then (some 0) else (some 8))) else (if a0_0 = 3 then (if a0_1 ≥ (-100) then (if a0_1 ≤ 100 then (if a0_2 = 0 then (if a0_3 = 0 then (some 0) else (some 8)) else (some 8)) else (some 8)) else (some 8)) else (some 8)))
theorem holiday_Check.mono : ∀ a0 a1 a2 a3 k, LeO (holiday_Check.f k a0 a1 a2 a3) (holiday_Check.f (k + 1) a0 a1 a2 a3) := by
 intro a0 a1 a2 a3 k
 unfold holiday_Check.f
 repeat' first
   | (with_reducible exact civil_Nth.mono _ _ _ _ _)
   | (with_reducible exact LeO.refl _)
   | (with_reducible exact LeO.none _)
   | (with_reducible refine LeO.ite ?_ ?_)
   | (with_reducible refine LeO.bind ?_ (fun _ => ?_))
set_option maxHeartbeats 8000000 in
set_option maxRecDepth 100000 in
theorem holiday_Check.calls (k : Nat) (a0_0 : Int) (a0_1 : Int) (a0_2 : Int) (a0_3 : Int) (r : Int) (w : World) (h : holiday_Check.f k a0_0 a0_1 a0_2 a0_3 = some r) :
  Calls Try.prog 12 #[.agg #[.int .i64 a0_0, .int .i64 a0_1, .int .i64 a0_2, .int .i64 a0_3]] w fun e w' => e = .returned (.int .i64 r) ∧ Below w.heap.size w w' := by
 have hu25 := Try.underlying25
 have hu33 := Try.underlying33
 have HB := AX (Below.refl w.heap.size w)
 have H : (if a0_0 = 1 then ((civil_Length.f 2000 a0_1).bind fun bt120 => (if bt120.2 = 0 then (if a0_2 ≥ 1 then (if a0_2 ≤ bt120.1 then (if a0_3 = 0 then (some 0) else (some 8)) else (some 8)) else (some 8)) else (some 8))) else (if a0_0 = 2 then ((civil_Nth.f k 2000 a0_1 a0_2 a0_3).bind fun bt122 => (if bt122.2.2.2 = 0 then (some 0) else (some 8))) else (if a0_0 = 3 then (if a0_1 ≥ (-100) then (if a0_1 ≤ 100 then (if a0_2 = 0 then (if a0_3 = 0 then (some 0) else (some 8)) else (some 8)) else (some 8)) else (some 8)) else (some 8)))) = some r := h
 clear h
 by_cases c2 : a0_0 = 1
 ·rw [if_pos c2] at H
  have c2b0 : (a0_0 == 1) = true := beq_iff_eq.mpr c2
  have c2b1 : (a0_0 != 1) = false := bne_eq_false_iff_eq.mpr c2
  clear c2
  replace H := Option.bind_eq_some_iff.mp H
  obtain ⟨⟨t120, t121⟩, A30, H⟩ := H
  replace H : (if t121 = 0 then (if a0_2 ≥ 1 then (if a0_2 ≤ t120 then (if a0_3 = 0 then (some 0) else (some 8)) else (some 8)) else (some 8)) else (some 8)) = some r := H
  have A3 := AX A30
  clear A30
  by_cases c4 : t121 = 0
  ·rw [if_pos c4] at H
   have c4b0 : (t121 == 0) = true := beq_iff_eq.mpr c4
   have c4b1 : (t121 != 0) = false := bne_eq_false_iff_eq.mpr c4
   clear c4
   by_cases c5 : a0_2 ≥ 1
   ·rw [if_pos c5] at H
    have c5b0 : decide (1 ≤ a0_2) = true := decide_eq_true c5
    clear c5
    by_cases c6 : a0_2 ≤ t120
    ·rw [if_pos c6] at H
     have c6b0 : decide (a0_2 ≤ t120) = true := decide_eq_true c6
     clear c6
     by_cases c7 : a0_3 = 0
     ·rw [if_pos c7] at H
      have c7b0 : (a0_3 == 0) = true := beq_iff_eq.mpr c7
      have c7b1 : (a0_3 != 0) = false := bne_eq_false_iff_eq.mpr c7
      clear c7
      obtain rfl := Option.some.inj H
      go_enter Try.func12, Try.ntmps12
      go_wp2_with (first | ((with_reducible refine gate_dst (N := 1) rfl ?_); refine bx 1 #[.int .i64 a0_0, .int .i64 a0_1, .int .i64 a0_2, .int .i64 a0_3] 25 ?_; intro gb119 hg w8 hbox hb; have BK119 := AX (hbox); have GW119 := gwl (w := w) hg bw; have GE119 := GW119; replace HB := AX (below_step bw hb); clear hb hbox hg; obtain ⟨hcz9_0, hcz9_1, hcz9_2, hcz9_3⟩ := blkC4 (w := w8) BK119.out; obtain ⟨hfz9_0, hfz9_1, hfz9_2, hfz9_3⟩ := blkF4 BK119.out) | ((with_reducible refine gate_callee (f := 25) rfl ?_); refine gL (some 14) Try.func25 #[.int .i64 2000, .int .i64 a0_1] ?_; (with_reducible refine (civil_Length.calls 2000 a0_1 t120 t121 _ A3.out).mono ?_); rintro e w10 ⟨rfl, hb⟩; refine ⟨_, rfl, ?_⟩; replace BK119 := AX (bkb BK119 hb); replace HB := AX (below_step bw hb); (try clear hb); obtain ⟨hcz11_0, hcz11_1, hcz11_2, hcz11_3⟩ := blkC4 (w := w10) BK119.out; obtain ⟨hfz11_0, hfz11_1, hfz11_2, hfz11_3⟩ := blkF4 BK119.out))
      go_ret
      exact ⟨by first | rfl | (simp [errW_none, errW_some] <;> rfl) | (simp [*, errW_none, errW_some] <;> rfl), bw⟩
     ·rw [if_neg c7] at H
      have c7b0 : (a0_3 == 0) = false := beq_eq_false_iff_ne.mpr c7
      have c7b1 : (a0_3 != 0) = true := bne_iff_ne.mpr c7
      obtain rfl := Option.some.inj H
      go_enter Try.func12, Try.ntmps12
      go_wp2_with (first | ((with_reducible refine gate_dst (N := 1) rfl ?_); refine bx 1 #[.int .i64 a0_0, .int .i64 a0_1, .int .i64 a0_2, .int .i64 a0_3] 25 ?_; intro gb119 hg w12 hbox hb; have BK119 := AX (hbox); have GW119 := gwl (w := w) hg bw; have GE119 := GW119; replace HB := AX (below_step bw hb); clear hb hbox hg; obtain ⟨hcz13_0, hcz13_1, hcz13_2, hcz13_3⟩ := blkC4 (w := w12) BK119.out; obtain ⟨hfz13_0, hfz13_1, hfz13_2, hfz13_3⟩ := blkF4 BK119.out) | ((with_reducible refine gate_callee (f := 25) rfl ?_); refine gL (some 14) Try.func25 #[.int .i64 2000, .int .i64 a0_1] ?_; (with_reducible refine (civil_Length.calls 2000 a0_1 t120 t121 _ A3.out).mono ?_); rintro e w14 ⟨rfl, hb⟩; refine ⟨_, rfl, ?_⟩; replace BK119 := AX (bkb BK119 hb); replace HB := AX (below_step bw hb); (try clear hb); obtain ⟨hcz15_0, hcz15_1, hcz15_2, hcz15_3⟩ := blkC4 (w := w14) BK119.out; obtain ⟨hfz15_0, hfz15_1, hfz15_2, hfz15_3⟩ := blkF4 BK119.out))
      go_ret
      exact ⟨by first | rfl | (simp [errW_none, errW_some] <;> rfl) | (simp [*, errW_none, errW_some] <;> rfl), bw⟩
    ·rw [if_neg c6] at H
     have c6b0 : decide (a0_2 ≤ t120) = false := decide_eq_false c6
     clear c6
     obtain rfl := Option.some.inj H
     go_enter Try.func12, Try.ntmps12
     go_wp2_with (first | ((with_reducible refine gate_dst (N := 1) rfl ?_); refine bx 1 #[.int .i64 a0_0, .int .i64 a0_1, .int .i64 a0_2, .int .i64 a0_3] 25 ?_; intro gb119 hg w16 hbox hb; have BK119 := AX (hbox); have GW119 := gwl (w := w) hg bw; have GE119 := GW119; replace HB := AX (below_step bw hb); clear hb hbox hg; obtain ⟨hcz17_0, hcz17_1, hcz17_2, hcz17_3⟩ := blkC4 (w := w16) BK119.out; obtain ⟨hfz17_0, hfz17_1, hfz17_2, hfz17_3⟩ := blkF4 BK119.out) | ((with_reducible refine gate_callee (f := 25) rfl ?_); refine gL (some 14) Try.func25 #[.int .i64 2000, .int .i64 a0_1] ?_; (with_reducible refine (civil_Length.calls 2000 a0_1 t120 t121 _ A3.out).mono ?_); rintro e w18 ⟨rfl, hb⟩; refine ⟨_, rfl, ?_⟩; replace BK119 := AX (bkb BK119 hb); replace HB := AX (below_step bw hb); (try clear hb); obtain ⟨hcz19_0, hcz19_1, hcz19_2, hcz19_3⟩ := blkC4 (w := w18) BK119.out; obtain ⟨hfz19_0, hfz19_1, hfz19_2, hfz19_3⟩ := blkF4 BK119.out))
     go_ret
     exact ⟨by first | rfl | (simp [errW_none, errW_some] <;> rfl) | (simp [*, errW_none, errW_some] <;> rfl), bw⟩
   ·rw [if_neg c5] at H
    have c5b0 : decide (1 ≤ a0_2) = false := decide_eq_false c5
    clear c5
    obtain rfl := Option.some.inj H
    go_enter Try.func12, Try.ntmps12
    go_wp2_with (first | ((with_reducible refine gate_dst (N := 1) rfl ?_); refine bx 1 #[.int .i64 a0_0, .int .i64 a0_1, .int .i64 a0_2, .int .i64 a0_3] 25 ?_; intro gb119 hg w20 hbox hb; have BK119 := AX (hbox); have GW119 := gwl (w := w) hg bw; have GE119 := GW119; replace HB := AX (below_step bw hb); clear hb hbox hg; obtain ⟨hcz21_0, hcz21_1, hcz21_2, hcz21_3⟩ := blkC4 (w := w20) BK119.out; obtain ⟨hfz21_0, hfz21_1, hfz21_2, hfz21_3⟩ := blkF4 BK119.out) | ((with_reducible refine gate_callee (f := 25) rfl ?_); refine gL (some 14) Try.func25 #[.int .i64 2000, .int .i64 a0_1] ?_; (with_reducible refine (civil_Length.calls 2000 a0_1 t120 t121 _ A3.out).mono ?_); rintro e w22 ⟨rfl, hb⟩; refine ⟨_, rfl, ?_⟩; replace BK119 := AX (bkb BK119 hb); replace HB := AX (below_step bw hb); (try clear hb); obtain ⟨hcz23_0, hcz23_1, hcz23_2, hcz23_3⟩ := blkC4 (w := w22) BK119.out; obtain ⟨hfz23_0, hfz23_1, hfz23_2, hfz23_3⟩ := blkF4 BK119.out))
    go_ret
    exact ⟨by first | rfl | (simp [errW_none, errW_some] <;> rfl) | (simp [*, errW_none, errW_some] <;> rfl), bw⟩
  ·rw [if_neg c4] at H
   have c4b0 : (t121 == 0) = false := beq_eq_false_iff_ne.mpr c4
   have c4b1 : (t121 != 0) = true := bne_iff_ne.mpr c4
   obtain rfl := Option.some.inj H
   go_enter Try.func12, Try.ntmps12
   go_wp2_with (first | ((with_reducible refine gate_dst (N := 1) rfl ?_); refine bx 1 #[.int .i64 a0_0, .int .i64 a0_1, .int .i64 a0_2, .int .i64 a0_3] 25 ?_; intro gb119 hg w24 hbox hb; have BK119 := AX (hbox); have GW119 := gwl (w := w) hg bw; have GE119 := GW119; replace HB := AX (below_step bw hb); clear hb hbox hg; obtain ⟨hcz25_0, hcz25_1, hcz25_2, hcz25_3⟩ := blkC4 (w := w24) BK119.out; obtain ⟨hfz25_0, hfz25_1, hfz25_2, hfz25_3⟩ := blkF4 BK119.out) | ((with_reducible refine gate_callee (f := 25) rfl ?_); refine gL (some 14) Try.func25 #[.int .i64 2000, .int .i64 a0_1] ?_; (with_reducible refine (civil_Length.calls 2000 a0_1 t120 t121 _ A3.out).mono ?_); rintro e w26 ⟨rfl, hb⟩; refine ⟨_, rfl, ?_⟩; replace BK119 := AX (bkb BK119 hb); replace HB := AX (below_step bw hb); (try clear hb)))
   go_ret
   exact ⟨by first | rfl | (simp [errW_none, errW_some] <;> rfl) | (simp [*, errW_none, errW_some] <;> rfl), bw⟩
 ·rw [if_neg c2] at H
  have c2b0 : (a0_0 == 1) = false := beq_eq_false_iff_ne.mpr c2
  have c2b1 : (a0_0 != 1) = true := bne_iff_ne.mpr c2
  by_cases c27 : a0_0 = 2
  ·rw [if_pos c27] at H
   have c27b0 : (a0_0 == 2) = true := beq_iff_eq.mpr c27
   have c27b1 : (a0_0 != 2) = false := bne_eq_false_iff_eq.mpr c27
   clear c27
   replace H := Option.bind_eq_some_iff.mp H
   obtain ⟨⟨t122, t123, t124, t125⟩, A280, H⟩ := H
   replace H : (if t125 = 0 then (some 0) else (some 8)) = some r := H
   have A28 := AX A280
   clear A280
   by_cases c29 : t125 = 0
   ·rw [if_pos c29] at H
    have c29b0 : (t125 == 0) = true := beq_iff_eq.mpr c29
    have c29b1 : (t125 != 0) = false := bne_eq_false_iff_eq.mpr c29
    clear c29
    obtain rfl := Option.some.inj H
    go_enter Try.func12, Try.ntmps12
    go_wp2_with (first | ((with_reducible refine gate_dst (N := 1) rfl ?_); refine bx 1 #[.int .i64 a0_0, .int .i64 a0_1, .int .i64 a0_2, .int .i64 a0_3] 25 ?_; intro gb119 hg w30 hbox hb; have BK119 := AX (hbox); have GW119 := gwl (w := w) hg bw; have GE119 := GW119; replace HB := AX (below_step bw hb); clear hb hbox hg; obtain ⟨hcz31_0, hcz31_1, hcz31_2, hcz31_3⟩ := blkC4 (w := w30) BK119.out; obtain ⟨hfz31_0, hfz31_1, hfz31_2, hfz31_3⟩ := blkF4 BK119.out) | ((with_reducible refine gate_callee (f := 26) rfl ?_); refine gL (some 44) Try.func26 #[.int .i64 2000, .int .i64 a0_1, .int .i64 a0_2, .int .i64 a0_3] ?_; (with_reducible refine (civil_Nth.calls k 2000 a0_1 a0_2 a0_3 t122 t123 t124 t125 _ A28.out).mono ?_); rintro e w32 ⟨rfl, hb⟩; refine ⟨_, rfl, ?_⟩; replace BK119 := AX (bkb BK119 hb); replace HB := AX (below_step bw hb); (try clear hb)) | ((with_reducible refine gate_dst (N := 5) rfl ?_); refine bx 5 #[.int .i64 0, .int .i64 0, .int .i64 0] 33 ?_; intro gb126 hg w33 hbox hb; have BK126 := AX (hbox); have GW126 := gwl (w := w) hg bw; have GE126 := GW126; have NB119_126 := nbl hg (bkn BK119); have NB126_119 := nbg hg (bkn BK119); replace BK119 := AX (bkb BK119 hb); replace HB := AX (below_step bw hb); clear hb hbox hg; have hnb34 := NB126_119.out; have hnc34 := NB119_126.out; obtain ⟨hcz35_0, hcz35_1, hcz35_2⟩ := blkC3 (w := w33) BK126.out; obtain ⟨hfz35_0, hfz35_1, hfz35_2⟩ := blkF3 BK126.out))
    go_ret
    exact ⟨by first | rfl | (simp [errW_none, errW_some] <;> rfl) | (simp [*, errW_none, errW_some] <;> rfl), bw⟩
   ·rw [if_neg c29] at H
    have c29b0 : (t125 == 0) = false := beq_eq_false_iff_ne.mpr c29
    have c29b1 : (t125 != 0) = true := bne_iff_ne.mpr c29
    obtain rfl := Option.some.inj H
    go_enter Try.func12, Try.ntmps12
    go_wp2_with (first | ((with_reducible refine gate_dst (N := 1) rfl ?_); refine bx 1 #[.int .i64 a0_0, .int .i64 a0_1, .int .i64 a0_2, .int .i64 a0_3] 25 ?_; intro gb119 hg w36 hbox hb; have BK119 := AX (hbox); have GW119 := gwl (w := w) hg bw; have GE119 := GW119; replace HB := AX (below_step bw hb); clear hb hbox hg; obtain ⟨hcz37_0, hcz37_1, hcz37_2, hcz37_3⟩ := blkC4 (w := w36) BK119.out; obtain ⟨hfz37_0, hfz37_1, hfz37_2, hfz37_3⟩ := blkF4 BK119.out) | ((with_reducible refine gate_callee (f := 26) rfl ?_); refine gL (some 44) Try.func26 #[.int .i64 2000, .int .i64 a0_1, .int .i64 a0_2, .int .i64 a0_3] ?_; (with_reducible refine (civil_Nth.calls k 2000 a0_1 a0_2 a0_3 t122 t123 t124 t125 _ A28.out).mono ?_); rintro e w38 ⟨rfl, hb⟩; refine ⟨_, rfl, ?_⟩; replace BK119 := AX (bkb BK119 hb); replace HB := AX (below_step bw hb); (try clear hb)) | ((with_reducible refine gate_dst (N := 5) rfl ?_); refine bx 5 #[.int .i64 0, .int .i64 0, .int .i64 0] 33 ?_; intro gb126 hg w39 hbox hb; have BK126 := AX (hbox); have GW126 := gwl (w := w) hg bw; have GE126 := GW126; have NB119_126 := nbl hg (bkn BK119); have NB126_119 := nbg hg (bkn BK119); replace BK119 := AX (bkb BK119 hb); replace HB := AX (below_step bw hb); clear hb hbox hg; have hnb40 := NB126_119.out; have hnc40 := NB119_126.out; obtain ⟨hcz41_0, hcz41_1, hcz41_2⟩ := blkC3 (w := w39) BK126.out; obtain ⟨hfz41_0, hfz41_1, hfz41_2⟩ := blkF3 BK126.out))
    go_ret
    exact ⟨by first | rfl | (simp [errW_none, errW_some] <;> rfl) | (simp [*, errW_none, errW_some] <;> rfl), bw⟩
  ·rw [if_neg c27] at H
   have c27b0 : (a0_0 == 2) = false := beq_eq_false_iff_ne.mpr c27
   have c27b1 : (a0_0 != 2) = true := bne_iff_ne.mpr c27
   by_cases c42 : a0_0 = 3
   ·rw [if_pos c42] at H
    have c42b0 : (a0_0 == 3) = true := beq_iff_eq.mpr c42
    have c42b1 : (a0_0 != 3) = false := bne_eq_false_iff_eq.mpr c42
    clear c42
    by_cases c43 : a0_1 ≥ (-100)
    ·rw [if_pos c43] at H
     have c43b0 : decide ((-100) ≤ a0_1) = true := decide_eq_true c43
     clear c43
     by_cases c44 : a0_1 ≤ 100
     ·rw [if_pos c44] at H
      have c44b0 : decide (a0_1 ≤ 100) = true := decide_eq_true c44
      clear c44
      by_cases c45 : a0_2 = 0
      ·rw [if_pos c45] at H
       have c45b0 : (a0_2 == 0) = true := beq_iff_eq.mpr c45
       have c45b1 : (a0_2 != 0) = false := bne_eq_false_iff_eq.mpr c45
       clear c45
       by_cases c46 : a0_3 = 0
       ·rw [if_pos c46] at H
        have c46b0 : (a0_3 == 0) = true := beq_iff_eq.mpr c46
        have c46b1 : (a0_3 != 0) = false := bne_eq_false_iff_eq.mpr c46
        clear c46
        obtain rfl := Option.some.inj H
        go_enter Try.func12, Try.ntmps12
        go_wp2_with (first | ((with_reducible refine gate_dst (N := 1) rfl ?_); refine bx 1 #[.int .i64 a0_0, .int .i64 a0_1, .int .i64 a0_2, .int .i64 a0_3] 25 ?_; intro gb119 hg w47 hbox hb; have BK119 := AX (hbox); have GW119 := gwl (w := w) hg bw; have GE119 := GW119; replace HB := AX (below_step bw hb); clear hb hbox hg; obtain ⟨hcz48_0, hcz48_1, hcz48_2, hcz48_3⟩ := blkC4 (w := w47) BK119.out; obtain ⟨hfz48_0, hfz48_1, hfz48_2, hfz48_3⟩ := blkF4 BK119.out))
        go_ret
        exact ⟨by first | rfl | (simp [errW_none, errW_some] <;> rfl) | (simp [*, errW_none, errW_some] <;> rfl), bw⟩
       ·rw [if_neg c46] at H
        have c46b0 : (a0_3 == 0) = false := beq_eq_false_iff_ne.mpr c46
        have c46b1 : (a0_3 != 0) = true := bne_iff_ne.mpr c46
        obtain rfl := Option.some.inj H
        go_enter Try.func12, Try.ntmps12
        go_wp2_with (first | ((with_reducible refine gate_dst (N := 1) rfl ?_); refine bx 1 #[.int .i64 a0_0, .int .i64 a0_1, .int .i64 a0_2, .int .i64 a0_3] 25 ?_; intro gb119 hg w49 hbox hb; have BK119 := AX (hbox); have GW119 := gwl (w := w) hg bw; have GE119 := GW119; replace HB := AX (below_step bw hb); clear hb hbox hg; obtain ⟨hcz50_0, hcz50_1, hcz50_2, hcz50_3⟩ := blkC4 (w := w49) BK119.out; obtain ⟨hfz50_0, hfz50_1, hfz50_2, hfz50_3⟩ := blkF4 BK119.out))
        go_ret
        exact ⟨by first | rfl | (simp [errW_none, errW_some] <;> rfl) | (simp [*, errW_none, errW_some] <;> rfl), bw⟩
      ·rw [if_neg c45] at H
       have c45b0 : (a0_2 == 0) = false := beq_eq_false_iff_ne.mpr c45
       have c45b1 : (a0_2 != 0) = true := bne_iff_ne.mpr c45
       obtain rfl := Option.some.inj H
       go_enter Try.func12, Try.ntmps12
       go_wp2_with (first | ((with_reducible refine gate_dst (N := 1) rfl ?_); refine bx 1 #[.int .i64 a0_0, .int .i64 a0_1, .int .i64 a0_2, .int .i64 a0_3] 25 ?_; intro gb119 hg w51 hbox hb; have BK119 := AX (hbox); have GW119 := gwl (w := w) hg bw; have GE119 := GW119; replace HB := AX (below_step bw hb); clear hb hbox hg; obtain ⟨hcz52_0, hcz52_1, hcz52_2, hcz52_3⟩ := blkC4 (w := w51) BK119.out; obtain ⟨hfz52_0, hfz52_1, hfz52_2, hfz52_3⟩ := blkF4 BK119.out))
       go_ret
       exact ⟨by first | rfl | (simp [errW_none, errW_some] <;> rfl) | (simp [*, errW_none, errW_some] <;> rfl), bw⟩
     ·rw [if_neg c44] at H
      have c44b0 : decide (a0_1 ≤ 100) = false := decide_eq_false c44
      clear c44
      obtain rfl := Option.some.inj H
      go_enter Try.func12, Try.ntmps12
      go_wp2_with (first | ((with_reducible refine gate_dst (N := 1) rfl ?_); refine bx 1 #[.int .i64 a0_0, .int .i64 a0_1, .int .i64 a0_2, .int .i64 a0_3] 25 ?_; intro gb119 hg w53 hbox hb; have BK119 := AX (hbox); have GW119 := gwl (w := w) hg bw; have GE119 := GW119; replace HB := AX (below_step bw hb); clear hb hbox hg; obtain ⟨hcz54_0, hcz54_1, hcz54_2, hcz54_3⟩ := blkC4 (w := w53) BK119.out; obtain ⟨hfz54_0, hfz54_1, hfz54_2, hfz54_3⟩ := blkF4 BK119.out))
      go_ret
      exact ⟨by first | rfl | (simp [errW_none, errW_some] <;> rfl) | (simp [*, errW_none, errW_some] <;> rfl), bw⟩
    ·rw [if_neg c43] at H
     have c43b0 : decide ((-100) ≤ a0_1) = false := decide_eq_false c43
     clear c43
     obtain rfl := Option.some.inj H
     go_enter Try.func12, Try.ntmps12
     go_wp2_with (first | ((with_reducible refine gate_dst (N := 1) rfl ?_); refine bx 1 #[.int .i64 a0_0, .int .i64 a0_1, .int .i64 a0_2, .int .i64 a0_3] 25 ?_; intro gb119 hg w55 hbox hb; have BK119 := AX (hbox); have GW119 := gwl (w := w) hg bw; have GE119 := GW119; replace HB := AX (below_step bw hb); clear hb hbox hg; obtain ⟨hcz56_0, hcz56_1, hcz56_2, hcz56_3⟩ := blkC4 (w := w55) BK119.out; obtain ⟨hfz56_0, hfz56_1, hfz56_2, hfz56_3⟩ := blkF4 BK119.out))
     go_ret
     exact ⟨by first | rfl | (simp [errW_none, errW_some] <;> rfl) | (simp [*, errW_none, errW_some] <;> rfl), bw⟩
   ·rw [if_neg c42] at H
    have c42b0 : (a0_0 == 3) = false := beq_eq_false_iff_ne.mpr c42
    have c42b1 : (a0_0 != 3) = true := bne_iff_ne.mpr c42
    obtain rfl := Option.some.inj H
    go_enter Try.func12, Try.ntmps12
    go_wp2_with (first | ((with_reducible refine gate_dst (N := 1) rfl ?_); refine bx 1 #[.int .i64 a0_0, .int .i64 a0_1, .int .i64 a0_2, .int .i64 a0_3] 25 ?_; intro gb119 hg w57 hbox hb; have BK119 := AX (hbox); have GW119 := gwl (w := w) hg bw; have GE119 := GW119; replace HB := AX (below_step bw hb); clear hb hbox hg; obtain ⟨hcz58_0, hcz58_1, hcz58_2, hcz58_3⟩ := blkC4 (w := w57) BK119.out; obtain ⟨hfz58_0, hfz58_1, hfz58_2, hfz58_3⟩ := blkF4 BK119.out))
    go_ret
    exact ⟨by first | rfl | (simp [errW_none, errW_some] <;> rfl) | (simp [*, errW_none, errW_some] <;> rfl), bw⟩

/-! ### civil_Of: function 44 -/
def civil_Of.f (a0 : Int) : Option (Int × Int × Int × Int) := if -719162 ≤ a0 ∧ a0 ≤ 2932896 then some (Civ.ofY a0, Civ.ofM a0, Civ.ofD a0, 0) else some (0, 0, 0, 5)
theorem civil_Of.out (n : Int) (w : World) (h : n < -719162 ∨ 2932896 < n) :
    Calls Try.prog 44 #[.int .i64 n] w fun e w' => e = .returned (.tuple #[.agg #[.int .i64 0, .int .i64 0, .int .i64 0], .int .i64 5]) ∧ Below w.heap.size w w' := by
  by_cases h1 : n < -719162
  · clear h
    go_enter Try.func44, Try.ntmps44
    go_wp2
    exact bodyPost_ret (v := .tuple #[.agg #[.int .i64 0, .int .i64 0, .int .i64 0], .int .i64 5]) (by simp [results, Try.results44, go_sem]) rfl ⟨rfl, by repeat (first | exact Below.refl _ _ | apply below_alloc)⟩
  · have h2 : 2932896 < n := by omega
    clear h
    go_enter Try.func44, Try.ntmps44
    go_wp2
    exact bodyPost_ret (v := .tuple #[.agg #[.int .i64 0, .int .i64 0, .int .i64 0], .int .i64 5]) (by simp [results, Try.results44, go_sem]) rfl ⟨rfl, by repeat (first | exact Below.refl _ _ | apply below_alloc)⟩
set_option maxRecDepth 100000 in
theorem civil_Of.inn (n : Int) (w : World) (h1 : -719162 ≤ n) (h2 : n ≤ 2932896) :
    Calls Try.prog 44 #[.int .i64 n] w fun e w' => e = .returned (.tuple #[.agg #[.int .i64 (Civ.ofY n), .int .i64 (Civ.ofM n), .int .i64 (Civ.ofD n)], .int .i64 0]) ∧ Below w.heap.size w w' := by
  have hE : 0 ≤ Civ.ofE n ∧ Civ.ofE n ≤ 25 := by unfold Civ.ofE; omega
  have hq : 0 ≤ Civ.ofday n ∧ Civ.ofday n ≤ 146096 := by unfold Civ.ofday; omega
  obtain ⟨hd1, hd2, -, ho1, ho2⟩ := Civ.ofdoy_bd n
  have hd3 : Civ.ofdoy n ≤ 365 := by have := Civ.lp_01 (Civ.ofE n * 400 + Civ.ofof n + 1); omega
  clear hd2
  have hm : 0 ≤ Civ.ofmp n ∧ Civ.ofmp n ≤ 11 := by unfold Civ.ofmp; omega
  obtain ⟨hE1, hE2⟩ := hE
  obtain ⟨hq1, hq2⟩ := hq
  obtain ⟨hm1, hm2⟩ := hm
  go_enter Try.func44, Try.ntmps44
  go_upto_region 4 with (fail)
  go_cut [5, 6] (fun v5 v6 wc => v5 = .int .i64 (Civ.ofE n) ∧ v6 = .int .i64 (Civ.ofday n) ∧ wc = w.alloc (.cells #[.int .i64 0, .int .i64 0, .int .i64 0] 33))
  case first =>
    go_wp2
    go_meet
    case rel => exact ⟨rfl, rfl, rfl⟩
  case rest =>
    obtain ⟨rfl, rfl, rfl⟩ := hcut
    go_upto_region 5 with (fail)
    go_cut [7] (fun v7 wc => v7 = .int .i64 (Civ.ofof n) ∧ wc = w.alloc (.cells #[.int .i64 0, .int .i64 0, .int .i64 0] 33))
    case first =>
      go_wp2
      go_meet
      case rel => exact ⟨rfl, rfl⟩
    case rest =>
     obtain ⟨rfl, rfl⟩ := hcut
     go_upto_region 6 with (fail)
     go_cut [6] (fun v6 wc => v6 = .int .i64 (Civ.ofdoy n) ∧ wc = w.alloc (.cells #[.int .i64 0, .int .i64 0, .int .i64 0] 33))
     case first =>
      go_wp2
      go_meet
      case rel => exact ⟨rfl, rfl⟩
     case rest =>
      obtain ⟨rfl, rfl⟩ := hcut
      go_upto_region 7 with (fail)
      go_cut [8] (fun v8 wc => v8 = .int .i64 (Civ.ofmp n) ∧ wc = w.alloc (.cells #[.int .i64 0, .int .i64 0, .int .i64 0] 33))
      case first =>
        go_wp2
        go_meet
        case rel => exact ⟨rfl, rfl⟩
      case rest =>
        obtain ⟨rfl, rfl⟩ := hcut
        by_cases hc : 12 < Civ.ofmp n + 3
        · go_wp2
          exact bodyPost_ret (v := .tuple #[.agg #[.int .i64 (Civ.ofE n * 400 + Civ.ofof n + 1), .int .i64 (Civ.ofmp n + 3 - 12), .int .i64 (Civ.ofD n)], .int .i64 0]) (by simp [results, Try.results44, go_sem]; rfl) rfl ⟨by unfold Civ.ofY Civ.ofM; rw [if_pos hc, if_pos hc], by repeat (first | exact Below.refl _ _ | apply below_alloc)⟩
        · go_wp2
          exact bodyPost_ret (v := .tuple #[.agg #[.int .i64 (Civ.ofE n * 400 + Civ.ofof n), .int .i64 (Civ.ofmp n + 3), .int .i64 (Civ.ofD n)], .int .i64 0]) (by simp [results, Try.results44, go_sem]; rfl) rfl ⟨by unfold Civ.ofY Civ.ofM; rw [if_neg (by omega), if_neg (by omega)], by repeat (first | exact Below.refl _ _ | apply below_alloc)⟩
theorem civil_Of.calls (a0 : Int) (r1 : Int) (r2 : Int) (r3 : Int) (r4 : Int) (w : World) (h : civil_Of.f a0 = some (r1, r2, r3, r4)) :
    Calls Try.prog 44 #[.int .i64 a0] w fun e w' => e = .returned (.tuple #[.agg #[.int .i64 r1, .int .i64 r2, .int .i64 r3], .int .i64 r4]) ∧ Below w.heap.size w w' := by
  unfold civil_Of.f at h
  by_cases c : -719162 ≤ a0 ∧ a0 ≤ 2932896
  · rw [if_pos c] at h
    simp only [Option.some.injEq, Prod.mk.injEq] at h
    obtain ⟨rfl, rfl, rfl, rfl⟩ := h
    exact civil_Of.inn a0 w c.1 c.2
  · rw [if_neg c] at h
    simp only [Option.some.injEq, Prod.mk.injEq] at h
    obtain ⟨rfl, rfl, rfl, rfl⟩ := h
    exact civil_Of.out a0 w (by omega)

/-! ### civil_Add: function 27 -/
def civil_Add.f (a0_0 : Int) (a0_1 : Int) (a0_2 : Int) (a1 : Int) : Option (Int × Int × Int × Int) := (civil_Days.f a0_0 a0_1 a0_2).bind fun bt129 => (if bt129.2 = 0 then (if a1 < (-3652058) then (some (0, 0, 0, 5)) else (if a1 > 3652058 then (some (0, 0, 0, 5)) else ((civil_Of.f (wrap64 (bt129.1 + a1))).bind fun bt131 => (some (bt131.1, bt131.2.1, bt131.2.2.1, bt131.2.2.2))))) else (some (0, 0, 0, 5)))
set_option maxHeartbeats 8000000 in
set_option maxRecDepth 100000 in
theorem civil_Add.calls (a0_0 : Int) (a0_1 : Int) (a0_2 : Int) (a1 : Int) (r1 : Int) (r2 : Int) (r3 : Int) (r4 : Int) (w : World) (h : civil_Add.f a0_0 a0_1 a0_2 a1 = some (r1, r2, r3, r4)) :
  Calls Try.prog 27 #[.agg #[.int .i64 a0_0, .int .i64 a0_1, .int .i64 a0_2], .int .i64 a1] w fun e w' => e = .returned (.tuple #[.agg #[.int .i64 r1, .int .i64 r2, .int .i64 r3], .int .i64 r4]) ∧ Below w.heap.size w w' := by
 have hu33 := Try.underlying33
 have HB := AX (Below.refl w.heap.size w)
 have H : ((civil_Days.f a0_0 a0_1 a0_2).bind fun bt129 => (if bt129.2 = 0 then (if a1 < (-3652058) then (some (0, 0, 0, 5)) else (if a1 > 3652058 then (some (0, 0, 0, 5)) else ((civil_Of.f (wrap64 (bt129.1 + a1))).bind fun bt131 => (some (bt131.1, bt131.2.1, bt131.2.2.1, bt131.2.2.2))))) else (some (0, 0, 0, 5)))) = some (r1, r2, r3, r4) := h
 clear h
 replace H := Option.bind_eq_some_iff.mp H
 obtain ⟨⟨t129, t130⟩, A30, H⟩ := H
 replace H : (if t130 = 0 then (if a1 < (-3652058) then (some (0, 0, 0, 5)) else (if a1 > 3652058 then (some (0, 0, 0, 5)) else ((civil_Of.f (wrap64 (t129 + a1))).bind fun bt131 => (some (bt131.1, bt131.2.1, bt131.2.2.1, bt131.2.2.2))))) else (some (0, 0, 0, 5))) = some (r1, r2, r3, r4) := H
 have A3 := AX A30
 clear A30
 by_cases c4 : t130 = 0
 ·rw [if_pos c4] at H
  have c4b0 : (t130 == 0) = true := beq_iff_eq.mpr c4
  have c4b1 : (t130 != 0) = false := bne_eq_false_iff_eq.mpr c4
  clear c4
  by_cases c5 : a1 < (-3652058)
  ·rw [if_pos c5] at H
   have c5b0 : decide (a1 < (-3652058)) = true := decide_eq_true c5
   clear c5
   simp only [Option.some.injEq, Prod.mk.injEq] at H
   obtain ⟨rfl, rfl, rfl, rfl⟩ := H
   go_enter Try.func27, Try.ntmps27
   go_wp2_with (first | ((with_reducible refine gate_dst (N := 2) rfl ?_); refine bx 2 #[.int .i64 a0_0, .int .i64 a0_1, .int .i64 a0_2] 33 ?_; intro gb127 hg w6 hbox hb; have BK127 := AX (hbox); have GW127 := gwl (w := w) hg bw; have GE127 := GW127; replace HB := AX (below_step bw hb); clear hb hbox hg) | ((with_reducible refine gate_dst (N := 4) rfl ?_); refine bx 4 #[.int .i64 0, .int .i64 0, .int .i64 0] 33 ?_; intro gb128 hg w7 hbox hb; have BK128 := AX (hbox); have GW128 := gwl (w := w) hg bw; have GE128 := GW128; have NB127_128 := nbl hg (bkn BK127); have NB128_127 := nbg hg (bkn BK127); replace BK127 := AX (bkb BK127 hb); replace HB := AX (below_step bw hb); clear hb hbox hg; have hnb8 := NB127_128.out; have hnc8 := NB128_127.out; obtain ⟨hcz9_0, hcz9_1, hcz9_2⟩ := blkC3 (w := w7) BK127.out; obtain ⟨hfz9_0, hfz9_1, hfz9_2⟩ := blkF3 BK127.out) | ((with_reducible refine gate_callee (f := 32) rfl ?_); refine gL (some 10) Try.func32 #[.agg #[.int .i64 a0_0, .int .i64 a0_1, .int .i64 a0_2]] ?_; (with_reducible refine (civil_Days.calls a0_0 a0_1 a0_2 t129 t130 _ A3.out).mono ?_); rintro e w10 ⟨rfl, hb⟩; refine ⟨_, rfl, ?_⟩; replace BK127 := AX (bkb BK127 hb); replace BK128 := AX (bkb BK128 hb); replace HB := AX (below_step bw hb); (try clear hb); obtain ⟨hcz11_0, hcz11_1, hcz11_2⟩ := blkC3 (w := w10) BK128.out; obtain ⟨hfz11_0, hfz11_1, hfz11_2⟩ := blkF3 BK128.out))
   refine bodyPost_ret (results_ct rfl _ _ gb128 33 #[.int .i64 0, .int .i64 0, .int .i64 0] (0, 0) _ rfl (by (with_reducible repeat first|refine blk_drewN ?_ _|refine blk_drew ?_|refine blk_alloc ?_ _); refine blk_put (cs := #[.int .i64 0, .int .i64 0, .int .i64 0]) ?_ 2 _ rfl; (with_reducible repeat first|refine blk_drewN ?_ _|refine blk_drew ?_|refine blk_alloc ?_ _); refine blk_put (cs := #[.int .i64 0, .int .i64 0, .int .i64 0]) ?_ 1 _ rfl; (with_reducible repeat first|refine blk_drewN ?_ _|refine blk_drew ?_|refine blk_alloc ?_ _); refine blk_put (cs := #[.int .i64 0, .int .i64 0, .int .i64 0]) ?_ 0 _ rfl; (with_reducible repeat first|refine blk_drewN ?_ _|refine blk_drew ?_|refine blk_alloc ?_ _); exact BK128.out) Try.underlying33 rfl (by kernel_rfl)) rfl ?_
   exact ⟨by first | rfl | (simp [errW_none, errW_some] <;> rfl) | (simp [*, errW_none, errW_some] <;> rfl), bw⟩
  ·rw [if_neg c5] at H
   have c5b0 : decide (a1 < (-3652058)) = false := decide_eq_false c5
   clear c5
   by_cases c12 : a1 > 3652058
   ·rw [if_pos c12] at H
    have c12b0 : decide (3652058 < a1) = true := decide_eq_true c12
    clear c12
    simp only [Option.some.injEq, Prod.mk.injEq] at H
    obtain ⟨rfl, rfl, rfl, rfl⟩ := H
    go_enter Try.func27, Try.ntmps27
    go_wp2_with (first | ((with_reducible refine gate_dst (N := 2) rfl ?_); refine bx 2 #[.int .i64 a0_0, .int .i64 a0_1, .int .i64 a0_2] 33 ?_; intro gb127 hg w13 hbox hb; have BK127 := AX (hbox); have GW127 := gwl (w := w) hg bw; have GE127 := GW127; replace HB := AX (below_step bw hb); clear hb hbox hg) | ((with_reducible refine gate_dst (N := 4) rfl ?_); refine bx 4 #[.int .i64 0, .int .i64 0, .int .i64 0] 33 ?_; intro gb128 hg w14 hbox hb; have BK128 := AX (hbox); have GW128 := gwl (w := w) hg bw; have GE128 := GW128; have NB127_128 := nbl hg (bkn BK127); have NB128_127 := nbg hg (bkn BK127); replace BK127 := AX (bkb BK127 hb); replace HB := AX (below_step bw hb); clear hb hbox hg; have hnb15 := NB127_128.out; have hnc15 := NB128_127.out; obtain ⟨hcz16_0, hcz16_1, hcz16_2⟩ := blkC3 (w := w14) BK127.out; obtain ⟨hfz16_0, hfz16_1, hfz16_2⟩ := blkF3 BK127.out) | ((with_reducible refine gate_callee (f := 32) rfl ?_); refine gL (some 10) Try.func32 #[.agg #[.int .i64 a0_0, .int .i64 a0_1, .int .i64 a0_2]] ?_; (with_reducible refine (civil_Days.calls a0_0 a0_1 a0_2 t129 t130 _ A3.out).mono ?_); rintro e w17 ⟨rfl, hb⟩; refine ⟨_, rfl, ?_⟩; replace BK127 := AX (bkb BK127 hb); replace BK128 := AX (bkb BK128 hb); replace HB := AX (below_step bw hb); (try clear hb); obtain ⟨hcz18_0, hcz18_1, hcz18_2⟩ := blkC3 (w := w17) BK128.out; obtain ⟨hfz18_0, hfz18_1, hfz18_2⟩ := blkF3 BK128.out))
    refine bodyPost_ret (results_ct rfl _ _ gb128 33 #[.int .i64 0, .int .i64 0, .int .i64 0] (0, 0) _ rfl (by (with_reducible repeat first|refine blk_drewN ?_ _|refine blk_drew ?_|refine blk_alloc ?_ _); refine blk_put (cs := #[.int .i64 0, .int .i64 0, .int .i64 0]) ?_ 2 _ rfl; (with_reducible repeat first|refine blk_drewN ?_ _|refine blk_drew ?_|refine blk_alloc ?_ _); refine blk_put (cs := #[.int .i64 0, .int .i64 0, .int .i64 0]) ?_ 1 _ rfl; (with_reducible repeat first|refine blk_drewN ?_ _|refine blk_drew ?_|refine blk_alloc ?_ _); refine blk_put (cs := #[.int .i64 0, .int .i64 0, .int .i64 0]) ?_ 0 _ rfl; (with_reducible repeat first|refine blk_drewN ?_ _|refine blk_drew ?_|refine blk_alloc ?_ _); exact BK128.out) Try.underlying33 rfl (by kernel_rfl)) rfl ?_
    exact ⟨by first | rfl | (simp [errW_none, errW_some] <;> rfl) | (simp [*, errW_none, errW_some] <;> rfl), bw⟩
   ·rw [if_neg c12] at H
    have c12b0 : decide (3652058 < a1) = false := decide_eq_false c12
    clear c12
    replace H := Option.bind_eq_some_iff.mp H
    obtain ⟨⟨t131, t132, t133, t134⟩, A190, H⟩ := H
    replace H : (some (t131, t132, t133, t134)) = some (r1, r2, r3, r4) := H
    have A19 := AX A190
    clear A190
    simp only [Option.some.injEq, Prod.mk.injEq] at H
    obtain ⟨rfl, rfl, rfl, rfl⟩ := H
    go_enter Try.func27, Try.ntmps27
    go_wp2_with (first | ((with_reducible refine gate_dst (N := 2) rfl ?_); refine bx 2 #[.int .i64 a0_0, .int .i64 a0_1, .int .i64 a0_2] 33 ?_; intro gb127 hg w20 hbox hb; have BK127 := AX (hbox); have GW127 := gwl (w := w) hg bw; have GE127 := GW127; replace HB := AX (below_step bw hb); clear hb hbox hg) | ((with_reducible refine gate_dst (N := 4) rfl ?_); refine bx 4 #[.int .i64 0, .int .i64 0, .int .i64 0] 33 ?_; intro gb128 hg w21 hbox hb; have BK128 := AX (hbox); have GW128 := gwl (w := w) hg bw; have GE128 := GW128; have NB127_128 := nbl hg (bkn BK127); have NB128_127 := nbg hg (bkn BK127); replace BK127 := AX (bkb BK127 hb); replace HB := AX (below_step bw hb); clear hb hbox hg; have hnb22 := NB127_128.out; have hnc22 := NB128_127.out; obtain ⟨hcz23_0, hcz23_1, hcz23_2⟩ := blkC3 (w := w21) BK127.out; obtain ⟨hfz23_0, hfz23_1, hfz23_2⟩ := blkF3 BK127.out) | ((with_reducible refine gate_callee (f := 32) rfl ?_); refine gL (some 10) Try.func32 #[.agg #[.int .i64 a0_0, .int .i64 a0_1, .int .i64 a0_2]] ?_; (with_reducible refine (civil_Days.calls a0_0 a0_1 a0_2 t129 t130 _ A3.out).mono ?_); rintro e w24 ⟨rfl, hb⟩; refine ⟨_, rfl, ?_⟩; replace BK127 := AX (bkb BK127 hb); replace BK128 := AX (bkb BK128 hb); replace HB := AX (below_step bw hb); (try clear hb)) | ((with_reducible refine gate_callee (f := 44) rfl ?_); refine gL (some 27) Try.func44 #[.int .i64 (wrap64 (t129 + a1))] ?_; (with_reducible refine (civil_Of.calls (wrap64 (t129 + a1)) t131 t132 t133 t134 _ A19.out).mono ?_); rintro e w25 ⟨rfl, hb⟩; refine ⟨_, rfl, ?_⟩; replace BK127 := AX (bkb BK127 hb); replace BK128 := AX (bkb BK128 hb); replace HB := AX (below_step bw hb); (try clear hb); obtain ⟨hcz26_0, hcz26_1, hcz26_2⟩ := blkC3 (w := w25) BK128.out; obtain ⟨hfz26_0, hfz26_1, hfz26_2⟩ := blkF3 BK128.out))
    refine bodyPost_ret (results_ct rfl _ _ gb128 33 #[.int .i64 t131, .int .i64 t132, .int .i64 t133] (0, 0) _ rfl (by (with_reducible repeat first|refine blk_drewN ?_ _|refine blk_drew ?_|refine blk_alloc ?_ _); refine blk_put (cs := #[.int .i64 t131, .int .i64 t132, .int .i64 0]) ?_ 2 _ rfl; (with_reducible repeat first|refine blk_drewN ?_ _|refine blk_drew ?_|refine blk_alloc ?_ _); refine blk_put (cs := #[.int .i64 t131, .int .i64 0, .int .i64 0]) ?_ 1 _ rfl; (with_reducible repeat first|refine blk_drewN ?_ _|refine blk_drew ?_|refine blk_alloc ?_ _); refine blk_put (cs := #[.int .i64 0, .int .i64 0, .int .i64 0]) ?_ 0 _ rfl; (with_reducible repeat first|refine blk_drewN ?_ _|refine blk_drew ?_|refine blk_alloc ?_ _); exact BK128.out) Try.underlying33 rfl (by kernel_rfl)) rfl ?_
    exact ⟨by first | rfl | (simp [errW_none, errW_some] <;> rfl) | (simp [*, errW_none, errW_some] <;> rfl), bw⟩
 ·rw [if_neg c4] at H
  have c4b0 : (t130 == 0) = false := beq_eq_false_iff_ne.mpr c4
  have c4b1 : (t130 != 0) = true := bne_iff_ne.mpr c4
  simp only [Option.some.injEq, Prod.mk.injEq] at H
  obtain ⟨rfl, rfl, rfl, rfl⟩ := H
  go_enter Try.func27, Try.ntmps27
  go_wp2_with (first | ((with_reducible refine gate_dst (N := 2) rfl ?_); refine bx 2 #[.int .i64 a0_0, .int .i64 a0_1, .int .i64 a0_2] 33 ?_; intro gb127 hg w27 hbox hb; have BK127 := AX (hbox); have GW127 := gwl (w := w) hg bw; have GE127 := GW127; replace HB := AX (below_step bw hb); clear hb hbox hg) | ((with_reducible refine gate_dst (N := 4) rfl ?_); refine bx 4 #[.int .i64 0, .int .i64 0, .int .i64 0] 33 ?_; intro gb128 hg w28 hbox hb; have BK128 := AX (hbox); have GW128 := gwl (w := w) hg bw; have GE128 := GW128; have NB127_128 := nbl hg (bkn BK127); have NB128_127 := nbg hg (bkn BK127); replace BK127 := AX (bkb BK127 hb); replace HB := AX (below_step bw hb); clear hb hbox hg; have hnb29 := NB127_128.out; have hnc29 := NB128_127.out; obtain ⟨hcz30_0, hcz30_1, hcz30_2⟩ := blkC3 (w := w28) BK127.out; obtain ⟨hfz30_0, hfz30_1, hfz30_2⟩ := blkF3 BK127.out) | ((with_reducible refine gate_callee (f := 32) rfl ?_); refine gL (some 10) Try.func32 #[.agg #[.int .i64 a0_0, .int .i64 a0_1, .int .i64 a0_2]] ?_; (with_reducible refine (civil_Days.calls a0_0 a0_1 a0_2 t129 t130 _ A3.out).mono ?_); rintro e w31 ⟨rfl, hb⟩; refine ⟨_, rfl, ?_⟩; replace BK127 := AX (bkb BK127 hb); replace BK128 := AX (bkb BK128 hb); replace HB := AX (below_step bw hb); (try clear hb); obtain ⟨hcz32_0, hcz32_1, hcz32_2⟩ := blkC3 (w := w31) BK128.out; obtain ⟨hfz32_0, hfz32_1, hfz32_2⟩ := blkF3 BK128.out))
  refine bodyPost_ret (results_ct rfl _ _ gb128 33 #[.int .i64 0, .int .i64 0, .int .i64 0] (0, 0) _ rfl (by (with_reducible repeat first|refine blk_drewN ?_ _|refine blk_drew ?_|refine blk_alloc ?_ _); refine blk_put (cs := #[.int .i64 0, .int .i64 0, .int .i64 0]) ?_ 2 _ rfl; (with_reducible repeat first|refine blk_drewN ?_ _|refine blk_drew ?_|refine blk_alloc ?_ _); refine blk_put (cs := #[.int .i64 0, .int .i64 0, .int .i64 0]) ?_ 1 _ rfl; (with_reducible repeat first|refine blk_drewN ?_ _|refine blk_drew ?_|refine blk_alloc ?_ _); refine blk_put (cs := #[.int .i64 0, .int .i64 0, .int .i64 0]) ?_ 0 _ rfl; (with_reducible repeat first|refine blk_drewN ?_ _|refine blk_drew ?_|refine blk_alloc ?_ _); exact BK128.out) Try.underlying33 rfl (by kernel_rfl)) rfl ?_
  exact ⟨by first | rfl | (simp [errW_none, errW_some] <;> rfl) | (simp [*, errW_none, errW_some] <;> rfl), bw⟩

end Go.Proofs.Ytegedhnbmclbkaa.PX
