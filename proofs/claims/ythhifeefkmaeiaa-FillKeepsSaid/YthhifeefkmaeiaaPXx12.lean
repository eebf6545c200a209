/- Functions of the program as plain Lean functions, each with a proof that the call in the machine answers just what the plain function says; condition: the plain function answers at all. -/
import Derived.Test.YthhifeefkmaeiaaPXx0
import Derived.Test.YthhifeefkmaeiaaPXx3
import Derived.Test.YthhifeefkmaeiaaPXx4
namespace Go.Proofs.Ythhifeefkmaeiaa.PX
open Go.RowKit Go.Proofs.YthhifeefkmaeiaaW.PrintWords Go.Proofs.YthhifeefkmaeiaaW.PrintLast Go.Proofs.YthhifeefkmaeiaaW.PrintMore
attribute [local go_sem] max2_int min2_int max_two min_two max_three min_three max_four min_four   -- for this text's walks alone
set_option linter.unusedVariables false
set_option linter.unusedSimpArgs false

/-! ### pylonlaw11_FillLines: function 3 -/
def pylonlaw11_FillLines.j0 : Nat → Int → Int → Int → Bool → Option (Bool)
 | 0, _, _, _, _ => none
 | k + 1, x0, x1, x2, x18 => if x18 = true then ((pylonref11_Line.f k x0 x1 (Int.tmod x2 3000)).bind fun bt133 => ((fill_Line.f x0 x1 (Int.tmod x2 3000)).bind fun bt137 => (if bt137.2 = bt133.2 then ((pylonref01_SameNumbers.f k bt137.1 bt133.1).bind fun t141 => (some t141)) else (some false)))) else ((pylonref11_Line.f k x0 x1 x2).bind fun bt142 => ((fill_Line.f x0 x1 x2).bind fun bt146 => (if bt146.2 = bt142.2 then ((pylonref01_SameNumbers.f k bt146.1 bt142.1).bind fun t150 => (some t150)) else (some false))))
def pylonlaw11_FillLines.f (k : Nat) (a0 : Int) (a1 : Int) (a2 : Int) : Option (Bool) := (pylonlaw11_awake.f k).bind fun t132 => (if t132 = true then (if a2 > 3000 then (pylonlaw11_FillLines.j0 k a0 a1 a2 (decide (a2 ≤ 40000))) else (pylonlaw11_FillLines.j0 k a0 a1 a2 false)) else (some false))
theorem pylonlaw11_FillLines.mono_l : ∀ k, (∀ y0 y1 y2 y3, LeO (pylonlaw11_FillLines.j0 k y0 y1 y2 y3) (pylonlaw11_FillLines.j0 (k + 1) y0 y1 y2 y3))
 | 0 => fun _ _ _ _ r h => by simp [pylonlaw11_FillLines.j0] at h
 | k + 1 => by
  have ih0 := pylonlaw11_FillLines.mono_l k
  ·intro y0 y1 y2 y3
   unfold pylonlaw11_FillLines.j0
   repeat' first
   | (with_reducible exact ih0 _ _ _ _)
   | (with_reducible exact pylonlaw11_awake.mono _)
   | (with_reducible exact pylonref01_SameNumbers.mono _ _ _)
   | (with_reducible exact pylonref11_Line.mono _ _ _ _)
   | (with_reducible exact LeO.refl _)
   | (with_reducible exact LeO.none _)
   | (with_reducible refine LeO.ite ?_ ?_)
   | (with_reducible refine LeO.bind ?_ (fun _ => ?_))
theorem pylonlaw11_FillLines.mono : ∀ a0 a1 a2 k, LeO (pylonlaw11_FillLines.f k a0 a1 a2) (pylonlaw11_FillLines.f (k + 1) a0 a1 a2) := by
 intro a0 a1 a2 k
 have ih0 := pylonlaw11_FillLines.mono_l k
 unfold pylonlaw11_FillLines.f
 repeat' first
   | (with_reducible exact ih0 _ _ _ _)
   | (with_reducible exact pylonlaw11_awake.mono _)
   | (with_reducible exact pylonref01_SameNumbers.mono _ _ _)
   | (with_reducible exact pylonref11_Line.mono _ _ _ _)
   | (with_reducible exact LeO.refl _)
   | (with_reducible exact LeO.none _)
   | (with_reducible refine LeO.ite ?_ ?_)
   | (with_reducible refine LeO.bind ?_ (fun _ => ?_))
set_option maxHeartbeats 8000000 in
set_option maxRecDepth 100000 in
theorem pylonlaw11_FillLines.calls (k : Nat) (a0 : Int) (a1 : Int) (a2 : Int) (r : Bool) (w : World) (h : pylonlaw11_FillLines.f k a0 a1 a2 = some r) :
  Calls Try.prog 3 #[.int .i64 a0, .int .i64 a1, .int .i64 a2] w fun e w' => e = .returned (.bool r) ∧ Below w.heap.size w w' := by
 have HB := AX (Below.refl w.heap.size w)
 have H : ((pylonlaw11_awake.f k).bind fun t132 => (if t132 = true then (if a2 > 3000 then (pylonlaw11_FillLines.j0 k a0 a1 a2 (decide (a2 ≤ 40000))) else (pylonlaw11_FillLines.j0 k a0 a1 a2 false)) else (some false))) = some r := h
 clear h
 replace H := Option.bind_eq_some_iff.mp H
 obtain ⟨t132, A40, H⟩ := H
 replace H : (if t132 = true then (if a2 > 3000 then (pylonlaw11_FillLines.j0 k a0 a1 a2 (decide (a2 ≤ 40000))) else (pylonlaw11_FillLines.j0 k a0 a1 a2 false)) else (some false)) = some r := H
 have A4 := AX A40
 clear A40
 by_cases c5 : t132 = true
 ·subst c5
  have H1 : (if a2 > 3000 then (pylonlaw11_FillLines.j0 k a0 a1 a2 (decide (a2 ≤ 40000))) else (pylonlaw11_FillLines.j0 k a0 a1 a2 false)) = some r := by rw [if_pos rfl] at H; exact H
  clear H
  have H := H1
  clear H1
  have HC6 := AX H
  clear H
  go_enter Try.func3, Try.ntmps3
  go_upto_region 3 with (first | ((with_reducible refine gate_callee (f := 10) rfl ?_); refine gL (some 11) Try.func10 #[] ?_; (with_reducible refine (pylonlaw11_awake.calls k  true _ A4.out).mono ?_); rintro e w7 ⟨rfl, hb⟩; refine ⟨_, rfl, ?_⟩; replace HB := AX (below_step bw hb); (try clear hb)))
  (try simp only [Act.put, List.setIfInBounds_toArray, List.set_cons_zero, List.set_cons_succ])
  go_cut [18] (fun v18 wc => ∃ (kq : Nat) (x18_5 : Bool), v18 = .bool x18_5 ∧ Aside0 (pylonlaw11_FillLines.j0 kq a0 a1 a2 x18_5 = some r) ∧ Aside0 (kq ≤ k) ∧ Aside0 (Below w.heap.size w wc))
  case first =>
   have H := HC6.out
   clear HC6
   by_cases c8 : a2 > 3000
   ·rw [if_pos c8] at H
    have c8b0 : decide (3000 < a2) = true := decide_eq_true c8
    clear c8
    (first | rw [c8b0] | (simp only [i64_w, i32_w]; rw [c8b0]) | skip)
    have H' := AX H
    clear H
    go_wp2
    go_meet
    case rel => exact ⟨_, (decide (a2 ≤ 40000)), (by first | rfl | (simp; done) | (simp [*]; done)), H', ⟨by first | omega | exact Nat.le_refl _⟩, ⟨bw⟩⟩
   ·rw [if_neg c8] at H
    have c8b0 : decide (3000 < a2) = false := decide_eq_false c8
    clear c8
    (first | rw [c8b0] | (simp only [i64_w, i32_w]; rw [c8b0]) | skip)
    have H' := AX H
    clear H
    go_wp2
    go_meet
    case rel => exact ⟨_, (false), (by first | rfl | (simp; done) | (simp [*]; done)), H', ⟨by first | omega | exact Nat.le_refl _⟩, ⟨bw⟩⟩
  case rest =>
   clear HC6
   try clear c5
   obtain ⟨kq, x18_5, rfl, HA, HJ5, HB⟩ := hcut
   cases kq with
   | zero => exact absurd HA.out (by simp [pylonlaw11_FillLines.j0])
   | succ kj5 =>
    have H := HA.out
    clear HA
    simp only [pylonlaw11_FillLines.j0] at H
    by_cases c9 : x18_5 = true
    ·subst c9
     have H1 : ((pylonref11_Line.f kj5 a0 a1 (Int.tmod a2 3000)).bind fun bt133 => ((fill_Line.f a0 a1 (Int.tmod a2 3000)).bind fun bt137 => (if bt137.2 = bt133.2 then ((pylonref01_SameNumbers.f kj5 bt137.1 bt133.1).bind fun t141 => (some t141)) else (some false)))) = some r := by rw [if_pos rfl] at H; exact H
     clear H
     have H := H1
     clear H1
     replace H := Option.bind_eq_some_iff.mp H
     obtain ⟨⟨t133, t134⟩, A100, H⟩ := H
     replace H : ((fill_Line.f a0 a1 (Int.tmod a2 3000)).bind fun bt137 => (if bt137.2 = t134 then ((pylonref01_SameNumbers.f kj5 bt137.1 t133).bind fun t141 => (some t141)) else (some false))) = some r := H
     have A10 := AX A100
     clear A100
     replace H := Option.bind_eq_some_iff.mp H
     obtain ⟨⟨t137, t138⟩, A110, H⟩ := H
     replace H : (if t138 = t134 then ((pylonref01_SameNumbers.f kj5 t137 t133).bind fun t141 => (some t141)) else (some false)) = some r := H
     have A11 := AX A110
     clear A110
     by_cases c12 : t138 = t134
     ·rw [if_pos c12] at H
      have c12b0 : (t138 == t134) = true := beq_iff_eq.mpr c12
      have c12b1 : (t138 != t134) = false := bne_eq_false_iff_eq.mpr c12
      clear c12
      replace H := Option.bind_eq_some_iff.mp H
      obtain ⟨t141, A130, H⟩ := H
      replace H : (some t141) = some r := H
      have A13 := AX A130
      clear A130
      obtain rfl := Option.some.inj H
      go_wp2_with (first | ((with_reducible refine gate_callee (f := 11) rfl ?_); refine gL (some 25) Try.func11 #[.int .i64 a0, .int .i64 a1, .int .i64 (Int.tmod a2 3000)] ?_; (with_reducible refine (pylonref11_Line.calls kj5 a0 a1 (Int.tmod a2 3000) t133 t134 _ A10.out).mono ?_); rintro e w14 ⟨v135, rfl, ho0, hb⟩; refine ⟨_, rfl, ?_⟩; have HO136 := AX (Kd.R_lower ho0 (below_size bw)); replace HB := AX (below_step bw hb); (try clear hb); (try clear hb2); (try clear hk); (try clear hi); (try clear ho0)) | ((with_reducible refine gate_callee (f := 12) rfl ?_); refine gL (some 32) Try.func12 #[.int .i64 a0, .int .i64 a1, .int .i64 (Int.tmod a2 3000)] ?_; (with_reducible refine (fill_Line.calls a0 a1 (Int.tmod a2 3000) t137 t138 _ A11.out).mono ?_); rintro e w15 ⟨v139, rfl, ho0, hb⟩; refine ⟨_, rfl, ?_⟩; have HO140 := AX (Kd.R_lower (Kd.R_new' ho0 (Kd.R_lt (kr HO136))) (below_size bw)); replace HO136 := AX (Kd.R_elder' (kr HO136) (Kd.R_base ho0) hb); replace HB := AX (below_step bw hb); (try clear hb); (try clear hb2); (try clear hk); (try clear hi); (try clear ho0); obtain ⟨Ao16, co16, eo16⟩ := Kd.R_slice HO140.out; subst eo16; obtain ⟨Ao17, co17, eo17⟩ := Kd.R_slice HO136.out; subst eo17) | (go_at_call 13; (with_reducible refine (pylonref01_SameNumbers.calls kj5 _ _ t137 _ _ t133 t141 _ ?side1 ?side2 ?side3 ?side4 A13.out).mono ?_); (case side1 => repeat (first | exact (Kd.R_reads' HO140.out).2.2 | (with_reducible refine Kd.C_alloc ?_ _) | (with_reducible refine Kd.C_drewN ?_ _) | (with_reducible refine Kd.C_drew ?_))); (case side2 => exact (Kd.R_reads' HO140.out).2.1); (case side3 => repeat (first | exact (Kd.R_reads' HO136.out).2.2 | (with_reducible refine Kd.C_alloc ?_ _) | (with_reducible refine Kd.C_drewN ?_ _) | (with_reducible refine Kd.C_drew ?_))); (case side4 => exact (Kd.R_reads' HO136.out).2.1); rintro e w' ⟨rfl, ⟨nd, rfl⟩⟩))
      go_ret
      exact ⟨by first | rfl | (simp [errW_none, errW_some] <;> rfl) | (simp [*, errW_none, errW_some] <;> rfl), bw⟩
     ·rw [if_neg c12] at H
      have c12b0 : (t138 == t134) = false := beq_eq_false_iff_ne.mpr c12
      have c12b1 : (t138 != t134) = true := bne_iff_ne.mpr c12
      obtain rfl := Option.some.inj H
      go_wp2_with (first | ((with_reducible refine gate_callee (f := 11) rfl ?_); refine gL (some 25) Try.func11 #[.int .i64 a0, .int .i64 a1, .int .i64 (Int.tmod a2 3000)] ?_; (with_reducible refine (pylonref11_Line.calls kj5 a0 a1 (Int.tmod a2 3000) t133 t134 _ A10.out).mono ?_); rintro e w18 ⟨v135, rfl, ho0, hb⟩; refine ⟨_, rfl, ?_⟩; have HO136 := AX (Kd.R_lower ho0 (below_size bw)); replace HB := AX (below_step bw hb); (try clear hb); (try clear hb2); (try clear hk); (try clear hi); (try clear ho0)) | ((with_reducible refine gate_callee (f := 12) rfl ?_); refine gL (some 32) Try.func12 #[.int .i64 a0, .int .i64 a1, .int .i64 (Int.tmod a2 3000)] ?_; (with_reducible refine (fill_Line.calls a0 a1 (Int.tmod a2 3000) t137 t138 _ A11.out).mono ?_); rintro e w19 ⟨v139, rfl, ho0, hb⟩; refine ⟨_, rfl, ?_⟩; have HO140 := AX (Kd.R_lower (Kd.R_new' ho0 (Kd.R_lt (kr HO136))) (below_size bw)); replace HO136 := AX (Kd.R_elder' (kr HO136) (Kd.R_base ho0) hb); replace HB := AX (below_step bw hb); (try clear hb); (try clear hb2); (try clear hk); (try clear hi); (try clear ho0)))
      go_ret
      exact ⟨by first | rfl | (simp [errW_none, errW_some] <;> rfl) | (simp [*, errW_none, errW_some] <;> rfl), bw⟩
    ·replace c9 := Bool.eq_false_iff.mpr c9
     subst c9
     have H1 : ((pylonref11_Line.f kj5 a0 a1 a2).bind fun bt142 => ((fill_Line.f a0 a1 a2).bind fun bt146 => (if bt146.2 = bt142.2 then ((pylonref01_SameNumbers.f kj5 bt146.1 bt142.1).bind fun t150 => (some t150)) else (some false)))) = some r := by rw [if_neg (show ¬ (false = true) by decide)] at H; exact H
     clear H
     have H := H1
     clear H1
     replace H := Option.bind_eq_some_iff.mp H
     obtain ⟨⟨t142, t143⟩, A200, H⟩ := H
     replace H : ((fill_Line.f a0 a1 a2).bind fun bt146 => (if bt146.2 = t143 then ((pylonref01_SameNumbers.f kj5 bt146.1 t142).bind fun t150 => (some t150)) else (some false))) = some r := H
     have A20 := AX A200
     clear A200
     replace H := Option.bind_eq_some_iff.mp H
     obtain ⟨⟨t146, t147⟩, A210, H⟩ := H
     replace H : (if t147 = t143 then ((pylonref01_SameNumbers.f kj5 t146 t142).bind fun t150 => (some t150)) else (some false)) = some r := H
     have A21 := AX A210
     clear A210
     by_cases c22 : t147 = t143
     ·rw [if_pos c22] at H
      have c22b0 : (t147 == t143) = true := beq_iff_eq.mpr c22
      have c22b1 : (t147 != t143) = false := bne_eq_false_iff_eq.mpr c22
      clear c22
      replace H := Option.bind_eq_some_iff.mp H
      obtain ⟨t150, A230, H⟩ := H
      replace H : (some t150) = some r := H
      have A23 := AX A230
      clear A230
      obtain rfl := Option.some.inj H
      go_wp2_with (first | ((with_reducible refine gate_callee (f := 11) rfl ?_); refine gL (some 25) Try.func11 #[.int .i64 a0, .int .i64 a1, .int .i64 a2] ?_; (with_reducible refine (pylonref11_Line.calls kj5 a0 a1 a2 t142 t143 _ A20.out).mono ?_); rintro e w24 ⟨v144, rfl, ho0, hb⟩; refine ⟨_, rfl, ?_⟩; have HO145 := AX (Kd.R_lower ho0 (below_size bw)); replace HB := AX (below_step bw hb); (try clear hb); (try clear hb2); (try clear hk); (try clear hi); (try clear ho0)) | ((with_reducible refine gate_callee (f := 12) rfl ?_); refine gL (some 32) Try.func12 #[.int .i64 a0, .int .i64 a1, .int .i64 a2] ?_; (with_reducible refine (fill_Line.calls a0 a1 a2 t146 t147 _ A21.out).mono ?_); rintro e w25 ⟨v148, rfl, ho0, hb⟩; refine ⟨_, rfl, ?_⟩; have HO149 := AX (Kd.R_lower (Kd.R_new' ho0 (Kd.R_lt (kr HO145))) (below_size bw)); replace HO145 := AX (Kd.R_elder' (kr HO145) (Kd.R_base ho0) hb); replace HB := AX (below_step bw hb); (try clear hb); (try clear hb2); (try clear hk); (try clear hi); (try clear ho0); obtain ⟨Ao26, co26, eo26⟩ := Kd.R_slice HO149.out; subst eo26; obtain ⟨Ao27, co27, eo27⟩ := Kd.R_slice HO145.out; subst eo27) | (go_at_call 13; (with_reducible refine (pylonref01_SameNumbers.calls kj5 _ _ t146 _ _ t142 t150 _ ?side1 ?side2 ?side3 ?side4 A23.out).mono ?_); (case side1 => repeat (first | exact (Kd.R_reads' HO149.out).2.2 | (with_reducible refine Kd.C_alloc ?_ _) | (with_reducible refine Kd.C_drewN ?_ _) | (with_reducible refine Kd.C_drew ?_))); (case side2 => exact (Kd.R_reads' HO149.out).2.1); (case side3 => repeat (first | exact (Kd.R_reads' HO145.out).2.2 | (with_reducible refine Kd.C_alloc ?_ _) | (with_reducible refine Kd.C_drewN ?_ _) | (with_reducible refine Kd.C_drew ?_))); (case side4 => exact (Kd.R_reads' HO145.out).2.1); rintro e w' ⟨rfl, ⟨nd, rfl⟩⟩))
      go_ret
      exact ⟨by first | rfl | (simp [errW_none, errW_some] <;> rfl) | (simp [*, errW_none, errW_some] <;> rfl), bw⟩
     ·rw [if_neg c22] at H
      have c22b0 : (t147 == t143) = false := beq_eq_false_iff_ne.mpr c22
      have c22b1 : (t147 != t143) = true := bne_iff_ne.mpr c22
      obtain rfl := Option.some.inj H
      go_wp2_with (first | ((with_reducible refine gate_callee (f := 11) rfl ?_); refine gL (some 25) Try.func11 #[.int .i64 a0, .int .i64 a1, .int .i64 a2] ?_; (with_reducible refine (pylonref11_Line.calls kj5 a0 a1 a2 t142 t143 _ A20.out).mono ?_); rintro e w28 ⟨v144, rfl, ho0, hb⟩; refine ⟨_, rfl, ?_⟩; have HO145 := AX (Kd.R_lower ho0 (below_size bw)); replace HB := AX (below_step bw hb); (try clear hb); (try clear hb2); (try clear hk); (try clear hi); (try clear ho0)) | ((with_reducible refine gate_callee (f := 12) rfl ?_); refine gL (some 32) Try.func12 #[.int .i64 a0, .int .i64 a1, .int .i64 a2] ?_; (with_reducible refine (fill_Line.calls a0 a1 a2 t146 t147 _ A21.out).mono ?_); rintro e w29 ⟨v148, rfl, ho0, hb⟩; refine ⟨_, rfl, ?_⟩; have HO149 := AX (Kd.R_lower (Kd.R_new' ho0 (Kd.R_lt (kr HO145))) (below_size bw)); replace HO145 := AX (Kd.R_elder' (kr HO145) (Kd.R_base ho0) hb); replace HB := AX (below_step bw hb); (try clear hb); (try clear hb2); (try clear hk); (try clear hi); (try clear ho0)))
      go_ret
      exact ⟨by first | rfl | (simp [errW_none, errW_some] <;> rfl) | (simp [*, errW_none, errW_some] <;> rfl), bw⟩
 ·replace c5 := Bool.eq_false_iff.mpr c5
  subst c5
  have H1 : (some false) = some r := by rw [if_neg (show ¬ (false = true) by decide)] at H; exact H
  clear H
  have H := H1
  clear H1
  obtain rfl := Option.some.inj H
  go_enter Try.func3, Try.ntmps3
  go_wp2_with (first | ((with_reducible refine gate_callee (f := 10) rfl ?_); refine gL (some 11) Try.func10 #[] ?_; (with_reducible refine (pylonlaw11_awake.calls k  false _ A4.out).mono ?_); rintro e w30 ⟨rfl, hb⟩; refine ⟨_, rfl, ?_⟩; replace HB := AX (below_step bw hb); (try clear hb)))
  go_ret
  exact ⟨by first | rfl | (simp [errW_none, errW_some] <;> rfl) | (simp [*, errW_none, errW_some] <;> rfl), bw⟩

/-- THE ONE PURE STATEMENT of pylonlaw11_FillLines: yours. -/
def pylonlaw11_FillLines.Pure : Prop := ∀ (a0 : Int) (a1 : Int) (a2 : Int), (Lit.int .i64 a0).wf = true → (Lit.int .i64 a1).wf = true → (Lit.int .i64 a2).wf = true → ∃ k, pylonlaw11_FillLines.f k a0 a1 a2 = some true
theorem pylonlaw11_FillLines.walk (P : pylonlaw11_FillLines.Pure) (a0 : Int) (a1 : Int) (a2 : Int) (w : World) (w0 : (Lit.int .i64 a0).wf = true) (w1 : (Lit.int .i64 a1).wf = true) (w2 : (Lit.int .i64 a2).wf = true) :
  Calls Try.prog 3 #[.int .i64 a0, .int .i64 a1, .int .i64 a2] w fun e w' => e = .returned (.bool true) ∧ Below w.heap.size w w' := by
 obtain ⟨k, h⟩ := P a0 a1 a2 w0 w1 w2
 refine (pylonlaw11_FillLines.calls k a0 a1 a2 true w h).mono ?_
 rintro e w' ⟨rfl, hd⟩
 exact ⟨rfl, hd⟩

end Go.Proofs.Ythhifeefkmaeiaa.PX
