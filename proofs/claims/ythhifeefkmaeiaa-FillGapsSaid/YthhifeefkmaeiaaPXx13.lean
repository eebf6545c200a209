/- Functions of the program as plain Lean functions, each with a proof that the call in the machine answers just what the plain function says; condition: the plain function answers at all. -/
import Derived.Test.YthhifeefkmaeiaaPXx0
import Derived.Test.YthhifeefkmaeiaaPXx3
import Derived.Test.YthhifeefkmaeiaaPXx7
import Derived.Test.YthhifeefkmaeiaaPXx8
namespace Go.Proofs.Ythhifeefkmaeiaa.PX
open Go.RowKit Go.Proofs.YthhifeefkmaeiaaW.PrintWords Go.Proofs.YthhifeefkmaeiaaW.PrintLast Go.Proofs.YthhifeefkmaeiaaW.PrintMore
attribute [local go_sem] max2_int min2_int max_two min_two max_three min_three max_four min_four   -- for this text's walks alone
set_option linter.unusedVariables false
set_option linter.unusedSimpArgs false

/-! ### pylonlaw11_FillGaps: function 5 -/
def pylonlaw11_FillGaps.f (k : Nat) (a0_0 : ByteArray) (a0_1 : Int) (a0_2 : Int) (a0_3 : Int) (a0_4 : Int) (a0_5 : Int) (l0_6 : List (S45)) : Option (Bool) := (pylonlaw11_awake.f k).bind fun t213 => (if t213 = true then ((pylonref11_Gaps.f k a0_0 a0_1 a0_2 a0_3 a0_4 a0_5 l0_6).bind fun bt214 => ((pylonlaw11_copyFile.f a0_0 a0_1 a0_2 a0_3 a0_4 a0_5 l0_6).bind fun bt218 => ((fill_Gaps.f bt218.1 bt218.2.1 bt218.2.2.1 bt218.2.2.2.1 bt218.2.2.2.2.1 bt218.2.2.2.2.2.1 bt218.2.2.2.2.2.2).bind fun bt227 => (if bt227.2 = bt214.2 then ((pylonref11_SameSpans.f k bt227.1 bt214.1).bind fun t231 => (some t231)) else (some false))))) else (some false))
theorem pylonlaw11_FillGaps.mono : ∀ a0 a1 a2 a3 a4 a5 a6 k, LeO (pylonlaw11_FillGaps.f k a0 a1 a2 a3 a4 a5 a6) (pylonlaw11_FillGaps.f (k + 1) a0 a1 a2 a3 a4 a5 a6) := by
 intro a0 a1 a2 a3 a4 a5 a6 k
 unfold pylonlaw11_FillGaps.f
 repeat' first
   | (with_reducible exact pylonlaw11_awake.mono _)
   | (with_reducible exact pylonref11_Gaps.mono _ _ _ _ _ _ _ _)
   | (with_reducible exact pylonref11_SameSpans.mono _ _ _)
   | (with_reducible exact LeO.refl _)
   | (with_reducible exact LeO.none _)
   | (with_reducible refine LeO.ite ?_ ?_)
   | (with_reducible refine LeO.bind ?_ (fun _ => ?_))
set_option maxHeartbeats 8000000 in
set_option maxRecDepth 100000 in
theorem pylonlaw11_FillGaps.calls (k : Nat) (a0_0 : ByteArray) (a0_1 : Int) (a0_2 : Int) (a0_3 : Int) (a0_4 : Int) (a0_5 : Int) (A0_6 : Option Addr) (c0_6 : Nat) (l0_6 : List (S45)) (r : Bool) (w : World) (hr0_6 : Kd.C k45 w A0_6 l0_6.length l0_6) (hc0_6 : l0_6.length ≤ c0_6) (h : pylonlaw11_FillGaps.f k a0_0 a0_1 a0_2 a0_3 a0_4 a0_5 l0_6 = some r) :
  Calls Try.prog 5 #[.agg #[.string a0_0, .int .i64 a0_1, .int .i64 a0_2, .int .i64 a0_3, .int .i64 a0_4, .int .i64 a0_5, .slice A0_6 l0_6.length c0_6]] w fun e w' => e = .returned (.bool r) ∧ Below w.heap.size w w' := by
 have hu31 := Try.underlying31
 have HR0_6 := AX hr0_6
 have HC0_6 := AX hc0_6
 clear hr0_6 hc0_6
 have HB := AX (Below.refl w.heap.size w)
 have H : ((pylonlaw11_awake.f k).bind fun t213 => (if t213 = true then ((pylonref11_Gaps.f k a0_0 a0_1 a0_2 a0_3 a0_4 a0_5 l0_6).bind fun bt214 => ((pylonlaw11_copyFile.f a0_0 a0_1 a0_2 a0_3 a0_4 a0_5 l0_6).bind fun bt218 => ((fill_Gaps.f bt218.1 bt218.2.1 bt218.2.2.1 bt218.2.2.2.1 bt218.2.2.2.2.1 bt218.2.2.2.2.2.1 bt218.2.2.2.2.2.2).bind fun bt227 => (if bt227.2 = bt214.2 then ((pylonref11_SameSpans.f k bt227.1 bt214.1).bind fun t231 => (some t231)) else (some false))))) else (some false))) = some r := h
 clear h
 replace H := Option.bind_eq_some_iff.mp H
 obtain ⟨t213, A20, H⟩ := H
 replace H : (if t213 = true then ((pylonref11_Gaps.f k a0_0 a0_1 a0_2 a0_3 a0_4 a0_5 l0_6).bind fun bt214 => ((pylonlaw11_copyFile.f a0_0 a0_1 a0_2 a0_3 a0_4 a0_5 l0_6).bind fun bt218 => ((fill_Gaps.f bt218.1 bt218.2.1 bt218.2.2.1 bt218.2.2.2.1 bt218.2.2.2.2.1 bt218.2.2.2.2.2.1 bt218.2.2.2.2.2.2).bind fun bt227 => (if bt227.2 = bt214.2 then ((pylonref11_SameSpans.f k bt227.1 bt214.1).bind fun t231 => (some t231)) else (some false))))) else (some false)) = some r := H
 have A2 := AX A20
 clear A20
 by_cases c3 : t213 = true
 ·subst c3
  have H1 : ((pylonref11_Gaps.f k a0_0 a0_1 a0_2 a0_3 a0_4 a0_5 l0_6).bind fun bt214 => ((pylonlaw11_copyFile.f a0_0 a0_1 a0_2 a0_3 a0_4 a0_5 l0_6).bind fun bt218 => ((fill_Gaps.f bt218.1 bt218.2.1 bt218.2.2.1 bt218.2.2.2.1 bt218.2.2.2.2.1 bt218.2.2.2.2.2.1 bt218.2.2.2.2.2.2).bind fun bt227 => (if bt227.2 = bt214.2 then ((pylonref11_SameSpans.f k bt227.1 bt214.1).bind fun t231 => (some t231)) else (some false))))) = some r := by rw [if_pos rfl] at H; exact H
  clear H
  have H := H1
  clear H1
  replace H := Option.bind_eq_some_iff.mp H
  obtain ⟨⟨t214, t217⟩, A40, H⟩ := H
  replace H : ((pylonlaw11_copyFile.f a0_0 a0_1 a0_2 a0_3 a0_4 a0_5 l0_6).bind fun bt218 => ((fill_Gaps.f bt218.1 bt218.2.1 bt218.2.2.1 bt218.2.2.2.1 bt218.2.2.2.2.1 bt218.2.2.2.2.2.1 bt218.2.2.2.2.2.2).bind fun bt227 => (if bt227.2 = t217 then ((pylonref11_SameSpans.f k bt227.1 t214).bind fun t231 => (some t231)) else (some false)))) = some r := H
  have A4 := AX A40
  clear A40
  replace H := Option.bind_eq_some_iff.mp H
  obtain ⟨⟨t218, t219, t220, t221, t222, t223, t224⟩, A50, H⟩ := H
  replace H : ((fill_Gaps.f t218 t219 t220 t221 t222 t223 t224).bind fun bt227 => (if bt227.2 = t217 then ((pylonref11_SameSpans.f k bt227.1 t214).bind fun t231 => (some t231)) else (some false))) = some r := H
  have A5 := AX A50
  clear A50
  replace H := Option.bind_eq_some_iff.mp H
  obtain ⟨⟨t227, t230⟩, A60, H⟩ := H
  replace H : (if t230 = t217 then ((pylonref11_SameSpans.f k t227 t214).bind fun t231 => (some t231)) else (some false)) = some r := H
  have A6 := AX A60
  clear A60
  by_cases c7 : t230 = t217
  ·rw [if_pos c7] at H
   have c7b0 : (t230 == t217) = true := beq_iff_eq.mpr c7
   have c7b1 : (t230 != t217) = false := bne_eq_false_iff_eq.mpr c7
   clear c7
   replace H := Option.bind_eq_some_iff.mp H
   obtain ⟨t231, A80, H⟩ := H
   replace H : (some t231) = some r := H
   have A8 := AX A80
   clear A80
   obtain rfl := Option.some.inj H
   go_enter Try.func5, Try.ntmps5
   go_wp2_with (first | ((with_reducible refine gate_dst (N := 1) rfl ?_); refine bx 1 #[.string a0_0, .int .i64 a0_1, .int .i64 a0_2, .int .i64 a0_3, .int .i64 a0_4, .int .i64 a0_5, .slice A0_6 l0_6.length c0_6] 31 ?_; intro gb212 hg w9 hbox hb; have BK212 := AX (hbox); have GW212 := gwl (w := w) hg bw; have GE212 := GW212; replace HB := AX (below_step bw hb); clear hb hbox hg) | ((with_reducible refine gate_callee (f := 10) rfl ?_); refine gL (some 7) Try.func10 #[] ?_; (with_reducible refine (pylonlaw11_awake.calls k  true _ A2.out).mono ?_); rintro e w10 ⟨rfl, hb⟩; refine ⟨_, rfl, ?_⟩; replace BK212 := AX (bkb BK212 hb); replace HB := AX (below_step bw hb); (try clear hb); obtain ⟨hcz11_0, hcz11_1, hcz11_2, hcz11_3, hcz11_4, hcz11_5, hcz11_6⟩ := blkC7 (w := w10) BK212.out; obtain ⟨hfz11_0, hfz11_1, hfz11_2, hfz11_3, hfz11_4, hfz11_5, hfz11_6⟩ := blkF7 BK212.out) | ((with_reducible refine gate_callee (f := 14) rfl ?_); refine gL (some 11) Try.func14 #[.agg #[.string a0_0, .int .i64 a0_1, .int .i64 a0_2, .int .i64 a0_3, .int .i64 a0_4, .int .i64 a0_5, .slice A0_6 l0_6.length c0_6]] ?_; (with_reducible refine (pylonref11_Gaps.calls k a0_0 a0_1 a0_2 a0_3 a0_4 a0_5 _ _ l0_6 t214 t217 _ ?side1 ?side2 A4.out).mono ?_); (case side1 => repeat (first | exact (Kd.C_below HR0_6.out HB.out) | (with_reducible refine Kd.C_alloc ?_ _) | (with_reducible refine Kd.C_drewN ?_ _) | (with_reducible refine Kd.C_drew ?_))); (case side2 => exact HC0_6.out); rintro e w12 ⟨v215, rfl, ho0, hb⟩; refine ⟨_, rfl, ?_⟩; have HO216 := AX (Kd.R_lower ho0 (below_size bw)); replace BK212 := AX (bkb BK212 hb); replace HB := AX (below_step bw hb); (try clear hb); (try clear hb2); (try clear hk); (try clear hi); (try clear ho0); obtain ⟨hcz13_0, hcz13_1, hcz13_2, hcz13_3, hcz13_4, hcz13_5, hcz13_6⟩ := blkC7 (w := w12) BK212.out; obtain ⟨hfz13_0, hfz13_1, hfz13_2, hfz13_3, hfz13_4, hfz13_5, hfz13_6⟩ := blkF7 BK212.out) | ((with_reducible refine gate_callee (f := 16) rfl ?_); refine gL (some 16) Try.func16 #[.agg #[.string a0_0, .int .i64 a0_1, .int .i64 a0_2, .int .i64 a0_3, .int .i64 a0_4, .int .i64 a0_5, .slice A0_6 l0_6.length c0_6]] ?_; (with_reducible refine (pylonlaw11_copyFile.calls a0_0 a0_1 a0_2 a0_3 a0_4 a0_5 _ _ l0_6 t218 t219 t220 t221 t222 t223 t224 _ ?side1 ?side2 A5.out).mono ?_); (case side1 => repeat (first | exact (Kd.C_below HR0_6.out HB.out) | (with_reducible refine Kd.C_alloc ?_ _) | (with_reducible refine Kd.C_drewN ?_ _) | (with_reducible refine Kd.C_drew ?_))); (case side2 => exact HC0_6.out); rintro e w14 ⟨v225, rfl, ho0, hb⟩; refine ⟨_, rfl, ?_⟩; have HO226 := AX (Kd.R_lower ho0 (below_size bw)); replace HO216 := AX (Kd.R_below (kr HO216) hb); replace BK212 := AX (bkb BK212 hb); replace HB := AX (below_step bw hb); (try clear hb); (try clear hb2); (try clear hk); (try clear hi); (try clear ho0); obtain ⟨Ao15, co15, eo15⟩ := Kd.R_slice HO226.out; subst eo15) | ((with_reducible refine gate_callee (f := 15) rfl ?_); refine gL (some 17) Try.func15 #[.agg #[.string t218, .int .i64 t219, .int .i64 t220, .int .i64 t221, .int .i64 t222, .int .i64 t223, .slice Ao15 t224.length co15]] ?_; (with_reducible refine (fill_Gaps.calls t218 t219 t220 t221 t222 t223 _ _ t224 t227 t230 _ ?side1 ?side2 A6.out).mono ?_); (case side1 => repeat (first | exact (Kd.R_reads' HO226.out).2.2 | (with_reducible refine Kd.C_alloc ?_ _) | (with_reducible refine Kd.C_drewN ?_ _) | (with_reducible refine Kd.C_drew ?_))); (case side2 => exact (Kd.R_reads' HO226.out).2.1); rintro e w16 ⟨v228, rfl, ho0, hb⟩; refine ⟨_, rfl, ?_⟩; have HO229 := AX (Kd.R_lower (Kd.R_new' ho0 (Kd.R_lt (kr HO216))) (below_size bw)); replace HO216 := AX (Kd.R_elder' (kr HO216) (Kd.R_base ho0) hb); replace HO226 := AX (Kd.R_below (kr HO226) hb); replace BK212 := AX (bkb BK212 hb); replace HB := AX (below_step bw hb); (try clear hb); (try clear hb2); (try clear hk); (try clear hi); (try clear ho0); obtain ⟨Ao17, co17, eo17⟩ := Kd.R_slice HO229.out; subst eo17; obtain ⟨Ao18, co18, eo18⟩ := Kd.R_slice HO216.out; subst eo18) | (go_at_call 17; (with_reducible refine (pylonref11_SameSpans.calls k _ _ t227 _ _ t214 t231 _ ?side1 ?side2 ?side3 ?side4 A8.out).mono ?_); (case side1 => repeat (first | exact (Kd.R_reads' HO229.out).2.2 | (with_reducible refine Kd.C_alloc ?_ _) | (with_reducible refine Kd.C_drewN ?_ _) | (with_reducible refine Kd.C_drew ?_))); (case side2 => exact (Kd.R_reads' HO229.out).2.1); (case side3 => repeat (first | exact (Kd.R_reads' HO216.out).2.2 | (with_reducible refine Kd.C_alloc ?_ _) | (with_reducible refine Kd.C_drewN ?_ _) | (with_reducible refine Kd.C_drew ?_))); (case side4 => exact (Kd.R_reads' HO216.out).2.1); rintro e w' ⟨rfl, ⟨nd, rfl⟩⟩))
   go_ret
   exact ⟨by first | rfl | (simp [errW_none, errW_some] <;> rfl) | (simp [*, errW_none, errW_some] <;> rfl), bw⟩
  ·rw [if_neg c7] at H
   have c7b0 : (t230 == t217) = false := beq_eq_false_iff_ne.mpr c7
   have c7b1 : (t230 != t217) = true := bne_iff_ne.mpr c7
   obtain rfl := Option.some.inj H
   go_enter Try.func5, Try.ntmps5
   go_wp2_with (first | ((with_reducible refine gate_dst (N := 1) rfl ?_); refine bx 1 #[.string a0_0, .int .i64 a0_1, .int .i64 a0_2, .int .i64 a0_3, .int .i64 a0_4, .int .i64 a0_5, .slice A0_6 l0_6.length c0_6] 31 ?_; intro gb212 hg w19 hbox hb; have BK212 := AX (hbox); have GW212 := gwl (w := w) hg bw; have GE212 := GW212; replace HB := AX (below_step bw hb); clear hb hbox hg) | ((with_reducible refine gate_callee (f := 10) rfl ?_); refine gL (some 7) Try.func10 #[] ?_; (with_reducible refine (pylonlaw11_awake.calls k  true _ A2.out).mono ?_); rintro e w20 ⟨rfl, hb⟩; refine ⟨_, rfl, ?_⟩; replace BK212 := AX (bkb BK212 hb); replace HB := AX (below_step bw hb); (try clear hb); obtain ⟨hcz21_0, hcz21_1, hcz21_2, hcz21_3, hcz21_4, hcz21_5, hcz21_6⟩ := blkC7 (w := w20) BK212.out; obtain ⟨hfz21_0, hfz21_1, hfz21_2, hfz21_3, hfz21_4, hfz21_5, hfz21_6⟩ := blkF7 BK212.out) | ((with_reducible refine gate_callee (f := 14) rfl ?_); refine gL (some 11) Try.func14 #[.agg #[.string a0_0, .int .i64 a0_1, .int .i64 a0_2, .int .i64 a0_3, .int .i64 a0_4, .int .i64 a0_5, .slice A0_6 l0_6.length c0_6]] ?_; (with_reducible refine (pylonref11_Gaps.calls k a0_0 a0_1 a0_2 a0_3 a0_4 a0_5 _ _ l0_6 t214 t217 _ ?side1 ?side2 A4.out).mono ?_); (case side1 => repeat (first | exact (Kd.C_below HR0_6.out HB.out) | (with_reducible refine Kd.C_alloc ?_ _) | (with_reducible refine Kd.C_drewN ?_ _) | (with_reducible refine Kd.C_drew ?_))); (case side2 => exact HC0_6.out); rintro e w22 ⟨v215, rfl, ho0, hb⟩; refine ⟨_, rfl, ?_⟩; have HO216 := AX (Kd.R_lower ho0 (below_size bw)); replace BK212 := AX (bkb BK212 hb); replace HB := AX (below_step bw hb); (try clear hb); (try clear hb2); (try clear hk); (try clear hi); (try clear ho0); obtain ⟨hcz23_0, hcz23_1, hcz23_2, hcz23_3, hcz23_4, hcz23_5, hcz23_6⟩ := blkC7 (w := w22) BK212.out; obtain ⟨hfz23_0, hfz23_1, hfz23_2, hfz23_3, hfz23_4, hfz23_5, hfz23_6⟩ := blkF7 BK212.out) | ((with_reducible refine gate_callee (f := 16) rfl ?_); refine gL (some 16) Try.func16 #[.agg #[.string a0_0, .int .i64 a0_1, .int .i64 a0_2, .int .i64 a0_3, .int .i64 a0_4, .int .i64 a0_5, .slice A0_6 l0_6.length c0_6]] ?_; (with_reducible refine (pylonlaw11_copyFile.calls a0_0 a0_1 a0_2 a0_3 a0_4 a0_5 _ _ l0_6 t218 t219 t220 t221 t222 t223 t224 _ ?side1 ?side2 A5.out).mono ?_); (case side1 => repeat (first | exact (Kd.C_below HR0_6.out HB.out) | (with_reducible refine Kd.C_alloc ?_ _) | (with_reducible refine Kd.C_drewN ?_ _) | (with_reducible refine Kd.C_drew ?_))); (case side2 => exact HC0_6.out); rintro e w24 ⟨v225, rfl, ho0, hb⟩; refine ⟨_, rfl, ?_⟩; have HO226 := AX (Kd.R_lower ho0 (below_size bw)); replace HO216 := AX (Kd.R_below (kr HO216) hb); replace BK212 := AX (bkb BK212 hb); replace HB := AX (below_step bw hb); (try clear hb); (try clear hb2); (try clear hk); (try clear hi); (try clear ho0); obtain ⟨Ao25, co25, eo25⟩ := Kd.R_slice HO226.out; subst eo25) | ((with_reducible refine gate_callee (f := 15) rfl ?_); refine gL (some 17) Try.func15 #[.agg #[.string t218, .int .i64 t219, .int .i64 t220, .int .i64 t221, .int .i64 t222, .int .i64 t223, .slice Ao25 t224.length co25]] ?_; (with_reducible refine (fill_Gaps.calls t218 t219 t220 t221 t222 t223 _ _ t224 t227 t230 _ ?side1 ?side2 A6.out).mono ?_); (case side1 => repeat (first | exact (Kd.R_reads' HO226.out).2.2 | (with_reducible refine Kd.C_alloc ?_ _) | (with_reducible refine Kd.C_drewN ?_ _) | (with_reducible refine Kd.C_drew ?_))); (case side2 => exact (Kd.R_reads' HO226.out).2.1); rintro e w26 ⟨v228, rfl, ho0, hb⟩; refine ⟨_, rfl, ?_⟩; have HO229 := AX (Kd.R_lower (Kd.R_new' ho0 (Kd.R_lt (kr HO216))) (below_size bw)); replace HO216 := AX (Kd.R_elder' (kr HO216) (Kd.R_base ho0) hb); replace HO226 := AX (Kd.R_below (kr HO226) hb); replace BK212 := AX (bkb BK212 hb); replace HB := AX (below_step bw hb); (try clear hb); (try clear hb2); (try clear hk); (try clear hi); (try clear ho0)))
   go_ret
   exact ⟨by first | rfl | (simp [errW_none, errW_some] <;> rfl) | (simp [*, errW_none, errW_some] <;> rfl), bw⟩
 ·replace c3 := Bool.eq_false_iff.mpr c3
  subst c3
  have H1 : (some false) = some r := by rw [if_neg (show ¬ (false = true) by decide)] at H; exact H
  clear H
  have H := H1
  clear H1
  obtain rfl := Option.some.inj H
  go_enter Try.func5, Try.ntmps5
  go_wp2_with (first | ((with_reducible refine gate_dst (N := 1) rfl ?_); refine bx 1 #[.string a0_0, .int .i64 a0_1, .int .i64 a0_2, .int .i64 a0_3, .int .i64 a0_4, .int .i64 a0_5, .slice A0_6 l0_6.length c0_6] 31 ?_; intro gb212 hg w27 hbox hb; have BK212 := AX (hbox); have GW212 := gwl (w := w) hg bw; have GE212 := GW212; replace HB := AX (below_step bw hb); clear hb hbox hg) | ((with_reducible refine gate_callee (f := 10) rfl ?_); refine gL (some 7) Try.func10 #[] ?_; (with_reducible refine (pylonlaw11_awake.calls k  false _ A2.out).mono ?_); rintro e w28 ⟨rfl, hb⟩; refine ⟨_, rfl, ?_⟩; replace BK212 := AX (bkb BK212 hb); replace HB := AX (below_step bw hb); (try clear hb)))
  go_ret
  exact ⟨by first | rfl | (simp [errW_none, errW_some] <;> rfl) | (simp [*, errW_none, errW_some] <;> rfl), bw⟩

end Go.Proofs.Ythhifeefkmaeiaa.PX
