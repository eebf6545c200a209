/- Functions of the program as plain Lean functions, each with a proof that the call in the machine answers just what the plain function says; condition: the plain function answers at all. -/
import Derived.Test.YtkggjjggcbcdiaaPXx0
import Derived.Test.YtkggjjggcbcdiaaPXx3
import Derived.Test.YtkggjjggcbcdiaaPXx6
namespace Go.Proofs.Ytkggjjggcbcdiaa.PX
open Go.RowKit Go.Proofs.YtkggjjggcbcdiaaW.PrintWords Go.Proofs.YtkggjjggcbcdiaaW.PrintLast Go.Proofs.YtkggjjggcbcdiaaW.PrintMore
attribute [local go_sem] max2_int min2_int max_two min_two max_three min_three max_four min_four   -- for this text's walks alone
set_option linter.unusedVariables false
set_option linter.unusedSimpArgs false

/-! ### tou_Kind: function 17 -/
def tou_Kind.f (k : Nat) (l0 : List (S65)) (a1_0 : Int) (a1_1 : Int) (a1_2 : Int) : Option (Int × Int) := (holiday_Is.f k l0 a1_0 a1_1 a1_2).bind fun bt173 => (if bt173.2 = 0 then (if bt173.1 = true then (some (3, 0)) else ((civil_Weekday.f a1_0 a1_1 a1_2).bind fun bt175 => (some (mx (wrap64 (bt175.1 - 4)) 0, 0)))) else (some (0, bt173.2)))
theorem tou_Kind.mono : ∀ a0 a1 a2 a3 k, LeO (tou_Kind.f k a0 a1 a2 a3) (tou_Kind.f (k + 1) a0 a1 a2 a3) := by
 intro a0 a1 a2 a3 k
 unfold tou_Kind.f
 repeat' first
   | (with_reducible exact holiday_Is.mono _ _ _ _ _)
   | (with_reducible exact LeO.refl _)
   | (with_reducible exact LeO.none _)
   | (with_reducible refine LeO.ite ?_ ?_)
   | (with_reducible refine LeO.bind ?_ (fun _ => ?_))
set_option maxHeartbeats 8000000 in
set_option maxRecDepth 100000 in
theorem tou_Kind.calls (k : Nat) (A0 : Option Addr) (c0 : Nat) (l0 : List (S65)) (a1_0 : Int) (a1_1 : Int) (a1_2 : Int) (r1 : Int) (r2 : Int) (w : World) (hr0 : Kd.C k65 w A0 l0.length l0) (hc0 : l0.length ≤ c0) (h : tou_Kind.f k l0 a1_0 a1_1 a1_2 = some (r1, r2)) :
  Calls Try.prog 17 #[.slice A0 l0.length c0, .agg #[.int .i64 a1_0, .int .i64 a1_1, .int .i64 a1_2]] w fun e w' => e = .returned (.tuple #[.int .i64 r1, .int .i64 r2]) ∧ Below w.heap.size w w' := by
 have hu24 := Try.underlying24
 have HR0 := AX hr0
 have HC0 := AX hc0
 clear hr0 hc0
 have HB := AX (Below.refl w.heap.size w)
 have H : ((holiday_Is.f k l0 a1_0 a1_1 a1_2).bind fun bt173 => (if bt173.2 = 0 then (if bt173.1 = true then (some (3, 0)) else ((civil_Weekday.f a1_0 a1_1 a1_2).bind fun bt175 => (some (mx (wrap64 (bt175.1 - 4)) 0, 0)))) else (some (0, bt173.2)))) = some (r1, r2) := h
 clear h
 replace H := Option.bind_eq_some_iff.mp H
 obtain ⟨⟨t173, t174⟩, A30, H⟩ := H
 replace H : (if t174 = 0 then (if t173 = true then (some (3, 0)) else ((civil_Weekday.f a1_0 a1_1 a1_2).bind fun bt175 => (some (mx (wrap64 (bt175.1 - 4)) 0, 0)))) else (some (0, t174))) = some (r1, r2) := H
 have A3 := AX A30
 clear A30
 by_cases c4 : t174 = 0
 ·rw [if_pos c4] at H
  have c4b0 : (t174 == 0) = true := beq_iff_eq.mpr c4
  have c4b1 : (t174 != 0) = false := bne_eq_false_iff_eq.mpr c4
  clear c4
  by_cases c5 : t173 = true
  ·subst c5
   have H1 : (some (3, 0)) = some (r1, r2) := by rw [if_pos rfl] at H; exact H
   clear H
   have H := H1
   clear H1
   simp only [Option.some.injEq, Prod.mk.injEq] at H
   obtain ⟨rfl, rfl⟩ := H
   go_enter Try.func17, Try.ntmps17
   go_wp2_with (first | ((with_reducible refine gate_dst (N := 3) rfl ?_); refine bx 3 #[.int .i64 a1_0, .int .i64 a1_1, .int .i64 a1_2] 24 ?_; intro gb172 hg w6 hbox hb; have BK172 := AX (hbox); have GW172 := gwl (w := w) hg bw; have GE172 := GW172; replace HB := AX (below_step bw hb); clear hb hbox hg; obtain ⟨hcz7_0, hcz7_1, hcz7_2⟩ := blkC3 (w := w6) BK172.out; obtain ⟨hfz7_0, hfz7_1, hfz7_2⟩ := blkF3 BK172.out) | ((with_reducible refine gate_callee (f := 39) rfl ?_); refine gL (some 13) Try.func39 #[.slice A0 l0.length c0, .agg #[.int .i64 a1_0, .int .i64 a1_1, .int .i64 a1_2]] ?_; (with_reducible refine (holiday_Is.calls k _ _ l0 a1_0 a1_1 a1_2 true t174 _ ?side1 ?side2 A3.out).mono ?_); (case side1 => repeat (first | exact (Kd.C_below HR0.out HB.out) | (with_reducible refine Kd.C_alloc ?_ _) | (with_reducible refine Kd.C_drewN ?_ _) | (with_reducible refine Kd.C_drew ?_))); (case side2 => exact HC0.out); rintro e w8 ⟨rfl, hb⟩; refine ⟨_, rfl, ?_⟩; replace BK172 := AX (bkb BK172 hb); replace HB := AX (below_step bw hb); (try clear hb); (try clear hb2); (try clear hk); (try clear hi)))
   go_ret2
   exact ⟨by first | rfl | (simp [errW_none, errW_some] <;> rfl) | (simp [*, errW_none, errW_some] <;> rfl), bw⟩
  ·replace c5 := Bool.eq_false_iff.mpr c5
   subst c5
   have H1 : ((civil_Weekday.f a1_0 a1_1 a1_2).bind fun bt175 => (some (mx (wrap64 (bt175.1 - 4)) 0, 0))) = some (r1, r2) := by rw [if_neg (show ¬ (false = true) by decide)] at H; exact H
   clear H
   have H := H1
   clear H1
   replace H := Option.bind_eq_some_iff.mp H
   obtain ⟨⟨t175, t176⟩, A90, H⟩ := H
   replace H : (some (mx (wrap64 (t175 - 4)) 0, 0)) = some (r1, r2) := H
   have A9 := AX A90
   clear A90
   obtain ⟨ji10, hji10⟩ : ∃ j_ : Int, (mx (wrap64 (t175 - 4)) 0) = j_ := ⟨_, rfl⟩
   replace H : (some (ji10, 0)) = some (r1, r2) := by first | (rw [hji10] at H; exact H) | (simp only [hji10] at H ⊢; exact H)
   (try rw [hji10] at A3)
   (try rw [hji10] at A9)
   (try (have hji10l : 0 ≤ ji10 := by (rw [← hji10]; unfold mx; (repeat' split) <;> omega)))
   (try (have hji10m : 0 ≤ ji10 := by omega))
   have hji10_ : (if (wrap64 (t175 - 4)) < 0 then 0 else (wrap64 (t175 - 4))) = ji10 := hji10
   simp only [Option.some.injEq, Prod.mk.injEq] at H
   obtain ⟨rfl, rfl⟩ := H
   go_enter Try.func17, Try.ntmps17
   go_wp2_with (first | ((with_reducible refine gate_dst (N := 3) rfl ?_); refine bx 3 #[.int .i64 a1_0, .int .i64 a1_1, .int .i64 a1_2] 24 ?_; intro gb172 hg w11 hbox hb; have BK172 := AX (hbox); have GW172 := gwl (w := w) hg bw; have GE172 := GW172; replace HB := AX (below_step bw hb); clear hb hbox hg; obtain ⟨hcz12_0, hcz12_1, hcz12_2⟩ := blkC3 (w := w11) BK172.out; obtain ⟨hfz12_0, hfz12_1, hfz12_2⟩ := blkF3 BK172.out) | ((with_reducible refine gate_callee (f := 39) rfl ?_); refine gL (some 13) Try.func39 #[.slice A0 l0.length c0, .agg #[.int .i64 a1_0, .int .i64 a1_1, .int .i64 a1_2]] ?_; (with_reducible refine (holiday_Is.calls k _ _ l0 a1_0 a1_1 a1_2 false t174 _ ?side1 ?side2 A3.out).mono ?_); (case side1 => repeat (first | exact (Kd.C_below HR0.out HB.out) | (with_reducible refine Kd.C_alloc ?_ _) | (with_reducible refine Kd.C_drewN ?_ _) | (with_reducible refine Kd.C_drew ?_))); (case side2 => exact HC0.out); rintro e w13 ⟨rfl, hb⟩; refine ⟨_, rfl, ?_⟩; replace BK172 := AX (bkb BK172 hb); replace HB := AX (below_step bw hb); (try clear hb); (try clear hb2); (try clear hk); (try clear hi); obtain ⟨hcz14_0, hcz14_1, hcz14_2⟩ := blkC3 (w := w13) BK172.out; obtain ⟨hfz14_0, hfz14_1, hfz14_2⟩ := blkF3 BK172.out) | ((with_reducible refine gate_callee (f := 43) rfl ?_); refine gL (some 22) Try.func43 #[.agg #[.int .i64 a1_0, .int .i64 a1_1, .int .i64 a1_2]] ?_; (with_reducible refine (civil_Weekday.calls a1_0 a1_1 a1_2 t175 t176 _ A9.out).mono ?_); rintro e w15 ⟨rfl, hb⟩; refine ⟨_, rfl, ?_⟩; replace BK172 := AX (bkb BK172 hb); replace HB := AX (below_step bw hb); (try clear hb)))
   go_ret2
   exact ⟨by first | rfl | (simp [errW_none, errW_some] <;> rfl) | (simp only [← hji10]; first | rfl | (simp [errW_none, errW_some] <;> rfl)) | (simp [*, errW_none, errW_some] <;> rfl), bw⟩
 ·rw [if_neg c4] at H
  have c4b0 : (t174 == 0) = false := beq_eq_false_iff_ne.mpr c4
  have c4b1 : (t174 != 0) = true := bne_iff_ne.mpr c4
  simp only [Option.some.injEq, Prod.mk.injEq] at H
  obtain ⟨rfl, rfl⟩ := H
  go_enter Try.func17, Try.ntmps17
  go_wp2_with (first | ((with_reducible refine gate_dst (N := 3) rfl ?_); refine bx 3 #[.int .i64 a1_0, .int .i64 a1_1, .int .i64 a1_2] 24 ?_; intro gb172 hg w16 hbox hb; have BK172 := AX (hbox); have GW172 := gwl (w := w) hg bw; have GE172 := GW172; replace HB := AX (below_step bw hb); clear hb hbox hg; obtain ⟨hcz17_0, hcz17_1, hcz17_2⟩ := blkC3 (w := w16) BK172.out; obtain ⟨hfz17_0, hfz17_1, hfz17_2⟩ := blkF3 BK172.out) | ((with_reducible refine gate_callee (f := 39) rfl ?_); refine gL (some 13) Try.func39 #[.slice A0 l0.length c0, .agg #[.int .i64 a1_0, .int .i64 a1_1, .int .i64 a1_2]] ?_; (with_reducible refine (holiday_Is.calls k _ _ l0 a1_0 a1_1 a1_2 t173 t174 _ ?side1 ?side2 A3.out).mono ?_); (case side1 => repeat (first | exact (Kd.C_below HR0.out HB.out) | (with_reducible refine Kd.C_alloc ?_ _) | (with_reducible refine Kd.C_drewN ?_ _) | (with_reducible refine Kd.C_drew ?_))); (case side2 => exact HC0.out); rintro e w18 ⟨rfl, hb⟩; refine ⟨_, rfl, ?_⟩; replace BK172 := AX (bkb BK172 hb); replace HB := AX (below_step bw hb); (try clear hb); (try clear hb2); (try clear hk); (try clear hi)))
  go_ret2
  exact ⟨by first | rfl | (simp [errW_none, errW_some] <;> rfl) | (simp [*, errW_none, errW_some] <;> rfl), bw⟩

end Go.Proofs.Ytkggjjggcbcdiaa.PX
