/- Functions of the program as plain Lean functions, each with a proof that the call in the machine answers just what the plain function says; condition: the plain function answers at all. -/
import Derived.Test.YtkggjjggcbcdiaaPXx0
import Derived.Test.YtkggjjggcbcdiaaPXx14
import Derived.Test.YtkggjjggcbcdiaaPXx15
import Derived.Test.YtkggjjggcbcdiaaPXx17
namespace Go.Proofs.Ytkggjjggcbcdiaa.PX
open Go.RowKit Go.Proofs.YtkggjjggcbcdiaaW.PrintWords Go.Proofs.YtkggjjggcbcdiaaW.PrintLast Go.Proofs.YtkggjjggcbcdiaaW.PrintMore
attribute [local go_sem] max2_int min2_int max_two min_two max_three min_three max_four min_four   -- for this text's walks alone
set_option linter.unusedVariables false
set_option linter.unusedSimpArgs false

/-! ### pylonref05_Is: function 18 -/
def pylonref05_Is.f (k : Nat) (l0 : List (S65)) (a1_0 : Int) (a1_1 : Int) (a1_2 : Int) : Option (Bool × Int) := (pylonref05_all.f k l0).bind fun t249 => (if t249 = true then ((pylonref03_Is.f k a1_0 a1_1 a1_2).bind fun t250 => (if t250 = true then ((pylonref05_falls.f k l0 a1_0 a1_1 a1_2).bind fun t251 => (some (t251, 0))) else (some (false, 5)))) else (some (false, 8)))
theorem pylonref05_Is.mono : ∀ a0 a1 a2 a3 k, LeO (pylonref05_Is.f k a0 a1 a2 a3) (pylonref05_Is.f (k + 1) a0 a1 a2 a3) := by
 intro a0 a1 a2 a3 k
 unfold pylonref05_Is.f
 repeat' first
   | (with_reducible exact pylonref03_Is.mono _ _ _ _)
   | (with_reducible exact pylonref05_all.mono _ _)
   | (with_reducible exact pylonref05_falls.mono _ _ _ _ _)
   | (with_reducible exact LeO.refl _)
   | (with_reducible exact LeO.none _)
   | (with_reducible refine LeO.ite ?_ ?_)
   | (with_reducible refine LeO.bind ?_ (fun _ => ?_))
set_option maxHeartbeats 8000000 in
set_option maxRecDepth 100000 in
theorem pylonref05_Is.calls (k : Nat) (A0 : Option Addr) (c0 : Nat) (l0 : List (S65)) (a1_0 : Int) (a1_1 : Int) (a1_2 : Int) (r1 : Bool) (r2 : Int) (w : World) (hr0 : Kd.C k65 w A0 l0.length l0) (hc0 : l0.length ≤ c0) (h : pylonref05_Is.f k l0 a1_0 a1_1 a1_2 = some (r1, r2)) :
  Calls Try.prog 18 #[.slice A0 l0.length c0, .agg #[.int .i64 a1_0, .int .i64 a1_1, .int .i64 a1_2]] w fun e w' => e = .returned (.tuple #[.bool r1, .int .i64 r2]) ∧ Below w.heap.size w w' := by
 have hu24 := Try.underlying24
 have HR0 := AX hr0
 have HC0 := AX hc0
 clear hr0 hc0
 have HB := AX (Below.refl w.heap.size w)
 have H : ((pylonref05_all.f k l0).bind fun t249 => (if t249 = true then ((pylonref03_Is.f k a1_0 a1_1 a1_2).bind fun t250 => (if t250 = true then ((pylonref05_falls.f k l0 a1_0 a1_1 a1_2).bind fun t251 => (some (t251, 0))) else (some (false, 5)))) else (some (false, 8)))) = some (r1, r2) := h
 clear h
 replace H := Option.bind_eq_some_iff.mp H
 obtain ⟨t249, A30, H⟩ := H
 replace H : (if t249 = true then ((pylonref03_Is.f k a1_0 a1_1 a1_2).bind fun t250 => (if t250 = true then ((pylonref05_falls.f k l0 a1_0 a1_1 a1_2).bind fun t251 => (some (t251, 0))) else (some (false, 5)))) else (some (false, 8))) = some (r1, r2) := H
 have A3 := AX A30
 clear A30
 by_cases c4 : t249 = true
 ·subst c4
  have H1 : ((pylonref03_Is.f k a1_0 a1_1 a1_2).bind fun t250 => (if t250 = true then ((pylonref05_falls.f k l0 a1_0 a1_1 a1_2).bind fun t251 => (some (t251, 0))) else (some (false, 5)))) = some (r1, r2) := by rw [if_pos rfl] at H; exact H
  clear H
  have H := H1
  clear H1
  replace H := Option.bind_eq_some_iff.mp H
  obtain ⟨t250, A50, H⟩ := H
  replace H : (if t250 = true then ((pylonref05_falls.f k l0 a1_0 a1_1 a1_2).bind fun t251 => (some (t251, 0))) else (some (false, 5))) = some (r1, r2) := H
  have A5 := AX A50
  clear A50
  by_cases c6 : t250 = true
  ·subst c6
   have H1 : ((pylonref05_falls.f k l0 a1_0 a1_1 a1_2).bind fun t251 => (some (t251, 0))) = some (r1, r2) := by rw [if_pos rfl] at H; exact H
   clear H
   have H := H1
   clear H1
   replace H := Option.bind_eq_some_iff.mp H
   obtain ⟨t251, A70, H⟩ := H
   replace H : (some (t251, 0)) = some (r1, r2) := H
   have A7 := AX A70
   clear A70
   simp only [Option.some.injEq, Prod.mk.injEq] at H
   obtain ⟨rfl, rfl⟩ := H
   go_enter Try.func18, Try.ntmps18
   go_wp2_with (first | ((with_reducible refine gate_dst (N := 3) rfl ?_); refine bx 3 #[.int .i64 a1_0, .int .i64 a1_1, .int .i64 a1_2] 24 ?_; intro gb248 hg w8 hbox hb; have BK248 := AX (hbox); have GW248 := gwl (w := w) hg bw; have GE248 := GW248; replace HB := AX (below_step bw hb); clear hb hbox hg) | ((with_reducible refine gate_callee (f := 44) rfl ?_); refine gL (some 7) Try.func44 #[.slice A0 l0.length c0] ?_; (with_reducible refine (pylonref05_all.calls k _ _ l0 true _ ?side1 ?side2 A3.out).mono ?_); (case side1 => repeat (first | exact (Kd.C_below HR0.out HB.out) | (with_reducible refine Kd.C_alloc ?_ _) | (with_reducible refine Kd.C_drewN ?_ _) | (with_reducible refine Kd.C_drew ?_))); (case side2 => exact HC0.out); rintro e w9 ⟨rfl, hb⟩; refine ⟨_, rfl, ?_⟩; replace BK248 := AX (bkb BK248 hb); replace HB := AX (below_step bw hb); (try clear hb); (try clear hb2); (try clear hk); (try clear hi); obtain ⟨hcz10_0, hcz10_1, hcz10_2⟩ := blkC3 (w := w9) BK248.out; obtain ⟨hfz10_0, hfz10_1, hfz10_2⟩ := blkF3 BK248.out) | ((with_reducible refine gate_callee (f := 45) rfl ?_); refine gL (some 10) Try.func45 #[.agg #[.int .i64 a1_0, .int .i64 a1_1, .int .i64 a1_2]] ?_; (with_reducible refine (pylonref03_Is.calls k a1_0 a1_1 a1_2 true _ A5.out).mono ?_); rintro e w11 ⟨rfl, hb⟩; refine ⟨_, rfl, ?_⟩; replace BK248 := AX (bkb BK248 hb); replace HB := AX (below_step bw hb); (try clear hb); obtain ⟨hcz12_0, hcz12_1, hcz12_2⟩ := blkC3 (w := w11) BK248.out; obtain ⟨hfz12_0, hfz12_1, hfz12_2⟩ := blkF3 BK248.out) | ((with_reducible refine gate_callee (f := 46) rfl ?_); refine gL (some 14) Try.func46 #[.slice A0 l0.length c0, .agg #[.int .i64 a1_0, .int .i64 a1_1, .int .i64 a1_2]] ?_; (with_reducible refine (pylonref05_falls.calls k _ _ l0 a1_0 a1_1 a1_2 t251 _ ?side1 ?side2 A7.out).mono ?_); (case side1 => repeat (first | exact (Kd.C_below HR0.out HB.out) | (with_reducible refine Kd.C_alloc ?_ _) | (with_reducible refine Kd.C_drewN ?_ _) | (with_reducible refine Kd.C_drew ?_))); (case side2 => exact HC0.out); rintro e w13 ⟨rfl, hb⟩; refine ⟨_, rfl, ?_⟩; replace BK248 := AX (bkb BK248 hb); replace HB := AX (below_step bw hb); (try clear hb); (try clear hb2); (try clear hk); (try clear hi)))
   go_ret2
   exact ⟨by first | rfl | (simp [errW_none, errW_some] <;> rfl) | (simp [*, errW_none, errW_some] <;> rfl), bw⟩
  ·replace c6 := Bool.eq_false_iff.mpr c6
   subst c6
   have H1 : (some (false, 5)) = some (r1, r2) := by rw [if_neg (show ¬ (false = true) by decide)] at H; exact H
   clear H
   have H := H1
   clear H1
   simp only [Option.some.injEq, Prod.mk.injEq] at H
   obtain ⟨rfl, rfl⟩ := H
   go_enter Try.func18, Try.ntmps18
   go_wp2_with (first | ((with_reducible refine gate_dst (N := 3) rfl ?_); refine bx 3 #[.int .i64 a1_0, .int .i64 a1_1, .int .i64 a1_2] 24 ?_; intro gb248 hg w14 hbox hb; have BK248 := AX (hbox); have GW248 := gwl (w := w) hg bw; have GE248 := GW248; replace HB := AX (below_step bw hb); clear hb hbox hg) | ((with_reducible refine gate_callee (f := 44) rfl ?_); refine gL (some 7) Try.func44 #[.slice A0 l0.length c0] ?_; (with_reducible refine (pylonref05_all.calls k _ _ l0 true _ ?side1 ?side2 A3.out).mono ?_); (case side1 => repeat (first | exact (Kd.C_below HR0.out HB.out) | (with_reducible refine Kd.C_alloc ?_ _) | (with_reducible refine Kd.C_drewN ?_ _) | (with_reducible refine Kd.C_drew ?_))); (case side2 => exact HC0.out); rintro e w15 ⟨rfl, hb⟩; refine ⟨_, rfl, ?_⟩; replace BK248 := AX (bkb BK248 hb); replace HB := AX (below_step bw hb); (try clear hb); (try clear hb2); (try clear hk); (try clear hi); obtain ⟨hcz16_0, hcz16_1, hcz16_2⟩ := blkC3 (w := w15) BK248.out; obtain ⟨hfz16_0, hfz16_1, hfz16_2⟩ := blkF3 BK248.out) | ((with_reducible refine gate_callee (f := 45) rfl ?_); refine gL (some 10) Try.func45 #[.agg #[.int .i64 a1_0, .int .i64 a1_1, .int .i64 a1_2]] ?_; (with_reducible refine (pylonref03_Is.calls k a1_0 a1_1 a1_2 false _ A5.out).mono ?_); rintro e w17 ⟨rfl, hb⟩; refine ⟨_, rfl, ?_⟩; replace BK248 := AX (bkb BK248 hb); replace HB := AX (below_step bw hb); (try clear hb)))
   go_ret2
   exact ⟨by first | rfl | (simp [errW_none, errW_some] <;> rfl) | (simp [*, errW_none, errW_some] <;> rfl), bw⟩
 ·replace c4 := Bool.eq_false_iff.mpr c4
  subst c4
  have H1 : (some (false, 8)) = some (r1, r2) := by rw [if_neg (show ¬ (false = true) by decide)] at H; exact H
  clear H
  have H := H1
  clear H1
  simp only [Option.some.injEq, Prod.mk.injEq] at H
  obtain ⟨rfl, rfl⟩ := H
  go_enter Try.func18, Try.ntmps18
  go_wp2_with (first | ((with_reducible refine gate_dst (N := 3) rfl ?_); refine bx 3 #[.int .i64 a1_0, .int .i64 a1_1, .int .i64 a1_2] 24 ?_; intro gb248 hg w18 hbox hb; have BK248 := AX (hbox); have GW248 := gwl (w := w) hg bw; have GE248 := GW248; replace HB := AX (below_step bw hb); clear hb hbox hg) | ((with_reducible refine gate_callee (f := 44) rfl ?_); refine gL (some 7) Try.func44 #[.slice A0 l0.length c0] ?_; (with_reducible refine (pylonref05_all.calls k _ _ l0 false _ ?side1 ?side2 A3.out).mono ?_); (case side1 => repeat (first | exact (Kd.C_below HR0.out HB.out) | (with_reducible refine Kd.C_alloc ?_ _) | (with_reducible refine Kd.C_drewN ?_ _) | (with_reducible refine Kd.C_drew ?_))); (case side2 => exact HC0.out); rintro e w19 ⟨rfl, hb⟩; refine ⟨_, rfl, ?_⟩; replace BK248 := AX (bkb BK248 hb); replace HB := AX (below_step bw hb); (try clear hb); (try clear hb2); (try clear hk); (try clear hi)))
  go_ret2
  exact ⟨by first | rfl | (simp [errW_none, errW_some] <;> rfl) | (simp [*, errW_none, errW_some] <;> rfl), bw⟩

/-! ### pylonref14_Kind: function 16 -/
def pylonref14_Kind.f (k : Nat) (l0 : List (S65)) (a1_0 : Int) (a1_1 : Int) (a1_2 : Int) : Option (Int × Int) := (pylonref05_Is.f k l0 a1_0 a1_1 a1_2).bind fun bt253 => (if bt253.2 = 0 then ((pylonref03_Weekday.f k a1_0 a1_1 a1_2).bind fun bt255 => (if bt253.1 = true then (some (3, 0)) else (if bt255.1 = 6 then (some (2, 0)) else (if bt255.1 = 5 then (some (1, 0)) else (some (0, 0)))))) else (some (0, bt253.2)))
theorem pylonref14_Kind.mono : ∀ a0 a1 a2 a3 k, LeO (pylonref14_Kind.f k a0 a1 a2 a3) (pylonref14_Kind.f (k + 1) a0 a1 a2 a3) := by
 intro a0 a1 a2 a3 k
 unfold pylonref14_Kind.f
 repeat' first
   | (with_reducible exact pylonref03_Weekday.mono _ _ _ _)
   | (with_reducible exact pylonref05_Is.mono _ _ _ _ _)
   | (with_reducible exact LeO.refl _)
   | (with_reducible exact LeO.none _)
   | (with_reducible refine LeO.ite ?_ ?_)
   | (with_reducible refine LeO.bind ?_ (fun _ => ?_))
set_option maxHeartbeats 8000000 in
set_option maxRecDepth 100000 in
theorem pylonref14_Kind.calls (k : Nat) (A0 : Option Addr) (c0 : Nat) (l0 : List (S65)) (a1_0 : Int) (a1_1 : Int) (a1_2 : Int) (r1 : Int) (r2 : Int) (w : World) (hr0 : Kd.C k65 w A0 l0.length l0) (hc0 : l0.length ≤ c0) (h : pylonref14_Kind.f k l0 a1_0 a1_1 a1_2 = some (r1, r2)) :
  Calls Try.prog 16 #[.slice A0 l0.length c0, .agg #[.int .i64 a1_0, .int .i64 a1_1, .int .i64 a1_2]] w fun e w' => e = .returned (.tuple #[.int .i64 r1, .int .i64 r2]) ∧ Below w.heap.size w w' := by
 have hu24 := Try.underlying24
 have HR0 := AX hr0
 have HC0 := AX hc0
 clear hr0 hc0
 have HB := AX (Below.refl w.heap.size w)
 have H : ((pylonref05_Is.f k l0 a1_0 a1_1 a1_2).bind fun bt253 => (if bt253.2 = 0 then ((pylonref03_Weekday.f k a1_0 a1_1 a1_2).bind fun bt255 => (if bt253.1 = true then (some (3, 0)) else (if bt255.1 = 6 then (some (2, 0)) else (if bt255.1 = 5 then (some (1, 0)) else (some (0, 0)))))) else (some (0, bt253.2)))) = some (r1, r2) := h
 clear h
 replace H := Option.bind_eq_some_iff.mp H
 obtain ⟨⟨t253, t254⟩, A30, H⟩ := H
 replace H : (if t254 = 0 then ((pylonref03_Weekday.f k a1_0 a1_1 a1_2).bind fun bt255 => (if t253 = true then (some (3, 0)) else (if bt255.1 = 6 then (some (2, 0)) else (if bt255.1 = 5 then (some (1, 0)) else (some (0, 0)))))) else (some (0, t254))) = some (r1, r2) := H
 have A3 := AX A30
 clear A30
 by_cases c4 : t254 = 0
 ·rw [if_pos c4] at H
  have c4b0 : (t254 == 0) = true := beq_iff_eq.mpr c4
  have c4b1 : (t254 != 0) = false := bne_eq_false_iff_eq.mpr c4
  clear c4
  replace H := Option.bind_eq_some_iff.mp H
  obtain ⟨⟨t255, t256⟩, A50, H⟩ := H
  replace H : (if t253 = true then (some (3, 0)) else (if t255 = 6 then (some (2, 0)) else (if t255 = 5 then (some (1, 0)) else (some (0, 0))))) = some (r1, r2) := H
  have A5 := AX A50
  clear A50
  by_cases c6 : t253 = true
  ·subst c6
   have H1 : (some (3, 0)) = some (r1, r2) := by rw [if_pos rfl] at H; exact H
   clear H
   have H := H1
   clear H1
   simp only [Option.some.injEq, Prod.mk.injEq] at H
   obtain ⟨rfl, rfl⟩ := H
   go_enter Try.func16, Try.ntmps16
   go_wp2_with (first | ((with_reducible refine gate_dst (N := 3) rfl ?_); refine bx 3 #[.int .i64 a1_0, .int .i64 a1_1, .int .i64 a1_2] 24 ?_; intro gb252 hg w7 hbox hb; have BK252 := AX (hbox); have GW252 := gwl (w := w) hg bw; have GE252 := GW252; replace HB := AX (below_step bw hb); clear hb hbox hg; obtain ⟨hcz8_0, hcz8_1, hcz8_2⟩ := blkC3 (w := w7) BK252.out; obtain ⟨hfz8_0, hfz8_1, hfz8_2⟩ := blkF3 BK252.out) | ((with_reducible refine gate_callee (f := 18) rfl ?_); refine gL (some 13) Try.func18 #[.slice A0 l0.length c0, .agg #[.int .i64 a1_0, .int .i64 a1_1, .int .i64 a1_2]] ?_; (with_reducible refine (pylonref05_Is.calls k _ _ l0 a1_0 a1_1 a1_2 true t254 _ ?side1 ?side2 A3.out).mono ?_); (case side1 => repeat (first | exact (Kd.C_below HR0.out HB.out) | (with_reducible refine Kd.C_alloc ?_ _) | (with_reducible refine Kd.C_drewN ?_ _) | (with_reducible refine Kd.C_drew ?_))); (case side2 => exact HC0.out); rintro e w9 ⟨rfl, hb⟩; refine ⟨_, rfl, ?_⟩; replace BK252 := AX (bkb BK252 hb); replace HB := AX (below_step bw hb); (try clear hb); (try clear hb2); (try clear hk); (try clear hi); obtain ⟨hcz10_0, hcz10_1, hcz10_2⟩ := blkC3 (w := w9) BK252.out; obtain ⟨hfz10_0, hfz10_1, hfz10_2⟩ := blkF3 BK252.out) | ((with_reducible refine gate_callee (f := 19) rfl ?_); refine gL (some 21) Try.func19 #[.agg #[.int .i64 a1_0, .int .i64 a1_1, .int .i64 a1_2]] ?_; (with_reducible refine (pylonref03_Weekday.calls k a1_0 a1_1 a1_2 t255 t256 _ A5.out).mono ?_); rintro e w11 ⟨rfl, hb⟩; refine ⟨_, rfl, ?_⟩; replace BK252 := AX (bkb BK252 hb); replace HB := AX (below_step bw hb); (try clear hb)))
   go_ret2
   exact ⟨by first | rfl | (simp [errW_none, errW_some] <;> rfl) | (simp [*, errW_none, errW_some] <;> rfl), bw⟩
  ·replace c6 := Bool.eq_false_iff.mpr c6
   subst c6
   have H1 : (if t255 = 6 then (some (2, 0)) else (if t255 = 5 then (some (1, 0)) else (some (0, 0)))) = some (r1, r2) := by rw [if_neg (show ¬ (false = true) by decide)] at H; exact H
   clear H
   have H := H1
   clear H1
   by_cases c12 : t255 = 6
   ·rw [if_pos c12] at H
    have c12b0 : (t255 == 6) = true := beq_iff_eq.mpr c12
    have c12b1 : (t255 != 6) = false := bne_eq_false_iff_eq.mpr c12
    clear c12
    simp only [Option.some.injEq, Prod.mk.injEq] at H
    obtain ⟨rfl, rfl⟩ := H
    go_enter Try.func16, Try.ntmps16
    go_wp2_with (first | ((with_reducible refine gate_dst (N := 3) rfl ?_); refine bx 3 #[.int .i64 a1_0, .int .i64 a1_1, .int .i64 a1_2] 24 ?_; intro gb252 hg w13 hbox hb; have BK252 := AX (hbox); have GW252 := gwl (w := w) hg bw; have GE252 := GW252; replace HB := AX (below_step bw hb); clear hb hbox hg; obtain ⟨hcz14_0, hcz14_1, hcz14_2⟩ := blkC3 (w := w13) BK252.out; obtain ⟨hfz14_0, hfz14_1, hfz14_2⟩ := blkF3 BK252.out) | ((with_reducible refine gate_callee (f := 18) rfl ?_); refine gL (some 13) Try.func18 #[.slice A0 l0.length c0, .agg #[.int .i64 a1_0, .int .i64 a1_1, .int .i64 a1_2]] ?_; (with_reducible refine (pylonref05_Is.calls k _ _ l0 a1_0 a1_1 a1_2 false t254 _ ?side1 ?side2 A3.out).mono ?_); (case side1 => repeat (first | exact (Kd.C_below HR0.out HB.out) | (with_reducible refine Kd.C_alloc ?_ _) | (with_reducible refine Kd.C_drewN ?_ _) | (with_reducible refine Kd.C_drew ?_))); (case side2 => exact HC0.out); rintro e w15 ⟨rfl, hb⟩; refine ⟨_, rfl, ?_⟩; replace BK252 := AX (bkb BK252 hb); replace HB := AX (below_step bw hb); (try clear hb); (try clear hb2); (try clear hk); (try clear hi); obtain ⟨hcz16_0, hcz16_1, hcz16_2⟩ := blkC3 (w := w15) BK252.out; obtain ⟨hfz16_0, hfz16_1, hfz16_2⟩ := blkF3 BK252.out) | ((with_reducible refine gate_callee (f := 19) rfl ?_); refine gL (some 21) Try.func19 #[.agg #[.int .i64 a1_0, .int .i64 a1_1, .int .i64 a1_2]] ?_; (with_reducible refine (pylonref03_Weekday.calls k a1_0 a1_1 a1_2 t255 t256 _ A5.out).mono ?_); rintro e w17 ⟨rfl, hb⟩; refine ⟨_, rfl, ?_⟩; replace BK252 := AX (bkb BK252 hb); replace HB := AX (below_step bw hb); (try clear hb)))
    go_ret2
    exact ⟨by first | rfl | (simp [errW_none, errW_some] <;> rfl) | (simp [*, errW_none, errW_some] <;> rfl), bw⟩
   ·rw [if_neg c12] at H
    have c12b0 : (t255 == 6) = false := beq_eq_false_iff_ne.mpr c12
    have c12b1 : (t255 != 6) = true := bne_iff_ne.mpr c12
    by_cases c18 : t255 = 5
    ·rw [if_pos c18] at H
     have c18b0 : (t255 == 5) = true := beq_iff_eq.mpr c18
     have c18b1 : (t255 != 5) = false := bne_eq_false_iff_eq.mpr c18
     clear c18
     simp only [Option.some.injEq, Prod.mk.injEq] at H
     obtain ⟨rfl, rfl⟩ := H
     go_enter Try.func16, Try.ntmps16
     go_wp2_with (first | ((with_reducible refine gate_dst (N := 3) rfl ?_); refine bx 3 #[.int .i64 a1_0, .int .i64 a1_1, .int .i64 a1_2] 24 ?_; intro gb252 hg w19 hbox hb; have BK252 := AX (hbox); have GW252 := gwl (w := w) hg bw; have GE252 := GW252; replace HB := AX (below_step bw hb); clear hb hbox hg; obtain ⟨hcz20_0, hcz20_1, hcz20_2⟩ := blkC3 (w := w19) BK252.out; obtain ⟨hfz20_0, hfz20_1, hfz20_2⟩ := blkF3 BK252.out) | ((with_reducible refine gate_callee (f := 18) rfl ?_); refine gL (some 13) Try.func18 #[.slice A0 l0.length c0, .agg #[.int .i64 a1_0, .int .i64 a1_1, .int .i64 a1_2]] ?_; (with_reducible refine (pylonref05_Is.calls k _ _ l0 a1_0 a1_1 a1_2 false t254 _ ?side1 ?side2 A3.out).mono ?_); (case side1 => repeat (first | exact (Kd.C_below HR0.out HB.out) | (with_reducible refine Kd.C_alloc ?_ _) | (with_reducible refine Kd.C_drewN ?_ _) | (with_reducible refine Kd.C_drew ?_))); (case side2 => exact HC0.out); rintro e w21 ⟨rfl, hb⟩; refine ⟨_, rfl, ?_⟩; replace BK252 := AX (bkb BK252 hb); replace HB := AX (below_step bw hb); (try clear hb); (try clear hb2); (try clear hk); (try clear hi); obtain ⟨hcz22_0, hcz22_1, hcz22_2⟩ := blkC3 (w := w21) BK252.out; obtain ⟨hfz22_0, hfz22_1, hfz22_2⟩ := blkF3 BK252.out) | ((with_reducible refine gate_callee (f := 19) rfl ?_); refine gL (some 21) Try.func19 #[.agg #[.int .i64 a1_0, .int .i64 a1_1, .int .i64 a1_2]] ?_; (with_reducible refine (pylonref03_Weekday.calls k a1_0 a1_1 a1_2 t255 t256 _ A5.out).mono ?_); rintro e w23 ⟨rfl, hb⟩; refine ⟨_, rfl, ?_⟩; replace BK252 := AX (bkb BK252 hb); replace HB := AX (below_step bw hb); (try clear hb)))
     go_ret2
     exact ⟨by first | rfl | (simp [errW_none, errW_some] <;> rfl) | (simp [*, errW_none, errW_some] <;> rfl), bw⟩
    ·rw [if_neg c18] at H
     have c18b0 : (t255 == 5) = false := beq_eq_false_iff_ne.mpr c18
     have c18b1 : (t255 != 5) = true := bne_iff_ne.mpr c18
     simp only [Option.some.injEq, Prod.mk.injEq] at H
     obtain ⟨rfl, rfl⟩ := H
     go_enter Try.func16, Try.ntmps16
     go_wp2_with (first | ((with_reducible refine gate_dst (N := 3) rfl ?_); refine bx 3 #[.int .i64 a1_0, .int .i64 a1_1, .int .i64 a1_2] 24 ?_; intro gb252 hg w24 hbox hb; have BK252 := AX (hbox); have GW252 := gwl (w := w) hg bw; have GE252 := GW252; replace HB := AX (below_step bw hb); clear hb hbox hg; obtain ⟨hcz25_0, hcz25_1, hcz25_2⟩ := blkC3 (w := w24) BK252.out; obtain ⟨hfz25_0, hfz25_1, hfz25_2⟩ := blkF3 BK252.out) | ((with_reducible refine gate_callee (f := 18) rfl ?_); refine gL (some 13) Try.func18 #[.slice A0 l0.length c0, .agg #[.int .i64 a1_0, .int .i64 a1_1, .int .i64 a1_2]] ?_; (with_reducible refine (pylonref05_Is.calls k _ _ l0 a1_0 a1_1 a1_2 false t254 _ ?side1 ?side2 A3.out).mono ?_); (case side1 => repeat (first | exact (Kd.C_below HR0.out HB.out) | (with_reducible refine Kd.C_alloc ?_ _) | (with_reducible refine Kd.C_drewN ?_ _) | (with_reducible refine Kd.C_drew ?_))); (case side2 => exact HC0.out); rintro e w26 ⟨rfl, hb⟩; refine ⟨_, rfl, ?_⟩; replace BK252 := AX (bkb BK252 hb); replace HB := AX (below_step bw hb); (try clear hb); (try clear hb2); (try clear hk); (try clear hi); obtain ⟨hcz27_0, hcz27_1, hcz27_2⟩ := blkC3 (w := w26) BK252.out; obtain ⟨hfz27_0, hfz27_1, hfz27_2⟩ := blkF3 BK252.out) | ((with_reducible refine gate_callee (f := 19) rfl ?_); refine gL (some 21) Try.func19 #[.agg #[.int .i64 a1_0, .int .i64 a1_1, .int .i64 a1_2]] ?_; (with_reducible refine (pylonref03_Weekday.calls k a1_0 a1_1 a1_2 t255 t256 _ A5.out).mono ?_); rintro e w28 ⟨rfl, hb⟩; refine ⟨_, rfl, ?_⟩; replace BK252 := AX (bkb BK252 hb); replace HB := AX (below_step bw hb); (try clear hb)))
     go_ret2
     exact ⟨by first | rfl | (simp [errW_none, errW_some] <;> rfl) | (simp [*, errW_none, errW_some] <;> rfl), bw⟩
 ·rw [if_neg c4] at H
  have c4b0 : (t254 == 0) = false := beq_eq_false_iff_ne.mpr c4
  have c4b1 : (t254 != 0) = true := bne_iff_ne.mpr c4
  simp only [Option.some.injEq, Prod.mk.injEq] at H
  obtain ⟨rfl, rfl⟩ := H
  go_enter Try.func16, Try.ntmps16
  go_wp2_with (first | ((with_reducible refine gate_dst (N := 3) rfl ?_); refine bx 3 #[.int .i64 a1_0, .int .i64 a1_1, .int .i64 a1_2] 24 ?_; intro gb252 hg w29 hbox hb; have BK252 := AX (hbox); have GW252 := gwl (w := w) hg bw; have GE252 := GW252; replace HB := AX (below_step bw hb); clear hb hbox hg; obtain ⟨hcz30_0, hcz30_1, hcz30_2⟩ := blkC3 (w := w29) BK252.out; obtain ⟨hfz30_0, hfz30_1, hfz30_2⟩ := blkF3 BK252.out) | ((with_reducible refine gate_callee (f := 18) rfl ?_); refine gL (some 13) Try.func18 #[.slice A0 l0.length c0, .agg #[.int .i64 a1_0, .int .i64 a1_1, .int .i64 a1_2]] ?_; (with_reducible refine (pylonref05_Is.calls k _ _ l0 a1_0 a1_1 a1_2 t253 t254 _ ?side1 ?side2 A3.out).mono ?_); (case side1 => repeat (first | exact (Kd.C_below HR0.out HB.out) | (with_reducible refine Kd.C_alloc ?_ _) | (with_reducible refine Kd.C_drewN ?_ _) | (with_reducible refine Kd.C_drew ?_))); (case side2 => exact HC0.out); rintro e w31 ⟨rfl, hb⟩; refine ⟨_, rfl, ?_⟩; replace BK252 := AX (bkb BK252 hb); replace HB := AX (below_step bw hb); (try clear hb); (try clear hb2); (try clear hk); (try clear hi)))
  go_ret2
  exact ⟨by first | rfl | (simp [errW_none, errW_some] <;> rfl) | (simp [*, errW_none, errW_some] <;> rfl), bw⟩

/-! ### pylonref14_Window: function 20 -/
def pylonref14_Window.l0 : Nat → List (S60) → ByteArray → Int → Int → Int → Int → Option (Int × Int)
 | 0, _, _, _, _, _, _ => none
 | k + 1, x0, x1, x2, x3, x13, x14 => if x14 < x13 then (if 0 ≤ x14 then (if x14 < (x0.length : Int) then (if ((rd_T60 x0 x14).f0).toList = x1.toList then (if ((rd_T60 x0 x14).f1) = x2 then (if ((rd_T60 x0 x14).f2) ≤ x3 then (if x3 < ((rd_T60 x0 x14).f3) then (some (x14, 0)) else (pylonref14_Window.l0 k x0 x1 x2 x3 x13 (wrap64 (x14 + 1)))) else (pylonref14_Window.l0 k x0 x1 x2 x3 x13 (wrap64 (x14 + 1)))) else (pylonref14_Window.l0 k x0 x1 x2 x3 x13 (wrap64 (x14 + 1)))) else (pylonref14_Window.l0 k x0 x1 x2 x3 x13 (wrap64 (x14 + 1)))) else (none)) else (none)) else (some (0, 7))
def pylonref14_Window.f (k : Nat) (l0 : List (S60)) (a1 : ByteArray) (a2 : Int) (a3 : Int) : Option (Int × Int) := pylonref14_Window.l0 k l0 a1 a2 a3 (l0.length : Int) 0
theorem pylonref14_Window.mono_l : ∀ k, (∀ y0 y1 y2 y3 y4 y5, LeO (pylonref14_Window.l0 k y0 y1 y2 y3 y4 y5) (pylonref14_Window.l0 (k + 1) y0 y1 y2 y3 y4 y5))
 | 0 => fun _ _ _ _ _ _ r h => by simp [pylonref14_Window.l0] at h
 | k + 1 => by
  have ih0 := pylonref14_Window.mono_l k
  ·intro y0 y1 y2 y3 y4 y5
   unfold pylonref14_Window.l0
   repeat' first
   | (with_reducible exact ih0 _ _ _ _ _ _)
   | (with_reducible exact LeO.refl _)
   | (with_reducible exact LeO.none _)
   | (with_reducible refine LeO.ite ?_ ?_)
   | (with_reducible refine LeO.bind ?_ (fun _ => ?_))
theorem pylonref14_Window.mono : ∀ a0 a1 a2 a3 k, LeO (pylonref14_Window.f k a0 a1 a2 a3) (pylonref14_Window.f (k + 1) a0 a1 a2 a3) := by
 intro a0 a1 a2 a3 k
 have ih0 := pylonref14_Window.mono_l k
 unfold pylonref14_Window.f
 repeat' first
   | (with_reducible exact ih0 _ _ _ _ _ _)
   | (with_reducible exact LeO.refl _)
   | (with_reducible exact LeO.none _)
   | (with_reducible refine LeO.ite ?_ ?_)
   | (with_reducible refine LeO.bind ?_ (fun _ => ?_))
set_option maxHeartbeats 8000000 in
set_option maxRecDepth 100000 in
theorem pylonref14_Window.calls (k : Nat) (A0 : Option Addr) (c0 : Nat) (l0 : List (S60)) (a1 : ByteArray) (a2 : Int) (a3 : Int) (r1 : Int) (r2 : Int) (w : World) (hr0 : Kd.C k60 w A0 l0.length l0) (hc0 : l0.length ≤ c0) (h : pylonref14_Window.f k l0 a1 a2 a3 = some (r1, r2)) :
  Calls Try.prog 20 #[.slice A0 l0.length c0, .string a1, .int .i64 a2, .int .i64 a3] w fun e w' => e = .returned (.tuple #[.int .i64 r1, .int .i64 r2]) ∧ Below w.heap.size w w' := by
 have hu60 := Try.underlying60
 have HR0 := AX hr0
 have HC0 := AX hc0
 clear hr0 hc0
 have HB := AX (Below.refl w.heap.size w)
 have H : (pylonref14_Window.l0 k l0 a1 a2 a3 (l0.length : Int) 0) = some (r1, r2) := h
 clear h
 have H' := AX H
 clear H
 go_enter Try.func20, Try.ntmps20
 go_wp2
 go_loopg [14] k (fun kq v14 w' => ∃ (x14_1 : Int), v14 = .int .i64 x14_1 ∧ Aside0 (pylonref14_Window.l0 kq l0 a1 a2 a3 (l0.length : Int) x14_1 = some (r1, r2)) ∧ Aside0 (kq ≤ k) ∧ Aside0 (Below w.heap.size w w'))
 case atStart => exact ⟨(0), (by first | rfl | (simp; done) | (simp [*]; done)), H', ⟨Nat.le_refl _⟩, ⟨bw⟩⟩
 case round =>
  clear H'
  obtain ⟨x14_1, rfl, HA, HK1, HB⟩ := hrel
  cases gk with
  | zero => exact absurd HA.out (by simp [pylonref14_Window.l0])
  | succ k1 =>
   have H := HA.out
   clear HA
   simp only [pylonref14_Window.l0] at H
   by_cases c5 : x14_1 < (l0.length : Int)
   ·rw [if_pos c5] at H
    have c5b0 : decide (x14_1 < (l0.length : Int)) = true := decide_eq_true c5
    clear c5
    by_cases c6 : 0 ≤ x14_1
    ·rw [if_pos c6] at H
     have c6b0 : decide (0 ≤ x14_1) = true := decide_eq_true c6
     clear c6
     by_cases c7 : x14_1 < (l0.length : Int)
     ·rw [if_pos c7] at H
      have c7b0 : decide (x14_1 < (l0.length : Int)) = true := decide_eq_true c7
      clear c7
      by_cases c8 : ((rd_T60 l0 x14_1).f0).toList = a1.toList
      ·rw [if_pos c8] at H
       have c8b0 : (((rd_T60 l0 x14_1).f0).toList == a1.toList) = true := beq_iff_eq.mpr c8
       have c8b1 : (((rd_T60 l0 x14_1).f0).toList != a1.toList) = false := bne_eq_false_iff_eq.mpr c8
       clear c8
       by_cases c9 : ((rd_T60 l0 x14_1).f1) = a2
       ·rw [if_pos c9] at H
        have c9b0 : (((rd_T60 l0 x14_1).f1) == a2) = true := beq_iff_eq.mpr c9
        have c9b1 : (((rd_T60 l0 x14_1).f1) != a2) = false := bne_eq_false_iff_eq.mpr c9
        clear c9
        by_cases c10 : ((rd_T60 l0 x14_1).f2) ≤ a3
        ·rw [if_pos c10] at H
         have c10b0 : decide (((rd_T60 l0 x14_1).f2) ≤ a3) = true := decide_eq_true c10
         clear c10
         by_cases c11 : a3 < ((rd_T60 l0 x14_1).f3)
         ·rw [if_pos c11] at H
          have c11b0 : decide (a3 < ((rd_T60 l0 x14_1).f3)) = true := decide_eq_true c11
          clear c11
          simp only [Option.some.injEq, Prod.mk.injEq] at H
          obtain ⟨rfl, rfl⟩ := H
          have p267 : 0 ≤ (x14_1 : Int) := of_decide_eq_true (by first | (with_reducible assumption) | assumption)
          have q267 : x14_1 < (l0.length : Int) := of_decide_eq_true (by first | (with_reducible assumption) | assumption)
          obtain ⟨ad267, e267, hx267_0, hx267_1, hx267_2, hx267_3, hx267_4⟩ := at_T60 HR0.out x14_1 p267 q267
          cases e267
          replace hx267_0 := bcl HB hx267_0
          replace hx267_1 := bcl HB hx267_1
          replace hx267_2 := bcl HB hx267_2
          replace hx267_3 := bcl HB hx267_3
          replace hx267_4 := bcl HB hx267_4
          replace p267 := eq_true p267
          replace q267 := eq_true q267
          go_wp2_with (first | ((with_reducible refine gate_dst (N := 11) rfl ?_); refine bx 11 #[.string (⟨#[]⟩ : ByteArray), .int .i64 0, .int .i64 0, .int .i64 0, .string (⟨#[]⟩ : ByteArray)] 60 ?_; intro gb268 hg w12 hbox hb; have BK268 := AX (hbox); have GW268 := gwl (w := w) hg bw; have GE268 := GW268; replace HB := AX (below_step bw hb); clear hb hbox hg; obtain ⟨hcz13_0, hcz13_1, hcz13_2, hcz13_3, hcz13_4⟩ := blkC5 (w := w12) BK268.out; obtain ⟨hfz13_0, hfz13_1, hfz13_2, hfz13_3, hfz13_4⟩ := blkF5 BK268.out))
          go_ret2
          exact ⟨by first | rfl | (simp [errW_none, errW_some] <;> rfl) | (simp [*, errW_none, errW_some] <;> rfl), bw⟩
         ·rw [if_neg c11] at H
          have c11b0 : decide (a3 < ((rd_T60 l0 x14_1).f3)) = false := decide_eq_false c11
          clear c11
          have H' := AX H
          clear H
          have p267 : 0 ≤ (x14_1 : Int) := of_decide_eq_true (by first | (with_reducible assumption) | assumption)
          have q267 : x14_1 < (l0.length : Int) := of_decide_eq_true (by first | (with_reducible assumption) | assumption)
          obtain ⟨ad267, e267, hx267_0, hx267_1, hx267_2, hx267_3, hx267_4⟩ := at_T60 HR0.out x14_1 p267 q267
          cases e267
          replace hx267_0 := bcl HB hx267_0
          replace hx267_1 := bcl HB hx267_1
          replace hx267_2 := bcl HB hx267_2
          replace hx267_3 := bcl HB hx267_3
          replace hx267_4 := bcl HB hx267_4
          replace p267 := eq_true p267
          replace q267 := eq_true q267
          go_wp2_with (first | ((with_reducible refine gate_dst (N := 11) rfl ?_); refine bx 11 #[.string (⟨#[]⟩ : ByteArray), .int .i64 0, .int .i64 0, .int .i64 0, .string (⟨#[]⟩ : ByteArray)] 60 ?_; intro gb268 hg w14 hbox hb; have BK268 := AX (hbox); have GW268 := gwl (w := w) hg bw; have GE268 := GW268; replace HB := AX (below_step bw hb); clear hb hbox hg; obtain ⟨hcz15_0, hcz15_1, hcz15_2, hcz15_3, hcz15_4⟩ := blkC5 (w := w14) BK268.out; obtain ⟨hfz15_0, hfz15_1, hfz15_2, hfz15_3, hfz15_4⟩ := blkF5 BK268.out))
          go_roundg k1
          case measure => have := HK1.out; omega
          case rel => exact ⟨(wrap64 (x14_1 + 1)), (by first | rfl | (simp; done) | (simp [*]; done)), H', ⟨by have := HK1.out; omega⟩, ⟨bw⟩⟩
        ·rw [if_neg c10] at H
         have c10b0 : decide (((rd_T60 l0 x14_1).f2) ≤ a3) = false := decide_eq_false c10
         clear c10
         have H' := AX H
         clear H
         have p267 : 0 ≤ (x14_1 : Int) := of_decide_eq_true (by first | (with_reducible assumption) | assumption)
         have q267 : x14_1 < (l0.length : Int) := of_decide_eq_true (by first | (with_reducible assumption) | assumption)
         obtain ⟨ad267, e267, hx267_0, hx267_1, hx267_2, hx267_3, hx267_4⟩ := at_T60 HR0.out x14_1 p267 q267
         cases e267
         replace hx267_0 := bcl HB hx267_0
         replace hx267_1 := bcl HB hx267_1
         replace hx267_2 := bcl HB hx267_2
         replace hx267_3 := bcl HB hx267_3
         replace hx267_4 := bcl HB hx267_4
         replace p267 := eq_true p267
         replace q267 := eq_true q267
         go_wp2_with (first | ((with_reducible refine gate_dst (N := 11) rfl ?_); refine bx 11 #[.string (⟨#[]⟩ : ByteArray), .int .i64 0, .int .i64 0, .int .i64 0, .string (⟨#[]⟩ : ByteArray)] 60 ?_; intro gb268 hg w16 hbox hb; have BK268 := AX (hbox); have GW268 := gwl (w := w) hg bw; have GE268 := GW268; replace HB := AX (below_step bw hb); clear hb hbox hg; obtain ⟨hcz17_0, hcz17_1, hcz17_2, hcz17_3, hcz17_4⟩ := blkC5 (w := w16) BK268.out; obtain ⟨hfz17_0, hfz17_1, hfz17_2, hfz17_3, hfz17_4⟩ := blkF5 BK268.out))
         go_roundg k1
         case measure => have := HK1.out; omega
         case rel => exact ⟨(wrap64 (x14_1 + 1)), (by first | rfl | (simp; done) | (simp [*]; done)), H', ⟨by have := HK1.out; omega⟩, ⟨bw⟩⟩
       ·rw [if_neg c9] at H
        have c9b0 : (((rd_T60 l0 x14_1).f1) == a2) = false := beq_eq_false_iff_ne.mpr c9
        have c9b1 : (((rd_T60 l0 x14_1).f1) != a2) = true := bne_iff_ne.mpr c9
        have H' := AX H
        clear H
        have p267 : 0 ≤ (x14_1 : Int) := of_decide_eq_true (by first | (with_reducible assumption) | assumption)
        have q267 : x14_1 < (l0.length : Int) := of_decide_eq_true (by first | (with_reducible assumption) | assumption)
        obtain ⟨ad267, e267, hx267_0, hx267_1, hx267_2, hx267_3, hx267_4⟩ := at_T60 HR0.out x14_1 p267 q267
        cases e267
        replace hx267_0 := bcl HB hx267_0
        replace hx267_1 := bcl HB hx267_1
        replace hx267_2 := bcl HB hx267_2
        replace hx267_3 := bcl HB hx267_3
        replace hx267_4 := bcl HB hx267_4
        replace p267 := eq_true p267
        replace q267 := eq_true q267
        go_wp2_with (first | ((with_reducible refine gate_dst (N := 11) rfl ?_); refine bx 11 #[.string (⟨#[]⟩ : ByteArray), .int .i64 0, .int .i64 0, .int .i64 0, .string (⟨#[]⟩ : ByteArray)] 60 ?_; intro gb268 hg w18 hbox hb; have BK268 := AX (hbox); have GW268 := gwl (w := w) hg bw; have GE268 := GW268; replace HB := AX (below_step bw hb); clear hb hbox hg; obtain ⟨hcz19_0, hcz19_1, hcz19_2, hcz19_3, hcz19_4⟩ := blkC5 (w := w18) BK268.out; obtain ⟨hfz19_0, hfz19_1, hfz19_2, hfz19_3, hfz19_4⟩ := blkF5 BK268.out))
        go_roundg k1
        case measure => have := HK1.out; omega
        case rel => exact ⟨(wrap64 (x14_1 + 1)), (by first | rfl | (simp; done) | (simp [*]; done)), H', ⟨by have := HK1.out; omega⟩, ⟨bw⟩⟩
      ·rw [if_neg c8] at H
       have c8b0 : (((rd_T60 l0 x14_1).f0).toList == a1.toList) = false := beq_eq_false_iff_ne.mpr c8
       have c8b1 : (((rd_T60 l0 x14_1).f0).toList != a1.toList) = true := bne_iff_ne.mpr c8
       have H' := AX H
       clear H
       have p267 : 0 ≤ (x14_1 : Int) := of_decide_eq_true (by first | (with_reducible assumption) | assumption)
       have q267 : x14_1 < (l0.length : Int) := of_decide_eq_true (by first | (with_reducible assumption) | assumption)
       obtain ⟨ad267, e267, hx267_0, hx267_1, hx267_2, hx267_3, hx267_4⟩ := at_T60 HR0.out x14_1 p267 q267
       cases e267
       replace hx267_0 := bcl HB hx267_0
       replace hx267_1 := bcl HB hx267_1
       replace hx267_2 := bcl HB hx267_2
       replace hx267_3 := bcl HB hx267_3
       replace hx267_4 := bcl HB hx267_4
       replace p267 := eq_true p267
       replace q267 := eq_true q267
       go_wp2_with (first | ((with_reducible refine gate_dst (N := 11) rfl ?_); refine bx 11 #[.string (⟨#[]⟩ : ByteArray), .int .i64 0, .int .i64 0, .int .i64 0, .string (⟨#[]⟩ : ByteArray)] 60 ?_; intro gb268 hg w20 hbox hb; have BK268 := AX (hbox); have GW268 := gwl (w := w) hg bw; have GE268 := GW268; replace HB := AX (below_step bw hb); clear hb hbox hg; obtain ⟨hcz21_0, hcz21_1, hcz21_2, hcz21_3, hcz21_4⟩ := blkC5 (w := w20) BK268.out; obtain ⟨hfz21_0, hfz21_1, hfz21_2, hfz21_3, hfz21_4⟩ := blkF5 BK268.out))
       go_roundg k1
       case measure => have := HK1.out; omega
       case rel => exact ⟨(wrap64 (x14_1 + 1)), (by first | rfl | (simp; done) | (simp [*]; done)), H', ⟨by have := HK1.out; omega⟩, ⟨bw⟩⟩
     ·rw [if_neg c7] at H
      exact absurd H (by simp)
    ·rw [if_neg c6] at H
     exact absurd H (by simp)
   ·rw [if_neg c5] at H
    have c5b0 : decide (x14_1 < (l0.length : Int)) = false := decide_eq_false c5
    clear c5
    simp only [Option.some.injEq, Prod.mk.injEq] at H
    obtain ⟨rfl, rfl⟩ := H
    go_wp2
    go_ret2
    exact ⟨by first | rfl | (simp [errW_none, errW_some] <;> rfl) | (simp [*, errW_none, errW_some] <;> rfl), bw⟩

/-! ### pylonref09_Day: function 73 -/
def pylonref09_Day.j0 : Nat → Int → Bool → Option (Int × Int)
 | 0, _, _ => none
 | k + 1, x0, x11 => if x11 = true then (some (0, 8)) else ((pylonref03_YearDay.f k 2000 (wrap64 (Int.tdiv x0 100)) (Int.tmod x0 100)).bind fun bt274 => (if bt274.2 = 0 then (some (bt274.1, 0)) else (some (0, 8))))
def pylonref09_Day.f (k : Nat) (a0 : Int) : Option (Int × Int) := if a0 < 101 then (pylonref09_Day.j0 k a0 true) else (pylonref09_Day.j0 k a0 (decide (a0 > 1231)))
theorem pylonref09_Day.mono_l : ∀ k, (∀ y0 y1, LeO (pylonref09_Day.j0 k y0 y1) (pylonref09_Day.j0 (k + 1) y0 y1))
 | 0 => fun _ _ r h => by simp [pylonref09_Day.j0] at h
 | k + 1 => by
  have ih0 := pylonref09_Day.mono_l k
  ·intro y0 y1
   unfold pylonref09_Day.j0
   repeat' first
   | (with_reducible exact ih0 _ _)
   | (with_reducible exact pylonref03_YearDay.mono _ _ _ _)
   | (with_reducible exact LeO.refl _)
   | (with_reducible exact LeO.none _)
   | (with_reducible refine LeO.ite ?_ ?_)
   | (with_reducible refine LeO.bind ?_ (fun _ => ?_))
theorem pylonref09_Day.mono : ∀ a0 k, LeO (pylonref09_Day.f k a0) (pylonref09_Day.f (k + 1) a0) := by
 intro a0 k
 have ih0 := pylonref09_Day.mono_l k
 unfold pylonref09_Day.f
 repeat' first
   | (with_reducible exact ih0 _ _)
   | (with_reducible exact pylonref03_YearDay.mono _ _ _ _)
   | (with_reducible exact LeO.refl _)
   | (with_reducible exact LeO.none _)
   | (with_reducible refine LeO.ite ?_ ?_)
   | (with_reducible refine LeO.bind ?_ (fun _ => ?_))
set_option maxHeartbeats 8000000 in
set_option maxRecDepth 100000 in
theorem pylonref09_Day.calls (k : Nat) (a0 : Int) (r1 : Int) (r2 : Int) (w : World) (h : pylonref09_Day.f k a0 = some (r1, r2)) :
  Calls Try.prog 73 #[.int .i64 a0] w fun e w' => e = .returned (.tuple #[.int .i64 r1, .int .i64 r2]) ∧ Below w.heap.size w w' := by
 have hu24 := Try.underlying24
 have HB := AX (Below.refl w.heap.size w)
 have H : (if a0 < 101 then (pylonref09_Day.j0 k a0 true) else (pylonref09_Day.j0 k a0 (decide (a0 > 1231)))) = some (r1, r2) := h
 clear h
 have HC2 := AX H
 clear H
 go_enter Try.func73, Try.ntmps73
 go_upto_region 1 with (fail)
 go_cut [11] (fun v11 wc => ∃ (kq : Nat) (x11_1 : Bool), v11 = .bool x11_1 ∧ Aside0 (pylonref09_Day.j0 kq a0 x11_1 = some (r1, r2)) ∧ Aside0 (kq ≤ k) ∧ Aside0 (Below w.heap.size w wc))
 case first =>
  have H := HC2.out
  clear HC2
  by_cases c3 : a0 < 101
  ·rw [if_pos c3] at H
   have c3b0 : decide (a0 < 101) = true := decide_eq_true c3
   clear c3
   (first | rw [c3b0] | (simp only [i64_w, i32_w]; rw [c3b0]) | skip)
   have H' := AX H
   clear H
   go_wp2
   go_meet
   case rel => exact ⟨_, (true), (by first | rfl | (simp; done) | (simp [*]; done)), H', ⟨by first | omega | exact Nat.le_refl _⟩, ⟨bw⟩⟩
  ·rw [if_neg c3] at H
   have c3b0 : decide (a0 < 101) = false := decide_eq_false c3
   clear c3
   (first | rw [c3b0] | (simp only [i64_w, i32_w]; rw [c3b0]) | skip)
   have H' := AX H
   clear H
   go_wp2
   go_meet
   case rel => exact ⟨_, (decide (a0 > 1231)), (by first | rfl | (simp; done) | (simp [*]; done)), H', ⟨by first | omega | exact Nat.le_refl _⟩, ⟨bw⟩⟩
 case rest =>
  clear HC2
  obtain ⟨kq, x11_1, rfl, HA, HJ1, HB⟩ := hcut
  cases kq with
  | zero => exact absurd HA.out (by simp [pylonref09_Day.j0])
  | succ kj1 =>
   have H := HA.out
   clear HA
   simp only [pylonref09_Day.j0] at H
   by_cases c4 : x11_1 = true
   ·subst c4
    have H1 : (some (0, 8)) = some (r1, r2) := by rw [if_pos rfl] at H; exact H
    clear H
    have H := H1
    clear H1
    simp only [Option.some.injEq, Prod.mk.injEq] at H
    obtain ⟨rfl, rfl⟩ := H
    go_wp2
    go_ret2
    exact ⟨by first | rfl | (simp [errW_none, errW_some] <;> rfl) | (simp [*, errW_none, errW_some] <;> rfl), bw⟩
   ·replace c4 := Bool.eq_false_iff.mpr c4
    subst c4
    have H1 : ((pylonref03_YearDay.f kj1 2000 (wrap64 (Int.tdiv a0 100)) (Int.tmod a0 100)).bind fun bt274 => (if bt274.2 = 0 then (some (bt274.1, 0)) else (some (0, 8)))) = some (r1, r2) := by rw [if_neg (show ¬ (false = true) by decide)] at H; exact H
    clear H
    have H := H1
    clear H1
    replace H := Option.bind_eq_some_iff.mp H
    obtain ⟨⟨t274, t275⟩, A50, H⟩ := H
    replace H : (if t275 = 0 then (some (t274, 0)) else (some (0, 8))) = some (r1, r2) := H
    have A5 := AX A50
    clear A50
    by_cases c6 : t275 = 0
    ·rw [if_pos c6] at H
     have c6b0 : (t275 == 0) = true := beq_iff_eq.mpr c6
     have c6b1 : (t275 != 0) = false := bne_eq_false_iff_eq.mpr c6
     clear c6
     simp only [Option.some.injEq, Prod.mk.injEq] at H
     obtain ⟨rfl, rfl⟩ := H
     go_wp2_with (first | ((with_reducible refine gate_callee (f := 71) rfl ?_); refine gL (some 18) Try.func71 #[.agg #[.int .i64 2000, .int .i64 (wrap64 (Int.tdiv a0 100)), .int .i64 (Int.tmod a0 100)]] ?_; (with_reducible refine (pylonref03_YearDay.calls kj1 2000 (wrap64 (Int.tdiv a0 100)) (Int.tmod a0 100) t274 t275 _ A5.out).mono ?_); rintro e w7 ⟨rfl, hb⟩; refine ⟨_, rfl, ?_⟩; replace HB := AX (below_step bw hb); (try clear hb)))
     go_ret2
     exact ⟨by first | rfl | (simp [errW_none, errW_some] <;> rfl) | (simp [*, errW_none, errW_some] <;> rfl), bw⟩
    ·rw [if_neg c6] at H
     have c6b0 : (t275 == 0) = false := beq_eq_false_iff_ne.mpr c6
     have c6b1 : (t275 != 0) = true := bne_iff_ne.mpr c6
     simp only [Option.some.injEq, Prod.mk.injEq] at H
     obtain ⟨rfl, rfl⟩ := H
     go_wp2_with (first | ((with_reducible refine gate_callee (f := 71) rfl ?_); refine gL (some 18) Try.func71 #[.agg #[.int .i64 2000, .int .i64 (wrap64 (Int.tdiv a0 100)), .int .i64 (Int.tmod a0 100)]] ?_; (with_reducible refine (pylonref03_YearDay.calls kj1 2000 (wrap64 (Int.tdiv a0 100)) (Int.tmod a0 100) t274 t275 _ A5.out).mono ?_); rintro e w8 ⟨rfl, hb⟩; refine ⟨_, rfl, ?_⟩; replace HB := AX (below_step bw hb); (try clear hb)))
     go_ret2
     exact ⟨by first | rfl | (simp [errW_none, errW_some] <;> rfl) | (simp [*, errW_none, errW_some] <;> rfl), bw⟩

/-! ### pylonref09_Holds: function 47 -/
def pylonref09_Holds.j0 : Nat → Int → Int → Int → Bool → Option (Bool)
 | 0, _, _, _, _ => none
 | k + 1, x5, x7, x9, x37 => if x37 = true then (some false) else (if x7 ≤ x9 then (if x5 ≥ x7 then (some (decide (x5 ≤ x9))) else (some false)) else (if x5 ≥ x7 then (some true) else (some (decide (x5 ≤ x9)))))
def pylonref09_Holds.f (k : Nat) (a0_0 : ByteArray) (a0_1 : Int) (a0_2 : Int) (a1 : Int) : Option (Bool) := (pylonref09_Day.f k a1).bind fun bt277 => ((pylonref09_Day.f k a0_1).bind fun bt279 => ((pylonref09_Day.f k a0_2).bind fun bt281 => (if bt277.2 = 0 then (if bt279.2 = 0 then (pylonref09_Holds.j0 k bt277.1 bt279.1 bt281.1 (bt281.2 != 0)) else (pylonref09_Holds.j0 k bt277.1 bt279.1 bt281.1 true)) else (pylonref09_Holds.j0 k bt277.1 bt279.1 bt281.1 true))))
theorem pylonref09_Holds.mono_l : ∀ k, (∀ y0 y1 y2 y3, LeO (pylonref09_Holds.j0 k y0 y1 y2 y3) (pylonref09_Holds.j0 (k + 1) y0 y1 y2 y3))
 | 0 => fun _ _ _ _ r h => by simp [pylonref09_Holds.j0] at h
 | k + 1 => by
  have ih0 := pylonref09_Holds.mono_l k
  ·intro y0 y1 y2 y3
   unfold pylonref09_Holds.j0
   repeat' first
   | (with_reducible exact ih0 _ _ _ _)
   | (with_reducible exact pylonref09_Day.mono _ _)
   | (with_reducible exact LeO.refl _)
   | (with_reducible exact LeO.none _)
   | (with_reducible refine LeO.ite ?_ ?_)
   | (with_reducible refine LeO.bind ?_ (fun _ => ?_))
theorem pylonref09_Holds.mono : ∀ a0 a1 a2 a3 k, LeO (pylonref09_Holds.f k a0 a1 a2 a3) (pylonref09_Holds.f (k + 1) a0 a1 a2 a3) := by
 intro a0 a1 a2 a3 k
 have ih0 := pylonref09_Holds.mono_l k
 unfold pylonref09_Holds.f
 repeat' first
   | (with_reducible exact ih0 _ _ _ _)
   | (with_reducible exact pylonref09_Day.mono _ _)
   | (with_reducible exact LeO.refl _)
   | (with_reducible exact LeO.none _)
   | (with_reducible refine LeO.ite ?_ ?_)
   | (with_reducible refine LeO.bind ?_ (fun _ => ?_))
set_option maxHeartbeats 8000000 in
set_option maxRecDepth 100000 in
theorem pylonref09_Holds.calls (k : Nat) (a0_0 : ByteArray) (a0_1 : Int) (a0_2 : Int) (a1 : Int) (r : Bool) (w : World) (h : pylonref09_Holds.f k a0_0 a0_1 a0_2 a1 = some r) :
  Calls Try.prog 47 #[.agg #[.string a0_0, .int .i64 a0_1, .int .i64 a0_2], .int .i64 a1] w fun e w' => e = .returned (.bool r) ∧ Below w.heap.size w w' := by
 have hu58 := Try.underlying58
 have HB := AX (Below.refl w.heap.size w)
 have H : ((pylonref09_Day.f k a1).bind fun bt277 => ((pylonref09_Day.f k a0_1).bind fun bt279 => ((pylonref09_Day.f k a0_2).bind fun bt281 => (if bt277.2 = 0 then (if bt279.2 = 0 then (pylonref09_Holds.j0 k bt277.1 bt279.1 bt281.1 (bt281.2 != 0)) else (pylonref09_Holds.j0 k bt277.1 bt279.1 bt281.1 true)) else (pylonref09_Holds.j0 k bt277.1 bt279.1 bt281.1 true))))) = some r := h
 clear h
 replace H := Option.bind_eq_some_iff.mp H
 obtain ⟨⟨t277, t278⟩, A30, H⟩ := H
 replace H : ((pylonref09_Day.f k a0_1).bind fun bt279 => ((pylonref09_Day.f k a0_2).bind fun bt281 => (if t278 = 0 then (if bt279.2 = 0 then (pylonref09_Holds.j0 k t277 bt279.1 bt281.1 (bt281.2 != 0)) else (pylonref09_Holds.j0 k t277 bt279.1 bt281.1 true)) else (pylonref09_Holds.j0 k t277 bt279.1 bt281.1 true)))) = some r := H
 have A3 := AX A30
 clear A30
 replace H := Option.bind_eq_some_iff.mp H
 obtain ⟨⟨t279, t280⟩, A40, H⟩ := H
 replace H : ((pylonref09_Day.f k a0_2).bind fun bt281 => (if t278 = 0 then (if t280 = 0 then (pylonref09_Holds.j0 k t277 t279 bt281.1 (bt281.2 != 0)) else (pylonref09_Holds.j0 k t277 t279 bt281.1 true)) else (pylonref09_Holds.j0 k t277 t279 bt281.1 true))) = some r := H
 have A4 := AX A40
 clear A40
 replace H := Option.bind_eq_some_iff.mp H
 obtain ⟨⟨t281, t282⟩, A50, H⟩ := H
 replace H : (if t278 = 0 then (if t280 = 0 then (pylonref09_Holds.j0 k t277 t279 t281 (t282 != 0)) else (pylonref09_Holds.j0 k t277 t279 t281 true)) else (pylonref09_Holds.j0 k t277 t279 t281 true)) = some r := H
 have A5 := AX A50
 clear A50
 have HC6 := AX H
 clear H
 go_enter Try.func47, Try.ntmps47
 go_upto_region 4 with (first | ((with_reducible refine gate_dst (N := 2) rfl ?_); refine bx 2 #[.string a0_0, .int .i64 a0_1, .int .i64 a0_2] 58 ?_; intro gb276 hg w7 hbox hb; have BK276 := AX (hbox); have GW276 := gwl (w := w) hg bw; have GE276 := GW276; replace HB := AX (below_step bw hb); clear hb hbox hg) | ((with_reducible refine gate_callee (f := 73) rfl ?_); refine gL (some 13) Try.func73 #[.int .i64 a1] ?_; (with_reducible refine (pylonref09_Day.calls k a1 t277 t278 _ A3.out).mono ?_); rintro e w8 ⟨rfl, hb⟩; refine ⟨_, rfl, ?_⟩; replace BK276 := AX (bkb BK276 hb); replace HB := AX (below_step bw hb); (try clear hb); obtain ⟨hcz9_0, hcz9_1, hcz9_2⟩ := blkC3 (w := w8) BK276.out; obtain ⟨hfz9_0, hfz9_1, hfz9_2⟩ := blkF3 BK276.out) | ((with_reducible refine gate_callee (f := 73) rfl ?_); refine gL (some 19) Try.func73 #[.int .i64 a0_1] ?_; (with_reducible refine (pylonref09_Day.calls k a0_1 t279 t280 _ A4.out).mono ?_); rintro e w10 ⟨rfl, hb⟩; refine ⟨_, rfl, ?_⟩; replace BK276 := AX (bkb BK276 hb); replace HB := AX (below_step bw hb); (try clear hb); obtain ⟨hcz11_0, hcz11_1, hcz11_2⟩ := blkC3 (w := w10) BK276.out; obtain ⟨hfz11_0, hfz11_1, hfz11_2⟩ := blkF3 BK276.out) | ((with_reducible refine gate_callee (f := 73) rfl ?_); refine gL (some 25) Try.func73 #[.int .i64 a0_2] ?_; (with_reducible refine (pylonref09_Day.calls k a0_2 t281 t282 _ A5.out).mono ?_); rintro e w12 ⟨rfl, hb⟩; refine ⟨_, rfl, ?_⟩; replace BK276 := AX (bkb BK276 hb); replace HB := AX (below_step bw hb); (try clear hb)))
 (try simp only [Act.put, List.setIfInBounds_toArray, List.set_cons_zero, List.set_cons_succ])
 go_cut [37] (fun v37 wc => ∃ (kq : Nat) (x37_5 : Bool), v37 = .bool x37_5 ∧ Aside0 (pylonref09_Holds.j0 kq t277 t279 t281 x37_5 = some r) ∧ Aside0 (kq ≤ k) ∧ Aside0 (wc.heap[gb276]? = some (.cells #[.string a0_0, .int .i64 a0_1, .int .i64 a0_2] 58 (0, 0))) ∧ Aside0 (Below w.heap.size w wc))
 case first =>
  have H := HC6.out
  clear HC6
  by_cases c13 : t278 = 0
  ·rw [if_pos c13] at H
   have c13b0 : (t278 == 0) = true := beq_iff_eq.mpr c13
   have c13b1 : (t278 != 0) = false := bne_eq_false_iff_eq.mpr c13
   clear c13
   (first | rw [c13b0] | (simp only [i64_w, i32_w]; rw [c13b0]) | skip)
   by_cases c14 : t280 = 0
   ·rw [if_pos c14] at H
    have c14b0 : (t280 == 0) = true := beq_iff_eq.mpr c14
    have c14b1 : (t280 != 0) = false := bne_eq_false_iff_eq.mpr c14
    clear c14
    have H' := AX H
    clear H
    go_wp2
    go_meet
    case rel => exact ⟨_, ((t282 != 0)), (by first | rfl | (simp; done) | (simp [*]; done)), H', ⟨by first | omega | exact Nat.le_refl _⟩, ⟨bkn BK276⟩, ⟨bw⟩⟩
   ·rw [if_neg c14] at H
    have c14b0 : (t280 == 0) = false := beq_eq_false_iff_ne.mpr c14
    have c14b1 : (t280 != 0) = true := bne_iff_ne.mpr c14
    have H' := AX H
    clear H
    go_wp2
    go_meet
    case rel => exact ⟨_, (true), (by first | rfl | (simp; done) | (simp [*]; done)), H', ⟨by first | omega | exact Nat.le_refl _⟩, ⟨bkn BK276⟩, ⟨bw⟩⟩
  ·rw [if_neg c13] at H
   have c13b0 : (t278 == 0) = false := beq_eq_false_iff_ne.mpr c13
   have c13b1 : (t278 != 0) = true := bne_iff_ne.mpr c13
   (first | rw [c13b0] | (simp only [i64_w, i32_w]; rw [c13b0]) | skip)
   have H' := AX H
   clear H
   go_wp2
   go_meet
   case rel => exact ⟨_, (true), (by first | rfl | (simp; done) | (simp [*]; done)), H', ⟨by first | omega | exact Nat.le_refl _⟩, ⟨bkn BK276⟩, ⟨bw⟩⟩
 case rest =>
  clear HC6
  try clear hcz11_0 hcz11_1 hcz11_2
  try clear hcz9_0 hcz9_1 hcz9_2
  try clear hfz11_0 hfz11_1 hfz11_2
  try clear hfz9_0 hfz9_1 hfz9_2
  obtain ⟨kq, x37_5, rfl, HA, HJ5, BK276, HB⟩ := hcut
  cases kq with
  | zero => exact absurd HA.out (by simp [pylonref09_Holds.j0])
  | succ kj5 =>
   have H := HA.out
   clear HA
   simp only [pylonref09_Holds.j0] at H
   by_cases c15 : x37_5 = true
   ·subst c15
    have H1 : (some false) = some r := by rw [if_pos rfl] at H; exact H
    clear H
    have H := H1
    clear H1
    obtain rfl := Option.some.inj H
    go_wp2
    go_ret
    exact ⟨by first | rfl | (simp [errW_none, errW_some] <;> rfl) | (simp [*, errW_none, errW_some] <;> rfl), bw⟩
   ·replace c15 := Bool.eq_false_iff.mpr c15
    subst c15
    have H1 : (if t279 ≤ t281 then (if t277 ≥ t279 then (some (decide (t277 ≤ t281))) else (some false)) else (if t277 ≥ t279 then (some true) else (some (decide (t277 ≤ t281))))) = some r := by rw [if_neg (show ¬ (false = true) by decide)] at H; exact H
    clear H
    have H := H1
    clear H1
    by_cases c16 : t279 ≤ t281
    ·rw [if_pos c16] at H
     have c16b0 : decide (t279 ≤ t281) = true := decide_eq_true c16
     clear c16
     by_cases c17 : t277 ≥ t279
     ·rw [if_pos c17] at H
      have c17b0 : decide (t279 ≤ t277) = true := decide_eq_true c17
      clear c17
      obtain rfl := Option.some.inj H
      go_wp2
      go_ret
      exact ⟨by first | rfl | (simp [errW_none, errW_some] <;> rfl) | (simp [*, errW_none, errW_some] <;> rfl), bw⟩
     ·rw [if_neg c17] at H
      have c17b0 : decide (t279 ≤ t277) = false := decide_eq_false c17
      clear c17
      obtain rfl := Option.some.inj H
      go_wp2
      go_ret
      exact ⟨by first | rfl | (simp [errW_none, errW_some] <;> rfl) | (simp [*, errW_none, errW_some] <;> rfl), bw⟩
    ·rw [if_neg c16] at H
     have c16b0 : decide (t279 ≤ t281) = false := decide_eq_false c16
     clear c16
     by_cases c18 : t277 ≥ t279
     ·rw [if_pos c18] at H
      have c18b0 : decide (t279 ≤ t277) = true := decide_eq_true c18
      clear c18
      obtain rfl := Option.some.inj H
      go_wp2
      go_ret
      exact ⟨by first | rfl | (simp [errW_none, errW_some] <;> rfl) | (simp [*, errW_none, errW_some] <;> rfl), bw⟩
     ·rw [if_neg c18] at H
      have c18b0 : decide (t279 ≤ t277) = false := decide_eq_false c18
      clear c18
      obtain rfl := Option.some.inj H
      go_wp2
      go_ret
      exact ⟨by first | rfl | (simp [errW_none, errW_some] <;> rfl) | (simp [*, errW_none, errW_some] <;> rfl), bw⟩

end Go.Proofs.Ytkggjjggcbcdiaa.PX
