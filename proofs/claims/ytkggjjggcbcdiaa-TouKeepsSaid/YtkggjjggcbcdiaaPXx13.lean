/- Functions of the program as plain Lean functions, each with a proof that the call in the machine answers just what the plain function says; condition: the plain function answers at all. -/
import Derived.Test.YtkggjjggcbcdiaaPXx0
import Derived.Test.YtkggjjggcbcdiaaPXx11
import Derived.Test.YtkggjjggcbcdiaaPXx12
namespace Go.Proofs.Ytkggjjggcbcdiaa.PX
open Go.RowKit Go.Proofs.YtkggjjggcbcdiaaW.PrintWords Go.Proofs.YtkggjjggcbcdiaaW.PrintLast Go.Proofs.YtkggjjggcbcdiaaW.PrintMore
attribute [local go_sem] max2_int min2_int max_two min_two max_three min_three max_four min_four   -- for this text's walks alone
set_option linter.unusedVariables false
set_option linter.unusedSimpArgs false

/-! ### zone_At: function 50 -/
def zone_At.j0 : Nat → Int → Int → Int → Bool → Int → Int → Int → Int → Int → Int → Int → Int → Int → Int → Int → Int → Int → Option (Int × Int × Int × Int × Int × Int)
 | 0, _, _, _, _, _, _, _, _, _, _, _, _, _, _, _, _, _ => none
 | k + 1, x1, x7, x9, x70, x237000, x237001, x237002, x237003, x237004, x237005, x237006, x237007, x237008, x237009, x245000, x245001, x245002 => if x70 = true then ((zone_clock.f k x1 (wrap64 (x9 + x237001))).bind fun bt248 => (if bt248.2.2.2.2 = 0 then (some (bt248.1, bt248.2.1, bt248.2.2.1, bt248.2.2.2.1, wrap64 (x9 + x237001), 0)) else (some (0, 0, 0, 0, 0, bt248.2.2.2.2)))) else (some (x245000, x245001, x245002, x7, x9, 0))
def zone_At.f (k : Nat) (a0_0 : Int) (a0_1 : Int) (a0_2 : Int) (a0_3 : Int) (a0_4 : Int) (a0_5 : Int) (a0_6 : Int) (a0_7 : Int) (a0_8 : Int) (a0_9 : Int) (a1 : Int) : Option (Int × Int × Int × Int × Int × Int) := (zone_Check.f k a0_0 a0_1 a0_2 a0_3 a0_4 a0_5 a0_6 a0_7 a0_8 a0_9).bind fun t238 => (if t238 = 0 then ((zone_clock.f k a1 a0_0).bind fun bt239 => (if bt239.2.2.2.2 = 0 then ((zone_Turns.f k a0_0 a0_1 a0_2 a0_3 a0_4 a0_5 a0_6 a0_7 a0_8 a0_9 bt239.1).bind fun bt245 => (if bt245.2.2 = 0 then (if bt245.1 < bt245.2.1 then (if bt245.1 ≤ a1 then (if a1 < bt245.2.1 then (zone_At.j0 k a1 bt239.2.2.2.1 a0_0 true a0_0 a0_1 a0_2 a0_3 a0_4 a0_5 a0_6 a0_7 a0_8 a0_9 bt239.1 bt239.2.1 bt239.2.2.1) else (if bt245.1 > bt245.2.1 then (zone_At.j0 k a1 bt239.2.2.2.1 a0_0 (decide (a1 ≥ bt245.1)) a0_0 a0_1 a0_2 a0_3 a0_4 a0_5 a0_6 a0_7 a0_8 a0_9 bt239.1 bt239.2.1 bt239.2.2.1) else (zone_At.j0 k a1 bt239.2.2.2.1 a0_0 false a0_0 a0_1 a0_2 a0_3 a0_4 a0_5 a0_6 a0_7 a0_8 a0_9 bt239.1 bt239.2.1 bt239.2.2.1))) else (if bt245.1 > bt245.2.1 then (if a1 < bt245.2.1 then (zone_At.j0 k a1 bt239.2.2.2.1 a0_0 true a0_0 a0_1 a0_2 a0_3 a0_4 a0_5 a0_6 a0_7 a0_8 a0_9 bt239.1 bt239.2.1 bt239.2.2.1) else (zone_At.j0 k a1 bt239.2.2.2.1 a0_0 (decide (a1 ≥ bt245.1)) a0_0 a0_1 a0_2 a0_3 a0_4 a0_5 a0_6 a0_7 a0_8 a0_9 bt239.1 bt239.2.1 bt239.2.2.1)) else (zone_At.j0 k a1 bt239.2.2.2.1 a0_0 false a0_0 a0_1 a0_2 a0_3 a0_4 a0_5 a0_6 a0_7 a0_8 a0_9 bt239.1 bt239.2.1 bt239.2.2.1))) else (if bt245.1 > bt245.2.1 then (if a1 < bt245.2.1 then (zone_At.j0 k a1 bt239.2.2.2.1 a0_0 true a0_0 a0_1 a0_2 a0_3 a0_4 a0_5 a0_6 a0_7 a0_8 a0_9 bt239.1 bt239.2.1 bt239.2.2.1) else (zone_At.j0 k a1 bt239.2.2.2.1 a0_0 (decide (a1 ≥ bt245.1)) a0_0 a0_1 a0_2 a0_3 a0_4 a0_5 a0_6 a0_7 a0_8 a0_9 bt239.1 bt239.2.1 bt239.2.2.1)) else (zone_At.j0 k a1 bt239.2.2.2.1 a0_0 false a0_0 a0_1 a0_2 a0_3 a0_4 a0_5 a0_6 a0_7 a0_8 a0_9 bt239.1 bt239.2.1 bt239.2.2.1))) else (zone_At.j0 k a1 bt239.2.2.2.1 a0_0 false a0_0 a0_1 a0_2 a0_3 a0_4 a0_5 a0_6 a0_7 a0_8 a0_9 bt239.1 bt239.2.1 bt239.2.2.1))) else (some (0, 0, 0, 0, 0, bt239.2.2.2.2)))) else (some (0, 0, 0, 0, 0, 8)))
theorem zone_At.mono_l : ∀ k, (∀ y0 y1 y2 y3 y4 y5 y6 y7 y8 y9 y10 y11 y12 y13 y14 y15 y16, LeO (zone_At.j0 k y0 y1 y2 y3 y4 y5 y6 y7 y8 y9 y10 y11 y12 y13 y14 y15 y16) (zone_At.j0 (k + 1) y0 y1 y2 y3 y4 y5 y6 y7 y8 y9 y10 y11 y12 y13 y14 y15 y16))
 | 0 => fun _ _ _ _ _ _ _ _ _ _ _ _ _ _ _ _ _ r h => by simp [zone_At.j0] at h
 | k + 1 => by
  have ih0 := zone_At.mono_l k
  ·intro y0 y1 y2 y3 y4 y5 y6 y7 y8 y9 y10 y11 y12 y13 y14 y15 y16
   unfold zone_At.j0
   repeat' first
   | (with_reducible exact ih0 _ _ _ _ _ _ _ _ _ _ _ _ _ _ _ _ _)
   | (with_reducible exact zone_Check.mono _ _ _ _ _ _ _ _ _ _ _)
   | (with_reducible exact zone_Turns.mono _ _ _ _ _ _ _ _ _ _ _ _)
   | (with_reducible exact zone_clock.mono _ _ _)
   | (with_reducible exact LeO.refl _)
   | (with_reducible exact LeO.none _)
   | (with_reducible refine LeO.ite ?_ ?_)
   | (with_reducible refine LeO.bind ?_ (fun _ => ?_))
theorem zone_At.mono : ∀ a0 a1 a2 a3 a4 a5 a6 a7 a8 a9 a10 k, LeO (zone_At.f k a0 a1 a2 a3 a4 a5 a6 a7 a8 a9 a10) (zone_At.f (k + 1) a0 a1 a2 a3 a4 a5 a6 a7 a8 a9 a10) := by
 intro a0 a1 a2 a3 a4 a5 a6 a7 a8 a9 a10 k
 have ih0 := zone_At.mono_l k
 unfold zone_At.f
 repeat' first
   | (with_reducible exact ih0 _ _ _ _ _ _ _ _ _ _ _ _ _ _ _ _ _)
   | (with_reducible exact zone_Check.mono _ _ _ _ _ _ _ _ _ _ _)
   | (with_reducible exact zone_Turns.mono _ _ _ _ _ _ _ _ _ _ _ _)
   | (with_reducible exact zone_clock.mono _ _ _)
   | (with_reducible exact LeO.refl _)
   | (with_reducible exact LeO.none _)
   | (with_reducible refine LeO.ite ?_ ?_)
   | (with_reducible refine LeO.bind ?_ (fun _ => ?_))
set_option maxHeartbeats 8000000 in
set_option maxRecDepth 100000 in
theorem zone_At.calls (k : Nat) (a0_0 : Int) (a0_1 : Int) (a0_2 : Int) (a0_3 : Int) (a0_4 : Int) (a0_5 : Int) (a0_6 : Int) (a0_7 : Int) (a0_8 : Int) (a0_9 : Int) (a1 : Int) (r1 : Int) (r2 : Int) (r3 : Int) (r4 : Int) (r5 : Int) (r6 : Int) (w : World) (h : zone_At.f k a0_0 a0_1 a0_2 a0_3 a0_4 a0_5 a0_6 a0_7 a0_8 a0_9 a1 = some (r1, r2, r3, r4, r5, r6)) :
  Calls Try.prog 50 #[.agg #[.int .i64 a0_0, .int .i64 a0_1, .int .i64 a0_2, .int .i64 a0_3, .int .i64 a0_4, .int .i64 a0_5, .int .i64 a0_6, .int .i64 a0_7, .int .i64 a0_8, .int .i64 a0_9], .int .i64 a1] w fun e w' => e = .returned (.tuple #[.agg #[.int .i64 r1, .int .i64 r2, .int .i64 r3, .int .i64 r4, .int .i64 r5], .int .i64 r6]) ∧ Below w.heap.size w w' := by
 have hu42 := Try.underlying42
 have hu54 := Try.underlying54
 have hu24 := Try.underlying24
 have HB := AX (Below.refl w.heap.size w)
 have H : ((zone_Check.f k a0_0 a0_1 a0_2 a0_3 a0_4 a0_5 a0_6 a0_7 a0_8 a0_9).bind fun t238 => (if t238 = 0 then ((zone_clock.f k a1 a0_0).bind fun bt239 => (if bt239.2.2.2.2 = 0 then ((zone_Turns.f k a0_0 a0_1 a0_2 a0_3 a0_4 a0_5 a0_6 a0_7 a0_8 a0_9 bt239.1).bind fun bt245 => (if bt245.2.2 = 0 then (if bt245.1 < bt245.2.1 then (if bt245.1 ≤ a1 then (if a1 < bt245.2.1 then (zone_At.j0 k a1 bt239.2.2.2.1 a0_0 true a0_0 a0_1 a0_2 a0_3 a0_4 a0_5 a0_6 a0_7 a0_8 a0_9 bt239.1 bt239.2.1 bt239.2.2.1) else (if bt245.1 > bt245.2.1 then (zone_At.j0 k a1 bt239.2.2.2.1 a0_0 (decide (a1 ≥ bt245.1)) a0_0 a0_1 a0_2 a0_3 a0_4 a0_5 a0_6 a0_7 a0_8 a0_9 bt239.1 bt239.2.1 bt239.2.2.1) else (zone_At.j0 k a1 bt239.2.2.2.1 a0_0 false a0_0 a0_1 a0_2 a0_3 a0_4 a0_5 a0_6 a0_7 a0_8 a0_9 bt239.1 bt239.2.1 bt239.2.2.1))) else (if bt245.1 > bt245.2.1 then (if a1 < bt245.2.1 then (zone_At.j0 k a1 bt239.2.2.2.1 a0_0 true a0_0 a0_1 a0_2 a0_3 a0_4 a0_5 a0_6 a0_7 a0_8 a0_9 bt239.1 bt239.2.1 bt239.2.2.1) else (zone_At.j0 k a1 bt239.2.2.2.1 a0_0 (decide (a1 ≥ bt245.1)) a0_0 a0_1 a0_2 a0_3 a0_4 a0_5 a0_6 a0_7 a0_8 a0_9 bt239.1 bt239.2.1 bt239.2.2.1)) else (zone_At.j0 k a1 bt239.2.2.2.1 a0_0 false a0_0 a0_1 a0_2 a0_3 a0_4 a0_5 a0_6 a0_7 a0_8 a0_9 bt239.1 bt239.2.1 bt239.2.2.1))) else (if bt245.1 > bt245.2.1 then (if a1 < bt245.2.1 then (zone_At.j0 k a1 bt239.2.2.2.1 a0_0 true a0_0 a0_1 a0_2 a0_3 a0_4 a0_5 a0_6 a0_7 a0_8 a0_9 bt239.1 bt239.2.1 bt239.2.2.1) else (zone_At.j0 k a1 bt239.2.2.2.1 a0_0 (decide (a1 ≥ bt245.1)) a0_0 a0_1 a0_2 a0_3 a0_4 a0_5 a0_6 a0_7 a0_8 a0_9 bt239.1 bt239.2.1 bt239.2.2.1)) else (zone_At.j0 k a1 bt239.2.2.2.1 a0_0 false a0_0 a0_1 a0_2 a0_3 a0_4 a0_5 a0_6 a0_7 a0_8 a0_9 bt239.1 bt239.2.1 bt239.2.2.1))) else (zone_At.j0 k a1 bt239.2.2.2.1 a0_0 false a0_0 a0_1 a0_2 a0_3 a0_4 a0_5 a0_6 a0_7 a0_8 a0_9 bt239.1 bt239.2.1 bt239.2.2.1))) else (some (0, 0, 0, 0, 0, bt239.2.2.2.2)))) else (some (0, 0, 0, 0, 0, 8)))) = some (r1, r2, r3, r4, r5, r6) := h
 clear h
 replace H := Option.bind_eq_some_iff.mp H
 obtain ⟨t238, A30, H⟩ := H
 replace H : (if t238 = 0 then ((zone_clock.f k a1 a0_0).bind fun bt239 => (if bt239.2.2.2.2 = 0 then ((zone_Turns.f k a0_0 a0_1 a0_2 a0_3 a0_4 a0_5 a0_6 a0_7 a0_8 a0_9 bt239.1).bind fun bt245 => (if bt245.2.2 = 0 then (if bt245.1 < bt245.2.1 then (if bt245.1 ≤ a1 then (if a1 < bt245.2.1 then (zone_At.j0 k a1 bt239.2.2.2.1 a0_0 true a0_0 a0_1 a0_2 a0_3 a0_4 a0_5 a0_6 a0_7 a0_8 a0_9 bt239.1 bt239.2.1 bt239.2.2.1) else (if bt245.1 > bt245.2.1 then (zone_At.j0 k a1 bt239.2.2.2.1 a0_0 (decide (a1 ≥ bt245.1)) a0_0 a0_1 a0_2 a0_3 a0_4 a0_5 a0_6 a0_7 a0_8 a0_9 bt239.1 bt239.2.1 bt239.2.2.1) else (zone_At.j0 k a1 bt239.2.2.2.1 a0_0 false a0_0 a0_1 a0_2 a0_3 a0_4 a0_5 a0_6 a0_7 a0_8 a0_9 bt239.1 bt239.2.1 bt239.2.2.1))) else (if bt245.1 > bt245.2.1 then (if a1 < bt245.2.1 then (zone_At.j0 k a1 bt239.2.2.2.1 a0_0 true a0_0 a0_1 a0_2 a0_3 a0_4 a0_5 a0_6 a0_7 a0_8 a0_9 bt239.1 bt239.2.1 bt239.2.2.1) else (zone_At.j0 k a1 bt239.2.2.2.1 a0_0 (decide (a1 ≥ bt245.1)) a0_0 a0_1 a0_2 a0_3 a0_4 a0_5 a0_6 a0_7 a0_8 a0_9 bt239.1 bt239.2.1 bt239.2.2.1)) else (zone_At.j0 k a1 bt239.2.2.2.1 a0_0 false a0_0 a0_1 a0_2 a0_3 a0_4 a0_5 a0_6 a0_7 a0_8 a0_9 bt239.1 bt239.2.1 bt239.2.2.1))) else (if bt245.1 > bt245.2.1 then (if a1 < bt245.2.1 then (zone_At.j0 k a1 bt239.2.2.2.1 a0_0 true a0_0 a0_1 a0_2 a0_3 a0_4 a0_5 a0_6 a0_7 a0_8 a0_9 bt239.1 bt239.2.1 bt239.2.2.1) else (zone_At.j0 k a1 bt239.2.2.2.1 a0_0 (decide (a1 ≥ bt245.1)) a0_0 a0_1 a0_2 a0_3 a0_4 a0_5 a0_6 a0_7 a0_8 a0_9 bt239.1 bt239.2.1 bt239.2.2.1)) else (zone_At.j0 k a1 bt239.2.2.2.1 a0_0 false a0_0 a0_1 a0_2 a0_3 a0_4 a0_5 a0_6 a0_7 a0_8 a0_9 bt239.1 bt239.2.1 bt239.2.2.1))) else (zone_At.j0 k a1 bt239.2.2.2.1 a0_0 false a0_0 a0_1 a0_2 a0_3 a0_4 a0_5 a0_6 a0_7 a0_8 a0_9 bt239.1 bt239.2.1 bt239.2.2.1))) else (some (0, 0, 0, 0, 0, bt239.2.2.2.2)))) else (some (0, 0, 0, 0, 0, 8))) = some (r1, r2, r3, r4, r5, r6) := H
 have A3 := AX A30
 clear A30
 by_cases c4 : t238 = 0
 ·rw [if_pos c4] at H
  have c4b0 : (t238 == 0) = true := beq_iff_eq.mpr c4
  have c4b1 : (t238 != 0) = false := bne_eq_false_iff_eq.mpr c4
  clear c4
  replace H := Option.bind_eq_some_iff.mp H
  obtain ⟨⟨t239, t240, t241, t242, t243⟩, A50, H⟩ := H
  replace H : (if t243 = 0 then ((zone_Turns.f k a0_0 a0_1 a0_2 a0_3 a0_4 a0_5 a0_6 a0_7 a0_8 a0_9 t239).bind fun bt245 => (if bt245.2.2 = 0 then (if bt245.1 < bt245.2.1 then (if bt245.1 ≤ a1 then (if a1 < bt245.2.1 then (zone_At.j0 k a1 t242 a0_0 true a0_0 a0_1 a0_2 a0_3 a0_4 a0_5 a0_6 a0_7 a0_8 a0_9 t239 t240 t241) else (if bt245.1 > bt245.2.1 then (zone_At.j0 k a1 t242 a0_0 (decide (a1 ≥ bt245.1)) a0_0 a0_1 a0_2 a0_3 a0_4 a0_5 a0_6 a0_7 a0_8 a0_9 t239 t240 t241) else (zone_At.j0 k a1 t242 a0_0 false a0_0 a0_1 a0_2 a0_3 a0_4 a0_5 a0_6 a0_7 a0_8 a0_9 t239 t240 t241))) else (if bt245.1 > bt245.2.1 then (if a1 < bt245.2.1 then (zone_At.j0 k a1 t242 a0_0 true a0_0 a0_1 a0_2 a0_3 a0_4 a0_5 a0_6 a0_7 a0_8 a0_9 t239 t240 t241) else (zone_At.j0 k a1 t242 a0_0 (decide (a1 ≥ bt245.1)) a0_0 a0_1 a0_2 a0_3 a0_4 a0_5 a0_6 a0_7 a0_8 a0_9 t239 t240 t241)) else (zone_At.j0 k a1 t242 a0_0 false a0_0 a0_1 a0_2 a0_3 a0_4 a0_5 a0_6 a0_7 a0_8 a0_9 t239 t240 t241))) else (if bt245.1 > bt245.2.1 then (if a1 < bt245.2.1 then (zone_At.j0 k a1 t242 a0_0 true a0_0 a0_1 a0_2 a0_3 a0_4 a0_5 a0_6 a0_7 a0_8 a0_9 t239 t240 t241) else (zone_At.j0 k a1 t242 a0_0 (decide (a1 ≥ bt245.1)) a0_0 a0_1 a0_2 a0_3 a0_4 a0_5 a0_6 a0_7 a0_8 a0_9 t239 t240 t241)) else (zone_At.j0 k a1 t242 a0_0 false a0_0 a0_1 a0_2 a0_3 a0_4 a0_5 a0_6 a0_7 a0_8 a0_9 t239 t240 t241))) else (zone_At.j0 k a1 t242 a0_0 false a0_0 a0_1 a0_2 a0_3 a0_4 a0_5 a0_6 a0_7 a0_8 a0_9 t239 t240 t241))) else (some (0, 0, 0, 0, 0, t243))) = some (r1, r2, r3, r4, r5, r6) := H
  have A5 := AX A50
  clear A50
  by_cases c6 : t243 = 0
  ·rw [if_pos c6] at H
   have c6b0 : (t243 == 0) = true := beq_iff_eq.mpr c6
   have c6b1 : (t243 != 0) = false := bne_eq_false_iff_eq.mpr c6
   clear c6
   replace H := Option.bind_eq_some_iff.mp H
   obtain ⟨⟨t245, t246, t247⟩, A70, H⟩ := H
   replace H : (if t247 = 0 then (if t245 < t246 then (if t245 ≤ a1 then (if a1 < t246 then (zone_At.j0 k a1 t242 a0_0 true a0_0 a0_1 a0_2 a0_3 a0_4 a0_5 a0_6 a0_7 a0_8 a0_9 t239 t240 t241) else (if t245 > t246 then (zone_At.j0 k a1 t242 a0_0 (decide (a1 ≥ t245)) a0_0 a0_1 a0_2 a0_3 a0_4 a0_5 a0_6 a0_7 a0_8 a0_9 t239 t240 t241) else (zone_At.j0 k a1 t242 a0_0 false a0_0 a0_1 a0_2 a0_3 a0_4 a0_5 a0_6 a0_7 a0_8 a0_9 t239 t240 t241))) else (if t245 > t246 then (if a1 < t246 then (zone_At.j0 k a1 t242 a0_0 true a0_0 a0_1 a0_2 a0_3 a0_4 a0_5 a0_6 a0_7 a0_8 a0_9 t239 t240 t241) else (zone_At.j0 k a1 t242 a0_0 (decide (a1 ≥ t245)) a0_0 a0_1 a0_2 a0_3 a0_4 a0_5 a0_6 a0_7 a0_8 a0_9 t239 t240 t241)) else (zone_At.j0 k a1 t242 a0_0 false a0_0 a0_1 a0_2 a0_3 a0_4 a0_5 a0_6 a0_7 a0_8 a0_9 t239 t240 t241))) else (if t245 > t246 then (if a1 < t246 then (zone_At.j0 k a1 t242 a0_0 true a0_0 a0_1 a0_2 a0_3 a0_4 a0_5 a0_6 a0_7 a0_8 a0_9 t239 t240 t241) else (zone_At.j0 k a1 t242 a0_0 (decide (a1 ≥ t245)) a0_0 a0_1 a0_2 a0_3 a0_4 a0_5 a0_6 a0_7 a0_8 a0_9 t239 t240 t241)) else (zone_At.j0 k a1 t242 a0_0 false a0_0 a0_1 a0_2 a0_3 a0_4 a0_5 a0_6 a0_7 a0_8 a0_9 t239 t240 t241))) else (zone_At.j0 k a1 t242 a0_0 false a0_0 a0_1 a0_2 a0_3 a0_4 a0_5 a0_6 a0_7 a0_8 a0_9 t239 t240 t241)) = some (r1, r2, r3, r4, r5, r6) := H
   have A7 := AX A70
   clear A70
   have HC8 := AX H
   clear H
   go_enter Try.func50, Try.ntmps50
   go_upto_region 8 with (first | ((with_reducible refine gate_dst (N := 2) rfl ?_); refine bx 2 #[.int .i64 a0_0, .int .i64 a0_1, .int .i64 a0_2, .int .i64 a0_3, .int .i64 a0_4, .int .i64 a0_5, .int .i64 a0_6, .int .i64 a0_7, .int .i64 a0_8, .int .i64 a0_9] 42 ?_; intro gb236 hg w9 hbox hb; have BK236 := AX (hbox); have GW236 := gwl (w := w) hg bw; have GE236 := GW236; replace HB := AX (below_step bw hb); clear hb hbox hg) | ((with_reducible refine gate_dst (N := 4) rfl ?_); refine bx 4 #[.int .i64 0, .int .i64 0, .int .i64 0, .int .i64 0, .int .i64 0] 54 ?_; intro gb237 hg w10 hbox hb; have BK237 := AX (hbox); have GW237 := gwl (w := w) hg bw; have GE237 := GW237; have NB236_237 := nbl hg (bkn BK236); have NB237_236 := nbg hg (bkn BK236); replace BK236 := AX (bkb BK236 hb); replace HB := AX (below_step bw hb); clear hb hbox hg; have hnb11 := NB236_237.out; have hnc11 := NB237_236.out; obtain ⟨hcz12_0, hcz12_1, hcz12_2, hcz12_3, hcz12_4, hcz12_5, hcz12_6, hcz12_7, hcz12_8, hcz12_9⟩ := blkC10 (w := w10) BK236.out; obtain ⟨hfz12_0, hfz12_1, hfz12_2, hfz12_3, hfz12_4, hfz12_5, hfz12_6, hfz12_7, hfz12_8, hfz12_9⟩ := blkF10 BK236.out) | ((with_reducible refine gate_callee (f := 76) rfl ?_); refine gL (some 14) Try.func76 #[.agg #[.int .i64 a0_0, .int .i64 a0_1, .int .i64 a0_2, .int .i64 a0_3, .int .i64 a0_4, .int .i64 a0_5, .int .i64 a0_6, .int .i64 a0_7, .int .i64 a0_8, .int .i64 a0_9]] ?_; (with_reducible refine (zone_Check.calls k a0_0 a0_1 a0_2 a0_3 a0_4 a0_5 a0_6 a0_7 a0_8 a0_9 t238 _ A3.out).mono ?_); rintro e w13 ⟨rfl, hb⟩; refine ⟨_, rfl, ?_⟩; replace BK236 := AX (bkb BK236 hb); replace BK237 := AX (bkb BK237 hb); replace HB := AX (below_step bw hb); (try clear hb); obtain ⟨hcz14_0, hcz14_1, hcz14_2, hcz14_3, hcz14_4, hcz14_5, hcz14_6, hcz14_7, hcz14_8, hcz14_9⟩ := blkC10 (w := w13) BK236.out; obtain ⟨hfz14_0, hfz14_1, hfz14_2, hfz14_3, hfz14_4, hfz14_5, hfz14_6, hfz14_7, hfz14_8, hfz14_9⟩ := blkF10 BK236.out) | ((with_reducible refine gate_callee (f := 77) rfl ?_); refine gL (some 21) Try.func77 #[.int .i64 a1, .int .i64 a0_0] ?_; (with_reducible refine (zone_clock.calls k a1 a0_0 t239 t240 t241 t242 t243 _ A5.out).mono ?_); rintro e w15 ⟨rfl, hb⟩; refine ⟨_, rfl, ?_⟩; replace BK236 := AX (bkb BK236 hb); replace BK237 := AX (bkb BK237 hb); replace HB := AX (below_step bw hb); (try clear hb)) | ((with_reducible refine gate_dst (N := 6) rfl ?_); refine bx 6 #[.int .i64 0, .int .i64 0, .int .i64 0] 24 ?_; intro gb244 hg w16 hbox hb; have BK244 := AX (hbox); have GW244 := gwl (w := w) hg bw; have GE244 := GW244; have NB236_244 := nbl hg (bkn BK236); have NB244_236 := nbg hg (bkn BK236); have NB237_244 := nbl hg (bkn BK237); have NB244_237 := nbg hg (bkn BK237); replace BK236 := AX (bkb BK236 hb); replace BK237 := AX (bkb BK237 hb); replace HB := AX (below_step bw hb); clear hb hbox hg; have hnb17 := NB244_236.out; have hnc17 := NB236_244.out; have hnb18 := NB244_237.out; have hnc18 := NB237_244.out; obtain ⟨hcz19_0, hcz19_1, hcz19_2⟩ := blkC3 (w := w16) BK244.out; obtain ⟨hfz19_0, hfz19_1, hfz19_2⟩ := blkF3 BK244.out; obtain ⟨hcz20_0, hcz20_1, hcz20_2, hcz20_3, hcz20_4, hcz20_5, hcz20_6, hcz20_7, hcz20_8, hcz20_9⟩ := blkC10 (w := w16) BK236.out; obtain ⟨hfz20_0, hfz20_1, hfz20_2, hfz20_3, hfz20_4, hfz20_5, hfz20_6, hfz20_7, hfz20_8, hfz20_9⟩ := blkF10 BK236.out) | ((with_reducible refine gate_callee (f := 78) rfl ?_); refine gL (some 35) Try.func78 #[.agg #[.int .i64 a0_0, .int .i64 a0_1, .int .i64 a0_2, .int .i64 a0_3, .int .i64 a0_4, .int .i64 a0_5, .int .i64 a0_6, .int .i64 a0_7, .int .i64 a0_8, .int .i64 a0_9], .int .i64 t239] ?_; (with_reducible refine (zone_Turns.calls k a0_0 a0_1 a0_2 a0_3 a0_4 a0_5 a0_6 a0_7 a0_8 a0_9 t239 t245 t246 t247 _ A7.out).mono ?_); rintro e w21 ⟨rfl, hb⟩; refine ⟨_, rfl, ?_⟩; replace BK236 := AX (blk_below (g := gb236) (o := .cells #[.int .i64 a0_0, .int .i64 a0_1, .int .i64 a0_2, .int .i64 a0_3, .int .i64 a0_4, .int .i64 a0_5, .int .i64 a0_6, .int .i64 a0_7, .int .i64 a0_8, .int .i64 a0_9] 42 (0, 0)) (by (with_reducible repeat first|refine blk_drewN ?_ _|refine blk_drew ?_|refine blk_alloc ?_ _|refine blk_far ?_ NB236_244.out _); exact BK236.out) hb); replace BK237 := AX (blk_below (g := gb237) (o := .cells #[.int .i64 0, .int .i64 0, .int .i64 0, .int .i64 0, .int .i64 0] 54 (0, 0)) (by (with_reducible repeat first|refine blk_drewN ?_ _|refine blk_drew ?_|refine blk_alloc ?_ _|refine blk_far ?_ NB237_244.out _); exact BK237.out) hb); replace BK244 := AX (blk_below (g := gb244) (o := .cells #[.int .i64 t239, .int .i64 t240, .int .i64 t241] 24 (0, 0)) (by (with_reducible repeat first|refine blk_drewN ?_ _|refine blk_drew ?_|refine blk_alloc ?_ _); refine blk_put (cs := #[.int .i64 t239, .int .i64 t240, .int .i64 0]) ?_ 2 _ rfl; (with_reducible repeat first|refine blk_drewN ?_ _|refine blk_drew ?_|refine blk_alloc ?_ _); refine blk_put (cs := #[.int .i64 t239, .int .i64 0, .int .i64 0]) ?_ 1 _ rfl; (with_reducible repeat first|refine blk_drewN ?_ _|refine blk_drew ?_|refine blk_alloc ?_ _); refine blk_put (cs := #[.int .i64 0, .int .i64 0, .int .i64 0]) ?_ 0 _ rfl; (with_reducible repeat first|refine blk_drewN ?_ _|refine blk_drew ?_|refine blk_alloc ?_ _); exact BK244.out) hb); replace HB := AX (below_step bw hb); (try clear hb)))
   (try simp only [Act.put, List.setIfInBounds_toArray, List.set_cons_zero, List.set_cons_succ])
   go_cut [70] (fun v70 wc => ∃ (kq : Nat) (x70_7 : Bool), v70 = .bool x70_7 ∧ Aside0 (zone_At.j0 kq a1 t242 a0_0 x70_7 a0_0 a0_1 a0_2 a0_3 a0_4 a0_5 a0_6 a0_7 a0_8 a0_9 t239 t240 t241 = some (r1, r2, r3, r4, r5, r6)) ∧ Aside0 (kq ≤ k) ∧ Aside0 (wc.heap[gb236]? = some (.cells #[.int .i64 a0_0, .int .i64 a0_1, .int .i64 a0_2, .int .i64 a0_3, .int .i64 a0_4, .int .i64 a0_5, .int .i64 a0_6, .int .i64 a0_7, .int .i64 a0_8, .int .i64 a0_9] 42 (0, 0))) ∧ Aside0 (wc.heap[gb237]? = some (.cells #[.int .i64 0, .int .i64 0, .int .i64 0, .int .i64 0, .int .i64 0] 54 (0, 0))) ∧ Aside0 (wc.heap[gb244]? = some (.cells #[.int .i64 t239, .int .i64 t240, .int .i64 t241] 24 (0, 0))) ∧ Aside0 (Below w.heap.size w wc))
   case first =>
    have H := HC8.out
    clear HC8
    by_cases c22 : t247 = 0
    ·rw [if_pos c22] at H
     have c22b0 : (t247 == 0) = true := beq_iff_eq.mpr c22
     have c22b1 : (t247 != 0) = false := bne_eq_false_iff_eq.mpr c22
     clear c22
     (first | rw [c22b0] | (simp only [i64_w, i32_w]; rw [c22b0]) | skip)
     by_cases c23 : t245 < t246
     ·rw [if_pos c23] at H
      have c23b0 : decide (t245 < t246) = true := decide_eq_true c23
      clear c23
      by_cases c24 : t245 ≤ a1
      ·rw [if_pos c24] at H
       have c24b0 : decide (t245 ≤ a1) = true := decide_eq_true c24
       clear c24
       by_cases c25 : a1 < t246
       ·rw [if_pos c25] at H
        have c25b0 : decide (a1 < t246) = true := decide_eq_true c25
        clear c25
        have H' := AX H
        clear H
        go_wp2
        go_meet
        case rel => exact ⟨_, (true), (by first | rfl | (simp; done) | (simp [*]; done)), H', ⟨by first | omega | exact Nat.le_refl _⟩, ⟨bkn BK236⟩, ⟨bkn BK237⟩, ⟨bkn BK244⟩, ⟨bw⟩⟩
       ·rw [if_neg c25] at H
        have c25b0 : decide (a1 < t246) = false := decide_eq_false c25
        clear c25
        by_cases c26 : t245 > t246
        ·rw [if_pos c26] at H
         have c26b0 : decide (t246 < t245) = true := decide_eq_true c26
         clear c26
         have H' := AX H
         clear H
         go_wp2
         go_meet
         case rel => exact ⟨_, (decide (a1 ≥ t245)), (by first | rfl | (simp; done) | (simp [*]; done)), H', ⟨by first | omega | exact Nat.le_refl _⟩, ⟨bkn BK236⟩, ⟨bkn BK237⟩, ⟨bkn BK244⟩, ⟨bw⟩⟩
        ·rw [if_neg c26] at H
         have c26b0 : decide (t246 < t245) = false := decide_eq_false c26
         clear c26
         have H' := AX H
         clear H
         go_wp2
         go_meet
         case rel => exact ⟨_, (false), (by first | rfl | (simp; done) | (simp [*]; done)), H', ⟨by first | omega | exact Nat.le_refl _⟩, ⟨bkn BK236⟩, ⟨bkn BK237⟩, ⟨bkn BK244⟩, ⟨bw⟩⟩
      ·rw [if_neg c24] at H
       have c24b0 : decide (t245 ≤ a1) = false := decide_eq_false c24
       clear c24
       by_cases c27 : t245 > t246
       ·rw [if_pos c27] at H
        have c27b0 : decide (t246 < t245) = true := decide_eq_true c27
        clear c27
        by_cases c28 : a1 < t246
        ·rw [if_pos c28] at H
         have c28b0 : decide (a1 < t246) = true := decide_eq_true c28
         clear c28
         have H' := AX H
         clear H
         go_wp2
         go_meet
         case rel => exact ⟨_, (true), (by first | rfl | (simp; done) | (simp [*]; done)), H', ⟨by first | omega | exact Nat.le_refl _⟩, ⟨bkn BK236⟩, ⟨bkn BK237⟩, ⟨bkn BK244⟩, ⟨bw⟩⟩
        ·rw [if_neg c28] at H
         have c28b0 : decide (a1 < t246) = false := decide_eq_false c28
         clear c28
         have H' := AX H
         clear H
         go_wp2
         go_meet
         case rel => exact ⟨_, (decide (a1 ≥ t245)), (by first | rfl | (simp; done) | (simp [*]; done)), H', ⟨by first | omega | exact Nat.le_refl _⟩, ⟨bkn BK236⟩, ⟨bkn BK237⟩, ⟨bkn BK244⟩, ⟨bw⟩⟩
       ·rw [if_neg c27] at H
        have c27b0 : decide (t246 < t245) = false := decide_eq_false c27
        clear c27
        have H' := AX H
        clear H
        go_wp2
        go_meet
        case rel => exact ⟨_, (false), (by first | rfl | (simp; done) | (simp [*]; done)), H', ⟨by first | omega | exact Nat.le_refl _⟩, ⟨bkn BK236⟩, ⟨bkn BK237⟩, ⟨bkn BK244⟩, ⟨bw⟩⟩
     ·rw [if_neg c23] at H
      have c23b0 : decide (t245 < t246) = false := decide_eq_false c23
      clear c23
      by_cases c29 : t245 > t246
      ·rw [if_pos c29] at H
       have c29b0 : decide (t246 < t245) = true := decide_eq_true c29
       clear c29
       by_cases c30 : a1 < t246
       ·rw [if_pos c30] at H
        have c30b0 : decide (a1 < t246) = true := decide_eq_true c30
        clear c30
        have H' := AX H
        clear H
        go_wp2
        go_meet
        case rel => exact ⟨_, (true), (by first | rfl | (simp; done) | (simp [*]; done)), H', ⟨by first | omega | exact Nat.le_refl _⟩, ⟨bkn BK236⟩, ⟨bkn BK237⟩, ⟨bkn BK244⟩, ⟨bw⟩⟩
       ·rw [if_neg c30] at H
        have c30b0 : decide (a1 < t246) = false := decide_eq_false c30
        clear c30
        have H' := AX H
        clear H
        go_wp2
        go_meet
        case rel => exact ⟨_, (decide (a1 ≥ t245)), (by first | rfl | (simp; done) | (simp [*]; done)), H', ⟨by first | omega | exact Nat.le_refl _⟩, ⟨bkn BK236⟩, ⟨bkn BK237⟩, ⟨bkn BK244⟩, ⟨bw⟩⟩
      ·rw [if_neg c29] at H
       have c29b0 : decide (t246 < t245) = false := decide_eq_false c29
       clear c29
       have H' := AX H
       clear H
       go_wp2
       go_meet
       case rel => exact ⟨_, (false), (by first | rfl | (simp; done) | (simp [*]; done)), H', ⟨by first | omega | exact Nat.le_refl _⟩, ⟨bkn BK236⟩, ⟨bkn BK237⟩, ⟨bkn BK244⟩, ⟨bw⟩⟩
    ·rw [if_neg c22] at H
     have c22b0 : (t247 == 0) = false := beq_eq_false_iff_ne.mpr c22
     have c22b1 : (t247 != 0) = true := bne_iff_ne.mpr c22
     (first | rw [c22b0] | (simp only [i64_w, i32_w]; rw [c22b0]) | skip)
     have H' := AX H
     clear H
     go_wp2
     go_meet
     case rel => exact ⟨_, (false), (by first | rfl | (simp; done) | (simp [*]; done)), H', ⟨by first | omega | exact Nat.le_refl _⟩, ⟨bkn BK236⟩, ⟨bkn BK237⟩, ⟨bkn BK244⟩, ⟨bw⟩⟩
   case rest =>
    clear HC8
    try clear c4b0 c4b1
    try clear c6b0 c6b1
    try clear hcz12_0 hcz12_1 hcz12_2 hcz12_3 hcz12_4 hcz12_5 hcz12_6 hcz12_7 hcz12_8 hcz12_9
    try clear hcz14_0 hcz14_1 hcz14_2 hcz14_3 hcz14_4 hcz14_5 hcz14_6 hcz14_7 hcz14_8 hcz14_9
    try clear hcz19_0 hcz19_1 hcz19_2
    try clear hcz20_0 hcz20_1 hcz20_2 hcz20_3 hcz20_4 hcz20_5 hcz20_6 hcz20_7 hcz20_8 hcz20_9
    try clear hfz12_0 hfz12_1 hfz12_2 hfz12_3 hfz12_4 hfz12_5 hfz12_6 hfz12_7 hfz12_8 hfz12_9
    try clear hfz14_0 hfz14_1 hfz14_2 hfz14_3 hfz14_4 hfz14_5 hfz14_6 hfz14_7 hfz14_8 hfz14_9
    try clear hfz19_0 hfz19_1 hfz19_2
    try clear hfz20_0 hfz20_1 hfz20_2 hfz20_3 hfz20_4 hfz20_5 hfz20_6 hfz20_7 hfz20_8 hfz20_9
    obtain ⟨kq, x70_7, rfl, HA, HJ7, BK236, BK237, BK244, HB⟩ := hcut
    cases kq with
    | zero => exact absurd HA.out (by simp [zone_At.j0])
    | succ kj7 =>
     have H := HA.out
     clear HA
     simp only [zone_At.j0] at H
     by_cases c31 : x70_7 = true
     ·subst c31
      have H1 : ((zone_clock.f kj7 a1 (wrap64 (a0_0 + a0_1))).bind fun bt248 => (if bt248.2.2.2.2 = 0 then (some (bt248.1, bt248.2.1, bt248.2.2.1, bt248.2.2.2.1, wrap64 (a0_0 + a0_1), 0)) else (some (0, 0, 0, 0, 0, bt248.2.2.2.2)))) = some (r1, r2, r3, r4, r5, r6) := by rw [if_pos rfl] at H; exact H
      clear H
      have H := H1
      clear H1
      replace H := Option.bind_eq_some_iff.mp H
      obtain ⟨⟨t248, t249, t250, t251, t252⟩, A320, H⟩ := H
      replace H : (if t252 = 0 then (some (t248, t249, t250, t251, wrap64 (a0_0 + a0_1), 0)) else (some (0, 0, 0, 0, 0, t252))) = some (r1, r2, r3, r4, r5, r6) := H
      have A32 := AX A320
      clear A320
      by_cases c33 : t252 = 0
      ·rw [if_pos c33] at H
       have c33b0 : (t252 == 0) = true := beq_iff_eq.mpr c33
       have c33b1 : (t252 != 0) = false := bne_eq_false_iff_eq.mpr c33
       clear c33
       simp only [Option.some.injEq, Prod.mk.injEq] at H
       obtain ⟨rfl, rfl, rfl, rfl, rfl, rfl⟩ := H
       have hnb34 := NB236_237.out
       have hnc34 := NB237_236.out
       have hnb35 := NB236_244.out
       have hnc35 := NB244_236.out
       obtain ⟨hcz36_0, hcz36_1, hcz36_2, hcz36_3, hcz36_4, hcz36_5, hcz36_6, hcz36_7, hcz36_8, hcz36_9⟩ := blkC10 (w := wc) BK236.out
       obtain ⟨hfz36_0, hfz36_1, hfz36_2, hfz36_3, hfz36_4, hfz36_5, hfz36_6, hfz36_7, hfz36_8, hfz36_9⟩ := blkF10 BK236.out
       go_wp2_with (first | ((with_reducible refine gate_callee (f := 77) rfl ?_); refine gL (some 78) Try.func77 #[.int .i64 a1, .int .i64 (wrap64 (a0_0 + a0_1))] ?_; (with_reducible refine (zone_clock.calls kj7 a1 (wrap64 (a0_0 + a0_1)) t248 t249 t250 t251 t252 _ A32.out).mono ?_); rintro e w37 ⟨rfl, hb⟩; refine ⟨_, rfl, ?_⟩; replace BK236 := AX (bkb BK236 hb); replace BK237 := AX (bkb BK237 hb); replace BK244 := AX (bkb BK244 hb); replace HB := AX (below_step bw hb); (try clear hb); have hnb38 := NB244_237.out; have hnc38 := NB237_244.out; obtain ⟨hcz39_0, hcz39_1, hcz39_2⟩ := blkC3 (w := w37) BK244.out; obtain ⟨hfz39_0, hfz39_1, hfz39_2⟩ := blkF3 BK244.out; obtain ⟨hcz40_0, hcz40_1, hcz40_2, hcz40_3, hcz40_4⟩ := blkC5 (w := w37) BK237.out; obtain ⟨hfz40_0, hfz40_1, hfz40_2, hfz40_3, hfz40_4⟩ := blkF5 BK237.out))
       refine bodyPost_ret (results_ct rfl _ _ gb237 54 #[.int .i64 t248, .int .i64 t249, .int .i64 t250, .int .i64 t251, .int .i64 (wrap64 (a0_0 + a0_1))] (0, 0) _ rfl (by (with_reducible repeat first|refine blk_drewN ?_ _|refine blk_drew ?_|refine blk_alloc ?_ _); refine blk_put (cs := #[.int .i64 t248, .int .i64 t249, .int .i64 t250, .int .i64 t251, .int .i64 0]) ?_ 4 _ rfl; (with_reducible repeat first|refine blk_drewN ?_ _|refine blk_drew ?_|refine blk_alloc ?_ _); refine blk_put (cs := #[.int .i64 t248, .int .i64 t249, .int .i64 t250, .int .i64 0, .int .i64 0]) ?_ 3 _ rfl; (with_reducible repeat first|refine blk_drewN ?_ _|refine blk_drew ?_|refine blk_alloc ?_ _); refine blk_put (cs := #[.int .i64 t248, .int .i64 t249, .int .i64 0, .int .i64 0, .int .i64 0]) ?_ 2 _ rfl; (with_reducible repeat first|refine blk_drewN ?_ _|refine blk_drew ?_|refine blk_alloc ?_ _); refine blk_put (cs := #[.int .i64 t248, .int .i64 0, .int .i64 0, .int .i64 0, .int .i64 0]) ?_ 1 _ rfl; (with_reducible repeat first|refine blk_drewN ?_ _|refine blk_drew ?_|refine blk_alloc ?_ _); refine blk_put (cs := #[.int .i64 0, .int .i64 0, .int .i64 0, .int .i64 0, .int .i64 0]) ?_ 0 _ rfl; (with_reducible repeat first|refine blk_drewN ?_ _|refine blk_drew ?_|refine blk_alloc ?_ _); refine blk_far ?_ NB237_244.out _; (with_reducible repeat first|refine blk_drewN ?_ _|refine blk_drew ?_|refine blk_alloc ?_ _); refine blk_far ?_ NB237_244.out _; (with_reducible repeat first|refine blk_drewN ?_ _|refine blk_drew ?_|refine blk_alloc ?_ _); refine blk_far ?_ NB237_244.out _; (with_reducible repeat first|refine blk_drewN ?_ _|refine blk_drew ?_|refine blk_alloc ?_ _); exact BK237.out) Try.underlying54 rfl (by kernel_rfl)) rfl ?_
       exact ⟨by first | rfl | (simp [errW_none, errW_some] <;> rfl) | (simp [*, errW_none, errW_some] <;> rfl), bw⟩
      ·rw [if_neg c33] at H
       have c33b0 : (t252 == 0) = false := beq_eq_false_iff_ne.mpr c33
       have c33b1 : (t252 != 0) = true := bne_iff_ne.mpr c33
       simp only [Option.some.injEq, Prod.mk.injEq] at H
       obtain ⟨rfl, rfl, rfl, rfl, rfl, rfl⟩ := H
       have hnb41 := NB236_237.out
       have hnc41 := NB237_236.out
       have hnb42 := NB236_244.out
       have hnc42 := NB244_236.out
       obtain ⟨hcz43_0, hcz43_1, hcz43_2, hcz43_3, hcz43_4, hcz43_5, hcz43_6, hcz43_7, hcz43_8, hcz43_9⟩ := blkC10 (w := wc) BK236.out
       obtain ⟨hfz43_0, hfz43_1, hfz43_2, hfz43_3, hfz43_4, hfz43_5, hfz43_6, hfz43_7, hfz43_8, hfz43_9⟩ := blkF10 BK236.out
       go_wp2_with (first | ((with_reducible refine gate_callee (f := 77) rfl ?_); refine gL (some 78) Try.func77 #[.int .i64 a1, .int .i64 (wrap64 (a0_0 + a0_1))] ?_; (with_reducible refine (zone_clock.calls kj7 a1 (wrap64 (a0_0 + a0_1)) t248 t249 t250 t251 t252 _ A32.out).mono ?_); rintro e w44 ⟨rfl, hb⟩; refine ⟨_, rfl, ?_⟩; replace BK236 := AX (bkb BK236 hb); replace BK237 := AX (bkb BK237 hb); replace BK244 := AX (bkb BK244 hb); replace HB := AX (below_step bw hb); (try clear hb); have hnb45 := NB244_237.out; have hnc45 := NB237_244.out; obtain ⟨hcz46_0, hcz46_1, hcz46_2⟩ := blkC3 (w := w44) BK244.out; obtain ⟨hfz46_0, hfz46_1, hfz46_2⟩ := blkF3 BK244.out; obtain ⟨hcz47_0, hcz47_1, hcz47_2, hcz47_3, hcz47_4⟩ := blkC5 (w := w44) BK237.out; obtain ⟨hfz47_0, hfz47_1, hfz47_2, hfz47_3, hfz47_4⟩ := blkF5 BK237.out))
       refine bodyPost_ret (results_ct rfl _ _ gb237 54 #[.int .i64 0, .int .i64 0, .int .i64 0, .int .i64 0, .int .i64 0] (0, 0) _ rfl (by (with_reducible repeat first|refine blk_drewN ?_ _|refine blk_drew ?_|refine blk_alloc ?_ _); refine blk_put (cs := #[.int .i64 0, .int .i64 0, .int .i64 0, .int .i64 0, .int .i64 0]) ?_ 4 _ rfl; (with_reducible repeat first|refine blk_drewN ?_ _|refine blk_drew ?_|refine blk_alloc ?_ _); refine blk_put (cs := #[.int .i64 0, .int .i64 0, .int .i64 0, .int .i64 0, .int .i64 0]) ?_ 3 _ rfl; (with_reducible repeat first|refine blk_drewN ?_ _|refine blk_drew ?_|refine blk_alloc ?_ _); refine blk_put (cs := #[.int .i64 0, .int .i64 0, .int .i64 0, .int .i64 0, .int .i64 0]) ?_ 2 _ rfl; (with_reducible repeat first|refine blk_drewN ?_ _|refine blk_drew ?_|refine blk_alloc ?_ _); refine blk_put (cs := #[.int .i64 0, .int .i64 0, .int .i64 0, .int .i64 0, .int .i64 0]) ?_ 1 _ rfl; (with_reducible repeat first|refine blk_drewN ?_ _|refine blk_drew ?_|refine blk_alloc ?_ _); refine blk_put (cs := #[.int .i64 0, .int .i64 0, .int .i64 0, .int .i64 0, .int .i64 0]) ?_ 0 _ rfl; (with_reducible repeat first|refine blk_drewN ?_ _|refine blk_drew ?_|refine blk_alloc ?_ _); refine blk_far ?_ NB237_244.out _; (with_reducible repeat first|refine blk_drewN ?_ _|refine blk_drew ?_|refine blk_alloc ?_ _); refine blk_far ?_ NB237_244.out _; (with_reducible repeat first|refine blk_drewN ?_ _|refine blk_drew ?_|refine blk_alloc ?_ _); refine blk_far ?_ NB237_244.out _; (with_reducible repeat first|refine blk_drewN ?_ _|refine blk_drew ?_|refine blk_alloc ?_ _); exact BK237.out) Try.underlying54 rfl (by kernel_rfl)) rfl ?_
       exact ⟨by first | rfl | (simp [errW_none, errW_some] <;> rfl) | (simp [*, errW_none, errW_some] <;> rfl), bw⟩
     ·replace c31 := Bool.eq_false_iff.mpr c31
      subst c31
      have H1 : (some (t239, t240, t241, t242, a0_0, 0)) = some (r1, r2, r3, r4, r5, r6) := by rw [if_neg (show ¬ (false = true) by decide)] at H; exact H
      clear H
      have H := H1
      clear H1
      simp only [Option.some.injEq, Prod.mk.injEq] at H
      obtain ⟨rfl, rfl, rfl, rfl, rfl, rfl⟩ := H
      have hnb48 := NB244_236.out
      have hnc48 := NB236_244.out
      have hnb49 := NB244_237.out
      have hnc49 := NB237_244.out
      obtain ⟨hcz50_0, hcz50_1, hcz50_2⟩ := blkC3 (w := wc) BK244.out
      obtain ⟨hfz50_0, hfz50_1, hfz50_2⟩ := blkF3 BK244.out
      have hnb51 := NB237_236.out
      have hnc51 := NB236_237.out
      obtain ⟨hcz52_0, hcz52_1, hcz52_2, hcz52_3, hcz52_4⟩ := blkC5 (w := wc) BK237.out
      obtain ⟨hfz52_0, hfz52_1, hfz52_2, hfz52_3, hfz52_4⟩ := blkF5 BK237.out
      go_wp2
      refine bodyPost_ret (results_ct rfl _ _ gb237 54 #[.int .i64 t239, .int .i64 t240, .int .i64 t241, .int .i64 t242, .int .i64 a0_0] (0, 0) _ rfl (by (with_reducible repeat first|refine blk_drewN ?_ _|refine blk_drew ?_|refine blk_alloc ?_ _); refine blk_put (cs := #[.int .i64 t239, .int .i64 t240, .int .i64 t241, .int .i64 t242, .int .i64 0]) ?_ 4 _ rfl; (with_reducible repeat first|refine blk_drewN ?_ _|refine blk_drew ?_|refine blk_alloc ?_ _); refine blk_put (cs := #[.int .i64 t239, .int .i64 t240, .int .i64 t241, .int .i64 0, .int .i64 0]) ?_ 3 _ rfl; (with_reducible repeat first|refine blk_drewN ?_ _|refine blk_drew ?_|refine blk_alloc ?_ _); refine blk_put (cs := #[.int .i64 t239, .int .i64 t240, .int .i64 0, .int .i64 0, .int .i64 0]) ?_ 2 _ rfl; (with_reducible repeat first|refine blk_drewN ?_ _|refine blk_drew ?_|refine blk_alloc ?_ _); refine blk_put (cs := #[.int .i64 t239, .int .i64 0, .int .i64 0, .int .i64 0, .int .i64 0]) ?_ 1 _ rfl; (with_reducible repeat first|refine blk_drewN ?_ _|refine blk_drew ?_|refine blk_alloc ?_ _); refine blk_put (cs := #[.int .i64 0, .int .i64 0, .int .i64 0, .int .i64 0, .int .i64 0]) ?_ 0 _ rfl; (with_reducible repeat first|refine blk_drewN ?_ _|refine blk_drew ?_|refine blk_alloc ?_ _); exact BK237.out) Try.underlying54 rfl (by kernel_rfl)) rfl ?_
      exact ⟨by first | rfl | (simp [errW_none, errW_some] <;> rfl) | (simp [*, errW_none, errW_some] <;> rfl), bw⟩
  ·rw [if_neg c6] at H
   have c6b0 : (t243 == 0) = false := beq_eq_false_iff_ne.mpr c6
   have c6b1 : (t243 != 0) = true := bne_iff_ne.mpr c6
   simp only [Option.some.injEq, Prod.mk.injEq] at H
   obtain ⟨rfl, rfl, rfl, rfl, rfl, rfl⟩ := H
   go_enter Try.func50, Try.ntmps50
   go_wp2_with (first | ((with_reducible refine gate_dst (N := 2) rfl ?_); refine bx 2 #[.int .i64 a0_0, .int .i64 a0_1, .int .i64 a0_2, .int .i64 a0_3, .int .i64 a0_4, .int .i64 a0_5, .int .i64 a0_6, .int .i64 a0_7, .int .i64 a0_8, .int .i64 a0_9] 42 ?_; intro gb236 hg w53 hbox hb; have BK236 := AX (hbox); have GW236 := gwl (w := w) hg bw; have GE236 := GW236; replace HB := AX (below_step bw hb); clear hb hbox hg) | ((with_reducible refine gate_dst (N := 4) rfl ?_); refine bx 4 #[.int .i64 0, .int .i64 0, .int .i64 0, .int .i64 0, .int .i64 0] 54 ?_; intro gb237 hg w54 hbox hb; have BK237 := AX (hbox); have GW237 := gwl (w := w) hg bw; have GE237 := GW237; have NB236_237 := nbl hg (bkn BK236); have NB237_236 := nbg hg (bkn BK236); replace BK236 := AX (bkb BK236 hb); replace HB := AX (below_step bw hb); clear hb hbox hg; have hnb55 := NB236_237.out; have hnc55 := NB237_236.out; obtain ⟨hcz56_0, hcz56_1, hcz56_2, hcz56_3, hcz56_4, hcz56_5, hcz56_6, hcz56_7, hcz56_8, hcz56_9⟩ := blkC10 (w := w54) BK236.out; obtain ⟨hfz56_0, hfz56_1, hfz56_2, hfz56_3, hfz56_4, hfz56_5, hfz56_6, hfz56_7, hfz56_8, hfz56_9⟩ := blkF10 BK236.out) | ((with_reducible refine gate_callee (f := 76) rfl ?_); refine gL (some 14) Try.func76 #[.agg #[.int .i64 a0_0, .int .i64 a0_1, .int .i64 a0_2, .int .i64 a0_3, .int .i64 a0_4, .int .i64 a0_5, .int .i64 a0_6, .int .i64 a0_7, .int .i64 a0_8, .int .i64 a0_9]] ?_; (with_reducible refine (zone_Check.calls k a0_0 a0_1 a0_2 a0_3 a0_4 a0_5 a0_6 a0_7 a0_8 a0_9 t238 _ A3.out).mono ?_); rintro e w57 ⟨rfl, hb⟩; refine ⟨_, rfl, ?_⟩; replace BK236 := AX (bkb BK236 hb); replace BK237 := AX (bkb BK237 hb); replace HB := AX (below_step bw hb); (try clear hb); obtain ⟨hcz58_0, hcz58_1, hcz58_2, hcz58_3, hcz58_4, hcz58_5, hcz58_6, hcz58_7, hcz58_8, hcz58_9⟩ := blkC10 (w := w57) BK236.out; obtain ⟨hfz58_0, hfz58_1, hfz58_2, hfz58_3, hfz58_4, hfz58_5, hfz58_6, hfz58_7, hfz58_8, hfz58_9⟩ := blkF10 BK236.out) | ((with_reducible refine gate_callee (f := 77) rfl ?_); refine gL (some 21) Try.func77 #[.int .i64 a1, .int .i64 a0_0] ?_; (with_reducible refine (zone_clock.calls k a1 a0_0 t239 t240 t241 t242 t243 _ A5.out).mono ?_); rintro e w59 ⟨rfl, hb⟩; refine ⟨_, rfl, ?_⟩; replace BK236 := AX (bkb BK236 hb); replace BK237 := AX (bkb BK237 hb); replace HB := AX (below_step bw hb); (try clear hb)) | ((with_reducible refine gate_dst (N := 6) rfl ?_); refine bx 6 #[.int .i64 0, .int .i64 0, .int .i64 0] 24 ?_; intro gb244 hg w60 hbox hb; have BK244 := AX (hbox); have GW244 := gwl (w := w) hg bw; have GE244 := GW244; have NB236_244 := nbl hg (bkn BK236); have NB244_236 := nbg hg (bkn BK236); have NB237_244 := nbl hg (bkn BK237); have NB244_237 := nbg hg (bkn BK237); replace BK236 := AX (bkb BK236 hb); replace BK237 := AX (bkb BK237 hb); replace HB := AX (below_step bw hb); clear hb hbox hg; have hnb61 := NB244_236.out; have hnc61 := NB236_244.out; have hnb62 := NB244_237.out; have hnc62 := NB237_244.out; obtain ⟨hcz63_0, hcz63_1, hcz63_2⟩ := blkC3 (w := w60) BK244.out; obtain ⟨hfz63_0, hfz63_1, hfz63_2⟩ := blkF3 BK244.out; obtain ⟨hcz64_0, hcz64_1, hcz64_2, hcz64_3, hcz64_4⟩ := blkC5 (w := w60) BK237.out; obtain ⟨hfz64_0, hfz64_1, hfz64_2, hfz64_3, hfz64_4⟩ := blkF5 BK237.out))
   refine bodyPost_ret (results_ct rfl _ _ gb237 54 #[.int .i64 0, .int .i64 0, .int .i64 0, .int .i64 0, .int .i64 0] (0, 0) _ rfl (by (with_reducible repeat first|refine blk_drewN ?_ _|refine blk_drew ?_|refine blk_alloc ?_ _); refine blk_put (cs := #[.int .i64 0, .int .i64 0, .int .i64 0, .int .i64 0, .int .i64 0]) ?_ 4 _ rfl; (with_reducible repeat first|refine blk_drewN ?_ _|refine blk_drew ?_|refine blk_alloc ?_ _); refine blk_put (cs := #[.int .i64 0, .int .i64 0, .int .i64 0, .int .i64 0, .int .i64 0]) ?_ 3 _ rfl; (with_reducible repeat first|refine blk_drewN ?_ _|refine blk_drew ?_|refine blk_alloc ?_ _); refine blk_put (cs := #[.int .i64 0, .int .i64 0, .int .i64 0, .int .i64 0, .int .i64 0]) ?_ 2 _ rfl; (with_reducible repeat first|refine blk_drewN ?_ _|refine blk_drew ?_|refine blk_alloc ?_ _); refine blk_put (cs := #[.int .i64 0, .int .i64 0, .int .i64 0, .int .i64 0, .int .i64 0]) ?_ 1 _ rfl; (with_reducible repeat first|refine blk_drewN ?_ _|refine blk_drew ?_|refine blk_alloc ?_ _); refine blk_put (cs := #[.int .i64 0, .int .i64 0, .int .i64 0, .int .i64 0, .int .i64 0]) ?_ 0 _ rfl; (with_reducible repeat first|refine blk_drewN ?_ _|refine blk_drew ?_|refine blk_alloc ?_ _); refine blk_far ?_ NB237_244.out _; (with_reducible repeat first|refine blk_drewN ?_ _|refine blk_drew ?_|refine blk_alloc ?_ _); refine blk_far ?_ NB237_244.out _; (with_reducible repeat first|refine blk_drewN ?_ _|refine blk_drew ?_|refine blk_alloc ?_ _); refine blk_far ?_ NB237_244.out _; (with_reducible repeat first|refine blk_drewN ?_ _|refine blk_drew ?_|refine blk_alloc ?_ _); exact BK237.out) Try.underlying54 rfl (by kernel_rfl)) rfl ?_
   exact ⟨by first | rfl | (simp [errW_none, errW_some] <;> rfl) | (simp [*, errW_none, errW_some] <;> rfl), bw⟩
 ·rw [if_neg c4] at H
  have c4b0 : (t238 == 0) = false := beq_eq_false_iff_ne.mpr c4
  have c4b1 : (t238 != 0) = true := bne_iff_ne.mpr c4
  simp only [Option.some.injEq, Prod.mk.injEq] at H
  obtain ⟨rfl, rfl, rfl, rfl, rfl, rfl⟩ := H
  go_enter Try.func50, Try.ntmps50
  go_wp2_with (first | ((with_reducible refine gate_dst (N := 2) rfl ?_); refine bx 2 #[.int .i64 a0_0, .int .i64 a0_1, .int .i64 a0_2, .int .i64 a0_3, .int .i64 a0_4, .int .i64 a0_5, .int .i64 a0_6, .int .i64 a0_7, .int .i64 a0_8, .int .i64 a0_9] 42 ?_; intro gb236 hg w65 hbox hb; have BK236 := AX (hbox); have GW236 := gwl (w := w) hg bw; have GE236 := GW236; replace HB := AX (below_step bw hb); clear hb hbox hg) | ((with_reducible refine gate_dst (N := 4) rfl ?_); refine bx 4 #[.int .i64 0, .int .i64 0, .int .i64 0, .int .i64 0, .int .i64 0] 54 ?_; intro gb237 hg w66 hbox hb; have BK237 := AX (hbox); have GW237 := gwl (w := w) hg bw; have GE237 := GW237; have NB236_237 := nbl hg (bkn BK236); have NB237_236 := nbg hg (bkn BK236); replace BK236 := AX (bkb BK236 hb); replace HB := AX (below_step bw hb); clear hb hbox hg; have hnb67 := NB236_237.out; have hnc67 := NB237_236.out; obtain ⟨hcz68_0, hcz68_1, hcz68_2, hcz68_3, hcz68_4, hcz68_5, hcz68_6, hcz68_7, hcz68_8, hcz68_9⟩ := blkC10 (w := w66) BK236.out; obtain ⟨hfz68_0, hfz68_1, hfz68_2, hfz68_3, hfz68_4, hfz68_5, hfz68_6, hfz68_7, hfz68_8, hfz68_9⟩ := blkF10 BK236.out) | ((with_reducible refine gate_callee (f := 76) rfl ?_); refine gL (some 14) Try.func76 #[.agg #[.int .i64 a0_0, .int .i64 a0_1, .int .i64 a0_2, .int .i64 a0_3, .int .i64 a0_4, .int .i64 a0_5, .int .i64 a0_6, .int .i64 a0_7, .int .i64 a0_8, .int .i64 a0_9]] ?_; (with_reducible refine (zone_Check.calls k a0_0 a0_1 a0_2 a0_3 a0_4 a0_5 a0_6 a0_7 a0_8 a0_9 t238 _ A3.out).mono ?_); rintro e w69 ⟨rfl, hb⟩; refine ⟨_, rfl, ?_⟩; replace BK236 := AX (bkb BK236 hb); replace BK237 := AX (bkb BK237 hb); replace HB := AX (below_step bw hb); (try clear hb); obtain ⟨hcz70_0, hcz70_1, hcz70_2, hcz70_3, hcz70_4⟩ := blkC5 (w := w69) BK237.out; obtain ⟨hfz70_0, hfz70_1, hfz70_2, hfz70_3, hfz70_4⟩ := blkF5 BK237.out))
  refine bodyPost_ret (results_ct rfl _ _ gb237 54 #[.int .i64 0, .int .i64 0, .int .i64 0, .int .i64 0, .int .i64 0] (0, 0) _ rfl (by (with_reducible repeat first|refine blk_drewN ?_ _|refine blk_drew ?_|refine blk_alloc ?_ _); refine blk_put (cs := #[.int .i64 0, .int .i64 0, .int .i64 0, .int .i64 0, .int .i64 0]) ?_ 4 _ rfl; (with_reducible repeat first|refine blk_drewN ?_ _|refine blk_drew ?_|refine blk_alloc ?_ _); refine blk_put (cs := #[.int .i64 0, .int .i64 0, .int .i64 0, .int .i64 0, .int .i64 0]) ?_ 3 _ rfl; (with_reducible repeat first|refine blk_drewN ?_ _|refine blk_drew ?_|refine blk_alloc ?_ _); refine blk_put (cs := #[.int .i64 0, .int .i64 0, .int .i64 0, .int .i64 0, .int .i64 0]) ?_ 2 _ rfl; (with_reducible repeat first|refine blk_drewN ?_ _|refine blk_drew ?_|refine blk_alloc ?_ _); refine blk_put (cs := #[.int .i64 0, .int .i64 0, .int .i64 0, .int .i64 0, .int .i64 0]) ?_ 1 _ rfl; (with_reducible repeat first|refine blk_drewN ?_ _|refine blk_drew ?_|refine blk_alloc ?_ _); refine blk_put (cs := #[.int .i64 0, .int .i64 0, .int .i64 0, .int .i64 0, .int .i64 0]) ?_ 0 _ rfl; (with_reducible repeat first|refine blk_drewN ?_ _|refine blk_drew ?_|refine blk_alloc ?_ _); exact BK237.out) Try.underlying54 rfl (by kernel_rfl)) rfl ?_
  exact ⟨by first | rfl | (simp [errW_none, errW_some] <;> rfl) | (simp [*, errW_none, errW_some] <;> rfl), bw⟩

end Go.Proofs.Ytkggjjggcbcdiaa.PX
