/- Functions of the program as plain Lean functions, each with a proof that the call in the machine answers just what the plain function says; condition: the plain function answers at all. -/
import Derived.Test.YtipldjcncfoffaaPXx0
import Derived.Test.YtipldjcncfoffaaPXx1
import Derived.Test.YtipldjcncfoffaaPXx8
import Derived.Test.YtipldjcncfoffaaPXx10
import Derived.Test.YtipldjcncfoffaaPXx11
namespace Go.Proofs.Ytipldjcncfoffaa.PX
open Go.RowKit Go.Proofs.YtipldjcncfoffaaW.PrintWords Go.Proofs.YtipldjcncfoffaaW.PrintLast Go.Proofs.YtipldjcncfoffaaW.PrintMore
attribute [local go_sem] max2_int min2_int max_two min_two max_three min_three max_four min_four   -- for this text's walks alone
set_option linter.unusedVariables false
set_option linter.unusedSimpArgs false

attribute [local go_sem high] eqA24
/-! ### pylonlaw13_PeriodHolds: function 9 -/
def pylonlaw13_PeriodHolds.j0 : Nat → Bool → Int → Int → Int → Int → Int → Int → Int → Int → Int → Option (Bool)
 | 0, _, _, _, _, _, _, _, _, _, _ => none
 | k + 1, x90, x275000, x275001, x275002, x280000, x280001, x280002, x285000, x285001, x285002 => if x90 = true then (some false) else ((pylonref03_Compare.f x280000 x280001 x280002 x275000 x275001 x275002).bind fun t295 => (if t295 ≤ 0 then ((pylonref03_Compare.f x275000 x275001 x275002 x285000 x285001 x285002).bind fun t296 => (some (decide (t296 < 0)))) else (some false)))
def pylonlaw13_PeriodHolds.f (k : Nat) (a0 : Int) (a1 : Int) : Option (Bool) := (pylonlaw13_awake.f k).bind fun t269 => (if t269 = true then ((pylonref03_Of.f k (wrap64 ((wrap64 (Int.tmod (IntKind.u64.wrap (a0)) 3651000)) - 718700))).bind fun bt270 => ((period_Begin.f k bt270.1 bt270.2.1 bt270.2.2.1 (wrap64 (1 + (wrap64 (Int.tmod (IntKind.u64.wrap (a1)) 28))))).bind fun bt275 => ((period_Next.f k bt270.1 bt270.2.1 bt270.2.2.1 (wrap64 (1 + (wrap64 (Int.tmod (IntKind.u64.wrap (a1)) 28))))).bind fun bt280 => ((period_Begin.f k bt280.1 bt280.2.1 bt280.2.2.1 (wrap64 (1 + (wrap64 (Int.tmod (IntKind.u64.wrap (a1)) 28))))).bind fun bt285 => ((period_Next.f k bt275.1 bt275.2.1 bt275.2.2.1 (wrap64 (1 + (wrap64 (Int.tmod (IntKind.u64.wrap (a1)) 28))))).bind fun bt290 => (if bt275.2.2.2 = 0 then (if bt280.2.2.2 = 0 then (if bt285.2.2.2 = 0 then (if bt290.2.2.2 = 0 then (if bt275.2.2.1 = (wrap64 (1 + (wrap64 (Int.tmod (IntKind.u64.wrap (a1)) 28)))) then (if bt280.2.2.1 = (wrap64 (1 + (wrap64 (Int.tmod (IntKind.u64.wrap (a1)) 28)))) then (if (!(bt285.1 == bt280.1) || (!(bt285.2.1 == bt280.2.1) || (!(bt285.2.2.1 == bt280.2.2.1)))) = true then (pylonlaw13_PeriodHolds.j0 k true bt270.1 bt270.2.1 bt270.2.2.1 bt275.1 bt275.2.1 bt275.2.2.1 bt280.1 bt280.2.1 bt280.2.2.1) else (pylonlaw13_PeriodHolds.j0 k (!(bt290.1 == bt280.1) || (!(bt290.2.1 == bt280.2.1) || (!(bt290.2.2.1 == bt280.2.2.1)))) bt270.1 bt270.2.1 bt270.2.2.1 bt275.1 bt275.2.1 bt275.2.2.1 bt280.1 bt280.2.1 bt280.2.2.1)) else (pylonlaw13_PeriodHolds.j0 k true bt270.1 bt270.2.1 bt270.2.2.1 bt275.1 bt275.2.1 bt275.2.2.1 bt280.1 bt280.2.1 bt280.2.2.1)) else (pylonlaw13_PeriodHolds.j0 k true bt270.1 bt270.2.1 bt270.2.2.1 bt275.1 bt275.2.1 bt275.2.2.1 bt280.1 bt280.2.1 bt280.2.2.1)) else (pylonlaw13_PeriodHolds.j0 k true bt270.1 bt270.2.1 bt270.2.2.1 bt275.1 bt275.2.1 bt275.2.2.1 bt280.1 bt280.2.1 bt280.2.2.1)) else (pylonlaw13_PeriodHolds.j0 k true bt270.1 bt270.2.1 bt270.2.2.1 bt275.1 bt275.2.1 bt275.2.2.1 bt280.1 bt280.2.1 bt280.2.2.1)) else (pylonlaw13_PeriodHolds.j0 k true bt270.1 bt270.2.1 bt270.2.2.1 bt275.1 bt275.2.1 bt275.2.2.1 bt280.1 bt280.2.1 bt280.2.2.1)) else (pylonlaw13_PeriodHolds.j0 k true bt270.1 bt270.2.1 bt270.2.2.1 bt275.1 bt275.2.1 bt275.2.2.1 bt280.1 bt280.2.1 bt280.2.2.1))))))) else (some false))
theorem pylonlaw13_PeriodHolds.mono_l : ∀ k, (∀ y0 y1 y2 y3 y4 y5 y6 y7 y8 y9, LeO (pylonlaw13_PeriodHolds.j0 k y0 y1 y2 y3 y4 y5 y6 y7 y8 y9) (pylonlaw13_PeriodHolds.j0 (k + 1) y0 y1 y2 y3 y4 y5 y6 y7 y8 y9))
 | 0 => fun _ _ _ _ _ _ _ _ _ _ r h => by simp [pylonlaw13_PeriodHolds.j0] at h
 | k + 1 => by
  have ih0 := pylonlaw13_PeriodHolds.mono_l k
  ·intro y0 y1 y2 y3 y4 y5 y6 y7 y8 y9
   unfold pylonlaw13_PeriodHolds.j0
   repeat' first
   | (with_reducible exact ih0 _ _ _ _ _ _ _ _ _ _)
   | (with_reducible exact period_Begin.mono _ _ _ _ _)
   | (with_reducible exact period_Next.mono _ _ _ _ _)
   | (with_reducible exact pylonlaw13_awake.mono _)
   | (with_reducible exact pylonref03_Of.mono _ _)
   | (with_reducible exact LeO.refl _)
   | (with_reducible exact LeO.none _)
   | (with_reducible refine LeO.ite ?_ ?_)
   | (with_reducible refine LeO.bind ?_ (fun _ => ?_))
   | exact ih0 _ _ _ _ _ _ _ _ _ _
   | exact period_Begin.mono _ _ _ _ _
   | exact period_Next.mono _ _ _ _ _
   | exact pylonlaw13_awake.mono _
   | exact pylonref03_Of.mono _ _
   | exact LeO.none _
   | refine LeO.ite ?_ ?_
   | refine LeO.bind ?_ (fun _ => ?_)
theorem pylonlaw13_PeriodHolds.mono : ∀ a0 a1 k, LeO (pylonlaw13_PeriodHolds.f k a0 a1) (pylonlaw13_PeriodHolds.f (k + 1) a0 a1) := by
 intro a0 a1 k
 have ih0 := pylonlaw13_PeriodHolds.mono_l k
 unfold pylonlaw13_PeriodHolds.f
 repeat' first
   | (with_reducible exact ih0 _ _ _ _ _ _ _ _ _ _)
   | (with_reducible exact period_Begin.mono _ _ _ _ _)
   | (with_reducible exact period_Next.mono _ _ _ _ _)
   | (with_reducible exact pylonlaw13_awake.mono _)
   | (with_reducible exact pylonref03_Of.mono _ _)
   | (with_reducible exact LeO.refl _)
   | (with_reducible exact LeO.none _)
   | (with_reducible refine LeO.ite ?_ ?_)
   | (with_reducible refine LeO.bind ?_ (fun _ => ?_))
   | exact ih0 _ _ _ _ _ _ _ _ _ _
   | exact period_Begin.mono _ _ _ _ _
   | exact period_Next.mono _ _ _ _ _
   | exact pylonlaw13_awake.mono _
   | exact pylonref03_Of.mono _ _
   | exact LeO.none _
   | refine LeO.ite ?_ ?_
   | refine LeO.bind ?_ (fun _ => ?_)
set_option maxHeartbeats 8000000 in
set_option maxRecDepth 100000 in
theorem pylonlaw13_PeriodHolds.calls (k : Nat) (a0 : Int) (a1 : Int) (r : Bool) (w : World) (h : pylonlaw13_PeriodHolds.f k a0 a1 = some r) :
  Calls Try.prog 9 #[.int .i64 a0, .int .i64 a1] w fun e w' => e = .returned (.bool r) ∧ Below w.heap.size w w' := by
 have hu24 := Try.underlying24
 have HB := Aside0.mk (Below.refl w.heap.size w)
 have H : ((pylonlaw13_awake.f k).bind fun t269 => (if t269 = true then ((pylonref03_Of.f k (wrap64 ((wrap64 (Int.tmod (IntKind.u64.wrap (a0)) 3651000)) - 718700))).bind fun bt270 => ((period_Begin.f k bt270.1 bt270.2.1 bt270.2.2.1 (wrap64 (1 + (wrap64 (Int.tmod (IntKind.u64.wrap (a1)) 28))))).bind fun bt275 => ((period_Next.f k bt270.1 bt270.2.1 bt270.2.2.1 (wrap64 (1 + (wrap64 (Int.tmod (IntKind.u64.wrap (a1)) 28))))).bind fun bt280 => ((period_Begin.f k bt280.1 bt280.2.1 bt280.2.2.1 (wrap64 (1 + (wrap64 (Int.tmod (IntKind.u64.wrap (a1)) 28))))).bind fun bt285 => ((period_Next.f k bt275.1 bt275.2.1 bt275.2.2.1 (wrap64 (1 + (wrap64 (Int.tmod (IntKind.u64.wrap (a1)) 28))))).bind fun bt290 => (if bt275.2.2.2 = 0 then (if bt280.2.2.2 = 0 then (if bt285.2.2.2 = 0 then (if bt290.2.2.2 = 0 then (if bt275.2.2.1 = (wrap64 (1 + (wrap64 (Int.tmod (IntKind.u64.wrap (a1)) 28)))) then (if bt280.2.2.1 = (wrap64 (1 + (wrap64 (Int.tmod (IntKind.u64.wrap (a1)) 28)))) then (if (!(bt285.1 == bt280.1) || (!(bt285.2.1 == bt280.2.1) || (!(bt285.2.2.1 == bt280.2.2.1)))) = true then (pylonlaw13_PeriodHolds.j0 k true bt270.1 bt270.2.1 bt270.2.2.1 bt275.1 bt275.2.1 bt275.2.2.1 bt280.1 bt280.2.1 bt280.2.2.1) else (pylonlaw13_PeriodHolds.j0 k (!(bt290.1 == bt280.1) || (!(bt290.2.1 == bt280.2.1) || (!(bt290.2.2.1 == bt280.2.2.1)))) bt270.1 bt270.2.1 bt270.2.2.1 bt275.1 bt275.2.1 bt275.2.2.1 bt280.1 bt280.2.1 bt280.2.2.1)) else (pylonlaw13_PeriodHolds.j0 k true bt270.1 bt270.2.1 bt270.2.2.1 bt275.1 bt275.2.1 bt275.2.2.1 bt280.1 bt280.2.1 bt280.2.2.1)) else (pylonlaw13_PeriodHolds.j0 k true bt270.1 bt270.2.1 bt270.2.2.1 bt275.1 bt275.2.1 bt275.2.2.1 bt280.1 bt280.2.1 bt280.2.2.1)) else (pylonlaw13_PeriodHolds.j0 k true bt270.1 bt270.2.1 bt270.2.2.1 bt275.1 bt275.2.1 bt275.2.2.1 bt280.1 bt280.2.1 bt280.2.2.1)) else (pylonlaw13_PeriodHolds.j0 k true bt270.1 bt270.2.1 bt270.2.2.1 bt275.1 bt275.2.1 bt275.2.2.1 bt280.1 bt280.2.1 bt280.2.2.1)) else (pylonlaw13_PeriodHolds.j0 k true bt270.1 bt270.2.1 bt270.2.2.1 bt275.1 bt275.2.1 bt275.2.2.1 bt280.1 bt280.2.1 bt280.2.2.1)) else (pylonlaw13_PeriodHolds.j0 k true bt270.1 bt270.2.1 bt270.2.2.1 bt275.1 bt275.2.1 bt275.2.2.1 bt280.1 bt280.2.1 bt280.2.2.1))))))) else (some false))) = some r := h
 clear h
 replace H := Option.bind_eq_some_iff.mp H
 obtain ⟨t269, A30, H⟩ := H
 replace H : (if t269 = true then ((pylonref03_Of.f k (wrap64 ((wrap64 (Int.tmod (IntKind.u64.wrap (a0)) 3651000)) - 718700))).bind fun bt270 => ((period_Begin.f k bt270.1 bt270.2.1 bt270.2.2.1 (wrap64 (1 + (wrap64 (Int.tmod (IntKind.u64.wrap (a1)) 28))))).bind fun bt275 => ((period_Next.f k bt270.1 bt270.2.1 bt270.2.2.1 (wrap64 (1 + (wrap64 (Int.tmod (IntKind.u64.wrap (a1)) 28))))).bind fun bt280 => ((period_Begin.f k bt280.1 bt280.2.1 bt280.2.2.1 (wrap64 (1 + (wrap64 (Int.tmod (IntKind.u64.wrap (a1)) 28))))).bind fun bt285 => ((period_Next.f k bt275.1 bt275.2.1 bt275.2.2.1 (wrap64 (1 + (wrap64 (Int.tmod (IntKind.u64.wrap (a1)) 28))))).bind fun bt290 => (if bt275.2.2.2 = 0 then (if bt280.2.2.2 = 0 then (if bt285.2.2.2 = 0 then (if bt290.2.2.2 = 0 then (if bt275.2.2.1 = (wrap64 (1 + (wrap64 (Int.tmod (IntKind.u64.wrap (a1)) 28)))) then (if bt280.2.2.1 = (wrap64 (1 + (wrap64 (Int.tmod (IntKind.u64.wrap (a1)) 28)))) then (if (!(bt285.1 == bt280.1) || (!(bt285.2.1 == bt280.2.1) || (!(bt285.2.2.1 == bt280.2.2.1)))) = true then (pylonlaw13_PeriodHolds.j0 k true bt270.1 bt270.2.1 bt270.2.2.1 bt275.1 bt275.2.1 bt275.2.2.1 bt280.1 bt280.2.1 bt280.2.2.1) else (pylonlaw13_PeriodHolds.j0 k (!(bt290.1 == bt280.1) || (!(bt290.2.1 == bt280.2.1) || (!(bt290.2.2.1 == bt280.2.2.1)))) bt270.1 bt270.2.1 bt270.2.2.1 bt275.1 bt275.2.1 bt275.2.2.1 bt280.1 bt280.2.1 bt280.2.2.1)) else (pylonlaw13_PeriodHolds.j0 k true bt270.1 bt270.2.1 bt270.2.2.1 bt275.1 bt275.2.1 bt275.2.2.1 bt280.1 bt280.2.1 bt280.2.2.1)) else (pylonlaw13_PeriodHolds.j0 k true bt270.1 bt270.2.1 bt270.2.2.1 bt275.1 bt275.2.1 bt275.2.2.1 bt280.1 bt280.2.1 bt280.2.2.1)) else (pylonlaw13_PeriodHolds.j0 k true bt270.1 bt270.2.1 bt270.2.2.1 bt275.1 bt275.2.1 bt275.2.2.1 bt280.1 bt280.2.1 bt280.2.2.1)) else (pylonlaw13_PeriodHolds.j0 k true bt270.1 bt270.2.1 bt270.2.2.1 bt275.1 bt275.2.1 bt275.2.2.1 bt280.1 bt280.2.1 bt280.2.2.1)) else (pylonlaw13_PeriodHolds.j0 k true bt270.1 bt270.2.1 bt270.2.2.1 bt275.1 bt275.2.1 bt275.2.2.1 bt280.1 bt280.2.1 bt280.2.2.1)) else (pylonlaw13_PeriodHolds.j0 k true bt270.1 bt270.2.1 bt270.2.2.1 bt275.1 bt275.2.1 bt275.2.2.1 bt280.1 bt280.2.1 bt280.2.2.1))))))) else (some false)) = some r := H
 have A3 := Aside0.mk A30
 clear A30
 by_cases c4 : t269 = true
 ·subst c4
  have H1 : ((pylonref03_Of.f k (wrap64 ((wrap64 (Int.tmod (IntKind.u64.wrap (a0)) 3651000)) - 718700))).bind fun bt270 => ((period_Begin.f k bt270.1 bt270.2.1 bt270.2.2.1 (wrap64 (1 + (wrap64 (Int.tmod (IntKind.u64.wrap (a1)) 28))))).bind fun bt275 => ((period_Next.f k bt270.1 bt270.2.1 bt270.2.2.1 (wrap64 (1 + (wrap64 (Int.tmod (IntKind.u64.wrap (a1)) 28))))).bind fun bt280 => ((period_Begin.f k bt280.1 bt280.2.1 bt280.2.2.1 (wrap64 (1 + (wrap64 (Int.tmod (IntKind.u64.wrap (a1)) 28))))).bind fun bt285 => ((period_Next.f k bt275.1 bt275.2.1 bt275.2.2.1 (wrap64 (1 + (wrap64 (Int.tmod (IntKind.u64.wrap (a1)) 28))))).bind fun bt290 => (if bt275.2.2.2 = 0 then (if bt280.2.2.2 = 0 then (if bt285.2.2.2 = 0 then (if bt290.2.2.2 = 0 then (if bt275.2.2.1 = (wrap64 (1 + (wrap64 (Int.tmod (IntKind.u64.wrap (a1)) 28)))) then (if bt280.2.2.1 = (wrap64 (1 + (wrap64 (Int.tmod (IntKind.u64.wrap (a1)) 28)))) then (if (!(bt285.1 == bt280.1) || (!(bt285.2.1 == bt280.2.1) || (!(bt285.2.2.1 == bt280.2.2.1)))) = true then (pylonlaw13_PeriodHolds.j0 k true bt270.1 bt270.2.1 bt270.2.2.1 bt275.1 bt275.2.1 bt275.2.2.1 bt280.1 bt280.2.1 bt280.2.2.1) else (pylonlaw13_PeriodHolds.j0 k (!(bt290.1 == bt280.1) || (!(bt290.2.1 == bt280.2.1) || (!(bt290.2.2.1 == bt280.2.2.1)))) bt270.1 bt270.2.1 bt270.2.2.1 bt275.1 bt275.2.1 bt275.2.2.1 bt280.1 bt280.2.1 bt280.2.2.1)) else (pylonlaw13_PeriodHolds.j0 k true bt270.1 bt270.2.1 bt270.2.2.1 bt275.1 bt275.2.1 bt275.2.2.1 bt280.1 bt280.2.1 bt280.2.2.1)) else (pylonlaw13_PeriodHolds.j0 k true bt270.1 bt270.2.1 bt270.2.2.1 bt275.1 bt275.2.1 bt275.2.2.1 bt280.1 bt280.2.1 bt280.2.2.1)) else (pylonlaw13_PeriodHolds.j0 k true bt270.1 bt270.2.1 bt270.2.2.1 bt275.1 bt275.2.1 bt275.2.2.1 bt280.1 bt280.2.1 bt280.2.2.1)) else (pylonlaw13_PeriodHolds.j0 k true bt270.1 bt270.2.1 bt270.2.2.1 bt275.1 bt275.2.1 bt275.2.2.1 bt280.1 bt280.2.1 bt280.2.2.1)) else (pylonlaw13_PeriodHolds.j0 k true bt270.1 bt270.2.1 bt270.2.2.1 bt275.1 bt275.2.1 bt275.2.2.1 bt280.1 bt280.2.1 bt280.2.2.1)) else (pylonlaw13_PeriodHolds.j0 k true bt270.1 bt270.2.1 bt270.2.2.1 bt275.1 bt275.2.1 bt275.2.2.1 bt280.1 bt280.2.1 bt280.2.2.1))))))) = some r := by rw [if_pos rfl] at H; exact H
  clear H
  have H := H1
  clear H1
  replace H := Option.bind_eq_some_iff.mp H
  obtain ⟨⟨t270, t271, t272, t273⟩, A50, H⟩ := H
  replace H : ((period_Begin.f k t270 t271 t272 (wrap64 (1 + (wrap64 (Int.tmod (IntKind.u64.wrap (a1)) 28))))).bind fun bt275 => ((period_Next.f k t270 t271 t272 (wrap64 (1 + (wrap64 (Int.tmod (IntKind.u64.wrap (a1)) 28))))).bind fun bt280 => ((period_Begin.f k bt280.1 bt280.2.1 bt280.2.2.1 (wrap64 (1 + (wrap64 (Int.tmod (IntKind.u64.wrap (a1)) 28))))).bind fun bt285 => ((period_Next.f k bt275.1 bt275.2.1 bt275.2.2.1 (wrap64 (1 + (wrap64 (Int.tmod (IntKind.u64.wrap (a1)) 28))))).bind fun bt290 => (if bt275.2.2.2 = 0 then (if bt280.2.2.2 = 0 then (if bt285.2.2.2 = 0 then (if bt290.2.2.2 = 0 then (if bt275.2.2.1 = (wrap64 (1 + (wrap64 (Int.tmod (IntKind.u64.wrap (a1)) 28)))) then (if bt280.2.2.1 = (wrap64 (1 + (wrap64 (Int.tmod (IntKind.u64.wrap (a1)) 28)))) then (if (!(bt285.1 == bt280.1) || (!(bt285.2.1 == bt280.2.1) || (!(bt285.2.2.1 == bt280.2.2.1)))) = true then (pylonlaw13_PeriodHolds.j0 k true t270 t271 t272 bt275.1 bt275.2.1 bt275.2.2.1 bt280.1 bt280.2.1 bt280.2.2.1) else (pylonlaw13_PeriodHolds.j0 k (!(bt290.1 == bt280.1) || (!(bt290.2.1 == bt280.2.1) || (!(bt290.2.2.1 == bt280.2.2.1)))) t270 t271 t272 bt275.1 bt275.2.1 bt275.2.2.1 bt280.1 bt280.2.1 bt280.2.2.1)) else (pylonlaw13_PeriodHolds.j0 k true t270 t271 t272 bt275.1 bt275.2.1 bt275.2.2.1 bt280.1 bt280.2.1 bt280.2.2.1)) else (pylonlaw13_PeriodHolds.j0 k true t270 t271 t272 bt275.1 bt275.2.1 bt275.2.2.1 bt280.1 bt280.2.1 bt280.2.2.1)) else (pylonlaw13_PeriodHolds.j0 k true t270 t271 t272 bt275.1 bt275.2.1 bt275.2.2.1 bt280.1 bt280.2.1 bt280.2.2.1)) else (pylonlaw13_PeriodHolds.j0 k true t270 t271 t272 bt275.1 bt275.2.1 bt275.2.2.1 bt280.1 bt280.2.1 bt280.2.2.1)) else (pylonlaw13_PeriodHolds.j0 k true t270 t271 t272 bt275.1 bt275.2.1 bt275.2.2.1 bt280.1 bt280.2.1 bt280.2.2.1)) else (pylonlaw13_PeriodHolds.j0 k true t270 t271 t272 bt275.1 bt275.2.1 bt275.2.2.1 bt280.1 bt280.2.1 bt280.2.2.1)))))) = some r := H
  have A5 := Aside0.mk A50
  clear A50
  replace H := Option.bind_eq_some_iff.mp H
  obtain ⟨⟨t275, t276, t277, t278⟩, A60, H⟩ := H
  replace H : ((period_Next.f k t270 t271 t272 (wrap64 (1 + (wrap64 (Int.tmod (IntKind.u64.wrap (a1)) 28))))).bind fun bt280 => ((period_Begin.f k bt280.1 bt280.2.1 bt280.2.2.1 (wrap64 (1 + (wrap64 (Int.tmod (IntKind.u64.wrap (a1)) 28))))).bind fun bt285 => ((period_Next.f k t275 t276 t277 (wrap64 (1 + (wrap64 (Int.tmod (IntKind.u64.wrap (a1)) 28))))).bind fun bt290 => (if t278 = 0 then (if bt280.2.2.2 = 0 then (if bt285.2.2.2 = 0 then (if bt290.2.2.2 = 0 then (if t277 = (wrap64 (1 + (wrap64 (Int.tmod (IntKind.u64.wrap (a1)) 28)))) then (if bt280.2.2.1 = (wrap64 (1 + (wrap64 (Int.tmod (IntKind.u64.wrap (a1)) 28)))) then (if (!(bt285.1 == bt280.1) || (!(bt285.2.1 == bt280.2.1) || (!(bt285.2.2.1 == bt280.2.2.1)))) = true then (pylonlaw13_PeriodHolds.j0 k true t270 t271 t272 t275 t276 t277 bt280.1 bt280.2.1 bt280.2.2.1) else (pylonlaw13_PeriodHolds.j0 k (!(bt290.1 == bt280.1) || (!(bt290.2.1 == bt280.2.1) || (!(bt290.2.2.1 == bt280.2.2.1)))) t270 t271 t272 t275 t276 t277 bt280.1 bt280.2.1 bt280.2.2.1)) else (pylonlaw13_PeriodHolds.j0 k true t270 t271 t272 t275 t276 t277 bt280.1 bt280.2.1 bt280.2.2.1)) else (pylonlaw13_PeriodHolds.j0 k true t270 t271 t272 t275 t276 t277 bt280.1 bt280.2.1 bt280.2.2.1)) else (pylonlaw13_PeriodHolds.j0 k true t270 t271 t272 t275 t276 t277 bt280.1 bt280.2.1 bt280.2.2.1)) else (pylonlaw13_PeriodHolds.j0 k true t270 t271 t272 t275 t276 t277 bt280.1 bt280.2.1 bt280.2.2.1)) else (pylonlaw13_PeriodHolds.j0 k true t270 t271 t272 t275 t276 t277 bt280.1 bt280.2.1 bt280.2.2.1)) else (pylonlaw13_PeriodHolds.j0 k true t270 t271 t272 t275 t276 t277 bt280.1 bt280.2.1 bt280.2.2.1))))) = some r := H
  have A6 := Aside0.mk A60
  clear A60
  replace H := Option.bind_eq_some_iff.mp H
  obtain ⟨⟨t280, t281, t282, t283⟩, A70, H⟩ := H
  replace H : ((period_Begin.f k t280 t281 t282 (wrap64 (1 + (wrap64 (Int.tmod (IntKind.u64.wrap (a1)) 28))))).bind fun bt285 => ((period_Next.f k t275 t276 t277 (wrap64 (1 + (wrap64 (Int.tmod (IntKind.u64.wrap (a1)) 28))))).bind fun bt290 => (if t278 = 0 then (if t283 = 0 then (if bt285.2.2.2 = 0 then (if bt290.2.2.2 = 0 then (if t277 = (wrap64 (1 + (wrap64 (Int.tmod (IntKind.u64.wrap (a1)) 28)))) then (if t282 = (wrap64 (1 + (wrap64 (Int.tmod (IntKind.u64.wrap (a1)) 28)))) then (if (!(bt285.1 == t280) || (!(bt285.2.1 == t281) || (!(bt285.2.2.1 == t282)))) = true then (pylonlaw13_PeriodHolds.j0 k true t270 t271 t272 t275 t276 t277 t280 t281 t282) else (pylonlaw13_PeriodHolds.j0 k (!(bt290.1 == t280) || (!(bt290.2.1 == t281) || (!(bt290.2.2.1 == t282)))) t270 t271 t272 t275 t276 t277 t280 t281 t282)) else (pylonlaw13_PeriodHolds.j0 k true t270 t271 t272 t275 t276 t277 t280 t281 t282)) else (pylonlaw13_PeriodHolds.j0 k true t270 t271 t272 t275 t276 t277 t280 t281 t282)) else (pylonlaw13_PeriodHolds.j0 k true t270 t271 t272 t275 t276 t277 t280 t281 t282)) else (pylonlaw13_PeriodHolds.j0 k true t270 t271 t272 t275 t276 t277 t280 t281 t282)) else (pylonlaw13_PeriodHolds.j0 k true t270 t271 t272 t275 t276 t277 t280 t281 t282)) else (pylonlaw13_PeriodHolds.j0 k true t270 t271 t272 t275 t276 t277 t280 t281 t282)))) = some r := H
  have A7 := Aside0.mk A70
  clear A70
  replace H := Option.bind_eq_some_iff.mp H
  obtain ⟨⟨t285, t286, t287, t288⟩, A80, H⟩ := H
  replace H : ((period_Next.f k t275 t276 t277 (wrap64 (1 + (wrap64 (Int.tmod (IntKind.u64.wrap (a1)) 28))))).bind fun bt290 => (if t278 = 0 then (if t283 = 0 then (if t288 = 0 then (if bt290.2.2.2 = 0 then (if t277 = (wrap64 (1 + (wrap64 (Int.tmod (IntKind.u64.wrap (a1)) 28)))) then (if t282 = (wrap64 (1 + (wrap64 (Int.tmod (IntKind.u64.wrap (a1)) 28)))) then (if (!(t285 == t280) || (!(t286 == t281) || (!(t287 == t282)))) = true then (pylonlaw13_PeriodHolds.j0 k true t270 t271 t272 t275 t276 t277 t280 t281 t282) else (pylonlaw13_PeriodHolds.j0 k (!(bt290.1 == t280) || (!(bt290.2.1 == t281) || (!(bt290.2.2.1 == t282)))) t270 t271 t272 t275 t276 t277 t280 t281 t282)) else (pylonlaw13_PeriodHolds.j0 k true t270 t271 t272 t275 t276 t277 t280 t281 t282)) else (pylonlaw13_PeriodHolds.j0 k true t270 t271 t272 t275 t276 t277 t280 t281 t282)) else (pylonlaw13_PeriodHolds.j0 k true t270 t271 t272 t275 t276 t277 t280 t281 t282)) else (pylonlaw13_PeriodHolds.j0 k true t270 t271 t272 t275 t276 t277 t280 t281 t282)) else (pylonlaw13_PeriodHolds.j0 k true t270 t271 t272 t275 t276 t277 t280 t281 t282)) else (pylonlaw13_PeriodHolds.j0 k true t270 t271 t272 t275 t276 t277 t280 t281 t282))) = some r := H
  have A8 := Aside0.mk A80
  clear A80
  replace H := Option.bind_eq_some_iff.mp H
  obtain ⟨⟨t290, t291, t292, t293⟩, A90, H⟩ := H
  replace H : (if t278 = 0 then (if t283 = 0 then (if t288 = 0 then (if t293 = 0 then (if t277 = (wrap64 (1 + (wrap64 (Int.tmod (IntKind.u64.wrap (a1)) 28)))) then (if t282 = (wrap64 (1 + (wrap64 (Int.tmod (IntKind.u64.wrap (a1)) 28)))) then (if (!(t285 == t280) || (!(t286 == t281) || (!(t287 == t282)))) = true then (pylonlaw13_PeriodHolds.j0 k true t270 t271 t272 t275 t276 t277 t280 t281 t282) else (pylonlaw13_PeriodHolds.j0 k (!(t290 == t280) || (!(t291 == t281) || (!(t292 == t282)))) t270 t271 t272 t275 t276 t277 t280 t281 t282)) else (pylonlaw13_PeriodHolds.j0 k true t270 t271 t272 t275 t276 t277 t280 t281 t282)) else (pylonlaw13_PeriodHolds.j0 k true t270 t271 t272 t275 t276 t277 t280 t281 t282)) else (pylonlaw13_PeriodHolds.j0 k true t270 t271 t272 t275 t276 t277 t280 t281 t282)) else (pylonlaw13_PeriodHolds.j0 k true t270 t271 t272 t275 t276 t277 t280 t281 t282)) else (pylonlaw13_PeriodHolds.j0 k true t270 t271 t272 t275 t276 t277 t280 t281 t282)) else (pylonlaw13_PeriodHolds.j0 k true t270 t271 t272 t275 t276 t277 t280 t281 t282)) = some r := H
  have A9 := Aside0.mk A90
  clear A90
  have HC10 := Aside0.mk H
  clear H
  go_enter Try.func9, Try.ntmps9
  go_upto_region 9 with (first | ((with_reducible refine gate_callee (f := 27) rfl ?_); refine goesL_ (some 15) rfl rfl Try.func27 (by kernel_rfl) rfl #[] rfl (by (try simp only [List.map_toArray, List.map_cons, List.map_nil]); first | done | rfl | (simp only [List.length_drop, List.length_take]; rfl)) ?_; (with_reducible refine (pylonlaw13_awake.calls k  true _ A3.out).mono ?_); rintro e w11 ⟨rfl, hb⟩; refine ⟨_, rfl, ?_⟩; have n0_ := Aside0.mk (below_step (by repeat (first | (with_reducible first | exact HB.out | apply below_alloc | apply pw_below_drewN | apply below_drew1) | exact HB.out)) hb); clear HB; have HB := n0_; clear n0_; (try clear hb); (try clear hb2); (try clear hk); (try clear hi)) | ((with_reducible refine gate_callee (f := 32) rfl ?_); refine goesL_ (some 23) rfl rfl Try.func32 (by kernel_rfl) rfl #[.int .i64 (wrap64 ((wrap64 (Int.tmod (IntKind.u64.wrap (a0)) 3651000)) - 718700))] rfl (by (try simp only [List.map_toArray, List.map_cons, List.map_nil]); first | done | rfl | (simp only [List.length_drop, List.length_take]; rfl)) ?_; (with_reducible refine (pylonref03_Of.calls k (wrap64 ((wrap64 (Int.tmod (IntKind.u64.wrap (a0)) 3651000)) - 718700)) t270 t271 t272 t273 _ A5.out).mono ?_); rintro e w12 ⟨rfl, hb⟩; refine ⟨_, rfl, ?_⟩; have n0_ := Aside0.mk (below_step (by repeat (first | (with_reducible first | exact HB.out | apply below_alloc | apply pw_below_drewN | apply below_drew1) | exact HB.out)) hb); clear HB; have HB := n0_; clear n0_; (try clear hb); (try clear hb2); (try clear hk); (try clear hi)) | ((with_reducible refine gate_dst (N := 5) rfl ?_); refine box_event ?hg (N := 5) ?hd (cs := #[.int .i64 0, .int .i64 0, .int .i64 0]) (t := 24) ?hr ?_; (case hd => rfl); (case hg => rfl); (case hr => first | (go_simp; done) | (go_simp; rfl)); intro gb274 hg w13 hbox hb; have n0_ := Aside0.mk (below_step (by repeat (first | (with_reducible first | exact HB.out | apply below_alloc | apply pw_below_drewN | apply below_drew1) | exact HB.out)) hb); have n1_ := Aside0.mk (hbox); have n2_ := Aside0.mk ((by rw [hg]; exact (below_size (by repeat (first | (with_reducible first | exact HB.out | apply below_alloc | apply pw_below_drewN | apply below_drew1) | exact HB.out))) : w.heap.size ≤ gb274)); have n3_ := Aside0.mk ((by rw [hg]; exact (below_size (by repeat (first | (with_reducible first | exact HB.out | apply below_alloc | apply pw_below_drewN | apply below_drew1) | exact HB.out))) : w.heap.size ≤ gb274)); clear HB; have HB := n0_; have BK274 := n1_; have GW274 := n2_; have GE274 := n3_; clear n0_ n1_ n2_ n3_; clear hb hbox hg; have hcz14_0 : w13.cell? ⟨gb274, 0, none⟩ = some (.int .i64 0) := (blk_cell BK274.out 0).trans rfl; have hcz14_1 : w13.cell? ⟨gb274, 1, none⟩ = some (.int .i64 0) := (blk_cell BK274.out 1).trans rfl; have hcz14_2 : w13.cell? ⟨gb274, 2, none⟩ = some (.int .i64 0) := (blk_cell BK274.out 2).trans rfl; have hfz14_0 := blk_frozen BK274.out 0; have hfz14_1 := blk_frozen BK274.out 1; have hfz14_2 := blk_frozen BK274.out 2) | ((with_reducible refine gate_callee (f := 30) rfl ?_); refine goesL_ (some 34) rfl rfl Try.func30 (by kernel_rfl) rfl #[.agg #[.int .i64 t270, .int .i64 t271, .int .i64 t272], .int .i64 (wrap64 (1 + (wrap64 (Int.tmod (IntKind.u64.wrap (a1)) 28))))] rfl (by (try simp only [List.map_toArray, List.map_cons, List.map_nil]); first | done | rfl | (simp only [List.length_drop, List.length_take]; rfl)) ?_; (with_reducible refine (period_Begin.calls k t270 t271 t272 (wrap64 (1 + (wrap64 (Int.tmod (IntKind.u64.wrap (a1)) 28)))) t275 t276 t277 t278 _ A6.out).mono ?_); rintro e w15 ⟨rfl, hb⟩; refine ⟨_, rfl, ?_⟩; have n0_ := Aside0.mk (blk_below (g := gb274) (o := .cells #[.int .i64 t270, .int .i64 t271, .int .i64 t272] 24 (0, 0)) (by (with_reducible repeat first|refine blk_drewN ?_ _|refine blk_drew ?_|refine blk_alloc ?_ _); refine blk_put (cs := #[.int .i64 t270, .int .i64 t271, .int .i64 0]) ?_ 2 _ rfl; (with_reducible repeat first|refine blk_drewN ?_ _|refine blk_drew ?_|refine blk_alloc ?_ _); refine blk_put (cs := #[.int .i64 t270, .int .i64 0, .int .i64 0]) ?_ 1 _ rfl; (with_reducible repeat first|refine blk_drewN ?_ _|refine blk_drew ?_|refine blk_alloc ?_ _); refine blk_put (cs := #[.int .i64 0, .int .i64 0, .int .i64 0]) ?_ 0 _ rfl; (with_reducible repeat first|refine blk_drewN ?_ _|refine blk_drew ?_|refine blk_alloc ?_ _); exact BK274.out) hb); have n1_ := Aside0.mk (below_step (by repeat (first | (with_reducible first | exact HB.out | apply below_alloc | apply pw_below_drewN | apply below_drew1 | refine below_set ?_ GE274.out) | exact HB.out)) hb); clear BK274; clear HB; have BK274 := n0_; have HB := n1_; clear n0_ n1_; (try clear hb); (try clear hb2); (try clear hk); (try clear hi)) | ((with_reducible refine gate_dst (N := 7) rfl ?_); refine box_event ?hg (N := 7) ?hd (cs := #[.int .i64 0, .int .i64 0, .int .i64 0]) (t := 24) ?hr ?_; (case hd => rfl); (case hg => rfl); (case hr => first | (go_simp; done) | (go_simp; rfl)); intro gb279 hg w16 hbox hb; have n0_ := Aside0.mk (blk_below (g := gb274) (o := .cells #[.int .i64 t270, .int .i64 t271, .int .i64 t272] 24 (0, 0)) (by (with_reducible repeat first|refine blk_drewN ?_ _|refine blk_drew ?_|refine blk_alloc ?_ _); exact BK274.out) hb); have n1_ := Aside0.mk (below_step (by repeat (first | (with_reducible first | exact HB.out | apply below_alloc | apply pw_below_drewN | apply below_drew1 | refine below_set ?_ GE274.out) | exact HB.out)) hb); have n2_ := Aside0.mk (hbox); have n3_ := Aside0.mk ((by rw [hg]; exact (below_size (by repeat (first | (with_reducible first | exact HB.out | apply below_alloc | apply pw_below_drewN | apply below_drew1 | refine below_set ?_ GE274.out) | exact HB.out))) : w.heap.size ≤ gb279)); have n4_ := Aside0.mk ((by rw [hg]; exact (below_size (by repeat (first | (with_reducible first | exact HB.out | apply below_alloc | apply pw_below_drewN | apply below_drew1 | refine below_set ?_ GE274.out) | exact HB.out))) : w.heap.size ≤ gb279)); have n5_ := Aside0.mk ((by rw [hg]; exact Nat.ne_of_lt (blk_lt (g := gb274) (o := .cells #[.int .i64 t270, .int .i64 t271, .int .i64 t272] 24 (0, 0)) (by (with_reducible repeat first|refine blk_drewN ?_ _|refine blk_drew ?_|refine blk_alloc ?_ _); exact BK274.out)) : gb274 ≠ gb279)); have n6_ := Aside0.mk ((by rw [hg]; exact Nat.ne_of_gt (blk_lt (g := gb274) (o := .cells #[.int .i64 t270, .int .i64 t271, .int .i64 t272] 24 (0, 0)) (by (with_reducible repeat first|refine blk_drewN ?_ _|refine blk_drew ?_|refine blk_alloc ?_ _); exact BK274.out)) : gb279 ≠ gb274)); clear BK274; clear HB; have BK274 := n0_; have HB := n1_; have BK279 := n2_; have GW279 := n3_; have GE279 := n4_; have NB274_279 := n5_; have NB279_274 := n6_; clear n0_ n1_ n2_ n3_ n4_ n5_ n6_; clear hb hbox hg; have hnb17 := NB279_274.out; have hnc17 := NB274_279.out; have hcz18_0 : w16.cell? ⟨gb279, 0, none⟩ = some (.int .i64 0) := (blk_cell BK279.out 0).trans rfl; have hcz18_1 : w16.cell? ⟨gb279, 1, none⟩ = some (.int .i64 0) := (blk_cell BK279.out 1).trans rfl; have hcz18_2 : w16.cell? ⟨gb279, 2, none⟩ = some (.int .i64 0) := (blk_cell BK279.out 2).trans rfl; have hfz18_0 := blk_frozen BK279.out 0; have hfz18_1 := blk_frozen BK279.out 1; have hfz18_2 := blk_frozen BK279.out 2; have hcz19_0 : w16.cell? ⟨gb274, 0, none⟩ = some (.int .i64 t270) := (blk_cell BK274.out 0).trans rfl; have hcz19_1 : w16.cell? ⟨gb274, 1, none⟩ = some (.int .i64 t271) := (blk_cell BK274.out 1).trans rfl; have hcz19_2 : w16.cell? ⟨gb274, 2, none⟩ = some (.int .i64 t272) := (blk_cell BK274.out 2).trans rfl; have hfz19_0 := blk_frozen BK274.out 0; have hfz19_1 := blk_frozen BK274.out 1; have hfz19_2 := blk_frozen BK274.out 2) | ((with_reducible refine gate_callee (f := 31) rfl ?_); refine goesL_ (some 40) rfl rfl Try.func31 (by kernel_rfl) rfl #[.agg #[.int .i64 t270, .int .i64 t271, .int .i64 t272], .int .i64 (wrap64 (1 + (wrap64 (Int.tmod (IntKind.u64.wrap (a1)) 28))))] rfl (by (try simp only [List.map_toArray, List.map_cons, List.map_nil]); first | done | rfl | (simp only [List.length_drop, List.length_take]; rfl)) ?_; (with_reducible refine (period_Next.calls k t270 t271 t272 (wrap64 (1 + (wrap64 (Int.tmod (IntKind.u64.wrap (a1)) 28)))) t280 t281 t282 t283 _ A7.out).mono ?_); rintro e w20 ⟨rfl, hb⟩; refine ⟨_, rfl, ?_⟩; have n0_ := Aside0.mk (blk_below (g := gb274) (o := .cells #[.int .i64 t270, .int .i64 t271, .int .i64 t272] 24 (0, 0)) (by (with_reducible repeat first|refine blk_drewN ?_ _|refine blk_drew ?_|refine blk_alloc ?_ _); refine blk_far ?_ NB274_279.out _; (with_reducible repeat first|refine blk_drewN ?_ _|refine blk_drew ?_|refine blk_alloc ?_ _); refine blk_far ?_ NB274_279.out _; (with_reducible repeat first|refine blk_drewN ?_ _|refine blk_drew ?_|refine blk_alloc ?_ _); refine blk_far ?_ NB274_279.out _; (with_reducible repeat first|refine blk_drewN ?_ _|refine blk_drew ?_|refine blk_alloc ?_ _); exact BK274.out) hb); have n1_ := Aside0.mk (blk_below (g := gb279) (o := .cells #[.int .i64 t275, .int .i64 t276, .int .i64 t277] 24 (0, 0)) (by (with_reducible repeat first|refine blk_drewN ?_ _|refine blk_drew ?_|refine blk_alloc ?_ _); refine blk_put (cs := #[.int .i64 t275, .int .i64 t276, .int .i64 0]) ?_ 2 _ rfl; (with_reducible repeat first|refine blk_drewN ?_ _|refine blk_drew ?_|refine blk_alloc ?_ _); refine blk_put (cs := #[.int .i64 t275, .int .i64 0, .int .i64 0]) ?_ 1 _ rfl; (with_reducible repeat first|refine blk_drewN ?_ _|refine blk_drew ?_|refine blk_alloc ?_ _); refine blk_put (cs := #[.int .i64 0, .int .i64 0, .int .i64 0]) ?_ 0 _ rfl; (with_reducible repeat first|refine blk_drewN ?_ _|refine blk_drew ?_|refine blk_alloc ?_ _); exact BK279.out) hb); have n2_ := Aside0.mk (below_step (by repeat (first | (with_reducible first | exact HB.out | apply below_alloc | apply pw_below_drewN | apply below_drew1 | refine below_set ?_ GE274.out | refine below_set ?_ GE279.out) | exact HB.out)) hb); clear BK274; clear BK279; clear HB; have BK274 := n0_; have BK279 := n1_; have HB := n2_; clear n0_ n1_ n2_; (try clear hb); (try clear hb2); (try clear hk); (try clear hi)) | ((with_reducible refine gate_dst (N := 9) rfl ?_); refine box_event ?hg (N := 9) ?hd (cs := #[.int .i64 0, .int .i64 0, .int .i64 0]) (t := 24) ?hr ?_; (case hd => rfl); (case hg => rfl); (case hr => first | (go_simp; done) | (go_simp; rfl)); intro gb284 hg w21 hbox hb; have n0_ := Aside0.mk (blk_below (g := gb274) (o := .cells #[.int .i64 t270, .int .i64 t271, .int .i64 t272] 24 (0, 0)) (by (with_reducible repeat first|refine blk_drewN ?_ _|refine blk_drew ?_|refine blk_alloc ?_ _); exact BK274.out) hb); have n1_ := Aside0.mk (blk_below (g := gb279) (o := .cells #[.int .i64 t275, .int .i64 t276, .int .i64 t277] 24 (0, 0)) (by (with_reducible repeat first|refine blk_drewN ?_ _|refine blk_drew ?_|refine blk_alloc ?_ _); exact BK279.out) hb); have n2_ := Aside0.mk (below_step (by repeat (first | (with_reducible first | exact HB.out | apply below_alloc | apply pw_below_drewN | apply below_drew1 | refine below_set ?_ GE274.out | refine below_set ?_ GE279.out) | exact HB.out)) hb); have n3_ := Aside0.mk (hbox); have n4_ := Aside0.mk ((by rw [hg]; exact (below_size (by repeat (first | (with_reducible first | exact HB.out | apply below_alloc | apply pw_below_drewN | apply below_drew1 | refine below_set ?_ GE274.out | refine below_set ?_ GE279.out) | exact HB.out))) : w.heap.size ≤ gb284)); have n5_ := Aside0.mk ((by rw [hg]; exact (below_size (by repeat (first | (with_reducible first | exact HB.out | apply below_alloc | apply pw_below_drewN | apply below_drew1 | refine below_set ?_ GE274.out | refine below_set ?_ GE279.out) | exact HB.out))) : w.heap.size ≤ gb284)); have n6_ := Aside0.mk ((by rw [hg]; exact Nat.ne_of_lt (blk_lt (g := gb274) (o := .cells #[.int .i64 t270, .int .i64 t271, .int .i64 t272] 24 (0, 0)) (by (with_reducible repeat first|refine blk_drewN ?_ _|refine blk_drew ?_|refine blk_alloc ?_ _); exact BK274.out)) : gb274 ≠ gb284)); have n7_ := Aside0.mk ((by rw [hg]; exact Nat.ne_of_gt (blk_lt (g := gb274) (o := .cells #[.int .i64 t270, .int .i64 t271, .int .i64 t272] 24 (0, 0)) (by (with_reducible repeat first|refine blk_drewN ?_ _|refine blk_drew ?_|refine blk_alloc ?_ _); exact BK274.out)) : gb284 ≠ gb274)); have n8_ := Aside0.mk ((by rw [hg]; exact Nat.ne_of_lt (blk_lt (g := gb279) (o := .cells #[.int .i64 t275, .int .i64 t276, .int .i64 t277] 24 (0, 0)) (by (with_reducible repeat first|refine blk_drewN ?_ _|refine blk_drew ?_|refine blk_alloc ?_ _); exact BK279.out)) : gb279 ≠ gb284)); have n9_ := Aside0.mk ((by rw [hg]; exact Nat.ne_of_gt (blk_lt (g := gb279) (o := .cells #[.int .i64 t275, .int .i64 t276, .int .i64 t277] 24 (0, 0)) (by (with_reducible repeat first|refine blk_drewN ?_ _|refine blk_drew ?_|refine blk_alloc ?_ _); exact BK279.out)) : gb284 ≠ gb279)); clear BK274; clear BK279; clear HB; have BK274 := n0_; have BK279 := n1_; have HB := n2_; have BK284 := n3_; have GW284 := n4_; have GE284 := n5_; have NB274_284 := n6_; have NB284_274 := n7_; have NB279_284 := n8_; have NB284_279 := n9_; clear n0_ n1_ n2_ n3_ n4_ n5_ n6_ n7_ n8_ n9_; clear hb hbox hg; have hnb22 := NB284_274.out; have hnc22 := NB274_284.out; have hnb23 := NB284_279.out; have hnc23 := NB279_284.out; have hcz24_0 : w21.cell? ⟨gb284, 0, none⟩ = some (.int .i64 0) := (blk_cell BK284.out 0).trans rfl; have hcz24_1 : w21.cell? ⟨gb284, 1, none⟩ = some (.int .i64 0) := (blk_cell BK284.out 1).trans rfl; have hcz24_2 : w21.cell? ⟨gb284, 2, none⟩ = some (.int .i64 0) := (blk_cell BK284.out 2).trans rfl; have hfz24_0 := blk_frozen BK284.out 0; have hfz24_1 := blk_frozen BK284.out 1; have hfz24_2 := blk_frozen BK284.out 2) | ((with_reducible refine gate_callee (f := 30) rfl ?_); refine goesL_ (some 46) rfl rfl Try.func30 (by kernel_rfl) rfl #[.agg #[.int .i64 t280, .int .i64 t281, .int .i64 t282], .int .i64 (wrap64 (1 + (wrap64 (Int.tmod (IntKind.u64.wrap (a1)) 28))))] rfl (by (try simp only [List.map_toArray, List.map_cons, List.map_nil]); first | done | rfl | (simp only [List.length_drop, List.length_take]; rfl)) ?_; (with_reducible refine (period_Begin.calls k t280 t281 t282 (wrap64 (1 + (wrap64 (Int.tmod (IntKind.u64.wrap (a1)) 28)))) t285 t286 t287 t288 _ A8.out).mono ?_); rintro e w25 ⟨rfl, hb⟩; refine ⟨_, rfl, ?_⟩; have n0_ := Aside0.mk (blk_below (g := gb274) (o := .cells #[.int .i64 t270, .int .i64 t271, .int .i64 t272] 24 (0, 0)) (by (with_reducible repeat first|refine blk_drewN ?_ _|refine blk_drew ?_|refine blk_alloc ?_ _); refine blk_far ?_ NB274_284.out _; (with_reducible repeat first|refine blk_drewN ?_ _|refine blk_drew ?_|refine blk_alloc ?_ _); refine blk_far ?_ NB274_284.out _; (with_reducible repeat first|refine blk_drewN ?_ _|refine blk_drew ?_|refine blk_alloc ?_ _); refine blk_far ?_ NB274_284.out _; (with_reducible repeat first|refine blk_drewN ?_ _|refine blk_drew ?_|refine blk_alloc ?_ _); exact BK274.out) hb); have n1_ := Aside0.mk (blk_below (g := gb279) (o := .cells #[.int .i64 t275, .int .i64 t276, .int .i64 t277] 24 (0, 0)) (by (with_reducible repeat first|refine blk_drewN ?_ _|refine blk_drew ?_|refine blk_alloc ?_ _); refine blk_far ?_ NB279_284.out _; (with_reducible repeat first|refine blk_drewN ?_ _|refine blk_drew ?_|refine blk_alloc ?_ _); refine blk_far ?_ NB279_284.out _; (with_reducible repeat first|refine blk_drewN ?_ _|refine blk_drew ?_|refine blk_alloc ?_ _); refine blk_far ?_ NB279_284.out _; (with_reducible repeat first|refine blk_drewN ?_ _|refine blk_drew ?_|refine blk_alloc ?_ _); exact BK279.out) hb); have n2_ := Aside0.mk (blk_below (g := gb284) (o := .cells #[.int .i64 t280, .int .i64 t281, .int .i64 t282] 24 (0, 0)) (by (with_reducible repeat first|refine blk_drewN ?_ _|refine blk_drew ?_|refine blk_alloc ?_ _); refine blk_put (cs := #[.int .i64 t280, .int .i64 t281, .int .i64 0]) ?_ 2 _ rfl; (with_reducible repeat first|refine blk_drewN ?_ _|refine blk_drew ?_|refine blk_alloc ?_ _); refine blk_put (cs := #[.int .i64 t280, .int .i64 0, .int .i64 0]) ?_ 1 _ rfl; (with_reducible repeat first|refine blk_drewN ?_ _|refine blk_drew ?_|refine blk_alloc ?_ _); refine blk_put (cs := #[.int .i64 0, .int .i64 0, .int .i64 0]) ?_ 0 _ rfl; (with_reducible repeat first|refine blk_drewN ?_ _|refine blk_drew ?_|refine blk_alloc ?_ _); exact BK284.out) hb); have n3_ := Aside0.mk (below_step (by repeat (first | (with_reducible first | exact HB.out | apply below_alloc | apply pw_below_drewN | apply below_drew1 | refine below_set ?_ GE274.out | refine below_set ?_ GE279.out | refine below_set ?_ GE284.out) | exact HB.out)) hb); clear BK274; clear BK279; clear BK284; clear HB; have BK274 := n0_; have BK279 := n1_; have BK284 := n2_; have HB := n3_; clear n0_ n1_ n2_ n3_; (try clear hb); (try clear hb2); (try clear hk); (try clear hi)) | ((with_reducible refine gate_dst (N := 11) rfl ?_); refine box_event ?hg (N := 11) ?hd (cs := #[.int .i64 0, .int .i64 0, .int .i64 0]) (t := 24) ?hr ?_; (case hd => rfl); (case hg => rfl); (case hr => first | (go_simp; done) | (go_simp; rfl)); intro gb289 hg w26 hbox hb; have n0_ := Aside0.mk (blk_below (g := gb274) (o := .cells #[.int .i64 t270, .int .i64 t271, .int .i64 t272] 24 (0, 0)) (by (with_reducible repeat first|refine blk_drewN ?_ _|refine blk_drew ?_|refine blk_alloc ?_ _); exact BK274.out) hb); have n1_ := Aside0.mk (blk_below (g := gb279) (o := .cells #[.int .i64 t275, .int .i64 t276, .int .i64 t277] 24 (0, 0)) (by (with_reducible repeat first|refine blk_drewN ?_ _|refine blk_drew ?_|refine blk_alloc ?_ _); exact BK279.out) hb); have n2_ := Aside0.mk (blk_below (g := gb284) (o := .cells #[.int .i64 t280, .int .i64 t281, .int .i64 t282] 24 (0, 0)) (by (with_reducible repeat first|refine blk_drewN ?_ _|refine blk_drew ?_|refine blk_alloc ?_ _); exact BK284.out) hb); have n3_ := Aside0.mk (below_step (by repeat (first | (with_reducible first | exact HB.out | apply below_alloc | apply pw_below_drewN | apply below_drew1 | refine below_set ?_ GE274.out | refine below_set ?_ GE279.out | refine below_set ?_ GE284.out) | exact HB.out)) hb); have n4_ := Aside0.mk (hbox); have n5_ := Aside0.mk ((by rw [hg]; exact (below_size (by repeat (first | (with_reducible first | exact HB.out | apply below_alloc | apply pw_below_drewN | apply below_drew1 | refine below_set ?_ GE274.out | refine below_set ?_ GE279.out | refine below_set ?_ GE284.out) | exact HB.out))) : w.heap.size ≤ gb289)); have n6_ := Aside0.mk ((by rw [hg]; exact (below_size (by repeat (first | (with_reducible first | exact HB.out | apply below_alloc | apply pw_below_drewN | apply below_drew1 | refine below_set ?_ GE274.out | refine below_set ?_ GE279.out | refine below_set ?_ GE284.out) | exact HB.out))) : w.heap.size ≤ gb289)); have n7_ := Aside0.mk ((by rw [hg]; exact Nat.ne_of_lt (blk_lt (g := gb274) (o := .cells #[.int .i64 t270, .int .i64 t271, .int .i64 t272] 24 (0, 0)) (by (with_reducible repeat first|refine blk_drewN ?_ _|refine blk_drew ?_|refine blk_alloc ?_ _); exact BK274.out)) : gb274 ≠ gb289)); have n8_ := Aside0.mk ((by rw [hg]; exact Nat.ne_of_gt (blk_lt (g := gb274) (o := .cells #[.int .i64 t270, .int .i64 t271, .int .i64 t272] 24 (0, 0)) (by (with_reducible repeat first|refine blk_drewN ?_ _|refine blk_drew ?_|refine blk_alloc ?_ _); exact BK274.out)) : gb289 ≠ gb274)); have n9_ := Aside0.mk ((by rw [hg]; exact Nat.ne_of_lt (blk_lt (g := gb279) (o := .cells #[.int .i64 t275, .int .i64 t276, .int .i64 t277] 24 (0, 0)) (by (with_reducible repeat first|refine blk_drewN ?_ _|refine blk_drew ?_|refine blk_alloc ?_ _); exact BK279.out)) : gb279 ≠ gb289)); have n10_ := Aside0.mk ((by rw [hg]; exact Nat.ne_of_gt (blk_lt (g := gb279) (o := .cells #[.int .i64 t275, .int .i64 t276, .int .i64 t277] 24 (0, 0)) (by (with_reducible repeat first|refine blk_drewN ?_ _|refine blk_drew ?_|refine blk_alloc ?_ _); exact BK279.out)) : gb289 ≠ gb279)); have n11_ := Aside0.mk ((by rw [hg]; exact Nat.ne_of_lt (blk_lt (g := gb284) (o := .cells #[.int .i64 t280, .int .i64 t281, .int .i64 t282] 24 (0, 0)) (by (with_reducible repeat first|refine blk_drewN ?_ _|refine blk_drew ?_|refine blk_alloc ?_ _); exact BK284.out)) : gb284 ≠ gb289)); have n12_ := Aside0.mk ((by rw [hg]; exact Nat.ne_of_gt (blk_lt (g := gb284) (o := .cells #[.int .i64 t280, .int .i64 t281, .int .i64 t282] 24 (0, 0)) (by (with_reducible repeat first|refine blk_drewN ?_ _|refine blk_drew ?_|refine blk_alloc ?_ _); exact BK284.out)) : gb289 ≠ gb284)); clear BK274; clear BK279; clear BK284; clear HB; have BK274 := n0_; have BK279 := n1_; have BK284 := n2_; have HB := n3_; have BK289 := n4_; have GW289 := n5_; have GE289 := n6_; have NB274_289 := n7_; have NB289_274 := n8_; have NB279_289 := n9_; have NB289_279 := n10_; have NB284_289 := n11_; have NB289_284 := n12_; clear n0_ n1_ n2_ n3_ n4_ n5_ n6_ n7_ n8_ n9_ n10_ n11_ n12_; clear hb hbox hg; have hnb27 := NB289_274.out; have hnc27 := NB274_289.out; have hnb28 := NB289_279.out; have hnc28 := NB279_289.out; have hnb29 := NB289_284.out; have hnc29 := NB284_289.out; have hcz30_0 : w26.cell? ⟨gb289, 0, none⟩ = some (.int .i64 0) := (blk_cell BK289.out 0).trans rfl; have hcz30_1 : w26.cell? ⟨gb289, 1, none⟩ = some (.int .i64 0) := (blk_cell BK289.out 1).trans rfl; have hcz30_2 : w26.cell? ⟨gb289, 2, none⟩ = some (.int .i64 0) := (blk_cell BK289.out 2).trans rfl; have hfz30_0 := blk_frozen BK289.out 0; have hfz30_1 := blk_frozen BK289.out 1; have hfz30_2 := blk_frozen BK289.out 2; have hcz31_0 : w26.cell? ⟨gb279, 0, none⟩ = some (.int .i64 t275) := (blk_cell BK279.out 0).trans rfl; have hcz31_1 : w26.cell? ⟨gb279, 1, none⟩ = some (.int .i64 t276) := (blk_cell BK279.out 1).trans rfl; have hcz31_2 : w26.cell? ⟨gb279, 2, none⟩ = some (.int .i64 t277) := (blk_cell BK279.out 2).trans rfl; have hfz31_0 := blk_frozen BK279.out 0; have hfz31_1 := blk_frozen BK279.out 1; have hfz31_2 := blk_frozen BK279.out 2) | ((with_reducible refine gate_callee (f := 31) rfl ?_); refine goesL_ (some 52) rfl rfl Try.func31 (by kernel_rfl) rfl #[.agg #[.int .i64 t275, .int .i64 t276, .int .i64 t277], .int .i64 (wrap64 (1 + (wrap64 (Int.tmod (IntKind.u64.wrap (a1)) 28))))] rfl (by (try simp only [List.map_toArray, List.map_cons, List.map_nil]); first | done | rfl | (simp only [List.length_drop, List.length_take]; rfl)) ?_; (with_reducible refine (period_Next.calls k t275 t276 t277 (wrap64 (1 + (wrap64 (Int.tmod (IntKind.u64.wrap (a1)) 28)))) t290 t291 t292 t293 _ A9.out).mono ?_); rintro e w32 ⟨rfl, hb⟩; refine ⟨_, rfl, ?_⟩; have n0_ := Aside0.mk (blk_below (g := gb274) (o := .cells #[.int .i64 t270, .int .i64 t271, .int .i64 t272] 24 (0, 0)) (by (with_reducible repeat first|refine blk_drewN ?_ _|refine blk_drew ?_|refine blk_alloc ?_ _); refine blk_far ?_ NB274_289.out _; (with_reducible repeat first|refine blk_drewN ?_ _|refine blk_drew ?_|refine blk_alloc ?_ _); refine blk_far ?_ NB274_289.out _; (with_reducible repeat first|refine blk_drewN ?_ _|refine blk_drew ?_|refine blk_alloc ?_ _); refine blk_far ?_ NB274_289.out _; (with_reducible repeat first|refine blk_drewN ?_ _|refine blk_drew ?_|refine blk_alloc ?_ _); exact BK274.out) hb); have n1_ := Aside0.mk (blk_below (g := gb279) (o := .cells #[.int .i64 t275, .int .i64 t276, .int .i64 t277] 24 (0, 0)) (by (with_reducible repeat first|refine blk_drewN ?_ _|refine blk_drew ?_|refine blk_alloc ?_ _); refine blk_far ?_ NB279_289.out _; (with_reducible repeat first|refine blk_drewN ?_ _|refine blk_drew ?_|refine blk_alloc ?_ _); refine blk_far ?_ NB279_289.out _; (with_reducible repeat first|refine blk_drewN ?_ _|refine blk_drew ?_|refine blk_alloc ?_ _); refine blk_far ?_ NB279_289.out _; (with_reducible repeat first|refine blk_drewN ?_ _|refine blk_drew ?_|refine blk_alloc ?_ _); exact BK279.out) hb); have n2_ := Aside0.mk (blk_below (g := gb284) (o := .cells #[.int .i64 t280, .int .i64 t281, .int .i64 t282] 24 (0, 0)) (by (with_reducible repeat first|refine blk_drewN ?_ _|refine blk_drew ?_|refine blk_alloc ?_ _); refine blk_far ?_ NB284_289.out _; (with_reducible repeat first|refine blk_drewN ?_ _|refine blk_drew ?_|refine blk_alloc ?_ _); refine blk_far ?_ NB284_289.out _; (with_reducible repeat first|refine blk_drewN ?_ _|refine blk_drew ?_|refine blk_alloc ?_ _); refine blk_far ?_ NB284_289.out _; (with_reducible repeat first|refine blk_drewN ?_ _|refine blk_drew ?_|refine blk_alloc ?_ _); exact BK284.out) hb); have n3_ := Aside0.mk (blk_below (g := gb289) (o := .cells #[.int .i64 t285, .int .i64 t286, .int .i64 t287] 24 (0, 0)) (by (with_reducible repeat first|refine blk_drewN ?_ _|refine blk_drew ?_|refine blk_alloc ?_ _); refine blk_put (cs := #[.int .i64 t285, .int .i64 t286, .int .i64 0]) ?_ 2 _ rfl; (with_reducible repeat first|refine blk_drewN ?_ _|refine blk_drew ?_|refine blk_alloc ?_ _); refine blk_put (cs := #[.int .i64 t285, .int .i64 0, .int .i64 0]) ?_ 1 _ rfl; (with_reducible repeat first|refine blk_drewN ?_ _|refine blk_drew ?_|refine blk_alloc ?_ _); refine blk_put (cs := #[.int .i64 0, .int .i64 0, .int .i64 0]) ?_ 0 _ rfl; (with_reducible repeat first|refine blk_drewN ?_ _|refine blk_drew ?_|refine blk_alloc ?_ _); exact BK289.out) hb); have n4_ := Aside0.mk (below_step (by repeat (first | (with_reducible first | exact HB.out | apply below_alloc | apply pw_below_drewN | apply below_drew1 | refine below_set ?_ GE274.out | refine below_set ?_ GE279.out | refine below_set ?_ GE284.out | refine below_set ?_ GE289.out) | exact HB.out)) hb); clear BK274; clear BK279; clear BK284; clear BK289; clear HB; have BK274 := n0_; have BK279 := n1_; have BK284 := n2_; have BK289 := n3_; have HB := n4_; clear n0_ n1_ n2_ n3_ n4_; (try clear hb); (try clear hb2); (try clear hk); (try clear hi)) | ((with_reducible refine gate_dst (N := 13) rfl ?_); refine box_event ?hg (N := 13) ?hd (cs := #[.int .i64 0, .int .i64 0, .int .i64 0]) (t := 24) ?hr ?_; (case hd => rfl); (case hg => rfl); (case hr => first | (go_simp; done) | (go_simp; rfl)); intro gb294 hg w33 hbox hb; have n0_ := Aside0.mk (blk_below (g := gb274) (o := .cells #[.int .i64 t270, .int .i64 t271, .int .i64 t272] 24 (0, 0)) (by (with_reducible repeat first|refine blk_drewN ?_ _|refine blk_drew ?_|refine blk_alloc ?_ _); exact BK274.out) hb); have n1_ := Aside0.mk (blk_below (g := gb279) (o := .cells #[.int .i64 t275, .int .i64 t276, .int .i64 t277] 24 (0, 0)) (by (with_reducible repeat first|refine blk_drewN ?_ _|refine blk_drew ?_|refine blk_alloc ?_ _); exact BK279.out) hb); have n2_ := Aside0.mk (blk_below (g := gb284) (o := .cells #[.int .i64 t280, .int .i64 t281, .int .i64 t282] 24 (0, 0)) (by (with_reducible repeat first|refine blk_drewN ?_ _|refine blk_drew ?_|refine blk_alloc ?_ _); exact BK284.out) hb); have n3_ := Aside0.mk (blk_below (g := gb289) (o := .cells #[.int .i64 t285, .int .i64 t286, .int .i64 t287] 24 (0, 0)) (by (with_reducible repeat first|refine blk_drewN ?_ _|refine blk_drew ?_|refine blk_alloc ?_ _); exact BK289.out) hb); have n4_ := Aside0.mk (below_step (by repeat (first | (with_reducible first | exact HB.out | apply below_alloc | apply pw_below_drewN | apply below_drew1 | refine below_set ?_ GE274.out | refine below_set ?_ GE279.out | refine below_set ?_ GE284.out | refine below_set ?_ GE289.out) | exact HB.out)) hb); have n5_ := Aside0.mk (hbox); have n6_ := Aside0.mk ((by rw [hg]; exact (below_size (by repeat (first | (with_reducible first | exact HB.out | apply below_alloc | apply pw_below_drewN | apply below_drew1 | refine below_set ?_ GE274.out | refine below_set ?_ GE279.out | refine below_set ?_ GE284.out | refine below_set ?_ GE289.out) | exact HB.out))) : w.heap.size ≤ gb294)); have n7_ := Aside0.mk ((by rw [hg]; exact (below_size (by repeat (first | (with_reducible first | exact HB.out | apply below_alloc | apply pw_below_drewN | apply below_drew1 | refine below_set ?_ GE274.out | refine below_set ?_ GE279.out | refine below_set ?_ GE284.out | refine below_set ?_ GE289.out) | exact HB.out))) : w.heap.size ≤ gb294)); have n8_ := Aside0.mk ((by rw [hg]; exact Nat.ne_of_lt (blk_lt (g := gb274) (o := .cells #[.int .i64 t270, .int .i64 t271, .int .i64 t272] 24 (0, 0)) (by (with_reducible repeat first|refine blk_drewN ?_ _|refine blk_drew ?_|refine blk_alloc ?_ _); exact BK274.out)) : gb274 ≠ gb294)); have n9_ := Aside0.mk ((by rw [hg]; exact Nat.ne_of_gt (blk_lt (g := gb274) (o := .cells #[.int .i64 t270, .int .i64 t271, .int .i64 t272] 24 (0, 0)) (by (with_reducible repeat first|refine blk_drewN ?_ _|refine blk_drew ?_|refine blk_alloc ?_ _); exact BK274.out)) : gb294 ≠ gb274)); have n10_ := Aside0.mk ((by rw [hg]; exact Nat.ne_of_lt (blk_lt (g := gb279) (o := .cells #[.int .i64 t275, .int .i64 t276, .int .i64 t277] 24 (0, 0)) (by (with_reducible repeat first|refine blk_drewN ?_ _|refine blk_drew ?_|refine blk_alloc ?_ _); exact BK279.out)) : gb279 ≠ gb294)); have n11_ := Aside0.mk ((by rw [hg]; exact Nat.ne_of_gt (blk_lt (g := gb279) (o := .cells #[.int .i64 t275, .int .i64 t276, .int .i64 t277] 24 (0, 0)) (by (with_reducible repeat first|refine blk_drewN ?_ _|refine blk_drew ?_|refine blk_alloc ?_ _); exact BK279.out)) : gb294 ≠ gb279)); have n12_ := Aside0.mk ((by rw [hg]; exact Nat.ne_of_lt (blk_lt (g := gb284) (o := .cells #[.int .i64 t280, .int .i64 t281, .int .i64 t282] 24 (0, 0)) (by (with_reducible repeat first|refine blk_drewN ?_ _|refine blk_drew ?_|refine blk_alloc ?_ _); exact BK284.out)) : gb284 ≠ gb294)); have n13_ := Aside0.mk ((by rw [hg]; exact Nat.ne_of_gt (blk_lt (g := gb284) (o := .cells #[.int .i64 t280, .int .i64 t281, .int .i64 t282] 24 (0, 0)) (by (with_reducible repeat first|refine blk_drewN ?_ _|refine blk_drew ?_|refine blk_alloc ?_ _); exact BK284.out)) : gb294 ≠ gb284)); have n14_ := Aside0.mk ((by rw [hg]; exact Nat.ne_of_lt (blk_lt (g := gb289) (o := .cells #[.int .i64 t285, .int .i64 t286, .int .i64 t287] 24 (0, 0)) (by (with_reducible repeat first|refine blk_drewN ?_ _|refine blk_drew ?_|refine blk_alloc ?_ _); exact BK289.out)) : gb289 ≠ gb294)); have n15_ := Aside0.mk ((by rw [hg]; exact Nat.ne_of_gt (blk_lt (g := gb289) (o := .cells #[.int .i64 t285, .int .i64 t286, .int .i64 t287] 24 (0, 0)) (by (with_reducible repeat first|refine blk_drewN ?_ _|refine blk_drew ?_|refine blk_alloc ?_ _); exact BK289.out)) : gb294 ≠ gb289)); clear BK274; clear BK279; clear BK284; clear BK289; clear HB; have BK274 := n0_; have BK279 := n1_; have BK284 := n2_; have BK289 := n3_; have HB := n4_; have BK294 := n5_; have GW294 := n6_; have GE294 := n7_; have NB274_294 := n8_; have NB294_274 := n9_; have NB279_294 := n10_; have NB294_279 := n11_; have NB284_294 := n12_; have NB294_284 := n13_; have NB289_294 := n14_; have NB294_289 := n15_; clear n0_ n1_ n2_ n3_ n4_ n5_ n6_ n7_ n8_ n9_ n10_ n11_ n12_ n13_ n14_ n15_; clear hb hbox hg; have hnb34 := NB294_274.out; have hnc34 := NB274_294.out; have hnb35 := NB294_279.out; have hnc35 := NB279_294.out; have hnb36 := NB294_284.out; have hnc36 := NB284_294.out; have hnb37 := NB294_289.out; have hnc37 := NB289_294.out; have hcz38_0 : w33.cell? ⟨gb294, 0, none⟩ = some (.int .i64 0) := (blk_cell BK294.out 0).trans rfl; have hcz38_1 : w33.cell? ⟨gb294, 1, none⟩ = some (.int .i64 0) := (blk_cell BK294.out 1).trans rfl; have hcz38_2 : w33.cell? ⟨gb294, 2, none⟩ = some (.int .i64 0) := (blk_cell BK294.out 2).trans rfl; have hfz38_0 := blk_frozen BK294.out 0; have hfz38_1 := blk_frozen BK294.out 1; have hfz38_2 := blk_frozen BK294.out 2))
  (try simp only [Act.put, List.setIfInBounds_toArray, List.set_cons_zero, List.set_cons_succ])
  go_cut [90] (fun v90 wc => ∃ (kq : Nat) (x90_9 : Bool), v90 = .bool x90_9 ∧ Aside0 (pylonlaw13_PeriodHolds.j0 kq x90_9 t270 t271 t272 t275 t276 t277 t280 t281 t282 = some r) ∧ Aside0 (kq ≤ k) ∧ Aside0 (wc.heap[gb274]? = some (.cells #[.int .i64 t270, .int .i64 t271, .int .i64 t272] 24 (0, 0))) ∧ Aside0 (wc.heap[gb279]? = some (.cells #[.int .i64 t275, .int .i64 t276, .int .i64 t277] 24 (0, 0))) ∧ Aside0 (wc.heap[gb284]? = some (.cells #[.int .i64 t280, .int .i64 t281, .int .i64 t282] 24 (0, 0))) ∧ Aside0 (wc.heap[gb289]? = some (.cells #[.int .i64 t285, .int .i64 t286, .int .i64 t287] 24 (0, 0))) ∧ Aside0 (wc.heap[gb294]? = some (.cells #[.int .i64 t290, .int .i64 t291, .int .i64 t292] 24 (0, 0))) ∧ Aside0 (Below w.heap.size w wc))
  case first =>
   have H := HC10.out
   clear HC10
   by_cases c39 : t278 = 0
   ·rw [if_pos c39] at H
    have c39b0 : (t278 == 0) = true := beq_iff_eq.mpr c39
    have c39b1 : (t278 != 0) = false := bne_eq_false_iff_eq.mpr c39
    clear c39
    (first | rw [c39b0] | (simp only [i64_w, i32_w]; rw [c39b0]) | skip)
    by_cases c40 : t283 = 0
    ·rw [if_pos c40] at H
     have c40b0 : (t283 == 0) = true := beq_iff_eq.mpr c40
     have c40b1 : (t283 != 0) = false := bne_eq_false_iff_eq.mpr c40
     clear c40
     by_cases c41 : t288 = 0
     ·rw [if_pos c41] at H
      have c41b0 : (t288 == 0) = true := beq_iff_eq.mpr c41
      have c41b1 : (t288 != 0) = false := bne_eq_false_iff_eq.mpr c41
      clear c41
      by_cases c42 : t293 = 0
      ·rw [if_pos c42] at H
       have c42b0 : (t293 == 0) = true := beq_iff_eq.mpr c42
       have c42b1 : (t293 != 0) = false := bne_eq_false_iff_eq.mpr c42
       clear c42
       by_cases c43 : t277 = (wrap64 (1 + (wrap64 (Int.tmod (IntKind.u64.wrap (a1)) 28))))
       ·rw [if_pos c43] at H
        have c43b0 : (t277 == (wrap64 (1 + (wrap64 (Int.tmod (IntKind.u64.wrap (a1)) 28))))) = true := beq_iff_eq.mpr c43
        have c43b1 : (t277 != (wrap64 (1 + (wrap64 (Int.tmod (IntKind.u64.wrap (a1)) 28))))) = false := bne_eq_false_iff_eq.mpr c43
        clear c43
        by_cases c44 : t282 = (wrap64 (1 + (wrap64 (Int.tmod (IntKind.u64.wrap (a1)) 28))))
        ·rw [if_pos c44] at H
         have c44b0 : (t282 == (wrap64 (1 + (wrap64 (Int.tmod (IntKind.u64.wrap (a1)) 28))))) = true := beq_iff_eq.mpr c44
         have c44b1 : (t282 != (wrap64 (1 + (wrap64 (Int.tmod (IntKind.u64.wrap (a1)) 28))))) = false := bne_eq_false_iff_eq.mpr c44
         clear c44
         by_cases c45 : (!(t285 == t280) || (!(t286 == t281) || (!(t287 == t282)))) = true
         ·rw [if_pos c45] at H
          have c45b0 : (!(t285 == t280) || (!(t286 == t281) || (!(t287 == t282)))) = true := c45
          clear c45
          have H' := Aside0.mk H
          clear H
          have hnb46 := NB279_274.out
          have hnc46 := NB274_279.out
          have hnb47 := NB279_284.out
          have hnc47 := NB284_279.out
          have hnb48 := NB279_289.out
          have hnc48 := NB289_279.out
          have hnb49 := NB279_294.out
          have hnc49 := NB294_279.out
          have hcz50_0 : w33.cell? ⟨gb279, 0, none⟩ = some (.int .i64 t275) := (blk_cell BK279.out 0).trans rfl
          have hcz50_1 : w33.cell? ⟨gb279, 1, none⟩ = some (.int .i64 t276) := (blk_cell BK279.out 1).trans rfl
          have hcz50_2 : w33.cell? ⟨gb279, 2, none⟩ = some (.int .i64 t277) := (blk_cell BK279.out 2).trans rfl
          have hfz50_0 := blk_frozen BK279.out 0
          have hfz50_1 := blk_frozen BK279.out 1
          have hfz50_2 := blk_frozen BK279.out 2
          have hnb51 := NB284_274.out
          have hnc51 := NB274_284.out
          have hnb52 := NB284_289.out
          have hnc52 := NB289_284.out
          have hnb53 := NB284_294.out
          have hnc53 := NB294_284.out
          have hcz54_0 : w33.cell? ⟨gb284, 0, none⟩ = some (.int .i64 t280) := (blk_cell BK284.out 0).trans rfl
          have hcz54_1 : w33.cell? ⟨gb284, 1, none⟩ = some (.int .i64 t281) := (blk_cell BK284.out 1).trans rfl
          have hcz54_2 : w33.cell? ⟨gb284, 2, none⟩ = some (.int .i64 t282) := (blk_cell BK284.out 2).trans rfl
          have hfz54_0 := blk_frozen BK284.out 0
          have hfz54_1 := blk_frozen BK284.out 1
          have hfz54_2 := blk_frozen BK284.out 2
          have hnb55 := NB289_274.out
          have hnc55 := NB274_289.out
          have hnb56 := NB289_294.out
          have hnc56 := NB294_289.out
          have hcz57_0 : w33.cell? ⟨gb289, 0, none⟩ = some (.int .i64 t285) := (blk_cell BK289.out 0).trans rfl
          have hcz57_1 : w33.cell? ⟨gb289, 1, none⟩ = some (.int .i64 t286) := (blk_cell BK289.out 1).trans rfl
          have hcz57_2 : w33.cell? ⟨gb289, 2, none⟩ = some (.int .i64 t287) := (blk_cell BK289.out 2).trans rfl
          have hfz57_0 := blk_frozen BK289.out 0
          have hfz57_1 := blk_frozen BK289.out 1
          have hfz57_2 := blk_frozen BK289.out 2
          go_wp2
          go_meet
          case rel => exact ⟨_, (true), (by first | rfl | (simp; done) | (simp [*]; done)), H', ⟨by first | omega | exact Nat.le_refl _⟩, ⟨by (with_reducible repeat first|refine blk_drewN ?_ _|refine blk_drew ?_|refine blk_alloc ?_ _); refine blk_far ?_ NB274_294.out _; (with_reducible repeat first|refine blk_drewN ?_ _|refine blk_drew ?_|refine blk_alloc ?_ _); refine blk_far ?_ NB274_294.out _; (with_reducible repeat first|refine blk_drewN ?_ _|refine blk_drew ?_|refine blk_alloc ?_ _); refine blk_far ?_ NB274_294.out _; (with_reducible repeat first|refine blk_drewN ?_ _|refine blk_drew ?_|refine blk_alloc ?_ _); exact BK274.out⟩, ⟨by (with_reducible repeat first|refine blk_drewN ?_ _|refine blk_drew ?_|refine blk_alloc ?_ _); refine blk_far ?_ NB279_294.out _; (with_reducible repeat first|refine blk_drewN ?_ _|refine blk_drew ?_|refine blk_alloc ?_ _); refine blk_far ?_ NB279_294.out _; (with_reducible repeat first|refine blk_drewN ?_ _|refine blk_drew ?_|refine blk_alloc ?_ _); refine blk_far ?_ NB279_294.out _; (with_reducible repeat first|refine blk_drewN ?_ _|refine blk_drew ?_|refine blk_alloc ?_ _); exact BK279.out⟩, ⟨by (with_reducible repeat first|refine blk_drewN ?_ _|refine blk_drew ?_|refine blk_alloc ?_ _); refine blk_far ?_ NB284_294.out _; (with_reducible repeat first|refine blk_drewN ?_ _|refine blk_drew ?_|refine blk_alloc ?_ _); refine blk_far ?_ NB284_294.out _; (with_reducible repeat first|refine blk_drewN ?_ _|refine blk_drew ?_|refine blk_alloc ?_ _); refine blk_far ?_ NB284_294.out _; (with_reducible repeat first|refine blk_drewN ?_ _|refine blk_drew ?_|refine blk_alloc ?_ _); exact BK284.out⟩, ⟨by (with_reducible repeat first|refine blk_drewN ?_ _|refine blk_drew ?_|refine blk_alloc ?_ _); refine blk_far ?_ NB289_294.out _; (with_reducible repeat first|refine blk_drewN ?_ _|refine blk_drew ?_|refine blk_alloc ?_ _); refine blk_far ?_ NB289_294.out _; (with_reducible repeat first|refine blk_drewN ?_ _|refine blk_drew ?_|refine blk_alloc ?_ _); refine blk_far ?_ NB289_294.out _; (with_reducible repeat first|refine blk_drewN ?_ _|refine blk_drew ?_|refine blk_alloc ?_ _); exact BK289.out⟩, ⟨by (with_reducible repeat first|refine blk_drewN ?_ _|refine blk_drew ?_|refine blk_alloc ?_ _); refine blk_put (cs := #[.int .i64 t290, .int .i64 t291, .int .i64 0]) ?_ 2 _ rfl; (with_reducible repeat first|refine blk_drewN ?_ _|refine blk_drew ?_|refine blk_alloc ?_ _); refine blk_put (cs := #[.int .i64 t290, .int .i64 0, .int .i64 0]) ?_ 1 _ rfl; (with_reducible repeat first|refine blk_drewN ?_ _|refine blk_drew ?_|refine blk_alloc ?_ _); refine blk_put (cs := #[.int .i64 0, .int .i64 0, .int .i64 0]) ?_ 0 _ rfl; (with_reducible repeat first|refine blk_drewN ?_ _|refine blk_drew ?_|refine blk_alloc ?_ _); exact BK294.out⟩, ⟨by repeat (first | (with_reducible first | exact HB.out | apply below_alloc | apply pw_below_drewN | apply below_drew1 | refine below_set ?_ GE274.out | refine below_set ?_ GE279.out | refine below_set ?_ GE284.out | refine below_set ?_ GE289.out | refine below_set ?_ GE294.out) | exact HB.out)⟩⟩
         ·rw [if_neg c45] at H
          have c45b0 : (!(t285 == t280) || (!(t286 == t281) || (!(t287 == t282)))) = false := by simpa using c45
          clear c45
          have H' := Aside0.mk H
          clear H
          have hnb58 := NB279_274.out
          have hnc58 := NB274_279.out
          have hnb59 := NB279_284.out
          have hnc59 := NB284_279.out
          have hnb60 := NB279_289.out
          have hnc60 := NB289_279.out
          have hnb61 := NB279_294.out
          have hnc61 := NB294_279.out
          have hcz62_0 : w33.cell? ⟨gb279, 0, none⟩ = some (.int .i64 t275) := (blk_cell BK279.out 0).trans rfl
          have hcz62_1 : w33.cell? ⟨gb279, 1, none⟩ = some (.int .i64 t276) := (blk_cell BK279.out 1).trans rfl
          have hcz62_2 : w33.cell? ⟨gb279, 2, none⟩ = some (.int .i64 t277) := (blk_cell BK279.out 2).trans rfl
          have hfz62_0 := blk_frozen BK279.out 0
          have hfz62_1 := blk_frozen BK279.out 1
          have hfz62_2 := blk_frozen BK279.out 2
          have hnb63 := NB284_274.out
          have hnc63 := NB274_284.out
          have hnb64 := NB284_289.out
          have hnc64 := NB289_284.out
          have hnb65 := NB284_294.out
          have hnc65 := NB294_284.out
          have hcz66_0 : w33.cell? ⟨gb284, 0, none⟩ = some (.int .i64 t280) := (blk_cell BK284.out 0).trans rfl
          have hcz66_1 : w33.cell? ⟨gb284, 1, none⟩ = some (.int .i64 t281) := (blk_cell BK284.out 1).trans rfl
          have hcz66_2 : w33.cell? ⟨gb284, 2, none⟩ = some (.int .i64 t282) := (blk_cell BK284.out 2).trans rfl
          have hfz66_0 := blk_frozen BK284.out 0
          have hfz66_1 := blk_frozen BK284.out 1
          have hfz66_2 := blk_frozen BK284.out 2
          have hnb67 := NB289_274.out
          have hnc67 := NB274_289.out
          have hnb68 := NB289_294.out
          have hnc68 := NB294_289.out
          have hcz69_0 : w33.cell? ⟨gb289, 0, none⟩ = some (.int .i64 t285) := (blk_cell BK289.out 0).trans rfl
          have hcz69_1 : w33.cell? ⟨gb289, 1, none⟩ = some (.int .i64 t286) := (blk_cell BK289.out 1).trans rfl
          have hcz69_2 : w33.cell? ⟨gb289, 2, none⟩ = some (.int .i64 t287) := (blk_cell BK289.out 2).trans rfl
          have hfz69_0 := blk_frozen BK289.out 0
          have hfz69_1 := blk_frozen BK289.out 1
          have hfz69_2 := blk_frozen BK289.out 2
          have hnb70 := NB294_274.out
          have hnc70 := NB274_294.out
          have hcz71_0 : w33.cell? ⟨gb294, 0, none⟩ = some (.int .i64 0) := (blk_cell BK294.out 0).trans rfl
          have hcz71_1 : w33.cell? ⟨gb294, 1, none⟩ = some (.int .i64 0) := (blk_cell BK294.out 1).trans rfl
          have hcz71_2 : w33.cell? ⟨gb294, 2, none⟩ = some (.int .i64 0) := (blk_cell BK294.out 2).trans rfl
          have hfz71_0 := blk_frozen BK294.out 0
          have hfz71_1 := blk_frozen BK294.out 1
          have hfz71_2 := blk_frozen BK294.out 2
          go_wp2
          go_meet
          case rel => exact ⟨_, ((!(t290 == t280) || (!(t291 == t281) || (!(t292 == t282))))), (by first | rfl | (simp; done) | (simp [*]; done)), H', ⟨by first | omega | exact Nat.le_refl _⟩, ⟨by (with_reducible repeat first|refine blk_drewN ?_ _|refine blk_drew ?_|refine blk_alloc ?_ _); refine blk_far ?_ NB274_294.out _; (with_reducible repeat first|refine blk_drewN ?_ _|refine blk_drew ?_|refine blk_alloc ?_ _); refine blk_far ?_ NB274_294.out _; (with_reducible repeat first|refine blk_drewN ?_ _|refine blk_drew ?_|refine blk_alloc ?_ _); refine blk_far ?_ NB274_294.out _; (with_reducible repeat first|refine blk_drewN ?_ _|refine blk_drew ?_|refine blk_alloc ?_ _); exact BK274.out⟩, ⟨by (with_reducible repeat first|refine blk_drewN ?_ _|refine blk_drew ?_|refine blk_alloc ?_ _); refine blk_far ?_ NB279_294.out _; (with_reducible repeat first|refine blk_drewN ?_ _|refine blk_drew ?_|refine blk_alloc ?_ _); refine blk_far ?_ NB279_294.out _; (with_reducible repeat first|refine blk_drewN ?_ _|refine blk_drew ?_|refine blk_alloc ?_ _); refine blk_far ?_ NB279_294.out _; (with_reducible repeat first|refine blk_drewN ?_ _|refine blk_drew ?_|refine blk_alloc ?_ _); exact BK279.out⟩, ⟨by (with_reducible repeat first|refine blk_drewN ?_ _|refine blk_drew ?_|refine blk_alloc ?_ _); refine blk_far ?_ NB284_294.out _; (with_reducible repeat first|refine blk_drewN ?_ _|refine blk_drew ?_|refine blk_alloc ?_ _); refine blk_far ?_ NB284_294.out _; (with_reducible repeat first|refine blk_drewN ?_ _|refine blk_drew ?_|refine blk_alloc ?_ _); refine blk_far ?_ NB284_294.out _; (with_reducible repeat first|refine blk_drewN ?_ _|refine blk_drew ?_|refine blk_alloc ?_ _); exact BK284.out⟩, ⟨by (with_reducible repeat first|refine blk_drewN ?_ _|refine blk_drew ?_|refine blk_alloc ?_ _); refine blk_far ?_ NB289_294.out _; (with_reducible repeat first|refine blk_drewN ?_ _|refine blk_drew ?_|refine blk_alloc ?_ _); refine blk_far ?_ NB289_294.out _; (with_reducible repeat first|refine blk_drewN ?_ _|refine blk_drew ?_|refine blk_alloc ?_ _); refine blk_far ?_ NB289_294.out _; (with_reducible repeat first|refine blk_drewN ?_ _|refine blk_drew ?_|refine blk_alloc ?_ _); exact BK289.out⟩, ⟨by (with_reducible repeat first|refine blk_drewN ?_ _|refine blk_drew ?_|refine blk_alloc ?_ _); refine blk_put (cs := #[.int .i64 t290, .int .i64 t291, .int .i64 0]) ?_ 2 _ rfl; (with_reducible repeat first|refine blk_drewN ?_ _|refine blk_drew ?_|refine blk_alloc ?_ _); refine blk_put (cs := #[.int .i64 t290, .int .i64 0, .int .i64 0]) ?_ 1 _ rfl; (with_reducible repeat first|refine blk_drewN ?_ _|refine blk_drew ?_|refine blk_alloc ?_ _); refine blk_put (cs := #[.int .i64 0, .int .i64 0, .int .i64 0]) ?_ 0 _ rfl; (with_reducible repeat first|refine blk_drewN ?_ _|refine blk_drew ?_|refine blk_alloc ?_ _); exact BK294.out⟩, ⟨by repeat (first | (with_reducible first | exact HB.out | apply below_alloc | apply pw_below_drewN | apply below_drew1 | refine below_set ?_ GE274.out | refine below_set ?_ GE279.out | refine below_set ?_ GE284.out | refine below_set ?_ GE289.out | refine below_set ?_ GE294.out) | exact HB.out)⟩⟩
        ·rw [if_neg c44] at H
         have c44b0 : (t282 == (wrap64 (1 + (wrap64 (Int.tmod (IntKind.u64.wrap (a1)) 28))))) = false := beq_eq_false_iff_ne.mpr c44
         have c44b1 : (t282 != (wrap64 (1 + (wrap64 (Int.tmod (IntKind.u64.wrap (a1)) 28))))) = true := bne_iff_ne.mpr c44
         have H' := Aside0.mk H
         clear H
         have hnb72 := NB279_274.out
         have hnc72 := NB274_279.out
         have hnb73 := NB279_284.out
         have hnc73 := NB284_279.out
         have hnb74 := NB279_289.out
         have hnc74 := NB289_279.out
         have hnb75 := NB279_294.out
         have hnc75 := NB294_279.out
         have hcz76_0 : w33.cell? ⟨gb279, 0, none⟩ = some (.int .i64 t275) := (blk_cell BK279.out 0).trans rfl
         have hcz76_1 : w33.cell? ⟨gb279, 1, none⟩ = some (.int .i64 t276) := (blk_cell BK279.out 1).trans rfl
         have hcz76_2 : w33.cell? ⟨gb279, 2, none⟩ = some (.int .i64 t277) := (blk_cell BK279.out 2).trans rfl
         have hfz76_0 := blk_frozen BK279.out 0
         have hfz76_1 := blk_frozen BK279.out 1
         have hfz76_2 := blk_frozen BK279.out 2
         have hnb77 := NB284_274.out
         have hnc77 := NB274_284.out
         have hnb78 := NB284_289.out
         have hnc78 := NB289_284.out
         have hnb79 := NB284_294.out
         have hnc79 := NB294_284.out
         have hcz80_0 : w33.cell? ⟨gb284, 0, none⟩ = some (.int .i64 t280) := (blk_cell BK284.out 0).trans rfl
         have hcz80_1 : w33.cell? ⟨gb284, 1, none⟩ = some (.int .i64 t281) := (blk_cell BK284.out 1).trans rfl
         have hcz80_2 : w33.cell? ⟨gb284, 2, none⟩ = some (.int .i64 t282) := (blk_cell BK284.out 2).trans rfl
         have hfz80_0 := blk_frozen BK284.out 0
         have hfz80_1 := blk_frozen BK284.out 1
         have hfz80_2 := blk_frozen BK284.out 2
         go_wp2
         go_meet
         case rel => exact ⟨_, (true), (by first | rfl | (simp; done) | (simp [*]; done)), H', ⟨by first | omega | exact Nat.le_refl _⟩, ⟨by (with_reducible repeat first|refine blk_drewN ?_ _|refine blk_drew ?_|refine blk_alloc ?_ _); refine blk_far ?_ NB274_294.out _; (with_reducible repeat first|refine blk_drewN ?_ _|refine blk_drew ?_|refine blk_alloc ?_ _); refine blk_far ?_ NB274_294.out _; (with_reducible repeat first|refine blk_drewN ?_ _|refine blk_drew ?_|refine blk_alloc ?_ _); refine blk_far ?_ NB274_294.out _; (with_reducible repeat first|refine blk_drewN ?_ _|refine blk_drew ?_|refine blk_alloc ?_ _); exact BK274.out⟩, ⟨by (with_reducible repeat first|refine blk_drewN ?_ _|refine blk_drew ?_|refine blk_alloc ?_ _); refine blk_far ?_ NB279_294.out _; (with_reducible repeat first|refine blk_drewN ?_ _|refine blk_drew ?_|refine blk_alloc ?_ _); refine blk_far ?_ NB279_294.out _; (with_reducible repeat first|refine blk_drewN ?_ _|refine blk_drew ?_|refine blk_alloc ?_ _); refine blk_far ?_ NB279_294.out _; (with_reducible repeat first|refine blk_drewN ?_ _|refine blk_drew ?_|refine blk_alloc ?_ _); exact BK279.out⟩, ⟨by (with_reducible repeat first|refine blk_drewN ?_ _|refine blk_drew ?_|refine blk_alloc ?_ _); refine blk_far ?_ NB284_294.out _; (with_reducible repeat first|refine blk_drewN ?_ _|refine blk_drew ?_|refine blk_alloc ?_ _); refine blk_far ?_ NB284_294.out _; (with_reducible repeat first|refine blk_drewN ?_ _|refine blk_drew ?_|refine blk_alloc ?_ _); refine blk_far ?_ NB284_294.out _; (with_reducible repeat first|refine blk_drewN ?_ _|refine blk_drew ?_|refine blk_alloc ?_ _); exact BK284.out⟩, ⟨by (with_reducible repeat first|refine blk_drewN ?_ _|refine blk_drew ?_|refine blk_alloc ?_ _); refine blk_far ?_ NB289_294.out _; (with_reducible repeat first|refine blk_drewN ?_ _|refine blk_drew ?_|refine blk_alloc ?_ _); refine blk_far ?_ NB289_294.out _; (with_reducible repeat first|refine blk_drewN ?_ _|refine blk_drew ?_|refine blk_alloc ?_ _); refine blk_far ?_ NB289_294.out _; (with_reducible repeat first|refine blk_drewN ?_ _|refine blk_drew ?_|refine blk_alloc ?_ _); exact BK289.out⟩, ⟨by (with_reducible repeat first|refine blk_drewN ?_ _|refine blk_drew ?_|refine blk_alloc ?_ _); refine blk_put (cs := #[.int .i64 t290, .int .i64 t291, .int .i64 0]) ?_ 2 _ rfl; (with_reducible repeat first|refine blk_drewN ?_ _|refine blk_drew ?_|refine blk_alloc ?_ _); refine blk_put (cs := #[.int .i64 t290, .int .i64 0, .int .i64 0]) ?_ 1 _ rfl; (with_reducible repeat first|refine blk_drewN ?_ _|refine blk_drew ?_|refine blk_alloc ?_ _); refine blk_put (cs := #[.int .i64 0, .int .i64 0, .int .i64 0]) ?_ 0 _ rfl; (with_reducible repeat first|refine blk_drewN ?_ _|refine blk_drew ?_|refine blk_alloc ?_ _); exact BK294.out⟩, ⟨by repeat (first | (with_reducible first | exact HB.out | apply below_alloc | apply pw_below_drewN | apply below_drew1 | refine below_set ?_ GE274.out | refine below_set ?_ GE279.out | refine below_set ?_ GE284.out | refine below_set ?_ GE289.out | refine below_set ?_ GE294.out) | exact HB.out)⟩⟩
       ·rw [if_neg c43] at H
        have c43b0 : (t277 == (wrap64 (1 + (wrap64 (Int.tmod (IntKind.u64.wrap (a1)) 28))))) = false := beq_eq_false_iff_ne.mpr c43
        have c43b1 : (t277 != (wrap64 (1 + (wrap64 (Int.tmod (IntKind.u64.wrap (a1)) 28))))) = true := bne_iff_ne.mpr c43
        have H' := Aside0.mk H
        clear H
        have hnb81 := NB279_274.out
        have hnc81 := NB274_279.out
        have hnb82 := NB279_284.out
        have hnc82 := NB284_279.out
        have hnb83 := NB279_289.out
        have hnc83 := NB289_279.out
        have hnb84 := NB279_294.out
        have hnc84 := NB294_279.out
        have hcz85_0 : w33.cell? ⟨gb279, 0, none⟩ = some (.int .i64 t275) := (blk_cell BK279.out 0).trans rfl
        have hcz85_1 : w33.cell? ⟨gb279, 1, none⟩ = some (.int .i64 t276) := (blk_cell BK279.out 1).trans rfl
        have hcz85_2 : w33.cell? ⟨gb279, 2, none⟩ = some (.int .i64 t277) := (blk_cell BK279.out 2).trans rfl
        have hfz85_0 := blk_frozen BK279.out 0
        have hfz85_1 := blk_frozen BK279.out 1
        have hfz85_2 := blk_frozen BK279.out 2
        go_wp2
        go_meet
        case rel => exact ⟨_, (true), (by first | rfl | (simp; done) | (simp [*]; done)), H', ⟨by first | omega | exact Nat.le_refl _⟩, ⟨by (with_reducible repeat first|refine blk_drewN ?_ _|refine blk_drew ?_|refine blk_alloc ?_ _); refine blk_far ?_ NB274_294.out _; (with_reducible repeat first|refine blk_drewN ?_ _|refine blk_drew ?_|refine blk_alloc ?_ _); refine blk_far ?_ NB274_294.out _; (with_reducible repeat first|refine blk_drewN ?_ _|refine blk_drew ?_|refine blk_alloc ?_ _); refine blk_far ?_ NB274_294.out _; (with_reducible repeat first|refine blk_drewN ?_ _|refine blk_drew ?_|refine blk_alloc ?_ _); exact BK274.out⟩, ⟨by (with_reducible repeat first|refine blk_drewN ?_ _|refine blk_drew ?_|refine blk_alloc ?_ _); refine blk_far ?_ NB279_294.out _; (with_reducible repeat first|refine blk_drewN ?_ _|refine blk_drew ?_|refine blk_alloc ?_ _); refine blk_far ?_ NB279_294.out _; (with_reducible repeat first|refine blk_drewN ?_ _|refine blk_drew ?_|refine blk_alloc ?_ _); refine blk_far ?_ NB279_294.out _; (with_reducible repeat first|refine blk_drewN ?_ _|refine blk_drew ?_|refine blk_alloc ?_ _); exact BK279.out⟩, ⟨by (with_reducible repeat first|refine blk_drewN ?_ _|refine blk_drew ?_|refine blk_alloc ?_ _); refine blk_far ?_ NB284_294.out _; (with_reducible repeat first|refine blk_drewN ?_ _|refine blk_drew ?_|refine blk_alloc ?_ _); refine blk_far ?_ NB284_294.out _; (with_reducible repeat first|refine blk_drewN ?_ _|refine blk_drew ?_|refine blk_alloc ?_ _); refine blk_far ?_ NB284_294.out _; (with_reducible repeat first|refine blk_drewN ?_ _|refine blk_drew ?_|refine blk_alloc ?_ _); exact BK284.out⟩, ⟨by (with_reducible repeat first|refine blk_drewN ?_ _|refine blk_drew ?_|refine blk_alloc ?_ _); refine blk_far ?_ NB289_294.out _; (with_reducible repeat first|refine blk_drewN ?_ _|refine blk_drew ?_|refine blk_alloc ?_ _); refine blk_far ?_ NB289_294.out _; (with_reducible repeat first|refine blk_drewN ?_ _|refine blk_drew ?_|refine blk_alloc ?_ _); refine blk_far ?_ NB289_294.out _; (with_reducible repeat first|refine blk_drewN ?_ _|refine blk_drew ?_|refine blk_alloc ?_ _); exact BK289.out⟩, ⟨by (with_reducible repeat first|refine blk_drewN ?_ _|refine blk_drew ?_|refine blk_alloc ?_ _); refine blk_put (cs := #[.int .i64 t290, .int .i64 t291, .int .i64 0]) ?_ 2 _ rfl; (with_reducible repeat first|refine blk_drewN ?_ _|refine blk_drew ?_|refine blk_alloc ?_ _); refine blk_put (cs := #[.int .i64 t290, .int .i64 0, .int .i64 0]) ?_ 1 _ rfl; (with_reducible repeat first|refine blk_drewN ?_ _|refine blk_drew ?_|refine blk_alloc ?_ _); refine blk_put (cs := #[.int .i64 0, .int .i64 0, .int .i64 0]) ?_ 0 _ rfl; (with_reducible repeat first|refine blk_drewN ?_ _|refine blk_drew ?_|refine blk_alloc ?_ _); exact BK294.out⟩, ⟨by repeat (first | (with_reducible first | exact HB.out | apply below_alloc | apply pw_below_drewN | apply below_drew1 | refine below_set ?_ GE274.out | refine below_set ?_ GE279.out | refine below_set ?_ GE284.out | refine below_set ?_ GE289.out | refine below_set ?_ GE294.out) | exact HB.out)⟩⟩
      ·rw [if_neg c42] at H
       have c42b0 : (t293 == 0) = false := beq_eq_false_iff_ne.mpr c42
       have c42b1 : (t293 != 0) = true := bne_iff_ne.mpr c42
       have H' := Aside0.mk H
       clear H
       go_wp2
       go_meet
       case rel => exact ⟨_, (true), (by first | rfl | (simp; done) | (simp [*]; done)), H', ⟨by first | omega | exact Nat.le_refl _⟩, ⟨by (with_reducible repeat first|refine blk_drewN ?_ _|refine blk_drew ?_|refine blk_alloc ?_ _); refine blk_far ?_ NB274_294.out _; (with_reducible repeat first|refine blk_drewN ?_ _|refine blk_drew ?_|refine blk_alloc ?_ _); refine blk_far ?_ NB274_294.out _; (with_reducible repeat first|refine blk_drewN ?_ _|refine blk_drew ?_|refine blk_alloc ?_ _); refine blk_far ?_ NB274_294.out _; (with_reducible repeat first|refine blk_drewN ?_ _|refine blk_drew ?_|refine blk_alloc ?_ _); exact BK274.out⟩, ⟨by (with_reducible repeat first|refine blk_drewN ?_ _|refine blk_drew ?_|refine blk_alloc ?_ _); refine blk_far ?_ NB279_294.out _; (with_reducible repeat first|refine blk_drewN ?_ _|refine blk_drew ?_|refine blk_alloc ?_ _); refine blk_far ?_ NB279_294.out _; (with_reducible repeat first|refine blk_drewN ?_ _|refine blk_drew ?_|refine blk_alloc ?_ _); refine blk_far ?_ NB279_294.out _; (with_reducible repeat first|refine blk_drewN ?_ _|refine blk_drew ?_|refine blk_alloc ?_ _); exact BK279.out⟩, ⟨by (with_reducible repeat first|refine blk_drewN ?_ _|refine blk_drew ?_|refine blk_alloc ?_ _); refine blk_far ?_ NB284_294.out _; (with_reducible repeat first|refine blk_drewN ?_ _|refine blk_drew ?_|refine blk_alloc ?_ _); refine blk_far ?_ NB284_294.out _; (with_reducible repeat first|refine blk_drewN ?_ _|refine blk_drew ?_|refine blk_alloc ?_ _); refine blk_far ?_ NB284_294.out _; (with_reducible repeat first|refine blk_drewN ?_ _|refine blk_drew ?_|refine blk_alloc ?_ _); exact BK284.out⟩, ⟨by (with_reducible repeat first|refine blk_drewN ?_ _|refine blk_drew ?_|refine blk_alloc ?_ _); refine blk_far ?_ NB289_294.out _; (with_reducible repeat first|refine blk_drewN ?_ _|refine blk_drew ?_|refine blk_alloc ?_ _); refine blk_far ?_ NB289_294.out _; (with_reducible repeat first|refine blk_drewN ?_ _|refine blk_drew ?_|refine blk_alloc ?_ _); refine blk_far ?_ NB289_294.out _; (with_reducible repeat first|refine blk_drewN ?_ _|refine blk_drew ?_|refine blk_alloc ?_ _); exact BK289.out⟩, ⟨by (with_reducible repeat first|refine blk_drewN ?_ _|refine blk_drew ?_|refine blk_alloc ?_ _); refine blk_put (cs := #[.int .i64 t290, .int .i64 t291, .int .i64 0]) ?_ 2 _ rfl; (with_reducible repeat first|refine blk_drewN ?_ _|refine blk_drew ?_|refine blk_alloc ?_ _); refine blk_put (cs := #[.int .i64 t290, .int .i64 0, .int .i64 0]) ?_ 1 _ rfl; (with_reducible repeat first|refine blk_drewN ?_ _|refine blk_drew ?_|refine blk_alloc ?_ _); refine blk_put (cs := #[.int .i64 0, .int .i64 0, .int .i64 0]) ?_ 0 _ rfl; (with_reducible repeat first|refine blk_drewN ?_ _|refine blk_drew ?_|refine blk_alloc ?_ _); exact BK294.out⟩, ⟨by repeat (first | (with_reducible first | exact HB.out | apply below_alloc | apply pw_below_drewN | apply below_drew1 | refine below_set ?_ GE274.out | refine below_set ?_ GE279.out | refine below_set ?_ GE284.out | refine below_set ?_ GE289.out | refine below_set ?_ GE294.out) | exact HB.out)⟩⟩
     ·rw [if_neg c41] at H
      have c41b0 : (t288 == 0) = false := beq_eq_false_iff_ne.mpr c41
      have c41b1 : (t288 != 0) = true := bne_iff_ne.mpr c41
      have H' := Aside0.mk H
      clear H
      go_wp2
      go_meet
      case rel => exact ⟨_, (true), (by first | rfl | (simp; done) | (simp [*]; done)), H', ⟨by first | omega | exact Nat.le_refl _⟩, ⟨by (with_reducible repeat first|refine blk_drewN ?_ _|refine blk_drew ?_|refine blk_alloc ?_ _); refine blk_far ?_ NB274_294.out _; (with_reducible repeat first|refine blk_drewN ?_ _|refine blk_drew ?_|refine blk_alloc ?_ _); refine blk_far ?_ NB274_294.out _; (with_reducible repeat first|refine blk_drewN ?_ _|refine blk_drew ?_|refine blk_alloc ?_ _); refine blk_far ?_ NB274_294.out _; (with_reducible repeat first|refine blk_drewN ?_ _|refine blk_drew ?_|refine blk_alloc ?_ _); exact BK274.out⟩, ⟨by (with_reducible repeat first|refine blk_drewN ?_ _|refine blk_drew ?_|refine blk_alloc ?_ _); refine blk_far ?_ NB279_294.out _; (with_reducible repeat first|refine blk_drewN ?_ _|refine blk_drew ?_|refine blk_alloc ?_ _); refine blk_far ?_ NB279_294.out _; (with_reducible repeat first|refine blk_drewN ?_ _|refine blk_drew ?_|refine blk_alloc ?_ _); refine blk_far ?_ NB279_294.out _; (with_reducible repeat first|refine blk_drewN ?_ _|refine blk_drew ?_|refine blk_alloc ?_ _); exact BK279.out⟩, ⟨by (with_reducible repeat first|refine blk_drewN ?_ _|refine blk_drew ?_|refine blk_alloc ?_ _); refine blk_far ?_ NB284_294.out _; (with_reducible repeat first|refine blk_drewN ?_ _|refine blk_drew ?_|refine blk_alloc ?_ _); refine blk_far ?_ NB284_294.out _; (with_reducible repeat first|refine blk_drewN ?_ _|refine blk_drew ?_|refine blk_alloc ?_ _); refine blk_far ?_ NB284_294.out _; (with_reducible repeat first|refine blk_drewN ?_ _|refine blk_drew ?_|refine blk_alloc ?_ _); exact BK284.out⟩, ⟨by (with_reducible repeat first|refine blk_drewN ?_ _|refine blk_drew ?_|refine blk_alloc ?_ _); refine blk_far ?_ NB289_294.out _; (with_reducible repeat first|refine blk_drewN ?_ _|refine blk_drew ?_|refine blk_alloc ?_ _); refine blk_far ?_ NB289_294.out _; (with_reducible repeat first|refine blk_drewN ?_ _|refine blk_drew ?_|refine blk_alloc ?_ _); refine blk_far ?_ NB289_294.out _; (with_reducible repeat first|refine blk_drewN ?_ _|refine blk_drew ?_|refine blk_alloc ?_ _); exact BK289.out⟩, ⟨by (with_reducible repeat first|refine blk_drewN ?_ _|refine blk_drew ?_|refine blk_alloc ?_ _); refine blk_put (cs := #[.int .i64 t290, .int .i64 t291, .int .i64 0]) ?_ 2 _ rfl; (with_reducible repeat first|refine blk_drewN ?_ _|refine blk_drew ?_|refine blk_alloc ?_ _); refine blk_put (cs := #[.int .i64 t290, .int .i64 0, .int .i64 0]) ?_ 1 _ rfl; (with_reducible repeat first|refine blk_drewN ?_ _|refine blk_drew ?_|refine blk_alloc ?_ _); refine blk_put (cs := #[.int .i64 0, .int .i64 0, .int .i64 0]) ?_ 0 _ rfl; (with_reducible repeat first|refine blk_drewN ?_ _|refine blk_drew ?_|refine blk_alloc ?_ _); exact BK294.out⟩, ⟨by repeat (first | (with_reducible first | exact HB.out | apply below_alloc | apply pw_below_drewN | apply below_drew1 | refine below_set ?_ GE274.out | refine below_set ?_ GE279.out | refine below_set ?_ GE284.out | refine below_set ?_ GE289.out | refine below_set ?_ GE294.out) | exact HB.out)⟩⟩
    ·rw [if_neg c40] at H
     have c40b0 : (t283 == 0) = false := beq_eq_false_iff_ne.mpr c40
     have c40b1 : (t283 != 0) = true := bne_iff_ne.mpr c40
     have H' := Aside0.mk H
     clear H
     go_wp2
     go_meet
     case rel => exact ⟨_, (true), (by first | rfl | (simp; done) | (simp [*]; done)), H', ⟨by first | omega | exact Nat.le_refl _⟩, ⟨by (with_reducible repeat first|refine blk_drewN ?_ _|refine blk_drew ?_|refine blk_alloc ?_ _); refine blk_far ?_ NB274_294.out _; (with_reducible repeat first|refine blk_drewN ?_ _|refine blk_drew ?_|refine blk_alloc ?_ _); refine blk_far ?_ NB274_294.out _; (with_reducible repeat first|refine blk_drewN ?_ _|refine blk_drew ?_|refine blk_alloc ?_ _); refine blk_far ?_ NB274_294.out _; (with_reducible repeat first|refine blk_drewN ?_ _|refine blk_drew ?_|refine blk_alloc ?_ _); exact BK274.out⟩, ⟨by (with_reducible repeat first|refine blk_drewN ?_ _|refine blk_drew ?_|refine blk_alloc ?_ _); refine blk_far ?_ NB279_294.out _; (with_reducible repeat first|refine blk_drewN ?_ _|refine blk_drew ?_|refine blk_alloc ?_ _); refine blk_far ?_ NB279_294.out _; (with_reducible repeat first|refine blk_drewN ?_ _|refine blk_drew ?_|refine blk_alloc ?_ _); refine blk_far ?_ NB279_294.out _; (with_reducible repeat first|refine blk_drewN ?_ _|refine blk_drew ?_|refine blk_alloc ?_ _); exact BK279.out⟩, ⟨by (with_reducible repeat first|refine blk_drewN ?_ _|refine blk_drew ?_|refine blk_alloc ?_ _); refine blk_far ?_ NB284_294.out _; (with_reducible repeat first|refine blk_drewN ?_ _|refine blk_drew ?_|refine blk_alloc ?_ _); refine blk_far ?_ NB284_294.out _; (with_reducible repeat first|refine blk_drewN ?_ _|refine blk_drew ?_|refine blk_alloc ?_ _); refine blk_far ?_ NB284_294.out _; (with_reducible repeat first|refine blk_drewN ?_ _|refine blk_drew ?_|refine blk_alloc ?_ _); exact BK284.out⟩, ⟨by (with_reducible repeat first|refine blk_drewN ?_ _|refine blk_drew ?_|refine blk_alloc ?_ _); refine blk_far ?_ NB289_294.out _; (with_reducible repeat first|refine blk_drewN ?_ _|refine blk_drew ?_|refine blk_alloc ?_ _); refine blk_far ?_ NB289_294.out _; (with_reducible repeat first|refine blk_drewN ?_ _|refine blk_drew ?_|refine blk_alloc ?_ _); refine blk_far ?_ NB289_294.out _; (with_reducible repeat first|refine blk_drewN ?_ _|refine blk_drew ?_|refine blk_alloc ?_ _); exact BK289.out⟩, ⟨by (with_reducible repeat first|refine blk_drewN ?_ _|refine blk_drew ?_|refine blk_alloc ?_ _); refine blk_put (cs := #[.int .i64 t290, .int .i64 t291, .int .i64 0]) ?_ 2 _ rfl; (with_reducible repeat first|refine blk_drewN ?_ _|refine blk_drew ?_|refine blk_alloc ?_ _); refine blk_put (cs := #[.int .i64 t290, .int .i64 0, .int .i64 0]) ?_ 1 _ rfl; (with_reducible repeat first|refine blk_drewN ?_ _|refine blk_drew ?_|refine blk_alloc ?_ _); refine blk_put (cs := #[.int .i64 0, .int .i64 0, .int .i64 0]) ?_ 0 _ rfl; (with_reducible repeat first|refine blk_drewN ?_ _|refine blk_drew ?_|refine blk_alloc ?_ _); exact BK294.out⟩, ⟨by repeat (first | (with_reducible first | exact HB.out | apply below_alloc | apply pw_below_drewN | apply below_drew1 | refine below_set ?_ GE274.out | refine below_set ?_ GE279.out | refine below_set ?_ GE284.out | refine below_set ?_ GE289.out | refine below_set ?_ GE294.out) | exact HB.out)⟩⟩
   ·rw [if_neg c39] at H
    have c39b0 : (t278 == 0) = false := beq_eq_false_iff_ne.mpr c39
    have c39b1 : (t278 != 0) = true := bne_iff_ne.mpr c39
    (first | rw [c39b0] | (simp only [i64_w, i32_w]; rw [c39b0]) | skip)
    have H' := Aside0.mk H
    clear H
    go_wp2
    go_meet
    case rel => exact ⟨_, (true), (by first | rfl | (simp; done) | (simp [*]; done)), H', ⟨by first | omega | exact Nat.le_refl _⟩, ⟨by (with_reducible repeat first|refine blk_drewN ?_ _|refine blk_drew ?_|refine blk_alloc ?_ _); refine blk_far ?_ NB274_294.out _; (with_reducible repeat first|refine blk_drewN ?_ _|refine blk_drew ?_|refine blk_alloc ?_ _); refine blk_far ?_ NB274_294.out _; (with_reducible repeat first|refine blk_drewN ?_ _|refine blk_drew ?_|refine blk_alloc ?_ _); refine blk_far ?_ NB274_294.out _; (with_reducible repeat first|refine blk_drewN ?_ _|refine blk_drew ?_|refine blk_alloc ?_ _); exact BK274.out⟩, ⟨by (with_reducible repeat first|refine blk_drewN ?_ _|refine blk_drew ?_|refine blk_alloc ?_ _); refine blk_far ?_ NB279_294.out _; (with_reducible repeat first|refine blk_drewN ?_ _|refine blk_drew ?_|refine blk_alloc ?_ _); refine blk_far ?_ NB279_294.out _; (with_reducible repeat first|refine blk_drewN ?_ _|refine blk_drew ?_|refine blk_alloc ?_ _); refine blk_far ?_ NB279_294.out _; (with_reducible repeat first|refine blk_drewN ?_ _|refine blk_drew ?_|refine blk_alloc ?_ _); exact BK279.out⟩, ⟨by (with_reducible repeat first|refine blk_drewN ?_ _|refine blk_drew ?_|refine blk_alloc ?_ _); refine blk_far ?_ NB284_294.out _; (with_reducible repeat first|refine blk_drewN ?_ _|refine blk_drew ?_|refine blk_alloc ?_ _); refine blk_far ?_ NB284_294.out _; (with_reducible repeat first|refine blk_drewN ?_ _|refine blk_drew ?_|refine blk_alloc ?_ _); refine blk_far ?_ NB284_294.out _; (with_reducible repeat first|refine blk_drewN ?_ _|refine blk_drew ?_|refine blk_alloc ?_ _); exact BK284.out⟩, ⟨by (with_reducible repeat first|refine blk_drewN ?_ _|refine blk_drew ?_|refine blk_alloc ?_ _); refine blk_far ?_ NB289_294.out _; (with_reducible repeat first|refine blk_drewN ?_ _|refine blk_drew ?_|refine blk_alloc ?_ _); refine blk_far ?_ NB289_294.out _; (with_reducible repeat first|refine blk_drewN ?_ _|refine blk_drew ?_|refine blk_alloc ?_ _); refine blk_far ?_ NB289_294.out _; (with_reducible repeat first|refine blk_drewN ?_ _|refine blk_drew ?_|refine blk_alloc ?_ _); exact BK289.out⟩, ⟨by (with_reducible repeat first|refine blk_drewN ?_ _|refine blk_drew ?_|refine blk_alloc ?_ _); refine blk_put (cs := #[.int .i64 t290, .int .i64 t291, .int .i64 0]) ?_ 2 _ rfl; (with_reducible repeat first|refine blk_drewN ?_ _|refine blk_drew ?_|refine blk_alloc ?_ _); refine blk_put (cs := #[.int .i64 t290, .int .i64 0, .int .i64 0]) ?_ 1 _ rfl; (with_reducible repeat first|refine blk_drewN ?_ _|refine blk_drew ?_|refine blk_alloc ?_ _); refine blk_put (cs := #[.int .i64 0, .int .i64 0, .int .i64 0]) ?_ 0 _ rfl; (with_reducible repeat first|refine blk_drewN ?_ _|refine blk_drew ?_|refine blk_alloc ?_ _); exact BK294.out⟩, ⟨by repeat (first | (with_reducible first | exact HB.out | apply below_alloc | apply pw_below_drewN | apply below_drew1 | refine below_set ?_ GE274.out | refine below_set ?_ GE279.out | refine below_set ?_ GE284.out | refine below_set ?_ GE289.out | refine below_set ?_ GE294.out) | exact HB.out)⟩⟩
  case rest =>
   clear HC10
   try clear c1
   try clear c2
   try clear p2
   try clear c3
   try clear c4
   try clear c5
   try clear c6
   try clear p6
   try clear c7
   try clear c8
   try clear c9
   try clear c17
   try clear c22
   try clear c23
   try clear c27
   try clear c28
   try clear c29
   try clear c30
   try clear c31
   try clear c32
   try clear c34
   try clear c35
   try clear c36
   try clear c37
   try clear c39
   try clear c39b0
   try clear c39b1
   try clear c40
   try clear c40b0
   try clear c40b1
   try clear c41
   try clear c41b0
   try clear c41b1
   try clear c42
   try clear c42b0
   try clear c42b1
   try clear c43
   try clear c43b0
   try clear c43b1
   try clear c44
   try clear c44b0
   try clear c44b1
   try clear c45
   try clear c45b0
   try clear c46
   try clear c47
   try clear c48
   try clear c49
   try clear c51
   try clear c52
   try clear c53
   try clear c55
   try clear c56
   try clear c58
   try clear c59
   try clear c60
   try clear c61
   try clear c63
   try clear c64
   try clear p64
   try clear c65
   try clear c67
   try clear c68
   try clear c70
   try clear c72
   try clear c73
   try clear c74
   try clear c75
   try clear c77
   try clear c78
   try clear c79
   try clear c81
   try clear c82
   try clear c83
   try clear c84
   try clear hcz14_0
   try clear hcz14_1
   try clear hcz14_2
   try clear hcz18_0
   try clear hcz18_1
   try clear hcz18_2
   try clear hcz19_0
   try clear hcz19_1
   try clear hcz19_2
   try clear hcz24_0
   try clear hcz24_1
   try clear hcz24_2
   try clear hcz30_0
   try clear hcz30_1
   try clear hcz30_2
   try clear hcz31_0
   try clear hcz31_1
   try clear hcz31_2
   try clear hcz38_0
   try clear hcz38_1
   try clear hcz38_2
   try clear hcz50_0
   try clear hcz50_1
   try clear hcz50_2
   try clear hcz54_0
   try clear hcz54_1
   try clear hcz54_2
   try clear hcz57_0
   try clear hcz57_1
   try clear hcz57_2
   try clear hcz62_0
   try clear hcz62_1
   try clear hcz62_2
   try clear hcz66_0
   try clear hcz66_1
   try clear hcz66_2
   try clear hcz69_0
   try clear hcz69_1
   try clear hcz69_2
   try clear hcz71_0
   try clear hcz71_1
   try clear hcz71_2
   try clear hcz76_0
   try clear hcz76_1
   try clear hcz76_2
   try clear hcz80_0
   try clear hcz80_1
   try clear hcz80_2
   try clear hcz85_0
   try clear hcz85_1
   try clear hcz85_2
   try clear hfz14_0
   try clear hfz14_1
   try clear hfz14_2
   try clear hfz18_0
   try clear hfz18_1
   try clear hfz18_2
   try clear hfz19_0
   try clear hfz19_1
   try clear hfz19_2
   try clear hfz24_0
   try clear hfz24_1
   try clear hfz24_2
   try clear hfz30_0
   try clear hfz30_1
   try clear hfz30_2
   try clear hfz31_0
   try clear hfz31_1
   try clear hfz31_2
   try clear hfz38_0
   try clear hfz38_1
   try clear hfz38_2
   try clear hfz50_0
   try clear hfz50_1
   try clear hfz50_2
   try clear hfz54_0
   try clear hfz54_1
   try clear hfz54_2
   try clear hfz57_0
   try clear hfz57_1
   try clear hfz57_2
   try clear hfz62_0
   try clear hfz62_1
   try clear hfz62_2
   try clear hfz66_0
   try clear hfz66_1
   try clear hfz66_2
   try clear hfz69_0
   try clear hfz69_1
   try clear hfz69_2
   try clear hfz71_0
   try clear hfz71_1
   try clear hfz71_2
   try clear hfz76_0
   try clear hfz76_1
   try clear hfz76_2
   try clear hfz80_0
   try clear hfz80_1
   try clear hfz80_2
   try clear hfz85_0
   try clear hfz85_1
   try clear hfz85_2
   obtain ⟨kq, x90_9, rfl, HA, HJ9, BK274, BK279, BK284, BK289, BK294, HB⟩ := hcut
   cases kq with
   | zero => exact absurd HA.out (by simp [pylonlaw13_PeriodHolds.j0])
   | succ kj9 =>
    have H := HA.out
    clear HA
    simp only [pylonlaw13_PeriodHolds.j0] at H
    by_cases c86 : x90_9 = true
    ·subst c86
     have H1 : (some false) = some r := by rw [if_pos rfl] at H; exact H
     clear H
     have H := H1
     clear H1
     obtain rfl := Option.some.inj H
     go_wp2
     go_ret
     exact ⟨by first | rfl | (simp [errW_none, errW_some] <;> rfl) | (simp [*, errW_none, errW_some] <;> rfl), by repeat (first | (with_reducible first | exact HB.out | apply below_alloc | apply pw_below_drewN | apply below_drew1 | refine below_set ?_ GE274.out | refine below_set ?_ GE279.out | refine below_set ?_ GE284.out | refine below_set ?_ GE289.out | refine below_set ?_ GE294.out) | exact HB.out)⟩
    ·replace c86 := Bool.eq_false_iff.mpr c86
     subst c86
     have H1 : ((pylonref03_Compare.f t275 t276 t277 t270 t271 t272).bind fun t295 => (if t295 ≤ 0 then ((pylonref03_Compare.f t270 t271 t272 t280 t281 t282).bind fun t296 => (some (decide (t296 < 0)))) else (some false))) = some r := by rw [if_neg (show ¬ (false = true) by decide)] at H; exact H
     clear H
     have H := H1
     clear H1
     replace H := Option.bind_eq_some_iff.mp H
     obtain ⟨t295, A870, H⟩ := H
     replace H : (if t295 ≤ 0 then ((pylonref03_Compare.f t270 t271 t272 t280 t281 t282).bind fun t296 => (some (decide (t296 < 0)))) else (some false)) = some r := H
     have A87 := Aside0.mk A870
     clear A870
     by_cases c88 : t295 ≤ 0
     ·rw [if_pos c88] at H
      have c88b0 : decide (t295 ≤ 0) = true := decide_eq_true c88
      clear c88
      replace H := Option.bind_eq_some_iff.mp H
      obtain ⟨t296, A890, H⟩ := H
      replace H : (some (decide (t296 < 0))) = some r := H
      have A89 := Aside0.mk A890
      clear A890
      obtain rfl := Option.some.inj H
      have hnb90 := NB279_274.out
      have hnc90 := NB274_279.out
      have hnb91 := NB279_284.out
      have hnc91 := NB284_279.out
      have hnb92 := NB279_289.out
      have hnc92 := NB289_279.out
      have hnb93 := NB279_294.out
      have hnc93 := NB294_279.out
      have hcz94_0 : wc.cell? ⟨gb279, 0, none⟩ = some (.int .i64 t275) := (blk_cell BK279.out 0).trans rfl
      have hcz94_1 : wc.cell? ⟨gb279, 1, none⟩ = some (.int .i64 t276) := (blk_cell BK279.out 1).trans rfl
      have hcz94_2 : wc.cell? ⟨gb279, 2, none⟩ = some (.int .i64 t277) := (blk_cell BK279.out 2).trans rfl
      have hfz94_0 := blk_frozen BK279.out 0
      have hfz94_1 := blk_frozen BK279.out 1
      have hfz94_2 := blk_frozen BK279.out 2
      have hnb95 := NB274_284.out
      have hnc95 := NB284_274.out
      have hnb96 := NB274_289.out
      have hnc96 := NB289_274.out
      have hnb97 := NB274_294.out
      have hnc97 := NB294_274.out
      have hcz98_0 : wc.cell? ⟨gb274, 0, none⟩ = some (.int .i64 t270) := (blk_cell BK274.out 0).trans rfl
      have hcz98_1 : wc.cell? ⟨gb274, 1, none⟩ = some (.int .i64 t271) := (blk_cell BK274.out 1).trans rfl
      have hcz98_2 : wc.cell? ⟨gb274, 2, none⟩ = some (.int .i64 t272) := (blk_cell BK274.out 2).trans rfl
      have hfz98_0 := blk_frozen BK274.out 0
      have hfz98_1 := blk_frozen BK274.out 1
      have hfz98_2 := blk_frozen BK274.out 2
      go_wp2_with (first | ((with_reducible refine gate_callee (f := 33) rfl ?_); refine goesL_ (some 93) rfl rfl Try.func33 (by kernel_rfl) rfl #[.agg #[.int .i64 t275, .int .i64 t276, .int .i64 t277], .agg #[.int .i64 t270, .int .i64 t271, .int .i64 t272]] rfl (by (try simp only [List.map_toArray, List.map_cons, List.map_nil]); first | done | rfl | (simp only [List.length_drop, List.length_take]; rfl)) ?_; (with_reducible refine (pylonref03_Compare.calls t275 t276 t277 t270 t271 t272 t295 _ A87.out).mono ?_); rintro e w99 ⟨rfl, hb⟩; refine ⟨_, rfl, ?_⟩; have n0_ := Aside0.mk (blk_below (g := gb274) (o := .cells #[.int .i64 t270, .int .i64 t271, .int .i64 t272] 24 (0, 0)) (by (with_reducible repeat first|refine blk_drewN ?_ _|refine blk_drew ?_|refine blk_alloc ?_ _); exact BK274.out) hb); have n1_ := Aside0.mk (blk_below (g := gb279) (o := .cells #[.int .i64 t275, .int .i64 t276, .int .i64 t277] 24 (0, 0)) (by (with_reducible repeat first|refine blk_drewN ?_ _|refine blk_drew ?_|refine blk_alloc ?_ _); exact BK279.out) hb); have n2_ := Aside0.mk (blk_below (g := gb284) (o := .cells #[.int .i64 t280, .int .i64 t281, .int .i64 t282] 24 (0, 0)) (by (with_reducible repeat first|refine blk_drewN ?_ _|refine blk_drew ?_|refine blk_alloc ?_ _); exact BK284.out) hb); have n3_ := Aside0.mk (blk_below (g := gb289) (o := .cells #[.int .i64 t285, .int .i64 t286, .int .i64 t287] 24 (0, 0)) (by (with_reducible repeat first|refine blk_drewN ?_ _|refine blk_drew ?_|refine blk_alloc ?_ _); exact BK289.out) hb); have n4_ := Aside0.mk (blk_below (g := gb294) (o := .cells #[.int .i64 t290, .int .i64 t291, .int .i64 t292] 24 (0, 0)) (by (with_reducible repeat first|refine blk_drewN ?_ _|refine blk_drew ?_|refine blk_alloc ?_ _); exact BK294.out) hb); have n5_ := Aside0.mk (below_step (by repeat (first | (with_reducible first | exact HB.out | apply below_alloc | apply pw_below_drewN | apply below_drew1 | refine below_set ?_ GE274.out | refine below_set ?_ GE279.out | refine below_set ?_ GE284.out | refine below_set ?_ GE289.out | refine below_set ?_ GE294.out) | exact HB.out)) hb); clear BK274; clear BK279; clear BK284; clear BK289; clear BK294; clear HB; have BK274 := n0_; have BK279 := n1_; have BK284 := n2_; have BK289 := n3_; have BK294 := n4_; have HB := n5_; clear n0_ n1_ n2_ n3_ n4_ n5_; (try clear hb); (try clear hb2); (try clear hk); (try clear hi); have hcz100_0 : w99.cell? ⟨gb274, 0, none⟩ = some (.int .i64 t270) := (blk_cell BK274.out 0).trans rfl; have hcz100_1 : w99.cell? ⟨gb274, 1, none⟩ = some (.int .i64 t271) := (blk_cell BK274.out 1).trans rfl; have hcz100_2 : w99.cell? ⟨gb274, 2, none⟩ = some (.int .i64 t272) := (blk_cell BK274.out 2).trans rfl; have hfz100_0 := blk_frozen BK274.out 0; have hfz100_1 := blk_frozen BK274.out 1; have hfz100_2 := blk_frozen BK274.out 2; have hnb101 := NB284_289.out; have hnc101 := NB289_284.out; have hnb102 := NB284_294.out; have hnc102 := NB294_284.out; have hcz103_0 : w99.cell? ⟨gb284, 0, none⟩ = some (.int .i64 t280) := (blk_cell BK284.out 0).trans rfl; have hcz103_1 : w99.cell? ⟨gb284, 1, none⟩ = some (.int .i64 t281) := (blk_cell BK284.out 1).trans rfl; have hcz103_2 : w99.cell? ⟨gb284, 2, none⟩ = some (.int .i64 t282) := (blk_cell BK284.out 2).trans rfl; have hfz103_0 := blk_frozen BK284.out 0; have hfz103_1 := blk_frozen BK284.out 1; have hfz103_2 := blk_frozen BK284.out 2) | (go_at_call 33; (with_reducible refine (pylonref03_Compare.calls t270 t271 t272 t280 t281 t282 t296 _ A89.out).mono ?_); rintro e w104 ⟨rfl, hb⟩; have n0_ := Aside0.mk (blk_below (g := gb274) (o := .cells #[.int .i64 t270, .int .i64 t271, .int .i64 t272] 24 (0, 0)) (by (with_reducible repeat first|refine blk_drewN ?_ _|refine blk_drew ?_|refine blk_alloc ?_ _); exact BK274.out) hb); have n1_ := Aside0.mk (blk_below (g := gb279) (o := .cells #[.int .i64 t275, .int .i64 t276, .int .i64 t277] 24 (0, 0)) (by (with_reducible repeat first|refine blk_drewN ?_ _|refine blk_drew ?_|refine blk_alloc ?_ _); exact BK279.out) hb); have n2_ := Aside0.mk (blk_below (g := gb284) (o := .cells #[.int .i64 t280, .int .i64 t281, .int .i64 t282] 24 (0, 0)) (by (with_reducible repeat first|refine blk_drewN ?_ _|refine blk_drew ?_|refine blk_alloc ?_ _); exact BK284.out) hb); have n3_ := Aside0.mk (blk_below (g := gb289) (o := .cells #[.int .i64 t285, .int .i64 t286, .int .i64 t287] 24 (0, 0)) (by (with_reducible repeat first|refine blk_drewN ?_ _|refine blk_drew ?_|refine blk_alloc ?_ _); exact BK289.out) hb); have n4_ := Aside0.mk (blk_below (g := gb294) (o := .cells #[.int .i64 t290, .int .i64 t291, .int .i64 t292] 24 (0, 0)) (by (with_reducible repeat first|refine blk_drewN ?_ _|refine blk_drew ?_|refine blk_alloc ?_ _); exact BK294.out) hb); have n5_ := Aside0.mk (below_step (by repeat (first | (with_reducible first | exact HB.out | apply below_alloc | apply pw_below_drewN | apply below_drew1 | refine below_set ?_ GE274.out | refine below_set ?_ GE279.out | refine below_set ?_ GE284.out | refine below_set ?_ GE289.out | refine below_set ?_ GE294.out) | exact HB.out)) hb); clear BK274; clear BK279; clear BK284; clear BK289; clear BK294; clear HB; have BK274 := n0_; have BK279 := n1_; have BK284 := n2_; have BK289 := n3_; have BK294 := n4_; have HB := n5_; clear n0_ n1_ n2_ n3_ n4_ n5_; (try clear hb); (try clear hb2); (try clear hk); (try clear hi)))
      go_ret
      exact ⟨by first | rfl | (simp [errW_none, errW_some] <;> rfl) | (simp [*, errW_none, errW_some] <;> rfl), by repeat (first | (with_reducible first | exact HB.out | apply below_alloc | apply pw_below_drewN | apply below_drew1 | refine below_set ?_ GE274.out | refine below_set ?_ GE279.out | refine below_set ?_ GE284.out | refine below_set ?_ GE289.out | refine below_set ?_ GE294.out) | exact HB.out)⟩
     ·rw [if_neg c88] at H
      have c88b0 : decide (t295 ≤ 0) = false := decide_eq_false c88
      clear c88
      obtain rfl := Option.some.inj H
      have hnb105 := NB279_274.out
      have hnc105 := NB274_279.out
      have hnb106 := NB279_284.out
      have hnc106 := NB284_279.out
      have hnb107 := NB279_289.out
      have hnc107 := NB289_279.out
      have hnb108 := NB279_294.out
      have hnc108 := NB294_279.out
      have hcz109_0 : wc.cell? ⟨gb279, 0, none⟩ = some (.int .i64 t275) := (blk_cell BK279.out 0).trans rfl
      have hcz109_1 : wc.cell? ⟨gb279, 1, none⟩ = some (.int .i64 t276) := (blk_cell BK279.out 1).trans rfl
      have hcz109_2 : wc.cell? ⟨gb279, 2, none⟩ = some (.int .i64 t277) := (blk_cell BK279.out 2).trans rfl
      have hfz109_0 := blk_frozen BK279.out 0
      have hfz109_1 := blk_frozen BK279.out 1
      have hfz109_2 := blk_frozen BK279.out 2
      have hnb110 := NB274_284.out
      have hnc110 := NB284_274.out
      have hnb111 := NB274_289.out
      have hnc111 := NB289_274.out
      have hnb112 := NB274_294.out
      have hnc112 := NB294_274.out
      have hcz113_0 : wc.cell? ⟨gb274, 0, none⟩ = some (.int .i64 t270) := (blk_cell BK274.out 0).trans rfl
      have hcz113_1 : wc.cell? ⟨gb274, 1, none⟩ = some (.int .i64 t271) := (blk_cell BK274.out 1).trans rfl
      have hcz113_2 : wc.cell? ⟨gb274, 2, none⟩ = some (.int .i64 t272) := (blk_cell BK274.out 2).trans rfl
      have hfz113_0 := blk_frozen BK274.out 0
      have hfz113_1 := blk_frozen BK274.out 1
      have hfz113_2 := blk_frozen BK274.out 2
      go_wp2_with (first | ((with_reducible refine gate_callee (f := 33) rfl ?_); refine goesL_ (some 93) rfl rfl Try.func33 (by kernel_rfl) rfl #[.agg #[.int .i64 t275, .int .i64 t276, .int .i64 t277], .agg #[.int .i64 t270, .int .i64 t271, .int .i64 t272]] rfl (by (try simp only [List.map_toArray, List.map_cons, List.map_nil]); first | done | rfl | (simp only [List.length_drop, List.length_take]; rfl)) ?_; (with_reducible refine (pylonref03_Compare.calls t275 t276 t277 t270 t271 t272 t295 _ A87.out).mono ?_); rintro e w114 ⟨rfl, hb⟩; refine ⟨_, rfl, ?_⟩; have n0_ := Aside0.mk (blk_below (g := gb274) (o := .cells #[.int .i64 t270, .int .i64 t271, .int .i64 t272] 24 (0, 0)) (by (with_reducible repeat first|refine blk_drewN ?_ _|refine blk_drew ?_|refine blk_alloc ?_ _); exact BK274.out) hb); have n1_ := Aside0.mk (blk_below (g := gb279) (o := .cells #[.int .i64 t275, .int .i64 t276, .int .i64 t277] 24 (0, 0)) (by (with_reducible repeat first|refine blk_drewN ?_ _|refine blk_drew ?_|refine blk_alloc ?_ _); exact BK279.out) hb); have n2_ := Aside0.mk (blk_below (g := gb284) (o := .cells #[.int .i64 t280, .int .i64 t281, .int .i64 t282] 24 (0, 0)) (by (with_reducible repeat first|refine blk_drewN ?_ _|refine blk_drew ?_|refine blk_alloc ?_ _); exact BK284.out) hb); have n3_ := Aside0.mk (blk_below (g := gb289) (o := .cells #[.int .i64 t285, .int .i64 t286, .int .i64 t287] 24 (0, 0)) (by (with_reducible repeat first|refine blk_drewN ?_ _|refine blk_drew ?_|refine blk_alloc ?_ _); exact BK289.out) hb); have n4_ := Aside0.mk (blk_below (g := gb294) (o := .cells #[.int .i64 t290, .int .i64 t291, .int .i64 t292] 24 (0, 0)) (by (with_reducible repeat first|refine blk_drewN ?_ _|refine blk_drew ?_|refine blk_alloc ?_ _); exact BK294.out) hb); have n5_ := Aside0.mk (below_step (by repeat (first | (with_reducible first | exact HB.out | apply below_alloc | apply pw_below_drewN | apply below_drew1 | refine below_set ?_ GE274.out | refine below_set ?_ GE279.out | refine below_set ?_ GE284.out | refine below_set ?_ GE289.out | refine below_set ?_ GE294.out) | exact HB.out)) hb); clear BK274; clear BK279; clear BK284; clear BK289; clear BK294; clear HB; have BK274 := n0_; have BK279 := n1_; have BK284 := n2_; have BK289 := n3_; have BK294 := n4_; have HB := n5_; clear n0_ n1_ n2_ n3_ n4_ n5_; (try clear hb); (try clear hb2); (try clear hk); (try clear hi)))
      go_ret
      exact ⟨by first | rfl | (simp [errW_none, errW_some] <;> rfl) | (simp [*, errW_none, errW_some] <;> rfl), by repeat (first | (with_reducible first | exact HB.out | apply below_alloc | apply pw_below_drewN | apply below_drew1 | refine below_set ?_ GE274.out | refine below_set ?_ GE279.out | refine below_set ?_ GE284.out | refine below_set ?_ GE289.out | refine below_set ?_ GE294.out) | exact HB.out)⟩
 ·replace c4 := Bool.eq_false_iff.mpr c4
  subst c4
  have H1 : (some false) = some r := by rw [if_neg (show ¬ (false = true) by decide)] at H; exact H
  clear H
  have H := H1
  clear H1
  obtain rfl := Option.some.inj H
  go_enter Try.func9, Try.ntmps9
  go_wp2_with (first | ((with_reducible refine gate_callee (f := 27) rfl ?_); refine goesL_ (some 15) rfl rfl Try.func27 (by kernel_rfl) rfl #[] rfl (by (try simp only [List.map_toArray, List.map_cons, List.map_nil]); first | done | rfl | (simp only [List.length_drop, List.length_take]; rfl)) ?_; (with_reducible refine (pylonlaw13_awake.calls k  false _ A3.out).mono ?_); rintro e w115 ⟨rfl, hb⟩; refine ⟨_, rfl, ?_⟩; have n0_ := Aside0.mk (below_step (by repeat (first | (with_reducible first | exact HB.out | apply below_alloc | apply pw_below_drewN | apply below_drew1) | exact HB.out)) hb); clear HB; have HB := n0_; clear n0_; (try clear hb); (try clear hb2); (try clear hk); (try clear hi)))
  go_ret
  exact ⟨by first | rfl | (simp [errW_none, errW_some] <;> rfl) | (simp [*, errW_none, errW_some] <;> rfl), by repeat (first | (with_reducible first | exact HB.out | apply below_alloc | apply pw_below_drewN | apply below_drew1) | exact HB.out)⟩

/-- THE ONE PURE STATEMENT of pylonlaw13_PeriodHolds: yours. -/
def pylonlaw13_PeriodHolds.Pure : Prop := ∀ (a0 : Int) (a1 : Int), (Lit.int .i64 a0).wf = true → (Lit.int .i64 a1).wf = true → ∃ k, pylonlaw13_PeriodHolds.f k a0 a1 = some true
theorem pylonlaw13_PeriodHolds.walk (P : pylonlaw13_PeriodHolds.Pure) (a0 : Int) (a1 : Int) (w : World) (w0 : (Lit.int .i64 a0).wf = true) (w1 : (Lit.int .i64 a1).wf = true) :
  Calls Try.prog 9 #[.int .i64 a0, .int .i64 a1] w fun e w' => e = .returned (.bool true) ∧ Below w.heap.size w w' := by
 obtain ⟨k, h⟩ := P a0 a1 w0 w1
 refine (pylonlaw13_PeriodHolds.calls k a0 a1 true w h).mono ?_
 rintro e w' ⟨rfl, hd⟩
 exact ⟨rfl, hd⟩

end Go.Proofs.Ytipldjcncfoffaa.PX
