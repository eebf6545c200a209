/- Functions of the program as plain Lean functions, each with a proof that the call in the machine answers just what the plain function says; condition: the plain function answers at all. -/
import Derived.Test.YtipldjcncfoffaaPXx0
import Derived.Test.YtipldjcncfoffaaPXx1
import Derived.Test.YtipldjcncfoffaaPXx5
import Derived.Test.YtipldjcncfoffaaPXx6
import Derived.Test.YtipldjcncfoffaaPXx11
namespace Go.Proofs.Ytipldjcncfoffaa.PX
open Go.RowKit Go.Proofs.YtipldjcncfoffaaW.PrintWords Go.Proofs.YtipldjcncfoffaaW.PrintLast Go.Proofs.YtipldjcncfoffaaW.PrintMore
attribute [local go_sem] max2_int min2_int max_two min_two max_three min_three max_four min_four   -- for this text's walks alone
set_option linter.unusedVariables false
set_option linter.unusedSimpArgs false

attribute [local go_sem high] eqA24
/-! ### pylonlaw03_CivilNext: function 11 -/
mutual
def pylonlaw03_CivilNext.j0 : Nat → Bool → Int → Int → Int → Int → Int → Int → Option (Bool)
 | 0, _, _, _, _, _, _, _ => none
 | k + 1, x106, x321000, x321001, x321002, x326000, x326001, x326002 => if x106 = true then (some false) else ((civil_YearDay.f x321000 x321001 x321002).bind fun bt337 => ((civil_YearDay.f x326000 x326001 x326002).bind fun bt339 => (if bt337.2 = 0 then (pylonlaw03_CivilNext.j1 k bt337.1 bt339.1 (bt339.2 != 0) x321000 x321001 x321002 x326000 x326001 x326002) else (pylonlaw03_CivilNext.j1 k bt337.1 bt339.1 true x321000 x321001 x321002 x326000 x326001 x326002))))
def pylonlaw03_CivilNext.j1 : Nat → Int → Int → Bool → Int → Int → Int → Int → Int → Int → Option (Bool)
 | 0, _, _, _, _, _, _, _, _, _ => none
 | k + 1, x13, x14, x122, x321000, x321001, x321002, x326000, x326001, x326002 => if x122 = true then (some false) else (if x326000 = x321000 then (some (x14 == (wrap64 (x13 + 1)))) else (if x14 = 1 then (if x326000 = (wrap64 (x321000 + 1)) then (if x13 = 365 then (some true) else (some (x13 == 366))) else (some false)) else (some false)))
end
def pylonlaw03_CivilNext.f (k : Nat) (a0 : Int) : Option (Bool) := (pylonlaw03_awake.f).bind fun t314 => (if t314 = true then ((pylonlaw03_day.f a0).bind fun t315 => ((civil_Of.f t315).bind fun bt316 => ((civil_Add.f bt316.1 bt316.2.1 bt316.2.2.1 1).bind fun bt321 => ((pylonlaw03_day.f a0).bind fun t326 => (if t326 = 2932896 then (if bt321.2.2.2 = 5 then (some (bt321.1 == 0 && (bt321.2.1 == 0 && (bt321.2.2.1 == 0)))) else (some false)) else ((civil_Days.f bt321.1 bt321.2.1 bt321.2.2.1).bind fun bt327 => ((civil_Weekday.f bt316.1 bt316.2.1 bt316.2.2.1).bind fun bt329 => ((civil_Weekday.f bt321.1 bt321.2.1 bt321.2.2.1).bind fun bt331 => (if bt321.2.2.2 = 0 then (if bt327.2 = 0 then (if bt329.2 = 0 then (if bt331.2 = 0 then ((pylonlaw03_day.f a0).bind fun t333 => (if bt327.1 = (wrap64 (t333 + 1)) then (if bt329.1 < 0 then (pylonlaw03_CivilNext.j0 k true bt316.1 bt316.2.1 bt316.2.2.1 bt321.1 bt321.2.1 bt321.2.2.1) else (if bt329.1 > 6 then (pylonlaw03_CivilNext.j0 k true bt316.1 bt316.2.1 bt316.2.2.1 bt321.1 bt321.2.1 bt321.2.2.1) else (if bt331.1 = (Int.tmod (wrap64 (bt329.1 + 1)) 7) then ((civil_Compare.f bt316.1 bt316.2.1 bt316.2.2.1 bt321.1 bt321.2.1 bt321.2.2.1).bind fun t334 => (if t334 = (-1) then ((civil_Compare.f bt321.1 bt321.2.1 bt321.2.2.1 bt316.1 bt316.2.1 bt316.2.2.1).bind fun t335 => (if t335 = 1 then ((civil_Compare.f bt316.1 bt316.2.1 bt316.2.2.1 bt316.1 bt316.2.1 bt316.2.2.1).bind fun t336 => (pylonlaw03_CivilNext.j0 k (t336 != 0) bt316.1 bt316.2.1 bt316.2.2.1 bt321.1 bt321.2.1 bt321.2.2.1)) else (pylonlaw03_CivilNext.j0 k true bt316.1 bt316.2.1 bt316.2.2.1 bt321.1 bt321.2.1 bt321.2.2.1))) else (pylonlaw03_CivilNext.j0 k true bt316.1 bt316.2.1 bt316.2.2.1 bt321.1 bt321.2.1 bt321.2.2.1))) else (pylonlaw03_CivilNext.j0 k true bt316.1 bt316.2.1 bt316.2.2.1 bt321.1 bt321.2.1 bt321.2.2.1)))) else (pylonlaw03_CivilNext.j0 k true bt316.1 bt316.2.1 bt316.2.2.1 bt321.1 bt321.2.1 bt321.2.2.1))) else (pylonlaw03_CivilNext.j0 k true bt316.1 bt316.2.1 bt316.2.2.1 bt321.1 bt321.2.1 bt321.2.2.1)) else (pylonlaw03_CivilNext.j0 k true bt316.1 bt316.2.1 bt316.2.2.1 bt321.1 bt321.2.1 bt321.2.2.1)) else (pylonlaw03_CivilNext.j0 k true bt316.1 bt316.2.1 bt316.2.2.1 bt321.1 bt321.2.1 bt321.2.2.1)) else (pylonlaw03_CivilNext.j0 k true bt316.1 bt316.2.1 bt316.2.2.1 bt321.1 bt321.2.1 bt321.2.2.1)))))))))) else (some false))
theorem pylonlaw03_CivilNext.mono_l : ∀ k, (∀ y0 y1 y2 y3 y4 y5 y6, LeO (pylonlaw03_CivilNext.j0 k y0 y1 y2 y3 y4 y5 y6) (pylonlaw03_CivilNext.j0 (k + 1) y0 y1 y2 y3 y4 y5 y6)) ∧ (∀ y0 y1 y2 y3 y4 y5 y6 y7 y8, LeO (pylonlaw03_CivilNext.j1 k y0 y1 y2 y3 y4 y5 y6 y7 y8) (pylonlaw03_CivilNext.j1 (k + 1) y0 y1 y2 y3 y4 y5 y6 y7 y8))
 | 0 => ⟨fun _ _ _ _ _ _ _ r h => by simp [pylonlaw03_CivilNext.j0] at h, fun _ _ _ _ _ _ _ _ _ r h => by simp [pylonlaw03_CivilNext.j1] at h⟩
 | k + 1 => by
  obtain ⟨ih0, ih1⟩ := pylonlaw03_CivilNext.mono_l k
  refine ⟨?_, ?_⟩
  ·intro y0 y1 y2 y3 y4 y5 y6
   unfold pylonlaw03_CivilNext.j0
   repeat' first
   | (with_reducible exact ih0 _ _ _ _ _ _ _)
   | (with_reducible exact ih1 _ _ _ _ _ _ _ _ _)
   | (with_reducible exact LeO.refl _)
   | (with_reducible exact LeO.none _)
   | (with_reducible refine LeO.ite ?_ ?_)
   | (with_reducible refine LeO.bind ?_ (fun _ => ?_))
   | exact ih0 _ _ _ _ _ _ _
   | exact ih1 _ _ _ _ _ _ _ _ _
   | exact LeO.none _
   | refine LeO.ite ?_ ?_
   | refine LeO.bind ?_ (fun _ => ?_)
  ·intro y0 y1 y2 y3 y4 y5 y6 y7 y8
   unfold pylonlaw03_CivilNext.j1
   repeat' first
   | (with_reducible exact ih0 _ _ _ _ _ _ _)
   | (with_reducible exact ih1 _ _ _ _ _ _ _ _ _)
   | (with_reducible exact LeO.refl _)
   | (with_reducible exact LeO.none _)
   | (with_reducible refine LeO.ite ?_ ?_)
   | (with_reducible refine LeO.bind ?_ (fun _ => ?_))
   | exact ih0 _ _ _ _ _ _ _
   | exact ih1 _ _ _ _ _ _ _ _ _
   | exact LeO.none _
   | refine LeO.ite ?_ ?_
   | refine LeO.bind ?_ (fun _ => ?_)
theorem pylonlaw03_CivilNext.mono : ∀ a0 k, LeO (pylonlaw03_CivilNext.f k a0) (pylonlaw03_CivilNext.f (k + 1) a0) := by
 intro a0 k
 obtain ⟨ih0, ih1⟩ := pylonlaw03_CivilNext.mono_l k
 unfold pylonlaw03_CivilNext.f
 repeat' first
   | (with_reducible exact ih0 _ _ _ _ _ _ _)
   | (with_reducible exact ih1 _ _ _ _ _ _ _ _ _)
   | (with_reducible exact LeO.refl _)
   | (with_reducible exact LeO.none _)
   | (with_reducible refine LeO.ite ?_ ?_)
   | (with_reducible refine LeO.bind ?_ (fun _ => ?_))
   | exact ih0 _ _ _ _ _ _ _
   | exact ih1 _ _ _ _ _ _ _ _ _
   | exact LeO.none _
   | refine LeO.ite ?_ ?_
   | refine LeO.bind ?_ (fun _ => ?_)
set_option maxHeartbeats 8000000 in
set_option maxRecDepth 100000 in
theorem pylonlaw03_CivilNext.calls (k : Nat) (a0 : Int) (r : Bool) (w : World) (h : pylonlaw03_CivilNext.f k a0 = some r) :
  Calls Try.prog 11 #[.int .i64 a0] w fun e w' => e = .returned (.bool r) ∧ Below w.heap.size w w' := by
 have hu24 := Try.underlying24
 have HB := Aside0.mk (Below.refl w.heap.size w)
 have H : ((pylonlaw03_awake.f).bind fun t314 => (if t314 = true then ((pylonlaw03_day.f a0).bind fun t315 => ((civil_Of.f t315).bind fun bt316 => ((civil_Add.f bt316.1 bt316.2.1 bt316.2.2.1 1).bind fun bt321 => ((pylonlaw03_day.f a0).bind fun t326 => (if t326 = 2932896 then (if bt321.2.2.2 = 5 then (some (bt321.1 == 0 && (bt321.2.1 == 0 && (bt321.2.2.1 == 0)))) else (some false)) else ((civil_Days.f bt321.1 bt321.2.1 bt321.2.2.1).bind fun bt327 => ((civil_Weekday.f bt316.1 bt316.2.1 bt316.2.2.1).bind fun bt329 => ((civil_Weekday.f bt321.1 bt321.2.1 bt321.2.2.1).bind fun bt331 => (if bt321.2.2.2 = 0 then (if bt327.2 = 0 then (if bt329.2 = 0 then (if bt331.2 = 0 then ((pylonlaw03_day.f a0).bind fun t333 => (if bt327.1 = (wrap64 (t333 + 1)) then (if bt329.1 < 0 then (pylonlaw03_CivilNext.j0 k true bt316.1 bt316.2.1 bt316.2.2.1 bt321.1 bt321.2.1 bt321.2.2.1) else (if bt329.1 > 6 then (pylonlaw03_CivilNext.j0 k true bt316.1 bt316.2.1 bt316.2.2.1 bt321.1 bt321.2.1 bt321.2.2.1) else (if bt331.1 = (Int.tmod (wrap64 (bt329.1 + 1)) 7) then ((civil_Compare.f bt316.1 bt316.2.1 bt316.2.2.1 bt321.1 bt321.2.1 bt321.2.2.1).bind fun t334 => (if t334 = (-1) then ((civil_Compare.f bt321.1 bt321.2.1 bt321.2.2.1 bt316.1 bt316.2.1 bt316.2.2.1).bind fun t335 => (if t335 = 1 then ((civil_Compare.f bt316.1 bt316.2.1 bt316.2.2.1 bt316.1 bt316.2.1 bt316.2.2.1).bind fun t336 => (pylonlaw03_CivilNext.j0 k (t336 != 0) bt316.1 bt316.2.1 bt316.2.2.1 bt321.1 bt321.2.1 bt321.2.2.1)) else (pylonlaw03_CivilNext.j0 k true bt316.1 bt316.2.1 bt316.2.2.1 bt321.1 bt321.2.1 bt321.2.2.1))) else (pylonlaw03_CivilNext.j0 k true bt316.1 bt316.2.1 bt316.2.2.1 bt321.1 bt321.2.1 bt321.2.2.1))) else (pylonlaw03_CivilNext.j0 k true bt316.1 bt316.2.1 bt316.2.2.1 bt321.1 bt321.2.1 bt321.2.2.1)))) else (pylonlaw03_CivilNext.j0 k true bt316.1 bt316.2.1 bt316.2.2.1 bt321.1 bt321.2.1 bt321.2.2.1))) else (pylonlaw03_CivilNext.j0 k true bt316.1 bt316.2.1 bt316.2.2.1 bt321.1 bt321.2.1 bt321.2.2.1)) else (pylonlaw03_CivilNext.j0 k true bt316.1 bt316.2.1 bt316.2.2.1 bt321.1 bt321.2.1 bt321.2.2.1)) else (pylonlaw03_CivilNext.j0 k true bt316.1 bt316.2.1 bt316.2.2.1 bt321.1 bt321.2.1 bt321.2.2.1)) else (pylonlaw03_CivilNext.j0 k true bt316.1 bt316.2.1 bt316.2.2.1 bt321.1 bt321.2.1 bt321.2.2.1)))))))))) else (some false))) = some r := h
 clear h
 replace H := Option.bind_eq_some_iff.mp H
 obtain ⟨t314, A20, H⟩ := H
 replace H : (if t314 = true then ((pylonlaw03_day.f a0).bind fun t315 => ((civil_Of.f t315).bind fun bt316 => ((civil_Add.f bt316.1 bt316.2.1 bt316.2.2.1 1).bind fun bt321 => ((pylonlaw03_day.f a0).bind fun t326 => (if t326 = 2932896 then (if bt321.2.2.2 = 5 then (some (bt321.1 == 0 && (bt321.2.1 == 0 && (bt321.2.2.1 == 0)))) else (some false)) else ((civil_Days.f bt321.1 bt321.2.1 bt321.2.2.1).bind fun bt327 => ((civil_Weekday.f bt316.1 bt316.2.1 bt316.2.2.1).bind fun bt329 => ((civil_Weekday.f bt321.1 bt321.2.1 bt321.2.2.1).bind fun bt331 => (if bt321.2.2.2 = 0 then (if bt327.2 = 0 then (if bt329.2 = 0 then (if bt331.2 = 0 then ((pylonlaw03_day.f a0).bind fun t333 => (if bt327.1 = (wrap64 (t333 + 1)) then (if bt329.1 < 0 then (pylonlaw03_CivilNext.j0 k true bt316.1 bt316.2.1 bt316.2.2.1 bt321.1 bt321.2.1 bt321.2.2.1) else (if bt329.1 > 6 then (pylonlaw03_CivilNext.j0 k true bt316.1 bt316.2.1 bt316.2.2.1 bt321.1 bt321.2.1 bt321.2.2.1) else (if bt331.1 = (Int.tmod (wrap64 (bt329.1 + 1)) 7) then ((civil_Compare.f bt316.1 bt316.2.1 bt316.2.2.1 bt321.1 bt321.2.1 bt321.2.2.1).bind fun t334 => (if t334 = (-1) then ((civil_Compare.f bt321.1 bt321.2.1 bt321.2.2.1 bt316.1 bt316.2.1 bt316.2.2.1).bind fun t335 => (if t335 = 1 then ((civil_Compare.f bt316.1 bt316.2.1 bt316.2.2.1 bt316.1 bt316.2.1 bt316.2.2.1).bind fun t336 => (pylonlaw03_CivilNext.j0 k (t336 != 0) bt316.1 bt316.2.1 bt316.2.2.1 bt321.1 bt321.2.1 bt321.2.2.1)) else (pylonlaw03_CivilNext.j0 k true bt316.1 bt316.2.1 bt316.2.2.1 bt321.1 bt321.2.1 bt321.2.2.1))) else (pylonlaw03_CivilNext.j0 k true bt316.1 bt316.2.1 bt316.2.2.1 bt321.1 bt321.2.1 bt321.2.2.1))) else (pylonlaw03_CivilNext.j0 k true bt316.1 bt316.2.1 bt316.2.2.1 bt321.1 bt321.2.1 bt321.2.2.1)))) else (pylonlaw03_CivilNext.j0 k true bt316.1 bt316.2.1 bt316.2.2.1 bt321.1 bt321.2.1 bt321.2.2.1))) else (pylonlaw03_CivilNext.j0 k true bt316.1 bt316.2.1 bt316.2.2.1 bt321.1 bt321.2.1 bt321.2.2.1)) else (pylonlaw03_CivilNext.j0 k true bt316.1 bt316.2.1 bt316.2.2.1 bt321.1 bt321.2.1 bt321.2.2.1)) else (pylonlaw03_CivilNext.j0 k true bt316.1 bt316.2.1 bt316.2.2.1 bt321.1 bt321.2.1 bt321.2.2.1)) else (pylonlaw03_CivilNext.j0 k true bt316.1 bt316.2.1 bt316.2.2.1 bt321.1 bt321.2.1 bt321.2.2.1)))))))))) else (some false)) = some r := H
 have A2 := Aside0.mk A20
 clear A20
 by_cases c3 : t314 = true
 ·subst c3
  have H1 : ((pylonlaw03_day.f a0).bind fun t315 => ((civil_Of.f t315).bind fun bt316 => ((civil_Add.f bt316.1 bt316.2.1 bt316.2.2.1 1).bind fun bt321 => ((pylonlaw03_day.f a0).bind fun t326 => (if t326 = 2932896 then (if bt321.2.2.2 = 5 then (some (bt321.1 == 0 && (bt321.2.1 == 0 && (bt321.2.2.1 == 0)))) else (some false)) else ((civil_Days.f bt321.1 bt321.2.1 bt321.2.2.1).bind fun bt327 => ((civil_Weekday.f bt316.1 bt316.2.1 bt316.2.2.1).bind fun bt329 => ((civil_Weekday.f bt321.1 bt321.2.1 bt321.2.2.1).bind fun bt331 => (if bt321.2.2.2 = 0 then (if bt327.2 = 0 then (if bt329.2 = 0 then (if bt331.2 = 0 then ((pylonlaw03_day.f a0).bind fun t333 => (if bt327.1 = (wrap64 (t333 + 1)) then (if bt329.1 < 0 then (pylonlaw03_CivilNext.j0 k true bt316.1 bt316.2.1 bt316.2.2.1 bt321.1 bt321.2.1 bt321.2.2.1) else (if bt329.1 > 6 then (pylonlaw03_CivilNext.j0 k true bt316.1 bt316.2.1 bt316.2.2.1 bt321.1 bt321.2.1 bt321.2.2.1) else (if bt331.1 = (Int.tmod (wrap64 (bt329.1 + 1)) 7) then ((civil_Compare.f bt316.1 bt316.2.1 bt316.2.2.1 bt321.1 bt321.2.1 bt321.2.2.1).bind fun t334 => (if t334 = (-1) then ((civil_Compare.f bt321.1 bt321.2.1 bt321.2.2.1 bt316.1 bt316.2.1 bt316.2.2.1).bind fun t335 => (if t335 = 1 then ((civil_Compare.f bt316.1 bt316.2.1 bt316.2.2.1 bt316.1 bt316.2.1 bt316.2.2.1).bind fun t336 => (pylonlaw03_CivilNext.j0 k (t336 != 0) bt316.1 bt316.2.1 bt316.2.2.1 bt321.1 bt321.2.1 bt321.2.2.1)) else (pylonlaw03_CivilNext.j0 k true bt316.1 bt316.2.1 bt316.2.2.1 bt321.1 bt321.2.1 bt321.2.2.1))) else (pylonlaw03_CivilNext.j0 k true bt316.1 bt316.2.1 bt316.2.2.1 bt321.1 bt321.2.1 bt321.2.2.1))) else (pylonlaw03_CivilNext.j0 k true bt316.1 bt316.2.1 bt316.2.2.1 bt321.1 bt321.2.1 bt321.2.2.1)))) else (pylonlaw03_CivilNext.j0 k true bt316.1 bt316.2.1 bt316.2.2.1 bt321.1 bt321.2.1 bt321.2.2.1))) else (pylonlaw03_CivilNext.j0 k true bt316.1 bt316.2.1 bt316.2.2.1 bt321.1 bt321.2.1 bt321.2.2.1)) else (pylonlaw03_CivilNext.j0 k true bt316.1 bt316.2.1 bt316.2.2.1 bt321.1 bt321.2.1 bt321.2.2.1)) else (pylonlaw03_CivilNext.j0 k true bt316.1 bt316.2.1 bt316.2.2.1 bt321.1 bt321.2.1 bt321.2.2.1)) else (pylonlaw03_CivilNext.j0 k true bt316.1 bt316.2.1 bt316.2.2.1 bt321.1 bt321.2.1 bt321.2.2.1)))))))))) = some r := by rw [if_pos rfl] at H; exact H
  clear H
  have H := H1
  clear H1
  replace H := Option.bind_eq_some_iff.mp H
  obtain ⟨t315, A40, H⟩ := H
  replace H : ((civil_Of.f t315).bind fun bt316 => ((civil_Add.f bt316.1 bt316.2.1 bt316.2.2.1 1).bind fun bt321 => ((pylonlaw03_day.f a0).bind fun t326 => (if t326 = 2932896 then (if bt321.2.2.2 = 5 then (some (bt321.1 == 0 && (bt321.2.1 == 0 && (bt321.2.2.1 == 0)))) else (some false)) else ((civil_Days.f bt321.1 bt321.2.1 bt321.2.2.1).bind fun bt327 => ((civil_Weekday.f bt316.1 bt316.2.1 bt316.2.2.1).bind fun bt329 => ((civil_Weekday.f bt321.1 bt321.2.1 bt321.2.2.1).bind fun bt331 => (if bt321.2.2.2 = 0 then (if bt327.2 = 0 then (if bt329.2 = 0 then (if bt331.2 = 0 then ((pylonlaw03_day.f a0).bind fun t333 => (if bt327.1 = (wrap64 (t333 + 1)) then (if bt329.1 < 0 then (pylonlaw03_CivilNext.j0 k true bt316.1 bt316.2.1 bt316.2.2.1 bt321.1 bt321.2.1 bt321.2.2.1) else (if bt329.1 > 6 then (pylonlaw03_CivilNext.j0 k true bt316.1 bt316.2.1 bt316.2.2.1 bt321.1 bt321.2.1 bt321.2.2.1) else (if bt331.1 = (Int.tmod (wrap64 (bt329.1 + 1)) 7) then ((civil_Compare.f bt316.1 bt316.2.1 bt316.2.2.1 bt321.1 bt321.2.1 bt321.2.2.1).bind fun t334 => (if t334 = (-1) then ((civil_Compare.f bt321.1 bt321.2.1 bt321.2.2.1 bt316.1 bt316.2.1 bt316.2.2.1).bind fun t335 => (if t335 = 1 then ((civil_Compare.f bt316.1 bt316.2.1 bt316.2.2.1 bt316.1 bt316.2.1 bt316.2.2.1).bind fun t336 => (pylonlaw03_CivilNext.j0 k (t336 != 0) bt316.1 bt316.2.1 bt316.2.2.1 bt321.1 bt321.2.1 bt321.2.2.1)) else (pylonlaw03_CivilNext.j0 k true bt316.1 bt316.2.1 bt316.2.2.1 bt321.1 bt321.2.1 bt321.2.2.1))) else (pylonlaw03_CivilNext.j0 k true bt316.1 bt316.2.1 bt316.2.2.1 bt321.1 bt321.2.1 bt321.2.2.1))) else (pylonlaw03_CivilNext.j0 k true bt316.1 bt316.2.1 bt316.2.2.1 bt321.1 bt321.2.1 bt321.2.2.1)))) else (pylonlaw03_CivilNext.j0 k true bt316.1 bt316.2.1 bt316.2.2.1 bt321.1 bt321.2.1 bt321.2.2.1))) else (pylonlaw03_CivilNext.j0 k true bt316.1 bt316.2.1 bt316.2.2.1 bt321.1 bt321.2.1 bt321.2.2.1)) else (pylonlaw03_CivilNext.j0 k true bt316.1 bt316.2.1 bt316.2.2.1 bt321.1 bt321.2.1 bt321.2.2.1)) else (pylonlaw03_CivilNext.j0 k true bt316.1 bt316.2.1 bt316.2.2.1 bt321.1 bt321.2.1 bt321.2.2.1)) else (pylonlaw03_CivilNext.j0 k true bt316.1 bt316.2.1 bt316.2.2.1 bt321.1 bt321.2.1 bt321.2.2.1))))))))) = some r := H
  have A4 := Aside0.mk A40
  clear A40
  replace H := Option.bind_eq_some_iff.mp H
  obtain ⟨⟨t316, t317, t318, t319⟩, A50, H⟩ := H
  replace H : ((civil_Add.f t316 t317 t318 1).bind fun bt321 => ((pylonlaw03_day.f a0).bind fun t326 => (if t326 = 2932896 then (if bt321.2.2.2 = 5 then (some (bt321.1 == 0 && (bt321.2.1 == 0 && (bt321.2.2.1 == 0)))) else (some false)) else ((civil_Days.f bt321.1 bt321.2.1 bt321.2.2.1).bind fun bt327 => ((civil_Weekday.f t316 t317 t318).bind fun bt329 => ((civil_Weekday.f bt321.1 bt321.2.1 bt321.2.2.1).bind fun bt331 => (if bt321.2.2.2 = 0 then (if bt327.2 = 0 then (if bt329.2 = 0 then (if bt331.2 = 0 then ((pylonlaw03_day.f a0).bind fun t333 => (if bt327.1 = (wrap64 (t333 + 1)) then (if bt329.1 < 0 then (pylonlaw03_CivilNext.j0 k true t316 t317 t318 bt321.1 bt321.2.1 bt321.2.2.1) else (if bt329.1 > 6 then (pylonlaw03_CivilNext.j0 k true t316 t317 t318 bt321.1 bt321.2.1 bt321.2.2.1) else (if bt331.1 = (Int.tmod (wrap64 (bt329.1 + 1)) 7) then ((civil_Compare.f t316 t317 t318 bt321.1 bt321.2.1 bt321.2.2.1).bind fun t334 => (if t334 = (-1) then ((civil_Compare.f bt321.1 bt321.2.1 bt321.2.2.1 t316 t317 t318).bind fun t335 => (if t335 = 1 then ((civil_Compare.f t316 t317 t318 t316 t317 t318).bind fun t336 => (pylonlaw03_CivilNext.j0 k (t336 != 0) t316 t317 t318 bt321.1 bt321.2.1 bt321.2.2.1)) else (pylonlaw03_CivilNext.j0 k true t316 t317 t318 bt321.1 bt321.2.1 bt321.2.2.1))) else (pylonlaw03_CivilNext.j0 k true t316 t317 t318 bt321.1 bt321.2.1 bt321.2.2.1))) else (pylonlaw03_CivilNext.j0 k true t316 t317 t318 bt321.1 bt321.2.1 bt321.2.2.1)))) else (pylonlaw03_CivilNext.j0 k true t316 t317 t318 bt321.1 bt321.2.1 bt321.2.2.1))) else (pylonlaw03_CivilNext.j0 k true t316 t317 t318 bt321.1 bt321.2.1 bt321.2.2.1)) else (pylonlaw03_CivilNext.j0 k true t316 t317 t318 bt321.1 bt321.2.1 bt321.2.2.1)) else (pylonlaw03_CivilNext.j0 k true t316 t317 t318 bt321.1 bt321.2.1 bt321.2.2.1)) else (pylonlaw03_CivilNext.j0 k true t316 t317 t318 bt321.1 bt321.2.1 bt321.2.2.1)))))))) = some r := H
  have A5 := Aside0.mk A50
  clear A50
  replace H := Option.bind_eq_some_iff.mp H
  obtain ⟨⟨t321, t322, t323, t324⟩, A60, H⟩ := H
  replace H : ((pylonlaw03_day.f a0).bind fun t326 => (if t326 = 2932896 then (if t324 = 5 then (some (t321 == 0 && (t322 == 0 && (t323 == 0)))) else (some false)) else ((civil_Days.f t321 t322 t323).bind fun bt327 => ((civil_Weekday.f t316 t317 t318).bind fun bt329 => ((civil_Weekday.f t321 t322 t323).bind fun bt331 => (if t324 = 0 then (if bt327.2 = 0 then (if bt329.2 = 0 then (if bt331.2 = 0 then ((pylonlaw03_day.f a0).bind fun t333 => (if bt327.1 = (wrap64 (t333 + 1)) then (if bt329.1 < 0 then (pylonlaw03_CivilNext.j0 k true t316 t317 t318 t321 t322 t323) else (if bt329.1 > 6 then (pylonlaw03_CivilNext.j0 k true t316 t317 t318 t321 t322 t323) else (if bt331.1 = (Int.tmod (wrap64 (bt329.1 + 1)) 7) then ((civil_Compare.f t316 t317 t318 t321 t322 t323).bind fun t334 => (if t334 = (-1) then ((civil_Compare.f t321 t322 t323 t316 t317 t318).bind fun t335 => (if t335 = 1 then ((civil_Compare.f t316 t317 t318 t316 t317 t318).bind fun t336 => (pylonlaw03_CivilNext.j0 k (t336 != 0) t316 t317 t318 t321 t322 t323)) else (pylonlaw03_CivilNext.j0 k true t316 t317 t318 t321 t322 t323))) else (pylonlaw03_CivilNext.j0 k true t316 t317 t318 t321 t322 t323))) else (pylonlaw03_CivilNext.j0 k true t316 t317 t318 t321 t322 t323)))) else (pylonlaw03_CivilNext.j0 k true t316 t317 t318 t321 t322 t323))) else (pylonlaw03_CivilNext.j0 k true t316 t317 t318 t321 t322 t323)) else (pylonlaw03_CivilNext.j0 k true t316 t317 t318 t321 t322 t323)) else (pylonlaw03_CivilNext.j0 k true t316 t317 t318 t321 t322 t323)) else (pylonlaw03_CivilNext.j0 k true t316 t317 t318 t321 t322 t323))))))) = some r := H
  have A6 := Aside0.mk A60
  clear A60
  replace H := Option.bind_eq_some_iff.mp H
  obtain ⟨t326, A70, H⟩ := H
  obtain rfl : t315 = t326 := Option.some.inj (A4.out.symm.trans A70)
  replace H : (if t315 = 2932896 then (if t324 = 5 then (some (t321 == 0 && (t322 == 0 && (t323 == 0)))) else (some false)) else ((civil_Days.f t321 t322 t323).bind fun bt327 => ((civil_Weekday.f t316 t317 t318).bind fun bt329 => ((civil_Weekday.f t321 t322 t323).bind fun bt331 => (if t324 = 0 then (if bt327.2 = 0 then (if bt329.2 = 0 then (if bt331.2 = 0 then ((pylonlaw03_day.f a0).bind fun t333 => (if bt327.1 = (wrap64 (t333 + 1)) then (if bt329.1 < 0 then (pylonlaw03_CivilNext.j0 k true t316 t317 t318 t321 t322 t323) else (if bt329.1 > 6 then (pylonlaw03_CivilNext.j0 k true t316 t317 t318 t321 t322 t323) else (if bt331.1 = (Int.tmod (wrap64 (bt329.1 + 1)) 7) then ((civil_Compare.f t316 t317 t318 t321 t322 t323).bind fun t334 => (if t334 = (-1) then ((civil_Compare.f t321 t322 t323 t316 t317 t318).bind fun t335 => (if t335 = 1 then ((civil_Compare.f t316 t317 t318 t316 t317 t318).bind fun t336 => (pylonlaw03_CivilNext.j0 k (t336 != 0) t316 t317 t318 t321 t322 t323)) else (pylonlaw03_CivilNext.j0 k true t316 t317 t318 t321 t322 t323))) else (pylonlaw03_CivilNext.j0 k true t316 t317 t318 t321 t322 t323))) else (pylonlaw03_CivilNext.j0 k true t316 t317 t318 t321 t322 t323)))) else (pylonlaw03_CivilNext.j0 k true t316 t317 t318 t321 t322 t323))) else (pylonlaw03_CivilNext.j0 k true t316 t317 t318 t321 t322 t323)) else (pylonlaw03_CivilNext.j0 k true t316 t317 t318 t321 t322 t323)) else (pylonlaw03_CivilNext.j0 k true t316 t317 t318 t321 t322 t323)) else (pylonlaw03_CivilNext.j0 k true t316 t317 t318 t321 t322 t323)))))) = some r := H
  have A7 := Aside0.mk A70
  clear A70
  by_cases c8 : t315 = 2932896
  ·rw [if_pos c8] at H
   have c8b0 : (t315 == 2932896) = true := beq_iff_eq.mpr c8
   have c8b1 : (t315 != 2932896) = false := bne_eq_false_iff_eq.mpr c8
   clear c8
   by_cases c9 : t324 = 5
   ·rw [if_pos c9] at H
    have c9b0 : (t324 == 5) = true := beq_iff_eq.mpr c9
    have c9b1 : (t324 != 5) = false := bne_eq_false_iff_eq.mpr c9
    clear c9
    obtain rfl := Option.some.inj H
    go_enter Try.func11, Try.ntmps11
    go_wp2_with (first | ((with_reducible refine gate_callee (f := 16) rfl ?_); refine goesL_ (some 15) rfl rfl Try.func16 (by kernel_rfl) rfl #[] rfl (by (try simp only [List.map_toArray, List.map_cons, List.map_nil]); first | done | rfl | (simp only [List.length_drop, List.length_take]; rfl)) ?_; (with_reducible refine (pylonlaw03_awake.calls  true _ A2.out).mono ?_); rintro e w10 ⟨rfl, hb⟩; refine ⟨_, rfl, ?_⟩; have n0_ := Aside0.mk (below_step (by repeat (first | (with_reducible first | exact HB.out | apply below_alloc | apply pw_below_drewN | apply below_drew1) | exact HB.out)) hb); clear HB; have HB := n0_; clear n0_; (try clear hb); (try clear hb2); (try clear hk); (try clear hi)) | ((with_reducible refine gate_callee (f := 23) rfl ?_); refine goesL_ (some 19) rfl rfl Try.func23 (by kernel_rfl) rfl #[.int .i64 a0] rfl (by (try simp only [List.map_toArray, List.map_cons, List.map_nil]); first | done | rfl | (simp only [List.length_drop, List.length_take]; rfl)) ?_; (with_reducible refine (pylonlaw03_day.calls a0 t315 _ A4.out).mono ?_); rintro e w' ⟨rfl, ⟨nd, rfl⟩⟩; refine ⟨_, rfl, ?_⟩; (try (rw [drewN_self w10]; generalize hq_ : World.drewN w10 _ = w10; have n0_ : Aside0 (Below w.heap.size w w10) := ⟨by rw [← hq_]; exact (by repeat (first | (with_reducible first | exact HB.out | apply below_alloc | apply pw_below_drewN | apply below_drew1) | exact HB.out))⟩; clear HB hq_; have HB := n0_; clear n0_))) | ((with_reducible refine gate_callee (f := 22) rfl ?_); refine goesL_ (some 20) rfl rfl Try.func22 (by kernel_rfl) rfl #[.int .i64 t315] rfl (by (try simp only [List.map_toArray, List.map_cons, List.map_nil]); first | done | rfl | (simp only [List.length_drop, List.length_take]; rfl)) ?_; (with_reducible refine (civil_Of.calls t315 t316 t317 t318 t319 _ A5.out).mono ?_); rintro e w11 ⟨rfl, hb⟩; refine ⟨_, rfl, ?_⟩; have n0_ := Aside0.mk (below_step (by repeat (first | (with_reducible first | exact HB.out | apply below_alloc | apply pw_below_drewN | apply below_drew1) | exact HB.out)) hb); clear HB; have HB := n0_; clear n0_; (try clear hb); (try clear hb2); (try clear hk); (try clear hi)) | ((with_reducible refine gate_dst (N := 3) rfl ?_); refine box_event ?hg (N := 3) ?hd (cs := #[.int .i64 0, .int .i64 0, .int .i64 0]) (t := 24) ?hr ?_; (case hd => rfl); (case hg => rfl); (case hr => first | (go_simp; done) | (go_simp; rfl)); intro gb320 hg w12 hbox hb; have n0_ := Aside0.mk (below_step (by repeat (first | (with_reducible first | exact HB.out | apply below_alloc | apply pw_below_drewN | apply below_drew1) | exact HB.out)) hb); have n1_ := Aside0.mk (hbox); have n2_ := Aside0.mk ((by rw [hg]; exact (below_size (by repeat (first | (with_reducible first | exact HB.out | apply below_alloc | apply pw_below_drewN | apply below_drew1) | exact HB.out))) : w.heap.size ≤ gb320)); have n3_ := Aside0.mk ((by rw [hg]; exact (below_size (by repeat (first | (with_reducible first | exact HB.out | apply below_alloc | apply pw_below_drewN | apply below_drew1) | exact HB.out))) : w.heap.size ≤ gb320)); clear HB; have HB := n0_; have BK320 := n1_; have GW320 := n2_; have GE320 := n3_; clear n0_ n1_ n2_ n3_; clear hb hbox hg; have hcz13_0 : w12.cell? ⟨gb320, 0, none⟩ = some (.int .i64 0) := (blk_cell BK320.out 0).trans rfl; have hcz13_1 : w12.cell? ⟨gb320, 1, none⟩ = some (.int .i64 0) := (blk_cell BK320.out 1).trans rfl; have hcz13_2 : w12.cell? ⟨gb320, 2, none⟩ = some (.int .i64 0) := (blk_cell BK320.out 2).trans rfl; have hfz13_0 := blk_frozen BK320.out 0; have hfz13_1 := blk_frozen BK320.out 1; have hfz13_2 := blk_frozen BK320.out 2) | ((with_reducible refine gate_callee (f := 24) rfl ?_); refine goesL_ (some 25) rfl rfl Try.func24 (by kernel_rfl) rfl #[.agg #[.int .i64 t316, .int .i64 t317, .int .i64 t318], .int .i64 1] rfl (by (try simp only [List.map_toArray, List.map_cons, List.map_nil]); first | done | rfl | (simp only [List.length_drop, List.length_take]; rfl)) ?_; (with_reducible refine (civil_Add.calls t316 t317 t318 1 t321 t322 t323 t324 _ A6.out).mono ?_); rintro e w14 ⟨rfl, hb⟩; refine ⟨_, rfl, ?_⟩; have n0_ := Aside0.mk (blk_below (g := gb320) (o := .cells #[.int .i64 t316, .int .i64 t317, .int .i64 t318] 24 (0, 0)) (by (with_reducible repeat first|refine blk_drewN ?_ _|refine blk_drew ?_|refine blk_alloc ?_ _); refine blk_put (cs := #[.int .i64 t316, .int .i64 t317, .int .i64 0]) ?_ 2 _ rfl; (with_reducible repeat first|refine blk_drewN ?_ _|refine blk_drew ?_|refine blk_alloc ?_ _); refine blk_put (cs := #[.int .i64 t316, .int .i64 0, .int .i64 0]) ?_ 1 _ rfl; (with_reducible repeat first|refine blk_drewN ?_ _|refine blk_drew ?_|refine blk_alloc ?_ _); refine blk_put (cs := #[.int .i64 0, .int .i64 0, .int .i64 0]) ?_ 0 _ rfl; (with_reducible repeat first|refine blk_drewN ?_ _|refine blk_drew ?_|refine blk_alloc ?_ _); exact BK320.out) hb); have n1_ := Aside0.mk (below_step (by repeat (first | (with_reducible first | exact HB.out | apply below_alloc | apply pw_below_drewN | apply below_drew1 | refine below_set ?_ GE320.out) | exact HB.out)) hb); clear BK320; clear HB; have BK320 := n0_; have HB := n1_; clear n0_ n1_; (try clear hb); (try clear hb2); (try clear hk); (try clear hi)) | ((with_reducible refine gate_dst (N := 5) rfl ?_); refine box_event ?hg (N := 5) ?hd (cs := #[.int .i64 0, .int .i64 0, .int .i64 0]) (t := 24) ?hr ?_; (case hd => rfl); (case hg => rfl); (case hr => first | (go_simp; done) | (go_simp; rfl)); intro gb325 hg w15 hbox hb; have n0_ := Aside0.mk (blk_below (g := gb320) (o := .cells #[.int .i64 t316, .int .i64 t317, .int .i64 t318] 24 (0, 0)) (by (with_reducible repeat first|refine blk_drewN ?_ _|refine blk_drew ?_|refine blk_alloc ?_ _); exact BK320.out) hb); have n1_ := Aside0.mk (below_step (by repeat (first | (with_reducible first | exact HB.out | apply below_alloc | apply pw_below_drewN | apply below_drew1 | refine below_set ?_ GE320.out) | exact HB.out)) hb); have n2_ := Aside0.mk (hbox); have n3_ := Aside0.mk ((by rw [hg]; exact (below_size (by repeat (first | (with_reducible first | exact HB.out | apply below_alloc | apply pw_below_drewN | apply below_drew1 | refine below_set ?_ GE320.out) | exact HB.out))) : w.heap.size ≤ gb325)); have n4_ := Aside0.mk ((by rw [hg]; exact (below_size (by repeat (first | (with_reducible first | exact HB.out | apply below_alloc | apply pw_below_drewN | apply below_drew1 | refine below_set ?_ GE320.out) | exact HB.out))) : w.heap.size ≤ gb325)); have n5_ := Aside0.mk ((by rw [hg]; exact Nat.ne_of_lt (blk_lt (g := gb320) (o := .cells #[.int .i64 t316, .int .i64 t317, .int .i64 t318] 24 (0, 0)) (by (with_reducible repeat first|refine blk_drewN ?_ _|refine blk_drew ?_|refine blk_alloc ?_ _); exact BK320.out)) : gb320 ≠ gb325)); have n6_ := Aside0.mk ((by rw [hg]; exact Nat.ne_of_gt (blk_lt (g := gb320) (o := .cells #[.int .i64 t316, .int .i64 t317, .int .i64 t318] 24 (0, 0)) (by (with_reducible repeat first|refine blk_drewN ?_ _|refine blk_drew ?_|refine blk_alloc ?_ _); exact BK320.out)) : gb325 ≠ gb320)); clear BK320; clear HB; have BK320 := n0_; have HB := n1_; have BK325 := n2_; have GW325 := n3_; have GE325 := n4_; have NB320_325 := n5_; have NB325_320 := n6_; clear n0_ n1_ n2_ n3_ n4_ n5_ n6_; clear hb hbox hg; have hnb16 := NB325_320.out; have hnc16 := NB320_325.out; have hcz17_0 : w15.cell? ⟨gb325, 0, none⟩ = some (.int .i64 0) := (blk_cell BK325.out 0).trans rfl; have hcz17_1 : w15.cell? ⟨gb325, 1, none⟩ = some (.int .i64 0) := (blk_cell BK325.out 1).trans rfl; have hcz17_2 : w15.cell? ⟨gb325, 2, none⟩ = some (.int .i64 0) := (blk_cell BK325.out 2).trans rfl; have hfz17_0 := blk_frozen BK325.out 0; have hfz17_1 := blk_frozen BK325.out 1; have hfz17_2 := blk_frozen BK325.out 2) | ((with_reducible refine gate_callee (f := 23) rfl ?_); refine goesL_ (some 29) rfl rfl Try.func23 (by kernel_rfl) rfl #[.int .i64 a0] rfl (by (try simp only [List.map_toArray, List.map_cons, List.map_nil]); first | done | rfl | (simp only [List.length_drop, List.length_take]; rfl)) ?_; (with_reducible refine (pylonlaw03_day.calls a0 t315 _ A7.out).mono ?_); rintro e w' ⟨rfl, ⟨nd, rfl⟩⟩; refine ⟨_, rfl, ?_⟩))
    go_ret
    exact ⟨by first | rfl | (simp [errW_none, errW_some] <;> rfl) | (simp [*, errW_none, errW_some] <;> rfl), by repeat (first | (with_reducible first | exact HB.out | apply below_alloc | apply pw_below_drewN | apply below_drew1 | refine below_set ?_ GE320.out | refine below_set ?_ GE325.out) | exact HB.out)⟩
   ·rw [if_neg c9] at H
    have c9b0 : (t324 == 5) = false := beq_eq_false_iff_ne.mpr c9
    have c9b1 : (t324 != 5) = true := bne_iff_ne.mpr c9
    obtain rfl := Option.some.inj H
    go_enter Try.func11, Try.ntmps11
    go_wp2_with (first | ((with_reducible refine gate_callee (f := 16) rfl ?_); refine goesL_ (some 15) rfl rfl Try.func16 (by kernel_rfl) rfl #[] rfl (by (try simp only [List.map_toArray, List.map_cons, List.map_nil]); first | done | rfl | (simp only [List.length_drop, List.length_take]; rfl)) ?_; (with_reducible refine (pylonlaw03_awake.calls  true _ A2.out).mono ?_); rintro e w18 ⟨rfl, hb⟩; refine ⟨_, rfl, ?_⟩; have n0_ := Aside0.mk (below_step (by repeat (first | (with_reducible first | exact HB.out | apply below_alloc | apply pw_below_drewN | apply below_drew1) | exact HB.out)) hb); clear HB; have HB := n0_; clear n0_; (try clear hb); (try clear hb2); (try clear hk); (try clear hi)) | ((with_reducible refine gate_callee (f := 23) rfl ?_); refine goesL_ (some 19) rfl rfl Try.func23 (by kernel_rfl) rfl #[.int .i64 a0] rfl (by (try simp only [List.map_toArray, List.map_cons, List.map_nil]); first | done | rfl | (simp only [List.length_drop, List.length_take]; rfl)) ?_; (with_reducible refine (pylonlaw03_day.calls a0 t315 _ A4.out).mono ?_); rintro e w' ⟨rfl, ⟨nd, rfl⟩⟩; refine ⟨_, rfl, ?_⟩; (try (rw [drewN_self w18]; generalize hq_ : World.drewN w18 _ = w18; have n0_ : Aside0 (Below w.heap.size w w18) := ⟨by rw [← hq_]; exact (by repeat (first | (with_reducible first | exact HB.out | apply below_alloc | apply pw_below_drewN | apply below_drew1) | exact HB.out))⟩; clear HB hq_; have HB := n0_; clear n0_))) | ((with_reducible refine gate_callee (f := 22) rfl ?_); refine goesL_ (some 20) rfl rfl Try.func22 (by kernel_rfl) rfl #[.int .i64 t315] rfl (by (try simp only [List.map_toArray, List.map_cons, List.map_nil]); first | done | rfl | (simp only [List.length_drop, List.length_take]; rfl)) ?_; (with_reducible refine (civil_Of.calls t315 t316 t317 t318 t319 _ A5.out).mono ?_); rintro e w19 ⟨rfl, hb⟩; refine ⟨_, rfl, ?_⟩; have n0_ := Aside0.mk (below_step (by repeat (first | (with_reducible first | exact HB.out | apply below_alloc | apply pw_below_drewN | apply below_drew1) | exact HB.out)) hb); clear HB; have HB := n0_; clear n0_; (try clear hb); (try clear hb2); (try clear hk); (try clear hi)) | ((with_reducible refine gate_dst (N := 3) rfl ?_); refine box_event ?hg (N := 3) ?hd (cs := #[.int .i64 0, .int .i64 0, .int .i64 0]) (t := 24) ?hr ?_; (case hd => rfl); (case hg => rfl); (case hr => first | (go_simp; done) | (go_simp; rfl)); intro gb320 hg w20 hbox hb; have n0_ := Aside0.mk (below_step (by repeat (first | (with_reducible first | exact HB.out | apply below_alloc | apply pw_below_drewN | apply below_drew1) | exact HB.out)) hb); have n1_ := Aside0.mk (hbox); have n2_ := Aside0.mk ((by rw [hg]; exact (below_size (by repeat (first | (with_reducible first | exact HB.out | apply below_alloc | apply pw_below_drewN | apply below_drew1) | exact HB.out))) : w.heap.size ≤ gb320)); have n3_ := Aside0.mk ((by rw [hg]; exact (below_size (by repeat (first | (with_reducible first | exact HB.out | apply below_alloc | apply pw_below_drewN | apply below_drew1) | exact HB.out))) : w.heap.size ≤ gb320)); clear HB; have HB := n0_; have BK320 := n1_; have GW320 := n2_; have GE320 := n3_; clear n0_ n1_ n2_ n3_; clear hb hbox hg; have hcz21_0 : w20.cell? ⟨gb320, 0, none⟩ = some (.int .i64 0) := (blk_cell BK320.out 0).trans rfl; have hcz21_1 : w20.cell? ⟨gb320, 1, none⟩ = some (.int .i64 0) := (blk_cell BK320.out 1).trans rfl; have hcz21_2 : w20.cell? ⟨gb320, 2, none⟩ = some (.int .i64 0) := (blk_cell BK320.out 2).trans rfl; have hfz21_0 := blk_frozen BK320.out 0; have hfz21_1 := blk_frozen BK320.out 1; have hfz21_2 := blk_frozen BK320.out 2) | ((with_reducible refine gate_callee (f := 24) rfl ?_); refine goesL_ (some 25) rfl rfl Try.func24 (by kernel_rfl) rfl #[.agg #[.int .i64 t316, .int .i64 t317, .int .i64 t318], .int .i64 1] rfl (by (try simp only [List.map_toArray, List.map_cons, List.map_nil]); first | done | rfl | (simp only [List.length_drop, List.length_take]; rfl)) ?_; (with_reducible refine (civil_Add.calls t316 t317 t318 1 t321 t322 t323 t324 _ A6.out).mono ?_); rintro e w22 ⟨rfl, hb⟩; refine ⟨_, rfl, ?_⟩; have n0_ := Aside0.mk (blk_below (g := gb320) (o := .cells #[.int .i64 t316, .int .i64 t317, .int .i64 t318] 24 (0, 0)) (by (with_reducible repeat first|refine blk_drewN ?_ _|refine blk_drew ?_|refine blk_alloc ?_ _); refine blk_put (cs := #[.int .i64 t316, .int .i64 t317, .int .i64 0]) ?_ 2 _ rfl; (with_reducible repeat first|refine blk_drewN ?_ _|refine blk_drew ?_|refine blk_alloc ?_ _); refine blk_put (cs := #[.int .i64 t316, .int .i64 0, .int .i64 0]) ?_ 1 _ rfl; (with_reducible repeat first|refine blk_drewN ?_ _|refine blk_drew ?_|refine blk_alloc ?_ _); refine blk_put (cs := #[.int .i64 0, .int .i64 0, .int .i64 0]) ?_ 0 _ rfl; (with_reducible repeat first|refine blk_drewN ?_ _|refine blk_drew ?_|refine blk_alloc ?_ _); exact BK320.out) hb); have n1_ := Aside0.mk (below_step (by repeat (first | (with_reducible first | exact HB.out | apply below_alloc | apply pw_below_drewN | apply below_drew1 | refine below_set ?_ GE320.out) | exact HB.out)) hb); clear BK320; clear HB; have BK320 := n0_; have HB := n1_; clear n0_ n1_; (try clear hb); (try clear hb2); (try clear hk); (try clear hi)) | ((with_reducible refine gate_dst (N := 5) rfl ?_); refine box_event ?hg (N := 5) ?hd (cs := #[.int .i64 0, .int .i64 0, .int .i64 0]) (t := 24) ?hr ?_; (case hd => rfl); (case hg => rfl); (case hr => first | (go_simp; done) | (go_simp; rfl)); intro gb325 hg w23 hbox hb; have n0_ := Aside0.mk (blk_below (g := gb320) (o := .cells #[.int .i64 t316, .int .i64 t317, .int .i64 t318] 24 (0, 0)) (by (with_reducible repeat first|refine blk_drewN ?_ _|refine blk_drew ?_|refine blk_alloc ?_ _); exact BK320.out) hb); have n1_ := Aside0.mk (below_step (by repeat (first | (with_reducible first | exact HB.out | apply below_alloc | apply pw_below_drewN | apply below_drew1 | refine below_set ?_ GE320.out) | exact HB.out)) hb); have n2_ := Aside0.mk (hbox); have n3_ := Aside0.mk ((by rw [hg]; exact (below_size (by repeat (first | (with_reducible first | exact HB.out | apply below_alloc | apply pw_below_drewN | apply below_drew1 | refine below_set ?_ GE320.out) | exact HB.out))) : w.heap.size ≤ gb325)); have n4_ := Aside0.mk ((by rw [hg]; exact (below_size (by repeat (first | (with_reducible first | exact HB.out | apply below_alloc | apply pw_below_drewN | apply below_drew1 | refine below_set ?_ GE320.out) | exact HB.out))) : w.heap.size ≤ gb325)); have n5_ := Aside0.mk ((by rw [hg]; exact Nat.ne_of_lt (blk_lt (g := gb320) (o := .cells #[.int .i64 t316, .int .i64 t317, .int .i64 t318] 24 (0, 0)) (by (with_reducible repeat first|refine blk_drewN ?_ _|refine blk_drew ?_|refine blk_alloc ?_ _); exact BK320.out)) : gb320 ≠ gb325)); have n6_ := Aside0.mk ((by rw [hg]; exact Nat.ne_of_gt (blk_lt (g := gb320) (o := .cells #[.int .i64 t316, .int .i64 t317, .int .i64 t318] 24 (0, 0)) (by (with_reducible repeat first|refine blk_drewN ?_ _|refine blk_drew ?_|refine blk_alloc ?_ _); exact BK320.out)) : gb325 ≠ gb320)); clear BK320; clear HB; have BK320 := n0_; have HB := n1_; have BK325 := n2_; have GW325 := n3_; have GE325 := n4_; have NB320_325 := n5_; have NB325_320 := n6_; clear n0_ n1_ n2_ n3_ n4_ n5_ n6_; clear hb hbox hg; have hnb24 := NB325_320.out; have hnc24 := NB320_325.out; have hcz25_0 : w23.cell? ⟨gb325, 0, none⟩ = some (.int .i64 0) := (blk_cell BK325.out 0).trans rfl; have hcz25_1 : w23.cell? ⟨gb325, 1, none⟩ = some (.int .i64 0) := (blk_cell BK325.out 1).trans rfl; have hcz25_2 : w23.cell? ⟨gb325, 2, none⟩ = some (.int .i64 0) := (blk_cell BK325.out 2).trans rfl; have hfz25_0 := blk_frozen BK325.out 0; have hfz25_1 := blk_frozen BK325.out 1; have hfz25_2 := blk_frozen BK325.out 2) | ((with_reducible refine gate_callee (f := 23) rfl ?_); refine goesL_ (some 29) rfl rfl Try.func23 (by kernel_rfl) rfl #[.int .i64 a0] rfl (by (try simp only [List.map_toArray, List.map_cons, List.map_nil]); first | done | rfl | (simp only [List.length_drop, List.length_take]; rfl)) ?_; (with_reducible refine (pylonlaw03_day.calls a0 t315 _ A7.out).mono ?_); rintro e w' ⟨rfl, ⟨nd, rfl⟩⟩; refine ⟨_, rfl, ?_⟩))
    go_ret
    exact ⟨by first | rfl | (simp [errW_none, errW_some] <;> rfl) | (simp [*, errW_none, errW_some] <;> rfl), by repeat (first | (with_reducible first | exact HB.out | apply below_alloc | apply pw_below_drewN | apply below_drew1 | refine below_set ?_ GE320.out | refine below_set ?_ GE325.out) | exact HB.out)⟩
  ·rw [if_neg c8] at H
   have c8b0 : (t315 == 2932896) = false := beq_eq_false_iff_ne.mpr c8
   have c8b1 : (t315 != 2932896) = true := bne_iff_ne.mpr c8
   replace H := Option.bind_eq_some_iff.mp H
   obtain ⟨⟨t327, t328⟩, A260, H⟩ := H
   replace H : ((civil_Weekday.f t316 t317 t318).bind fun bt329 => ((civil_Weekday.f t321 t322 t323).bind fun bt331 => (if t324 = 0 then (if t328 = 0 then (if bt329.2 = 0 then (if bt331.2 = 0 then ((pylonlaw03_day.f a0).bind fun t333 => (if t327 = (wrap64 (t333 + 1)) then (if bt329.1 < 0 then (pylonlaw03_CivilNext.j0 k true t316 t317 t318 t321 t322 t323) else (if bt329.1 > 6 then (pylonlaw03_CivilNext.j0 k true t316 t317 t318 t321 t322 t323) else (if bt331.1 = (Int.tmod (wrap64 (bt329.1 + 1)) 7) then ((civil_Compare.f t316 t317 t318 t321 t322 t323).bind fun t334 => (if t334 = (-1) then ((civil_Compare.f t321 t322 t323 t316 t317 t318).bind fun t335 => (if t335 = 1 then ((civil_Compare.f t316 t317 t318 t316 t317 t318).bind fun t336 => (pylonlaw03_CivilNext.j0 k (t336 != 0) t316 t317 t318 t321 t322 t323)) else (pylonlaw03_CivilNext.j0 k true t316 t317 t318 t321 t322 t323))) else (pylonlaw03_CivilNext.j0 k true t316 t317 t318 t321 t322 t323))) else (pylonlaw03_CivilNext.j0 k true t316 t317 t318 t321 t322 t323)))) else (pylonlaw03_CivilNext.j0 k true t316 t317 t318 t321 t322 t323))) else (pylonlaw03_CivilNext.j0 k true t316 t317 t318 t321 t322 t323)) else (pylonlaw03_CivilNext.j0 k true t316 t317 t318 t321 t322 t323)) else (pylonlaw03_CivilNext.j0 k true t316 t317 t318 t321 t322 t323)) else (pylonlaw03_CivilNext.j0 k true t316 t317 t318 t321 t322 t323)))) = some r := H
   have A26 := Aside0.mk A260
   clear A260
   replace H := Option.bind_eq_some_iff.mp H
   obtain ⟨⟨t329, t330⟩, A270, H⟩ := H
   replace H : ((civil_Weekday.f t321 t322 t323).bind fun bt331 => (if t324 = 0 then (if t328 = 0 then (if t330 = 0 then (if bt331.2 = 0 then ((pylonlaw03_day.f a0).bind fun t333 => (if t327 = (wrap64 (t333 + 1)) then (if t329 < 0 then (pylonlaw03_CivilNext.j0 k true t316 t317 t318 t321 t322 t323) else (if t329 > 6 then (pylonlaw03_CivilNext.j0 k true t316 t317 t318 t321 t322 t323) else (if bt331.1 = (Int.tmod (wrap64 (t329 + 1)) 7) then ((civil_Compare.f t316 t317 t318 t321 t322 t323).bind fun t334 => (if t334 = (-1) then ((civil_Compare.f t321 t322 t323 t316 t317 t318).bind fun t335 => (if t335 = 1 then ((civil_Compare.f t316 t317 t318 t316 t317 t318).bind fun t336 => (pylonlaw03_CivilNext.j0 k (t336 != 0) t316 t317 t318 t321 t322 t323)) else (pylonlaw03_CivilNext.j0 k true t316 t317 t318 t321 t322 t323))) else (pylonlaw03_CivilNext.j0 k true t316 t317 t318 t321 t322 t323))) else (pylonlaw03_CivilNext.j0 k true t316 t317 t318 t321 t322 t323)))) else (pylonlaw03_CivilNext.j0 k true t316 t317 t318 t321 t322 t323))) else (pylonlaw03_CivilNext.j0 k true t316 t317 t318 t321 t322 t323)) else (pylonlaw03_CivilNext.j0 k true t316 t317 t318 t321 t322 t323)) else (pylonlaw03_CivilNext.j0 k true t316 t317 t318 t321 t322 t323)) else (pylonlaw03_CivilNext.j0 k true t316 t317 t318 t321 t322 t323))) = some r := H
   have A27 := Aside0.mk A270
   clear A270
   replace H := Option.bind_eq_some_iff.mp H
   obtain ⟨⟨t331, t332⟩, A280, H⟩ := H
   replace H : (if t324 = 0 then (if t328 = 0 then (if t330 = 0 then (if t332 = 0 then ((pylonlaw03_day.f a0).bind fun t333 => (if t327 = (wrap64 (t333 + 1)) then (if t329 < 0 then (pylonlaw03_CivilNext.j0 k true t316 t317 t318 t321 t322 t323) else (if t329 > 6 then (pylonlaw03_CivilNext.j0 k true t316 t317 t318 t321 t322 t323) else (if t331 = (Int.tmod (wrap64 (t329 + 1)) 7) then ((civil_Compare.f t316 t317 t318 t321 t322 t323).bind fun t334 => (if t334 = (-1) then ((civil_Compare.f t321 t322 t323 t316 t317 t318).bind fun t335 => (if t335 = 1 then ((civil_Compare.f t316 t317 t318 t316 t317 t318).bind fun t336 => (pylonlaw03_CivilNext.j0 k (t336 != 0) t316 t317 t318 t321 t322 t323)) else (pylonlaw03_CivilNext.j0 k true t316 t317 t318 t321 t322 t323))) else (pylonlaw03_CivilNext.j0 k true t316 t317 t318 t321 t322 t323))) else (pylonlaw03_CivilNext.j0 k true t316 t317 t318 t321 t322 t323)))) else (pylonlaw03_CivilNext.j0 k true t316 t317 t318 t321 t322 t323))) else (pylonlaw03_CivilNext.j0 k true t316 t317 t318 t321 t322 t323)) else (pylonlaw03_CivilNext.j0 k true t316 t317 t318 t321 t322 t323)) else (pylonlaw03_CivilNext.j0 k true t316 t317 t318 t321 t322 t323)) else (pylonlaw03_CivilNext.j0 k true t316 t317 t318 t321 t322 t323)) = some r := H
   have A28 := Aside0.mk A280
   clear A280
   have HC29 := Aside0.mk H
   clear H
   go_enter Try.func11, Try.ntmps11
   go_upto_region 10 with (first | ((with_reducible refine gate_callee (f := 16) rfl ?_); refine goesL_ (some 15) rfl rfl Try.func16 (by kernel_rfl) rfl #[] rfl (by (try simp only [List.map_toArray, List.map_cons, List.map_nil]); first | done | rfl | (simp only [List.length_drop, List.length_take]; rfl)) ?_; (with_reducible refine (pylonlaw03_awake.calls  true _ A2.out).mono ?_); rintro e w30 ⟨rfl, hb⟩; refine ⟨_, rfl, ?_⟩; have n0_ := Aside0.mk (below_step (by repeat (first | (with_reducible first | exact HB.out | apply below_alloc | apply pw_below_drewN | apply below_drew1) | exact HB.out)) hb); clear HB; have HB := n0_; clear n0_; (try clear hb); (try clear hb2); (try clear hk); (try clear hi)) | ((with_reducible refine gate_callee (f := 23) rfl ?_); refine goesL_ (some 19) rfl rfl Try.func23 (by kernel_rfl) rfl #[.int .i64 a0] rfl (by (try simp only [List.map_toArray, List.map_cons, List.map_nil]); first | done | rfl | (simp only [List.length_drop, List.length_take]; rfl)) ?_; (with_reducible refine (pylonlaw03_day.calls a0 t315 _ A4.out).mono ?_); rintro e w' ⟨rfl, ⟨nd, rfl⟩⟩; refine ⟨_, rfl, ?_⟩; (try (rw [drewN_self w30]; generalize hq_ : World.drewN w30 _ = w30; have n0_ : Aside0 (Below w.heap.size w w30) := ⟨by rw [← hq_]; exact (by repeat (first | (with_reducible first | exact HB.out | apply below_alloc | apply pw_below_drewN | apply below_drew1) | exact HB.out))⟩; clear HB hq_; have HB := n0_; clear n0_))) | ((with_reducible refine gate_callee (f := 22) rfl ?_); refine goesL_ (some 20) rfl rfl Try.func22 (by kernel_rfl) rfl #[.int .i64 t315] rfl (by (try simp only [List.map_toArray, List.map_cons, List.map_nil]); first | done | rfl | (simp only [List.length_drop, List.length_take]; rfl)) ?_; (with_reducible refine (civil_Of.calls t315 t316 t317 t318 t319 _ A5.out).mono ?_); rintro e w31 ⟨rfl, hb⟩; refine ⟨_, rfl, ?_⟩; have n0_ := Aside0.mk (below_step (by repeat (first | (with_reducible first | exact HB.out | apply below_alloc | apply pw_below_drewN | apply below_drew1) | exact HB.out)) hb); clear HB; have HB := n0_; clear n0_; (try clear hb); (try clear hb2); (try clear hk); (try clear hi)) | ((with_reducible refine gate_dst (N := 3) rfl ?_); refine box_event ?hg (N := 3) ?hd (cs := #[.int .i64 0, .int .i64 0, .int .i64 0]) (t := 24) ?hr ?_; (case hd => rfl); (case hg => rfl); (case hr => first | (go_simp; done) | (go_simp; rfl)); intro gb320 hg w32 hbox hb; have n0_ := Aside0.mk (below_step (by repeat (first | (with_reducible first | exact HB.out | apply below_alloc | apply pw_below_drewN | apply below_drew1) | exact HB.out)) hb); have n1_ := Aside0.mk (hbox); have n2_ := Aside0.mk ((by rw [hg]; exact (below_size (by repeat (first | (with_reducible first | exact HB.out | apply below_alloc | apply pw_below_drewN | apply below_drew1) | exact HB.out))) : w.heap.size ≤ gb320)); have n3_ := Aside0.mk ((by rw [hg]; exact (below_size (by repeat (first | (with_reducible first | exact HB.out | apply below_alloc | apply pw_below_drewN | apply below_drew1) | exact HB.out))) : w.heap.size ≤ gb320)); clear HB; have HB := n0_; have BK320 := n1_; have GW320 := n2_; have GE320 := n3_; clear n0_ n1_ n2_ n3_; clear hb hbox hg; have hcz33_0 : w32.cell? ⟨gb320, 0, none⟩ = some (.int .i64 0) := (blk_cell BK320.out 0).trans rfl; have hcz33_1 : w32.cell? ⟨gb320, 1, none⟩ = some (.int .i64 0) := (blk_cell BK320.out 1).trans rfl; have hcz33_2 : w32.cell? ⟨gb320, 2, none⟩ = some (.int .i64 0) := (blk_cell BK320.out 2).trans rfl; have hfz33_0 := blk_frozen BK320.out 0; have hfz33_1 := blk_frozen BK320.out 1; have hfz33_2 := blk_frozen BK320.out 2) | ((with_reducible refine gate_callee (f := 24) rfl ?_); refine goesL_ (some 25) rfl rfl Try.func24 (by kernel_rfl) rfl #[.agg #[.int .i64 t316, .int .i64 t317, .int .i64 t318], .int .i64 1] rfl (by (try simp only [List.map_toArray, List.map_cons, List.map_nil]); first | done | rfl | (simp only [List.length_drop, List.length_take]; rfl)) ?_; (with_reducible refine (civil_Add.calls t316 t317 t318 1 t321 t322 t323 t324 _ A6.out).mono ?_); rintro e w34 ⟨rfl, hb⟩; refine ⟨_, rfl, ?_⟩; have n0_ := Aside0.mk (blk_below (g := gb320) (o := .cells #[.int .i64 t316, .int .i64 t317, .int .i64 t318] 24 (0, 0)) (by (with_reducible repeat first|refine blk_drewN ?_ _|refine blk_drew ?_|refine blk_alloc ?_ _); refine blk_put (cs := #[.int .i64 t316, .int .i64 t317, .int .i64 0]) ?_ 2 _ rfl; (with_reducible repeat first|refine blk_drewN ?_ _|refine blk_drew ?_|refine blk_alloc ?_ _); refine blk_put (cs := #[.int .i64 t316, .int .i64 0, .int .i64 0]) ?_ 1 _ rfl; (with_reducible repeat first|refine blk_drewN ?_ _|refine blk_drew ?_|refine blk_alloc ?_ _); refine blk_put (cs := #[.int .i64 0, .int .i64 0, .int .i64 0]) ?_ 0 _ rfl; (with_reducible repeat first|refine blk_drewN ?_ _|refine blk_drew ?_|refine blk_alloc ?_ _); exact BK320.out) hb); have n1_ := Aside0.mk (below_step (by repeat (first | (with_reducible first | exact HB.out | apply below_alloc | apply pw_below_drewN | apply below_drew1 | refine below_set ?_ GE320.out) | exact HB.out)) hb); clear BK320; clear HB; have BK320 := n0_; have HB := n1_; clear n0_ n1_; (try clear hb); (try clear hb2); (try clear hk); (try clear hi)) | ((with_reducible refine gate_dst (N := 5) rfl ?_); refine box_event ?hg (N := 5) ?hd (cs := #[.int .i64 0, .int .i64 0, .int .i64 0]) (t := 24) ?hr ?_; (case hd => rfl); (case hg => rfl); (case hr => first | (go_simp; done) | (go_simp; rfl)); intro gb325 hg w35 hbox hb; have n0_ := Aside0.mk (blk_below (g := gb320) (o := .cells #[.int .i64 t316, .int .i64 t317, .int .i64 t318] 24 (0, 0)) (by (with_reducible repeat first|refine blk_drewN ?_ _|refine blk_drew ?_|refine blk_alloc ?_ _); exact BK320.out) hb); have n1_ := Aside0.mk (below_step (by repeat (first | (with_reducible first | exact HB.out | apply below_alloc | apply pw_below_drewN | apply below_drew1 | refine below_set ?_ GE320.out) | exact HB.out)) hb); have n2_ := Aside0.mk (hbox); have n3_ := Aside0.mk ((by rw [hg]; exact (below_size (by repeat (first | (with_reducible first | exact HB.out | apply below_alloc | apply pw_below_drewN | apply below_drew1 | refine below_set ?_ GE320.out) | exact HB.out))) : w.heap.size ≤ gb325)); have n4_ := Aside0.mk ((by rw [hg]; exact (below_size (by repeat (first | (with_reducible first | exact HB.out | apply below_alloc | apply pw_below_drewN | apply below_drew1 | refine below_set ?_ GE320.out) | exact HB.out))) : w.heap.size ≤ gb325)); have n5_ := Aside0.mk ((by rw [hg]; exact Nat.ne_of_lt (blk_lt (g := gb320) (o := .cells #[.int .i64 t316, .int .i64 t317, .int .i64 t318] 24 (0, 0)) (by (with_reducible repeat first|refine blk_drewN ?_ _|refine blk_drew ?_|refine blk_alloc ?_ _); exact BK320.out)) : gb320 ≠ gb325)); have n6_ := Aside0.mk ((by rw [hg]; exact Nat.ne_of_gt (blk_lt (g := gb320) (o := .cells #[.int .i64 t316, .int .i64 t317, .int .i64 t318] 24 (0, 0)) (by (with_reducible repeat first|refine blk_drewN ?_ _|refine blk_drew ?_|refine blk_alloc ?_ _); exact BK320.out)) : gb325 ≠ gb320)); clear BK320; clear HB; have BK320 := n0_; have HB := n1_; have BK325 := n2_; have GW325 := n3_; have GE325 := n4_; have NB320_325 := n5_; have NB325_320 := n6_; clear n0_ n1_ n2_ n3_ n4_ n5_ n6_; clear hb hbox hg; have hnb36 := NB325_320.out; have hnc36 := NB320_325.out; have hcz37_0 : w35.cell? ⟨gb325, 0, none⟩ = some (.int .i64 0) := (blk_cell BK325.out 0).trans rfl; have hcz37_1 : w35.cell? ⟨gb325, 1, none⟩ = some (.int .i64 0) := (blk_cell BK325.out 1).trans rfl; have hcz37_2 : w35.cell? ⟨gb325, 2, none⟩ = some (.int .i64 0) := (blk_cell BK325.out 2).trans rfl; have hfz37_0 := blk_frozen BK325.out 0; have hfz37_1 := blk_frozen BK325.out 1; have hfz37_2 := blk_frozen BK325.out 2) | ((with_reducible refine gate_callee (f := 23) rfl ?_); refine goesL_ (some 29) rfl rfl Try.func23 (by kernel_rfl) rfl #[.int .i64 a0] rfl (by (try simp only [List.map_toArray, List.map_cons, List.map_nil]); first | done | rfl | (simp only [List.length_drop, List.length_take]; rfl)) ?_; (with_reducible refine (pylonlaw03_day.calls a0 t315 _ A7.out).mono ?_); rintro e w' ⟨rfl, ⟨nd, rfl⟩⟩; refine ⟨_, rfl, ?_⟩) | ((with_reducible refine gate_callee (f := 19) rfl ?_); refine goesL_ (some 40) rfl rfl Try.func19 (by kernel_rfl) rfl #[.agg #[.int .i64 t321, .int .i64 t322, .int .i64 t323]] rfl (by (try simp only [List.map_toArray, List.map_cons, List.map_nil]); first | done | rfl | (simp only [List.length_drop, List.length_take]; rfl)) ?_; (with_reducible refine (civil_Days.calls t321 t322 t323 t327 t328 _ A26.out).mono ?_); rintro e w38 ⟨rfl, hb⟩; refine ⟨_, rfl, ?_⟩; have n0_ := Aside0.mk (blk_below (g := gb320) (o := .cells #[.int .i64 t316, .int .i64 t317, .int .i64 t318] 24 (0, 0)) (by (with_reducible repeat first|refine blk_drewN ?_ _|refine blk_drew ?_|refine blk_alloc ?_ _); refine blk_far ?_ NB320_325.out _; (with_reducible repeat first|refine blk_drewN ?_ _|refine blk_drew ?_|refine blk_alloc ?_ _); refine blk_far ?_ NB320_325.out _; (with_reducible repeat first|refine blk_drewN ?_ _|refine blk_drew ?_|refine blk_alloc ?_ _); refine blk_far ?_ NB320_325.out _; (with_reducible repeat first|refine blk_drewN ?_ _|refine blk_drew ?_|refine blk_alloc ?_ _); exact BK320.out) hb); have n1_ := Aside0.mk (blk_below (g := gb325) (o := .cells #[.int .i64 t321, .int .i64 t322, .int .i64 t323] 24 (0, 0)) (by (with_reducible repeat first|refine blk_drewN ?_ _|refine blk_drew ?_|refine blk_alloc ?_ _); refine blk_put (cs := #[.int .i64 t321, .int .i64 t322, .int .i64 0]) ?_ 2 _ rfl; (with_reducible repeat first|refine blk_drewN ?_ _|refine blk_drew ?_|refine blk_alloc ?_ _); refine blk_put (cs := #[.int .i64 t321, .int .i64 0, .int .i64 0]) ?_ 1 _ rfl; (with_reducible repeat first|refine blk_drewN ?_ _|refine blk_drew ?_|refine blk_alloc ?_ _); refine blk_put (cs := #[.int .i64 0, .int .i64 0, .int .i64 0]) ?_ 0 _ rfl; (with_reducible repeat first|refine blk_drewN ?_ _|refine blk_drew ?_|refine blk_alloc ?_ _); exact BK325.out) hb); have n2_ := Aside0.mk (below_step (by repeat (first | (with_reducible first | exact HB.out | apply below_alloc | apply pw_below_drewN | apply below_drew1 | refine below_set ?_ GE320.out | refine below_set ?_ GE325.out) | exact HB.out)) hb); clear BK320; clear BK325; clear HB; have BK320 := n0_; have BK325 := n1_; have HB := n2_; clear n0_ n1_ n2_; (try clear hb); (try clear hb2); (try clear hk); (try clear hi); have hcz39_0 : w38.cell? ⟨gb320, 0, none⟩ = some (.int .i64 t316) := (blk_cell BK320.out 0).trans rfl; have hcz39_1 : w38.cell? ⟨gb320, 1, none⟩ = some (.int .i64 t317) := (blk_cell BK320.out 1).trans rfl; have hcz39_2 : w38.cell? ⟨gb320, 2, none⟩ = some (.int .i64 t318) := (blk_cell BK320.out 2).trans rfl; have hfz39_0 := blk_frozen BK320.out 0; have hfz39_1 := blk_frozen BK320.out 1; have hfz39_2 := blk_frozen BK320.out 2) | ((with_reducible refine gate_callee (f := 21) rfl ?_); refine goesL_ (some 45) rfl rfl Try.func21 (by kernel_rfl) rfl #[.agg #[.int .i64 t316, .int .i64 t317, .int .i64 t318]] rfl (by (try simp only [List.map_toArray, List.map_cons, List.map_nil]); first | done | rfl | (simp only [List.length_drop, List.length_take]; rfl)) ?_; (with_reducible refine (civil_Weekday.calls t316 t317 t318 t329 t330 _ A27.out).mono ?_); rintro e w40 ⟨rfl, hb⟩; refine ⟨_, rfl, ?_⟩; have n0_ := Aside0.mk (blk_below (g := gb320) (o := .cells #[.int .i64 t316, .int .i64 t317, .int .i64 t318] 24 (0, 0)) (by (with_reducible repeat first|refine blk_drewN ?_ _|refine blk_drew ?_|refine blk_alloc ?_ _); exact BK320.out) hb); have n1_ := Aside0.mk (blk_below (g := gb325) (o := .cells #[.int .i64 t321, .int .i64 t322, .int .i64 t323] 24 (0, 0)) (by (with_reducible repeat first|refine blk_drewN ?_ _|refine blk_drew ?_|refine blk_alloc ?_ _); exact BK325.out) hb); have n2_ := Aside0.mk (below_step (by repeat (first | (with_reducible first | exact HB.out | apply below_alloc | apply pw_below_drewN | apply below_drew1 | refine below_set ?_ GE320.out | refine below_set ?_ GE325.out) | exact HB.out)) hb); clear BK320; clear BK325; clear HB; have BK320 := n0_; have BK325 := n1_; have HB := n2_; clear n0_ n1_ n2_; (try clear hb); (try clear hb2); (try clear hk); (try clear hi); have hcz41_0 : w40.cell? ⟨gb325, 0, none⟩ = some (.int .i64 t321) := (blk_cell BK325.out 0).trans rfl; have hcz41_1 : w40.cell? ⟨gb325, 1, none⟩ = some (.int .i64 t322) := (blk_cell BK325.out 1).trans rfl; have hcz41_2 : w40.cell? ⟨gb325, 2, none⟩ = some (.int .i64 t323) := (blk_cell BK325.out 2).trans rfl; have hfz41_0 := blk_frozen BK325.out 0; have hfz41_1 := blk_frozen BK325.out 1; have hfz41_2 := blk_frozen BK325.out 2) | ((with_reducible refine gate_callee (f := 21) rfl ?_); refine goesL_ (some 50) rfl rfl Try.func21 (by kernel_rfl) rfl #[.agg #[.int .i64 t321, .int .i64 t322, .int .i64 t323]] rfl (by (try simp only [List.map_toArray, List.map_cons, List.map_nil]); first | done | rfl | (simp only [List.length_drop, List.length_take]; rfl)) ?_; (with_reducible refine (civil_Weekday.calls t321 t322 t323 t331 t332 _ A28.out).mono ?_); rintro e w42 ⟨rfl, hb⟩; refine ⟨_, rfl, ?_⟩; have n0_ := Aside0.mk (blk_below (g := gb320) (o := .cells #[.int .i64 t316, .int .i64 t317, .int .i64 t318] 24 (0, 0)) (by (with_reducible repeat first|refine blk_drewN ?_ _|refine blk_drew ?_|refine blk_alloc ?_ _); exact BK320.out) hb); have n1_ := Aside0.mk (blk_below (g := gb325) (o := .cells #[.int .i64 t321, .int .i64 t322, .int .i64 t323] 24 (0, 0)) (by (with_reducible repeat first|refine blk_drewN ?_ _|refine blk_drew ?_|refine blk_alloc ?_ _); exact BK325.out) hb); have n2_ := Aside0.mk (below_step (by repeat (first | (with_reducible first | exact HB.out | apply below_alloc | apply pw_below_drewN | apply below_drew1 | refine below_set ?_ GE320.out | refine below_set ?_ GE325.out) | exact HB.out)) hb); clear BK320; clear BK325; clear HB; have BK320 := n0_; have BK325 := n1_; have HB := n2_; clear n0_ n1_ n2_; (try clear hb); (try clear hb2); (try clear hk); (try clear hi)))
   (try simp only [Act.put, List.setIfInBounds_toArray, List.set_cons_zero, List.set_cons_succ])
   go_cut [106] (fun v106 wc => ∃ (kq : Nat) (x106_28 : Bool), v106 = .bool x106_28 ∧ Aside0 (pylonlaw03_CivilNext.j0 kq x106_28 t316 t317 t318 t321 t322 t323 = some r) ∧ Aside0 (kq ≤ k) ∧ Aside0 (wc.heap[gb320]? = some (.cells #[.int .i64 t316, .int .i64 t317, .int .i64 t318] 24 (0, 0))) ∧ Aside0 (wc.heap[gb325]? = some (.cells #[.int .i64 t321, .int .i64 t322, .int .i64 t323] 24 (0, 0))) ∧ Aside0 (Below w.heap.size w wc))
   case first =>
    have H := HC29.out
    clear HC29
    by_cases c43 : t324 = 0
    ·rw [if_pos c43] at H
     have c43b0 : (t324 == 0) = true := beq_iff_eq.mpr c43
     have c43b1 : (t324 != 0) = false := bne_eq_false_iff_eq.mpr c43
     clear c43
     (first | rw [c43b0] | (simp only [i64_w, i32_w]; rw [c43b0]) | skip)
     by_cases c44 : t328 = 0
     ·rw [if_pos c44] at H
      have c44b0 : (t328 == 0) = true := beq_iff_eq.mpr c44
      have c44b1 : (t328 != 0) = false := bne_eq_false_iff_eq.mpr c44
      clear c44
      by_cases c45 : t330 = 0
      ·rw [if_pos c45] at H
       have c45b0 : (t330 == 0) = true := beq_iff_eq.mpr c45
       have c45b1 : (t330 != 0) = false := bne_eq_false_iff_eq.mpr c45
       clear c45
       by_cases c46 : t332 = 0
       ·rw [if_pos c46] at H
        have c46b0 : (t332 == 0) = true := beq_iff_eq.mpr c46
        have c46b1 : (t332 != 0) = false := bne_eq_false_iff_eq.mpr c46
        clear c46
        replace H := Option.bind_eq_some_iff.mp H
        obtain ⟨t333, A470, H⟩ := H
        obtain rfl : t315 = t333 := Option.some.inj (A4.out.symm.trans A470)
        replace H : (if t327 = (wrap64 (t315 + 1)) then (if t329 < 0 then (pylonlaw03_CivilNext.j0 k true t316 t317 t318 t321 t322 t323) else (if t329 > 6 then (pylonlaw03_CivilNext.j0 k true t316 t317 t318 t321 t322 t323) else (if t331 = (Int.tmod (wrap64 (t329 + 1)) 7) then ((civil_Compare.f t316 t317 t318 t321 t322 t323).bind fun t334 => (if t334 = (-1) then ((civil_Compare.f t321 t322 t323 t316 t317 t318).bind fun t335 => (if t335 = 1 then ((civil_Compare.f t316 t317 t318 t316 t317 t318).bind fun t336 => (pylonlaw03_CivilNext.j0 k (t336 != 0) t316 t317 t318 t321 t322 t323)) else (pylonlaw03_CivilNext.j0 k true t316 t317 t318 t321 t322 t323))) else (pylonlaw03_CivilNext.j0 k true t316 t317 t318 t321 t322 t323))) else (pylonlaw03_CivilNext.j0 k true t316 t317 t318 t321 t322 t323)))) else (pylonlaw03_CivilNext.j0 k true t316 t317 t318 t321 t322 t323)) = some r := H
        have A47 := Aside0.mk A470
        clear A470
        by_cases c48 : t327 = (wrap64 (t315 + 1))
        ·rw [if_pos c48] at H
         have c48b0 : (t327 == (wrap64 (t315 + 1))) = true := beq_iff_eq.mpr c48
         have c48b1 : (t327 != (wrap64 (t315 + 1))) = false := bne_eq_false_iff_eq.mpr c48
         clear c48
         by_cases c49 : t329 < 0
         ·rw [if_pos c49] at H
          have c49b0 : decide (t329 < 0) = true := decide_eq_true c49
          clear c49
          have H' := Aside0.mk H
          clear H
          go_wp2_with (first | (go_at_call 23; (with_reducible refine (pylonlaw03_day.calls a0 t315 _ A47.out).mono ?_); rintro e w' ⟨rfl, ⟨nd, rfl⟩⟩))
          go_meet
          case rel => exact ⟨_, (true), (by first | rfl | (simp; done) | (simp [*]; done)), H', ⟨by first | omega | exact Nat.le_refl _⟩, ⟨by (with_reducible repeat first|refine blk_drewN ?_ _|refine blk_drew ?_|refine blk_alloc ?_ _); exact BK320.out⟩, ⟨by (with_reducible repeat first|refine blk_drewN ?_ _|refine blk_drew ?_|refine blk_alloc ?_ _); exact BK325.out⟩, ⟨by repeat (first | (with_reducible first | exact HB.out | apply below_alloc | apply pw_below_drewN | apply below_drew1 | refine below_set ?_ GE320.out | refine below_set ?_ GE325.out) | exact HB.out)⟩⟩
         ·rw [if_neg c49] at H
          have c49b0 : decide (t329 < 0) = false := decide_eq_false c49
          clear c49
          by_cases c50 : t329 > 6
          ·rw [if_pos c50] at H
           have c50b0 : decide (6 < t329) = true := decide_eq_true c50
           clear c50
           have H' := Aside0.mk H
           clear H
           go_wp2_with (first | (go_at_call 23; (with_reducible refine (pylonlaw03_day.calls a0 t315 _ A47.out).mono ?_); rintro e w' ⟨rfl, ⟨nd, rfl⟩⟩))
           go_meet
           case rel => exact ⟨_, (true), (by first | rfl | (simp; done) | (simp [*]; done)), H', ⟨by first | omega | exact Nat.le_refl _⟩, ⟨by (with_reducible repeat first|refine blk_drewN ?_ _|refine blk_drew ?_|refine blk_alloc ?_ _); exact BK320.out⟩, ⟨by (with_reducible repeat first|refine blk_drewN ?_ _|refine blk_drew ?_|refine blk_alloc ?_ _); exact BK325.out⟩, ⟨by repeat (first | (with_reducible first | exact HB.out | apply below_alloc | apply pw_below_drewN | apply below_drew1 | refine below_set ?_ GE320.out | refine below_set ?_ GE325.out) | exact HB.out)⟩⟩
          ·rw [if_neg c50] at H
           have c50b0 : decide (6 < t329) = false := decide_eq_false c50
           clear c50
           by_cases c51 : t331 = (Int.tmod (wrap64 (t329 + 1)) 7)
           ·rw [if_pos c51] at H
            have c51b0 : (t331 == (Int.tmod (wrap64 (t329 + 1)) 7)) = true := beq_iff_eq.mpr c51
            have c51b1 : (t331 != (Int.tmod (wrap64 (t329 + 1)) 7)) = false := bne_eq_false_iff_eq.mpr c51
            clear c51
            replace H := Option.bind_eq_some_iff.mp H
            obtain ⟨t334, A520, H⟩ := H
            replace H : (if t334 = (-1) then ((civil_Compare.f t321 t322 t323 t316 t317 t318).bind fun t335 => (if t335 = 1 then ((civil_Compare.f t316 t317 t318 t316 t317 t318).bind fun t336 => (pylonlaw03_CivilNext.j0 k (t336 != 0) t316 t317 t318 t321 t322 t323)) else (pylonlaw03_CivilNext.j0 k true t316 t317 t318 t321 t322 t323))) else (pylonlaw03_CivilNext.j0 k true t316 t317 t318 t321 t322 t323)) = some r := H
            have A52 := Aside0.mk A520
            clear A520
            by_cases c53 : t334 = (-1)
            ·rw [if_pos c53] at H
             have c53b0 : (t334 == (-1)) = true := beq_iff_eq.mpr c53
             have c53b1 : (t334 != (-1)) = false := bne_eq_false_iff_eq.mpr c53
             clear c53
             replace H := Option.bind_eq_some_iff.mp H
             obtain ⟨t335, A540, H⟩ := H
             replace H : (if t335 = 1 then ((civil_Compare.f t316 t317 t318 t316 t317 t318).bind fun t336 => (pylonlaw03_CivilNext.j0 k (t336 != 0) t316 t317 t318 t321 t322 t323)) else (pylonlaw03_CivilNext.j0 k true t316 t317 t318 t321 t322 t323)) = some r := H
             have A54 := Aside0.mk A540
             clear A540
             by_cases c55 : t335 = 1
             ·rw [if_pos c55] at H
              have c55b0 : (t335 == 1) = true := beq_iff_eq.mpr c55
              have c55b1 : (t335 != 1) = false := bne_eq_false_iff_eq.mpr c55
              clear c55
              replace H := Option.bind_eq_some_iff.mp H
              obtain ⟨t336, A560, H⟩ := H
              replace H : (pylonlaw03_CivilNext.j0 k (t336 != 0) t316 t317 t318 t321 t322 t323) = some r := H
              have A56 := Aside0.mk A560
              clear A560
              have H' := Aside0.mk H
              clear H
              go_wp2_with (first | (go_at_call 23; (with_reducible refine (pylonlaw03_day.calls a0 t315 _ A47.out).mono ?_); rintro e w' ⟨rfl, ⟨nd, rfl⟩⟩; have hnb57 := NB320_325.out; have hnc57 := NB325_320.out; have hcz58_0 : w42.cell? ⟨gb320, 0, none⟩ = some (.int .i64 t316) := (blk_cell BK320.out 0).trans rfl; have hcz58_1 : w42.cell? ⟨gb320, 1, none⟩ = some (.int .i64 t317) := (blk_cell BK320.out 1).trans rfl; have hcz58_2 : w42.cell? ⟨gb320, 2, none⟩ = some (.int .i64 t318) := (blk_cell BK320.out 2).trans rfl; have hfz58_0 := blk_frozen BK320.out 0; have hfz58_1 := blk_frozen BK320.out 1; have hfz58_2 := blk_frozen BK320.out 2; have hcz59_0 : w42.cell? ⟨gb325, 0, none⟩ = some (.int .i64 t321) := (blk_cell BK325.out 0).trans rfl; have hcz59_1 : w42.cell? ⟨gb325, 1, none⟩ = some (.int .i64 t322) := (blk_cell BK325.out 1).trans rfl; have hcz59_2 : w42.cell? ⟨gb325, 2, none⟩ = some (.int .i64 t323) := (blk_cell BK325.out 2).trans rfl; have hfz59_0 := blk_frozen BK325.out 0; have hfz59_1 := blk_frozen BK325.out 1; have hfz59_2 := blk_frozen BK325.out 2) | (go_at_call 34; (with_reducible refine (civil_Compare.calls t316 t317 t318 t321 t322 t323 t334 _ A52.out).mono ?_); rintro e w60 ⟨rfl, hb⟩; have n0_ := Aside0.mk (blk_below (g := gb320) (o := .cells #[.int .i64 t316, .int .i64 t317, .int .i64 t318] 24 (0, 0)) (by (with_reducible repeat first|refine blk_drewN ?_ _|refine blk_drew ?_|refine blk_alloc ?_ _); exact BK320.out) hb); have n1_ := Aside0.mk (blk_below (g := gb325) (o := .cells #[.int .i64 t321, .int .i64 t322, .int .i64 t323] 24 (0, 0)) (by (with_reducible repeat first|refine blk_drewN ?_ _|refine blk_drew ?_|refine blk_alloc ?_ _); exact BK325.out) hb); have n2_ := Aside0.mk (below_step (by repeat (first | (with_reducible first | exact HB.out | apply below_alloc | apply pw_below_drewN | apply below_drew1 | refine below_set ?_ GE320.out | refine below_set ?_ GE325.out) | exact HB.out)) hb); clear BK320; clear BK325; clear HB; have BK320 := n0_; have BK325 := n1_; have HB := n2_; clear n0_ n1_ n2_; (try clear hb); (try clear hb2); (try clear hk); (try clear hi); have hcz61_0 : w60.cell? ⟨gb325, 0, none⟩ = some (.int .i64 t321) := (blk_cell BK325.out 0).trans rfl; have hcz61_1 : w60.cell? ⟨gb325, 1, none⟩ = some (.int .i64 t322) := (blk_cell BK325.out 1).trans rfl; have hcz61_2 : w60.cell? ⟨gb325, 2, none⟩ = some (.int .i64 t323) := (blk_cell BK325.out 2).trans rfl; have hfz61_0 := blk_frozen BK325.out 0; have hfz61_1 := blk_frozen BK325.out 1; have hfz61_2 := blk_frozen BK325.out 2; have hcz62_0 : w60.cell? ⟨gb320, 0, none⟩ = some (.int .i64 t316) := (blk_cell BK320.out 0).trans rfl; have hcz62_1 : w60.cell? ⟨gb320, 1, none⟩ = some (.int .i64 t317) := (blk_cell BK320.out 1).trans rfl; have hcz62_2 : w60.cell? ⟨gb320, 2, none⟩ = some (.int .i64 t318) := (blk_cell BK320.out 2).trans rfl; have hfz62_0 := blk_frozen BK320.out 0; have hfz62_1 := blk_frozen BK320.out 1; have hfz62_2 := blk_frozen BK320.out 2) | (go_at_call 34; (with_reducible refine (civil_Compare.calls t321 t322 t323 t316 t317 t318 t335 _ A54.out).mono ?_); rintro e w63 ⟨rfl, hb⟩; have n0_ := Aside0.mk (blk_below (g := gb320) (o := .cells #[.int .i64 t316, .int .i64 t317, .int .i64 t318] 24 (0, 0)) (by (with_reducible repeat first|refine blk_drewN ?_ _|refine blk_drew ?_|refine blk_alloc ?_ _); exact BK320.out) hb); have n1_ := Aside0.mk (blk_below (g := gb325) (o := .cells #[.int .i64 t321, .int .i64 t322, .int .i64 t323] 24 (0, 0)) (by (with_reducible repeat first|refine blk_drewN ?_ _|refine blk_drew ?_|refine blk_alloc ?_ _); exact BK325.out) hb); have n2_ := Aside0.mk (below_step (by repeat (first | (with_reducible first | exact HB.out | apply below_alloc | apply pw_below_drewN | apply below_drew1 | refine below_set ?_ GE320.out | refine below_set ?_ GE325.out) | exact HB.out)) hb); clear BK320; clear BK325; clear HB; have BK320 := n0_; have BK325 := n1_; have HB := n2_; clear n0_ n1_ n2_; (try clear hb); (try clear hb2); (try clear hk); (try clear hi); have hcz64_0 : w63.cell? ⟨gb320, 0, none⟩ = some (.int .i64 t316) := (blk_cell BK320.out 0).trans rfl; have hcz64_1 : w63.cell? ⟨gb320, 1, none⟩ = some (.int .i64 t317) := (blk_cell BK320.out 1).trans rfl; have hcz64_2 : w63.cell? ⟨gb320, 2, none⟩ = some (.int .i64 t318) := (blk_cell BK320.out 2).trans rfl; have hfz64_0 := blk_frozen BK320.out 0; have hfz64_1 := blk_frozen BK320.out 1; have hfz64_2 := blk_frozen BK320.out 2) | (go_at_call 34; (with_reducible refine (civil_Compare.calls t316 t317 t318 t316 t317 t318 t336 _ A56.out).mono ?_); rintro e w65 ⟨rfl, hb⟩; have n0_ := Aside0.mk (blk_below (g := gb320) (o := .cells #[.int .i64 t316, .int .i64 t317, .int .i64 t318] 24 (0, 0)) (by (with_reducible repeat first|refine blk_drewN ?_ _|refine blk_drew ?_|refine blk_alloc ?_ _); exact BK320.out) hb); have n1_ := Aside0.mk (blk_below (g := gb325) (o := .cells #[.int .i64 t321, .int .i64 t322, .int .i64 t323] 24 (0, 0)) (by (with_reducible repeat first|refine blk_drewN ?_ _|refine blk_drew ?_|refine blk_alloc ?_ _); exact BK325.out) hb); have n2_ := Aside0.mk (below_step (by repeat (first | (with_reducible first | exact HB.out | apply below_alloc | apply pw_below_drewN | apply below_drew1 | refine below_set ?_ GE320.out | refine below_set ?_ GE325.out) | exact HB.out)) hb); clear BK320; clear BK325; clear HB; have BK320 := n0_; have BK325 := n1_; have HB := n2_; clear n0_ n1_ n2_; (try clear hb); (try clear hb2); (try clear hk); (try clear hi)))
              go_meet
              case rel => exact ⟨_, ((t336 != 0)), (by first | rfl | (simp; done) | (simp [*]; done)), H', ⟨by first | omega | exact Nat.le_refl _⟩, ⟨by (with_reducible repeat first|refine blk_drewN ?_ _|refine blk_drew ?_|refine blk_alloc ?_ _); exact BK320.out⟩, ⟨by (with_reducible repeat first|refine blk_drewN ?_ _|refine blk_drew ?_|refine blk_alloc ?_ _); exact BK325.out⟩, ⟨by repeat (first | (with_reducible first | exact HB.out | apply below_alloc | apply pw_below_drewN | apply below_drew1 | refine below_set ?_ GE320.out | refine below_set ?_ GE325.out) | exact HB.out)⟩⟩
             ·rw [if_neg c55] at H
              have c55b0 : (t335 == 1) = false := beq_eq_false_iff_ne.mpr c55
              have c55b1 : (t335 != 1) = true := bne_iff_ne.mpr c55
              have H' := Aside0.mk H
              clear H
              go_wp2_with (first | (go_at_call 23; (with_reducible refine (pylonlaw03_day.calls a0 t315 _ A47.out).mono ?_); rintro e w' ⟨rfl, ⟨nd, rfl⟩⟩; have hnb66 := NB320_325.out; have hnc66 := NB325_320.out; have hcz67_0 : w42.cell? ⟨gb320, 0, none⟩ = some (.int .i64 t316) := (blk_cell BK320.out 0).trans rfl; have hcz67_1 : w42.cell? ⟨gb320, 1, none⟩ = some (.int .i64 t317) := (blk_cell BK320.out 1).trans rfl; have hcz67_2 : w42.cell? ⟨gb320, 2, none⟩ = some (.int .i64 t318) := (blk_cell BK320.out 2).trans rfl; have hfz67_0 := blk_frozen BK320.out 0; have hfz67_1 := blk_frozen BK320.out 1; have hfz67_2 := blk_frozen BK320.out 2; have hcz68_0 : w42.cell? ⟨gb325, 0, none⟩ = some (.int .i64 t321) := (blk_cell BK325.out 0).trans rfl; have hcz68_1 : w42.cell? ⟨gb325, 1, none⟩ = some (.int .i64 t322) := (blk_cell BK325.out 1).trans rfl; have hcz68_2 : w42.cell? ⟨gb325, 2, none⟩ = some (.int .i64 t323) := (blk_cell BK325.out 2).trans rfl; have hfz68_0 := blk_frozen BK325.out 0; have hfz68_1 := blk_frozen BK325.out 1; have hfz68_2 := blk_frozen BK325.out 2) | (go_at_call 34; (with_reducible refine (civil_Compare.calls t316 t317 t318 t321 t322 t323 t334 _ A52.out).mono ?_); rintro e w69 ⟨rfl, hb⟩; have n0_ := Aside0.mk (blk_below (g := gb320) (o := .cells #[.int .i64 t316, .int .i64 t317, .int .i64 t318] 24 (0, 0)) (by (with_reducible repeat first|refine blk_drewN ?_ _|refine blk_drew ?_|refine blk_alloc ?_ _); exact BK320.out) hb); have n1_ := Aside0.mk (blk_below (g := gb325) (o := .cells #[.int .i64 t321, .int .i64 t322, .int .i64 t323] 24 (0, 0)) (by (with_reducible repeat first|refine blk_drewN ?_ _|refine blk_drew ?_|refine blk_alloc ?_ _); exact BK325.out) hb); have n2_ := Aside0.mk (below_step (by repeat (first | (with_reducible first | exact HB.out | apply below_alloc | apply pw_below_drewN | apply below_drew1 | refine below_set ?_ GE320.out | refine below_set ?_ GE325.out) | exact HB.out)) hb); clear BK320; clear BK325; clear HB; have BK320 := n0_; have BK325 := n1_; have HB := n2_; clear n0_ n1_ n2_; (try clear hb); (try clear hb2); (try clear hk); (try clear hi); have hcz70_0 : w69.cell? ⟨gb325, 0, none⟩ = some (.int .i64 t321) := (blk_cell BK325.out 0).trans rfl; have hcz70_1 : w69.cell? ⟨gb325, 1, none⟩ = some (.int .i64 t322) := (blk_cell BK325.out 1).trans rfl; have hcz70_2 : w69.cell? ⟨gb325, 2, none⟩ = some (.int .i64 t323) := (blk_cell BK325.out 2).trans rfl; have hfz70_0 := blk_frozen BK325.out 0; have hfz70_1 := blk_frozen BK325.out 1; have hfz70_2 := blk_frozen BK325.out 2; have hcz71_0 : w69.cell? ⟨gb320, 0, none⟩ = some (.int .i64 t316) := (blk_cell BK320.out 0).trans rfl; have hcz71_1 : w69.cell? ⟨gb320, 1, none⟩ = some (.int .i64 t317) := (blk_cell BK320.out 1).trans rfl; have hcz71_2 : w69.cell? ⟨gb320, 2, none⟩ = some (.int .i64 t318) := (blk_cell BK320.out 2).trans rfl; have hfz71_0 := blk_frozen BK320.out 0; have hfz71_1 := blk_frozen BK320.out 1; have hfz71_2 := blk_frozen BK320.out 2) | (go_at_call 34; (with_reducible refine (civil_Compare.calls t321 t322 t323 t316 t317 t318 t335 _ A54.out).mono ?_); rintro e w72 ⟨rfl, hb⟩; have n0_ := Aside0.mk (blk_below (g := gb320) (o := .cells #[.int .i64 t316, .int .i64 t317, .int .i64 t318] 24 (0, 0)) (by (with_reducible repeat first|refine blk_drewN ?_ _|refine blk_drew ?_|refine blk_alloc ?_ _); exact BK320.out) hb); have n1_ := Aside0.mk (blk_below (g := gb325) (o := .cells #[.int .i64 t321, .int .i64 t322, .int .i64 t323] 24 (0, 0)) (by (with_reducible repeat first|refine blk_drewN ?_ _|refine blk_drew ?_|refine blk_alloc ?_ _); exact BK325.out) hb); have n2_ := Aside0.mk (below_step (by repeat (first | (with_reducible first | exact HB.out | apply below_alloc | apply pw_below_drewN | apply below_drew1 | refine below_set ?_ GE320.out | refine below_set ?_ GE325.out) | exact HB.out)) hb); clear BK320; clear BK325; clear HB; have BK320 := n0_; have BK325 := n1_; have HB := n2_; clear n0_ n1_ n2_; (try clear hb); (try clear hb2); (try clear hk); (try clear hi)))
              go_meet
              case rel => exact ⟨_, (true), (by first | rfl | (simp; done) | (simp [*]; done)), H', ⟨by first | omega | exact Nat.le_refl _⟩, ⟨by (with_reducible repeat first|refine blk_drewN ?_ _|refine blk_drew ?_|refine blk_alloc ?_ _); exact BK320.out⟩, ⟨by (with_reducible repeat first|refine blk_drewN ?_ _|refine blk_drew ?_|refine blk_alloc ?_ _); exact BK325.out⟩, ⟨by repeat (first | (with_reducible first | exact HB.out | apply below_alloc | apply pw_below_drewN | apply below_drew1 | refine below_set ?_ GE320.out | refine below_set ?_ GE325.out) | exact HB.out)⟩⟩
            ·rw [if_neg c53] at H
             have c53b0 : (t334 == (-1)) = false := beq_eq_false_iff_ne.mpr c53
             have c53b1 : (t334 != (-1)) = true := bne_iff_ne.mpr c53
             have H' := Aside0.mk H
             clear H
             go_wp2_with (first | (go_at_call 23; (with_reducible refine (pylonlaw03_day.calls a0 t315 _ A47.out).mono ?_); rintro e w' ⟨rfl, ⟨nd, rfl⟩⟩; have hnb73 := NB320_325.out; have hnc73 := NB325_320.out; have hcz74_0 : w42.cell? ⟨gb320, 0, none⟩ = some (.int .i64 t316) := (blk_cell BK320.out 0).trans rfl; have hcz74_1 : w42.cell? ⟨gb320, 1, none⟩ = some (.int .i64 t317) := (blk_cell BK320.out 1).trans rfl; have hcz74_2 : w42.cell? ⟨gb320, 2, none⟩ = some (.int .i64 t318) := (blk_cell BK320.out 2).trans rfl; have hfz74_0 := blk_frozen BK320.out 0; have hfz74_1 := blk_frozen BK320.out 1; have hfz74_2 := blk_frozen BK320.out 2; have hcz75_0 : w42.cell? ⟨gb325, 0, none⟩ = some (.int .i64 t321) := (blk_cell BK325.out 0).trans rfl; have hcz75_1 : w42.cell? ⟨gb325, 1, none⟩ = some (.int .i64 t322) := (blk_cell BK325.out 1).trans rfl; have hcz75_2 : w42.cell? ⟨gb325, 2, none⟩ = some (.int .i64 t323) := (blk_cell BK325.out 2).trans rfl; have hfz75_0 := blk_frozen BK325.out 0; have hfz75_1 := blk_frozen BK325.out 1; have hfz75_2 := blk_frozen BK325.out 2) | (go_at_call 34; (with_reducible refine (civil_Compare.calls t316 t317 t318 t321 t322 t323 t334 _ A52.out).mono ?_); rintro e w76 ⟨rfl, hb⟩; have n0_ := Aside0.mk (blk_below (g := gb320) (o := .cells #[.int .i64 t316, .int .i64 t317, .int .i64 t318] 24 (0, 0)) (by (with_reducible repeat first|refine blk_drewN ?_ _|refine blk_drew ?_|refine blk_alloc ?_ _); exact BK320.out) hb); have n1_ := Aside0.mk (blk_below (g := gb325) (o := .cells #[.int .i64 t321, .int .i64 t322, .int .i64 t323] 24 (0, 0)) (by (with_reducible repeat first|refine blk_drewN ?_ _|refine blk_drew ?_|refine blk_alloc ?_ _); exact BK325.out) hb); have n2_ := Aside0.mk (below_step (by repeat (first | (with_reducible first | exact HB.out | apply below_alloc | apply pw_below_drewN | apply below_drew1 | refine below_set ?_ GE320.out | refine below_set ?_ GE325.out) | exact HB.out)) hb); clear BK320; clear BK325; clear HB; have BK320 := n0_; have BK325 := n1_; have HB := n2_; clear n0_ n1_ n2_; (try clear hb); (try clear hb2); (try clear hk); (try clear hi)))
             go_meet
             case rel => exact ⟨_, (true), (by first | rfl | (simp; done) | (simp [*]; done)), H', ⟨by first | omega | exact Nat.le_refl _⟩, ⟨by (with_reducible repeat first|refine blk_drewN ?_ _|refine blk_drew ?_|refine blk_alloc ?_ _); exact BK320.out⟩, ⟨by (with_reducible repeat first|refine blk_drewN ?_ _|refine blk_drew ?_|refine blk_alloc ?_ _); exact BK325.out⟩, ⟨by repeat (first | (with_reducible first | exact HB.out | apply below_alloc | apply pw_below_drewN | apply below_drew1 | refine below_set ?_ GE320.out | refine below_set ?_ GE325.out) | exact HB.out)⟩⟩
           ·rw [if_neg c51] at H
            have c51b0 : (t331 == (Int.tmod (wrap64 (t329 + 1)) 7)) = false := beq_eq_false_iff_ne.mpr c51
            have c51b1 : (t331 != (Int.tmod (wrap64 (t329 + 1)) 7)) = true := bne_iff_ne.mpr c51
            have H' := Aside0.mk H
            clear H
            go_wp2_with (first | (go_at_call 23; (with_reducible refine (pylonlaw03_day.calls a0 t315 _ A47.out).mono ?_); rintro e w' ⟨rfl, ⟨nd, rfl⟩⟩))
            go_meet
            case rel => exact ⟨_, (true), (by first | rfl | (simp; done) | (simp [*]; done)), H', ⟨by first | omega | exact Nat.le_refl _⟩, ⟨by (with_reducible repeat first|refine blk_drewN ?_ _|refine blk_drew ?_|refine blk_alloc ?_ _); exact BK320.out⟩, ⟨by (with_reducible repeat first|refine blk_drewN ?_ _|refine blk_drew ?_|refine blk_alloc ?_ _); exact BK325.out⟩, ⟨by repeat (first | (with_reducible first | exact HB.out | apply below_alloc | apply pw_below_drewN | apply below_drew1 | refine below_set ?_ GE320.out | refine below_set ?_ GE325.out) | exact HB.out)⟩⟩
        ·rw [if_neg c48] at H
         have c48b0 : (t327 == (wrap64 (t315 + 1))) = false := beq_eq_false_iff_ne.mpr c48
         have c48b1 : (t327 != (wrap64 (t315 + 1))) = true := bne_iff_ne.mpr c48
         have H' := Aside0.mk H
         clear H
         go_wp2_with (first | (go_at_call 23; (with_reducible refine (pylonlaw03_day.calls a0 t315 _ A47.out).mono ?_); rintro e w' ⟨rfl, ⟨nd, rfl⟩⟩))
         go_meet
         case rel => exact ⟨_, (true), (by first | rfl | (simp; done) | (simp [*]; done)), H', ⟨by first | omega | exact Nat.le_refl _⟩, ⟨by (with_reducible repeat first|refine blk_drewN ?_ _|refine blk_drew ?_|refine blk_alloc ?_ _); exact BK320.out⟩, ⟨by (with_reducible repeat first|refine blk_drewN ?_ _|refine blk_drew ?_|refine blk_alloc ?_ _); exact BK325.out⟩, ⟨by repeat (first | (with_reducible first | exact HB.out | apply below_alloc | apply pw_below_drewN | apply below_drew1 | refine below_set ?_ GE320.out | refine below_set ?_ GE325.out) | exact HB.out)⟩⟩
       ·rw [if_neg c46] at H
        have c46b0 : (t332 == 0) = false := beq_eq_false_iff_ne.mpr c46
        have c46b1 : (t332 != 0) = true := bne_iff_ne.mpr c46
        have H' := Aside0.mk H
        clear H
        go_wp2
        go_meet
        case rel => exact ⟨_, (true), (by first | rfl | (simp; done) | (simp [*]; done)), H', ⟨by first | omega | exact Nat.le_refl _⟩, ⟨by (with_reducible repeat first|refine blk_drewN ?_ _|refine blk_drew ?_|refine blk_alloc ?_ _); exact BK320.out⟩, ⟨by (with_reducible repeat first|refine blk_drewN ?_ _|refine blk_drew ?_|refine blk_alloc ?_ _); exact BK325.out⟩, ⟨by repeat (first | (with_reducible first | exact HB.out | apply below_alloc | apply pw_below_drewN | apply below_drew1 | refine below_set ?_ GE320.out | refine below_set ?_ GE325.out) | exact HB.out)⟩⟩
      ·rw [if_neg c45] at H
       have c45b0 : (t330 == 0) = false := beq_eq_false_iff_ne.mpr c45
       have c45b1 : (t330 != 0) = true := bne_iff_ne.mpr c45
       have H' := Aside0.mk H
       clear H
       go_wp2
       go_meet
       case rel => exact ⟨_, (true), (by first | rfl | (simp; done) | (simp [*]; done)), H', ⟨by first | omega | exact Nat.le_refl _⟩, ⟨by (with_reducible repeat first|refine blk_drewN ?_ _|refine blk_drew ?_|refine blk_alloc ?_ _); exact BK320.out⟩, ⟨by (with_reducible repeat first|refine blk_drewN ?_ _|refine blk_drew ?_|refine blk_alloc ?_ _); exact BK325.out⟩, ⟨by repeat (first | (with_reducible first | exact HB.out | apply below_alloc | apply pw_below_drewN | apply below_drew1 | refine below_set ?_ GE320.out | refine below_set ?_ GE325.out) | exact HB.out)⟩⟩
     ·rw [if_neg c44] at H
      have c44b0 : (t328 == 0) = false := beq_eq_false_iff_ne.mpr c44
      have c44b1 : (t328 != 0) = true := bne_iff_ne.mpr c44
      have H' := Aside0.mk H
      clear H
      go_wp2
      go_meet
      case rel => exact ⟨_, (true), (by first | rfl | (simp; done) | (simp [*]; done)), H', ⟨by first | omega | exact Nat.le_refl _⟩, ⟨by (with_reducible repeat first|refine blk_drewN ?_ _|refine blk_drew ?_|refine blk_alloc ?_ _); exact BK320.out⟩, ⟨by (with_reducible repeat first|refine blk_drewN ?_ _|refine blk_drew ?_|refine blk_alloc ?_ _); exact BK325.out⟩, ⟨by repeat (first | (with_reducible first | exact HB.out | apply below_alloc | apply pw_below_drewN | apply below_drew1 | refine below_set ?_ GE320.out | refine below_set ?_ GE325.out) | exact HB.out)⟩⟩
    ·rw [if_neg c43] at H
     have c43b0 : (t324 == 0) = false := beq_eq_false_iff_ne.mpr c43
     have c43b1 : (t324 != 0) = true := bne_iff_ne.mpr c43
     (first | rw [c43b0] | (simp only [i64_w, i32_w]; rw [c43b0]) | skip)
     have H' := Aside0.mk H
     clear H
     go_wp2
     go_meet
     case rel => exact ⟨_, (true), (by first | rfl | (simp; done) | (simp [*]; done)), H', ⟨by first | omega | exact Nat.le_refl _⟩, ⟨by (with_reducible repeat first|refine blk_drewN ?_ _|refine blk_drew ?_|refine blk_alloc ?_ _); exact BK320.out⟩, ⟨by (with_reducible repeat first|refine blk_drewN ?_ _|refine blk_drew ?_|refine blk_alloc ?_ _); exact BK325.out⟩, ⟨by repeat (first | (with_reducible first | exact HB.out | apply below_alloc | apply pw_below_drewN | apply below_drew1 | refine below_set ?_ GE320.out | refine below_set ?_ GE325.out) | exact HB.out)⟩⟩
   case rest =>
    clear HC29
    try clear c1
    try clear c2
    try clear p2
    try clear c3
    try clear c4
    try clear c5
    try clear c6
    try clear p6
    try clear c7
    try clear c8
    try clear c8b0
    try clear c8b1
    try clear c9
    try clear c9b0
    try clear c9b1
    try clear c11
    try clear c16
    try clear c19
    try clear c21
    try clear c22
    try clear c23
    try clear c24
    try clear c36
    try clear c43
    try clear c43b0
    try clear c43b1
    try clear c44
    try clear c44b0
    try clear c44b1
    try clear c45
    try clear c45b0
    try clear c45b1
    try clear c46
    try clear c46b0
    try clear c46b1
    try clear c48
    try clear c48b0
    try clear c48b1
    try clear c49
    try clear c49b0
    try clear c50
    try clear c50b0
    try clear c51
    try clear c51b0
    try clear c51b1
    try clear c53
    try clear c53b0
    try clear c53b1
    try clear c55
    try clear c55b0
    try clear c55b1
    try clear c57
    try clear p64
    try clear c66
    try clear c73
    try clear hcz13_0
    try clear hcz13_1
    try clear hcz13_2
    try clear hcz17_0
    try clear hcz17_1
    try clear hcz17_2
    try clear hcz21_0
    try clear hcz21_1
    try clear hcz21_2
    try clear hcz25_0
    try clear hcz25_1
    try clear hcz25_2
    try clear hcz33_0
    try clear hcz33_1
    try clear hcz33_2
    try clear hcz37_0
    try clear hcz37_1
    try clear hcz37_2
    try clear hcz39_0
    try clear hcz39_1
    try clear hcz39_2
    try clear hcz41_0
    try clear hcz41_1
    try clear hcz41_2
    try clear hcz58_0
    try clear hcz58_1
    try clear hcz58_2
    try clear hcz59_0
    try clear hcz59_1
    try clear hcz59_2
    try clear hcz61_0
    try clear hcz61_1
    try clear hcz61_2
    try clear hcz62_0
    try clear hcz62_1
    try clear hcz62_2
    try clear hcz64_0
    try clear hcz64_1
    try clear hcz64_2
    try clear hcz67_0
    try clear hcz67_1
    try clear hcz67_2
    try clear hcz68_0
    try clear hcz68_1
    try clear hcz68_2
    try clear hcz70_0
    try clear hcz70_1
    try clear hcz70_2
    try clear hcz71_0
    try clear hcz71_1
    try clear hcz71_2
    try clear hcz74_0
    try clear hcz74_1
    try clear hcz74_2
    try clear hcz75_0
    try clear hcz75_1
    try clear hcz75_2
    try clear hfz13_0
    try clear hfz13_1
    try clear hfz13_2
    try clear hfz17_0
    try clear hfz17_1
    try clear hfz17_2
    try clear hfz21_0
    try clear hfz21_1
    try clear hfz21_2
    try clear hfz25_0
    try clear hfz25_1
    try clear hfz25_2
    try clear hfz33_0
    try clear hfz33_1
    try clear hfz33_2
    try clear hfz37_0
    try clear hfz37_1
    try clear hfz37_2
    try clear hfz39_0
    try clear hfz39_1
    try clear hfz39_2
    try clear hfz41_0
    try clear hfz41_1
    try clear hfz41_2
    try clear hfz58_0
    try clear hfz58_1
    try clear hfz58_2
    try clear hfz59_0
    try clear hfz59_1
    try clear hfz59_2
    try clear hfz61_0
    try clear hfz61_1
    try clear hfz61_2
    try clear hfz62_0
    try clear hfz62_1
    try clear hfz62_2
    try clear hfz64_0
    try clear hfz64_1
    try clear hfz64_2
    try clear hfz67_0
    try clear hfz67_1
    try clear hfz67_2
    try clear hfz68_0
    try clear hfz68_1
    try clear hfz68_2
    try clear hfz70_0
    try clear hfz70_1
    try clear hfz70_2
    try clear hfz71_0
    try clear hfz71_1
    try clear hfz71_2
    try clear hfz74_0
    try clear hfz74_1
    try clear hfz74_2
    try clear hfz75_0
    try clear hfz75_1
    try clear hfz75_2
    obtain ⟨kq, x106_28, rfl, HA, HJ28, BK320, BK325, HB⟩ := hcut
    cases kq with
    | zero => exact absurd HA.out (by simp [pylonlaw03_CivilNext.j0])
    | succ kj28 =>
     have H := HA.out
     clear HA
     simp only [pylonlaw03_CivilNext.j0] at H
     by_cases c77 : x106_28 = true
     ·subst c77
      have H1 : (some false) = some r := by rw [if_pos rfl] at H; exact H
      clear H
      have H := H1
      clear H1
      obtain rfl := Option.some.inj H
      go_wp2
      go_ret
      exact ⟨by first | rfl | (simp [errW_none, errW_some] <;> rfl) | (simp [*, errW_none, errW_some] <;> rfl), by repeat (first | (with_reducible first | exact HB.out | apply below_alloc | apply pw_below_drewN | apply below_drew1 | refine below_set ?_ GE320.out | refine below_set ?_ GE325.out) | exact HB.out)⟩
     ·replace c77 := Bool.eq_false_iff.mpr c77
      subst c77
      have H1 : ((civil_YearDay.f t316 t317 t318).bind fun bt337 => ((civil_YearDay.f t321 t322 t323).bind fun bt339 => (if bt337.2 = 0 then (pylonlaw03_CivilNext.j1 kj28 bt337.1 bt339.1 (bt339.2 != 0) t316 t317 t318 t321 t322 t323) else (pylonlaw03_CivilNext.j1 kj28 bt337.1 bt339.1 true t316 t317 t318 t321 t322 t323)))) = some r := by rw [if_neg (show ¬ (false = true) by decide)] at H; exact H
      clear H
      have H := H1
      clear H1
      replace H := Option.bind_eq_some_iff.mp H
      obtain ⟨⟨t337, t338⟩, A780, H⟩ := H
      replace H : ((civil_YearDay.f t321 t322 t323).bind fun bt339 => (if t338 = 0 then (pylonlaw03_CivilNext.j1 kj28 t337 bt339.1 (bt339.2 != 0) t316 t317 t318 t321 t322 t323) else (pylonlaw03_CivilNext.j1 kj28 t337 bt339.1 true t316 t317 t318 t321 t322 t323))) = some r := H
      have A78 := Aside0.mk A780
      clear A780
      replace H := Option.bind_eq_some_iff.mp H
      obtain ⟨⟨t339, t340⟩, A790, H⟩ := H
      replace H : (if t338 = 0 then (pylonlaw03_CivilNext.j1 kj28 t337 t339 (t340 != 0) t316 t317 t318 t321 t322 t323) else (pylonlaw03_CivilNext.j1 kj28 t337 t339 true t316 t317 t318 t321 t322 t323)) = some r := H
      have A79 := Aside0.mk A790
      clear A790
      have HC80 := Aside0.mk H
      clear H
      have hnb81 := NB320_325.out
      have hnc81 := NB325_320.out
      have hcz82_0 : wc.cell? ⟨gb320, 0, none⟩ = some (.int .i64 t316) := (blk_cell BK320.out 0).trans rfl
      have hcz82_1 : wc.cell? ⟨gb320, 1, none⟩ = some (.int .i64 t317) := (blk_cell BK320.out 1).trans rfl
      have hcz82_2 : wc.cell? ⟨gb320, 2, none⟩ = some (.int .i64 t318) := (blk_cell BK320.out 2).trans rfl
      have hfz82_0 := blk_frozen BK320.out 0
      have hfz82_1 := blk_frozen BK320.out 1
      have hfz82_2 := blk_frozen BK320.out 2
      go_upto_region 14 with (first | ((with_reducible refine gate_callee (f := 18) rfl ?_); refine goesL_ (some 109) rfl rfl Try.func18 (by kernel_rfl) rfl #[.agg #[.int .i64 t316, .int .i64 t317, .int .i64 t318]] rfl (by (try simp only [List.map_toArray, List.map_cons, List.map_nil]); first | done | rfl | (simp only [List.length_drop, List.length_take]; rfl)) ?_; (with_reducible refine (civil_YearDay.calls t316 t317 t318 t337 t338 _ A78.out).mono ?_); rintro e w83 ⟨rfl, hb⟩; refine ⟨_, rfl, ?_⟩; have n0_ := Aside0.mk (blk_below (g := gb320) (o := .cells #[.int .i64 t316, .int .i64 t317, .int .i64 t318] 24 (0, 0)) (by (with_reducible repeat first|refine blk_drewN ?_ _|refine blk_drew ?_|refine blk_alloc ?_ _); exact BK320.out) hb); have n1_ := Aside0.mk (blk_below (g := gb325) (o := .cells #[.int .i64 t321, .int .i64 t322, .int .i64 t323] 24 (0, 0)) (by (with_reducible repeat first|refine blk_drewN ?_ _|refine blk_drew ?_|refine blk_alloc ?_ _); exact BK325.out) hb); have n2_ := Aside0.mk (below_step (by repeat (first | (with_reducible first | exact HB.out | apply below_alloc | apply pw_below_drewN | apply below_drew1 | refine below_set ?_ GE320.out | refine below_set ?_ GE325.out) | exact HB.out)) hb); clear BK320; clear BK325; clear HB; have BK320 := n0_; have BK325 := n1_; have HB := n2_; clear n0_ n1_ n2_; (try clear hb); (try clear hb2); (try clear hk); (try clear hi); have hcz84_0 : w83.cell? ⟨gb325, 0, none⟩ = some (.int .i64 t321) := (blk_cell BK325.out 0).trans rfl; have hcz84_1 : w83.cell? ⟨gb325, 1, none⟩ = some (.int .i64 t322) := (blk_cell BK325.out 1).trans rfl; have hcz84_2 : w83.cell? ⟨gb325, 2, none⟩ = some (.int .i64 t323) := (blk_cell BK325.out 2).trans rfl; have hfz84_0 := blk_frozen BK325.out 0; have hfz84_1 := blk_frozen BK325.out 1; have hfz84_2 := blk_frozen BK325.out 2) | ((with_reducible refine gate_callee (f := 18) rfl ?_); refine goesL_ (some 114) rfl rfl Try.func18 (by kernel_rfl) rfl #[.agg #[.int .i64 t321, .int .i64 t322, .int .i64 t323]] rfl (by (try simp only [List.map_toArray, List.map_cons, List.map_nil]); first | done | rfl | (simp only [List.length_drop, List.length_take]; rfl)) ?_; (with_reducible refine (civil_YearDay.calls t321 t322 t323 t339 t340 _ A79.out).mono ?_); rintro e w85 ⟨rfl, hb⟩; refine ⟨_, rfl, ?_⟩; have n0_ := Aside0.mk (blk_below (g := gb320) (o := .cells #[.int .i64 t316, .int .i64 t317, .int .i64 t318] 24 (0, 0)) (by (with_reducible repeat first|refine blk_drewN ?_ _|refine blk_drew ?_|refine blk_alloc ?_ _); exact BK320.out) hb); have n1_ := Aside0.mk (blk_below (g := gb325) (o := .cells #[.int .i64 t321, .int .i64 t322, .int .i64 t323] 24 (0, 0)) (by (with_reducible repeat first|refine blk_drewN ?_ _|refine blk_drew ?_|refine blk_alloc ?_ _); exact BK325.out) hb); have n2_ := Aside0.mk (below_step (by repeat (first | (with_reducible first | exact HB.out | apply below_alloc | apply pw_below_drewN | apply below_drew1 | refine below_set ?_ GE320.out | refine below_set ?_ GE325.out) | exact HB.out)) hb); clear BK320; clear BK325; clear HB; have BK320 := n0_; have BK325 := n1_; have HB := n2_; clear n0_ n1_ n2_; (try clear hb); (try clear hb2); (try clear hk); (try clear hi)))
      (try simp only [Act.put, List.setIfInBounds_toArray, List.set_cons_zero, List.set_cons_succ])
      go_cut [122] (fun v122 wc => ∃ (kq : Nat) (x122_79 : Bool), v122 = .bool x122_79 ∧ Aside0 (pylonlaw03_CivilNext.j1 kq t337 t339 x122_79 t316 t317 t318 t321 t322 t323 = some r) ∧ Aside0 (kq ≤ kj28) ∧ Aside0 (wc.heap[gb320]? = some (.cells #[.int .i64 t316, .int .i64 t317, .int .i64 t318] 24 (0, 0))) ∧ Aside0 (wc.heap[gb325]? = some (.cells #[.int .i64 t321, .int .i64 t322, .int .i64 t323] 24 (0, 0))) ∧ Aside0 (Below w.heap.size w wc))
      case first =>
       have H := HC80.out
       clear HC80
       by_cases c86 : t338 = 0
       ·rw [if_pos c86] at H
        have c86b0 : (t338 == 0) = true := beq_iff_eq.mpr c86
        have c86b1 : (t338 != 0) = false := bne_eq_false_iff_eq.mpr c86
        clear c86
        (first | rw [c86b0] | (simp only [i64_w, i32_w]; rw [c86b0]) | skip)
        have H' := Aside0.mk H
        clear H
        go_wp2
        go_meet
        case rel => exact ⟨_, ((t340 != 0)), (by first | rfl | (simp; done) | (simp [*]; done)), H', ⟨by have := HJ28.out; first | omega | exact Nat.le_refl _⟩, ⟨by (with_reducible repeat first|refine blk_drewN ?_ _|refine blk_drew ?_|refine blk_alloc ?_ _); exact BK320.out⟩, ⟨by (with_reducible repeat first|refine blk_drewN ?_ _|refine blk_drew ?_|refine blk_alloc ?_ _); exact BK325.out⟩, ⟨by repeat (first | (with_reducible first | exact HB.out | apply below_alloc | apply pw_below_drewN | apply below_drew1 | refine below_set ?_ GE320.out | refine below_set ?_ GE325.out) | exact HB.out)⟩⟩
       ·rw [if_neg c86] at H
        have c86b0 : (t338 == 0) = false := beq_eq_false_iff_ne.mpr c86
        have c86b1 : (t338 != 0) = true := bne_iff_ne.mpr c86
        (first | rw [c86b0] | (simp only [i64_w, i32_w]; rw [c86b0]) | skip)
        have H' := Aside0.mk H
        clear H
        go_wp2
        go_meet
        case rel => exact ⟨_, (true), (by first | rfl | (simp; done) | (simp [*]; done)), H', ⟨by have := HJ28.out; first | omega | exact Nat.le_refl _⟩, ⟨by (with_reducible repeat first|refine blk_drewN ?_ _|refine blk_drew ?_|refine blk_alloc ?_ _); exact BK320.out⟩, ⟨by (with_reducible repeat first|refine blk_drewN ?_ _|refine blk_drew ?_|refine blk_alloc ?_ _); exact BK325.out⟩, ⟨by repeat (first | (with_reducible first | exact HB.out | apply below_alloc | apply pw_below_drewN | apply below_drew1 | refine below_set ?_ GE320.out | refine below_set ?_ GE325.out) | exact HB.out)⟩⟩
      case rest =>
       clear HC80
       try clear c1
       try clear c2
       try clear p2
       try clear c3
       try clear c4
       try clear c5
       try clear c6
       try clear p6
       try clear c7
       try clear c8
       try clear c8b0
       try clear c8b1
       try clear c9
       try clear c9b0
       try clear c9b1
       try clear c11
       try clear c16
       try clear c18
       try clear c19
       try clear c21
       try clear c22
       try clear c23
       try clear c24
       try clear c36
       try clear c43
       try clear c43b0
       try clear c43b1
       try clear c44
       try clear c44b0
       try clear c44b1
       try clear c45
       try clear c45b0
       try clear c45b1
       try clear c46
       try clear c46b0
       try clear c46b1
       try clear c48
       try clear c48b0
       try clear c48b1
       try clear c49
       try clear c49b0
       try clear c50
       try clear c50b0
       try clear c51
       try clear c51b0
       try clear c51b1
       try clear c53
       try clear c53b0
       try clear c53b1
       try clear c55
       try clear c55b0
       try clear c55b1
       try clear c57
       try clear p64
       try clear c66
       try clear c73
       try clear c77
       try clear c81
       try clear c86
       try clear c86b0
       try clear c86b1
       try clear hcz13_0
       try clear hcz13_1
       try clear hcz13_2
       try clear hcz17_0
       try clear hcz17_1
       try clear hcz17_2
       try clear hcz21_0
       try clear hcz21_1
       try clear hcz21_2
       try clear hcz25_0
       try clear hcz25_1
       try clear hcz25_2
       try clear hcz33_0
       try clear hcz33_1
       try clear hcz33_2
       try clear hcz37_0
       try clear hcz37_1
       try clear hcz37_2
       try clear hcz39_0
       try clear hcz39_1
       try clear hcz39_2
       try clear hcz41_0
       try clear hcz41_1
       try clear hcz41_2
       try clear hcz58_0
       try clear hcz58_1
       try clear hcz58_2
       try clear hcz59_0
       try clear hcz59_1
       try clear hcz59_2
       try clear hcz61_0
       try clear hcz61_1
       try clear hcz61_2
       try clear hcz62_0
       try clear hcz62_1
       try clear hcz62_2
       try clear hcz64_0
       try clear hcz64_1
       try clear hcz64_2
       try clear hcz67_0
       try clear hcz67_1
       try clear hcz67_2
       try clear hcz68_0
       try clear hcz68_1
       try clear hcz68_2
       try clear hcz70_0
       try clear hcz70_1
       try clear hcz70_2
       try clear hcz71_0
       try clear hcz71_1
       try clear hcz71_2
       try clear hcz74_0
       try clear hcz74_1
       try clear hcz74_2
       try clear hcz75_0
       try clear hcz75_1
       try clear hcz75_2
       try clear hcz82_0
       try clear hcz82_1
       try clear hcz82_2
       try clear hcz84_0
       try clear hcz84_1
       try clear hcz84_2
       try clear hfz13_0
       try clear hfz13_1
       try clear hfz13_2
       try clear hfz17_0
       try clear hfz17_1
       try clear hfz17_2
       try clear hfz21_0
       try clear hfz21_1
       try clear hfz21_2
       try clear hfz25_0
       try clear hfz25_1
       try clear hfz25_2
       try clear hfz33_0
       try clear hfz33_1
       try clear hfz33_2
       try clear hfz37_0
       try clear hfz37_1
       try clear hfz37_2
       try clear hfz39_0
       try clear hfz39_1
       try clear hfz39_2
       try clear hfz41_0
       try clear hfz41_1
       try clear hfz41_2
       try clear hfz58_0
       try clear hfz58_1
       try clear hfz58_2
       try clear hfz59_0
       try clear hfz59_1
       try clear hfz59_2
       try clear hfz61_0
       try clear hfz61_1
       try clear hfz61_2
       try clear hfz62_0
       try clear hfz62_1
       try clear hfz62_2
       try clear hfz64_0
       try clear hfz64_1
       try clear hfz64_2
       try clear hfz67_0
       try clear hfz67_1
       try clear hfz67_2
       try clear hfz68_0
       try clear hfz68_1
       try clear hfz68_2
       try clear hfz70_0
       try clear hfz70_1
       try clear hfz70_2
       try clear hfz71_0
       try clear hfz71_1
       try clear hfz71_2
       try clear hfz74_0
       try clear hfz74_1
       try clear hfz74_2
       try clear hfz75_0
       try clear hfz75_1
       try clear hfz75_2
       try clear hfz82_0
       try clear hfz82_1
       try clear hfz82_2
       try clear hfz84_0
       try clear hfz84_1
       try clear hfz84_2
       try clear p2
       try clear p6
       try clear p64
       obtain ⟨kq, x122_79, rfl, HA, HJ79, BK320, BK325, HB⟩ := hcut
       cases kq with
       | zero => exact absurd HA.out (by simp [pylonlaw03_CivilNext.j1])
       | succ kj79 =>
        have H := HA.out
        clear HA
        simp only [pylonlaw03_CivilNext.j1] at H
        by_cases c87 : x122_79 = true
        ·subst c87
         have H1 : (some false) = some r := by rw [if_pos rfl] at H; exact H
         clear H
         have H := H1
         clear H1
         obtain rfl := Option.some.inj H
         go_wp2
         go_ret
         exact ⟨by first | rfl | (simp [errW_none, errW_some] <;> rfl) | (simp [*, errW_none, errW_some] <;> rfl), by repeat (first | (with_reducible first | exact HB.out | apply below_alloc | apply pw_below_drewN | apply below_drew1 | refine below_set ?_ GE320.out | refine below_set ?_ GE325.out) | exact HB.out)⟩
        ·replace c87 := Bool.eq_false_iff.mpr c87
         subst c87
         have H1 : (if t321 = t316 then (some (t339 == (wrap64 (t337 + 1)))) else (if t339 = 1 then (if t321 = (wrap64 (t316 + 1)) then (if t337 = 365 then (some true) else (some (t337 == 366))) else (some false)) else (some false))) = some r := by rw [if_neg (show ¬ (false = true) by decide)] at H; exact H
         clear H
         have H := H1
         clear H1
         by_cases c88 : t321 = t316
         ·rw [if_pos c88] at H
          have c88b0 : (t321 == t316) = true := beq_iff_eq.mpr c88
          have c88b1 : (t321 != t316) = false := bne_eq_false_iff_eq.mpr c88
          clear c88
          obtain rfl := Option.some.inj H
          have hnb89 := NB325_320.out
          have hnc89 := NB320_325.out
          have hcz90_0 : wc.cell? ⟨gb325, 0, none⟩ = some (.int .i64 t321) := (blk_cell BK325.out 0).trans rfl
          have hcz90_1 : wc.cell? ⟨gb325, 1, none⟩ = some (.int .i64 t322) := (blk_cell BK325.out 1).trans rfl
          have hcz90_2 : wc.cell? ⟨gb325, 2, none⟩ = some (.int .i64 t323) := (blk_cell BK325.out 2).trans rfl
          have hfz90_0 := blk_frozen BK325.out 0
          have hfz90_1 := blk_frozen BK325.out 1
          have hfz90_2 := blk_frozen BK325.out 2
          have hcz91_0 : wc.cell? ⟨gb320, 0, none⟩ = some (.int .i64 t316) := (blk_cell BK320.out 0).trans rfl
          have hcz91_1 : wc.cell? ⟨gb320, 1, none⟩ = some (.int .i64 t317) := (blk_cell BK320.out 1).trans rfl
          have hcz91_2 : wc.cell? ⟨gb320, 2, none⟩ = some (.int .i64 t318) := (blk_cell BK320.out 2).trans rfl
          have hfz91_0 := blk_frozen BK320.out 0
          have hfz91_1 := blk_frozen BK320.out 1
          have hfz91_2 := blk_frozen BK320.out 2
          go_wp2
          go_ret
          exact ⟨by first | rfl | (simp [errW_none, errW_some] <;> rfl) | (simp [*, errW_none, errW_some] <;> rfl), by repeat (first | (with_reducible first | exact HB.out | apply below_alloc | apply pw_below_drewN | apply below_drew1 | refine below_set ?_ GE320.out | refine below_set ?_ GE325.out) | exact HB.out)⟩
         ·rw [if_neg c88] at H
          have c88b0 : (t321 == t316) = false := beq_eq_false_iff_ne.mpr c88
          have c88b1 : (t321 != t316) = true := bne_iff_ne.mpr c88
          by_cases c92 : t339 = 1
          ·rw [if_pos c92] at H
           have c92b0 : (t339 == 1) = true := beq_iff_eq.mpr c92
           have c92b1 : (t339 != 1) = false := bne_eq_false_iff_eq.mpr c92
           clear c92
           by_cases c93 : t321 = (wrap64 (t316 + 1))
           ·rw [if_pos c93] at H
            have c93b0 : (t321 == (wrap64 (t316 + 1))) = true := beq_iff_eq.mpr c93
            have c93b1 : (t321 != (wrap64 (t316 + 1))) = false := bne_eq_false_iff_eq.mpr c93
            clear c93
            by_cases c94 : t337 = 365
            ·rw [if_pos c94] at H
             have c94b0 : (t337 == 365) = true := beq_iff_eq.mpr c94
             have c94b1 : (t337 != 365) = false := bne_eq_false_iff_eq.mpr c94
             clear c94
             obtain rfl := Option.some.inj H
             have hnb95 := NB325_320.out
             have hnc95 := NB320_325.out
             have hcz96_0 : wc.cell? ⟨gb325, 0, none⟩ = some (.int .i64 t321) := (blk_cell BK325.out 0).trans rfl
             have hcz96_1 : wc.cell? ⟨gb325, 1, none⟩ = some (.int .i64 t322) := (blk_cell BK325.out 1).trans rfl
             have hcz96_2 : wc.cell? ⟨gb325, 2, none⟩ = some (.int .i64 t323) := (blk_cell BK325.out 2).trans rfl
             have hfz96_0 := blk_frozen BK325.out 0
             have hfz96_1 := blk_frozen BK325.out 1
             have hfz96_2 := blk_frozen BK325.out 2
             have hcz97_0 : wc.cell? ⟨gb320, 0, none⟩ = some (.int .i64 t316) := (blk_cell BK320.out 0).trans rfl
             have hcz97_1 : wc.cell? ⟨gb320, 1, none⟩ = some (.int .i64 t317) := (blk_cell BK320.out 1).trans rfl
             have hcz97_2 : wc.cell? ⟨gb320, 2, none⟩ = some (.int .i64 t318) := (blk_cell BK320.out 2).trans rfl
             have hfz97_0 := blk_frozen BK320.out 0
             have hfz97_1 := blk_frozen BK320.out 1
             have hfz97_2 := blk_frozen BK320.out 2
             go_wp2
             go_ret
             exact ⟨by first | rfl | (simp [errW_none, errW_some] <;> rfl) | (simp [*, errW_none, errW_some] <;> rfl), by repeat (first | (with_reducible first | exact HB.out | apply below_alloc | apply pw_below_drewN | apply below_drew1 | refine below_set ?_ GE320.out | refine below_set ?_ GE325.out) | exact HB.out)⟩
            ·rw [if_neg c94] at H
             have c94b0 : (t337 == 365) = false := beq_eq_false_iff_ne.mpr c94
             have c94b1 : (t337 != 365) = true := bne_iff_ne.mpr c94
             obtain rfl := Option.some.inj H
             have hnb98 := NB325_320.out
             have hnc98 := NB320_325.out
             have hcz99_0 : wc.cell? ⟨gb325, 0, none⟩ = some (.int .i64 t321) := (blk_cell BK325.out 0).trans rfl
             have hcz99_1 : wc.cell? ⟨gb325, 1, none⟩ = some (.int .i64 t322) := (blk_cell BK325.out 1).trans rfl
             have hcz99_2 : wc.cell? ⟨gb325, 2, none⟩ = some (.int .i64 t323) := (blk_cell BK325.out 2).trans rfl
             have hfz99_0 := blk_frozen BK325.out 0
             have hfz99_1 := blk_frozen BK325.out 1
             have hfz99_2 := blk_frozen BK325.out 2
             have hcz100_0 : wc.cell? ⟨gb320, 0, none⟩ = some (.int .i64 t316) := (blk_cell BK320.out 0).trans rfl
             have hcz100_1 : wc.cell? ⟨gb320, 1, none⟩ = some (.int .i64 t317) := (blk_cell BK320.out 1).trans rfl
             have hcz100_2 : wc.cell? ⟨gb320, 2, none⟩ = some (.int .i64 t318) := (blk_cell BK320.out 2).trans rfl
             have hfz100_0 := blk_frozen BK320.out 0
             have hfz100_1 := blk_frozen BK320.out 1
             have hfz100_2 := blk_frozen BK320.out 2
             go_wp2
             go_ret
             exact ⟨by first | rfl | (simp [errW_none, errW_some] <;> rfl) | (simp [*, errW_none, errW_some] <;> rfl), by repeat (first | (with_reducible first | exact HB.out | apply below_alloc | apply pw_below_drewN | apply below_drew1 | refine below_set ?_ GE320.out | refine below_set ?_ GE325.out) | exact HB.out)⟩
           ·rw [if_neg c93] at H
            have c93b0 : (t321 == (wrap64 (t316 + 1))) = false := beq_eq_false_iff_ne.mpr c93
            have c93b1 : (t321 != (wrap64 (t316 + 1))) = true := bne_iff_ne.mpr c93
            obtain rfl := Option.some.inj H
            have hnb101 := NB325_320.out
            have hnc101 := NB320_325.out
            have hcz102_0 : wc.cell? ⟨gb325, 0, none⟩ = some (.int .i64 t321) := (blk_cell BK325.out 0).trans rfl
            have hcz102_1 : wc.cell? ⟨gb325, 1, none⟩ = some (.int .i64 t322) := (blk_cell BK325.out 1).trans rfl
            have hcz102_2 : wc.cell? ⟨gb325, 2, none⟩ = some (.int .i64 t323) := (blk_cell BK325.out 2).trans rfl
            have hfz102_0 := blk_frozen BK325.out 0
            have hfz102_1 := blk_frozen BK325.out 1
            have hfz102_2 := blk_frozen BK325.out 2
            have hcz103_0 : wc.cell? ⟨gb320, 0, none⟩ = some (.int .i64 t316) := (blk_cell BK320.out 0).trans rfl
            have hcz103_1 : wc.cell? ⟨gb320, 1, none⟩ = some (.int .i64 t317) := (blk_cell BK320.out 1).trans rfl
            have hcz103_2 : wc.cell? ⟨gb320, 2, none⟩ = some (.int .i64 t318) := (blk_cell BK320.out 2).trans rfl
            have hfz103_0 := blk_frozen BK320.out 0
            have hfz103_1 := blk_frozen BK320.out 1
            have hfz103_2 := blk_frozen BK320.out 2
            go_wp2
            go_ret
            exact ⟨by first | rfl | (simp [errW_none, errW_some] <;> rfl) | (simp [*, errW_none, errW_some] <;> rfl), by repeat (first | (with_reducible first | exact HB.out | apply below_alloc | apply pw_below_drewN | apply below_drew1 | refine below_set ?_ GE320.out | refine below_set ?_ GE325.out) | exact HB.out)⟩
          ·rw [if_neg c92] at H
           have c92b0 : (t339 == 1) = false := beq_eq_false_iff_ne.mpr c92
           have c92b1 : (t339 != 1) = true := bne_iff_ne.mpr c92
           obtain rfl := Option.some.inj H
           have hnb104 := NB325_320.out
           have hnc104 := NB320_325.out
           have hcz105_0 : wc.cell? ⟨gb325, 0, none⟩ = some (.int .i64 t321) := (blk_cell BK325.out 0).trans rfl
           have hcz105_1 : wc.cell? ⟨gb325, 1, none⟩ = some (.int .i64 t322) := (blk_cell BK325.out 1).trans rfl
           have hcz105_2 : wc.cell? ⟨gb325, 2, none⟩ = some (.int .i64 t323) := (blk_cell BK325.out 2).trans rfl
           have hfz105_0 := blk_frozen BK325.out 0
           have hfz105_1 := blk_frozen BK325.out 1
           have hfz105_2 := blk_frozen BK325.out 2
           have hcz106_0 : wc.cell? ⟨gb320, 0, none⟩ = some (.int .i64 t316) := (blk_cell BK320.out 0).trans rfl
           have hcz106_1 : wc.cell? ⟨gb320, 1, none⟩ = some (.int .i64 t317) := (blk_cell BK320.out 1).trans rfl
           have hcz106_2 : wc.cell? ⟨gb320, 2, none⟩ = some (.int .i64 t318) := (blk_cell BK320.out 2).trans rfl
           have hfz106_0 := blk_frozen BK320.out 0
           have hfz106_1 := blk_frozen BK320.out 1
           have hfz106_2 := blk_frozen BK320.out 2
           go_wp2
           go_ret
           exact ⟨by first | rfl | (simp [errW_none, errW_some] <;> rfl) | (simp [*, errW_none, errW_some] <;> rfl), by repeat (first | (with_reducible first | exact HB.out | apply below_alloc | apply pw_below_drewN | apply below_drew1 | refine below_set ?_ GE320.out | refine below_set ?_ GE325.out) | exact HB.out)⟩
 ·replace c3 := Bool.eq_false_iff.mpr c3
  subst c3
  have H1 : (some false) = some r := by rw [if_neg (show ¬ (false = true) by decide)] at H; exact H
  clear H
  have H := H1
  clear H1
  obtain rfl := Option.some.inj H
  go_enter Try.func11, Try.ntmps11
  go_wp2_with (first | ((with_reducible refine gate_callee (f := 16) rfl ?_); refine goesL_ (some 15) rfl rfl Try.func16 (by kernel_rfl) rfl #[] rfl (by (try simp only [List.map_toArray, List.map_cons, List.map_nil]); first | done | rfl | (simp only [List.length_drop, List.length_take]; rfl)) ?_; (with_reducible refine (pylonlaw03_awake.calls  false _ A2.out).mono ?_); rintro e w107 ⟨rfl, hb⟩; refine ⟨_, rfl, ?_⟩; have n0_ := Aside0.mk (below_step (by repeat (first | (with_reducible first | exact HB.out | apply below_alloc | apply pw_below_drewN | apply below_drew1) | exact HB.out)) hb); clear HB; have HB := n0_; clear n0_; (try clear hb); (try clear hb2); (try clear hk); (try clear hi)))
  go_ret
  exact ⟨by first | rfl | (simp [errW_none, errW_some] <;> rfl) | (simp [*, errW_none, errW_some] <;> rfl), by repeat (first | (with_reducible first | exact HB.out | apply below_alloc | apply pw_below_drewN | apply below_drew1) | exact HB.out)⟩

/-- THE ONE PURE STATEMENT of pylonlaw03_CivilNext: yours. -/
def pylonlaw03_CivilNext.Pure : Prop := ∀ (a0 : Int), (Lit.int .i64 a0).wf = true → ∃ k, pylonlaw03_CivilNext.f k a0 = some true
theorem pylonlaw03_CivilNext.walk (P : pylonlaw03_CivilNext.Pure) (a0 : Int) (w : World) (w0 : (Lit.int .i64 a0).wf = true) :
  Calls Try.prog 11 #[.int .i64 a0] w fun e w' => e = .returned (.bool true) ∧ Below w.heap.size w w' := by
 obtain ⟨k, h⟩ := P a0 w0
 refine (pylonlaw03_CivilNext.calls k a0 true w h).mono ?_
 rintro e w' ⟨rfl, hd⟩
 exact ⟨rfl, hd⟩

end Go.Proofs.Ytipldjcncfoffaa.PX
