/- Functions of the program as plain Lean functions, each with a proof that the call in the machine answers just what the plain function says; condition: the plain function answers at all. -/
import Derived.Test.YtddkckpfmleffaaPXx0
import Derived.Test.YtddkckpfmleffaaPXx1
import Derived.Test.YtddkckpfmleffaaPXx16
import Derived.Test.YtddkckpfmleffaaPXx21
import Derived.Test.YtddkckpfmleffaaPXx22
import Derived.Test.YtddkckpfmleffaaPXx27
namespace Go.Proofs.Ytddkckpfmleffaa.PX
open Go.RowKit Go.Proofs.YtddkckpfmleffaaW.PrintWords Go.Proofs.YtddkckpfmleffaaW.PrintLast Go.Proofs.YtddkckpfmleffaaW.PrintMore
attribute [local go_sem] max2_int min2_int max_two min_two max_three min_three max_four min_four   -- for this text's walks alone
set_option linter.unusedVariables false
set_option linter.unusedSimpArgs false

attribute [local go_sem high] eqA33
/-! ### pylonlaw13_PeriodMoments: function 12 -/
mutual
def pylonlaw13_PeriodMoments.j0 : Nat → Int → Int → List (S74) → List (S33) → Int → Bool → Int → Int → Int → Int → Int → Int → Int → Int → Int → Int → Int → Int → Int → Option (Bool)
 | 0, _, _, _, _, _, _, _, _, _, _, _, _, _, _, _, _, _, _, _ => none
 | k + 1, x1, x2, x7, x8, x9, x39, x750000, x750001, x750002, x750003, x750004, x750005, x750006, x750007, x750008, x750009, x750010, x750011, x750012 => if x39 = true then (if x9 = 0 then (some true) else (some ((x7.length : Int) == 0))) else (if (IntKind.u64.wrap (x750012)) = 0 then (none) else ((pylonref04_At.f k x750000 x750001 x750002 x750003 x750004 x750005 x750006 x750007 x750008 x750009 (wrap64 (x750010 + (wrap64 ((wrap64 (60 * x750011)) * (wrap64 (Int.tmod (IntKind.u64.wrap (x2)) (IntKind.u64.wrap (x750012))))))))).bind fun bt771 => (if bt771.2.2.2.2.2 = 0 then (pylonlaw13_PeriodMoments.j1 k x1 (wrap64 (Int.tmod (IntKind.u64.wrap (x2)) (IntKind.u64.wrap (x750012)))) x7 x8 ((x8.length : Int) != (x7.length : Int)) bt771.1 bt771.2.1 bt771.2.2.1 bt771.2.2.2.1 bt771.2.2.2.2.1) else (pylonlaw13_PeriodMoments.j1 k x1 (wrap64 (Int.tmod (IntKind.u64.wrap (x2)) (IntKind.u64.wrap (x750012)))) x7 x8 true bt771.1 bt771.2.1 bt771.2.2.1 bt771.2.2.2.1 bt771.2.2.2.2.1))))
def pylonlaw13_PeriodMoments.j1 : Nat → Int → Int → List (S74) → List (S33) → Bool → Int → Int → Int → Int → Int → Option (Bool)
 | 0, _, _, _, _, _, _, _, _, _, _ => none
 | k + 1, x1, x2, x7, x8, x76, x778000, x778001, x778002, x778003, x778004 => if x76 = true then (some false) else (pylonlaw13_PeriodMoments.l0 k x1 x2 x7 x8 (x7.length : Int) 0 x778000 x778001 x778002 x778003 x778004)
def pylonlaw13_PeriodMoments.l0 : Nat → Int → Int → List (S74) → List (S33) → Int → Int → Int → Int → Int → Int → Int → Option (Bool)
 | 0, _, _, _, _, _, _, _, _, _, _, _ => none
 | k + 1, x1, x2, x7, x8, x78, x79, x778000, x778001, x778002, x778003, x778004 => if x79 < x78 then (if 0 ≤ x79 then (if x79 < (x7.length : Int) then (if x2 < ((rd_T74 x7 x79).f0) then (pylonlaw13_PeriodMoments.j3 k x1 x2 x7 x8 x79 x78 x79 true x778000 x778001 x778002 x778003 x778004) else (pylonlaw13_PeriodMoments.j3 k x1 x2 x7 x8 x79 x78 x79 (decide (x2 ≥ ((rd_T74 x7 x79).f1))) x778000 x778001 x778002 x778003 x778004)) else (none)) else (none)) else (some false)
def pylonlaw13_PeriodMoments.j3 : Nat → Int → Int → List (S74) → List (S33) → Int → Int → Int → Bool → Int → Int → Int → Int → Int → Option (Bool)
 | 0, _, _, _, _, _, _, _, _, _, _, _, _, _ => none
 | k + 1, x1, x2, x7, x8, x12, x78, x79, x97, x778000, x778001, x778002, x778003, x778004 => if x97 = true then (pylonlaw13_PeriodMoments.l0 k x1 x2 x7 x8 x78 (wrap64 (x79 + 1)) x778000 x778001 x778002 x778003 x778004) else ((period_Begin.f k x778000 x778001 x778002 x1).bind fun bt780 => (if bt780.2.2.2 = 0 then (if 0 ≤ x12 then (if x12 < (x8.length : Int) then (some (bt780.1 == ((rd_T33 x8 x12).f0) && (bt780.2.1 == ((rd_T33 x8 x12).f1) && (bt780.2.2.1 == ((rd_T33 x8 x12).f2))))) else (none)) else (none)) else (some false)))
end
def pylonlaw13_PeriodMoments.f (k : Nat) (a0_0 : Int) (a0_1 : Int) (a0_2 : Int) (a0_3 : Int) (a0_4 : Int) (a0_5 : Int) (a0_6 : Int) (a0_7 : Int) (a0_8 : Int) (a0_9 : Int) (a0_10 : Int) (a0_11 : Int) (a0_12 : Int) (a1 : Int) (a2 : Int) : Option (Bool) := (pylonlaw13_awake.f k).bind fun t750 => (if t750 = true then ((pylonlaw13_Slots_cut.f a0_0 a0_1 a0_2 a0_3 a0_4 a0_5 a0_6 a0_7 a0_8 a0_9 a0_10 a0_11 a0_12).bind fun bt751 => ((period_Spans.f k bt751.1 bt751.2.1 bt751.2.2.1 bt751.2.2.2.1 bt751.2.2.2.2.1 bt751.2.2.2.2.2.1 bt751.2.2.2.2.2.2.1 bt751.2.2.2.2.2.2.2.1 bt751.2.2.2.2.2.2.2.2.1 bt751.2.2.2.2.2.2.2.2.2.1 a1 bt751.2.2.2.2.2.2.2.2.2.2.1 bt751.2.2.2.2.2.2.2.2.2.2.2.1 bt751.2.2.2.2.2.2.2.2.2.2.2.2).bind fun bt764 => (if bt764.2.2 = 0 then (pylonlaw13_PeriodMoments.j0 k a1 a2 bt764.1 bt764.2.1 bt764.2.2 (bt751.2.2.2.2.2.2.2.2.2.2.2.2 == 0) bt751.1 bt751.2.1 bt751.2.2.1 bt751.2.2.2.1 bt751.2.2.2.2.1 bt751.2.2.2.2.2.1 bt751.2.2.2.2.2.2.1 bt751.2.2.2.2.2.2.2.1 bt751.2.2.2.2.2.2.2.2.1 bt751.2.2.2.2.2.2.2.2.2.1 bt751.2.2.2.2.2.2.2.2.2.2.1 bt751.2.2.2.2.2.2.2.2.2.2.2.1 bt751.2.2.2.2.2.2.2.2.2.2.2.2) else (pylonlaw13_PeriodMoments.j0 k a1 a2 bt764.1 bt764.2.1 bt764.2.2 true bt751.1 bt751.2.1 bt751.2.2.1 bt751.2.2.2.1 bt751.2.2.2.2.1 bt751.2.2.2.2.2.1 bt751.2.2.2.2.2.2.1 bt751.2.2.2.2.2.2.2.1 bt751.2.2.2.2.2.2.2.2.1 bt751.2.2.2.2.2.2.2.2.2.1 bt751.2.2.2.2.2.2.2.2.2.2.1 bt751.2.2.2.2.2.2.2.2.2.2.2.1 bt751.2.2.2.2.2.2.2.2.2.2.2.2)))) else (some false))
theorem pylonlaw13_PeriodMoments.mono_l : ∀ k, (∀ y0 y1 y2 y3 y4 y5 y6 y7 y8 y9 y10 y11 y12 y13 y14 y15 y16 y17 y18, LeO (pylonlaw13_PeriodMoments.j0 k y0 y1 y2 y3 y4 y5 y6 y7 y8 y9 y10 y11 y12 y13 y14 y15 y16 y17 y18) (pylonlaw13_PeriodMoments.j0 (k + 1) y0 y1 y2 y3 y4 y5 y6 y7 y8 y9 y10 y11 y12 y13 y14 y15 y16 y17 y18)) ∧ (∀ y0 y1 y2 y3 y4 y5 y6 y7 y8 y9, LeO (pylonlaw13_PeriodMoments.j1 k y0 y1 y2 y3 y4 y5 y6 y7 y8 y9) (pylonlaw13_PeriodMoments.j1 (k + 1) y0 y1 y2 y3 y4 y5 y6 y7 y8 y9)) ∧ (∀ y0 y1 y2 y3 y4 y5 y6 y7 y8 y9 y10, LeO (pylonlaw13_PeriodMoments.l0 k y0 y1 y2 y3 y4 y5 y6 y7 y8 y9 y10) (pylonlaw13_PeriodMoments.l0 (k + 1) y0 y1 y2 y3 y4 y5 y6 y7 y8 y9 y10)) ∧ (∀ y0 y1 y2 y3 y4 y5 y6 y7 y8 y9 y10 y11 y12, LeO (pylonlaw13_PeriodMoments.j3 k y0 y1 y2 y3 y4 y5 y6 y7 y8 y9 y10 y11 y12) (pylonlaw13_PeriodMoments.j3 (k + 1) y0 y1 y2 y3 y4 y5 y6 y7 y8 y9 y10 y11 y12))
 | 0 => ⟨fun _ _ _ _ _ _ _ _ _ _ _ _ _ _ _ _ _ _ _ r h => by simp [pylonlaw13_PeriodMoments.j0] at h, fun _ _ _ _ _ _ _ _ _ _ r h => by simp [pylonlaw13_PeriodMoments.j1] at h, fun _ _ _ _ _ _ _ _ _ _ _ r h => by simp [pylonlaw13_PeriodMoments.l0] at h, fun _ _ _ _ _ _ _ _ _ _ _ _ _ r h => by simp [pylonlaw13_PeriodMoments.j3] at h⟩
 | k + 1 => by
  obtain ⟨ih0, ih1, ih2, ih3⟩ := pylonlaw13_PeriodMoments.mono_l k
  refine ⟨?_, ?_, ?_, ?_⟩
  ·intro y0 y1 y2 y3 y4 y5 y6 y7 y8 y9 y10 y11 y12 y13 y14 y15 y16 y17 y18
   unfold pylonlaw13_PeriodMoments.j0
   repeat' first
   | (with_reducible exact ih0 _ _ _ _ _ _ _ _ _ _ _ _ _ _ _ _ _ _ _)
   | (with_reducible exact ih1 _ _ _ _ _ _ _ _ _ _)
   | (with_reducible exact ih2 _ _ _ _ _ _ _ _ _ _ _)
   | (with_reducible exact ih3 _ _ _ _ _ _ _ _ _ _ _ _ _)
   | (with_reducible exact period_Begin.mono _ _ _ _ _)
   | (with_reducible exact period_Spans.mono _ _ _ _ _ _ _ _ _ _ _ _ _ _ _)
   | (with_reducible exact pylonlaw13_awake.mono _)
   | (with_reducible exact pylonref04_At.mono _ _ _ _ _ _ _ _ _ _ _ _)
   | (with_reducible exact LeO.refl _)
   | (with_reducible exact LeO.none _)
   | (with_reducible refine LeO.ite ?_ ?_)
   | (with_reducible refine LeO.bind ?_ (fun _ => ?_))
   | exact ih0 _ _ _ _ _ _ _ _ _ _ _ _ _ _ _ _ _ _ _
   | exact ih1 _ _ _ _ _ _ _ _ _ _
   | exact ih2 _ _ _ _ _ _ _ _ _ _ _
   | exact ih3 _ _ _ _ _ _ _ _ _ _ _ _ _
   | exact period_Begin.mono _ _ _ _ _
   | exact period_Spans.mono _ _ _ _ _ _ _ _ _ _ _ _ _ _ _
   | exact pylonlaw13_awake.mono _
   | exact pylonref04_At.mono _ _ _ _ _ _ _ _ _ _ _ _
   | exact LeO.none _
   | refine LeO.ite ?_ ?_
   | refine LeO.bind ?_ (fun _ => ?_)
  ·intro y0 y1 y2 y3 y4 y5 y6 y7 y8 y9
   unfold pylonlaw13_PeriodMoments.j1
   repeat' first
   | (with_reducible exact ih0 _ _ _ _ _ _ _ _ _ _ _ _ _ _ _ _ _ _ _)
   | (with_reducible exact ih1 _ _ _ _ _ _ _ _ _ _)
   | (with_reducible exact ih2 _ _ _ _ _ _ _ _ _ _ _)
   | (with_reducible exact ih3 _ _ _ _ _ _ _ _ _ _ _ _ _)
   | (with_reducible exact period_Begin.mono _ _ _ _ _)
   | (with_reducible exact period_Spans.mono _ _ _ _ _ _ _ _ _ _ _ _ _ _ _)
   | (with_reducible exact pylonlaw13_awake.mono _)
   | (with_reducible exact pylonref04_At.mono _ _ _ _ _ _ _ _ _ _ _ _)
   | (with_reducible exact LeO.refl _)
   | (with_reducible exact LeO.none _)
   | (with_reducible refine LeO.ite ?_ ?_)
   | (with_reducible refine LeO.bind ?_ (fun _ => ?_))
   | exact ih0 _ _ _ _ _ _ _ _ _ _ _ _ _ _ _ _ _ _ _
   | exact ih1 _ _ _ _ _ _ _ _ _ _
   | exact ih2 _ _ _ _ _ _ _ _ _ _ _
   | exact ih3 _ _ _ _ _ _ _ _ _ _ _ _ _
   | exact period_Begin.mono _ _ _ _ _
   | exact period_Spans.mono _ _ _ _ _ _ _ _ _ _ _ _ _ _ _
   | exact pylonlaw13_awake.mono _
   | exact pylonref04_At.mono _ _ _ _ _ _ _ _ _ _ _ _
   | exact LeO.none _
   | refine LeO.ite ?_ ?_
   | refine LeO.bind ?_ (fun _ => ?_)
  ·intro y0 y1 y2 y3 y4 y5 y6 y7 y8 y9 y10
   unfold pylonlaw13_PeriodMoments.l0
   repeat' first
   | (with_reducible exact ih0 _ _ _ _ _ _ _ _ _ _ _ _ _ _ _ _ _ _ _)
   | (with_reducible exact ih1 _ _ _ _ _ _ _ _ _ _)
   | (with_reducible exact ih2 _ _ _ _ _ _ _ _ _ _ _)
   | (with_reducible exact ih3 _ _ _ _ _ _ _ _ _ _ _ _ _)
   | (with_reducible exact period_Begin.mono _ _ _ _ _)
   | (with_reducible exact period_Spans.mono _ _ _ _ _ _ _ _ _ _ _ _ _ _ _)
   | (with_reducible exact pylonlaw13_awake.mono _)
   | (with_reducible exact pylonref04_At.mono _ _ _ _ _ _ _ _ _ _ _ _)
   | (with_reducible exact LeO.refl _)
   | (with_reducible exact LeO.none _)
   | (with_reducible refine LeO.ite ?_ ?_)
   | (with_reducible refine LeO.bind ?_ (fun _ => ?_))
   | exact ih0 _ _ _ _ _ _ _ _ _ _ _ _ _ _ _ _ _ _ _
   | exact ih1 _ _ _ _ _ _ _ _ _ _
   | exact ih2 _ _ _ _ _ _ _ _ _ _ _
   | exact ih3 _ _ _ _ _ _ _ _ _ _ _ _ _
   | exact period_Begin.mono _ _ _ _ _
   | exact period_Spans.mono _ _ _ _ _ _ _ _ _ _ _ _ _ _ _
   | exact pylonlaw13_awake.mono _
   | exact pylonref04_At.mono _ _ _ _ _ _ _ _ _ _ _ _
   | exact LeO.none _
   | refine LeO.ite ?_ ?_
   | refine LeO.bind ?_ (fun _ => ?_)
  ·intro y0 y1 y2 y3 y4 y5 y6 y7 y8 y9 y10 y11 y12
   unfold pylonlaw13_PeriodMoments.j3
   repeat' first
   | (with_reducible exact ih0 _ _ _ _ _ _ _ _ _ _ _ _ _ _ _ _ _ _ _)
   | (with_reducible exact ih1 _ _ _ _ _ _ _ _ _ _)
   | (with_reducible exact ih2 _ _ _ _ _ _ _ _ _ _ _)
   | (with_reducible exact ih3 _ _ _ _ _ _ _ _ _ _ _ _ _)
   | (with_reducible exact period_Begin.mono _ _ _ _ _)
   | (with_reducible exact period_Spans.mono _ _ _ _ _ _ _ _ _ _ _ _ _ _ _)
   | (with_reducible exact pylonlaw13_awake.mono _)
   | (with_reducible exact pylonref04_At.mono _ _ _ _ _ _ _ _ _ _ _ _)
   | (with_reducible exact LeO.refl _)
   | (with_reducible exact LeO.none _)
   | (with_reducible refine LeO.ite ?_ ?_)
   | (with_reducible refine LeO.bind ?_ (fun _ => ?_))
   | exact ih0 _ _ _ _ _ _ _ _ _ _ _ _ _ _ _ _ _ _ _
   | exact ih1 _ _ _ _ _ _ _ _ _ _
   | exact ih2 _ _ _ _ _ _ _ _ _ _ _
   | exact ih3 _ _ _ _ _ _ _ _ _ _ _ _ _
   | exact period_Begin.mono _ _ _ _ _
   | exact period_Spans.mono _ _ _ _ _ _ _ _ _ _ _ _ _ _ _
   | exact pylonlaw13_awake.mono _
   | exact pylonref04_At.mono _ _ _ _ _ _ _ _ _ _ _ _
   | exact LeO.none _
   | refine LeO.ite ?_ ?_
   | refine LeO.bind ?_ (fun _ => ?_)
theorem pylonlaw13_PeriodMoments.mono : ∀ a0 a1 a2 a3 a4 a5 a6 a7 a8 a9 a10 a11 a12 a13 a14 k, LeO (pylonlaw13_PeriodMoments.f k a0 a1 a2 a3 a4 a5 a6 a7 a8 a9 a10 a11 a12 a13 a14) (pylonlaw13_PeriodMoments.f (k + 1) a0 a1 a2 a3 a4 a5 a6 a7 a8 a9 a10 a11 a12 a13 a14) := by
 intro a0 a1 a2 a3 a4 a5 a6 a7 a8 a9 a10 a11 a12 a13 a14 k
 obtain ⟨ih0, ih1, ih2, ih3⟩ := pylonlaw13_PeriodMoments.mono_l k
 unfold pylonlaw13_PeriodMoments.f
 repeat' first
   | (with_reducible exact ih0 _ _ _ _ _ _ _ _ _ _ _ _ _ _ _ _ _ _ _)
   | (with_reducible exact ih1 _ _ _ _ _ _ _ _ _ _)
   | (with_reducible exact ih2 _ _ _ _ _ _ _ _ _ _ _)
   | (with_reducible exact ih3 _ _ _ _ _ _ _ _ _ _ _ _ _)
   | (with_reducible exact period_Begin.mono _ _ _ _ _)
   | (with_reducible exact period_Spans.mono _ _ _ _ _ _ _ _ _ _ _ _ _ _ _)
   | (with_reducible exact pylonlaw13_awake.mono _)
   | (with_reducible exact pylonref04_At.mono _ _ _ _ _ _ _ _ _ _ _ _)
   | (with_reducible exact LeO.refl _)
   | (with_reducible exact LeO.none _)
   | (with_reducible refine LeO.ite ?_ ?_)
   | (with_reducible refine LeO.bind ?_ (fun _ => ?_))
   | exact ih0 _ _ _ _ _ _ _ _ _ _ _ _ _ _ _ _ _ _ _
   | exact ih1 _ _ _ _ _ _ _ _ _ _
   | exact ih2 _ _ _ _ _ _ _ _ _ _ _
   | exact ih3 _ _ _ _ _ _ _ _ _ _ _ _ _
   | exact period_Begin.mono _ _ _ _ _
   | exact period_Spans.mono _ _ _ _ _ _ _ _ _ _ _ _ _ _ _
   | exact pylonlaw13_awake.mono _
   | exact pylonref04_At.mono _ _ _ _ _ _ _ _ _ _ _ _
   | exact LeO.none _
   | refine LeO.ite ?_ ?_
   | refine LeO.bind ?_ (fun _ => ?_)
set_option maxHeartbeats 8000000 in
set_option maxRecDepth 100000 in
theorem pylonlaw13_PeriodMoments.calls (k : Nat) (a0_0 : Int) (a0_1 : Int) (a0_2 : Int) (a0_3 : Int) (a0_4 : Int) (a0_5 : Int) (a0_6 : Int) (a0_7 : Int) (a0_8 : Int) (a0_9 : Int) (a0_10 : Int) (a0_11 : Int) (a0_12 : Int) (a1 : Int) (a2 : Int) (r : Bool) (w : World) (h : pylonlaw13_PeriodMoments.f k a0_0 a0_1 a0_2 a0_3 a0_4 a0_5 a0_6 a0_7 a0_8 a0_9 a0_10 a0_11 a0_12 a1 a2 = some r) :
  Calls Try.prog 12 #[.agg #[.int .i64 a0_0, .int .i64 a0_1, .int .i64 a0_2, .int .i64 a0_3, .int .i64 a0_4, .int .i64 a0_5, .int .i64 a0_6, .int .i64 a0_7, .int .i64 a0_8, .int .i64 a0_9, .int .i64 a0_10, .int .i64 a0_11, .int .i64 a0_12], .int .i64 a1, .int .i64 a2] w fun e w' => e = .returned (.bool r) ∧ Below w.heap.size w w' := by
 have hu61 := Try.underlying61
 have hu25 := Try.underlying25
 have hu35 := Try.underlying35
 have hu33 := Try.underlying33
 have HB := AX (Below.refl w.heap.size w)
 have H : ((pylonlaw13_awake.f k).bind fun t750 => (if t750 = true then ((pylonlaw13_Slots_cut.f a0_0 a0_1 a0_2 a0_3 a0_4 a0_5 a0_6 a0_7 a0_8 a0_9 a0_10 a0_11 a0_12).bind fun bt751 => ((period_Spans.f k bt751.1 bt751.2.1 bt751.2.2.1 bt751.2.2.2.1 bt751.2.2.2.2.1 bt751.2.2.2.2.2.1 bt751.2.2.2.2.2.2.1 bt751.2.2.2.2.2.2.2.1 bt751.2.2.2.2.2.2.2.2.1 bt751.2.2.2.2.2.2.2.2.2.1 a1 bt751.2.2.2.2.2.2.2.2.2.2.1 bt751.2.2.2.2.2.2.2.2.2.2.2.1 bt751.2.2.2.2.2.2.2.2.2.2.2.2).bind fun bt764 => (if bt764.2.2 = 0 then (pylonlaw13_PeriodMoments.j0 k a1 a2 bt764.1 bt764.2.1 bt764.2.2 (bt751.2.2.2.2.2.2.2.2.2.2.2.2 == 0) bt751.1 bt751.2.1 bt751.2.2.1 bt751.2.2.2.1 bt751.2.2.2.2.1 bt751.2.2.2.2.2.1 bt751.2.2.2.2.2.2.1 bt751.2.2.2.2.2.2.2.1 bt751.2.2.2.2.2.2.2.2.1 bt751.2.2.2.2.2.2.2.2.2.1 bt751.2.2.2.2.2.2.2.2.2.2.1 bt751.2.2.2.2.2.2.2.2.2.2.2.1 bt751.2.2.2.2.2.2.2.2.2.2.2.2) else (pylonlaw13_PeriodMoments.j0 k a1 a2 bt764.1 bt764.2.1 bt764.2.2 true bt751.1 bt751.2.1 bt751.2.2.1 bt751.2.2.2.1 bt751.2.2.2.2.1 bt751.2.2.2.2.2.1 bt751.2.2.2.2.2.2.1 bt751.2.2.2.2.2.2.2.1 bt751.2.2.2.2.2.2.2.2.1 bt751.2.2.2.2.2.2.2.2.2.1 bt751.2.2.2.2.2.2.2.2.2.2.1 bt751.2.2.2.2.2.2.2.2.2.2.2.1 bt751.2.2.2.2.2.2.2.2.2.2.2.2)))) else (some false))) = some r := h
 clear h
 replace H := Option.bind_eq_some_iff.mp H
 obtain ⟨t750, A40, H⟩ := H
 replace H : (if t750 = true then ((pylonlaw13_Slots_cut.f a0_0 a0_1 a0_2 a0_3 a0_4 a0_5 a0_6 a0_7 a0_8 a0_9 a0_10 a0_11 a0_12).bind fun bt751 => ((period_Spans.f k bt751.1 bt751.2.1 bt751.2.2.1 bt751.2.2.2.1 bt751.2.2.2.2.1 bt751.2.2.2.2.2.1 bt751.2.2.2.2.2.2.1 bt751.2.2.2.2.2.2.2.1 bt751.2.2.2.2.2.2.2.2.1 bt751.2.2.2.2.2.2.2.2.2.1 a1 bt751.2.2.2.2.2.2.2.2.2.2.1 bt751.2.2.2.2.2.2.2.2.2.2.2.1 bt751.2.2.2.2.2.2.2.2.2.2.2.2).bind fun bt764 => (if bt764.2.2 = 0 then (pylonlaw13_PeriodMoments.j0 k a1 a2 bt764.1 bt764.2.1 bt764.2.2 (bt751.2.2.2.2.2.2.2.2.2.2.2.2 == 0) bt751.1 bt751.2.1 bt751.2.2.1 bt751.2.2.2.1 bt751.2.2.2.2.1 bt751.2.2.2.2.2.1 bt751.2.2.2.2.2.2.1 bt751.2.2.2.2.2.2.2.1 bt751.2.2.2.2.2.2.2.2.1 bt751.2.2.2.2.2.2.2.2.2.1 bt751.2.2.2.2.2.2.2.2.2.2.1 bt751.2.2.2.2.2.2.2.2.2.2.2.1 bt751.2.2.2.2.2.2.2.2.2.2.2.2) else (pylonlaw13_PeriodMoments.j0 k a1 a2 bt764.1 bt764.2.1 bt764.2.2 true bt751.1 bt751.2.1 bt751.2.2.1 bt751.2.2.2.1 bt751.2.2.2.2.1 bt751.2.2.2.2.2.1 bt751.2.2.2.2.2.2.1 bt751.2.2.2.2.2.2.2.1 bt751.2.2.2.2.2.2.2.2.1 bt751.2.2.2.2.2.2.2.2.2.1 bt751.2.2.2.2.2.2.2.2.2.2.1 bt751.2.2.2.2.2.2.2.2.2.2.2.1 bt751.2.2.2.2.2.2.2.2.2.2.2.2)))) else (some false)) = some r := H
 have A4 := AX A40
 clear A40
 by_cases c5 : t750 = true
 ·subst c5
  have H1 : ((pylonlaw13_Slots_cut.f a0_0 a0_1 a0_2 a0_3 a0_4 a0_5 a0_6 a0_7 a0_8 a0_9 a0_10 a0_11 a0_12).bind fun bt751 => ((period_Spans.f k bt751.1 bt751.2.1 bt751.2.2.1 bt751.2.2.2.1 bt751.2.2.2.2.1 bt751.2.2.2.2.2.1 bt751.2.2.2.2.2.2.1 bt751.2.2.2.2.2.2.2.1 bt751.2.2.2.2.2.2.2.2.1 bt751.2.2.2.2.2.2.2.2.2.1 a1 bt751.2.2.2.2.2.2.2.2.2.2.1 bt751.2.2.2.2.2.2.2.2.2.2.2.1 bt751.2.2.2.2.2.2.2.2.2.2.2.2).bind fun bt764 => (if bt764.2.2 = 0 then (pylonlaw13_PeriodMoments.j0 k a1 a2 bt764.1 bt764.2.1 bt764.2.2 (bt751.2.2.2.2.2.2.2.2.2.2.2.2 == 0) bt751.1 bt751.2.1 bt751.2.2.1 bt751.2.2.2.1 bt751.2.2.2.2.1 bt751.2.2.2.2.2.1 bt751.2.2.2.2.2.2.1 bt751.2.2.2.2.2.2.2.1 bt751.2.2.2.2.2.2.2.2.1 bt751.2.2.2.2.2.2.2.2.2.1 bt751.2.2.2.2.2.2.2.2.2.2.1 bt751.2.2.2.2.2.2.2.2.2.2.2.1 bt751.2.2.2.2.2.2.2.2.2.2.2.2) else (pylonlaw13_PeriodMoments.j0 k a1 a2 bt764.1 bt764.2.1 bt764.2.2 true bt751.1 bt751.2.1 bt751.2.2.1 bt751.2.2.2.1 bt751.2.2.2.2.1 bt751.2.2.2.2.2.1 bt751.2.2.2.2.2.2.1 bt751.2.2.2.2.2.2.2.1 bt751.2.2.2.2.2.2.2.2.1 bt751.2.2.2.2.2.2.2.2.2.1 bt751.2.2.2.2.2.2.2.2.2.2.1 bt751.2.2.2.2.2.2.2.2.2.2.2.1 bt751.2.2.2.2.2.2.2.2.2.2.2.2)))) = some r := by rw [if_pos rfl] at H; exact H
  clear H
  have H := H1
  clear H1
  replace H := Option.bind_eq_some_iff.mp H
  obtain ⟨⟨t751, t752, t753, t754, t755, t756, t757, t758, t759, t760, t761, t762, t763⟩, A60, H⟩ := H
  replace H : ((period_Spans.f k t751 t752 t753 t754 t755 t756 t757 t758 t759 t760 a1 t761 t762 t763).bind fun bt764 => (if bt764.2.2 = 0 then (pylonlaw13_PeriodMoments.j0 k a1 a2 bt764.1 bt764.2.1 bt764.2.2 (t763 == 0) t751 t752 t753 t754 t755 t756 t757 t758 t759 t760 t761 t762 t763) else (pylonlaw13_PeriodMoments.j0 k a1 a2 bt764.1 bt764.2.1 bt764.2.2 true t751 t752 t753 t754 t755 t756 t757 t758 t759 t760 t761 t762 t763))) = some r := H
  have A6 := AX A60
  clear A60
  replace H := Option.bind_eq_some_iff.mp H
  obtain ⟨⟨t764, t767, t770⟩, A70, H⟩ := H
  replace H : (if t770 = 0 then (pylonlaw13_PeriodMoments.j0 k a1 a2 t764 t767 t770 (t763 == 0) t751 t752 t753 t754 t755 t756 t757 t758 t759 t760 t761 t762 t763) else (pylonlaw13_PeriodMoments.j0 k a1 a2 t764 t767 t770 true t751 t752 t753 t754 t755 t756 t757 t758 t759 t760 t761 t762 t763)) = some r := H
  have A7 := AX A70
  clear A70
  have HC8 := AX H
  clear H
  go_enter Try.func12, Try.ntmps12
  go_upto_region 5 with (first | ((with_reducible refine gate_dst (N := 3) rfl ?_); (try (refine gate_guard (by rfl) ?_; dsimp only)); refine box_event ?hg (N := 3) ?hd (cs := #[.int .i64 a0_0, .int .i64 a0_1, .int .i64 a0_2, .int .i64 a0_3, .int .i64 a0_4, .int .i64 a0_5, .int .i64 a0_6, .int .i64 a0_7, .int .i64 a0_8, .int .i64 a0_9, .int .i64 a0_10, .int .i64 a0_11, .int .i64 a0_12]) (t := 61) ?hr ?_; (case hd => rfl); (case hg => rfl); (case hr => first | (go_simp; done) | (go_simp; rfl)); intro gb749 hg w9 hbox hb; have n0_ := AX (below_step bw hb); have n1_ := AX (hbox); have n2_ := AX ((by rw [hg]; exact (below_size bw) : w.heap.size ≤ gb749)); have n3_ := n2_; clear HB; have HB := n0_; have BK749 := n1_; have GW749 := n2_; have GE749 := n3_; clear n0_ n1_ n2_ n3_; clear hb hbox hg) | (go_at_call 29; (with_reducible refine (pylonlaw13_awake.calls k  true _ A4.out).mono ?_); rintro e w10 ⟨rfl, hb⟩; have n0_ := AX (bkb BK749 hb); have n1_ := AX (below_step bw hb); clear BK749; clear HB; have BK749 := n0_; have HB := n1_; clear n0_ n1_; (try clear hb); obtain ⟨hcz11_0, hcz11_1, hcz11_2, hcz11_3, hcz11_4, hcz11_5, hcz11_6, hcz11_7, hcz11_8, hcz11_9, hcz11_10, hcz11_11, hcz11_12⟩ := blkC13 (w := w10) BK749.out; obtain ⟨hfz11_0, hfz11_1, hfz11_2, hfz11_3, hfz11_4, hfz11_5, hfz11_6, hfz11_7, hfz11_8, hfz11_9, hfz11_10, hfz11_11, hfz11_12⟩ := blkF13 BK749.out) | (go_at_call 30; (with_reducible refine (pylonlaw13_Slots_cut.calls a0_0 a0_1 a0_2 a0_3 a0_4 a0_5 a0_6 a0_7 a0_8 a0_9 a0_10 a0_11 a0_12 t751 t752 t753 t754 t755 t756 t757 t758 t759 t760 t761 t762 t763 _ A6.out).mono ?_); rintro e w12 ⟨rfl, hb⟩; have n0_ := AX (bkb BK749 hb); have n1_ := AX (below_step bw hb); clear BK749; clear HB; have BK749 := n0_; have HB := n1_; clear n0_ n1_; (try clear hb); obtain ⟨hcz13_0, hcz13_1, hcz13_2, hcz13_3, hcz13_4, hcz13_5, hcz13_6, hcz13_7, hcz13_8, hcz13_9, hcz13_10, hcz13_11, hcz13_12⟩ := blkC13 (w := w12) BK749.out; obtain ⟨hfz13_0, hfz13_1, hfz13_2, hfz13_3, hfz13_4, hfz13_5, hfz13_6, hfz13_7, hfz13_8, hfz13_9, hfz13_10, hfz13_11, hfz13_12⟩ := blkF13 BK749.out) | (go_at_call 35; (with_reducible refine (period_Spans.calls k t751 t752 t753 t754 t755 t756 t757 t758 t759 t760 a1 t761 t762 t763 t764 t767 t770 _ A7.out).mono ?_); rintro e w14 ⟨v765, v768, rfl, ho0, ho1, hb⟩; have n0_ := AX (Kd.R_lower ho0 (below_size bw)); have n1_ := AX (Kd.R_lower ho1 (below_size bw)); have n2_ := AX (blk_below (g := gb749) (o := .cells #[.int .i64 t751, .int .i64 t752, .int .i64 t753, .int .i64 t754, .int .i64 t755, .int .i64 t756, .int .i64 t757, .int .i64 t758, .int .i64 t759, .int .i64 t760, .int .i64 t761, .int .i64 t762, .int .i64 t763] 61 (0, 0)) (by (with_reducible repeat first|refine blk_drewN ?_ _|refine blk_drew ?_|refine blk_alloc ?_ _); refine blk_put (cs := #[.int .i64 t751, .int .i64 t752, .int .i64 t753, .int .i64 t754, .int .i64 t755, .int .i64 t756, .int .i64 t757, .int .i64 t758, .int .i64 t759, .int .i64 t760, .int .i64 t761, .int .i64 t762, .int .i64 a0_12]) ?_ 12 _ rfl; (with_reducible repeat first|refine blk_drewN ?_ _|refine blk_drew ?_|refine blk_alloc ?_ _); refine blk_put (cs := #[.int .i64 t751, .int .i64 t752, .int .i64 t753, .int .i64 t754, .int .i64 t755, .int .i64 t756, .int .i64 t757, .int .i64 t758, .int .i64 t759, .int .i64 t760, .int .i64 t761, .int .i64 a0_11, .int .i64 a0_12]) ?_ 11 _ rfl; (with_reducible repeat first|refine blk_drewN ?_ _|refine blk_drew ?_|refine blk_alloc ?_ _); refine blk_put (cs := #[.int .i64 t751, .int .i64 t752, .int .i64 t753, .int .i64 t754, .int .i64 t755, .int .i64 t756, .int .i64 t757, .int .i64 t758, .int .i64 t759, .int .i64 t760, .int .i64 a0_10, .int .i64 a0_11, .int .i64 a0_12]) ?_ 10 _ rfl; (with_reducible repeat first|refine blk_drewN ?_ _|refine blk_drew ?_|refine blk_alloc ?_ _); refine blk_put (cs := #[.int .i64 t751, .int .i64 t752, .int .i64 t753, .int .i64 t754, .int .i64 t755, .int .i64 t756, .int .i64 t757, .int .i64 t758, .int .i64 t759, .int .i64 a0_9, .int .i64 a0_10, .int .i64 a0_11, .int .i64 a0_12]) ?_ 9 _ rfl; (with_reducible repeat first|refine blk_drewN ?_ _|refine blk_drew ?_|refine blk_alloc ?_ _); refine blk_put (cs := #[.int .i64 t751, .int .i64 t752, .int .i64 t753, .int .i64 t754, .int .i64 t755, .int .i64 t756, .int .i64 t757, .int .i64 t758, .int .i64 a0_8, .int .i64 a0_9, .int .i64 a0_10, .int .i64 a0_11, .int .i64 a0_12]) ?_ 8 _ rfl; (with_reducible repeat first|refine blk_drewN ?_ _|refine blk_drew ?_|refine blk_alloc ?_ _); refine blk_put (cs := #[.int .i64 t751, .int .i64 t752, .int .i64 t753, .int .i64 t754, .int .i64 t755, .int .i64 t756, .int .i64 t757, .int .i64 a0_7, .int .i64 a0_8, .int .i64 a0_9, .int .i64 a0_10, .int .i64 a0_11, .int .i64 a0_12]) ?_ 7 _ rfl; (with_reducible repeat first|refine blk_drewN ?_ _|refine blk_drew ?_|refine blk_alloc ?_ _); refine blk_put (cs := #[.int .i64 t751, .int .i64 t752, .int .i64 t753, .int .i64 t754, .int .i64 t755, .int .i64 t756, .int .i64 a0_6, .int .i64 a0_7, .int .i64 a0_8, .int .i64 a0_9, .int .i64 a0_10, .int .i64 a0_11, .int .i64 a0_12]) ?_ 6 _ rfl; (with_reducible repeat first|refine blk_drewN ?_ _|refine blk_drew ?_|refine blk_alloc ?_ _); refine blk_put (cs := #[.int .i64 t751, .int .i64 t752, .int .i64 t753, .int .i64 t754, .int .i64 t755, .int .i64 a0_5, .int .i64 a0_6, .int .i64 a0_7, .int .i64 a0_8, .int .i64 a0_9, .int .i64 a0_10, .int .i64 a0_11, .int .i64 a0_12]) ?_ 5 _ rfl; (with_reducible repeat first|refine blk_drewN ?_ _|refine blk_drew ?_|refine blk_alloc ?_ _); refine blk_put (cs := #[.int .i64 t751, .int .i64 t752, .int .i64 t753, .int .i64 t754, .int .i64 a0_4, .int .i64 a0_5, .int .i64 a0_6, .int .i64 a0_7, .int .i64 a0_8, .int .i64 a0_9, .int .i64 a0_10, .int .i64 a0_11, .int .i64 a0_12]) ?_ 4 _ rfl; (with_reducible repeat first|refine blk_drewN ?_ _|refine blk_drew ?_|refine blk_alloc ?_ _); refine blk_put (cs := #[.int .i64 t751, .int .i64 t752, .int .i64 t753, .int .i64 a0_3, .int .i64 a0_4, .int .i64 a0_5, .int .i64 a0_6, .int .i64 a0_7, .int .i64 a0_8, .int .i64 a0_9, .int .i64 a0_10, .int .i64 a0_11, .int .i64 a0_12]) ?_ 3 _ rfl; (with_reducible repeat first|refine blk_drewN ?_ _|refine blk_drew ?_|refine blk_alloc ?_ _); refine blk_put (cs := #[.int .i64 t751, .int .i64 t752, .int .i64 a0_2, .int .i64 a0_3, .int .i64 a0_4, .int .i64 a0_5, .int .i64 a0_6, .int .i64 a0_7, .int .i64 a0_8, .int .i64 a0_9, .int .i64 a0_10, .int .i64 a0_11, .int .i64 a0_12]) ?_ 2 _ rfl; (with_reducible repeat first|refine blk_drewN ?_ _|refine blk_drew ?_|refine blk_alloc ?_ _); refine blk_put (cs := #[.int .i64 t751, .int .i64 a0_1, .int .i64 a0_2, .int .i64 a0_3, .int .i64 a0_4, .int .i64 a0_5, .int .i64 a0_6, .int .i64 a0_7, .int .i64 a0_8, .int .i64 a0_9, .int .i64 a0_10, .int .i64 a0_11, .int .i64 a0_12]) ?_ 1 _ rfl; (with_reducible repeat first|refine blk_drewN ?_ _|refine blk_drew ?_|refine blk_alloc ?_ _); refine blk_put (cs := #[.int .i64 a0_0, .int .i64 a0_1, .int .i64 a0_2, .int .i64 a0_3, .int .i64 a0_4, .int .i64 a0_5, .int .i64 a0_6, .int .i64 a0_7, .int .i64 a0_8, .int .i64 a0_9, .int .i64 a0_10, .int .i64 a0_11, .int .i64 a0_12]) ?_ 0 _ rfl; (with_reducible repeat first|refine blk_drewN ?_ _|refine blk_drew ?_|refine blk_alloc ?_ _); exact BK749.out) hb); have n3_ := AX (below_step bw hb); clear BK749; clear HB; have HO766 := n0_; have HO769 := n1_; have BK749 := n2_; have HB := n3_; clear n0_ n1_ n2_ n3_; (try clear hb); (try clear hb2); (try clear hk); (try clear hi); (try clear ho0); (try clear ho1)))
  repeat (go_quiet (first | ((with_reducible refine gate_dst (N := 3) rfl ?_); (try (refine gate_guard (by rfl) ?_; dsimp only)); refine box_event ?hg (N := 3) ?hd (cs := #[.int .i64 a0_0, .int .i64 a0_1, .int .i64 a0_2, .int .i64 a0_3, .int .i64 a0_4, .int .i64 a0_5, .int .i64 a0_6, .int .i64 a0_7, .int .i64 a0_8, .int .i64 a0_9, .int .i64 a0_10, .int .i64 a0_11, .int .i64 a0_12]) (t := 61) ?hr ?_; (case hd => rfl); (case hg => rfl); (case hr => first | (go_simp; done) | (go_simp; rfl)); intro gb749 hg w9 hbox hb; have n0_ := AX (below_step bw hb); have n1_ := AX (hbox); have n2_ := AX ((by rw [hg]; exact (below_size bw) : w.heap.size ≤ gb749)); have n3_ := n2_; clear HB; have HB := n0_; have BK749 := n1_; have GW749 := n2_; have GE749 := n3_; clear n0_ n1_ n2_ n3_; clear hb hbox hg) | (go_at_call 29; (with_reducible refine (pylonlaw13_awake.calls k  true _ A4.out).mono ?_); rintro e w10 ⟨rfl, hb⟩; have n0_ := AX (bkb BK749 hb); have n1_ := AX (below_step bw hb); clear BK749; clear HB; have BK749 := n0_; have HB := n1_; clear n0_ n1_; (try clear hb); obtain ⟨hcz11_0, hcz11_1, hcz11_2, hcz11_3, hcz11_4, hcz11_5, hcz11_6, hcz11_7, hcz11_8, hcz11_9, hcz11_10, hcz11_11, hcz11_12⟩ := blkC13 (w := w10) BK749.out; obtain ⟨hfz11_0, hfz11_1, hfz11_2, hfz11_3, hfz11_4, hfz11_5, hfz11_6, hfz11_7, hfz11_8, hfz11_9, hfz11_10, hfz11_11, hfz11_12⟩ := blkF13 BK749.out) | (go_at_call 30; (with_reducible refine (pylonlaw13_Slots_cut.calls a0_0 a0_1 a0_2 a0_3 a0_4 a0_5 a0_6 a0_7 a0_8 a0_9 a0_10 a0_11 a0_12 t751 t752 t753 t754 t755 t756 t757 t758 t759 t760 t761 t762 t763 _ A6.out).mono ?_); rintro e w12 ⟨rfl, hb⟩; have n0_ := AX (bkb BK749 hb); have n1_ := AX (below_step bw hb); clear BK749; clear HB; have BK749 := n0_; have HB := n1_; clear n0_ n1_; (try clear hb); obtain ⟨hcz13_0, hcz13_1, hcz13_2, hcz13_3, hcz13_4, hcz13_5, hcz13_6, hcz13_7, hcz13_8, hcz13_9, hcz13_10, hcz13_11, hcz13_12⟩ := blkC13 (w := w12) BK749.out; obtain ⟨hfz13_0, hfz13_1, hfz13_2, hfz13_3, hfz13_4, hfz13_5, hfz13_6, hfz13_7, hfz13_8, hfz13_9, hfz13_10, hfz13_11, hfz13_12⟩ := blkF13 BK749.out) | (go_at_call 35; (with_reducible refine (period_Spans.calls k t751 t752 t753 t754 t755 t756 t757 t758 t759 t760 a1 t761 t762 t763 t764 t767 t770 _ A7.out).mono ?_); rintro e w14 ⟨v765, v768, rfl, ho0, ho1, hb⟩; have n0_ := AX (Kd.R_lower ho0 (below_size bw)); have n1_ := AX (Kd.R_lower ho1 (below_size bw)); have n2_ := AX (blk_below (g := gb749) (o := .cells #[.int .i64 t751, .int .i64 t752, .int .i64 t753, .int .i64 t754, .int .i64 t755, .int .i64 t756, .int .i64 t757, .int .i64 t758, .int .i64 t759, .int .i64 t760, .int .i64 t761, .int .i64 t762, .int .i64 t763] 61 (0, 0)) (by (with_reducible repeat first|refine blk_drewN ?_ _|refine blk_drew ?_|refine blk_alloc ?_ _); refine blk_put (cs := #[.int .i64 t751, .int .i64 t752, .int .i64 t753, .int .i64 t754, .int .i64 t755, .int .i64 t756, .int .i64 t757, .int .i64 t758, .int .i64 t759, .int .i64 t760, .int .i64 t761, .int .i64 t762, .int .i64 a0_12]) ?_ 12 _ rfl; (with_reducible repeat first|refine blk_drewN ?_ _|refine blk_drew ?_|refine blk_alloc ?_ _); refine blk_put (cs := #[.int .i64 t751, .int .i64 t752, .int .i64 t753, .int .i64 t754, .int .i64 t755, .int .i64 t756, .int .i64 t757, .int .i64 t758, .int .i64 t759, .int .i64 t760, .int .i64 t761, .int .i64 a0_11, .int .i64 a0_12]) ?_ 11 _ rfl; (with_reducible repeat first|refine blk_drewN ?_ _|refine blk_drew ?_|refine blk_alloc ?_ _); refine blk_put (cs := #[.int .i64 t751, .int .i64 t752, .int .i64 t753, .int .i64 t754, .int .i64 t755, .int .i64 t756, .int .i64 t757, .int .i64 t758, .int .i64 t759, .int .i64 t760, .int .i64 a0_10, .int .i64 a0_11, .int .i64 a0_12]) ?_ 10 _ rfl; (with_reducible repeat first|refine blk_drewN ?_ _|refine blk_drew ?_|refine blk_alloc ?_ _); refine blk_put (cs := #[.int .i64 t751, .int .i64 t752, .int .i64 t753, .int .i64 t754, .int .i64 t755, .int .i64 t756, .int .i64 t757, .int .i64 t758, .int .i64 t759, .int .i64 a0_9, .int .i64 a0_10, .int .i64 a0_11, .int .i64 a0_12]) ?_ 9 _ rfl; (with_reducible repeat first|refine blk_drewN ?_ _|refine blk_drew ?_|refine blk_alloc ?_ _); refine blk_put (cs := #[.int .i64 t751, .int .i64 t752, .int .i64 t753, .int .i64 t754, .int .i64 t755, .int .i64 t756, .int .i64 t757, .int .i64 t758, .int .i64 a0_8, .int .i64 a0_9, .int .i64 a0_10, .int .i64 a0_11, .int .i64 a0_12]) ?_ 8 _ rfl; (with_reducible repeat first|refine blk_drewN ?_ _|refine blk_drew ?_|refine blk_alloc ?_ _); refine blk_put (cs := #[.int .i64 t751, .int .i64 t752, .int .i64 t753, .int .i64 t754, .int .i64 t755, .int .i64 t756, .int .i64 t757, .int .i64 a0_7, .int .i64 a0_8, .int .i64 a0_9, .int .i64 a0_10, .int .i64 a0_11, .int .i64 a0_12]) ?_ 7 _ rfl; (with_reducible repeat first|refine blk_drewN ?_ _|refine blk_drew ?_|refine blk_alloc ?_ _); refine blk_put (cs := #[.int .i64 t751, .int .i64 t752, .int .i64 t753, .int .i64 t754, .int .i64 t755, .int .i64 t756, .int .i64 a0_6, .int .i64 a0_7, .int .i64 a0_8, .int .i64 a0_9, .int .i64 a0_10, .int .i64 a0_11, .int .i64 a0_12]) ?_ 6 _ rfl; (with_reducible repeat first|refine blk_drewN ?_ _|refine blk_drew ?_|refine blk_alloc ?_ _); refine blk_put (cs := #[.int .i64 t751, .int .i64 t752, .int .i64 t753, .int .i64 t754, .int .i64 t755, .int .i64 a0_5, .int .i64 a0_6, .int .i64 a0_7, .int .i64 a0_8, .int .i64 a0_9, .int .i64 a0_10, .int .i64 a0_11, .int .i64 a0_12]) ?_ 5 _ rfl; (with_reducible repeat first|refine blk_drewN ?_ _|refine blk_drew ?_|refine blk_alloc ?_ _); refine blk_put (cs := #[.int .i64 t751, .int .i64 t752, .int .i64 t753, .int .i64 t754, .int .i64 a0_4, .int .i64 a0_5, .int .i64 a0_6, .int .i64 a0_7, .int .i64 a0_8, .int .i64 a0_9, .int .i64 a0_10, .int .i64 a0_11, .int .i64 a0_12]) ?_ 4 _ rfl; (with_reducible repeat first|refine blk_drewN ?_ _|refine blk_drew ?_|refine blk_alloc ?_ _); refine blk_put (cs := #[.int .i64 t751, .int .i64 t752, .int .i64 t753, .int .i64 a0_3, .int .i64 a0_4, .int .i64 a0_5, .int .i64 a0_6, .int .i64 a0_7, .int .i64 a0_8, .int .i64 a0_9, .int .i64 a0_10, .int .i64 a0_11, .int .i64 a0_12]) ?_ 3 _ rfl; (with_reducible repeat first|refine blk_drewN ?_ _|refine blk_drew ?_|refine blk_alloc ?_ _); refine blk_put (cs := #[.int .i64 t751, .int .i64 t752, .int .i64 a0_2, .int .i64 a0_3, .int .i64 a0_4, .int .i64 a0_5, .int .i64 a0_6, .int .i64 a0_7, .int .i64 a0_8, .int .i64 a0_9, .int .i64 a0_10, .int .i64 a0_11, .int .i64 a0_12]) ?_ 2 _ rfl; (with_reducible repeat first|refine blk_drewN ?_ _|refine blk_drew ?_|refine blk_alloc ?_ _); refine blk_put (cs := #[.int .i64 t751, .int .i64 a0_1, .int .i64 a0_2, .int .i64 a0_3, .int .i64 a0_4, .int .i64 a0_5, .int .i64 a0_6, .int .i64 a0_7, .int .i64 a0_8, .int .i64 a0_9, .int .i64 a0_10, .int .i64 a0_11, .int .i64 a0_12]) ?_ 1 _ rfl; (with_reducible repeat first|refine blk_drewN ?_ _|refine blk_drew ?_|refine blk_alloc ?_ _); refine blk_put (cs := #[.int .i64 a0_0, .int .i64 a0_1, .int .i64 a0_2, .int .i64 a0_3, .int .i64 a0_4, .int .i64 a0_5, .int .i64 a0_6, .int .i64 a0_7, .int .i64 a0_8, .int .i64 a0_9, .int .i64 a0_10, .int .i64 a0_11, .int .i64 a0_12]) ?_ 0 _ rfl; (with_reducible repeat first|refine blk_drewN ?_ _|refine blk_drew ?_|refine blk_alloc ?_ _); exact BK749.out) hb); have n3_ := AX (below_step bw hb); clear BK749; clear HB; have HO766 := n0_; have HO769 := n1_; have BK749 := n2_; have HB := n3_; clear n0_ n1_ n2_ n3_; (try clear hb); (try clear hb2); (try clear hk); (try clear hi); (try clear ho0); (try clear ho1))); go_upto_region 5 with (first | ((with_reducible refine gate_dst (N := 3) rfl ?_); (try (refine gate_guard (by rfl) ?_; dsimp only)); refine box_event ?hg (N := 3) ?hd (cs := #[.int .i64 a0_0, .int .i64 a0_1, .int .i64 a0_2, .int .i64 a0_3, .int .i64 a0_4, .int .i64 a0_5, .int .i64 a0_6, .int .i64 a0_7, .int .i64 a0_8, .int .i64 a0_9, .int .i64 a0_10, .int .i64 a0_11, .int .i64 a0_12]) (t := 61) ?hr ?_; (case hd => rfl); (case hg => rfl); (case hr => first | (go_simp; done) | (go_simp; rfl)); intro gb749 hg w9 hbox hb; have n0_ := AX (below_step bw hb); have n1_ := AX (hbox); have n2_ := AX ((by rw [hg]; exact (below_size bw) : w.heap.size ≤ gb749)); have n3_ := n2_; clear HB; have HB := n0_; have BK749 := n1_; have GW749 := n2_; have GE749 := n3_; clear n0_ n1_ n2_ n3_; clear hb hbox hg) | (go_at_call 29; (with_reducible refine (pylonlaw13_awake.calls k  true _ A4.out).mono ?_); rintro e w10 ⟨rfl, hb⟩; have n0_ := AX (bkb BK749 hb); have n1_ := AX (below_step bw hb); clear BK749; clear HB; have BK749 := n0_; have HB := n1_; clear n0_ n1_; (try clear hb); obtain ⟨hcz11_0, hcz11_1, hcz11_2, hcz11_3, hcz11_4, hcz11_5, hcz11_6, hcz11_7, hcz11_8, hcz11_9, hcz11_10, hcz11_11, hcz11_12⟩ := blkC13 (w := w10) BK749.out; obtain ⟨hfz11_0, hfz11_1, hfz11_2, hfz11_3, hfz11_4, hfz11_5, hfz11_6, hfz11_7, hfz11_8, hfz11_9, hfz11_10, hfz11_11, hfz11_12⟩ := blkF13 BK749.out) | (go_at_call 30; (with_reducible refine (pylonlaw13_Slots_cut.calls a0_0 a0_1 a0_2 a0_3 a0_4 a0_5 a0_6 a0_7 a0_8 a0_9 a0_10 a0_11 a0_12 t751 t752 t753 t754 t755 t756 t757 t758 t759 t760 t761 t762 t763 _ A6.out).mono ?_); rintro e w12 ⟨rfl, hb⟩; have n0_ := AX (bkb BK749 hb); have n1_ := AX (below_step bw hb); clear BK749; clear HB; have BK749 := n0_; have HB := n1_; clear n0_ n1_; (try clear hb); obtain ⟨hcz13_0, hcz13_1, hcz13_2, hcz13_3, hcz13_4, hcz13_5, hcz13_6, hcz13_7, hcz13_8, hcz13_9, hcz13_10, hcz13_11, hcz13_12⟩ := blkC13 (w := w12) BK749.out; obtain ⟨hfz13_0, hfz13_1, hfz13_2, hfz13_3, hfz13_4, hfz13_5, hfz13_6, hfz13_7, hfz13_8, hfz13_9, hfz13_10, hfz13_11, hfz13_12⟩ := blkF13 BK749.out) | (go_at_call 35; (with_reducible refine (period_Spans.calls k t751 t752 t753 t754 t755 t756 t757 t758 t759 t760 a1 t761 t762 t763 t764 t767 t770 _ A7.out).mono ?_); rintro e w14 ⟨v765, v768, rfl, ho0, ho1, hb⟩; have n0_ := AX (Kd.R_lower ho0 (below_size bw)); have n1_ := AX (Kd.R_lower ho1 (below_size bw)); have n2_ := AX (blk_below (g := gb749) (o := .cells #[.int .i64 t751, .int .i64 t752, .int .i64 t753, .int .i64 t754, .int .i64 t755, .int .i64 t756, .int .i64 t757, .int .i64 t758, .int .i64 t759, .int .i64 t760, .int .i64 t761, .int .i64 t762, .int .i64 t763] 61 (0, 0)) (by (with_reducible repeat first|refine blk_drewN ?_ _|refine blk_drew ?_|refine blk_alloc ?_ _); refine blk_put (cs := #[.int .i64 t751, .int .i64 t752, .int .i64 t753, .int .i64 t754, .int .i64 t755, .int .i64 t756, .int .i64 t757, .int .i64 t758, .int .i64 t759, .int .i64 t760, .int .i64 t761, .int .i64 t762, .int .i64 a0_12]) ?_ 12 _ rfl; (with_reducible repeat first|refine blk_drewN ?_ _|refine blk_drew ?_|refine blk_alloc ?_ _); refine blk_put (cs := #[.int .i64 t751, .int .i64 t752, .int .i64 t753, .int .i64 t754, .int .i64 t755, .int .i64 t756, .int .i64 t757, .int .i64 t758, .int .i64 t759, .int .i64 t760, .int .i64 t761, .int .i64 a0_11, .int .i64 a0_12]) ?_ 11 _ rfl; (with_reducible repeat first|refine blk_drewN ?_ _|refine blk_drew ?_|refine blk_alloc ?_ _); refine blk_put (cs := #[.int .i64 t751, .int .i64 t752, .int .i64 t753, .int .i64 t754, .int .i64 t755, .int .i64 t756, .int .i64 t757, .int .i64 t758, .int .i64 t759, .int .i64 t760, .int .i64 a0_10, .int .i64 a0_11, .int .i64 a0_12]) ?_ 10 _ rfl; (with_reducible repeat first|refine blk_drewN ?_ _|refine blk_drew ?_|refine blk_alloc ?_ _); refine blk_put (cs := #[.int .i64 t751, .int .i64 t752, .int .i64 t753, .int .i64 t754, .int .i64 t755, .int .i64 t756, .int .i64 t757, .int .i64 t758, .int .i64 t759, .int .i64 a0_9, .int .i64 a0_10, .int .i64 a0_11, .int .i64 a0_12]) ?_ 9 _ rfl; (with_reducible repeat first|refine blk_drewN ?_ _|refine blk_drew ?_|refine blk_alloc ?_ _); refine blk_put (cs := #[.int .i64 t751, .int .i64 t752, .int .i64 t753, .int .i64 t754, .int .i64 t755, .int .i64 t756, .int .i64 t757, .int .i64 t758, .int .i64 a0_8, .int .i64 a0_9, .int .i64 a0_10, .int .i64 a0_11, .int .i64 a0_12]) ?_ 8 _ rfl; (with_reducible repeat first|refine blk_drewN ?_ _|refine blk_drew ?_|refine blk_alloc ?_ _); refine blk_put (cs := #[.int .i64 t751, .int .i64 t752, .int .i64 t753, .int .i64 t754, .int .i64 t755, .int .i64 t756, .int .i64 t757, .int .i64 a0_7, .int .i64 a0_8, .int .i64 a0_9, .int .i64 a0_10, .int .i64 a0_11, .int .i64 a0_12]) ?_ 7 _ rfl; (with_reducible repeat first|refine blk_drewN ?_ _|refine blk_drew ?_|refine blk_alloc ?_ _); refine blk_put (cs := #[.int .i64 t751, .int .i64 t752, .int .i64 t753, .int .i64 t754, .int .i64 t755, .int .i64 t756, .int .i64 a0_6, .int .i64 a0_7, .int .i64 a0_8, .int .i64 a0_9, .int .i64 a0_10, .int .i64 a0_11, .int .i64 a0_12]) ?_ 6 _ rfl; (with_reducible repeat first|refine blk_drewN ?_ _|refine blk_drew ?_|refine blk_alloc ?_ _); refine blk_put (cs := #[.int .i64 t751, .int .i64 t752, .int .i64 t753, .int .i64 t754, .int .i64 t755, .int .i64 a0_5, .int .i64 a0_6, .int .i64 a0_7, .int .i64 a0_8, .int .i64 a0_9, .int .i64 a0_10, .int .i64 a0_11, .int .i64 a0_12]) ?_ 5 _ rfl; (with_reducible repeat first|refine blk_drewN ?_ _|refine blk_drew ?_|refine blk_alloc ?_ _); refine blk_put (cs := #[.int .i64 t751, .int .i64 t752, .int .i64 t753, .int .i64 t754, .int .i64 a0_4, .int .i64 a0_5, .int .i64 a0_6, .int .i64 a0_7, .int .i64 a0_8, .int .i64 a0_9, .int .i64 a0_10, .int .i64 a0_11, .int .i64 a0_12]) ?_ 4 _ rfl; (with_reducible repeat first|refine blk_drewN ?_ _|refine blk_drew ?_|refine blk_alloc ?_ _); refine blk_put (cs := #[.int .i64 t751, .int .i64 t752, .int .i64 t753, .int .i64 a0_3, .int .i64 a0_4, .int .i64 a0_5, .int .i64 a0_6, .int .i64 a0_7, .int .i64 a0_8, .int .i64 a0_9, .int .i64 a0_10, .int .i64 a0_11, .int .i64 a0_12]) ?_ 3 _ rfl; (with_reducible repeat first|refine blk_drewN ?_ _|refine blk_drew ?_|refine blk_alloc ?_ _); refine blk_put (cs := #[.int .i64 t751, .int .i64 t752, .int .i64 a0_2, .int .i64 a0_3, .int .i64 a0_4, .int .i64 a0_5, .int .i64 a0_6, .int .i64 a0_7, .int .i64 a0_8, .int .i64 a0_9, .int .i64 a0_10, .int .i64 a0_11, .int .i64 a0_12]) ?_ 2 _ rfl; (with_reducible repeat first|refine blk_drewN ?_ _|refine blk_drew ?_|refine blk_alloc ?_ _); refine blk_put (cs := #[.int .i64 t751, .int .i64 a0_1, .int .i64 a0_2, .int .i64 a0_3, .int .i64 a0_4, .int .i64 a0_5, .int .i64 a0_6, .int .i64 a0_7, .int .i64 a0_8, .int .i64 a0_9, .int .i64 a0_10, .int .i64 a0_11, .int .i64 a0_12]) ?_ 1 _ rfl; (with_reducible repeat first|refine blk_drewN ?_ _|refine blk_drew ?_|refine blk_alloc ?_ _); refine blk_put (cs := #[.int .i64 a0_0, .int .i64 a0_1, .int .i64 a0_2, .int .i64 a0_3, .int .i64 a0_4, .int .i64 a0_5, .int .i64 a0_6, .int .i64 a0_7, .int .i64 a0_8, .int .i64 a0_9, .int .i64 a0_10, .int .i64 a0_11, .int .i64 a0_12]) ?_ 0 _ rfl; (with_reducible repeat first|refine blk_drewN ?_ _|refine blk_drew ?_|refine blk_alloc ?_ _); exact BK749.out) hb); have n3_ := AX (below_step bw hb); clear BK749; clear HB; have HO766 := n0_; have HO769 := n1_; have BK749 := n2_; have HB := n3_; clear n0_ n1_ n2_ n3_; (try clear hb); (try clear hb2); (try clear hk); (try clear hi); (try clear ho0); (try clear ho1))))
  (try simp only [Act.put, List.setIfInBounds_toArray, List.set_cons_zero, List.set_cons_succ])
  go_cut [39] (fun v39 wc => ∃ (kq : Nat) (x39_7 : Bool), v39 = .bool x39_7 ∧ Aside0 (pylonlaw13_PeriodMoments.j0 kq a1 a2 t764 t767 t770 x39_7 t751 t752 t753 t754 t755 t756 t757 t758 t759 t760 t761 t762 t763 = some r) ∧ Aside0 (kq ≤ k) ∧ Aside0 (Kd.R k74 74 wc w.heap.size (fun _ => True) v765 t764) ∧ Aside0 (Kd.R k33 33 wc w.heap.size (fun _ => True) v768 t767) ∧ Aside0 (wc.heap[gb749]? = some (.cells #[.int .i64 t751, .int .i64 t752, .int .i64 t753, .int .i64 t754, .int .i64 t755, .int .i64 t756, .int .i64 t757, .int .i64 t758, .int .i64 t759, .int .i64 t760, .int .i64 t761, .int .i64 t762, .int .i64 t763] 61 (0, 0))) ∧ Aside0 (Below w.heap.size w wc))
  case first =>
   have H := HC8.out
   clear HC8
   by_cases c15 : t770 = 0
   ·rw [if_pos c15] at H
    have c15b0 : (t770 == 0) = true := beq_iff_eq.mpr c15
    have c15b1 : (t770 != 0) = false := bne_eq_false_iff_eq.mpr c15
    clear c15
    (first | rw [c15b0] | (simp only [i64_w, i32_w]; rw [c15b0]) | skip)
    have H' := AX H
    clear H
    obtain ⟨hcz16_0, hcz16_1, hcz16_2, hcz16_3, hcz16_4, hcz16_5, hcz16_6, hcz16_7, hcz16_8, hcz16_9, hcz16_10, hcz16_11, hcz16_12⟩ := blkC13 (w := w14) BK749.out
    obtain ⟨hfz16_0, hfz16_1, hfz16_2, hfz16_3, hfz16_4, hfz16_5, hfz16_6, hfz16_7, hfz16_8, hfz16_9, hfz16_10, hfz16_11, hfz16_12⟩ := blkF13 BK749.out
    go_wp2
    repeat (go_quiet (fail); try go_wp2)
    go_meet
    case rel => exact ⟨_, ((t763 == 0)), (by first | rfl | (simp; done) | (simp [*]; done)), H', ⟨by first | omega | exact Nat.le_refl _⟩, ⟨kr HO766⟩, ⟨kr HO769⟩, ⟨bkn BK749⟩, ⟨bw⟩⟩
   ·rw [if_neg c15] at H
    have c15b0 : (t770 == 0) = false := beq_eq_false_iff_ne.mpr c15
    have c15b1 : (t770 != 0) = true := bne_iff_ne.mpr c15
    (first | rw [c15b0] | (simp only [i64_w, i32_w]; rw [c15b0]) | skip)
    have H' := AX H
    clear H
    go_wp2
    repeat (go_quiet (fail); try go_wp2)
    go_meet
    case rel => exact ⟨_, (true), (by first | rfl | (simp; done) | (simp [*]; done)), H', ⟨by first | omega | exact Nat.le_refl _⟩, ⟨kr HO766⟩, ⟨kr HO769⟩, ⟨bkn BK749⟩, ⟨bw⟩⟩
  case rest =>
   clear HC8
   try clear c5
   try clear hcz11_0 hcz11_1
   try clear hcz11_10 hcz11_11 hcz11_12
   try clear hcz11_2 hcz11_3 hcz11_4 hcz11_5 hcz11_6 hcz11_7 hcz11_8 hcz11_9
   try clear hcz13_0 hcz13_1
   try clear hcz13_10 hcz13_11 hcz13_12
   try clear hcz13_2 hcz13_3 hcz13_4 hcz13_5 hcz13_6 hcz13_7 hcz13_8 hcz13_9
   try clear hfz11_0 hfz11_1
   try clear hfz11_10 hfz11_11 hfz11_12
   try clear hfz11_2 hfz11_3 hfz11_4 hfz11_5 hfz11_6 hfz11_7 hfz11_8 hfz11_9
   try clear hfz13_0 hfz13_1
   try clear hfz13_10 hfz13_11 hfz13_12
   try clear hfz13_2 hfz13_3 hfz13_4 hfz13_5 hfz13_6 hfz13_7 hfz13_8 hfz13_9
   obtain ⟨kq, x39_7, rfl, HA, HJ7, HO_7, HO_8, BK749, HB⟩ := hcut
   cases kq with
   | zero => exact absurd HA.out (by simp [pylonlaw13_PeriodMoments.j0])
   | succ kj7 =>
    have H := HA.out
    clear HA
    simp only [pylonlaw13_PeriodMoments.j0] at H
    by_cases c17 : x39_7 = true
    ·subst c17
     have H1 : (if t770 = 0 then (some true) else (some ((t764.length : Int) == 0))) = some r := by rw [if_pos rfl] at H; exact H
     clear H
     have H := H1
     clear H1
     by_cases c18 : t770 = 0
     ·rw [if_pos c18] at H
      have c18b0 : (t770 == 0) = true := beq_iff_eq.mpr c18
      have c18b1 : (t770 != 0) = false := bne_eq_false_iff_eq.mpr c18
      clear c18
      obtain rfl := Option.some.inj H
      go_wp2
      repeat (go_quiet (fail); try go_wp2)
      go_ret
      exact ⟨by first | rfl | (simp [errW_none, errW_some] <;> rfl) | (simp [*, errW_none, errW_some] <;> rfl), bw⟩
     ·rw [if_neg c18] at H
      have c18b0 : (t770 == 0) = false := beq_eq_false_iff_ne.mpr c18
      have c18b1 : (t770 != 0) = true := bne_iff_ne.mpr c18
      obtain rfl := Option.some.inj H
      obtain ⟨Ao19, co19, eo19⟩ := Kd.R_slice HO_7.out
      subst eo19
      go_wp2
      repeat (go_quiet (fail); try go_wp2)
      go_ret
      exact ⟨by first | rfl | (simp [errW_none, errW_some] <;> rfl) | (simp [*, errW_none, errW_some] <;> rfl), bw⟩
    ·replace c17 := Bool.eq_false_iff.mpr c17
     subst c17
     have H1 : (if (IntKind.u64.wrap (t763)) = 0 then (none) else ((pylonref04_At.f kj7 t751 t752 t753 t754 t755 t756 t757 t758 t759 t760 (wrap64 (t761 + (wrap64 ((wrap64 (60 * t762)) * (wrap64 (Int.tmod (IntKind.u64.wrap (a2)) (IntKind.u64.wrap (t763))))))))).bind fun bt771 => (if bt771.2.2.2.2.2 = 0 then (pylonlaw13_PeriodMoments.j1 kj7 a1 (wrap64 (Int.tmod (IntKind.u64.wrap (a2)) (IntKind.u64.wrap (t763)))) t764 t767 ((t767.length : Int) != (t764.length : Int)) bt771.1 bt771.2.1 bt771.2.2.1 bt771.2.2.2.1 bt771.2.2.2.2.1) else (pylonlaw13_PeriodMoments.j1 kj7 a1 (wrap64 (Int.tmod (IntKind.u64.wrap (a2)) (IntKind.u64.wrap (t763)))) t764 t767 true bt771.1 bt771.2.1 bt771.2.2.1 bt771.2.2.2.1 bt771.2.2.2.2.1)))) = some r := by rw [if_neg (show ¬ (false = true) by decide)] at H; exact H
     clear H
     have H := H1
     clear H1
     by_cases c20 : (IntKind.u64.wrap (t763)) = 0
     ·rw [if_pos c20] at H
      exact absurd H (by simp)
     ·rw [if_neg c20] at H
      have c20b0 : ((IntKind.u64.wrap (t763)) == 0) = false := beq_eq_false_iff_ne.mpr c20
      have c20b1 : ((IntKind.u64.wrap (t763)) != 0) = true := bne_iff_ne.mpr c20
      replace H := Option.bind_eq_some_iff.mp H
      obtain ⟨⟨t771, t772, t773, t774, t775, t776⟩, A210, H⟩ := H
      replace H : (if t776 = 0 then (pylonlaw13_PeriodMoments.j1 kj7 a1 (wrap64 (Int.tmod (IntKind.u64.wrap (a2)) (IntKind.u64.wrap (t763)))) t764 t767 ((t767.length : Int) != (t764.length : Int)) t771 t772 t773 t774 t775) else (pylonlaw13_PeriodMoments.j1 kj7 a1 (wrap64 (Int.tmod (IntKind.u64.wrap (a2)) (IntKind.u64.wrap (t763)))) t764 t767 true t771 t772 t773 t774 t775)) = some r := H
      have A21 := AX A210
      clear A210
      have HC22 := AX H
      clear H
      obtain ⟨hcz23_0, hcz23_1, hcz23_2, hcz23_3, hcz23_4, hcz23_5, hcz23_6, hcz23_7, hcz23_8, hcz23_9, hcz23_10, hcz23_11, hcz23_12⟩ := blkC13 (w := wc) BK749.out
      obtain ⟨hfz23_0, hfz23_1, hfz23_2, hfz23_3, hfz23_4, hfz23_5, hfz23_6, hfz23_7, hfz23_8, hfz23_9, hfz23_10, hfz23_11, hfz23_12⟩ := blkF13 BK749.out
      go_upto_region 9 with (first | (go_at_call 38; (with_reducible refine (pylonref04_At.calls kj7 t751 t752 t753 t754 t755 t756 t757 t758 t759 t760 (wrap64 (t761 + (wrap64 ((wrap64 (60 * t762)) * (wrap64 (Int.tmod (IntKind.u64.wrap (a2)) (IntKind.u64.wrap (t763)))))))) t771 t772 t773 t774 t775 t776 _ A21.out).mono ?_); rintro e w24 ⟨rfl, hb⟩; have n0_ := AX (Kd.R_below (kr HO_7) hb); have n1_ := AX (Kd.R_below (kr HO_8) hb); have n2_ := AX (bkb BK749 hb); have n3_ := AX (below_step bw hb); clear HO_7; clear HO_8; clear BK749; clear HB; have HO_7 := n0_; have HO_8 := n1_; have BK749 := n2_; have HB := n3_; clear n0_ n1_ n2_ n3_; (try clear hb)) | ((with_reducible refine gate_dst (N := 10) rfl ?_); (try (refine gate_guard (by rfl) ?_; dsimp only)); refine box_event ?hg (N := 10) ?hd (cs := #[.int .i64 0, .int .i64 0, .int .i64 0, .int .i64 0, .int .i64 0]) (t := 35) ?hr ?_; (case hd => rfl); (case hg => rfl); (case hr => first | (go_simp; done) | (go_simp; rfl)); intro gb777 hg w25 hbox hb; have n0_ := AX (Kd.R_below (kr HO_7) hb); have n1_ := AX (Kd.R_below (kr HO_8) hb); have n2_ := AX (bkb BK749 hb); have n3_ := AX (below_step bw hb); have n4_ := AX (hbox); have n5_ := AX ((by rw [hg]; exact (below_size bw) : w.heap.size ≤ gb777)); have n6_ := n5_; have n7_ := AX ((by rw [hg]; exact Nat.ne_of_lt (blk_lt (bkn BK749)) : gb749 ≠ gb777)); have n8_ := AX ((by rw [hg]; exact Nat.ne_of_gt (blk_lt (bkn BK749)) : gb777 ≠ gb749)); clear HO_7; clear HO_8; clear BK749; clear HB; have HO_7 := n0_; have HO_8 := n1_; have BK749 := n2_; have HB := n3_; have BK777 := n4_; have GW777 := n5_; have GE777 := n6_; have NB749_777 := n7_; have NB777_749 := n8_; clear n0_ n1_ n2_ n3_ n4_ n5_ n6_ n7_ n8_; clear hb hbox hg; have hnb26 := NB777_749.out; have hnc26 := NB749_777.out; obtain ⟨hcz27_0, hcz27_1, hcz27_2, hcz27_3, hcz27_4⟩ := blkC5 (w := w25) BK777.out; obtain ⟨hfz27_0, hfz27_1, hfz27_2, hfz27_3, hfz27_4⟩ := blkF5 BK777.out))
      repeat (go_quiet (first | (go_at_call 38; (with_reducible refine (pylonref04_At.calls kj7 t751 t752 t753 t754 t755 t756 t757 t758 t759 t760 (wrap64 (t761 + (wrap64 ((wrap64 (60 * t762)) * (wrap64 (Int.tmod (IntKind.u64.wrap (a2)) (IntKind.u64.wrap (t763)))))))) t771 t772 t773 t774 t775 t776 _ A21.out).mono ?_); rintro e w24 ⟨rfl, hb⟩; have n0_ := AX (Kd.R_below (kr HO_7) hb); have n1_ := AX (Kd.R_below (kr HO_8) hb); have n2_ := AX (bkb BK749 hb); have n3_ := AX (below_step bw hb); clear HO_7; clear HO_8; clear BK749; clear HB; have HO_7 := n0_; have HO_8 := n1_; have BK749 := n2_; have HB := n3_; clear n0_ n1_ n2_ n3_; (try clear hb)) | ((with_reducible refine gate_dst (N := 10) rfl ?_); (try (refine gate_guard (by rfl) ?_; dsimp only)); refine box_event ?hg (N := 10) ?hd (cs := #[.int .i64 0, .int .i64 0, .int .i64 0, .int .i64 0, .int .i64 0]) (t := 35) ?hr ?_; (case hd => rfl); (case hg => rfl); (case hr => first | (go_simp; done) | (go_simp; rfl)); intro gb777 hg w25 hbox hb; have n0_ := AX (Kd.R_below (kr HO_7) hb); have n1_ := AX (Kd.R_below (kr HO_8) hb); have n2_ := AX (bkb BK749 hb); have n3_ := AX (below_step bw hb); have n4_ := AX (hbox); have n5_ := AX ((by rw [hg]; exact (below_size bw) : w.heap.size ≤ gb777)); have n6_ := n5_; have n7_ := AX ((by rw [hg]; exact Nat.ne_of_lt (blk_lt (bkn BK749)) : gb749 ≠ gb777)); have n8_ := AX ((by rw [hg]; exact Nat.ne_of_gt (blk_lt (bkn BK749)) : gb777 ≠ gb749)); clear HO_7; clear HO_8; clear BK749; clear HB; have HO_7 := n0_; have HO_8 := n1_; have BK749 := n2_; have HB := n3_; have BK777 := n4_; have GW777 := n5_; have GE777 := n6_; have NB749_777 := n7_; have NB777_749 := n8_; clear n0_ n1_ n2_ n3_ n4_ n5_ n6_ n7_ n8_; clear hb hbox hg; have hnb26 := NB777_749.out; have hnc26 := NB749_777.out; obtain ⟨hcz27_0, hcz27_1, hcz27_2, hcz27_3, hcz27_4⟩ := blkC5 (w := w25) BK777.out; obtain ⟨hfz27_0, hfz27_1, hfz27_2, hfz27_3, hfz27_4⟩ := blkF5 BK777.out)); go_upto_region 9 with (first | (go_at_call 38; (with_reducible refine (pylonref04_At.calls kj7 t751 t752 t753 t754 t755 t756 t757 t758 t759 t760 (wrap64 (t761 + (wrap64 ((wrap64 (60 * t762)) * (wrap64 (Int.tmod (IntKind.u64.wrap (a2)) (IntKind.u64.wrap (t763)))))))) t771 t772 t773 t774 t775 t776 _ A21.out).mono ?_); rintro e w24 ⟨rfl, hb⟩; have n0_ := AX (Kd.R_below (kr HO_7) hb); have n1_ := AX (Kd.R_below (kr HO_8) hb); have n2_ := AX (bkb BK749 hb); have n3_ := AX (below_step bw hb); clear HO_7; clear HO_8; clear BK749; clear HB; have HO_7 := n0_; have HO_8 := n1_; have BK749 := n2_; have HB := n3_; clear n0_ n1_ n2_ n3_; (try clear hb)) | ((with_reducible refine gate_dst (N := 10) rfl ?_); (try (refine gate_guard (by rfl) ?_; dsimp only)); refine box_event ?hg (N := 10) ?hd (cs := #[.int .i64 0, .int .i64 0, .int .i64 0, .int .i64 0, .int .i64 0]) (t := 35) ?hr ?_; (case hd => rfl); (case hg => rfl); (case hr => first | (go_simp; done) | (go_simp; rfl)); intro gb777 hg w25 hbox hb; have n0_ := AX (Kd.R_below (kr HO_7) hb); have n1_ := AX (Kd.R_below (kr HO_8) hb); have n2_ := AX (bkb BK749 hb); have n3_ := AX (below_step bw hb); have n4_ := AX (hbox); have n5_ := AX ((by rw [hg]; exact (below_size bw) : w.heap.size ≤ gb777)); have n6_ := n5_; have n7_ := AX ((by rw [hg]; exact Nat.ne_of_lt (blk_lt (bkn BK749)) : gb749 ≠ gb777)); have n8_ := AX ((by rw [hg]; exact Nat.ne_of_gt (blk_lt (bkn BK749)) : gb777 ≠ gb749)); clear HO_7; clear HO_8; clear BK749; clear HB; have HO_7 := n0_; have HO_8 := n1_; have BK749 := n2_; have HB := n3_; have BK777 := n4_; have GW777 := n5_; have GE777 := n6_; have NB749_777 := n7_; have NB777_749 := n8_; clear n0_ n1_ n2_ n3_ n4_ n5_ n6_ n7_ n8_; clear hb hbox hg; have hnb26 := NB777_749.out; have hnc26 := NB749_777.out; obtain ⟨hcz27_0, hcz27_1, hcz27_2, hcz27_3, hcz27_4⟩ := blkC5 (w := w25) BK777.out; obtain ⟨hfz27_0, hfz27_1, hfz27_2, hfz27_3, hfz27_4⟩ := blkF5 BK777.out)))
      (try simp only [Act.put, List.setIfInBounds_toArray, List.set_cons_zero, List.set_cons_succ])
      go_cut [76] (fun v76 wc => ∃ (kq : Nat) (x76_21 : Bool), v76 = .bool x76_21 ∧ Aside0 (pylonlaw13_PeriodMoments.j1 kq a1 (wrap64 (Int.tmod (IntKind.u64.wrap (a2)) (IntKind.u64.wrap (t763)))) t764 t767 x76_21 t771 t772 t773 t774 t775 = some r) ∧ Aside0 (kq ≤ kj7) ∧ Aside0 (Kd.R k74 74 wc w.heap.size (fun _ => True) v765 t764) ∧ Aside0 (Kd.R k33 33 wc w.heap.size (fun _ => True) v768 t767) ∧ Aside0 (wc.heap[gb749]? = some (.cells #[.int .i64 t751, .int .i64 t752, .int .i64 t753, .int .i64 t754, .int .i64 t755, .int .i64 t756, .int .i64 t757, .int .i64 t758, .int .i64 t759, .int .i64 t760, .int .i64 t761, .int .i64 t762, .int .i64 t763] 61 (0, 0))) ∧ Aside0 (wc.heap[gb777]? = some (.cells #[.int .i64 t771, .int .i64 t772, .int .i64 t773, .int .i64 t774, .int .i64 t775] 35 (0, 0))) ∧ Aside0 (Below w.heap.size w wc))
      case first =>
       have H := HC22.out
       clear HC22
       by_cases c28 : t776 = 0
       ·rw [if_pos c28] at H
        have c28b0 : (t776 == 0) = true := beq_iff_eq.mpr c28
        have c28b1 : (t776 != 0) = false := bne_eq_false_iff_eq.mpr c28
        clear c28
        (first | rw [c28b0] | (simp only [i64_w, i32_w]; rw [c28b0]) | skip)
        have H' := AX H
        clear H
        obtain ⟨Ao29, co29, eo29⟩ := Kd.R_slice HO_8.out
        subst eo29
        obtain ⟨Ao30, co30, eo30⟩ := Kd.R_slice HO_7.out
        subst eo30
        go_wp2
        repeat (go_quiet (fail); try go_wp2)
        go_meet
        case rel => exact ⟨_, (((t767.length : Int) != (t764.length : Int))), (by first | rfl | (simp; done) | (simp [*]; done)), H', ⟨by have := HJ7.out; first | omega | exact Nat.le_refl _⟩, ⟨by (with_reducible repeat (first | apply Kd.R_alloc | apply Kd.R_drewN | apply Kd.R_drew)); exact Kd.R_mono (Kd.R_far (p := ⟨gb777, 4, none⟩) (Kd.R_far (p := ⟨gb777, 3, none⟩) (Kd.R_far (p := ⟨gb777, 2, none⟩) (Kd.R_far (p := ⟨gb777, 1, none⟩) (Kd.R_far (p := ⟨gb777, 0, none⟩) (Kd.R_types HO_7.out BK777.out (by decide)) (fun _ hk => hk.2) (.int .i64 t771)) (fun _ hk => hk.2) (.int .i64 t772)) (fun _ hk => hk.2) (.int .i64 t773)) (fun _ hk => hk.2) (.int .i64 t774)) (fun _ hk => hk.2) (.int .i64 t775)) (fun _ hk => trivial)⟩, ⟨by (with_reducible repeat (first | apply Kd.R_alloc | apply Kd.R_drewN | apply Kd.R_drew)); exact Kd.R_mono (Kd.R_far (p := ⟨gb777, 4, none⟩) (Kd.R_far (p := ⟨gb777, 3, none⟩) (Kd.R_far (p := ⟨gb777, 2, none⟩) (Kd.R_far (p := ⟨gb777, 1, none⟩) (Kd.R_far (p := ⟨gb777, 0, none⟩) (Kd.R_types HO_8.out BK777.out (by decide)) (fun _ hk => hk.2) (.int .i64 t771)) (fun _ hk => hk.2) (.int .i64 t772)) (fun _ hk => hk.2) (.int .i64 t773)) (fun _ hk => hk.2) (.int .i64 t774)) (fun _ hk => hk.2) (.int .i64 t775)) (fun _ hk => trivial)⟩, ⟨by (with_reducible repeat first|refine blk_drewN ?_ _|refine blk_drew ?_|refine blk_alloc ?_ _); refine blk_far ?_ NB749_777.out _; (with_reducible repeat first|refine blk_drewN ?_ _|refine blk_drew ?_|refine blk_alloc ?_ _); refine blk_far ?_ NB749_777.out _; (with_reducible repeat first|refine blk_drewN ?_ _|refine blk_drew ?_|refine blk_alloc ?_ _); refine blk_far ?_ NB749_777.out _; (with_reducible repeat first|refine blk_drewN ?_ _|refine blk_drew ?_|refine blk_alloc ?_ _); refine blk_far ?_ NB749_777.out _; (with_reducible repeat first|refine blk_drewN ?_ _|refine blk_drew ?_|refine blk_alloc ?_ _); refine blk_far ?_ NB749_777.out _; (with_reducible repeat first|refine blk_drewN ?_ _|refine blk_drew ?_|refine blk_alloc ?_ _); exact BK749.out⟩, ⟨by (with_reducible repeat first|refine blk_drewN ?_ _|refine blk_drew ?_|refine blk_alloc ?_ _); refine blk_put (cs := #[.int .i64 t771, .int .i64 t772, .int .i64 t773, .int .i64 t774, .int .i64 0]) ?_ 4 _ rfl; (with_reducible repeat first|refine blk_drewN ?_ _|refine blk_drew ?_|refine blk_alloc ?_ _); refine blk_put (cs := #[.int .i64 t771, .int .i64 t772, .int .i64 t773, .int .i64 0, .int .i64 0]) ?_ 3 _ rfl; (with_reducible repeat first|refine blk_drewN ?_ _|refine blk_drew ?_|refine blk_alloc ?_ _); refine blk_put (cs := #[.int .i64 t771, .int .i64 t772, .int .i64 0, .int .i64 0, .int .i64 0]) ?_ 2 _ rfl; (with_reducible repeat first|refine blk_drewN ?_ _|refine blk_drew ?_|refine blk_alloc ?_ _); refine blk_put (cs := #[.int .i64 t771, .int .i64 0, .int .i64 0, .int .i64 0, .int .i64 0]) ?_ 1 _ rfl; (with_reducible repeat first|refine blk_drewN ?_ _|refine blk_drew ?_|refine blk_alloc ?_ _); refine blk_put (cs := #[.int .i64 0, .int .i64 0, .int .i64 0, .int .i64 0, .int .i64 0]) ?_ 0 _ rfl; (with_reducible repeat first|refine blk_drewN ?_ _|refine blk_drew ?_|refine blk_alloc ?_ _); exact BK777.out⟩, ⟨bw⟩⟩
       ·rw [if_neg c28] at H
        have c28b0 : (t776 == 0) = false := beq_eq_false_iff_ne.mpr c28
        have c28b1 : (t776 != 0) = true := bne_iff_ne.mpr c28
        (first | rw [c28b0] | (simp only [i64_w, i32_w]; rw [c28b0]) | skip)
        have H' := AX H
        clear H
        go_wp2
        repeat (go_quiet (fail); try go_wp2)
        go_meet
        case rel => exact ⟨_, (true), (by first | rfl | (simp; done) | (simp [*]; done)), H', ⟨by have := HJ7.out; first | omega | exact Nat.le_refl _⟩, ⟨by (with_reducible repeat (first | apply Kd.R_alloc | apply Kd.R_drewN | apply Kd.R_drew)); exact Kd.R_mono (Kd.R_far (p := ⟨gb777, 4, none⟩) (Kd.R_far (p := ⟨gb777, 3, none⟩) (Kd.R_far (p := ⟨gb777, 2, none⟩) (Kd.R_far (p := ⟨gb777, 1, none⟩) (Kd.R_far (p := ⟨gb777, 0, none⟩) (Kd.R_types HO_7.out BK777.out (by decide)) (fun _ hk => hk.2) (.int .i64 t771)) (fun _ hk => hk.2) (.int .i64 t772)) (fun _ hk => hk.2) (.int .i64 t773)) (fun _ hk => hk.2) (.int .i64 t774)) (fun _ hk => hk.2) (.int .i64 t775)) (fun _ hk => trivial)⟩, ⟨by (with_reducible repeat (first | apply Kd.R_alloc | apply Kd.R_drewN | apply Kd.R_drew)); exact Kd.R_mono (Kd.R_far (p := ⟨gb777, 4, none⟩) (Kd.R_far (p := ⟨gb777, 3, none⟩) (Kd.R_far (p := ⟨gb777, 2, none⟩) (Kd.R_far (p := ⟨gb777, 1, none⟩) (Kd.R_far (p := ⟨gb777, 0, none⟩) (Kd.R_types HO_8.out BK777.out (by decide)) (fun _ hk => hk.2) (.int .i64 t771)) (fun _ hk => hk.2) (.int .i64 t772)) (fun _ hk => hk.2) (.int .i64 t773)) (fun _ hk => hk.2) (.int .i64 t774)) (fun _ hk => hk.2) (.int .i64 t775)) (fun _ hk => trivial)⟩, ⟨by (with_reducible repeat first|refine blk_drewN ?_ _|refine blk_drew ?_|refine blk_alloc ?_ _); refine blk_far ?_ NB749_777.out _; (with_reducible repeat first|refine blk_drewN ?_ _|refine blk_drew ?_|refine blk_alloc ?_ _); refine blk_far ?_ NB749_777.out _; (with_reducible repeat first|refine blk_drewN ?_ _|refine blk_drew ?_|refine blk_alloc ?_ _); refine blk_far ?_ NB749_777.out _; (with_reducible repeat first|refine blk_drewN ?_ _|refine blk_drew ?_|refine blk_alloc ?_ _); refine blk_far ?_ NB749_777.out _; (with_reducible repeat first|refine blk_drewN ?_ _|refine blk_drew ?_|refine blk_alloc ?_ _); refine blk_far ?_ NB749_777.out _; (with_reducible repeat first|refine blk_drewN ?_ _|refine blk_drew ?_|refine blk_alloc ?_ _); exact BK749.out⟩, ⟨by (with_reducible repeat first|refine blk_drewN ?_ _|refine blk_drew ?_|refine blk_alloc ?_ _); refine blk_put (cs := #[.int .i64 t771, .int .i64 t772, .int .i64 t773, .int .i64 t774, .int .i64 0]) ?_ 4 _ rfl; (with_reducible repeat first|refine blk_drewN ?_ _|refine blk_drew ?_|refine blk_alloc ?_ _); refine blk_put (cs := #[.int .i64 t771, .int .i64 t772, .int .i64 t773, .int .i64 0, .int .i64 0]) ?_ 3 _ rfl; (with_reducible repeat first|refine blk_drewN ?_ _|refine blk_drew ?_|refine blk_alloc ?_ _); refine blk_put (cs := #[.int .i64 t771, .int .i64 t772, .int .i64 0, .int .i64 0, .int .i64 0]) ?_ 2 _ rfl; (with_reducible repeat first|refine blk_drewN ?_ _|refine blk_drew ?_|refine blk_alloc ?_ _); refine blk_put (cs := #[.int .i64 t771, .int .i64 0, .int .i64 0, .int .i64 0, .int .i64 0]) ?_ 1 _ rfl; (with_reducible repeat first|refine blk_drewN ?_ _|refine blk_drew ?_|refine blk_alloc ?_ _); refine blk_put (cs := #[.int .i64 0, .int .i64 0, .int .i64 0, .int .i64 0, .int .i64 0]) ?_ 0 _ rfl; (with_reducible repeat first|refine blk_drewN ?_ _|refine blk_drew ?_|refine blk_alloc ?_ _); exact BK777.out⟩, ⟨bw⟩⟩
      case rest =>
       clear HC22
       try clear c5
       try clear c17
       try clear c20
       try clear c20b0
       try clear c20b1
       try clear hcz11_0 hcz11_1
       try clear hcz11_10 hcz11_11 hcz11_12
       try clear hcz11_2 hcz11_3 hcz11_4 hcz11_5 hcz11_6 hcz11_7 hcz11_8 hcz11_9
       try clear hcz13_0 hcz13_1
       try clear hcz13_10 hcz13_11 hcz13_12
       try clear hcz13_2 hcz13_3 hcz13_4 hcz13_5 hcz13_6 hcz13_7 hcz13_8 hcz13_9
       try clear hcz23_0 hcz23_1
       try clear hcz23_10 hcz23_11 hcz23_12
       try clear hcz23_2 hcz23_3 hcz23_4 hcz23_5 hcz23_6 hcz23_7 hcz23_8 hcz23_9
       try clear hcz27_0 hcz27_1 hcz27_2 hcz27_3 hcz27_4
       try clear hfz11_0 hfz11_1
       try clear hfz11_10 hfz11_11 hfz11_12
       try clear hfz11_2 hfz11_3 hfz11_4 hfz11_5 hfz11_6 hfz11_7 hfz11_8 hfz11_9
       try clear hfz13_0 hfz13_1
       try clear hfz13_10 hfz13_11 hfz13_12
       try clear hfz13_2 hfz13_3 hfz13_4 hfz13_5 hfz13_6 hfz13_7 hfz13_8 hfz13_9
       try clear hfz23_0 hfz23_1
       try clear hfz23_10 hfz23_11 hfz23_12
       try clear hfz23_2 hfz23_3 hfz23_4 hfz23_5 hfz23_6 hfz23_7 hfz23_8 hfz23_9
       try clear hfz27_0 hfz27_1 hfz27_2 hfz27_3 hfz27_4
       obtain ⟨kq, x76_21, rfl, HA, HJ21, HO_7, HO_8, BK749, BK777, HB⟩ := hcut
       cases kq with
       | zero => exact absurd HA.out (by simp [pylonlaw13_PeriodMoments.j1])
       | succ kj21 =>
        have H := HA.out
        clear HA
        simp only [pylonlaw13_PeriodMoments.j1] at H
        by_cases c31 : x76_21 = true
        ·subst c31
         have H1 : (some false) = some r := by rw [if_pos rfl] at H; exact H
         clear H
         have H := H1
         clear H1
         obtain rfl := Option.some.inj H
         go_wp2
         repeat (go_quiet (fail); try go_wp2)
         go_ret
         exact ⟨by first | rfl | (simp [errW_none, errW_some] <;> rfl) | (simp [*, errW_none, errW_some] <;> rfl), bw⟩
        ·replace c31 := Bool.eq_false_iff.mpr c31
         subst c31
         have H1 : (pylonlaw13_PeriodMoments.l0 kj21 a1 (wrap64 (Int.tmod (IntKind.u64.wrap (a2)) (IntKind.u64.wrap (t763)))) t764 t767 (t764.length : Int) 0 t771 t772 t773 t774 t775) = some r := by rw [if_neg (show ¬ (false = true) by decide)] at H; exact H
         clear H
         have H := H1
         clear H1
         have H' := AX H
         clear H
         obtain ⟨Ao32, co32, eo32⟩ := Kd.R_slice HO_7.out
         subst eo32
         go_wp2
         repeat (go_quiet (fail); try go_wp2)
         go_loopg [79] kj21 (fun kq v79 w' => ∃ (x79_3 : Int), v79 = .int .i64 x79_3 ∧ Aside0 (pylonlaw13_PeriodMoments.l0 kq a1 (wrap64 (Int.tmod (IntKind.u64.wrap (a2)) (IntKind.u64.wrap (t763)))) t764 t767 (t764.length : Int) x79_3 t771 t772 t773 t774 t775 = some r) ∧ Aside0 (kq ≤ kj21) ∧ Aside0 (Kd.R k74 74 w' w.heap.size (fun _ => True) (.slice Ao32 t764.length co32) t764) ∧ Aside0 (Kd.R k33 33 w' w.heap.size (fun _ => True) v768 t767) ∧ Aside0 (w'.heap[gb749]? = some (.cells #[.int .i64 t751, .int .i64 t752, .int .i64 t753, .int .i64 t754, .int .i64 t755, .int .i64 t756, .int .i64 t757, .int .i64 t758, .int .i64 t759, .int .i64 t760, .int .i64 t761, .int .i64 t762, .int .i64 t763] 61 (0, 0))) ∧ Aside0 (w'.heap[gb777]? = some (.cells #[.int .i64 t771, .int .i64 t772, .int .i64 t773, .int .i64 t774, .int .i64 t775] 35 (0, 0))) ∧ Aside0 (Below w.heap.size w w'))
         case atStart => exact ⟨(0), (by first | rfl | (simp; done) | (simp [*]; done)), H', ⟨Nat.le_refl _⟩, ⟨kr HO_7⟩, ⟨kr HO_8⟩, ⟨bkn BK749⟩, ⟨bkn BK777⟩, ⟨bw⟩⟩
         case round =>
          clear H'
          try clear c5
          try clear c17
          try clear c20
          try clear c20b0
          try clear c20b1
          try clear c31
          try clear hcz11_0 hcz11_1
          try clear hcz11_10 hcz11_11 hcz11_12
          try clear hcz11_2 hcz11_3 hcz11_4 hcz11_5 hcz11_6 hcz11_7 hcz11_8 hcz11_9
          try clear hcz13_0 hcz13_1
          try clear hcz13_10 hcz13_11 hcz13_12
          try clear hcz13_2 hcz13_3 hcz13_4 hcz13_5 hcz13_6 hcz13_7 hcz13_8 hcz13_9
          try clear hcz23_0 hcz23_1
          try clear hcz23_10 hcz23_11 hcz23_12
          try clear hcz23_2 hcz23_3 hcz23_4 hcz23_5 hcz23_6 hcz23_7 hcz23_8 hcz23_9
          try clear hcz27_0 hcz27_1 hcz27_2 hcz27_3 hcz27_4
          try clear hfz11_0 hfz11_1
          try clear hfz11_10 hfz11_11 hfz11_12
          try clear hfz11_2 hfz11_3 hfz11_4 hfz11_5 hfz11_6 hfz11_7 hfz11_8 hfz11_9
          try clear hfz13_0 hfz13_1
          try clear hfz13_10 hfz13_11 hfz13_12
          try clear hfz13_2 hfz13_3 hfz13_4 hfz13_5 hfz13_6 hfz13_7 hfz13_8 hfz13_9
          try clear hfz23_0 hfz23_1
          try clear hfz23_10 hfz23_11 hfz23_12
          try clear hfz23_2 hfz23_3 hfz23_4 hfz23_5 hfz23_6 hfz23_7 hfz23_8 hfz23_9
          try clear hfz27_0 hfz27_1 hfz27_2 hfz27_3 hfz27_4
          obtain ⟨x79_3, rfl, HA, HK3, HO_7, HO_8, BK749, BK777, HB⟩ := hrel
          cases gk with
          | zero => exact absurd HA.out (by simp [pylonlaw13_PeriodMoments.l0])
          | succ k3 =>
           have H := HA.out
           clear HA
           simp only [pylonlaw13_PeriodMoments.l0] at H
           by_cases c33 : x79_3 < (t764.length : Int)
           ·rw [if_pos c33] at H
            have c33b0 : decide (x79_3 < (t764.length : Int)) = true := decide_eq_true c33
            clear c33
            have HC34 := AX H
            clear H
            go_upto_region 14 with (fail)
            repeat (go_quiet (fail); go_upto_region 14 with (fail))
            go_cut [97] (fun v97 wc => ∃ (kq : Nat) (x97_33 : Bool), v97 = .bool x97_33 ∧ Aside0 (pylonlaw13_PeriodMoments.j3 kq a1 (wrap64 (Int.tmod (IntKind.u64.wrap (a2)) (IntKind.u64.wrap (t763)))) t764 t767 x79_3 (t764.length : Int) x79_3 x97_33 t771 t772 t773 t774 t775 = some r) ∧ Aside0 (kq ≤ k3) ∧ Aside0 (Kd.R k74 74 wc w.heap.size (fun _ => True) (.slice Ao32 t764.length co32) t764) ∧ Aside0 (Kd.R k33 33 wc w.heap.size (fun _ => True) v768 t767) ∧ Aside0 (wc.heap[gb749]? = some (.cells #[.int .i64 t751, .int .i64 t752, .int .i64 t753, .int .i64 t754, .int .i64 t755, .int .i64 t756, .int .i64 t757, .int .i64 t758, .int .i64 t759, .int .i64 t760, .int .i64 t761, .int .i64 t762, .int .i64 t763] 61 (0, 0))) ∧ Aside0 (wc.heap[gb777]? = some (.cells #[.int .i64 t771, .int .i64 t772, .int .i64 t773, .int .i64 t774, .int .i64 t775] 35 (0, 0))) ∧ Aside0 (Below w.heap.size w wc))
            case first =>
             have H := HC34.out
             clear HC34
             by_cases c35 : 0 ≤ x79_3
             ·rw [if_pos c35] at H
              have c35b0 : decide (0 ≤ x79_3) = true := decide_eq_true c35
              clear c35
              (first | rw [c35b0] | (simp only [i64_w, i32_w]; rw [c35b0]) | skip)
              by_cases c36 : x79_3 < (t764.length : Int)
              ·rw [if_pos c36] at H
               have c36b0 : decide (x79_3 < (t764.length : Int)) = true := decide_eq_true c36
               clear c36
               by_cases c37 : (wrap64 (Int.tmod (IntKind.u64.wrap (a2)) (IntKind.u64.wrap (t763)))) < ((rd_T74 t764 x79_3).f0)
               ·rw [if_pos c37] at H
                have c37b0 : decide ((wrap64 (Int.tmod (IntKind.u64.wrap (a2)) (IntKind.u64.wrap (t763)))) < ((rd_T74 t764 x79_3).f0)) = true := decide_eq_true c37
                clear c37
                have H' := AX H
                clear H
                have p778 : 0 ≤ (x79_3 : Int) := of_decide_eq_true (by first | (with_reducible assumption) | assumption)
                have q778 : x79_3 < (t764.length : Int) := of_decide_eq_true (by first | (with_reducible assumption) | assumption)
                obtain ⟨ad778, e778, hx778_0, hx778_1⟩ := at_T74 (Kd.R_reads' HO_7.out).2.2 x79_3 p778 q778
                cases e778
                replace p778 := eq_true p778
                replace q778 := eq_true q778
                go_wp2
                repeat (go_quiet (fail); try go_wp2)
                go_meet
                case rel => exact ⟨_, (true), (by first | rfl | (simp; done) | (simp [*]; done)), H', ⟨by have := HJ7.out; have := HJ21.out; have := HK3.out; first | omega | exact Nat.le_refl _⟩, ⟨kr HO_7⟩, ⟨kr HO_8⟩, ⟨bkn BK749⟩, ⟨bkn BK777⟩, ⟨bw⟩⟩
               ·rw [if_neg c37] at H
                have c37b0 : decide ((wrap64 (Int.tmod (IntKind.u64.wrap (a2)) (IntKind.u64.wrap (t763)))) < ((rd_T74 t764 x79_3).f0)) = false := decide_eq_false c37
                clear c37
                have H' := AX H
                clear H
                have p778 : 0 ≤ (x79_3 : Int) := of_decide_eq_true (by first | (with_reducible assumption) | assumption)
                have q778 : x79_3 < (t764.length : Int) := of_decide_eq_true (by first | (with_reducible assumption) | assumption)
                obtain ⟨ad778, e778, hx778_0, hx778_1⟩ := at_T74 (Kd.R_reads' HO_7.out).2.2 x79_3 p778 q778
                cases e778
                replace p778 := eq_true p778
                replace q778 := eq_true q778
                have p779 : 0 ≤ (x79_3 : Int) := of_decide_eq_true (by first | (with_reducible assumption) | assumption)
                have q779 : x79_3 < (t764.length : Int) := of_decide_eq_true (by first | (with_reducible assumption) | assumption)
                obtain ⟨ad779, e779, hx779_0, hx779_1⟩ := at_T74 (Kd.R_reads' HO_7.out).2.2 x79_3 p779 q779
                obtain rfl : ad778 = ad779 := (by injection e779)
                replace p779 := eq_true p779
                replace q779 := eq_true q779
                go_wp2
                repeat (go_quiet (fail); try go_wp2)
                go_meet
                case rel => exact ⟨_, (decide ((wrap64 (Int.tmod (IntKind.u64.wrap (a2)) (IntKind.u64.wrap (t763)))) ≥ ((rd_T74 t764 x79_3).f1))), (by first | rfl | (simp; done) | (simp [*]; done)), H', ⟨by have := HJ7.out; have := HJ21.out; have := HK3.out; first | omega | exact Nat.le_refl _⟩, ⟨kr HO_7⟩, ⟨kr HO_8⟩, ⟨bkn BK749⟩, ⟨bkn BK777⟩, ⟨bw⟩⟩
              ·rw [if_neg c36] at H
               exact absurd H (by simp)
             ·rw [if_neg c35] at H
              exact absurd H (by simp)
            case rest =>
             clear HC34
             try clear c5
             try clear c17
             try clear c20
             try clear c20b0
             try clear c20b1
             try clear c31
             try clear c33
             try clear c33b0
             try clear hcz11_0 hcz11_1
             try clear hcz11_10 hcz11_11 hcz11_12
             try clear hcz11_2 hcz11_3 hcz11_4 hcz11_5 hcz11_6 hcz11_7 hcz11_8 hcz11_9
             try clear hcz13_0 hcz13_1
             try clear hcz13_10 hcz13_11 hcz13_12
             try clear hcz13_2 hcz13_3 hcz13_4 hcz13_5 hcz13_6 hcz13_7 hcz13_8 hcz13_9
             try clear hcz23_0 hcz23_1
             try clear hcz23_10 hcz23_11 hcz23_12
             try clear hcz23_2 hcz23_3 hcz23_4 hcz23_5 hcz23_6 hcz23_7 hcz23_8 hcz23_9
             try clear hcz27_0 hcz27_1 hcz27_2 hcz27_3 hcz27_4
             try clear hfz11_0 hfz11_1
             try clear hfz11_10 hfz11_11 hfz11_12
             try clear hfz11_2 hfz11_3 hfz11_4 hfz11_5 hfz11_6 hfz11_7 hfz11_8 hfz11_9
             try clear hfz13_0 hfz13_1
             try clear hfz13_10 hfz13_11 hfz13_12
             try clear hfz13_2 hfz13_3 hfz13_4 hfz13_5 hfz13_6 hfz13_7 hfz13_8 hfz13_9
             try clear hfz23_0 hfz23_1
             try clear hfz23_10 hfz23_11 hfz23_12
             try clear hfz23_2 hfz23_3 hfz23_4 hfz23_5 hfz23_6 hfz23_7 hfz23_8 hfz23_9
             try clear hfz27_0 hfz27_1 hfz27_2 hfz27_3 hfz27_4
             obtain ⟨kq, x97_33, rfl, HA, HJ33, HO_7, HO_8, BK749, BK777, HB⟩ := hcut
             cases kq with
             | zero => exact absurd HA.out (by simp [pylonlaw13_PeriodMoments.j3])
             | succ kj33 =>
              have H := HA.out
              clear HA
              simp only [pylonlaw13_PeriodMoments.j3] at H
              by_cases c38 : x97_33 = true
              ·subst c38
               have H1 : (pylonlaw13_PeriodMoments.l0 kj33 a1 (wrap64 (Int.tmod (IntKind.u64.wrap (a2)) (IntKind.u64.wrap (t763)))) t764 t767 (t764.length : Int) (wrap64 (x79_3 + 1)) t771 t772 t773 t774 t775) = some r := by rw [if_pos rfl] at H; exact H
               clear H
               have H := H1
               clear H1
               have H' := AX H
               clear H
               go_wp2
               repeat (go_quiet (fail); try go_wp2)
               go_roundg kj33
               case measure => have := HJ7.out; have := HJ21.out; have := HK3.out; have := HJ33.out; omega
               case rel => exact ⟨(wrap64 (x79_3 + 1)), (by first | rfl | (simp; done) | (simp [*]; done)), H', ⟨by have := HJ7.out; have := HJ21.out; have := HK3.out; have := HJ33.out; omega⟩, ⟨kr HO_7⟩, ⟨kr HO_8⟩, ⟨bkn BK749⟩, ⟨bkn BK777⟩, ⟨bw⟩⟩
              ·replace c38 := Bool.eq_false_iff.mpr c38
               subst c38
               have H1 : ((period_Begin.f kj33 t771 t772 t773 a1).bind fun bt780 => (if bt780.2.2.2 = 0 then (if 0 ≤ x79_3 then (if x79_3 < (t767.length : Int) then (some (bt780.1 == ((rd_T33 t767 x79_3).f0) && (bt780.2.1 == ((rd_T33 t767 x79_3).f1) && (bt780.2.2.1 == ((rd_T33 t767 x79_3).f2))))) else (none)) else (none)) else (some false))) = some r := by rw [if_neg (show ¬ (false = true) by decide)] at H; exact H
               clear H
               have H := H1
               clear H1
               replace H := Option.bind_eq_some_iff.mp H
               obtain ⟨⟨t780, t781, t782, t783⟩, A390, H⟩ := H
               replace H : (if t783 = 0 then (if 0 ≤ x79_3 then (if x79_3 < (t767.length : Int) then (some (t780 == ((rd_T33 t767 x79_3).f0) && (t781 == ((rd_T33 t767 x79_3).f1) && (t782 == ((rd_T33 t767 x79_3).f2))))) else (none)) else (none)) else (some false)) = some r := H
               have A39 := AX A390
               clear A390
               by_cases c40 : t783 = 0
               ·rw [if_pos c40] at H
                have c40b0 : (t783 == 0) = true := beq_iff_eq.mpr c40
                have c40b1 : (t783 != 0) = false := bne_eq_false_iff_eq.mpr c40
                clear c40
                by_cases c41 : 0 ≤ x79_3
                ·rw [if_pos c41] at H
                 have c41b0 : decide (0 ≤ x79_3) = true := decide_eq_true c41
                 clear c41
                 by_cases c42 : x79_3 < (t767.length : Int)
                 ·rw [if_pos c42] at H
                  have c42b0 : decide (x79_3 < (t767.length : Int)) = true := decide_eq_true c42
                  clear c42
                  obtain rfl := Option.some.inj H
                  have hnb43 := NB777_749.out
                  have hnc43 := NB749_777.out
                  obtain ⟨hcz44_0, hcz44_1, hcz44_2, hcz44_3, hcz44_4⟩ := blkC5 (w := wc) BK777.out
                  obtain ⟨hfz44_0, hfz44_1, hfz44_2, hfz44_3, hfz44_4⟩ := blkF5 BK777.out
                  go_wp2_with (first | (go_at_call 39; (with_reducible refine (period_Begin.calls kj33 t771 t772 t773 a1 t780 t781 t782 t783 _ A39.out).mono ?_); rintro e w45 ⟨rfl, hb⟩; have n0_ := AX (Kd.R_below (kr HO_7) hb); have n1_ := AX (Kd.R_below (kr HO_8) hb); have n2_ := AX (bkb BK749 hb); have n3_ := AX (bkb BK777 hb); have n4_ := AX (below_step bw hb); clear HO_7; clear HO_8; clear BK749; clear BK777; clear HB; have HO_7 := n0_; have HO_8 := n1_; have BK749 := n2_; have BK777 := n3_; have HB := n4_; clear n0_ n1_ n2_ n3_ n4_; (try clear hb)) | ((with_reducible refine gate_dst (N := 13) rfl ?_); (try (refine gate_guard (by rfl) ?_; dsimp only)); refine box_event ?hg (N := 13) ?hd (cs := #[.int .i64 0, .int .i64 0, .int .i64 0]) (t := 33) ?hr ?_; (case hd => rfl); (case hg => rfl); (case hr => first | (go_simp; done) | (go_simp; rfl)); intro gb784 hg w46 hbox hb; have n0_ := AX (Kd.R_below (kr HO_7) hb); have n1_ := AX (Kd.R_below (Kd.R_elderB (kr HO_8) gb784 (Nat.le_of_eq hg.symm)) hb); have n2_ := AX (bkb BK749 hb); have n3_ := AX (bkb BK777 hb); have n4_ := AX (below_step bw hb); have n5_ := AX (hbox); have n6_ := AX ((by rw [hg]; exact (below_size bw) : w.heap.size ≤ gb784)); have n7_ := n6_; have n8_ := AX ((by rw [hg]; exact Nat.ne_of_lt (blk_lt (bkn BK749)) : gb749 ≠ gb784)); have n9_ := AX ((by rw [hg]; exact Nat.ne_of_gt (blk_lt (bkn BK749)) : gb784 ≠ gb749)); have n10_ := AX ((by rw [hg]; exact Nat.ne_of_lt (blk_lt (bkn BK777)) : gb777 ≠ gb784)); have n11_ := AX ((by rw [hg]; exact Nat.ne_of_gt (blk_lt (bkn BK777)) : gb784 ≠ gb777)); clear HO_7; clear HO_8; clear BK749; clear BK777; clear HB; have HO_7 := n0_; have HO_8 := n1_; have BK749 := n2_; have BK777 := n3_; have HB := n4_; have BK784 := n5_; have GW784 := n6_; have GE784 := n7_; have NB749_784 := n8_; have NB784_749 := n9_; have NB777_784 := n10_; have NB784_777 := n11_; clear n0_ n1_ n2_ n3_ n4_ n5_ n6_ n7_ n8_ n9_ n10_ n11_; clear hb hbox hg; have hnb47 := NB784_749.out; have hnc47 := NB749_784.out; have hnb48 := NB784_777.out; have hnc48 := NB777_784.out; obtain ⟨hcz49_0, hcz49_1, hcz49_2⟩ := blkC3 (w := w46) BK784.out; obtain ⟨hfz49_0, hfz49_1, hfz49_2⟩ := blkF3 BK784.out; obtain ⟨Ao50, co50, eo50⟩ := Kd.R_slice HO_8.out; subst eo50; have p785 : 0 ≤ (x79_3 : Int) := of_decide_eq_true (by first | (with_reducible assumption) | assumption); have q785 : x79_3 < (t767.length : Int) := of_decide_eq_true (by first | (with_reducible assumption) | assumption); obtain ⟨ad785, e785, hx785_0, hx785_1, hx785_2⟩ := at_T33 (Kd.R_reads' HO_8.out).2.2 x79_3 p785 q785; cases e785; have hn785_0 : ad785.block ≠ gb784 := Kd.own_blk (by first | exact Kd.R_ne HO_8.out BK784.out (by decide) | exact fun e_ => (And.left HO_8.out _ e_.symm).2 rfl | exact fun e_ => (And.left HO_8.out _ e_.symm).1.2 rfl | exact fun e_ => (And.left HO_8.out _ e_.symm).2.1 rfl | exact fun e_ => (And.left HO_8.out _ e_.symm).2.2 rfl); have hn785_1 : ad785.block ≠ gb784 := Kd.own_blk (by first | exact Kd.R_ne HO_8.out BK784.out (by decide) | exact fun e_ => (And.left HO_8.out _ e_.symm).2 rfl | exact fun e_ => (And.left HO_8.out _ e_.symm).1.2 rfl | exact fun e_ => (And.left HO_8.out _ e_.symm).2.1 rfl | exact fun e_ => (And.left HO_8.out _ e_.symm).2.2 rfl); have hn785_2 : ad785.block ≠ gb784 := Kd.own_blk (by first | exact Kd.R_ne HO_8.out BK784.out (by decide) | exact fun e_ => (And.left HO_8.out _ e_.symm).2 rfl | exact fun e_ => (And.left HO_8.out _ e_.symm).1.2 rfl | exact fun e_ => (And.left HO_8.out _ e_.symm).2.1 rfl | exact fun e_ => (And.left HO_8.out _ e_.symm).2.2 rfl); replace hx785_0 := (cell_far (p := ⟨gb784, 0, none⟩) (by first | (rw [add_block]; exact hn785_0) | (show (Addr.add _ _).block ≠ _; rw [add_block]; exact hn785_0) | exact hn785_0) (.int .i64 t780)).trans hx785_0; replace hx785_1 := (cell_far (p := ⟨gb784, 0, none⟩) (by first | (rw [add_block]; exact hn785_0) | (show (Addr.add _ _).block ≠ _; rw [add_block]; exact hn785_0) | exact hn785_0) (.int .i64 t780)).trans hx785_1; replace hx785_2 := (cell_far (p := ⟨gb784, 0, none⟩) (by first | (rw [add_block]; exact hn785_0) | (show (Addr.add _ _).block ≠ _; rw [add_block]; exact hn785_0) | exact hn785_0) (.int .i64 t780)).trans hx785_2; replace hx785_0 := (cell_far (p := ⟨gb784, 1, none⟩) (by first | (rw [add_block]; exact hn785_1) | (show (Addr.add _ _).block ≠ _; rw [add_block]; exact hn785_1) | exact hn785_1) (.int .i64 t781)).trans hx785_0; replace hx785_1 := (cell_far (p := ⟨gb784, 1, none⟩) (by first | (rw [add_block]; exact hn785_1) | (show (Addr.add _ _).block ≠ _; rw [add_block]; exact hn785_1) | exact hn785_1) (.int .i64 t781)).trans hx785_1; replace hx785_2 := (cell_far (p := ⟨gb784, 1, none⟩) (by first | (rw [add_block]; exact hn785_1) | (show (Addr.add _ _).block ≠ _; rw [add_block]; exact hn785_1) | exact hn785_1) (.int .i64 t781)).trans hx785_2; replace hx785_0 := (cell_far (p := ⟨gb784, 2, none⟩) (by first | (rw [add_block]; exact hn785_2) | (show (Addr.add _ _).block ≠ _; rw [add_block]; exact hn785_2) | exact hn785_2) (.int .i64 t782)).trans hx785_0; replace hx785_1 := (cell_far (p := ⟨gb784, 2, none⟩) (by first | (rw [add_block]; exact hn785_2) | (show (Addr.add _ _).block ≠ _; rw [add_block]; exact hn785_2) | exact hn785_2) (.int .i64 t782)).trans hx785_1; replace hx785_2 := (cell_far (p := ⟨gb784, 2, none⟩) (by first | (rw [add_block]; exact hn785_2) | (show (Addr.add _ _).block ≠ _; rw [add_block]; exact hn785_2) | exact hn785_2) (.int .i64 t782)).trans hx785_2; (try have hy785_0 := fun (n_ : Nat) => (show (((((w46.drewN n_).setCell ⟨gb784, 0, none⟩ (.int .i64 t780)).setCell ⟨gb784, 1, none⟩ (.int .i64 t781)).setCell ⟨gb784, 2, none⟩ (.int .i64 t782))).cell? _ = some _ from hx785_0)); (try have hy785_1 := fun (n_ : Nat) => (show (((((w46.drewN n_).setCell ⟨gb784, 0, none⟩ (.int .i64 t780)).setCell ⟨gb784, 1, none⟩ (.int .i64 t781)).setCell ⟨gb784, 2, none⟩ (.int .i64 t782))).cell? _ = some _ from hx785_1)); (try have hy785_2 := fun (n_ : Nat) => (show (((((w46.drewN n_).setCell ⟨gb784, 0, none⟩ (.int .i64 t780)).setCell ⟨gb784, 1, none⟩ (.int .i64 t781)).setCell ⟨gb784, 2, none⟩ (.int .i64 t782))).cell? _ = some _ from hx785_2)); clear hn785_0; clear hn785_1; clear hn785_2; replace p785 := eq_true p785; replace q785 := eq_true q785))
                  repeat (go_quiet (first | (go_at_call 39; (with_reducible refine (period_Begin.calls kj33 t771 t772 t773 a1 t780 t781 t782 t783 _ A39.out).mono ?_); rintro e w45 ⟨rfl, hb⟩; have n0_ := AX (Kd.R_below (kr HO_7) hb); have n1_ := AX (Kd.R_below (kr HO_8) hb); have n2_ := AX (bkb BK749 hb); have n3_ := AX (bkb BK777 hb); have n4_ := AX (below_step bw hb); clear HO_7; clear HO_8; clear BK749; clear BK777; clear HB; have HO_7 := n0_; have HO_8 := n1_; have BK749 := n2_; have BK777 := n3_; have HB := n4_; clear n0_ n1_ n2_ n3_ n4_; (try clear hb)) | ((with_reducible refine gate_dst (N := 13) rfl ?_); (try (refine gate_guard (by rfl) ?_; dsimp only)); refine box_event ?hg (N := 13) ?hd (cs := #[.int .i64 0, .int .i64 0, .int .i64 0]) (t := 33) ?hr ?_; (case hd => rfl); (case hg => rfl); (case hr => first | (go_simp; done) | (go_simp; rfl)); intro gb784 hg w46 hbox hb; have n0_ := AX (Kd.R_below (kr HO_7) hb); have n1_ := AX (Kd.R_below (Kd.R_elderB (kr HO_8) gb784 (Nat.le_of_eq hg.symm)) hb); have n2_ := AX (bkb BK749 hb); have n3_ := AX (bkb BK777 hb); have n4_ := AX (below_step bw hb); have n5_ := AX (hbox); have n6_ := AX ((by rw [hg]; exact (below_size bw) : w.heap.size ≤ gb784)); have n7_ := n6_; have n8_ := AX ((by rw [hg]; exact Nat.ne_of_lt (blk_lt (bkn BK749)) : gb749 ≠ gb784)); have n9_ := AX ((by rw [hg]; exact Nat.ne_of_gt (blk_lt (bkn BK749)) : gb784 ≠ gb749)); have n10_ := AX ((by rw [hg]; exact Nat.ne_of_lt (blk_lt (bkn BK777)) : gb777 ≠ gb784)); have n11_ := AX ((by rw [hg]; exact Nat.ne_of_gt (blk_lt (bkn BK777)) : gb784 ≠ gb777)); clear HO_7; clear HO_8; clear BK749; clear BK777; clear HB; have HO_7 := n0_; have HO_8 := n1_; have BK749 := n2_; have BK777 := n3_; have HB := n4_; have BK784 := n5_; have GW784 := n6_; have GE784 := n7_; have NB749_784 := n8_; have NB784_749 := n9_; have NB777_784 := n10_; have NB784_777 := n11_; clear n0_ n1_ n2_ n3_ n4_ n5_ n6_ n7_ n8_ n9_ n10_ n11_; clear hb hbox hg; have hnb47 := NB784_749.out; have hnc47 := NB749_784.out; have hnb48 := NB784_777.out; have hnc48 := NB777_784.out; obtain ⟨hcz49_0, hcz49_1, hcz49_2⟩ := blkC3 (w := w46) BK784.out; obtain ⟨hfz49_0, hfz49_1, hfz49_2⟩ := blkF3 BK784.out; obtain ⟨Ao50, co50, eo50⟩ := Kd.R_slice HO_8.out; subst eo50; have p785 : 0 ≤ (x79_3 : Int) := of_decide_eq_true (by first | (with_reducible assumption) | assumption); have q785 : x79_3 < (t767.length : Int) := of_decide_eq_true (by first | (with_reducible assumption) | assumption); obtain ⟨ad785, e785, hx785_0, hx785_1, hx785_2⟩ := at_T33 (Kd.R_reads' HO_8.out).2.2 x79_3 p785 q785; cases e785; have hn785_0 : ad785.block ≠ gb784 := Kd.own_blk (by first | exact Kd.R_ne HO_8.out BK784.out (by decide) | exact fun e_ => (And.left HO_8.out _ e_.symm).2 rfl | exact fun e_ => (And.left HO_8.out _ e_.symm).1.2 rfl | exact fun e_ => (And.left HO_8.out _ e_.symm).2.1 rfl | exact fun e_ => (And.left HO_8.out _ e_.symm).2.2 rfl); have hn785_1 : ad785.block ≠ gb784 := Kd.own_blk (by first | exact Kd.R_ne HO_8.out BK784.out (by decide) | exact fun e_ => (And.left HO_8.out _ e_.symm).2 rfl | exact fun e_ => (And.left HO_8.out _ e_.symm).1.2 rfl | exact fun e_ => (And.left HO_8.out _ e_.symm).2.1 rfl | exact fun e_ => (And.left HO_8.out _ e_.symm).2.2 rfl); have hn785_2 : ad785.block ≠ gb784 := Kd.own_blk (by first | exact Kd.R_ne HO_8.out BK784.out (by decide) | exact fun e_ => (And.left HO_8.out _ e_.symm).2 rfl | exact fun e_ => (And.left HO_8.out _ e_.symm).1.2 rfl | exact fun e_ => (And.left HO_8.out _ e_.symm).2.1 rfl | exact fun e_ => (And.left HO_8.out _ e_.symm).2.2 rfl); replace hx785_0 := (cell_far (p := ⟨gb784, 0, none⟩) (by first | (rw [add_block]; exact hn785_0) | (show (Addr.add _ _).block ≠ _; rw [add_block]; exact hn785_0) | exact hn785_0) (.int .i64 t780)).trans hx785_0; replace hx785_1 := (cell_far (p := ⟨gb784, 0, none⟩) (by first | (rw [add_block]; exact hn785_0) | (show (Addr.add _ _).block ≠ _; rw [add_block]; exact hn785_0) | exact hn785_0) (.int .i64 t780)).trans hx785_1; replace hx785_2 := (cell_far (p := ⟨gb784, 0, none⟩) (by first | (rw [add_block]; exact hn785_0) | (show (Addr.add _ _).block ≠ _; rw [add_block]; exact hn785_0) | exact hn785_0) (.int .i64 t780)).trans hx785_2; replace hx785_0 := (cell_far (p := ⟨gb784, 1, none⟩) (by first | (rw [add_block]; exact hn785_1) | (show (Addr.add _ _).block ≠ _; rw [add_block]; exact hn785_1) | exact hn785_1) (.int .i64 t781)).trans hx785_0; replace hx785_1 := (cell_far (p := ⟨gb784, 1, none⟩) (by first | (rw [add_block]; exact hn785_1) | (show (Addr.add _ _).block ≠ _; rw [add_block]; exact hn785_1) | exact hn785_1) (.int .i64 t781)).trans hx785_1; replace hx785_2 := (cell_far (p := ⟨gb784, 1, none⟩) (by first | (rw [add_block]; exact hn785_1) | (show (Addr.add _ _).block ≠ _; rw [add_block]; exact hn785_1) | exact hn785_1) (.int .i64 t781)).trans hx785_2; replace hx785_0 := (cell_far (p := ⟨gb784, 2, none⟩) (by first | (rw [add_block]; exact hn785_2) | (show (Addr.add _ _).block ≠ _; rw [add_block]; exact hn785_2) | exact hn785_2) (.int .i64 t782)).trans hx785_0; replace hx785_1 := (cell_far (p := ⟨gb784, 2, none⟩) (by first | (rw [add_block]; exact hn785_2) | (show (Addr.add _ _).block ≠ _; rw [add_block]; exact hn785_2) | exact hn785_2) (.int .i64 t782)).trans hx785_1; replace hx785_2 := (cell_far (p := ⟨gb784, 2, none⟩) (by first | (rw [add_block]; exact hn785_2) | (show (Addr.add _ _).block ≠ _; rw [add_block]; exact hn785_2) | exact hn785_2) (.int .i64 t782)).trans hx785_2; (try have hy785_0 := fun (n_ : Nat) => (show (((((w46.drewN n_).setCell ⟨gb784, 0, none⟩ (.int .i64 t780)).setCell ⟨gb784, 1, none⟩ (.int .i64 t781)).setCell ⟨gb784, 2, none⟩ (.int .i64 t782))).cell? _ = some _ from hx785_0)); (try have hy785_1 := fun (n_ : Nat) => (show (((((w46.drewN n_).setCell ⟨gb784, 0, none⟩ (.int .i64 t780)).setCell ⟨gb784, 1, none⟩ (.int .i64 t781)).setCell ⟨gb784, 2, none⟩ (.int .i64 t782))).cell? _ = some _ from hx785_1)); (try have hy785_2 := fun (n_ : Nat) => (show (((((w46.drewN n_).setCell ⟨gb784, 0, none⟩ (.int .i64 t780)).setCell ⟨gb784, 1, none⟩ (.int .i64 t781)).setCell ⟨gb784, 2, none⟩ (.int .i64 t782))).cell? _ = some _ from hx785_2)); clear hn785_0; clear hn785_1; clear hn785_2; replace p785 := eq_true p785; replace q785 := eq_true q785)); try go_wp2_with (first | (go_at_call 39; (with_reducible refine (period_Begin.calls kj33 t771 t772 t773 a1 t780 t781 t782 t783 _ A39.out).mono ?_); rintro e w45 ⟨rfl, hb⟩; have n0_ := AX (Kd.R_below (kr HO_7) hb); have n1_ := AX (Kd.R_below (kr HO_8) hb); have n2_ := AX (bkb BK749 hb); have n3_ := AX (bkb BK777 hb); have n4_ := AX (below_step bw hb); clear HO_7; clear HO_8; clear BK749; clear BK777; clear HB; have HO_7 := n0_; have HO_8 := n1_; have BK749 := n2_; have BK777 := n3_; have HB := n4_; clear n0_ n1_ n2_ n3_ n4_; (try clear hb)) | ((with_reducible refine gate_dst (N := 13) rfl ?_); (try (refine gate_guard (by rfl) ?_; dsimp only)); refine box_event ?hg (N := 13) ?hd (cs := #[.int .i64 0, .int .i64 0, .int .i64 0]) (t := 33) ?hr ?_; (case hd => rfl); (case hg => rfl); (case hr => first | (go_simp; done) | (go_simp; rfl)); intro gb784 hg w46 hbox hb; have n0_ := AX (Kd.R_below (kr HO_7) hb); have n1_ := AX (Kd.R_below (Kd.R_elderB (kr HO_8) gb784 (Nat.le_of_eq hg.symm)) hb); have n2_ := AX (bkb BK749 hb); have n3_ := AX (bkb BK777 hb); have n4_ := AX (below_step bw hb); have n5_ := AX (hbox); have n6_ := AX ((by rw [hg]; exact (below_size bw) : w.heap.size ≤ gb784)); have n7_ := n6_; have n8_ := AX ((by rw [hg]; exact Nat.ne_of_lt (blk_lt (bkn BK749)) : gb749 ≠ gb784)); have n9_ := AX ((by rw [hg]; exact Nat.ne_of_gt (blk_lt (bkn BK749)) : gb784 ≠ gb749)); have n10_ := AX ((by rw [hg]; exact Nat.ne_of_lt (blk_lt (bkn BK777)) : gb777 ≠ gb784)); have n11_ := AX ((by rw [hg]; exact Nat.ne_of_gt (blk_lt (bkn BK777)) : gb784 ≠ gb777)); clear HO_7; clear HO_8; clear BK749; clear BK777; clear HB; have HO_7 := n0_; have HO_8 := n1_; have BK749 := n2_; have BK777 := n3_; have HB := n4_; have BK784 := n5_; have GW784 := n6_; have GE784 := n7_; have NB749_784 := n8_; have NB784_749 := n9_; have NB777_784 := n10_; have NB784_777 := n11_; clear n0_ n1_ n2_ n3_ n4_ n5_ n6_ n7_ n8_ n9_ n10_ n11_; clear hb hbox hg; have hnb47 := NB784_749.out; have hnc47 := NB749_784.out; have hnb48 := NB784_777.out; have hnc48 := NB777_784.out; obtain ⟨hcz49_0, hcz49_1, hcz49_2⟩ := blkC3 (w := w46) BK784.out; obtain ⟨hfz49_0, hfz49_1, hfz49_2⟩ := blkF3 BK784.out; obtain ⟨Ao50, co50, eo50⟩ := Kd.R_slice HO_8.out; subst eo50; have p785 : 0 ≤ (x79_3 : Int) := of_decide_eq_true (by first | (with_reducible assumption) | assumption); have q785 : x79_3 < (t767.length : Int) := of_decide_eq_true (by first | (with_reducible assumption) | assumption); obtain ⟨ad785, e785, hx785_0, hx785_1, hx785_2⟩ := at_T33 (Kd.R_reads' HO_8.out).2.2 x79_3 p785 q785; cases e785; have hn785_0 : ad785.block ≠ gb784 := Kd.own_blk (by first | exact Kd.R_ne HO_8.out BK784.out (by decide) | exact fun e_ => (And.left HO_8.out _ e_.symm).2 rfl | exact fun e_ => (And.left HO_8.out _ e_.symm).1.2 rfl | exact fun e_ => (And.left HO_8.out _ e_.symm).2.1 rfl | exact fun e_ => (And.left HO_8.out _ e_.symm).2.2 rfl); have hn785_1 : ad785.block ≠ gb784 := Kd.own_blk (by first | exact Kd.R_ne HO_8.out BK784.out (by decide) | exact fun e_ => (And.left HO_8.out _ e_.symm).2 rfl | exact fun e_ => (And.left HO_8.out _ e_.symm).1.2 rfl | exact fun e_ => (And.left HO_8.out _ e_.symm).2.1 rfl | exact fun e_ => (And.left HO_8.out _ e_.symm).2.2 rfl); have hn785_2 : ad785.block ≠ gb784 := Kd.own_blk (by first | exact Kd.R_ne HO_8.out BK784.out (by decide) | exact fun e_ => (And.left HO_8.out _ e_.symm).2 rfl | exact fun e_ => (And.left HO_8.out _ e_.symm).1.2 rfl | exact fun e_ => (And.left HO_8.out _ e_.symm).2.1 rfl | exact fun e_ => (And.left HO_8.out _ e_.symm).2.2 rfl); replace hx785_0 := (cell_far (p := ⟨gb784, 0, none⟩) (by first | (rw [add_block]; exact hn785_0) | (show (Addr.add _ _).block ≠ _; rw [add_block]; exact hn785_0) | exact hn785_0) (.int .i64 t780)).trans hx785_0; replace hx785_1 := (cell_far (p := ⟨gb784, 0, none⟩) (by first | (rw [add_block]; exact hn785_0) | (show (Addr.add _ _).block ≠ _; rw [add_block]; exact hn785_0) | exact hn785_0) (.int .i64 t780)).trans hx785_1; replace hx785_2 := (cell_far (p := ⟨gb784, 0, none⟩) (by first | (rw [add_block]; exact hn785_0) | (show (Addr.add _ _).block ≠ _; rw [add_block]; exact hn785_0) | exact hn785_0) (.int .i64 t780)).trans hx785_2; replace hx785_0 := (cell_far (p := ⟨gb784, 1, none⟩) (by first | (rw [add_block]; exact hn785_1) | (show (Addr.add _ _).block ≠ _; rw [add_block]; exact hn785_1) | exact hn785_1) (.int .i64 t781)).trans hx785_0; replace hx785_1 := (cell_far (p := ⟨gb784, 1, none⟩) (by first | (rw [add_block]; exact hn785_1) | (show (Addr.add _ _).block ≠ _; rw [add_block]; exact hn785_1) | exact hn785_1) (.int .i64 t781)).trans hx785_1; replace hx785_2 := (cell_far (p := ⟨gb784, 1, none⟩) (by first | (rw [add_block]; exact hn785_1) | (show (Addr.add _ _).block ≠ _; rw [add_block]; exact hn785_1) | exact hn785_1) (.int .i64 t781)).trans hx785_2; replace hx785_0 := (cell_far (p := ⟨gb784, 2, none⟩) (by first | (rw [add_block]; exact hn785_2) | (show (Addr.add _ _).block ≠ _; rw [add_block]; exact hn785_2) | exact hn785_2) (.int .i64 t782)).trans hx785_0; replace hx785_1 := (cell_far (p := ⟨gb784, 2, none⟩) (by first | (rw [add_block]; exact hn785_2) | (show (Addr.add _ _).block ≠ _; rw [add_block]; exact hn785_2) | exact hn785_2) (.int .i64 t782)).trans hx785_1; replace hx785_2 := (cell_far (p := ⟨gb784, 2, none⟩) (by first | (rw [add_block]; exact hn785_2) | (show (Addr.add _ _).block ≠ _; rw [add_block]; exact hn785_2) | exact hn785_2) (.int .i64 t782)).trans hx785_2; (try have hy785_0 := fun (n_ : Nat) => (show (((((w46.drewN n_).setCell ⟨gb784, 0, none⟩ (.int .i64 t780)).setCell ⟨gb784, 1, none⟩ (.int .i64 t781)).setCell ⟨gb784, 2, none⟩ (.int .i64 t782))).cell? _ = some _ from hx785_0)); (try have hy785_1 := fun (n_ : Nat) => (show (((((w46.drewN n_).setCell ⟨gb784, 0, none⟩ (.int .i64 t780)).setCell ⟨gb784, 1, none⟩ (.int .i64 t781)).setCell ⟨gb784, 2, none⟩ (.int .i64 t782))).cell? _ = some _ from hx785_1)); (try have hy785_2 := fun (n_ : Nat) => (show (((((w46.drewN n_).setCell ⟨gb784, 0, none⟩ (.int .i64 t780)).setCell ⟨gb784, 1, none⟩ (.int .i64 t781)).setCell ⟨gb784, 2, none⟩ (.int .i64 t782))).cell? _ = some _ from hx785_2)); clear hn785_0; clear hn785_1; clear hn785_2; replace p785 := eq_true p785; replace q785 := eq_true q785)))
                  go_ret
                  exact ⟨by first | rfl | (simp [errW_none, errW_some] <;> rfl) | (simp [*, errW_none, errW_some] <;> rfl), bw⟩
                 ·rw [if_neg c42] at H
                  exact absurd H (by simp)
                ·rw [if_neg c41] at H
                 exact absurd H (by simp)
               ·rw [if_neg c40] at H
                have c40b0 : (t783 == 0) = false := beq_eq_false_iff_ne.mpr c40
                have c40b1 : (t783 != 0) = true := bne_iff_ne.mpr c40
                obtain rfl := Option.some.inj H
                have hnb51 := NB777_749.out
                have hnc51 := NB749_777.out
                obtain ⟨hcz52_0, hcz52_1, hcz52_2, hcz52_3, hcz52_4⟩ := blkC5 (w := wc) BK777.out
                obtain ⟨hfz52_0, hfz52_1, hfz52_2, hfz52_3, hfz52_4⟩ := blkF5 BK777.out
                go_wp2_with (first | (go_at_call 39; (with_reducible refine (period_Begin.calls kj33 t771 t772 t773 a1 t780 t781 t782 t783 _ A39.out).mono ?_); rintro e w53 ⟨rfl, hb⟩; have n0_ := AX (Kd.R_below (kr HO_7) hb); have n1_ := AX (Kd.R_below (kr HO_8) hb); have n2_ := AX (bkb BK749 hb); have n3_ := AX (bkb BK777 hb); have n4_ := AX (below_step bw hb); clear HO_7; clear HO_8; clear BK749; clear BK777; clear HB; have HO_7 := n0_; have HO_8 := n1_; have BK749 := n2_; have BK777 := n3_; have HB := n4_; clear n0_ n1_ n2_ n3_ n4_; (try clear hb)) | ((with_reducible refine gate_dst (N := 13) rfl ?_); (try (refine gate_guard (by rfl) ?_; dsimp only)); refine box_event ?hg (N := 13) ?hd (cs := #[.int .i64 0, .int .i64 0, .int .i64 0]) (t := 33) ?hr ?_; (case hd => rfl); (case hg => rfl); (case hr => first | (go_simp; done) | (go_simp; rfl)); intro gb784 hg w54 hbox hb; have n0_ := AX (Kd.R_below (kr HO_7) hb); have n1_ := AX (Kd.R_below (Kd.R_elderB (kr HO_8) gb784 (Nat.le_of_eq hg.symm)) hb); have n2_ := AX (bkb BK749 hb); have n3_ := AX (bkb BK777 hb); have n4_ := AX (below_step bw hb); have n5_ := AX (hbox); have n6_ := AX ((by rw [hg]; exact (below_size bw) : w.heap.size ≤ gb784)); have n7_ := n6_; have n8_ := AX ((by rw [hg]; exact Nat.ne_of_lt (blk_lt (bkn BK749)) : gb749 ≠ gb784)); have n9_ := AX ((by rw [hg]; exact Nat.ne_of_gt (blk_lt (bkn BK749)) : gb784 ≠ gb749)); have n10_ := AX ((by rw [hg]; exact Nat.ne_of_lt (blk_lt (bkn BK777)) : gb777 ≠ gb784)); have n11_ := AX ((by rw [hg]; exact Nat.ne_of_gt (blk_lt (bkn BK777)) : gb784 ≠ gb777)); clear HO_7; clear HO_8; clear BK749; clear BK777; clear HB; have HO_7 := n0_; have HO_8 := n1_; have BK749 := n2_; have BK777 := n3_; have HB := n4_; have BK784 := n5_; have GW784 := n6_; have GE784 := n7_; have NB749_784 := n8_; have NB784_749 := n9_; have NB777_784 := n10_; have NB784_777 := n11_; clear n0_ n1_ n2_ n3_ n4_ n5_ n6_ n7_ n8_ n9_ n10_ n11_; clear hb hbox hg; have hnb55 := NB784_749.out; have hnc55 := NB749_784.out; have hnb56 := NB784_777.out; have hnc56 := NB777_784.out; obtain ⟨hcz57_0, hcz57_1, hcz57_2⟩ := blkC3 (w := w54) BK784.out; obtain ⟨hfz57_0, hfz57_1, hfz57_2⟩ := blkF3 BK784.out))
                repeat (go_quiet (first | (go_at_call 39; (with_reducible refine (period_Begin.calls kj33 t771 t772 t773 a1 t780 t781 t782 t783 _ A39.out).mono ?_); rintro e w53 ⟨rfl, hb⟩; have n0_ := AX (Kd.R_below (kr HO_7) hb); have n1_ := AX (Kd.R_below (kr HO_8) hb); have n2_ := AX (bkb BK749 hb); have n3_ := AX (bkb BK777 hb); have n4_ := AX (below_step bw hb); clear HO_7; clear HO_8; clear BK749; clear BK777; clear HB; have HO_7 := n0_; have HO_8 := n1_; have BK749 := n2_; have BK777 := n3_; have HB := n4_; clear n0_ n1_ n2_ n3_ n4_; (try clear hb)) | ((with_reducible refine gate_dst (N := 13) rfl ?_); (try (refine gate_guard (by rfl) ?_; dsimp only)); refine box_event ?hg (N := 13) ?hd (cs := #[.int .i64 0, .int .i64 0, .int .i64 0]) (t := 33) ?hr ?_; (case hd => rfl); (case hg => rfl); (case hr => first | (go_simp; done) | (go_simp; rfl)); intro gb784 hg w54 hbox hb; have n0_ := AX (Kd.R_below (kr HO_7) hb); have n1_ := AX (Kd.R_below (Kd.R_elderB (kr HO_8) gb784 (Nat.le_of_eq hg.symm)) hb); have n2_ := AX (bkb BK749 hb); have n3_ := AX (bkb BK777 hb); have n4_ := AX (below_step bw hb); have n5_ := AX (hbox); have n6_ := AX ((by rw [hg]; exact (below_size bw) : w.heap.size ≤ gb784)); have n7_ := n6_; have n8_ := AX ((by rw [hg]; exact Nat.ne_of_lt (blk_lt (bkn BK749)) : gb749 ≠ gb784)); have n9_ := AX ((by rw [hg]; exact Nat.ne_of_gt (blk_lt (bkn BK749)) : gb784 ≠ gb749)); have n10_ := AX ((by rw [hg]; exact Nat.ne_of_lt (blk_lt (bkn BK777)) : gb777 ≠ gb784)); have n11_ := AX ((by rw [hg]; exact Nat.ne_of_gt (blk_lt (bkn BK777)) : gb784 ≠ gb777)); clear HO_7; clear HO_8; clear BK749; clear BK777; clear HB; have HO_7 := n0_; have HO_8 := n1_; have BK749 := n2_; have BK777 := n3_; have HB := n4_; have BK784 := n5_; have GW784 := n6_; have GE784 := n7_; have NB749_784 := n8_; have NB784_749 := n9_; have NB777_784 := n10_; have NB784_777 := n11_; clear n0_ n1_ n2_ n3_ n4_ n5_ n6_ n7_ n8_ n9_ n10_ n11_; clear hb hbox hg; have hnb55 := NB784_749.out; have hnc55 := NB749_784.out; have hnb56 := NB784_777.out; have hnc56 := NB777_784.out; obtain ⟨hcz57_0, hcz57_1, hcz57_2⟩ := blkC3 (w := w54) BK784.out; obtain ⟨hfz57_0, hfz57_1, hfz57_2⟩ := blkF3 BK784.out)); try go_wp2_with (first | (go_at_call 39; (with_reducible refine (period_Begin.calls kj33 t771 t772 t773 a1 t780 t781 t782 t783 _ A39.out).mono ?_); rintro e w53 ⟨rfl, hb⟩; have n0_ := AX (Kd.R_below (kr HO_7) hb); have n1_ := AX (Kd.R_below (kr HO_8) hb); have n2_ := AX (bkb BK749 hb); have n3_ := AX (bkb BK777 hb); have n4_ := AX (below_step bw hb); clear HO_7; clear HO_8; clear BK749; clear BK777; clear HB; have HO_7 := n0_; have HO_8 := n1_; have BK749 := n2_; have BK777 := n3_; have HB := n4_; clear n0_ n1_ n2_ n3_ n4_; (try clear hb)) | ((with_reducible refine gate_dst (N := 13) rfl ?_); (try (refine gate_guard (by rfl) ?_; dsimp only)); refine box_event ?hg (N := 13) ?hd (cs := #[.int .i64 0, .int .i64 0, .int .i64 0]) (t := 33) ?hr ?_; (case hd => rfl); (case hg => rfl); (case hr => first | (go_simp; done) | (go_simp; rfl)); intro gb784 hg w54 hbox hb; have n0_ := AX (Kd.R_below (kr HO_7) hb); have n1_ := AX (Kd.R_below (Kd.R_elderB (kr HO_8) gb784 (Nat.le_of_eq hg.symm)) hb); have n2_ := AX (bkb BK749 hb); have n3_ := AX (bkb BK777 hb); have n4_ := AX (below_step bw hb); have n5_ := AX (hbox); have n6_ := AX ((by rw [hg]; exact (below_size bw) : w.heap.size ≤ gb784)); have n7_ := n6_; have n8_ := AX ((by rw [hg]; exact Nat.ne_of_lt (blk_lt (bkn BK749)) : gb749 ≠ gb784)); have n9_ := AX ((by rw [hg]; exact Nat.ne_of_gt (blk_lt (bkn BK749)) : gb784 ≠ gb749)); have n10_ := AX ((by rw [hg]; exact Nat.ne_of_lt (blk_lt (bkn BK777)) : gb777 ≠ gb784)); have n11_ := AX ((by rw [hg]; exact Nat.ne_of_gt (blk_lt (bkn BK777)) : gb784 ≠ gb777)); clear HO_7; clear HO_8; clear BK749; clear BK777; clear HB; have HO_7 := n0_; have HO_8 := n1_; have BK749 := n2_; have BK777 := n3_; have HB := n4_; have BK784 := n5_; have GW784 := n6_; have GE784 := n7_; have NB749_784 := n8_; have NB784_749 := n9_; have NB777_784 := n10_; have NB784_777 := n11_; clear n0_ n1_ n2_ n3_ n4_ n5_ n6_ n7_ n8_ n9_ n10_ n11_; clear hb hbox hg; have hnb55 := NB784_749.out; have hnc55 := NB749_784.out; have hnb56 := NB784_777.out; have hnc56 := NB777_784.out; obtain ⟨hcz57_0, hcz57_1, hcz57_2⟩ := blkC3 (w := w54) BK784.out; obtain ⟨hfz57_0, hfz57_1, hfz57_2⟩ := blkF3 BK784.out)))
                go_ret
                exact ⟨by first | rfl | (simp [errW_none, errW_some] <;> rfl) | (simp [*, errW_none, errW_some] <;> rfl), bw⟩
           ·rw [if_neg c33] at H
            have c33b0 : decide (x79_3 < (t764.length : Int)) = false := decide_eq_false c33
            clear c33
            obtain rfl := Option.some.inj H
            go_wp2
            repeat (go_quiet (fail); try go_wp2)
            go_ret
            exact ⟨by first | rfl | (simp [errW_none, errW_some] <;> rfl) | (simp [*, errW_none, errW_some] <;> rfl), bw⟩
 ·replace c5 := Bool.eq_false_iff.mpr c5
  subst c5
  have H1 : (some false) = some r := by rw [if_neg (show ¬ (false = true) by decide)] at H; exact H
  clear H
  have H := H1
  clear H1
  obtain rfl := Option.some.inj H
  go_enter Try.func12, Try.ntmps12
  go_wp2_with (first | ((with_reducible refine gate_dst (N := 3) rfl ?_); (try (refine gate_guard (by rfl) ?_; dsimp only)); refine box_event ?hg (N := 3) ?hd (cs := #[.int .i64 a0_0, .int .i64 a0_1, .int .i64 a0_2, .int .i64 a0_3, .int .i64 a0_4, .int .i64 a0_5, .int .i64 a0_6, .int .i64 a0_7, .int .i64 a0_8, .int .i64 a0_9, .int .i64 a0_10, .int .i64 a0_11, .int .i64 a0_12]) (t := 61) ?hr ?_; (case hd => rfl); (case hg => rfl); (case hr => first | (go_simp; done) | (go_simp; rfl)); intro gb749 hg w58 hbox hb; have n0_ := AX (below_step bw hb); have n1_ := AX (hbox); have n2_ := AX ((by rw [hg]; exact (below_size bw) : w.heap.size ≤ gb749)); have n3_ := n2_; clear HB; have HB := n0_; have BK749 := n1_; have GW749 := n2_; have GE749 := n3_; clear n0_ n1_ n2_ n3_; clear hb hbox hg) | (go_at_call 29; (with_reducible refine (pylonlaw13_awake.calls k  false _ A4.out).mono ?_); rintro e w59 ⟨rfl, hb⟩; have n0_ := AX (bkb BK749 hb); have n1_ := AX (below_step bw hb); clear BK749; clear HB; have BK749 := n0_; have HB := n1_; clear n0_ n1_; (try clear hb)))
  repeat (go_quiet (first | ((with_reducible refine gate_dst (N := 3) rfl ?_); (try (refine gate_guard (by rfl) ?_; dsimp only)); refine box_event ?hg (N := 3) ?hd (cs := #[.int .i64 a0_0, .int .i64 a0_1, .int .i64 a0_2, .int .i64 a0_3, .int .i64 a0_4, .int .i64 a0_5, .int .i64 a0_6, .int .i64 a0_7, .int .i64 a0_8, .int .i64 a0_9, .int .i64 a0_10, .int .i64 a0_11, .int .i64 a0_12]) (t := 61) ?hr ?_; (case hd => rfl); (case hg => rfl); (case hr => first | (go_simp; done) | (go_simp; rfl)); intro gb749 hg w58 hbox hb; have n0_ := AX (below_step bw hb); have n1_ := AX (hbox); have n2_ := AX ((by rw [hg]; exact (below_size bw) : w.heap.size ≤ gb749)); have n3_ := n2_; clear HB; have HB := n0_; have BK749 := n1_; have GW749 := n2_; have GE749 := n3_; clear n0_ n1_ n2_ n3_; clear hb hbox hg) | (go_at_call 29; (with_reducible refine (pylonlaw13_awake.calls k  false _ A4.out).mono ?_); rintro e w59 ⟨rfl, hb⟩; have n0_ := AX (bkb BK749 hb); have n1_ := AX (below_step bw hb); clear BK749; clear HB; have BK749 := n0_; have HB := n1_; clear n0_ n1_; (try clear hb))); try go_wp2_with (first | ((with_reducible refine gate_dst (N := 3) rfl ?_); (try (refine gate_guard (by rfl) ?_; dsimp only)); refine box_event ?hg (N := 3) ?hd (cs := #[.int .i64 a0_0, .int .i64 a0_1, .int .i64 a0_2, .int .i64 a0_3, .int .i64 a0_4, .int .i64 a0_5, .int .i64 a0_6, .int .i64 a0_7, .int .i64 a0_8, .int .i64 a0_9, .int .i64 a0_10, .int .i64 a0_11, .int .i64 a0_12]) (t := 61) ?hr ?_; (case hd => rfl); (case hg => rfl); (case hr => first | (go_simp; done) | (go_simp; rfl)); intro gb749 hg w58 hbox hb; have n0_ := AX (below_step bw hb); have n1_ := AX (hbox); have n2_ := AX ((by rw [hg]; exact (below_size bw) : w.heap.size ≤ gb749)); have n3_ := n2_; clear HB; have HB := n0_; have BK749 := n1_; have GW749 := n2_; have GE749 := n3_; clear n0_ n1_ n2_ n3_; clear hb hbox hg) | (go_at_call 29; (with_reducible refine (pylonlaw13_awake.calls k  false _ A4.out).mono ?_); rintro e w59 ⟨rfl, hb⟩; have n0_ := AX (bkb BK749 hb); have n1_ := AX (below_step bw hb); clear BK749; clear HB; have BK749 := n0_; have HB := n1_; clear n0_ n1_; (try clear hb))))
  go_ret
  exact ⟨by first | rfl | (simp [errW_none, errW_some] <;> rfl) | (simp [*, errW_none, errW_some] <;> rfl), bw⟩

end Go.Proofs.Ytddkckpfmleffaa.PX
