/- Functions of the program as plain Lean functions, each with a proof that the call in the machine answers just what the plain function says; condition: the plain function answers at all. -/
import Derived.Test.YtddkckpfmleffaaPXx0
import Derived.Test.YtddkckpfmleffaaPXx1
import Derived.Test.YtddkckpfmleffaaPXx7
import Derived.Test.YtddkckpfmleffaaPXx8
import Derived.Test.YtddkckpfmleffaaPXx11
import Derived.Test.YtddkckpfmleffaaPXx14
import Derived.Test.YtddkckpfmleffaaPXx18
import Derived.Test.YtddkckpfmleffaaPXx21
namespace Go.Proofs.Ytddkckpfmleffaa.PX
open Go.RowKit Go.Proofs.YtddkckpfmleffaaW.PrintWords Go.Proofs.YtddkckpfmleffaaW.PrintLast Go.Proofs.YtddkckpfmleffaaW.PrintMore
attribute [local go_sem] max2_int min2_int max_two min_two max_three min_three max_four min_four   -- for this text's walks alone
set_option linter.unusedVariables false
set_option linter.unusedSimpArgs false

attribute [local go_sem high] eqA33
/-! ### pylonlaw04_ZoneDays: function 6 -/
mutual
def pylonlaw04_ZoneDays.j1 : Nat → Int → Int → Bool → Int → Int → Int → Int → Int → Int → Int → Int → Int → Int → Int → Int → Int → Option (Bool)
 | 0, _, _, _, _, _, _, _, _, _, _, _, _, _, _, _, _ => none
 | k + 1, x9, x10, x77, x487000, x487001, x487002, x487003, x487004, x487005, x487006, x487007, x487008, x487009, x493000, x493001, x493002 => if x77 = true then (some false) else (if (wrap64 ((wrap64 (x10 - x9)) - 86400)) = 0 then (pylonlaw04_ZoneDays.j2 k x9 x10 false x487000 x487001 x487002 x487003 x487004 x487005 x487006 x487007 x487008 x487009 x493000 x493001 x493002) else (if (wrap64 ((wrap64 (x10 - x9)) - 86400)) = (wrap64 (60 * x487001)) then (pylonlaw04_ZoneDays.j2 k x9 x10 false x487000 x487001 x487002 x487003 x487004 x487005 x487006 x487007 x487008 x487009 x493000 x493001 x493002) else (pylonlaw04_ZoneDays.j2 k x9 x10 ((wrap64 ((wrap64 (x10 - x9)) - 86400)) != (wrap64 ((-60) * x487001))) x487000 x487001 x487002 x487003 x487004 x487005 x487006 x487007 x487008 x487009 x493000 x493001 x493002)))
def pylonlaw04_ZoneDays.j2 : Nat → Int → Int → Bool → Int → Int → Int → Int → Int → Int → Int → Int → Int → Int → Int → Int → Int → Option (Bool)
 | 0, _, _, _, _, _, _, _, _, _, _, _, _, _, _, _, _ => none
 | k + 1, x9, x10, x97, x487000, x487001, x487002, x487003, x487004, x487005, x487006, x487007, x487008, x487009, x493000, x493001, x493002 => if x97 = true then (some false) else ((zone_At.f k x487000 x487001 x487002 x487003 x487004 x487005 x487006 x487007 x487008 x487009 x9).bind fun bt505 => ((zone_At.f k x487000 x487001 x487002 x487003 x487004 x487005 x487006 x487007 x487008 x487009 (wrap64 (x10 - 1))).bind fun bt512 => (if bt505.2.2.2.2.2 = 0 then (if bt512.2.2.2.2.2 = 0 then (if (bt505.1 == x493000 && (bt505.2.1 == x493001 && (bt505.2.2.1 == x493002))) = true then (if (bt512.1 == x493000 && (bt512.2.1 == x493001 && (bt512.2.2.1 == x493002))) = true then (if bt505.2.2.2.1 = 0 then ((pylonlaw04_minutes.f k x487000 x487001 x487002 x487003 x487004 x487005 x487006 x487007 x487008 x487009 x493000 x493001 x493002).bind fun t519 => (pylonlaw04_ZoneDays.j3 k (bt512.2.2.2.1 == (wrap64 (1439 - t519))))) else (pylonlaw04_ZoneDays.j3 k false)) else (pylonlaw04_ZoneDays.j3 k false)) else (pylonlaw04_ZoneDays.j3 k false)) else (pylonlaw04_ZoneDays.j3 k false)) else (pylonlaw04_ZoneDays.j3 k false))))
def pylonlaw04_ZoneDays.j3 : Nat → Bool → Option (Bool)
 | 0, _ => none
 | k + 1, x4 => some x4
def pylonlaw04_ZoneDays.j0 : Nat → Bool → Option (Bool)
 | 0, _ => none
 | k + 1, x4 => some x4
end
def pylonlaw04_ZoneDays.f (k : Nat) (a0_0 : Int) (a0_1 : Int) (a0_2 : Int) (a0_3 : Int) (a0_4 : Int) (a0_5 : Int) (a0_6 : Int) (a0_7 : Int) (a0_8 : Int) (a0_9 : Int) (a1 : Int) : Option (Bool) := (pylonlaw04_awake.f k).bind fun t487 => (if t487 = true then ((pylonref03_Of.f k (wrap64 ((wrap64 (Int.tmod (IntKind.u64.wrap (a1)) 3651900)) - 719100))).bind fun bt488 => ((pylonref03_Add.f k bt488.1 bt488.2.1 bt488.2.2.1 1).bind fun bt493 => ((zone_Day.f k a0_0 a0_1 a0_2 a0_3 a0_4 a0_5 a0_6 a0_7 a0_8 a0_9 bt488.1 bt488.2.1 bt488.2.2.1).bind fun bt498 => ((zone_Day.f k a0_0 a0_1 a0_2 a0_3 a0_4 a0_5 a0_6 a0_7 a0_8 a0_9 bt493.1 bt493.2.1 bt493.2.2.1).bind fun bt501 => ((pylonref04_Check.f k a0_0 a0_1 a0_2 a0_3 a0_4 a0_5 a0_6 a0_7 a0_8 a0_9).bind fun t504 => (if t504 = 0 then (if bt498.2.2 = 0 then (if bt501.2.2 = 0 then (pylonlaw04_ZoneDays.j1 k bt498.1 bt498.2.1 (bt498.2.1 != bt501.1) a0_0 a0_1 a0_2 a0_3 a0_4 a0_5 a0_6 a0_7 a0_8 a0_9 bt488.1 bt488.2.1 bt488.2.2.1) else (pylonlaw04_ZoneDays.j1 k bt498.1 bt498.2.1 true a0_0 a0_1 a0_2 a0_3 a0_4 a0_5 a0_6 a0_7 a0_8 a0_9 bt488.1 bt488.2.1 bt488.2.2.1)) else (pylonlaw04_ZoneDays.j1 k bt498.1 bt498.2.1 true a0_0 a0_1 a0_2 a0_3 a0_4 a0_5 a0_6 a0_7 a0_8 a0_9 bt488.1 bt488.2.1 bt488.2.2.1)) else (if bt498.2.2 = 8 then (if bt501.2.2 = 8 then (if bt498.1 = 0 then (pylonlaw04_ZoneDays.j0 k (bt498.2.1 == 0)) else (pylonlaw04_ZoneDays.j0 k false)) else (pylonlaw04_ZoneDays.j0 k false)) else (pylonlaw04_ZoneDays.j0 k false)))))))) else (some false))
theorem pylonlaw04_ZoneDays.mono_l : ∀ k, (∀ y0 y1 y2 y3 y4 y5 y6 y7 y8 y9 y10 y11 y12 y13 y14 y15, LeO (pylonlaw04_ZoneDays.j1 k y0 y1 y2 y3 y4 y5 y6 y7 y8 y9 y10 y11 y12 y13 y14 y15) (pylonlaw04_ZoneDays.j1 (k + 1) y0 y1 y2 y3 y4 y5 y6 y7 y8 y9 y10 y11 y12 y13 y14 y15)) ∧ (∀ y0 y1 y2 y3 y4 y5 y6 y7 y8 y9 y10 y11 y12 y13 y14 y15, LeO (pylonlaw04_ZoneDays.j2 k y0 y1 y2 y3 y4 y5 y6 y7 y8 y9 y10 y11 y12 y13 y14 y15) (pylonlaw04_ZoneDays.j2 (k + 1) y0 y1 y2 y3 y4 y5 y6 y7 y8 y9 y10 y11 y12 y13 y14 y15)) ∧ (∀ y0, LeO (pylonlaw04_ZoneDays.j3 k y0) (pylonlaw04_ZoneDays.j3 (k + 1) y0)) ∧ (∀ y0, LeO (pylonlaw04_ZoneDays.j0 k y0) (pylonlaw04_ZoneDays.j0 (k + 1) y0))
 | 0 => ⟨fun _ _ _ _ _ _ _ _ _ _ _ _ _ _ _ _ r h => by simp [pylonlaw04_ZoneDays.j1] at h, fun _ _ _ _ _ _ _ _ _ _ _ _ _ _ _ _ r h => by simp [pylonlaw04_ZoneDays.j2] at h, fun _ r h => by simp [pylonlaw04_ZoneDays.j3] at h, fun _ r h => by simp [pylonlaw04_ZoneDays.j0] at h⟩
 | k + 1 => by
  obtain ⟨ih0, ih1, ih2, ih3⟩ := pylonlaw04_ZoneDays.mono_l k
  refine ⟨?_, ?_, ?_, ?_⟩
  ·intro y0 y1 y2 y3 y4 y5 y6 y7 y8 y9 y10 y11 y12 y13 y14 y15
   unfold pylonlaw04_ZoneDays.j1
   repeat' first
   | (with_reducible exact ih0 _ _ _ _ _ _ _ _ _ _ _ _ _ _ _ _)
   | (with_reducible exact ih1 _ _ _ _ _ _ _ _ _ _ _ _ _ _ _ _)
   | (with_reducible exact ih2 _)
   | (with_reducible exact ih3 _)
   | (with_reducible exact pylonlaw04_awake.mono _)
   | (with_reducible exact pylonlaw04_minutes.mono _ _ _ _ _ _ _ _ _ _ _ _ _ _)
   | (with_reducible exact pylonref03_Add.mono _ _ _ _ _)
   | (with_reducible exact pylonref03_Of.mono _ _)
   | (with_reducible exact pylonref04_Check.mono _ _ _ _ _ _ _ _ _ _ _)
   | (with_reducible exact zone_At.mono _ _ _ _ _ _ _ _ _ _ _ _)
   | (with_reducible exact zone_Day.mono _ _ _ _ _ _ _ _ _ _ _ _ _ _)
   | (with_reducible exact LeO.refl _)
   | (with_reducible exact LeO.none _)
   | (with_reducible refine LeO.ite ?_ ?_)
   | (with_reducible refine LeO.bind ?_ (fun _ => ?_))
   | exact ih0 _ _ _ _ _ _ _ _ _ _ _ _ _ _ _ _
   | exact ih1 _ _ _ _ _ _ _ _ _ _ _ _ _ _ _ _
   | exact ih2 _
   | exact ih3 _
   | exact pylonlaw04_awake.mono _
   | exact pylonlaw04_minutes.mono _ _ _ _ _ _ _ _ _ _ _ _ _ _
   | exact pylonref03_Add.mono _ _ _ _ _
   | exact pylonref03_Of.mono _ _
   | exact pylonref04_Check.mono _ _ _ _ _ _ _ _ _ _ _
   | exact zone_At.mono _ _ _ _ _ _ _ _ _ _ _ _
   | exact zone_Day.mono _ _ _ _ _ _ _ _ _ _ _ _ _ _
   | exact LeO.none _
   | refine LeO.ite ?_ ?_
   | refine LeO.bind ?_ (fun _ => ?_)
  ·intro y0 y1 y2 y3 y4 y5 y6 y7 y8 y9 y10 y11 y12 y13 y14 y15
   unfold pylonlaw04_ZoneDays.j2
   repeat' first
   | (with_reducible exact ih0 _ _ _ _ _ _ _ _ _ _ _ _ _ _ _ _)
   | (with_reducible exact ih1 _ _ _ _ _ _ _ _ _ _ _ _ _ _ _ _)
   | (with_reducible exact ih2 _)
   | (with_reducible exact ih3 _)
   | (with_reducible exact pylonlaw04_awake.mono _)
   | (with_reducible exact pylonlaw04_minutes.mono _ _ _ _ _ _ _ _ _ _ _ _ _ _)
   | (with_reducible exact pylonref03_Add.mono _ _ _ _ _)
   | (with_reducible exact pylonref03_Of.mono _ _)
   | (with_reducible exact pylonref04_Check.mono _ _ _ _ _ _ _ _ _ _ _)
   | (with_reducible exact zone_At.mono _ _ _ _ _ _ _ _ _ _ _ _)
   | (with_reducible exact zone_Day.mono _ _ _ _ _ _ _ _ _ _ _ _ _ _)
   | (with_reducible exact LeO.refl _)
   | (with_reducible exact LeO.none _)
   | (with_reducible refine LeO.ite ?_ ?_)
   | (with_reducible refine LeO.bind ?_ (fun _ => ?_))
   | exact ih0 _ _ _ _ _ _ _ _ _ _ _ _ _ _ _ _
   | exact ih1 _ _ _ _ _ _ _ _ _ _ _ _ _ _ _ _
   | exact ih2 _
   | exact ih3 _
   | exact pylonlaw04_awake.mono _
   | exact pylonlaw04_minutes.mono _ _ _ _ _ _ _ _ _ _ _ _ _ _
   | exact pylonref03_Add.mono _ _ _ _ _
   | exact pylonref03_Of.mono _ _
   | exact pylonref04_Check.mono _ _ _ _ _ _ _ _ _ _ _
   | exact zone_At.mono _ _ _ _ _ _ _ _ _ _ _ _
   | exact zone_Day.mono _ _ _ _ _ _ _ _ _ _ _ _ _ _
   | exact LeO.none _
   | refine LeO.ite ?_ ?_
   | refine LeO.bind ?_ (fun _ => ?_)
  ·intro y0
   unfold pylonlaw04_ZoneDays.j3
   repeat' first
   | (with_reducible exact ih0 _ _ _ _ _ _ _ _ _ _ _ _ _ _ _ _)
   | (with_reducible exact ih1 _ _ _ _ _ _ _ _ _ _ _ _ _ _ _ _)
   | (with_reducible exact ih2 _)
   | (with_reducible exact ih3 _)
   | (with_reducible exact pylonlaw04_awake.mono _)
   | (with_reducible exact pylonlaw04_minutes.mono _ _ _ _ _ _ _ _ _ _ _ _ _ _)
   | (with_reducible exact pylonref03_Add.mono _ _ _ _ _)
   | (with_reducible exact pylonref03_Of.mono _ _)
   | (with_reducible exact pylonref04_Check.mono _ _ _ _ _ _ _ _ _ _ _)
   | (with_reducible exact zone_At.mono _ _ _ _ _ _ _ _ _ _ _ _)
   | (with_reducible exact zone_Day.mono _ _ _ _ _ _ _ _ _ _ _ _ _ _)
   | (with_reducible exact LeO.refl _)
   | (with_reducible exact LeO.none _)
   | (with_reducible refine LeO.ite ?_ ?_)
   | (with_reducible refine LeO.bind ?_ (fun _ => ?_))
   | exact ih0 _ _ _ _ _ _ _ _ _ _ _ _ _ _ _ _
   | exact ih1 _ _ _ _ _ _ _ _ _ _ _ _ _ _ _ _
   | exact ih2 _
   | exact ih3 _
   | exact pylonlaw04_awake.mono _
   | exact pylonlaw04_minutes.mono _ _ _ _ _ _ _ _ _ _ _ _ _ _
   | exact pylonref03_Add.mono _ _ _ _ _
   | exact pylonref03_Of.mono _ _
   | exact pylonref04_Check.mono _ _ _ _ _ _ _ _ _ _ _
   | exact zone_At.mono _ _ _ _ _ _ _ _ _ _ _ _
   | exact zone_Day.mono _ _ _ _ _ _ _ _ _ _ _ _ _ _
   | exact LeO.none _
   | refine LeO.ite ?_ ?_
   | refine LeO.bind ?_ (fun _ => ?_)
  ·intro y0
   unfold pylonlaw04_ZoneDays.j0
   repeat' first
   | (with_reducible exact ih0 _ _ _ _ _ _ _ _ _ _ _ _ _ _ _ _)
   | (with_reducible exact ih1 _ _ _ _ _ _ _ _ _ _ _ _ _ _ _ _)
   | (with_reducible exact ih2 _)
   | (with_reducible exact ih3 _)
   | (with_reducible exact pylonlaw04_awake.mono _)
   | (with_reducible exact pylonlaw04_minutes.mono _ _ _ _ _ _ _ _ _ _ _ _ _ _)
   | (with_reducible exact pylonref03_Add.mono _ _ _ _ _)
   | (with_reducible exact pylonref03_Of.mono _ _)
   | (with_reducible exact pylonref04_Check.mono _ _ _ _ _ _ _ _ _ _ _)
   | (with_reducible exact zone_At.mono _ _ _ _ _ _ _ _ _ _ _ _)
   | (with_reducible exact zone_Day.mono _ _ _ _ _ _ _ _ _ _ _ _ _ _)
   | (with_reducible exact LeO.refl _)
   | (with_reducible exact LeO.none _)
   | (with_reducible refine LeO.ite ?_ ?_)
   | (with_reducible refine LeO.bind ?_ (fun _ => ?_))
   | exact ih0 _ _ _ _ _ _ _ _ _ _ _ _ _ _ _ _
   | exact ih1 _ _ _ _ _ _ _ _ _ _ _ _ _ _ _ _
   | exact ih2 _
   | exact ih3 _
   | exact pylonlaw04_awake.mono _
   | exact pylonlaw04_minutes.mono _ _ _ _ _ _ _ _ _ _ _ _ _ _
   | exact pylonref03_Add.mono _ _ _ _ _
   | exact pylonref03_Of.mono _ _
   | exact pylonref04_Check.mono _ _ _ _ _ _ _ _ _ _ _
   | exact zone_At.mono _ _ _ _ _ _ _ _ _ _ _ _
   | exact zone_Day.mono _ _ _ _ _ _ _ _ _ _ _ _ _ _
   | exact LeO.none _
   | refine LeO.ite ?_ ?_
   | refine LeO.bind ?_ (fun _ => ?_)
theorem pylonlaw04_ZoneDays.mono : ∀ a0 a1 a2 a3 a4 a5 a6 a7 a8 a9 a10 k, LeO (pylonlaw04_ZoneDays.f k a0 a1 a2 a3 a4 a5 a6 a7 a8 a9 a10) (pylonlaw04_ZoneDays.f (k + 1) a0 a1 a2 a3 a4 a5 a6 a7 a8 a9 a10) := by
 intro a0 a1 a2 a3 a4 a5 a6 a7 a8 a9 a10 k
 obtain ⟨ih0, ih1, ih2, ih3⟩ := pylonlaw04_ZoneDays.mono_l k
 unfold pylonlaw04_ZoneDays.f
 repeat' first
   | (with_reducible exact ih0 _ _ _ _ _ _ _ _ _ _ _ _ _ _ _ _)
   | (with_reducible exact ih1 _ _ _ _ _ _ _ _ _ _ _ _ _ _ _ _)
   | (with_reducible exact ih2 _)
   | (with_reducible exact ih3 _)
   | (with_reducible exact pylonlaw04_awake.mono _)
   | (with_reducible exact pylonlaw04_minutes.mono _ _ _ _ _ _ _ _ _ _ _ _ _ _)
   | (with_reducible exact pylonref03_Add.mono _ _ _ _ _)
   | (with_reducible exact pylonref03_Of.mono _ _)
   | (with_reducible exact pylonref04_Check.mono _ _ _ _ _ _ _ _ _ _ _)
   | (with_reducible exact zone_At.mono _ _ _ _ _ _ _ _ _ _ _ _)
   | (with_reducible exact zone_Day.mono _ _ _ _ _ _ _ _ _ _ _ _ _ _)
   | (with_reducible exact LeO.refl _)
   | (with_reducible exact LeO.none _)
   | (with_reducible refine LeO.ite ?_ ?_)
   | (with_reducible refine LeO.bind ?_ (fun _ => ?_))
   | exact ih0 _ _ _ _ _ _ _ _ _ _ _ _ _ _ _ _
   | exact ih1 _ _ _ _ _ _ _ _ _ _ _ _ _ _ _ _
   | exact ih2 _
   | exact ih3 _
   | exact pylonlaw04_awake.mono _
   | exact pylonlaw04_minutes.mono _ _ _ _ _ _ _ _ _ _ _ _ _ _
   | exact pylonref03_Add.mono _ _ _ _ _
   | exact pylonref03_Of.mono _ _
   | exact pylonref04_Check.mono _ _ _ _ _ _ _ _ _ _ _
   | exact zone_At.mono _ _ _ _ _ _ _ _ _ _ _ _
   | exact zone_Day.mono _ _ _ _ _ _ _ _ _ _ _ _ _ _
   | exact LeO.none _
   | refine LeO.ite ?_ ?_
   | refine LeO.bind ?_ (fun _ => ?_)
def pylonlaw04_ZoneDays.T16 : Bool × List (List Nat × List Nat) := (true, [([], []), ([0], [0]), ([1], [1]), ([2], [2]), ([3, 2], [2, 3]), ([2, 4], [2, 4]), ([5, 2], [5]), ([6], [6]), ([7, 6], [6, 7]), ([6], [6]), ([8, 9, 6], [6, 8, 9]), ([6, 10], [6, 10]), ([11, 6], [11]), ([12], [12]), ([13, 12], [12, 13]), ([12], [12]), ([14, 15, 12], [12, 14, 15]), ([12, 16], [12, 16]), ([17, 12], [17]), ([18], [18]), ([19, 18], [18, 19]), ([20, 18], [18, 20]), ([18, 21], [18, 21]), ([22, 18], [22]), ([23], [23]), ([24, 23], [23, 24]), ([23], [23]), ([23], [23]), ([26, 27, 23, 23], [23, 26, 27]), ([28, 23], [23, 28]), ([25, 29, 23], [23, 25, 29]), ([23, 30], [23, 30]), ([31, 28, 0, 1, 2, 3, 4, 5, 6, 7, 8, 9, 10, 11, 12, 13, 14, 15, 16, 17, 18, 19, 20, 21, 22, 23, 24, 25, 26, 27, 28, 29, 30, 31], [31])])
def pylonlaw04_ZoneDays.B16 : List Nat := [0, 1, 3, 7, 15, 31, 63, 127, 255, 127, 1023, 2047, 4095, 8191, 16383, 8191, 65535, 131071, 262143, 524287, 1048575, 2097151, 4194303, 8388607, 16777215, 33554431, 16777215, 16777215, 218103807, 486539263, 1073741823, 2147483647, 4294967295]
theorem pylonlaw04_ZoneDays.tab16 : rtab .any (opsOf Try.f6 16) = pylonlaw04_ZoneDays.T16 := by kernel_rfl
theorem pylonlaw04_ZoneDays.bits16 : waitsOk pylonlaw04_ZoneDays.T16.2 pylonlaw04_ZoneDays.B16 = true := by kernel_rfl
set_option maxHeartbeats 8000000 in
set_option maxRecDepth 100000 in
theorem pylonlaw04_ZoneDays.calls (k : Nat) (a0_0 : Int) (a0_1 : Int) (a0_2 : Int) (a0_3 : Int) (a0_4 : Int) (a0_5 : Int) (a0_6 : Int) (a0_7 : Int) (a0_8 : Int) (a0_9 : Int) (a1 : Int) (r : Bool) (w : World) (h : pylonlaw04_ZoneDays.f k a0_0 a0_1 a0_2 a0_3 a0_4 a0_5 a0_6 a0_7 a0_8 a0_9 a1 = some r) :
  Calls Try.prog 6 #[.agg #[.int .i64 a0_0, .int .i64 a0_1, .int .i64 a0_2, .int .i64 a0_3, .int .i64 a0_4, .int .i64 a0_5, .int .i64 a0_6, .int .i64 a0_7, .int .i64 a0_8, .int .i64 a0_9], .int .i64 a1] w fun e w' => e = .returned (.bool r) ∧ Below w.heap.size w w' := by
 have hu25 := Try.underlying25
 have hu33 := Try.underlying33
 have hu35 := Try.underlying35
 have HB := AX (Below.refl w.heap.size w)
 have H : ((pylonlaw04_awake.f k).bind fun t487 => (if t487 = true then ((pylonref03_Of.f k (wrap64 ((wrap64 (Int.tmod (IntKind.u64.wrap (a1)) 3651900)) - 719100))).bind fun bt488 => ((pylonref03_Add.f k bt488.1 bt488.2.1 bt488.2.2.1 1).bind fun bt493 => ((zone_Day.f k a0_0 a0_1 a0_2 a0_3 a0_4 a0_5 a0_6 a0_7 a0_8 a0_9 bt488.1 bt488.2.1 bt488.2.2.1).bind fun bt498 => ((zone_Day.f k a0_0 a0_1 a0_2 a0_3 a0_4 a0_5 a0_6 a0_7 a0_8 a0_9 bt493.1 bt493.2.1 bt493.2.2.1).bind fun bt501 => ((pylonref04_Check.f k a0_0 a0_1 a0_2 a0_3 a0_4 a0_5 a0_6 a0_7 a0_8 a0_9).bind fun t504 => (if t504 = 0 then (if bt498.2.2 = 0 then (if bt501.2.2 = 0 then (pylonlaw04_ZoneDays.j1 k bt498.1 bt498.2.1 (bt498.2.1 != bt501.1) a0_0 a0_1 a0_2 a0_3 a0_4 a0_5 a0_6 a0_7 a0_8 a0_9 bt488.1 bt488.2.1 bt488.2.2.1) else (pylonlaw04_ZoneDays.j1 k bt498.1 bt498.2.1 true a0_0 a0_1 a0_2 a0_3 a0_4 a0_5 a0_6 a0_7 a0_8 a0_9 bt488.1 bt488.2.1 bt488.2.2.1)) else (pylonlaw04_ZoneDays.j1 k bt498.1 bt498.2.1 true a0_0 a0_1 a0_2 a0_3 a0_4 a0_5 a0_6 a0_7 a0_8 a0_9 bt488.1 bt488.2.1 bt488.2.2.1)) else (if bt498.2.2 = 8 then (if bt501.2.2 = 8 then (if bt498.1 = 0 then (pylonlaw04_ZoneDays.j0 k (bt498.2.1 == 0)) else (pylonlaw04_ZoneDays.j0 k false)) else (pylonlaw04_ZoneDays.j0 k false)) else (pylonlaw04_ZoneDays.j0 k false)))))))) else (some false))) = some r := h
 clear h
 replace H := Option.bind_eq_some_iff.mp H
 obtain ⟨t487, A30, H⟩ := H
 replace H : (if t487 = true then ((pylonref03_Of.f k (wrap64 ((wrap64 (Int.tmod (IntKind.u64.wrap (a1)) 3651900)) - 719100))).bind fun bt488 => ((pylonref03_Add.f k bt488.1 bt488.2.1 bt488.2.2.1 1).bind fun bt493 => ((zone_Day.f k a0_0 a0_1 a0_2 a0_3 a0_4 a0_5 a0_6 a0_7 a0_8 a0_9 bt488.1 bt488.2.1 bt488.2.2.1).bind fun bt498 => ((zone_Day.f k a0_0 a0_1 a0_2 a0_3 a0_4 a0_5 a0_6 a0_7 a0_8 a0_9 bt493.1 bt493.2.1 bt493.2.2.1).bind fun bt501 => ((pylonref04_Check.f k a0_0 a0_1 a0_2 a0_3 a0_4 a0_5 a0_6 a0_7 a0_8 a0_9).bind fun t504 => (if t504 = 0 then (if bt498.2.2 = 0 then (if bt501.2.2 = 0 then (pylonlaw04_ZoneDays.j1 k bt498.1 bt498.2.1 (bt498.2.1 != bt501.1) a0_0 a0_1 a0_2 a0_3 a0_4 a0_5 a0_6 a0_7 a0_8 a0_9 bt488.1 bt488.2.1 bt488.2.2.1) else (pylonlaw04_ZoneDays.j1 k bt498.1 bt498.2.1 true a0_0 a0_1 a0_2 a0_3 a0_4 a0_5 a0_6 a0_7 a0_8 a0_9 bt488.1 bt488.2.1 bt488.2.2.1)) else (pylonlaw04_ZoneDays.j1 k bt498.1 bt498.2.1 true a0_0 a0_1 a0_2 a0_3 a0_4 a0_5 a0_6 a0_7 a0_8 a0_9 bt488.1 bt488.2.1 bt488.2.2.1)) else (if bt498.2.2 = 8 then (if bt501.2.2 = 8 then (if bt498.1 = 0 then (pylonlaw04_ZoneDays.j0 k (bt498.2.1 == 0)) else (pylonlaw04_ZoneDays.j0 k false)) else (pylonlaw04_ZoneDays.j0 k false)) else (pylonlaw04_ZoneDays.j0 k false)))))))) else (some false)) = some r := H
 have A3 := AX A30
 clear A30
 by_cases c4 : t487 = true
 ·subst c4
  have H1 : ((pylonref03_Of.f k (wrap64 ((wrap64 (Int.tmod (IntKind.u64.wrap (a1)) 3651900)) - 719100))).bind fun bt488 => ((pylonref03_Add.f k bt488.1 bt488.2.1 bt488.2.2.1 1).bind fun bt493 => ((zone_Day.f k a0_0 a0_1 a0_2 a0_3 a0_4 a0_5 a0_6 a0_7 a0_8 a0_9 bt488.1 bt488.2.1 bt488.2.2.1).bind fun bt498 => ((zone_Day.f k a0_0 a0_1 a0_2 a0_3 a0_4 a0_5 a0_6 a0_7 a0_8 a0_9 bt493.1 bt493.2.1 bt493.2.2.1).bind fun bt501 => ((pylonref04_Check.f k a0_0 a0_1 a0_2 a0_3 a0_4 a0_5 a0_6 a0_7 a0_8 a0_9).bind fun t504 => (if t504 = 0 then (if bt498.2.2 = 0 then (if bt501.2.2 = 0 then (pylonlaw04_ZoneDays.j1 k bt498.1 bt498.2.1 (bt498.2.1 != bt501.1) a0_0 a0_1 a0_2 a0_3 a0_4 a0_5 a0_6 a0_7 a0_8 a0_9 bt488.1 bt488.2.1 bt488.2.2.1) else (pylonlaw04_ZoneDays.j1 k bt498.1 bt498.2.1 true a0_0 a0_1 a0_2 a0_3 a0_4 a0_5 a0_6 a0_7 a0_8 a0_9 bt488.1 bt488.2.1 bt488.2.2.1)) else (pylonlaw04_ZoneDays.j1 k bt498.1 bt498.2.1 true a0_0 a0_1 a0_2 a0_3 a0_4 a0_5 a0_6 a0_7 a0_8 a0_9 bt488.1 bt488.2.1 bt488.2.2.1)) else (if bt498.2.2 = 8 then (if bt501.2.2 = 8 then (if bt498.1 = 0 then (pylonlaw04_ZoneDays.j0 k (bt498.2.1 == 0)) else (pylonlaw04_ZoneDays.j0 k false)) else (pylonlaw04_ZoneDays.j0 k false)) else (pylonlaw04_ZoneDays.j0 k false)))))))) = some r := by rw [if_pos rfl] at H; exact H
  clear H
  have H := H1
  clear H1
  replace H := Option.bind_eq_some_iff.mp H
  obtain ⟨⟨t488, t489, t490, t491⟩, A50, H⟩ := H
  replace H : ((pylonref03_Add.f k t488 t489 t490 1).bind fun bt493 => ((zone_Day.f k a0_0 a0_1 a0_2 a0_3 a0_4 a0_5 a0_6 a0_7 a0_8 a0_9 t488 t489 t490).bind fun bt498 => ((zone_Day.f k a0_0 a0_1 a0_2 a0_3 a0_4 a0_5 a0_6 a0_7 a0_8 a0_9 bt493.1 bt493.2.1 bt493.2.2.1).bind fun bt501 => ((pylonref04_Check.f k a0_0 a0_1 a0_2 a0_3 a0_4 a0_5 a0_6 a0_7 a0_8 a0_9).bind fun t504 => (if t504 = 0 then (if bt498.2.2 = 0 then (if bt501.2.2 = 0 then (pylonlaw04_ZoneDays.j1 k bt498.1 bt498.2.1 (bt498.2.1 != bt501.1) a0_0 a0_1 a0_2 a0_3 a0_4 a0_5 a0_6 a0_7 a0_8 a0_9 t488 t489 t490) else (pylonlaw04_ZoneDays.j1 k bt498.1 bt498.2.1 true a0_0 a0_1 a0_2 a0_3 a0_4 a0_5 a0_6 a0_7 a0_8 a0_9 t488 t489 t490)) else (pylonlaw04_ZoneDays.j1 k bt498.1 bt498.2.1 true a0_0 a0_1 a0_2 a0_3 a0_4 a0_5 a0_6 a0_7 a0_8 a0_9 t488 t489 t490)) else (if bt498.2.2 = 8 then (if bt501.2.2 = 8 then (if bt498.1 = 0 then (pylonlaw04_ZoneDays.j0 k (bt498.2.1 == 0)) else (pylonlaw04_ZoneDays.j0 k false)) else (pylonlaw04_ZoneDays.j0 k false)) else (pylonlaw04_ZoneDays.j0 k false))))))) = some r := H
  have A5 := AX A50
  clear A50
  replace H := Option.bind_eq_some_iff.mp H
  obtain ⟨⟨t493, t494, t495, t496⟩, A60, H⟩ := H
  replace H : ((zone_Day.f k a0_0 a0_1 a0_2 a0_3 a0_4 a0_5 a0_6 a0_7 a0_8 a0_9 t488 t489 t490).bind fun bt498 => ((zone_Day.f k a0_0 a0_1 a0_2 a0_3 a0_4 a0_5 a0_6 a0_7 a0_8 a0_9 t493 t494 t495).bind fun bt501 => ((pylonref04_Check.f k a0_0 a0_1 a0_2 a0_3 a0_4 a0_5 a0_6 a0_7 a0_8 a0_9).bind fun t504 => (if t504 = 0 then (if bt498.2.2 = 0 then (if bt501.2.2 = 0 then (pylonlaw04_ZoneDays.j1 k bt498.1 bt498.2.1 (bt498.2.1 != bt501.1) a0_0 a0_1 a0_2 a0_3 a0_4 a0_5 a0_6 a0_7 a0_8 a0_9 t488 t489 t490) else (pylonlaw04_ZoneDays.j1 k bt498.1 bt498.2.1 true a0_0 a0_1 a0_2 a0_3 a0_4 a0_5 a0_6 a0_7 a0_8 a0_9 t488 t489 t490)) else (pylonlaw04_ZoneDays.j1 k bt498.1 bt498.2.1 true a0_0 a0_1 a0_2 a0_3 a0_4 a0_5 a0_6 a0_7 a0_8 a0_9 t488 t489 t490)) else (if bt498.2.2 = 8 then (if bt501.2.2 = 8 then (if bt498.1 = 0 then (pylonlaw04_ZoneDays.j0 k (bt498.2.1 == 0)) else (pylonlaw04_ZoneDays.j0 k false)) else (pylonlaw04_ZoneDays.j0 k false)) else (pylonlaw04_ZoneDays.j0 k false)))))) = some r := H
  have A6 := AX A60
  clear A60
  replace H := Option.bind_eq_some_iff.mp H
  obtain ⟨⟨t498, t499, t500⟩, A70, H⟩ := H
  replace H : ((zone_Day.f k a0_0 a0_1 a0_2 a0_3 a0_4 a0_5 a0_6 a0_7 a0_8 a0_9 t493 t494 t495).bind fun bt501 => ((pylonref04_Check.f k a0_0 a0_1 a0_2 a0_3 a0_4 a0_5 a0_6 a0_7 a0_8 a0_9).bind fun t504 => (if t504 = 0 then (if t500 = 0 then (if bt501.2.2 = 0 then (pylonlaw04_ZoneDays.j1 k t498 t499 (t499 != bt501.1) a0_0 a0_1 a0_2 a0_3 a0_4 a0_5 a0_6 a0_7 a0_8 a0_9 t488 t489 t490) else (pylonlaw04_ZoneDays.j1 k t498 t499 true a0_0 a0_1 a0_2 a0_3 a0_4 a0_5 a0_6 a0_7 a0_8 a0_9 t488 t489 t490)) else (pylonlaw04_ZoneDays.j1 k t498 t499 true a0_0 a0_1 a0_2 a0_3 a0_4 a0_5 a0_6 a0_7 a0_8 a0_9 t488 t489 t490)) else (if t500 = 8 then (if bt501.2.2 = 8 then (if t498 = 0 then (pylonlaw04_ZoneDays.j0 k (t499 == 0)) else (pylonlaw04_ZoneDays.j0 k false)) else (pylonlaw04_ZoneDays.j0 k false)) else (pylonlaw04_ZoneDays.j0 k false))))) = some r := H
  have A7 := AX A70
  clear A70
  replace H := Option.bind_eq_some_iff.mp H
  obtain ⟨⟨t501, t502, t503⟩, A80, H⟩ := H
  replace H : ((pylonref04_Check.f k a0_0 a0_1 a0_2 a0_3 a0_4 a0_5 a0_6 a0_7 a0_8 a0_9).bind fun t504 => (if t504 = 0 then (if t500 = 0 then (if t503 = 0 then (pylonlaw04_ZoneDays.j1 k t498 t499 (t499 != t501) a0_0 a0_1 a0_2 a0_3 a0_4 a0_5 a0_6 a0_7 a0_8 a0_9 t488 t489 t490) else (pylonlaw04_ZoneDays.j1 k t498 t499 true a0_0 a0_1 a0_2 a0_3 a0_4 a0_5 a0_6 a0_7 a0_8 a0_9 t488 t489 t490)) else (pylonlaw04_ZoneDays.j1 k t498 t499 true a0_0 a0_1 a0_2 a0_3 a0_4 a0_5 a0_6 a0_7 a0_8 a0_9 t488 t489 t490)) else (if t500 = 8 then (if t503 = 8 then (if t498 = 0 then (pylonlaw04_ZoneDays.j0 k (t499 == 0)) else (pylonlaw04_ZoneDays.j0 k false)) else (pylonlaw04_ZoneDays.j0 k false)) else (pylonlaw04_ZoneDays.j0 k false)))) = some r := H
  have A8 := AX A80
  clear A80
  replace H := Option.bind_eq_some_iff.mp H
  obtain ⟨t504, A90, H⟩ := H
  replace H : (if t504 = 0 then (if t500 = 0 then (if t503 = 0 then (pylonlaw04_ZoneDays.j1 k t498 t499 (t499 != t501) a0_0 a0_1 a0_2 a0_3 a0_4 a0_5 a0_6 a0_7 a0_8 a0_9 t488 t489 t490) else (pylonlaw04_ZoneDays.j1 k t498 t499 true a0_0 a0_1 a0_2 a0_3 a0_4 a0_5 a0_6 a0_7 a0_8 a0_9 t488 t489 t490)) else (pylonlaw04_ZoneDays.j1 k t498 t499 true a0_0 a0_1 a0_2 a0_3 a0_4 a0_5 a0_6 a0_7 a0_8 a0_9 t488 t489 t490)) else (if t500 = 8 then (if t503 = 8 then (if t498 = 0 then (pylonlaw04_ZoneDays.j0 k (t499 == 0)) else (pylonlaw04_ZoneDays.j0 k false)) else (pylonlaw04_ZoneDays.j0 k false)) else (pylonlaw04_ZoneDays.j0 k false))) = some r := H
  have A9 := AX A90
  clear A90
  by_cases c10 : t504 = 0
  ·rw [if_pos c10] at H
   have c10b0 : (t504 == 0) = true := beq_iff_eq.mpr c10
   have c10b1 : (t504 != 0) = false := bne_eq_false_iff_eq.mpr c10
   clear c10
   have HC11 := AX H
   clear H
   go_enter Try.func6, Try.ntmps6
   go_upto_region 9 with (first | ((with_reducible refine gate_dst (N := 2) rfl ?_); refine box_event ?hg (N := 2) ?hd (cs := #[.int .i64 a0_0, .int .i64 a0_1, .int .i64 a0_2, .int .i64 a0_3, .int .i64 a0_4, .int .i64 a0_5, .int .i64 a0_6, .int .i64 a0_7, .int .i64 a0_8, .int .i64 a0_9]) (t := 25) ?hr ?_; (case hd => rfl); (case hg => rfl); (case hr => first | (go_simp; done) | (go_simp; rfl)); intro gb486 hg w12 hbox hb; have n0_ := AX (below_step bw hb); have n1_ := AX (hbox); have n2_ := AX ((by rw [hg]; exact (below_size bw) : w.heap.size ≤ gb486)); have n3_ := n2_; clear HB; have HB := n0_; have BK486 := n1_; have GW486 := n2_; have GE486 := n3_; clear n0_ n1_ n2_ n3_; clear hb hbox hg) | ((with_reducible refine gate_callee (f := 14) rfl ?_); refine goesL_ (some 20) rfl rfl Try.func14 (by kernel_rfl) rfl #[] rfl (by (try simp only [List.map_toArray, List.map_cons, List.map_nil]); first | done | rfl | (simp only [List.length_drop, List.length_take]; rfl)) ?_; (with_reducible refine (pylonlaw04_awake.calls k  true _ A3.out).mono ?_); rintro e w13 ⟨rfl, hb⟩; refine ⟨_, rfl, ?_⟩; have n0_ := AX (bkb BK486 hb); have n1_ := AX (below_step bw hb); clear BK486; clear HB; have BK486 := n0_; have HB := n1_; clear n0_ n1_; (try clear hb)) | ((with_reducible refine gate_callee (f := 25) rfl ?_); refine goesL_ (some 28) rfl rfl Try.func25 (by kernel_rfl) rfl #[.int .i64 (wrap64 ((wrap64 (Int.tmod (IntKind.u64.wrap (a1)) 3651900)) - 719100))] rfl (by (try simp only [List.map_toArray, List.map_cons, List.map_nil]); first | done | rfl | (simp only [List.length_drop, List.length_take]; rfl)) ?_; (with_reducible refine (pylonref03_Of.calls k (wrap64 ((wrap64 (Int.tmod (IntKind.u64.wrap (a1)) 3651900)) - 719100)) t488 t489 t490 t491 _ A5.out).mono ?_); rintro e w14 ⟨rfl, hb⟩; refine ⟨_, rfl, ?_⟩; have n0_ := AX (bkb BK486 hb); have n1_ := AX (below_step bw hb); clear BK486; clear HB; have BK486 := n0_; have HB := n1_; clear n0_ n1_; (try clear hb)) | ((with_reducible refine gate_dst (N := 5) rfl ?_); refine box_event ?hg (N := 5) ?hd (cs := #[.int .i64 0, .int .i64 0, .int .i64 0]) (t := 33) ?hr ?_; (case hd => rfl); (case hg => rfl); (case hr => first | (go_simp; done) | (go_simp; rfl)); intro gb492 hg w15 hbox hb; have n0_ := AX (bkb BK486 hb); have n1_ := AX (below_step bw hb); have n2_ := AX (hbox); have n3_ := AX ((by rw [hg]; exact (below_size bw) : w.heap.size ≤ gb492)); have n4_ := n3_; have n5_ := AX ((by rw [hg]; exact Nat.ne_of_lt (blk_lt (bkn BK486)) : gb486 ≠ gb492)); have n6_ := AX ((by rw [hg]; exact Nat.ne_of_gt (blk_lt (bkn BK486)) : gb492 ≠ gb486)); clear BK486; clear HB; have BK486 := n0_; have HB := n1_; have BK492 := n2_; have GW492 := n3_; have GE492 := n4_; have NB486_492 := n5_; have NB492_486 := n6_; clear n0_ n1_ n2_ n3_ n4_ n5_ n6_; clear hb hbox hg; have hnb16 := NB492_486.out; have hnc16 := NB486_492.out; obtain ⟨hcz17_0, hcz17_1, hcz17_2⟩ := blkC3 (w := w15) BK492.out; obtain ⟨hfz17_0, hfz17_1, hfz17_2⟩ := blkF3 BK492.out) | ((with_reducible refine gate_callee (f := 26) rfl ?_); refine goesL_ (some 33) rfl rfl Try.func26 (by kernel_rfl) rfl #[.agg #[.int .i64 t488, .int .i64 t489, .int .i64 t490], .int .i64 1] rfl (by (try simp only [List.map_toArray, List.map_cons, List.map_nil]); first | done | rfl | (simp only [List.length_drop, List.length_take]; rfl)) ?_; (with_reducible refine (pylonref03_Add.calls k t488 t489 t490 1 t493 t494 t495 t496 _ A6.out).mono ?_); rintro e w18 ⟨rfl, hb⟩; refine ⟨_, rfl, ?_⟩; have n0_ := AX (blk_below (g := gb486) (o := .cells #[.int .i64 a0_0, .int .i64 a0_1, .int .i64 a0_2, .int .i64 a0_3, .int .i64 a0_4, .int .i64 a0_5, .int .i64 a0_6, .int .i64 a0_7, .int .i64 a0_8, .int .i64 a0_9] 25 (0, 0)) (by (with_reducible repeat first|refine blk_drewN ?_ _|refine blk_drew ?_|refine blk_alloc ?_ _|refine blk_far ?_ NB486_492.out _); exact BK486.out) hb); have n1_ := AX (blk_below (g := gb492) (o := .cells #[.int .i64 t488, .int .i64 t489, .int .i64 t490] 33 (0, 0)) (by (with_reducible repeat first|refine blk_drewN ?_ _|refine blk_drew ?_|refine blk_alloc ?_ _); refine blk_put (cs := #[.int .i64 t488, .int .i64 t489, .int .i64 0]) ?_ 2 _ rfl; (with_reducible repeat first|refine blk_drewN ?_ _|refine blk_drew ?_|refine blk_alloc ?_ _); refine blk_put (cs := #[.int .i64 t488, .int .i64 0, .int .i64 0]) ?_ 1 _ rfl; (with_reducible repeat first|refine blk_drewN ?_ _|refine blk_drew ?_|refine blk_alloc ?_ _); refine blk_put (cs := #[.int .i64 0, .int .i64 0, .int .i64 0]) ?_ 0 _ rfl; (with_reducible repeat first|refine blk_drewN ?_ _|refine blk_drew ?_|refine blk_alloc ?_ _); exact BK492.out) hb); have n2_ := AX (below_step bw hb); clear BK486; clear BK492; clear HB; have BK486 := n0_; have BK492 := n1_; have HB := n2_; clear n0_ n1_ n2_; (try clear hb)) | ((with_reducible refine gate_dst (N := 7) rfl ?_); refine box_event ?hg (N := 7) ?hd (cs := #[.int .i64 0, .int .i64 0, .int .i64 0]) (t := 33) ?hr ?_; (case hd => rfl); (case hg => rfl); (case hr => first | (go_simp; done) | (go_simp; rfl)); intro gb497 hg w19 hbox hb; have n0_ := AX (bkb BK486 hb); have n1_ := AX (bkb BK492 hb); have n2_ := AX (below_step bw hb); have n3_ := AX (hbox); have n4_ := AX ((by rw [hg]; exact (below_size bw) : w.heap.size ≤ gb497)); have n5_ := n4_; have n6_ := AX ((by rw [hg]; exact Nat.ne_of_lt (blk_lt (bkn BK486)) : gb486 ≠ gb497)); have n7_ := AX ((by rw [hg]; exact Nat.ne_of_gt (blk_lt (bkn BK486)) : gb497 ≠ gb486)); have n8_ := AX ((by rw [hg]; exact Nat.ne_of_lt (blk_lt (bkn BK492)) : gb492 ≠ gb497)); have n9_ := AX ((by rw [hg]; exact Nat.ne_of_gt (blk_lt (bkn BK492)) : gb497 ≠ gb492)); clear BK486; clear BK492; clear HB; have BK486 := n0_; have BK492 := n1_; have HB := n2_; have BK497 := n3_; have GW497 := n4_; have GE497 := n5_; have NB486_497 := n6_; have NB497_486 := n7_; have NB492_497 := n8_; have NB497_492 := n9_; clear n0_ n1_ n2_ n3_ n4_ n5_ n6_ n7_ n8_ n9_; clear hb hbox hg; have hnb20 := NB497_486.out; have hnc20 := NB486_497.out; have hnb21 := NB497_492.out; have hnc21 := NB492_497.out; obtain ⟨hcz22_0, hcz22_1, hcz22_2⟩ := blkC3 (w := w19) BK497.out; obtain ⟨hfz22_0, hfz22_1, hfz22_2⟩ := blkF3 BK497.out; obtain ⟨hcz23_0, hcz23_1, hcz23_2, hcz23_3, hcz23_4, hcz23_5, hcz23_6, hcz23_7, hcz23_8, hcz23_9⟩ := blkC10 (w := w19) BK486.out; obtain ⟨hfz23_0, hfz23_1, hfz23_2, hfz23_3, hfz23_4, hfz23_5, hfz23_6, hfz23_7, hfz23_8, hfz23_9⟩ := blkF10 BK486.out; obtain ⟨hcz24_0, hcz24_1, hcz24_2⟩ := blkC3 (w := w19) BK492.out; obtain ⟨hfz24_0, hfz24_1, hfz24_2⟩ := blkF3 BK492.out) | ((with_reducible refine gate_callee (f := 27) rfl ?_); refine goesL_ (some 39) rfl rfl Try.func27 (by kernel_rfl) rfl #[.agg #[.int .i64 a0_0, .int .i64 a0_1, .int .i64 a0_2, .int .i64 a0_3, .int .i64 a0_4, .int .i64 a0_5, .int .i64 a0_6, .int .i64 a0_7, .int .i64 a0_8, .int .i64 a0_9], .agg #[.int .i64 t488, .int .i64 t489, .int .i64 t490]] rfl (by (try simp only [List.map_toArray, List.map_cons, List.map_nil]); first | done | rfl | (simp only [List.length_drop, List.length_take]; rfl)) ?_; (with_reducible refine (zone_Day.calls k a0_0 a0_1 a0_2 a0_3 a0_4 a0_5 a0_6 a0_7 a0_8 a0_9 t488 t489 t490 t498 t499 t500 _ A7.out).mono ?_); rintro e w25 ⟨rfl, hb⟩; refine ⟨_, rfl, ?_⟩; have n0_ := AX (blk_below (g := gb486) (o := .cells #[.int .i64 a0_0, .int .i64 a0_1, .int .i64 a0_2, .int .i64 a0_3, .int .i64 a0_4, .int .i64 a0_5, .int .i64 a0_6, .int .i64 a0_7, .int .i64 a0_8, .int .i64 a0_9] 25 (0, 0)) (by (with_reducible repeat first|refine blk_drewN ?_ _|refine blk_drew ?_|refine blk_alloc ?_ _|refine blk_far ?_ NB486_497.out _); exact BK486.out) hb); have n1_ := AX (blk_below (g := gb492) (o := .cells #[.int .i64 t488, .int .i64 t489, .int .i64 t490] 33 (0, 0)) (by (with_reducible repeat first|refine blk_drewN ?_ _|refine blk_drew ?_|refine blk_alloc ?_ _|refine blk_far ?_ NB492_497.out _); exact BK492.out) hb); have n2_ := AX (blk_below (g := gb497) (o := .cells #[.int .i64 t493, .int .i64 t494, .int .i64 t495] 33 (0, 0)) (by (with_reducible repeat first|refine blk_drewN ?_ _|refine blk_drew ?_|refine blk_alloc ?_ _); refine blk_put (cs := #[.int .i64 t493, .int .i64 t494, .int .i64 0]) ?_ 2 _ rfl; (with_reducible repeat first|refine blk_drewN ?_ _|refine blk_drew ?_|refine blk_alloc ?_ _); refine blk_put (cs := #[.int .i64 t493, .int .i64 0, .int .i64 0]) ?_ 1 _ rfl; (with_reducible repeat first|refine blk_drewN ?_ _|refine blk_drew ?_|refine blk_alloc ?_ _); refine blk_put (cs := #[.int .i64 0, .int .i64 0, .int .i64 0]) ?_ 0 _ rfl; (with_reducible repeat first|refine blk_drewN ?_ _|refine blk_drew ?_|refine blk_alloc ?_ _); exact BK497.out) hb); have n3_ := AX (below_step bw hb); clear BK486; clear BK492; clear BK497; clear HB; have BK486 := n0_; have BK492 := n1_; have BK497 := n2_; have HB := n3_; clear n0_ n1_ n2_ n3_; (try clear hb); obtain ⟨hcz26_0, hcz26_1, hcz26_2, hcz26_3, hcz26_4, hcz26_5, hcz26_6, hcz26_7, hcz26_8, hcz26_9⟩ := blkC10 (w := w25) BK486.out; obtain ⟨hfz26_0, hfz26_1, hfz26_2, hfz26_3, hfz26_4, hfz26_5, hfz26_6, hfz26_7, hfz26_8, hfz26_9⟩ := blkF10 BK486.out; obtain ⟨hcz27_0, hcz27_1, hcz27_2⟩ := blkC3 (w := w25) BK497.out; obtain ⟨hfz27_0, hfz27_1, hfz27_2⟩ := blkF3 BK497.out) | ((with_reducible refine gate_callee (f := 27) rfl ?_); refine goesL_ (some 46) rfl rfl Try.func27 (by kernel_rfl) rfl #[.agg #[.int .i64 a0_0, .int .i64 a0_1, .int .i64 a0_2, .int .i64 a0_3, .int .i64 a0_4, .int .i64 a0_5, .int .i64 a0_6, .int .i64 a0_7, .int .i64 a0_8, .int .i64 a0_9], .agg #[.int .i64 t493, .int .i64 t494, .int .i64 t495]] rfl (by (try simp only [List.map_toArray, List.map_cons, List.map_nil]); first | done | rfl | (simp only [List.length_drop, List.length_take]; rfl)) ?_; (with_reducible refine (zone_Day.calls k a0_0 a0_1 a0_2 a0_3 a0_4 a0_5 a0_6 a0_7 a0_8 a0_9 t493 t494 t495 t501 t502 t503 _ A8.out).mono ?_); rintro e w28 ⟨rfl, hb⟩; refine ⟨_, rfl, ?_⟩; have n0_ := AX (bkb BK486 hb); have n1_ := AX (bkb BK492 hb); have n2_ := AX (bkb BK497 hb); have n3_ := AX (below_step bw hb); clear BK486; clear BK492; clear BK497; clear HB; have BK486 := n0_; have BK492 := n1_; have BK497 := n2_; have HB := n3_; clear n0_ n1_ n2_ n3_; (try clear hb); obtain ⟨hcz29_0, hcz29_1, hcz29_2, hcz29_3, hcz29_4, hcz29_5, hcz29_6, hcz29_7, hcz29_8, hcz29_9⟩ := blkC10 (w := w28) BK486.out; obtain ⟨hfz29_0, hfz29_1, hfz29_2, hfz29_3, hfz29_4, hfz29_5, hfz29_6, hfz29_7, hfz29_8, hfz29_9⟩ := blkF10 BK486.out) | ((with_reducible refine gate_callee (f := 16) rfl ?_); refine goesL_ (some 51) rfl rfl Try.func16 (by kernel_rfl) rfl #[.agg #[.int .i64 a0_0, .int .i64 a0_1, .int .i64 a0_2, .int .i64 a0_3, .int .i64 a0_4, .int .i64 a0_5, .int .i64 a0_6, .int .i64 a0_7, .int .i64 a0_8, .int .i64 a0_9]] rfl (by (try simp only [List.map_toArray, List.map_cons, List.map_nil]); first | done | rfl | (simp only [List.length_drop, List.length_take]; rfl)) ?_; (with_reducible refine (pylonref04_Check.calls k a0_0 a0_1 a0_2 a0_3 a0_4 a0_5 a0_6 a0_7 a0_8 a0_9 t504 _ A9.out).mono ?_); rintro e w30 ⟨rfl, hb⟩; refine ⟨_, rfl, ?_⟩; have n0_ := AX (bkb BK486 hb); have n1_ := AX (bkb BK492 hb); have n2_ := AX (bkb BK497 hb); have n3_ := AX (below_step bw hb); clear BK486; clear BK492; clear BK497; clear HB; have BK486 := n0_; have BK492 := n1_; have BK497 := n2_; have HB := n3_; clear n0_ n1_ n2_ n3_; (try clear hb)))
   (try simp only [Act.put, List.setIfInBounds_toArray, List.set_cons_zero, List.set_cons_succ])
   go_cut [77] (fun v77 wc => ∃ (kq : Nat) (x77_10 : Bool), v77 = .bool x77_10 ∧ Aside0 (pylonlaw04_ZoneDays.j1 kq t498 t499 x77_10 a0_0 a0_1 a0_2 a0_3 a0_4 a0_5 a0_6 a0_7 a0_8 a0_9 t488 t489 t490 = some r) ∧ Aside0 (kq ≤ k) ∧ Aside0 (wc.heap[gb486]? = some (.cells #[.int .i64 a0_0, .int .i64 a0_1, .int .i64 a0_2, .int .i64 a0_3, .int .i64 a0_4, .int .i64 a0_5, .int .i64 a0_6, .int .i64 a0_7, .int .i64 a0_8, .int .i64 a0_9] 25 (0, 0))) ∧ Aside0 (wc.heap[gb492]? = some (.cells #[.int .i64 t488, .int .i64 t489, .int .i64 t490] 33 (0, 0))) ∧ Aside0 (wc.heap[gb497]? = some (.cells #[.int .i64 t493, .int .i64 t494, .int .i64 t495] 33 (0, 0))) ∧ Aside0 (Below w.heap.size w wc))
   case first =>
    have H := HC11.out
    clear HC11
    by_cases c31 : t500 = 0
    ·rw [if_pos c31] at H
     have c31b0 : (t500 == 0) = true := beq_iff_eq.mpr c31
     have c31b1 : (t500 != 0) = false := bne_eq_false_iff_eq.mpr c31
     clear c31
     (first | rw [c31b0] | (simp only [i64_w, i32_w]; rw [c31b0]) | skip)
     by_cases c32 : t503 = 0
     ·rw [if_pos c32] at H
      have c32b0 : (t503 == 0) = true := beq_iff_eq.mpr c32
      have c32b1 : (t503 != 0) = false := bne_eq_false_iff_eq.mpr c32
      clear c32
      have H' := AX H
      clear H
      go_wp2
      go_meet
      case rel => exact ⟨_, ((t499 != t501)), (by first | rfl | (simp; done) | (simp [*]; done)), H', ⟨by first | omega | exact Nat.le_refl _⟩, ⟨bkn BK486⟩, ⟨bkn BK492⟩, ⟨bkn BK497⟩, ⟨bw⟩⟩
     ·rw [if_neg c32] at H
      have c32b0 : (t503 == 0) = false := beq_eq_false_iff_ne.mpr c32
      have c32b1 : (t503 != 0) = true := bne_iff_ne.mpr c32
      have H' := AX H
      clear H
      go_wp2
      go_meet
      case rel => exact ⟨_, (true), (by first | rfl | (simp; done) | (simp [*]; done)), H', ⟨by first | omega | exact Nat.le_refl _⟩, ⟨bkn BK486⟩, ⟨bkn BK492⟩, ⟨bkn BK497⟩, ⟨bw⟩⟩
    ·rw [if_neg c31] at H
     have c31b0 : (t500 == 0) = false := beq_eq_false_iff_ne.mpr c31
     have c31b1 : (t500 != 0) = true := bne_iff_ne.mpr c31
     (first | rw [c31b0] | (simp only [i64_w, i32_w]; rw [c31b0]) | skip)
     have H' := AX H
     clear H
     go_wp2
     go_meet
     case rel => exact ⟨_, (true), (by first | rfl | (simp; done) | (simp [*]; done)), H', ⟨by first | omega | exact Nat.le_refl _⟩, ⟨bkn BK486⟩, ⟨bkn BK492⟩, ⟨bkn BK497⟩, ⟨bw⟩⟩
   case rest =>
    clear HC11
    try clear c4
    try clear c10
    try clear c10b0
    try clear c10b1
    try clear hcz17_0 hcz17_1 hcz17_2
    try clear hcz22_0 hcz22_1 hcz22_2
    try clear hcz23_0 hcz23_1 hcz23_2 hcz23_3 hcz23_4 hcz23_5 hcz23_6 hcz23_7 hcz23_8 hcz23_9
    try clear hcz24_0 hcz24_1 hcz24_2
    try clear hcz26_0 hcz26_1 hcz26_2 hcz26_3 hcz26_4 hcz26_5 hcz26_6 hcz26_7 hcz26_8 hcz26_9
    try clear hcz27_0 hcz27_1 hcz27_2
    try clear hcz29_0 hcz29_1 hcz29_2 hcz29_3 hcz29_4 hcz29_5 hcz29_6 hcz29_7 hcz29_8 hcz29_9
    try clear hfz17_0 hfz17_1 hfz17_2
    try clear hfz22_0 hfz22_1 hfz22_2
    try clear hfz23_0 hfz23_1 hfz23_2 hfz23_3 hfz23_4 hfz23_5 hfz23_6 hfz23_7 hfz23_8 hfz23_9
    try clear hfz24_0 hfz24_1 hfz24_2
    try clear hfz26_0 hfz26_1 hfz26_2 hfz26_3 hfz26_4 hfz26_5 hfz26_6 hfz26_7 hfz26_8 hfz26_9
    try clear hfz27_0 hfz27_1 hfz27_2
    try clear hfz29_0 hfz29_1 hfz29_2 hfz29_3 hfz29_4 hfz29_5 hfz29_6 hfz29_7 hfz29_8 hfz29_9
    obtain ⟨kq, x77_10, rfl, HA, HJ10, BK486, BK492, BK497, HB⟩ := hcut
    cases kq with
    | zero => exact absurd HA.out (by simp [pylonlaw04_ZoneDays.j1])
    | succ kj10 =>
     have H := HA.out
     clear HA
     simp only [pylonlaw04_ZoneDays.j1] at H
     by_cases c33 : x77_10 = true
     ·subst c33
      have H1 : (some false) = some r := by rw [if_pos rfl] at H; exact H
      clear H
      have H := H1
      clear H1
      obtain rfl := Option.some.inj H
      go_wp2
      go_ret
      exact ⟨by first | rfl | (simp [errW_none, errW_some] <;> rfl) | (simp [*, errW_none, errW_some] <;> rfl), bw⟩
     ·replace c33 := Bool.eq_false_iff.mpr c33
      subst c33
      have H1 : (if (wrap64 ((wrap64 (t499 - t498)) - 86400)) = 0 then (pylonlaw04_ZoneDays.j2 kj10 t498 t499 false a0_0 a0_1 a0_2 a0_3 a0_4 a0_5 a0_6 a0_7 a0_8 a0_9 t488 t489 t490) else (if (wrap64 ((wrap64 (t499 - t498)) - 86400)) = (wrap64 (60 * a0_1)) then (pylonlaw04_ZoneDays.j2 kj10 t498 t499 false a0_0 a0_1 a0_2 a0_3 a0_4 a0_5 a0_6 a0_7 a0_8 a0_9 t488 t489 t490) else (pylonlaw04_ZoneDays.j2 kj10 t498 t499 ((wrap64 ((wrap64 (t499 - t498)) - 86400)) != (wrap64 ((-60) * a0_1))) a0_0 a0_1 a0_2 a0_3 a0_4 a0_5 a0_6 a0_7 a0_8 a0_9 t488 t489 t490))) = some r := by rw [if_neg (show ¬ (false = true) by decide)] at H; exact H
      clear H
      have H := H1
      clear H1
      have HC34 := AX H
      clear H
      go_upto_region 12 with (fail)
      go_cut [97] (fun v97 wc => ∃ (kq : Nat) (x97_33 : Bool), v97 = .bool x97_33 ∧ Aside0 (pylonlaw04_ZoneDays.j2 kq t498 t499 x97_33 a0_0 a0_1 a0_2 a0_3 a0_4 a0_5 a0_6 a0_7 a0_8 a0_9 t488 t489 t490 = some r) ∧ Aside0 (kq ≤ kj10) ∧ Aside0 (wc.heap[gb486]? = some (.cells #[.int .i64 a0_0, .int .i64 a0_1, .int .i64 a0_2, .int .i64 a0_3, .int .i64 a0_4, .int .i64 a0_5, .int .i64 a0_6, .int .i64 a0_7, .int .i64 a0_8, .int .i64 a0_9] 25 (0, 0))) ∧ Aside0 (wc.heap[gb492]? = some (.cells #[.int .i64 t488, .int .i64 t489, .int .i64 t490] 33 (0, 0))) ∧ Aside0 (wc.heap[gb497]? = some (.cells #[.int .i64 t493, .int .i64 t494, .int .i64 t495] 33 (0, 0))) ∧ Aside0 (Below w.heap.size w wc))
      case first =>
       have H := HC34.out
       clear HC34
       by_cases c35 : (wrap64 ((wrap64 (t499 - t498)) - 86400)) = 0
       ·rw [if_pos c35] at H
        have c35b0 : ((wrap64 ((wrap64 (t499 - t498)) - 86400)) == 0) = true := beq_iff_eq.mpr c35
        have c35b1 : ((wrap64 ((wrap64 (t499 - t498)) - 86400)) != 0) = false := bne_eq_false_iff_eq.mpr c35
        clear c35
        (first | rw [c35b0] | (simp only [i64_w, i32_w]; rw [c35b0]) | skip)
        have H' := AX H
        clear H
        go_wp2
        go_meet
        case rel => exact ⟨_, (false), (by first | rfl | (simp; done) | (simp [*]; done)), H', ⟨by have := HJ10.out; first | omega | exact Nat.le_refl _⟩, ⟨bkn BK486⟩, ⟨bkn BK492⟩, ⟨bkn BK497⟩, ⟨bw⟩⟩
       ·rw [if_neg c35] at H
        have c35b0 : ((wrap64 ((wrap64 (t499 - t498)) - 86400)) == 0) = false := beq_eq_false_iff_ne.mpr c35
        have c35b1 : ((wrap64 ((wrap64 (t499 - t498)) - 86400)) != 0) = true := bne_iff_ne.mpr c35
        (first | rw [c35b0] | (simp only [i64_w, i32_w]; rw [c35b0]) | skip)
        by_cases c36 : (wrap64 ((wrap64 (t499 - t498)) - 86400)) = (wrap64 (60 * a0_1))
        ·rw [if_pos c36] at H
         have c36b0 : ((wrap64 ((wrap64 (t499 - t498)) - 86400)) == (wrap64 (60 * a0_1))) = true := beq_iff_eq.mpr c36
         have c36b1 : ((wrap64 ((wrap64 (t499 - t498)) - 86400)) != (wrap64 (60 * a0_1))) = false := bne_eq_false_iff_eq.mpr c36
         clear c36
         have H' := AX H
         clear H
         have hnb37 := NB486_492.out
         have hnc37 := NB492_486.out
         have hnb38 := NB486_497.out
         have hnc38 := NB497_486.out
         obtain ⟨hcz39_0, hcz39_1, hcz39_2, hcz39_3, hcz39_4, hcz39_5, hcz39_6, hcz39_7, hcz39_8, hcz39_9⟩ := blkC10 (w := wc) BK486.out
         obtain ⟨hfz39_0, hfz39_1, hfz39_2, hfz39_3, hfz39_4, hfz39_5, hfz39_6, hfz39_7, hfz39_8, hfz39_9⟩ := blkF10 BK486.out
         go_wp2
         go_meet
         case rel => exact ⟨_, (false), (by first | rfl | (simp; done) | (simp [*]; done)), H', ⟨by have := HJ10.out; first | omega | exact Nat.le_refl _⟩, ⟨bkn BK486⟩, ⟨bkn BK492⟩, ⟨bkn BK497⟩, ⟨bw⟩⟩
        ·rw [if_neg c36] at H
         have c36b0 : ((wrap64 ((wrap64 (t499 - t498)) - 86400)) == (wrap64 (60 * a0_1))) = false := beq_eq_false_iff_ne.mpr c36
         have c36b1 : ((wrap64 ((wrap64 (t499 - t498)) - 86400)) != (wrap64 (60 * a0_1))) = true := bne_iff_ne.mpr c36
         have H' := AX H
         clear H
         have hnb40 := NB486_492.out
         have hnc40 := NB492_486.out
         have hnb41 := NB486_497.out
         have hnc41 := NB497_486.out
         obtain ⟨hcz42_0, hcz42_1, hcz42_2, hcz42_3, hcz42_4, hcz42_5, hcz42_6, hcz42_7, hcz42_8, hcz42_9⟩ := blkC10 (w := wc) BK486.out
         obtain ⟨hfz42_0, hfz42_1, hfz42_2, hfz42_3, hfz42_4, hfz42_5, hfz42_6, hfz42_7, hfz42_8, hfz42_9⟩ := blkF10 BK486.out
         go_wp2
         go_meet
         case rel => exact ⟨_, (((wrap64 ((wrap64 (t499 - t498)) - 86400)) != (wrap64 ((-60) * a0_1)))), (by first | rfl | (simp; done) | (simp [*]; done)), H', ⟨by have := HJ10.out; first | omega | exact Nat.le_refl _⟩, ⟨bkn BK486⟩, ⟨bkn BK492⟩, ⟨bkn BK497⟩, ⟨bw⟩⟩
      case rest =>
       clear HC34
       try clear c4
       try clear c10
       try clear c10b0
       try clear c10b1
       try clear c33
       try clear hcz17_0 hcz17_1 hcz17_2
       try clear hcz22_0 hcz22_1 hcz22_2
       try clear hcz23_0 hcz23_1 hcz23_2 hcz23_3 hcz23_4 hcz23_5 hcz23_6 hcz23_7 hcz23_8 hcz23_9
       try clear hcz24_0 hcz24_1 hcz24_2
       try clear hcz26_0 hcz26_1 hcz26_2 hcz26_3 hcz26_4 hcz26_5 hcz26_6 hcz26_7 hcz26_8 hcz26_9
       try clear hcz27_0 hcz27_1 hcz27_2
       try clear hcz29_0 hcz29_1 hcz29_2 hcz29_3 hcz29_4 hcz29_5 hcz29_6 hcz29_7 hcz29_8 hcz29_9
       try clear hfz17_0 hfz17_1 hfz17_2
       try clear hfz22_0 hfz22_1 hfz22_2
       try clear hfz23_0 hfz23_1 hfz23_2 hfz23_3 hfz23_4 hfz23_5 hfz23_6 hfz23_7 hfz23_8 hfz23_9
       try clear hfz24_0 hfz24_1 hfz24_2
       try clear hfz26_0 hfz26_1 hfz26_2 hfz26_3 hfz26_4 hfz26_5 hfz26_6 hfz26_7 hfz26_8 hfz26_9
       try clear hfz27_0 hfz27_1 hfz27_2
       try clear hfz29_0 hfz29_1 hfz29_2 hfz29_3 hfz29_4 hfz29_5 hfz29_6 hfz29_7 hfz29_8 hfz29_9
       obtain ⟨kq, x97_33, rfl, HA, HJ33, BK486, BK492, BK497, HB⟩ := hcut
       cases kq with
       | zero => exact absurd HA.out (by simp [pylonlaw04_ZoneDays.j2])
       | succ kj33 =>
        have H := HA.out
        clear HA
        simp only [pylonlaw04_ZoneDays.j2] at H
        by_cases c43 : x97_33 = true
        ·subst c43
         have H1 : (some false) = some r := by rw [if_pos rfl] at H; exact H
         clear H
         have H := H1
         clear H1
         obtain rfl := Option.some.inj H
         go_wp2
         go_ret
         exact ⟨by first | rfl | (simp [errW_none, errW_some] <;> rfl) | (simp [*, errW_none, errW_some] <;> rfl), bw⟩
        ·replace c43 := Bool.eq_false_iff.mpr c43
         subst c43
         have H1 : ((zone_At.f kj33 a0_0 a0_1 a0_2 a0_3 a0_4 a0_5 a0_6 a0_7 a0_8 a0_9 t498).bind fun bt505 => ((zone_At.f kj33 a0_0 a0_1 a0_2 a0_3 a0_4 a0_5 a0_6 a0_7 a0_8 a0_9 (wrap64 (t499 - 1))).bind fun bt512 => (if bt505.2.2.2.2.2 = 0 then (if bt512.2.2.2.2.2 = 0 then (if (bt505.1 == t488 && (bt505.2.1 == t489 && (bt505.2.2.1 == t490))) = true then (if (bt512.1 == t488 && (bt512.2.1 == t489 && (bt512.2.2.1 == t490))) = true then (if bt505.2.2.2.1 = 0 then ((pylonlaw04_minutes.f kj33 a0_0 a0_1 a0_2 a0_3 a0_4 a0_5 a0_6 a0_7 a0_8 a0_9 t488 t489 t490).bind fun t519 => (pylonlaw04_ZoneDays.j3 kj33 (bt512.2.2.2.1 == (wrap64 (1439 - t519))))) else (pylonlaw04_ZoneDays.j3 kj33 false)) else (pylonlaw04_ZoneDays.j3 kj33 false)) else (pylonlaw04_ZoneDays.j3 kj33 false)) else (pylonlaw04_ZoneDays.j3 kj33 false)) else (pylonlaw04_ZoneDays.j3 kj33 false)))) = some r := by rw [if_neg (show ¬ (false = true) by decide)] at H; exact H
         clear H
         have H := H1
         clear H1
         replace H := Option.bind_eq_some_iff.mp H
         obtain ⟨⟨t505, t506, t507, t508, t509, t510⟩, A440, H⟩ := H
         replace H : ((zone_At.f kj33 a0_0 a0_1 a0_2 a0_3 a0_4 a0_5 a0_6 a0_7 a0_8 a0_9 (wrap64 (t499 - 1))).bind fun bt512 => (if t510 = 0 then (if bt512.2.2.2.2.2 = 0 then (if (t505 == t488 && (t506 == t489 && (t507 == t490))) = true then (if (bt512.1 == t488 && (bt512.2.1 == t489 && (bt512.2.2.1 == t490))) = true then (if t508 = 0 then ((pylonlaw04_minutes.f kj33 a0_0 a0_1 a0_2 a0_3 a0_4 a0_5 a0_6 a0_7 a0_8 a0_9 t488 t489 t490).bind fun t519 => (pylonlaw04_ZoneDays.j3 kj33 (bt512.2.2.2.1 == (wrap64 (1439 - t519))))) else (pylonlaw04_ZoneDays.j3 kj33 false)) else (pylonlaw04_ZoneDays.j3 kj33 false)) else (pylonlaw04_ZoneDays.j3 kj33 false)) else (pylonlaw04_ZoneDays.j3 kj33 false)) else (pylonlaw04_ZoneDays.j3 kj33 false))) = some r := H
         have A44 := AX A440
         clear A440
         replace H := Option.bind_eq_some_iff.mp H
         obtain ⟨⟨t512, t513, t514, t515, t516, t517⟩, A450, H⟩ := H
         replace H : (if t510 = 0 then (if t517 = 0 then (if (t505 == t488 && (t506 == t489 && (t507 == t490))) = true then (if (t512 == t488 && (t513 == t489 && (t514 == t490))) = true then (if t508 = 0 then ((pylonlaw04_minutes.f kj33 a0_0 a0_1 a0_2 a0_3 a0_4 a0_5 a0_6 a0_7 a0_8 a0_9 t488 t489 t490).bind fun t519 => (pylonlaw04_ZoneDays.j3 kj33 (t515 == (wrap64 (1439 - t519))))) else (pylonlaw04_ZoneDays.j3 kj33 false)) else (pylonlaw04_ZoneDays.j3 kj33 false)) else (pylonlaw04_ZoneDays.j3 kj33 false)) else (pylonlaw04_ZoneDays.j3 kj33 false)) else (pylonlaw04_ZoneDays.j3 kj33 false)) = some r := H
         have A45 := AX A450
         clear A450
         have HC46 := AX H
         clear H
         have hnb47 := NB486_492.out
         have hnc47 := NB492_486.out
         have hnb48 := NB486_497.out
         have hnc48 := NB497_486.out
         obtain ⟨hcz49_0, hcz49_1, hcz49_2, hcz49_3, hcz49_4, hcz49_5, hcz49_6, hcz49_7, hcz49_8, hcz49_9⟩ := blkC10 (w := wc) BK486.out
         obtain ⟨hfz49_0, hfz49_1, hfz49_2, hfz49_3, hfz49_4, hfz49_5, hfz49_6, hfz49_7, hfz49_8, hfz49_9⟩ := blkF10 BK486.out
         go_upto_region 16 with (first | ((with_reducible refine gate_callee (f := 17) rfl ?_); refine goesL_ (some 101) rfl rfl Try.func17 (by kernel_rfl) rfl #[.agg #[.int .i64 a0_0, .int .i64 a0_1, .int .i64 a0_2, .int .i64 a0_3, .int .i64 a0_4, .int .i64 a0_5, .int .i64 a0_6, .int .i64 a0_7, .int .i64 a0_8, .int .i64 a0_9], .int .i64 t498] rfl (by (try simp only [List.map_toArray, List.map_cons, List.map_nil]); first | done | rfl | (simp only [List.length_drop, List.length_take]; rfl)) ?_; (with_reducible refine (zone_At.calls kj33 a0_0 a0_1 a0_2 a0_3 a0_4 a0_5 a0_6 a0_7 a0_8 a0_9 t498 t505 t506 t507 t508 t509 t510 _ A44.out).mono ?_); rintro e w50 ⟨rfl, hb⟩; refine ⟨_, rfl, ?_⟩; have n0_ := AX (bkb BK486 hb); have n1_ := AX (bkb BK492 hb); have n2_ := AX (bkb BK497 hb); have n3_ := AX (below_step bw hb); clear BK486; clear BK492; clear BK497; clear HB; have BK486 := n0_; have BK492 := n1_; have BK497 := n2_; have HB := n3_; clear n0_ n1_ n2_ n3_; (try clear hb)) | ((with_reducible refine gate_dst (N := 16) rfl ?_); refine box_event ?hg (N := 16) ?hd (cs := #[.int .i64 0, .int .i64 0, .int .i64 0, .int .i64 0, .int .i64 0]) (t := 35) ?hr ?_; (case hd => rfl); (case hg => rfl); (case hr => first | (go_simp; done) | (go_simp; rfl)); intro gb511 hg w51 hbox hb; have n0_ := AX (bkb BK486 hb); have n1_ := AX (bkb BK492 hb); have n2_ := AX (bkb BK497 hb); have n3_ := AX (below_step bw hb); have n4_ := AX (hbox); have n5_ := AX ((by rw [hg]; exact (below_size bw) : w.heap.size ≤ gb511)); have n6_ := n5_; have n7_ := AX ((by rw [hg]; exact Nat.ne_of_lt (blk_lt (bkn BK486)) : gb486 ≠ gb511)); have n8_ := AX ((by rw [hg]; exact Nat.ne_of_gt (blk_lt (bkn BK486)) : gb511 ≠ gb486)); have n9_ := AX ((by rw [hg]; exact Nat.ne_of_lt (blk_lt (bkn BK492)) : gb492 ≠ gb511)); have n10_ := AX ((by rw [hg]; exact Nat.ne_of_gt (blk_lt (bkn BK492)) : gb511 ≠ gb492)); have n11_ := AX ((by rw [hg]; exact Nat.ne_of_lt (blk_lt (bkn BK497)) : gb497 ≠ gb511)); have n12_ := AX ((by rw [hg]; exact Nat.ne_of_gt (blk_lt (bkn BK497)) : gb511 ≠ gb497)); clear BK486; clear BK492; clear BK497; clear HB; have BK486 := n0_; have BK492 := n1_; have BK497 := n2_; have HB := n3_; have BK511 := n4_; have GW511 := n5_; have GE511 := n6_; have NB486_511 := n7_; have NB511_486 := n8_; have NB492_511 := n9_; have NB511_492 := n10_; have NB497_511 := n11_; have NB511_497 := n12_; clear n0_ n1_ n2_ n3_ n4_ n5_ n6_ n7_ n8_ n9_ n10_ n11_ n12_; clear hb hbox hg; have hnb52 := NB511_486.out; have hnc52 := NB486_511.out; have hnb53 := NB511_492.out; have hnc53 := NB492_511.out; have hnb54 := NB511_497.out; have hnc54 := NB497_511.out; obtain ⟨hcz55_0, hcz55_1, hcz55_2, hcz55_3, hcz55_4⟩ := blkC5 (w := w51) BK511.out; obtain ⟨hfz55_0, hfz55_1, hfz55_2, hfz55_3, hfz55_4⟩ := blkF5 BK511.out; obtain ⟨hcz56_0, hcz56_1, hcz56_2, hcz56_3, hcz56_4, hcz56_5, hcz56_6, hcz56_7, hcz56_8, hcz56_9⟩ := blkC10 (w := w51) BK486.out; obtain ⟨hfz56_0, hfz56_1, hfz56_2, hfz56_3, hfz56_4, hfz56_5, hfz56_6, hfz56_7, hfz56_8, hfz56_9⟩ := blkF10 BK486.out) | ((with_reducible refine gate_callee (f := 17) rfl ?_); refine goesL_ (some 108) rfl rfl Try.func17 (by kernel_rfl) rfl #[.agg #[.int .i64 a0_0, .int .i64 a0_1, .int .i64 a0_2, .int .i64 a0_3, .int .i64 a0_4, .int .i64 a0_5, .int .i64 a0_6, .int .i64 a0_7, .int .i64 a0_8, .int .i64 a0_9], .int .i64 (wrap64 (t499 - 1))] rfl (by (try simp only [List.map_toArray, List.map_cons, List.map_nil]); first | done | rfl | (simp only [List.length_drop, List.length_take]; rfl)) ?_; (with_reducible refine (zone_At.calls kj33 a0_0 a0_1 a0_2 a0_3 a0_4 a0_5 a0_6 a0_7 a0_8 a0_9 (wrap64 (t499 - 1)) t512 t513 t514 t515 t516 t517 _ A45.out).mono ?_); rintro e w57 ⟨rfl, hb⟩; refine ⟨_, rfl, ?_⟩; have n0_ := AX (blk_below (g := gb486) (o := .cells #[.int .i64 a0_0, .int .i64 a0_1, .int .i64 a0_2, .int .i64 a0_3, .int .i64 a0_4, .int .i64 a0_5, .int .i64 a0_6, .int .i64 a0_7, .int .i64 a0_8, .int .i64 a0_9] 25 (0, 0)) (by (with_reducible repeat first|refine blk_drewN ?_ _|refine blk_drew ?_|refine blk_alloc ?_ _|refine blk_far ?_ NB486_511.out _); exact BK486.out) hb); have n1_ := AX (blk_below (g := gb492) (o := .cells #[.int .i64 t488, .int .i64 t489, .int .i64 t490] 33 (0, 0)) (by (with_reducible repeat first|refine blk_drewN ?_ _|refine blk_drew ?_|refine blk_alloc ?_ _|refine blk_far ?_ NB492_511.out _); exact BK492.out) hb); have n2_ := AX (blk_below (g := gb497) (o := .cells #[.int .i64 t493, .int .i64 t494, .int .i64 t495] 33 (0, 0)) (by (with_reducible repeat first|refine blk_drewN ?_ _|refine blk_drew ?_|refine blk_alloc ?_ _|refine blk_far ?_ NB497_511.out _); exact BK497.out) hb); have n3_ := AX (blk_below (g := gb511) (o := .cells #[.int .i64 t505, .int .i64 t506, .int .i64 t507, .int .i64 t508, .int .i64 t509] 35 (0, 0)) (by (with_reducible repeat first|refine blk_drewN ?_ _|refine blk_drew ?_|refine blk_alloc ?_ _); refine blk_put (cs := #[.int .i64 t505, .int .i64 t506, .int .i64 t507, .int .i64 t508, .int .i64 0]) ?_ 4 _ rfl; (with_reducible repeat first|refine blk_drewN ?_ _|refine blk_drew ?_|refine blk_alloc ?_ _); refine blk_put (cs := #[.int .i64 t505, .int .i64 t506, .int .i64 t507, .int .i64 0, .int .i64 0]) ?_ 3 _ rfl; (with_reducible repeat first|refine blk_drewN ?_ _|refine blk_drew ?_|refine blk_alloc ?_ _); refine blk_put (cs := #[.int .i64 t505, .int .i64 t506, .int .i64 0, .int .i64 0, .int .i64 0]) ?_ 2 _ rfl; (with_reducible repeat first|refine blk_drewN ?_ _|refine blk_drew ?_|refine blk_alloc ?_ _); refine blk_put (cs := #[.int .i64 t505, .int .i64 0, .int .i64 0, .int .i64 0, .int .i64 0]) ?_ 1 _ rfl; (with_reducible repeat first|refine blk_drewN ?_ _|refine blk_drew ?_|refine blk_alloc ?_ _); refine blk_put (cs := #[.int .i64 0, .int .i64 0, .int .i64 0, .int .i64 0, .int .i64 0]) ?_ 0 _ rfl; (with_reducible repeat first|refine blk_drewN ?_ _|refine blk_drew ?_|refine blk_alloc ?_ _); exact BK511.out) hb); have n4_ := AX (below_step bw hb); clear BK486; clear BK492; clear BK497; clear BK511; clear HB; have BK486 := n0_; have BK492 := n1_; have BK497 := n2_; have BK511 := n3_; have HB := n4_; clear n0_ n1_ n2_ n3_ n4_; (try clear hb)) | ((with_reducible refine gate_dst (N := 18) rfl ?_); refine box_event ?hg (N := 18) ?hd (cs := #[.int .i64 0, .int .i64 0, .int .i64 0, .int .i64 0, .int .i64 0]) (t := 35) ?hr ?_; (case hd => rfl); (case hg => rfl); (case hr => first | (go_simp; done) | (go_simp; rfl)); intro gb518 hg w58 hbox hb; have n0_ := AX (bkb BK486 hb); have n1_ := AX (bkb BK492 hb); have n2_ := AX (bkb BK497 hb); have n3_ := AX (bkb BK511 hb); have n4_ := AX (below_step bw hb); have n5_ := AX (hbox); have n6_ := AX ((by rw [hg]; exact (below_size bw) : w.heap.size ≤ gb518)); have n7_ := n6_; have n8_ := AX ((by rw [hg]; exact Nat.ne_of_lt (blk_lt (bkn BK486)) : gb486 ≠ gb518)); have n9_ := AX ((by rw [hg]; exact Nat.ne_of_gt (blk_lt (bkn BK486)) : gb518 ≠ gb486)); have n10_ := AX ((by rw [hg]; exact Nat.ne_of_lt (blk_lt (bkn BK492)) : gb492 ≠ gb518)); have n11_ := AX ((by rw [hg]; exact Nat.ne_of_gt (blk_lt (bkn BK492)) : gb518 ≠ gb492)); have n12_ := AX ((by rw [hg]; exact Nat.ne_of_lt (blk_lt (bkn BK497)) : gb497 ≠ gb518)); have n13_ := AX ((by rw [hg]; exact Nat.ne_of_gt (blk_lt (bkn BK497)) : gb518 ≠ gb497)); have n14_ := AX ((by rw [hg]; exact Nat.ne_of_lt (blk_lt (bkn BK511)) : gb511 ≠ gb518)); have n15_ := AX ((by rw [hg]; exact Nat.ne_of_gt (blk_lt (bkn BK511)) : gb518 ≠ gb511)); clear BK486; clear BK492; clear BK497; clear BK511; clear HB; have BK486 := n0_; have BK492 := n1_; have BK497 := n2_; have BK511 := n3_; have HB := n4_; have BK518 := n5_; have GW518 := n6_; have GE518 := n7_; have NB486_518 := n8_; have NB518_486 := n9_; have NB492_518 := n10_; have NB518_492 := n11_; have NB497_518 := n12_; have NB518_497 := n13_; have NB511_518 := n14_; have NB518_511 := n15_; clear n0_ n1_ n2_ n3_ n4_ n5_ n6_ n7_ n8_ n9_ n10_ n11_ n12_ n13_ n14_ n15_; clear hb hbox hg; have hnb59 := NB518_486.out; have hnc59 := NB486_518.out; have hnb60 := NB518_492.out; have hnc60 := NB492_518.out; have hnb61 := NB518_497.out; have hnc61 := NB497_518.out; have hnb62 := NB518_511.out; have hnc62 := NB511_518.out; obtain ⟨hcz63_0, hcz63_1, hcz63_2, hcz63_3, hcz63_4⟩ := blkC5 (w := w58) BK518.out; obtain ⟨hfz63_0, hfz63_1, hfz63_2, hfz63_3, hfz63_4⟩ := blkF5 BK518.out))
         (try simp only [Act.put, List.setIfInBounds_toArray, List.set_cons_zero, List.set_cons_succ])
         go_cut [4] (fun v4 wc => ∃ (kq : Nat) (x4_45 : Bool), v4 = .bool x4_45 ∧ Aside0 (pylonlaw04_ZoneDays.j3 kq x4_45 = some r) ∧ Aside0 (kq ≤ kj33) ∧ Aside0 (wc.heap[gb486]? = some (.cells #[.int .i64 a0_0, .int .i64 a0_1, .int .i64 a0_2, .int .i64 a0_3, .int .i64 a0_4, .int .i64 a0_5, .int .i64 a0_6, .int .i64 a0_7, .int .i64 a0_8, .int .i64 a0_9] 25 (0, 0))) ∧ Aside0 (wc.heap[gb492]? = some (.cells #[.int .i64 t488, .int .i64 t489, .int .i64 t490] 33 (0, 0))) ∧ Aside0 (wc.heap[gb497]? = some (.cells #[.int .i64 t493, .int .i64 t494, .int .i64 t495] 33 (0, 0))) ∧ Aside0 (wc.heap[gb511]? = some (.cells #[.int .i64 t505, .int .i64 t506, .int .i64 t507, .int .i64 t508, .int .i64 t509] 35 (0, 0))) ∧ Aside0 (wc.heap[gb518]? = some (.cells #[.int .i64 t512, .int .i64 t513, .int .i64 t514, .int .i64 t515, .int .i64 t516] 35 (0, 0))) ∧ Aside0 (Below w.heap.size w wc))
         case first =>
          have H := HC46.out
          clear HC46
          by_cases c64 : t510 = 0
          ·rw [if_pos c64] at H
           have c64b0 : (t510 == 0) = true := beq_iff_eq.mpr c64
           have c64b1 : (t510 != 0) = false := bne_eq_false_iff_eq.mpr c64
           clear c64
           (first | rw [c64b0] | (simp only [i64_w, i32_w]; rw [c64b0]) | skip)
           by_cases c65 : t517 = 0
           ·rw [if_pos c65] at H
            have c65b0 : (t517 == 0) = true := beq_iff_eq.mpr c65
            have c65b1 : (t517 != 0) = false := bne_eq_false_iff_eq.mpr c65
            clear c65
            by_cases c66 : (t505 == t488 && (t506 == t489 && (t507 == t490))) = true
            ·rw [if_pos c66] at H
             have c66b0 : (t505 == t488 && (t506 == t489 && (t507 == t490))) = true := c66
             (try (have c66b1 : decide (t505 = t488 && (t506 == t489 && (t507 == t490))) = true := by simpa using c66))
             (try (have c66b2 : (t505 == t488 && (t506 == t489 && (t507 == t490))) = true := by simpa using c66))
             clear c66
             by_cases c67 : (t512 == t488 && (t513 == t489 && (t514 == t490))) = true
             ·rw [if_pos c67] at H
              have c67b0 : (t512 == t488 && (t513 == t489 && (t514 == t490))) = true := c67
              (try (have c67b1 : decide (t512 = t488 && (t513 == t489 && (t514 == t490))) = true := by simpa using c67))
              (try (have c67b2 : (t512 == t488 && (t513 == t489 && (t514 == t490))) = true := by simpa using c67))
              clear c67
              by_cases c68 : t508 = 0
              ·rw [if_pos c68] at H
               have c68b0 : (t508 == 0) = true := beq_iff_eq.mpr c68
               have c68b1 : (t508 != 0) = false := bne_eq_false_iff_eq.mpr c68
               clear c68
               replace H := Option.bind_eq_some_iff.mp H
               obtain ⟨t519, A690, H⟩ := H
               replace H : (pylonlaw04_ZoneDays.j3 kj33 (t515 == (wrap64 (1439 - t519)))) = some r := H
               have A69 := AX A690
               clear A690
               have H' := AX H
               clear H
               try go_wp2
               have n0_ : Aside0 ((((((w58.setCell ⟨gb518, 0, none⟩ (.int .i64 t512)).setCell ⟨gb518, 1, none⟩ (.int .i64 t513)).setCell ⟨gb518, 2, none⟩ (.int .i64 t514)).setCell ⟨gb518, 3, none⟩ (.int .i64 t515)).setCell ⟨gb518, 4, none⟩ (.int .i64 t516)).heap[gb486]? = some (.cells #[.int .i64 a0_0, .int .i64 a0_1, .int .i64 a0_2, .int .i64 a0_3, .int .i64 a0_4, .int .i64 a0_5, .int .i64 a0_6, .int .i64 a0_7, .int .i64 a0_8, .int .i64 a0_9] 25 (0, 0))) := ⟨by (with_reducible repeat first|refine blk_drewN ?_ _|refine blk_drew ?_|refine blk_alloc ?_ _); refine blk_far ?_ NB486_518.out _; (with_reducible repeat first|refine blk_drewN ?_ _|refine blk_drew ?_|refine blk_alloc ?_ _); refine blk_far ?_ NB486_518.out _; (with_reducible repeat first|refine blk_drewN ?_ _|refine blk_drew ?_|refine blk_alloc ?_ _); refine blk_far ?_ NB486_518.out _; (with_reducible repeat first|refine blk_drewN ?_ _|refine blk_drew ?_|refine blk_alloc ?_ _); refine blk_far ?_ NB486_518.out _; (with_reducible repeat first|refine blk_drewN ?_ _|refine blk_drew ?_|refine blk_alloc ?_ _); refine blk_far ?_ NB486_518.out _; (with_reducible repeat first|refine blk_drewN ?_ _|refine blk_drew ?_|refine blk_alloc ?_ _); exact BK486.out⟩
               have n1_ : Aside0 ((((((w58.setCell ⟨gb518, 0, none⟩ (.int .i64 t512)).setCell ⟨gb518, 1, none⟩ (.int .i64 t513)).setCell ⟨gb518, 2, none⟩ (.int .i64 t514)).setCell ⟨gb518, 3, none⟩ (.int .i64 t515)).setCell ⟨gb518, 4, none⟩ (.int .i64 t516)).heap[gb492]? = some (.cells #[.int .i64 t488, .int .i64 t489, .int .i64 t490] 33 (0, 0))) := ⟨by (with_reducible repeat first|refine blk_drewN ?_ _|refine blk_drew ?_|refine blk_alloc ?_ _); refine blk_far ?_ NB492_518.out _; (with_reducible repeat first|refine blk_drewN ?_ _|refine blk_drew ?_|refine blk_alloc ?_ _); refine blk_far ?_ NB492_518.out _; (with_reducible repeat first|refine blk_drewN ?_ _|refine blk_drew ?_|refine blk_alloc ?_ _); refine blk_far ?_ NB492_518.out _; (with_reducible repeat first|refine blk_drewN ?_ _|refine blk_drew ?_|refine blk_alloc ?_ _); refine blk_far ?_ NB492_518.out _; (with_reducible repeat first|refine blk_drewN ?_ _|refine blk_drew ?_|refine blk_alloc ?_ _); refine blk_far ?_ NB492_518.out _; (with_reducible repeat first|refine blk_drewN ?_ _|refine blk_drew ?_|refine blk_alloc ?_ _); exact BK492.out⟩
               have n2_ : Aside0 ((((((w58.setCell ⟨gb518, 0, none⟩ (.int .i64 t512)).setCell ⟨gb518, 1, none⟩ (.int .i64 t513)).setCell ⟨gb518, 2, none⟩ (.int .i64 t514)).setCell ⟨gb518, 3, none⟩ (.int .i64 t515)).setCell ⟨gb518, 4, none⟩ (.int .i64 t516)).heap[gb497]? = some (.cells #[.int .i64 t493, .int .i64 t494, .int .i64 t495] 33 (0, 0))) := ⟨by (with_reducible repeat first|refine blk_drewN ?_ _|refine blk_drew ?_|refine blk_alloc ?_ _); refine blk_far ?_ NB497_518.out _; (with_reducible repeat first|refine blk_drewN ?_ _|refine blk_drew ?_|refine blk_alloc ?_ _); refine blk_far ?_ NB497_518.out _; (with_reducible repeat first|refine blk_drewN ?_ _|refine blk_drew ?_|refine blk_alloc ?_ _); refine blk_far ?_ NB497_518.out _; (with_reducible repeat first|refine blk_drewN ?_ _|refine blk_drew ?_|refine blk_alloc ?_ _); refine blk_far ?_ NB497_518.out _; (with_reducible repeat first|refine blk_drewN ?_ _|refine blk_drew ?_|refine blk_alloc ?_ _); refine blk_far ?_ NB497_518.out _; (with_reducible repeat first|refine blk_drewN ?_ _|refine blk_drew ?_|refine blk_alloc ?_ _); exact BK497.out⟩
               have n3_ : Aside0 ((((((w58.setCell ⟨gb518, 0, none⟩ (.int .i64 t512)).setCell ⟨gb518, 1, none⟩ (.int .i64 t513)).setCell ⟨gb518, 2, none⟩ (.int .i64 t514)).setCell ⟨gb518, 3, none⟩ (.int .i64 t515)).setCell ⟨gb518, 4, none⟩ (.int .i64 t516)).heap[gb511]? = some (.cells #[.int .i64 t505, .int .i64 t506, .int .i64 t507, .int .i64 t508, .int .i64 t509] 35 (0, 0))) := ⟨by (with_reducible repeat first|refine blk_drewN ?_ _|refine blk_drew ?_|refine blk_alloc ?_ _); refine blk_far ?_ NB511_518.out _; (with_reducible repeat first|refine blk_drewN ?_ _|refine blk_drew ?_|refine blk_alloc ?_ _); refine blk_far ?_ NB511_518.out _; (with_reducible repeat first|refine blk_drewN ?_ _|refine blk_drew ?_|refine blk_alloc ?_ _); refine blk_far ?_ NB511_518.out _; (with_reducible repeat first|refine blk_drewN ?_ _|refine blk_drew ?_|refine blk_alloc ?_ _); refine blk_far ?_ NB511_518.out _; (with_reducible repeat first|refine blk_drewN ?_ _|refine blk_drew ?_|refine blk_alloc ?_ _); refine blk_far ?_ NB511_518.out _; (with_reducible repeat first|refine blk_drewN ?_ _|refine blk_drew ?_|refine blk_alloc ?_ _); exact BK511.out⟩
               have n4_ : Aside0 ((((((w58.setCell ⟨gb518, 0, none⟩ (.int .i64 t512)).setCell ⟨gb518, 1, none⟩ (.int .i64 t513)).setCell ⟨gb518, 2, none⟩ (.int .i64 t514)).setCell ⟨gb518, 3, none⟩ (.int .i64 t515)).setCell ⟨gb518, 4, none⟩ (.int .i64 t516)).heap[gb518]? = some (.cells #[.int .i64 t512, .int .i64 t513, .int .i64 t514, .int .i64 t515, .int .i64 t516] 35 (0, 0))) := ⟨by (with_reducible repeat first|refine blk_drewN ?_ _|refine blk_drew ?_|refine blk_alloc ?_ _); refine blk_put (cs := #[.int .i64 t512, .int .i64 t513, .int .i64 t514, .int .i64 t515, .int .i64 0]) ?_ 4 _ rfl; (with_reducible repeat first|refine blk_drewN ?_ _|refine blk_drew ?_|refine blk_alloc ?_ _); refine blk_put (cs := #[.int .i64 t512, .int .i64 t513, .int .i64 t514, .int .i64 0, .int .i64 0]) ?_ 3 _ rfl; (with_reducible repeat first|refine blk_drewN ?_ _|refine blk_drew ?_|refine blk_alloc ?_ _); refine blk_put (cs := #[.int .i64 t512, .int .i64 t513, .int .i64 0, .int .i64 0, .int .i64 0]) ?_ 2 _ rfl; (with_reducible repeat first|refine blk_drewN ?_ _|refine blk_drew ?_|refine blk_alloc ?_ _); refine blk_put (cs := #[.int .i64 t512, .int .i64 0, .int .i64 0, .int .i64 0, .int .i64 0]) ?_ 1 _ rfl; (with_reducible repeat first|refine blk_drewN ?_ _|refine blk_drew ?_|refine blk_alloc ?_ _); refine blk_put (cs := #[.int .i64 0, .int .i64 0, .int .i64 0, .int .i64 0, .int .i64 0]) ?_ 0 _ rfl; (with_reducible repeat first|refine blk_drewN ?_ _|refine blk_drew ?_|refine blk_alloc ?_ _); exact BK518.out⟩
               have n5_ : Aside0 (Below w.heap.size w (((((w58.setCell ⟨gb518, 0, none⟩ (.int .i64 t512)).setCell ⟨gb518, 1, none⟩ (.int .i64 t513)).setCell ⟨gb518, 2, none⟩ (.int .i64 t514)).setCell ⟨gb518, 3, none⟩ (.int .i64 t515)).setCell ⟨gb518, 4, none⟩ (.int .i64 t516))) := ⟨bw⟩
               (try clear BK486)
               (try clear BK492)
               (try clear BK497)
               (try clear BK511)
               (try clear BK518)
               (try clear HB)
               generalize (((((w58.setCell ⟨gb518, 0, none⟩ (.int .i64 t512)).setCell ⟨gb518, 1, none⟩ (.int .i64 t513)).setCell ⟨gb518, 2, none⟩ (.int .i64 t514)).setCell ⟨gb518, 3, none⟩ (.int .i64 t515)).setCell ⟨gb518, 4, none⟩ (.int .i64 t516)) = w70 at n0_ n1_ n2_ n3_ n4_ n5_ ⊢
               have BK486 := n0_
               have BK492 := n1_
               have BK497 := n2_
               have BK511 := n3_
               have BK518 := n4_
               have HB := n5_
               clear n0_ n1_ n2_ n3_ n4_ n5_
               have n0_ := AX (blk_drew BK486.out)
               have n1_ := AX (blk_drew BK492.out)
               have n2_ := AX (blk_drew BK497.out)
               have n3_ := AX (blk_drew BK511.out)
               have n4_ := AX (blk_drew BK518.out)
               have n5_ := AX (below_drew1 HB.out)
               clear BK486
               clear BK492
               clear BK497
               clear BK511
               clear BK518
               clear HB
               have BK486 := n0_
               have BK492 := n1_
               have BK497 := n2_
               have BK511 := n3_
               have BK518 := n4_
               have HB := n5_
               clear n0_ n1_ n2_ n3_ n4_ n5_
               refine start_ (n := 33) (S := fun w' => w'.cell? ⟨gb511, 0, none⟩ = some (.int .i64 t505) ∧ w'.cell? ⟨gb511, 1, none⟩ = some (.int .i64 t506) ∧ w'.cell? ⟨gb511, 2, none⟩ = some (.int .i64 t507) ∧ w'.cell? ⟨gb511, 3, none⟩ = some (.int .i64 t508) ∧ w'.cell? ⟨gb511, 4, none⟩ = some (.int .i64 t509) ∧ w'.cell? ⟨gb492, 0, none⟩ = some (.int .i64 t488) ∧ w'.cell? ⟨gb492, 1, none⟩ = some (.int .i64 t489) ∧ w'.cell? ⟨gb492, 2, none⟩ = some (.int .i64 t490) ∧ w'.cell? ⟨gb518, 0, none⟩ = some (.int .i64 t512) ∧ w'.cell? ⟨gb518, 1, none⟩ = some (.int .i64 t513) ∧ w'.cell? ⟨gb518, 2, none⟩ = some (.int .i64 t514) ∧ w'.cell? ⟨gb518, 3, none⟩ = some (.int .i64 t515) ∧ w'.cell? ⟨gb518, 4, none⟩ = some (.int .i64 t516) ∧ w'.cell? ⟨gb486, 0, none⟩ = some (.int .i64 a0_0) ∧ w'.cell? ⟨gb486, 1, none⟩ = some (.int .i64 a0_1) ∧ w'.cell? ⟨gb486, 2, none⟩ = some (.int .i64 a0_2) ∧ w'.cell? ⟨gb486, 3, none⟩ = some (.int .i64 a0_3) ∧ w'.cell? ⟨gb486, 4, none⟩ = some (.int .i64 a0_4) ∧ w'.cell? ⟨gb486, 5, none⟩ = some (.int .i64 a0_5) ∧ w'.cell? ⟨gb486, 6, none⟩ = some (.int .i64 a0_6) ∧ w'.cell? ⟨gb486, 7, none⟩ = some (.int .i64 a0_7) ∧ w'.cell? ⟨gb486, 8, none⟩ = some (.int .i64 a0_8) ∧ w'.cell? ⟨gb486, 9, none⟩ = some (.int .i64 a0_9)) (ds := []) #[false, false, false, false, false, false, false, false, false, false, false, false, false, false, false, false, false, false, false, false, false, false, false, false, false, false, false, false, false, false, false, false, false] (by kernel_rfl) rfl rfl ⟨(blk_cell BK511.out 0).trans rfl, (blk_cell BK511.out 1).trans rfl, (blk_cell BK511.out 2).trans rfl, (blk_cell BK511.out 3).trans rfl, (blk_cell BK511.out 4).trans rfl, (blk_cell BK492.out 0).trans rfl, (blk_cell BK492.out 1).trans rfl, (blk_cell BK492.out 2).trans rfl, (blk_cell BK518.out 0).trans rfl, (blk_cell BK518.out 1).trans rfl, (blk_cell BK518.out 2).trans rfl, (blk_cell BK518.out 3).trans rfl, (blk_cell BK518.out 4).trans rfl, (blk_cell BK486.out 0).trans rfl, (blk_cell BK486.out 1).trans rfl, (blk_cell BK486.out 2).trans rfl, (blk_cell BK486.out 3).trans rfl, (blk_cell BK486.out 4).trans rfl, (blk_cell BK486.out 5).trans rfl, (blk_cell BK486.out 6).trans rfl, (blk_cell BK486.out 7).trans rfl, (blk_cell BK486.out 8).trans rfl, (blk_cell BK486.out 9).trans rfl⟩ (fun hHeld => ?_); refine with_tabW pylonlaw04_ZoneDays.tab16 pylonlaw04_ZoneDays.bits16 (fun HT_ HW_ => ?_)
               generalize w70.drew = w71 at BK486 BK492 BK497 BK511 BK518 HB hHeld ⊢
               refine pure_ (i := 0) (N := some 111) (v := ?_) (a' := ?_) #[true, false, false, false, false, false, false, false, false, false, false, false, false, false, false, false, false, false, false, false, false, false, false, false, false, false, false, false, false, false, false, false, false] rfl rfl (any_of HT_.out (by kernel_rfl)) (fun _ _ _ h => h) (Or.inl ⟨by rfl, ?_⟩) ?_ ?_
               rotate_left
               ·intro w'
                go_simp
                with_reducible rfl
               rotate_left
               ·simp only [Act.put, List.setIfInBounds_toArray, List.set_cons_zero, List.set_cons_succ, i64_w, i32_w]
                rfl
               refine pure_ (i := 1) (N := some 112) (v := ?_) (a' := ?_) #[true, true, false, false, false, false, false, false, false, false, false, false, false, false, false, false, false, false, false, false, false, false, false, false, false, false, false, false, false, false, false, false, false] rfl rfl (any_of HT_.out (by kernel_rfl)) (fun _ _ _ h => h) (Or.inl ⟨by rfl, ?_⟩) ?_ ?_
               rotate_left
               ·intro w'
                go_simp
                with_reducible rfl
               rotate_left
               ·simp only [Act.put, List.setIfInBounds_toArray, List.set_cons_zero, List.set_cons_succ, i64_w, i32_w]
                rfl
               refine pure_ (i := 2) (N := some 113) (v := ?_) (a' := ?_) #[true, true, true, false, false, false, false, false, false, false, false, false, false, false, false, false, false, false, false, false, false, false, false, false, false, false, false, false, false, false, false, false, false] rfl rfl (any_of HT_.out (by kernel_rfl)) (fun _ _ _ h => h) (Or.inl ⟨by rfl, ?_⟩) ?_ ?_
               rotate_left
               ·intro w'
                go_simp
                with_reducible rfl
               rotate_left
               ·simp only [Act.put, List.setIfInBounds_toArray, List.set_cons_zero, List.set_cons_succ, i64_w, i32_w]
                rfl
               refine pure_ (i := 3) (N := some 114) (v := ?_) (a' := ?_) #[true, true, true, true, false, false, false, false, false, false, false, false, false, false, false, false, false, false, false, false, false, false, false, false, false, false, false, false, false, false, false, false, false] rfl rfl (any_of HT_.out (by kernel_rfl)) (fun _ _ _ h => h) (Or.inl ⟨by rfl, ?_⟩) ?_ ?_
               rotate_left
               ·intro w'
                go_simp
                with_reducible rfl
               rotate_left
               ·simp only [Act.put, List.setIfInBounds_toArray, List.set_cons_zero, List.set_cons_succ, i64_w, i32_w]
                rfl
               refine pure_ (i := 4) (N := some 115) (v := ?_) (a' := ?_) #[true, true, true, true, true, false, false, false, false, false, false, false, false, false, false, false, false, false, false, false, false, false, false, false, false, false, false, false, false, false, false, false, false] rfl rfl (any_of HT_.out (by kernel_rfl)) (fun _ _ _ h => h) (Or.inl ⟨by rfl, ?_⟩) ?_ ?_
               rotate_left
               ·intro w'
                go_simp
                with_reducible rfl
               rotate_left
               ·simp only [Act.put, List.setIfInBounds_toArray, List.set_cons_zero, List.set_cons_succ, i64_w, i32_w]
                rfl
               refine pure_ (i := 5) (N := some 116) (v := ?_) (a' := ?_) #[true, true, true, true, true, true, false, false, false, false, false, false, false, false, false, false, false, false, false, false, false, false, false, false, false, false, false, false, false, false, false, false, false] rfl rfl (any_of HT_.out (by kernel_rfl)) (fun _ _ _ h => h) (Or.inl ⟨by rfl, ?_⟩) ?_ ?_
               rotate_left
               ·intro w'
                go_simp
                with_reducible rfl
               rotate_left
               ·simp only [Act.put, List.setIfInBounds_toArray, List.set_cons_zero, List.set_cons_succ, i64_w, i32_w]
                rfl
               refine pure_ (i := 6) (N := some 117) (v := ?_) (a' := ?_) #[true, true, true, true, true, true, true, false, false, false, false, false, false, false, false, false, false, false, false, false, false, false, false, false, false, false, false, false, false, false, false, false, false] rfl rfl (any_of HT_.out (by kernel_rfl)) (fun _ _ _ h => h) (Or.inl ⟨by rfl, ?_⟩) ?_ ?_
               rotate_left
               ·intro w'
                go_simp
                with_reducible rfl
               rotate_left
               ·simp only [Act.put, List.setIfInBounds_toArray, List.set_cons_zero, List.set_cons_succ, i64_w, i32_w]
                rfl
               refine pure_ (i := 7) (N := some 118) (v := ?_) (a' := ?_) #[true, true, true, true, true, true, true, true, false, false, false, false, false, false, false, false, false, false, false, false, false, false, false, false, false, false, false, false, false, false, false, false, false] rfl rfl (any_of HT_.out (by kernel_rfl)) (fun _ _ _ h => h) (Or.inl ⟨by rfl, ?_⟩) ?_ ?_
               rotate_left
               ·intro w'
                go_simp
                with_reducible rfl
               rotate_left
               ·simp only [Act.put, List.setIfInBounds_toArray, List.set_cons_zero, List.set_cons_succ, i64_w, i32_w]
                rfl
               refine take_ (i := 8) (N := some 119) (v := ?_) (a' := ?_) #[true, true, true, true, true, true, true, true, true, false, false, false, false, false, false, false, false, false, false, false, false, false, false, false, false, false, false, false, false, false, false, false, false] rfl rfl (take_ofW HT_.out HW_.out (by kernel_rfl)) (fun _ _ _ h => h) (Or.inl ⟨by rfl, ?_⟩) hHeld ?_ ?_
               rotate_left
               ·rintro w' ⟨s0, s1, s2, s3, s4, s5, s6, s7, s8, s9, s10, s11, s12, s13, s14, s15, s16, s17, s18, s19, s20, s21, s22⟩
                go_simp
                with_reducible rfl
               rotate_left
               ·simp only [Act.put, List.setIfInBounds_toArray, List.set_cons_zero, List.set_cons_succ, i64_w, i32_w]
                rfl
               refine take_ (i := 9) (N := some 120) (v := ?_) (a' := ?_) #[true, true, true, true, true, true, true, true, true, true, false, false, false, false, false, false, false, false, false, false, false, false, false, false, false, false, false, false, false, false, false, false, false] rfl rfl (take_ofW HT_.out HW_.out (by kernel_rfl)) (fun _ _ _ h => h) (Or.inl ⟨by rfl, ?_⟩) hHeld ?_ ?_
               rotate_left
               ·rintro w' ⟨s0, s1, s2, s3, s4, s5, s6, s7, s8, s9, s10, s11, s12, s13, s14, s15, s16, s17, s18, s19, s20, s21, s22⟩
                go_simp
                with_reducible rfl
               rotate_left
               ·simp only [Act.put, List.setIfInBounds_toArray, List.set_cons_zero, List.set_cons_succ, i64_w, i32_w]
                rfl
               refine pure_ (i := 10) (N := some 121) (v := ?_) (a' := ?_) #[true, true, true, true, true, true, true, true, true, true, true, false, false, false, false, false, false, false, false, false, false, false, false, false, false, false, false, false, false, false, false, false, false] rfl rfl (any_of HT_.out (by kernel_rfl)) (fun _ _ _ h => h) (Or.inl ⟨by rfl, ?_⟩) ?_ ?_
               rotate_left
               ·intro w'
                go_simp
                with_reducible rfl
               rotate_left
               ·simp only [Act.put, List.setIfInBounds_toArray, List.set_cons_zero, List.set_cons_succ, i64_w, i32_w]
                rfl
               refine pure_ (i := 11) (N := some 122) (v := ?_) (a' := ?_) #[true, true, true, true, true, true, true, true, true, true, true, true, false, false, false, false, false, false, false, false, false, false, false, false, false, false, false, false, false, false, false, false, false] rfl rfl (any_of HT_.out (by kernel_rfl)) (fun _ _ _ h => h) (Or.inl ⟨by rfl, ?_⟩) ?_ ?_
               rotate_left
               ·intro w'
                go_simp
                with_reducible rfl
               rotate_left
               ·simp only [Act.put, List.setIfInBounds_toArray, List.set_cons_zero, List.set_cons_succ, i64_w, i32_w]
                rfl
               refine pure_ (i := 12) (N := some 123) (v := ?_) (a' := ?_) #[true, true, true, true, true, true, true, true, true, true, true, true, true, false, false, false, false, false, false, false, false, false, false, false, false, false, false, false, false, false, false, false, false] rfl rfl (any_of HT_.out (by kernel_rfl)) (fun _ _ _ h => h) (Or.inl ⟨by rfl, ?_⟩) ?_ ?_
               rotate_left
               ·intro w'
                go_simp
                with_reducible rfl
               rotate_left
               ·simp only [Act.put, List.setIfInBounds_toArray, List.set_cons_zero, List.set_cons_succ, i64_w, i32_w]
                rfl
               refine pure_ (i := 13) (N := some 124) (v := ?_) (a' := ?_) #[true, true, true, true, true, true, true, true, true, true, true, true, true, true, false, false, false, false, false, false, false, false, false, false, false, false, false, false, false, false, false, false, false] rfl rfl (any_of HT_.out (by kernel_rfl)) (fun _ _ _ h => h) (Or.inl ⟨by rfl, ?_⟩) ?_ ?_
               rotate_left
               ·intro w'
                go_simp
                with_reducible rfl
               rotate_left
               ·simp only [Act.put, List.setIfInBounds_toArray, List.set_cons_zero, List.set_cons_succ, i64_w, i32_w]
                rfl
               refine take_ (i := 14) (N := some 125) (v := ?_) (a' := ?_) #[true, true, true, true, true, true, true, true, true, true, true, true, true, true, true, false, false, false, false, false, false, false, false, false, false, false, false, false, false, false, false, false, false] rfl rfl (take_ofW HT_.out HW_.out (by kernel_rfl)) (fun _ _ _ h => h) (Or.inl ⟨by rfl, ?_⟩) hHeld ?_ ?_
               rotate_left
               ·rintro w' ⟨s0, s1, s2, s3, s4, s5, s6, s7, s8, s9, s10, s11, s12, s13, s14, s15, s16, s17, s18, s19, s20, s21, s22⟩
                go_simp
                with_reducible rfl
               rotate_left
               ·simp only [Act.put, List.setIfInBounds_toArray, List.set_cons_zero, List.set_cons_succ, i64_w, i32_w]
                rfl
               refine take_ (i := 15) (N := some 126) (v := ?_) (a' := ?_) #[true, true, true, true, true, true, true, true, true, true, true, true, true, true, true, true, false, false, false, false, false, false, false, false, false, false, false, false, false, false, false, false, false] rfl rfl (take_ofW HT_.out HW_.out (by kernel_rfl)) (fun _ _ _ h => h) (Or.inl ⟨by rfl, ?_⟩) hHeld ?_ ?_
               rotate_left
               ·rintro w' ⟨s0, s1, s2, s3, s4, s5, s6, s7, s8, s9, s10, s11, s12, s13, s14, s15, s16, s17, s18, s19, s20, s21, s22⟩
                go_simp
                with_reducible rfl
               rotate_left
               ·simp only [Act.put, List.setIfInBounds_toArray, List.set_cons_zero, List.set_cons_succ, i64_w, i32_w]
                rfl
               refine pure_ (i := 16) (N := some 127) (v := ?_) (a' := ?_) #[true, true, true, true, true, true, true, true, true, true, true, true, true, true, true, true, true, false, false, false, false, false, false, false, false, false, false, false, false, false, false, false, false] rfl rfl (any_of HT_.out (by kernel_rfl)) (fun _ _ _ h => h) (Or.inl ⟨by rfl, ?_⟩) ?_ ?_
               rotate_left
               ·intro w'
                go_simp
                with_reducible rfl
               rotate_left
               ·simp only [Act.put, List.setIfInBounds_toArray, List.set_cons_zero, List.set_cons_succ, i64_w, i32_w]
                rfl
               refine pure_ (i := 17) (N := some 128) (v := ?_) (a' := ?_) #[true, true, true, true, true, true, true, true, true, true, true, true, true, true, true, true, true, true, false, false, false, false, false, false, false, false, false, false, false, false, false, false, false] rfl rfl (any_of HT_.out (by kernel_rfl)) (fun _ _ _ h => h) (Or.inl ⟨by rfl, ?_⟩) ?_ ?_
               rotate_left
               ·intro w'
                go_simp
                with_reducible rfl
               rotate_left
               ·simp only [Act.put, List.setIfInBounds_toArray, List.set_cons_zero, List.set_cons_succ, i64_w, i32_w]
                rfl
               refine pure_ (i := 18) (N := some 129) (v := ?_) (a' := ?_) #[true, true, true, true, true, true, true, true, true, true, true, true, true, true, true, true, true, true, true, false, false, false, false, false, false, false, false, false, false, false, false, false, false] rfl rfl (any_of HT_.out (by kernel_rfl)) (fun _ _ _ h => h) (Or.inl ⟨by rfl, ?_⟩) ?_ ?_
               rotate_left
               ·intro w'
                go_simp
                with_reducible rfl
               rotate_left
               ·simp only [Act.put, List.setIfInBounds_toArray, List.set_cons_zero, List.set_cons_succ, i64_w, i32_w]
                rfl
               refine pure_ (i := 19) (N := some 130) (v := ?_) (a' := ?_) #[true, true, true, true, true, true, true, true, true, true, true, true, true, true, true, true, true, true, true, true, false, false, false, false, false, false, false, false, false, false, false, false, false] rfl rfl (any_of HT_.out (by kernel_rfl)) (fun _ _ _ h => h) (Or.inl ⟨by rfl, ?_⟩) ?_ ?_
               rotate_left
               ·intro w'
                go_simp
                with_reducible rfl
               rotate_left
               ·simp only [Act.put, List.setIfInBounds_toArray, List.set_cons_zero, List.set_cons_succ, i64_w, i32_w]
                rfl
               refine take_ (i := 20) (N := some 131) (v := ?_) (a' := ?_) #[true, true, true, true, true, true, true, true, true, true, true, true, true, true, true, true, true, true, true, true, true, false, false, false, false, false, false, false, false, false, false, false, false] rfl rfl (take_ofW HT_.out HW_.out (by kernel_rfl)) (fun _ _ _ h => h) (Or.inl ⟨by rfl, ?_⟩) hHeld ?_ ?_
               rotate_left
               ·rintro w' ⟨s0, s1, s2, s3, s4, s5, s6, s7, s8, s9, s10, s11, s12, s13, s14, s15, s16, s17, s18, s19, s20, s21, s22⟩
                go_simp
                with_reducible rfl
               rotate_left
               ·simp only [Act.put, List.setIfInBounds_toArray, List.set_cons_zero, List.set_cons_succ, i64_w, i32_w]
                rfl
               refine pure_ (i := 21) (N := some 132) (v := ?_) (a' := ?_) #[true, true, true, true, true, true, true, true, true, true, true, true, true, true, true, true, true, true, true, true, true, true, false, false, false, false, false, false, false, false, false, false, false] rfl rfl (any_of HT_.out (by kernel_rfl)) (fun _ _ _ h => h) (Or.inl ⟨by rfl, ?_⟩) ?_ ?_
               rotate_left
               ·intro w'
                go_simp
                with_reducible rfl
               rotate_left
               ·simp only [Act.put, List.setIfInBounds_toArray, List.set_cons_zero, List.set_cons_succ, i64_w, i32_w]
                rfl
               refine pure_ (i := 22) (N := some 133) (v := ?_) (a' := ?_) #[true, true, true, true, true, true, true, true, true, true, true, true, true, true, true, true, true, true, true, true, true, true, true, false, false, false, false, false, false, false, false, false, false] rfl rfl (any_of HT_.out (by kernel_rfl)) (fun _ _ _ h => h) (Or.inl ⟨by rfl, ?_⟩) ?_ ?_
               rotate_left
               ·intro w'
                go_simp
                with_reducible rfl
               rotate_left
               ·simp only [Act.put, List.setIfInBounds_toArray, List.set_cons_zero, List.set_cons_succ, i64_w, i32_w]
                rfl
               refine pure_ (i := 23) (N := some 134) (v := ?_) (a' := ?_) #[true, true, true, true, true, true, true, true, true, true, true, true, true, true, true, true, true, true, true, true, true, true, true, true, false, false, false, false, false, false, false, false, false] rfl rfl (any_of HT_.out (by kernel_rfl)) (fun _ _ _ h => h) (Or.inl ⟨by rfl, ?_⟩) ?_ ?_
               rotate_left
               ·intro w'
                go_simp
                with_reducible rfl
               rotate_left
               ·simp only [Act.put, List.setIfInBounds_toArray, List.set_cons_zero, List.set_cons_succ, i64_w, i32_w]
                rfl
               refine pure_ (i := 24) (N := some 135) (v := ?_) (a' := ?_) #[true, true, true, true, true, true, true, true, true, true, true, true, true, true, true, true, true, true, true, true, true, true, true, true, true, false, false, false, false, false, false, false, false] rfl rfl (any_of HT_.out (by kernel_rfl)) (fun _ _ _ h => h) (Or.inl ⟨by rfl, ?_⟩) ?_ ?_
               rotate_left
               ·intro w'
                go_simp
                with_reducible rfl
               rotate_left
               ·simp only [Act.put, List.setIfInBounds_toArray, List.set_cons_zero, List.set_cons_succ, i64_w, i32_w]
                rfl
               refine take_ (i := 25) (N := some 136) (v := ?_) (a' := ?_) #[true, true, true, true, true, true, true, true, true, true, true, true, true, true, true, true, true, true, true, true, true, true, true, true, true, true, false, false, false, false, false, false, false] rfl rfl (take_ofW HT_.out HW_.out (by kernel_rfl)) (fun _ _ _ h => h) (Or.inl ⟨by rfl, ?_⟩) hHeld ?_ ?_
               rotate_left
               ·rintro w' ⟨s0, s1, s2, s3, s4, s5, s6, s7, s8, s9, s10, s11, s12, s13, s14, s15, s16, s17, s18, s19, s20, s21, s22⟩
                go_simp
                with_reducible rfl
               rotate_left
               ·simp only [Act.put, List.setIfInBounds_toArray, List.set_cons_zero, List.set_cons_succ, i64_w, i32_w]
                rfl
               refine take_ (i := 26) (N := some 137) (v := ?_) (a' := ?_) #[true, true, true, true, true, true, true, true, true, true, true, true, true, true, true, true, true, true, true, true, true, true, true, true, true, true, true, false, false, false, false, false, false] rfl rfl (take_ofW HT_.out HW_.out (by kernel_rfl)) (fun _ _ _ h => h) (Or.inl ⟨by rfl, ?_⟩) hHeld ?_ ?_
               rotate_left
               ·rintro w' ⟨s0, s1, s2, s3, s4, s5, s6, s7, s8, s9, s10, s11, s12, s13, s14, s15, s16, s17, s18, s19, s20, s21, s22⟩
                go_simp
                with_reducible rfl
               rotate_left
               ·simp only [Act.put, List.setIfInBounds_toArray, List.set_cons_zero, List.set_cons_succ, i64_w, i32_w]
                rfl
               refine take_ (i := 27) (N := some 138) (v := ?_) (a' := ?_) #[true, true, true, true, true, true, true, true, true, true, true, true, true, true, true, true, true, true, true, true, true, true, true, true, true, true, true, true, false, false, false, false, false] rfl rfl (take_ofW HT_.out HW_.out (by kernel_rfl)) (fun _ _ _ h => h) (Or.inl ⟨by rfl, ?_⟩) hHeld ?_ ?_
               rotate_left
               ·rintro w' ⟨s0, s1, s2, s3, s4, s5, s6, s7, s8, s9, s10, s11, s12, s13, s14, s15, s16, s17, s18, s19, s20, s21, s22⟩
                go_simp
                with_reducible rfl
               rotate_left
               ·simp only [Act.put, List.setIfInBounds_toArray, List.set_cons_zero, List.set_cons_succ, i64_w, i32_w]
                rfl
               refine one_ (i := 28) (N := some 139) #[true, true, true, true, true, true, true, true, true, true, true, true, true, true, true, true, true, true, true, true, true, true, true, true, true, true, true, true, true, false, false, false, false] rfl rfl (one_of HT_.out (by kernel_rfl)) (by decide) (fun K hK => ?_)
               refine goes_ Try.func28 (by kernel_rfl) rfl #[.agg #[.int .i64 a0_0, .int .i64 a0_1, .int .i64 a0_2, .int .i64 a0_3, .int .i64 a0_4, .int .i64 a0_5, .int .i64 a0_6, .int .i64 a0_7, .int .i64 a0_8, .int .i64 a0_9], .agg #[.int .i64 t488, .int .i64 t489, .int .i64 t490]] (by rfl) rfl rfl (by (try simp only [List.map_toArray, List.map_cons, List.map_nil]); first | done | rfl | (simp only [List.length_drop, List.length_take]; rfl)) ?_
               with_reducible refine (pylonlaw04_minutes.calls kj33 a0_0 a0_1 a0_2 a0_3 a0_4 a0_5 a0_6 a0_7 a0_8 a0_9 t488 t489 t490 t519 _ A69.out).mono ?_
               rintro e w72 ⟨rfl, hb⟩
               refine ⟨_, rfl, ?_⟩
               have n0_ := AX (bkb BK486 hb)
               have n1_ := AX (bkb BK492 hb)
               have n2_ := AX (bkb BK497 hb)
               have n3_ := AX (bkb BK511 hb)
               have n4_ := AX (bkb BK518 hb)
               have n5_ := AX (below_step bw hb)
               clear BK486
               clear BK492
               clear BK497
               clear BK511
               clear BK518
               clear HB
               have BK486 := n0_
               have BK492 := n1_
               have BK497 := n2_
               have BK511 := n3_
               have BK518 := n4_
               have HB := n5_
               clear n0_ n1_ n2_ n3_ n4_ n5_
               (try clear hb)
               (try clear hb2)
               (try clear hk)
               (try clear hi)
               refine hK.out _ _ ⟨(blk_cell BK511.out 0).trans rfl, (blk_cell BK511.out 1).trans rfl, (blk_cell BK511.out 2).trans rfl, (blk_cell BK511.out 3).trans rfl, (blk_cell BK511.out 4).trans rfl, (blk_cell BK492.out 0).trans rfl, (blk_cell BK492.out 1).trans rfl, (blk_cell BK492.out 2).trans rfl, (blk_cell BK518.out 0).trans rfl, (blk_cell BK518.out 1).trans rfl, (blk_cell BK518.out 2).trans rfl, (blk_cell BK518.out 3).trans rfl, (blk_cell BK518.out 4).trans rfl, (blk_cell BK486.out 0).trans rfl, (blk_cell BK486.out 1).trans rfl, (blk_cell BK486.out 2).trans rfl, (blk_cell BK486.out 3).trans rfl, (blk_cell BK486.out 4).trans rfl, (blk_cell BK486.out 5).trans rfl, (blk_cell BK486.out 6).trans rfl, (blk_cell BK486.out 7).trans rfl, (blk_cell BK486.out 8).trans rfl, (blk_cell BK486.out 9).trans rfl⟩ (fun hHeld => ?_)
               clear hK K
               refine norm_ (a' := ?_) ?_ ?_
               rotate_left
               ·show Act.put _ (some 139) _ = _
                simp only [Act.put, List.setIfInBounds_toArray, List.set_cons_zero, List.set_cons_succ, i64_w, i32_w]
                rfl
               refine pure_ (i := 29) (N := some 140) (v := ?_) (a' := ?_) #[true, true, true, true, true, true, true, true, true, true, true, true, true, true, true, true, true, true, true, true, true, true, true, true, true, true, true, true, true, true, false, false, false] rfl rfl (any_of HT_.out (by kernel_rfl)) (fun _ _ _ h => h) (Or.inl ⟨by rfl, ?_⟩) ?_ ?_
               rotate_left
               ·intro w'
                go_simp
                with_reducible rfl
               rotate_left
               ·simp only [Act.put, List.setIfInBounds_toArray, List.set_cons_zero, List.set_cons_succ, i64_w, i32_w]
                rfl
               refine pure_ (i := 30) (N := some 141) (v := ?_) (a' := ?_) #[true, true, true, true, true, true, true, true, true, true, true, true, true, true, true, true, true, true, true, true, true, true, true, true, true, true, true, true, true, true, true, false, false] rfl rfl (any_of HT_.out (by kernel_rfl)) (fun _ _ _ h => h) (Or.inl ⟨by rfl, ?_⟩) ?_ ?_
               rotate_left
               ·intro w'
                go_simp
                with_reducible rfl
               rotate_left
               ·simp only [Act.put, List.setIfInBounds_toArray, List.set_cons_zero, List.set_cons_succ, i64_w, i32_w]
                rfl
               refine pure_ (i := 31) (N := some 142) (v := ?_) (a' := ?_) #[true, true, true, true, true, true, true, true, true, true, true, true, true, true, true, true, true, true, true, true, true, true, true, true, true, true, true, true, true, true, true, true, false] rfl rfl (any_of HT_.out (by kernel_rfl)) (fun _ _ _ h => h) (Or.inl ⟨by rfl, ?_⟩) ?_ ?_
               rotate_left
               ·intro w'
                go_simp
                with_reducible rfl
               rotate_left
               ·simp only [Act.put, List.setIfInBounds_toArray, List.set_cons_zero, List.set_cons_succ, i64_w, i32_w]
                rfl
               refine pure_ (i := 32) (N := some 4) (v := ?_) (a' := ?_) #[true, true, true, true, true, true, true, true, true, true, true, true, true, true, true, true, true, true, true, true, true, true, true, true, true, true, true, true, true, true, true, true, true] rfl rfl (any_of HT_.out (by kernel_rfl)) (fun _ _ _ h => h) (Or.inl ⟨by rfl, ?_⟩) ?_ ?_
               rotate_left
               ·intro w'
                go_simp
                with_reducible rfl
               rotate_left
               ·simp only [Act.put, List.setIfInBounds_toArray, List.set_cons_zero, List.set_cons_succ, i64_w, i32_w]
                rfl
               refine done_ (done_of HT_.out (by kernel_rfl)) ?_
               try go_wp2
               go_meet
               case rel => exact ⟨_, ((t515 == (wrap64 (1439 - t519)))), (by first | rfl | (simp; done) | (simp [*]; done)), H', ⟨by have := HJ10.out; have := HJ33.out; first | omega | exact Nat.le_refl _⟩, ⟨bkn BK486⟩, ⟨bkn BK492⟩, ⟨bkn BK497⟩, ⟨bkn BK511⟩, ⟨bkn BK518⟩, ⟨bw⟩⟩
              ·rw [if_neg c68] at H
               have c68b0 : (t508 == 0) = false := beq_eq_false_iff_ne.mpr c68
               have c68b1 : (t508 != 0) = true := bne_iff_ne.mpr c68
               have H' := AX H
               clear H
               try go_wp2
               have n0_ : Aside0 ((((((w58.setCell ⟨gb518, 0, none⟩ (.int .i64 t512)).setCell ⟨gb518, 1, none⟩ (.int .i64 t513)).setCell ⟨gb518, 2, none⟩ (.int .i64 t514)).setCell ⟨gb518, 3, none⟩ (.int .i64 t515)).setCell ⟨gb518, 4, none⟩ (.int .i64 t516)).heap[gb486]? = some (.cells #[.int .i64 a0_0, .int .i64 a0_1, .int .i64 a0_2, .int .i64 a0_3, .int .i64 a0_4, .int .i64 a0_5, .int .i64 a0_6, .int .i64 a0_7, .int .i64 a0_8, .int .i64 a0_9] 25 (0, 0))) := ⟨by (with_reducible repeat first|refine blk_drewN ?_ _|refine blk_drew ?_|refine blk_alloc ?_ _); refine blk_far ?_ NB486_518.out _; (with_reducible repeat first|refine blk_drewN ?_ _|refine blk_drew ?_|refine blk_alloc ?_ _); refine blk_far ?_ NB486_518.out _; (with_reducible repeat first|refine blk_drewN ?_ _|refine blk_drew ?_|refine blk_alloc ?_ _); refine blk_far ?_ NB486_518.out _; (with_reducible repeat first|refine blk_drewN ?_ _|refine blk_drew ?_|refine blk_alloc ?_ _); refine blk_far ?_ NB486_518.out _; (with_reducible repeat first|refine blk_drewN ?_ _|refine blk_drew ?_|refine blk_alloc ?_ _); refine blk_far ?_ NB486_518.out _; (with_reducible repeat first|refine blk_drewN ?_ _|refine blk_drew ?_|refine blk_alloc ?_ _); exact BK486.out⟩
               have n1_ : Aside0 ((((((w58.setCell ⟨gb518, 0, none⟩ (.int .i64 t512)).setCell ⟨gb518, 1, none⟩ (.int .i64 t513)).setCell ⟨gb518, 2, none⟩ (.int .i64 t514)).setCell ⟨gb518, 3, none⟩ (.int .i64 t515)).setCell ⟨gb518, 4, none⟩ (.int .i64 t516)).heap[gb492]? = some (.cells #[.int .i64 t488, .int .i64 t489, .int .i64 t490] 33 (0, 0))) := ⟨by (with_reducible repeat first|refine blk_drewN ?_ _|refine blk_drew ?_|refine blk_alloc ?_ _); refine blk_far ?_ NB492_518.out _; (with_reducible repeat first|refine blk_drewN ?_ _|refine blk_drew ?_|refine blk_alloc ?_ _); refine blk_far ?_ NB492_518.out _; (with_reducible repeat first|refine blk_drewN ?_ _|refine blk_drew ?_|refine blk_alloc ?_ _); refine blk_far ?_ NB492_518.out _; (with_reducible repeat first|refine blk_drewN ?_ _|refine blk_drew ?_|refine blk_alloc ?_ _); refine blk_far ?_ NB492_518.out _; (with_reducible repeat first|refine blk_drewN ?_ _|refine blk_drew ?_|refine blk_alloc ?_ _); refine blk_far ?_ NB492_518.out _; (with_reducible repeat first|refine blk_drewN ?_ _|refine blk_drew ?_|refine blk_alloc ?_ _); exact BK492.out⟩
               have n2_ : Aside0 ((((((w58.setCell ⟨gb518, 0, none⟩ (.int .i64 t512)).setCell ⟨gb518, 1, none⟩ (.int .i64 t513)).setCell ⟨gb518, 2, none⟩ (.int .i64 t514)).setCell ⟨gb518, 3, none⟩ (.int .i64 t515)).setCell ⟨gb518, 4, none⟩ (.int .i64 t516)).heap[gb497]? = some (.cells #[.int .i64 t493, .int .i64 t494, .int .i64 t495] 33 (0, 0))) := ⟨by (with_reducible repeat first|refine blk_drewN ?_ _|refine blk_drew ?_|refine blk_alloc ?_ _); refine blk_far ?_ NB497_518.out _; (with_reducible repeat first|refine blk_drewN ?_ _|refine blk_drew ?_|refine blk_alloc ?_ _); refine blk_far ?_ NB497_518.out _; (with_reducible repeat first|refine blk_drewN ?_ _|refine blk_drew ?_|refine blk_alloc ?_ _); refine blk_far ?_ NB497_518.out _; (with_reducible repeat first|refine blk_drewN ?_ _|refine blk_drew ?_|refine blk_alloc ?_ _); refine blk_far ?_ NB497_518.out _; (with_reducible repeat first|refine blk_drewN ?_ _|refine blk_drew ?_|refine blk_alloc ?_ _); refine blk_far ?_ NB497_518.out _; (with_reducible repeat first|refine blk_drewN ?_ _|refine blk_drew ?_|refine blk_alloc ?_ _); exact BK497.out⟩
               have n3_ : Aside0 ((((((w58.setCell ⟨gb518, 0, none⟩ (.int .i64 t512)).setCell ⟨gb518, 1, none⟩ (.int .i64 t513)).setCell ⟨gb518, 2, none⟩ (.int .i64 t514)).setCell ⟨gb518, 3, none⟩ (.int .i64 t515)).setCell ⟨gb518, 4, none⟩ (.int .i64 t516)).heap[gb511]? = some (.cells #[.int .i64 t505, .int .i64 t506, .int .i64 t507, .int .i64 t508, .int .i64 t509] 35 (0, 0))) := ⟨by (with_reducible repeat first|refine blk_drewN ?_ _|refine blk_drew ?_|refine blk_alloc ?_ _); refine blk_far ?_ NB511_518.out _; (with_reducible repeat first|refine blk_drewN ?_ _|refine blk_drew ?_|refine blk_alloc ?_ _); refine blk_far ?_ NB511_518.out _; (with_reducible repeat first|refine blk_drewN ?_ _|refine blk_drew ?_|refine blk_alloc ?_ _); refine blk_far ?_ NB511_518.out _; (with_reducible repeat first|refine blk_drewN ?_ _|refine blk_drew ?_|refine blk_alloc ?_ _); refine blk_far ?_ NB511_518.out _; (with_reducible repeat first|refine blk_drewN ?_ _|refine blk_drew ?_|refine blk_alloc ?_ _); refine blk_far ?_ NB511_518.out _; (with_reducible repeat first|refine blk_drewN ?_ _|refine blk_drew ?_|refine blk_alloc ?_ _); exact BK511.out⟩
               have n4_ : Aside0 ((((((w58.setCell ⟨gb518, 0, none⟩ (.int .i64 t512)).setCell ⟨gb518, 1, none⟩ (.int .i64 t513)).setCell ⟨gb518, 2, none⟩ (.int .i64 t514)).setCell ⟨gb518, 3, none⟩ (.int .i64 t515)).setCell ⟨gb518, 4, none⟩ (.int .i64 t516)).heap[gb518]? = some (.cells #[.int .i64 t512, .int .i64 t513, .int .i64 t514, .int .i64 t515, .int .i64 t516] 35 (0, 0))) := ⟨by (with_reducible repeat first|refine blk_drewN ?_ _|refine blk_drew ?_|refine blk_alloc ?_ _); refine blk_put (cs := #[.int .i64 t512, .int .i64 t513, .int .i64 t514, .int .i64 t515, .int .i64 0]) ?_ 4 _ rfl; (with_reducible repeat first|refine blk_drewN ?_ _|refine blk_drew ?_|refine blk_alloc ?_ _); refine blk_put (cs := #[.int .i64 t512, .int .i64 t513, .int .i64 t514, .int .i64 0, .int .i64 0]) ?_ 3 _ rfl; (with_reducible repeat first|refine blk_drewN ?_ _|refine blk_drew ?_|refine blk_alloc ?_ _); refine blk_put (cs := #[.int .i64 t512, .int .i64 t513, .int .i64 0, .int .i64 0, .int .i64 0]) ?_ 2 _ rfl; (with_reducible repeat first|refine blk_drewN ?_ _|refine blk_drew ?_|refine blk_alloc ?_ _); refine blk_put (cs := #[.int .i64 t512, .int .i64 0, .int .i64 0, .int .i64 0, .int .i64 0]) ?_ 1 _ rfl; (with_reducible repeat first|refine blk_drewN ?_ _|refine blk_drew ?_|refine blk_alloc ?_ _); refine blk_put (cs := #[.int .i64 0, .int .i64 0, .int .i64 0, .int .i64 0, .int .i64 0]) ?_ 0 _ rfl; (with_reducible repeat first|refine blk_drewN ?_ _|refine blk_drew ?_|refine blk_alloc ?_ _); exact BK518.out⟩
               have n5_ : Aside0 (Below w.heap.size w (((((w58.setCell ⟨gb518, 0, none⟩ (.int .i64 t512)).setCell ⟨gb518, 1, none⟩ (.int .i64 t513)).setCell ⟨gb518, 2, none⟩ (.int .i64 t514)).setCell ⟨gb518, 3, none⟩ (.int .i64 t515)).setCell ⟨gb518, 4, none⟩ (.int .i64 t516))) := ⟨bw⟩
               (try clear BK486)
               (try clear BK492)
               (try clear BK497)
               (try clear BK511)
               (try clear BK518)
               (try clear HB)
               generalize (((((w58.setCell ⟨gb518, 0, none⟩ (.int .i64 t512)).setCell ⟨gb518, 1, none⟩ (.int .i64 t513)).setCell ⟨gb518, 2, none⟩ (.int .i64 t514)).setCell ⟨gb518, 3, none⟩ (.int .i64 t515)).setCell ⟨gb518, 4, none⟩ (.int .i64 t516)) = w73 at n0_ n1_ n2_ n3_ n4_ n5_ ⊢
               have BK486 := n0_
               have BK492 := n1_
               have BK497 := n2_
               have BK511 := n3_
               have BK518 := n4_
               have HB := n5_
               clear n0_ n1_ n2_ n3_ n4_ n5_
               have n0_ := AX (blk_drew BK486.out)
               have n1_ := AX (blk_drew BK492.out)
               have n2_ := AX (blk_drew BK497.out)
               have n3_ := AX (blk_drew BK511.out)
               have n4_ := AX (blk_drew BK518.out)
               have n5_ := AX (below_drew1 HB.out)
               clear BK486
               clear BK492
               clear BK497
               clear BK511
               clear BK518
               clear HB
               have BK486 := n0_
               have BK492 := n1_
               have BK497 := n2_
               have BK511 := n3_
               have BK518 := n4_
               have HB := n5_
               clear n0_ n1_ n2_ n3_ n4_ n5_
               refine start_ (n := 33) (S := fun w' => w'.cell? ⟨gb511, 0, none⟩ = some (.int .i64 t505) ∧ w'.cell? ⟨gb511, 1, none⟩ = some (.int .i64 t506) ∧ w'.cell? ⟨gb511, 2, none⟩ = some (.int .i64 t507) ∧ w'.cell? ⟨gb511, 3, none⟩ = some (.int .i64 t508) ∧ w'.cell? ⟨gb511, 4, none⟩ = some (.int .i64 t509) ∧ w'.cell? ⟨gb492, 0, none⟩ = some (.int .i64 t488) ∧ w'.cell? ⟨gb492, 1, none⟩ = some (.int .i64 t489) ∧ w'.cell? ⟨gb492, 2, none⟩ = some (.int .i64 t490) ∧ w'.cell? ⟨gb518, 0, none⟩ = some (.int .i64 t512) ∧ w'.cell? ⟨gb518, 1, none⟩ = some (.int .i64 t513) ∧ w'.cell? ⟨gb518, 2, none⟩ = some (.int .i64 t514) ∧ w'.cell? ⟨gb518, 3, none⟩ = some (.int .i64 t515) ∧ w'.cell? ⟨gb518, 4, none⟩ = some (.int .i64 t516)) (ds := []) #[false, false, false, false, false, false, false, false, false, false, false, false, false, false, false, false, false, false, false, false, false, false, false, false, false, false, false, false, false, false, false, false, false] (by kernel_rfl) rfl rfl ⟨(blk_cell BK511.out 0).trans rfl, (blk_cell BK511.out 1).trans rfl, (blk_cell BK511.out 2).trans rfl, (blk_cell BK511.out 3).trans rfl, (blk_cell BK511.out 4).trans rfl, (blk_cell BK492.out 0).trans rfl, (blk_cell BK492.out 1).trans rfl, (blk_cell BK492.out 2).trans rfl, (blk_cell BK518.out 0).trans rfl, (blk_cell BK518.out 1).trans rfl, (blk_cell BK518.out 2).trans rfl, (blk_cell BK518.out 3).trans rfl, (blk_cell BK518.out 4).trans rfl⟩ (fun hHeld => ?_); refine with_tabW pylonlaw04_ZoneDays.tab16 pylonlaw04_ZoneDays.bits16 (fun HT_ HW_ => ?_)
               generalize w73.drew = w74 at BK486 BK492 BK497 BK511 BK518 HB hHeld ⊢
               refine pure_ (i := 0) (N := some 111) (v := ?_) (a' := ?_) #[true, false, false, false, false, false, false, false, false, false, false, false, false, false, false, false, false, false, false, false, false, false, false, false, false, false, false, false, false, false, false, false, false] rfl rfl (any_of HT_.out (by kernel_rfl)) (fun _ _ _ h => h) (Or.inl ⟨by rfl, ?_⟩) ?_ ?_
               rotate_left
               ·intro w'
                go_simp
                with_reducible rfl
               rotate_left
               ·simp only [Act.put, List.setIfInBounds_toArray, List.set_cons_zero, List.set_cons_succ, i64_w, i32_w]
                rfl
               refine pure_ (i := 1) (N := some 112) (v := ?_) (a' := ?_) #[true, true, false, false, false, false, false, false, false, false, false, false, false, false, false, false, false, false, false, false, false, false, false, false, false, false, false, false, false, false, false, false, false] rfl rfl (any_of HT_.out (by kernel_rfl)) (fun _ _ _ h => h) (Or.inl ⟨by rfl, ?_⟩) ?_ ?_
               rotate_left
               ·intro w'
                go_simp
                with_reducible rfl
               rotate_left
               ·simp only [Act.put, List.setIfInBounds_toArray, List.set_cons_zero, List.set_cons_succ, i64_w, i32_w]
                rfl
               refine pure_ (i := 2) (N := some 113) (v := ?_) (a' := ?_) #[true, true, true, false, false, false, false, false, false, false, false, false, false, false, false, false, false, false, false, false, false, false, false, false, false, false, false, false, false, false, false, false, false] rfl rfl (any_of HT_.out (by kernel_rfl)) (fun _ _ _ h => h) (Or.inl ⟨by rfl, ?_⟩) ?_ ?_
               rotate_left
               ·intro w'
                go_simp
                with_reducible rfl
               rotate_left
               ·simp only [Act.put, List.setIfInBounds_toArray, List.set_cons_zero, List.set_cons_succ, i64_w, i32_w]
                rfl
               refine pure_ (i := 3) (N := some 114) (v := ?_) (a' := ?_) #[true, true, true, true, false, false, false, false, false, false, false, false, false, false, false, false, false, false, false, false, false, false, false, false, false, false, false, false, false, false, false, false, false] rfl rfl (any_of HT_.out (by kernel_rfl)) (fun _ _ _ h => h) (Or.inl ⟨by rfl, ?_⟩) ?_ ?_
               rotate_left
               ·intro w'
                go_simp
                with_reducible rfl
               rotate_left
               ·simp only [Act.put, List.setIfInBounds_toArray, List.set_cons_zero, List.set_cons_succ, i64_w, i32_w]
                rfl
               refine pure_ (i := 4) (N := some 115) (v := ?_) (a' := ?_) #[true, true, true, true, true, false, false, false, false, false, false, false, false, false, false, false, false, false, false, false, false, false, false, false, false, false, false, false, false, false, false, false, false] rfl rfl (any_of HT_.out (by kernel_rfl)) (fun _ _ _ h => h) (Or.inl ⟨by rfl, ?_⟩) ?_ ?_
               rotate_left
               ·intro w'
                go_simp
                with_reducible rfl
               rotate_left
               ·simp only [Act.put, List.setIfInBounds_toArray, List.set_cons_zero, List.set_cons_succ, i64_w, i32_w]
                rfl
               refine pure_ (i := 5) (N := some 116) (v := ?_) (a' := ?_) #[true, true, true, true, true, true, false, false, false, false, false, false, false, false, false, false, false, false, false, false, false, false, false, false, false, false, false, false, false, false, false, false, false] rfl rfl (any_of HT_.out (by kernel_rfl)) (fun _ _ _ h => h) (Or.inl ⟨by rfl, ?_⟩) ?_ ?_
               rotate_left
               ·intro w'
                go_simp
                with_reducible rfl
               rotate_left
               ·simp only [Act.put, List.setIfInBounds_toArray, List.set_cons_zero, List.set_cons_succ, i64_w, i32_w]
                rfl
               refine pure_ (i := 6) (N := some 117) (v := ?_) (a' := ?_) #[true, true, true, true, true, true, true, false, false, false, false, false, false, false, false, false, false, false, false, false, false, false, false, false, false, false, false, false, false, false, false, false, false] rfl rfl (any_of HT_.out (by kernel_rfl)) (fun _ _ _ h => h) (Or.inl ⟨by rfl, ?_⟩) ?_ ?_
               rotate_left
               ·intro w'
                go_simp
                with_reducible rfl
               rotate_left
               ·simp only [Act.put, List.setIfInBounds_toArray, List.set_cons_zero, List.set_cons_succ, i64_w, i32_w]
                rfl
               refine pure_ (i := 7) (N := some 118) (v := ?_) (a' := ?_) #[true, true, true, true, true, true, true, true, false, false, false, false, false, false, false, false, false, false, false, false, false, false, false, false, false, false, false, false, false, false, false, false, false] rfl rfl (any_of HT_.out (by kernel_rfl)) (fun _ _ _ h => h) (Or.inl ⟨by rfl, ?_⟩) ?_ ?_
               rotate_left
               ·intro w'
                go_simp
                with_reducible rfl
               rotate_left
               ·simp only [Act.put, List.setIfInBounds_toArray, List.set_cons_zero, List.set_cons_succ, i64_w, i32_w]
                rfl
               refine take_ (i := 8) (N := some 119) (v := ?_) (a' := ?_) #[true, true, true, true, true, true, true, true, true, false, false, false, false, false, false, false, false, false, false, false, false, false, false, false, false, false, false, false, false, false, false, false, false] rfl rfl (take_ofW HT_.out HW_.out (by kernel_rfl)) (fun _ _ _ h => h) (Or.inl ⟨by rfl, ?_⟩) hHeld ?_ ?_
               rotate_left
               ·rintro w' ⟨s0, s1, s2, s3, s4, s5, s6, s7, s8, s9, s10, s11, s12⟩
                go_simp
                with_reducible rfl
               rotate_left
               ·simp only [Act.put, List.setIfInBounds_toArray, List.set_cons_zero, List.set_cons_succ, i64_w, i32_w]
                rfl
               refine take_ (i := 9) (N := some 120) (v := ?_) (a' := ?_) #[true, true, true, true, true, true, true, true, true, true, false, false, false, false, false, false, false, false, false, false, false, false, false, false, false, false, false, false, false, false, false, false, false] rfl rfl (take_ofW HT_.out HW_.out (by kernel_rfl)) (fun _ _ _ h => h) (Or.inl ⟨by rfl, ?_⟩) hHeld ?_ ?_
               rotate_left
               ·rintro w' ⟨s0, s1, s2, s3, s4, s5, s6, s7, s8, s9, s10, s11, s12⟩
                go_simp
                with_reducible rfl
               rotate_left
               ·simp only [Act.put, List.setIfInBounds_toArray, List.set_cons_zero, List.set_cons_succ, i64_w, i32_w]
                rfl
               refine pure_ (i := 10) (N := some 121) (v := ?_) (a' := ?_) #[true, true, true, true, true, true, true, true, true, true, true, false, false, false, false, false, false, false, false, false, false, false, false, false, false, false, false, false, false, false, false, false, false] rfl rfl (any_of HT_.out (by kernel_rfl)) (fun _ _ _ h => h) (Or.inl ⟨by rfl, ?_⟩) ?_ ?_
               rotate_left
               ·intro w'
                go_simp
                with_reducible rfl
               rotate_left
               ·simp only [Act.put, List.setIfInBounds_toArray, List.set_cons_zero, List.set_cons_succ, i64_w, i32_w]
                rfl
               refine pure_ (i := 11) (N := some 122) (v := ?_) (a' := ?_) #[true, true, true, true, true, true, true, true, true, true, true, true, false, false, false, false, false, false, false, false, false, false, false, false, false, false, false, false, false, false, false, false, false] rfl rfl (any_of HT_.out (by kernel_rfl)) (fun _ _ _ h => h) (Or.inl ⟨by rfl, ?_⟩) ?_ ?_
               rotate_left
               ·intro w'
                go_simp
                with_reducible rfl
               rotate_left
               ·simp only [Act.put, List.setIfInBounds_toArray, List.set_cons_zero, List.set_cons_succ, i64_w, i32_w]
                rfl
               refine pure_ (i := 12) (N := some 123) (v := ?_) (a' := ?_) #[true, true, true, true, true, true, true, true, true, true, true, true, true, false, false, false, false, false, false, false, false, false, false, false, false, false, false, false, false, false, false, false, false] rfl rfl (any_of HT_.out (by kernel_rfl)) (fun _ _ _ h => h) (Or.inl ⟨by rfl, ?_⟩) ?_ ?_
               rotate_left
               ·intro w'
                go_simp
                with_reducible rfl
               rotate_left
               ·simp only [Act.put, List.setIfInBounds_toArray, List.set_cons_zero, List.set_cons_succ, i64_w, i32_w]
                rfl
               refine pure_ (i := 13) (N := some 124) (v := ?_) (a' := ?_) #[true, true, true, true, true, true, true, true, true, true, true, true, true, true, false, false, false, false, false, false, false, false, false, false, false, false, false, false, false, false, false, false, false] rfl rfl (any_of HT_.out (by kernel_rfl)) (fun _ _ _ h => h) (Or.inl ⟨by rfl, ?_⟩) ?_ ?_
               rotate_left
               ·intro w'
                go_simp
                with_reducible rfl
               rotate_left
               ·simp only [Act.put, List.setIfInBounds_toArray, List.set_cons_zero, List.set_cons_succ, i64_w, i32_w]
                rfl
               refine take_ (i := 14) (N := some 125) (v := ?_) (a' := ?_) #[true, true, true, true, true, true, true, true, true, true, true, true, true, true, true, false, false, false, false, false, false, false, false, false, false, false, false, false, false, false, false, false, false] rfl rfl (take_ofW HT_.out HW_.out (by kernel_rfl)) (fun _ _ _ h => h) (Or.inl ⟨by rfl, ?_⟩) hHeld ?_ ?_
               rotate_left
               ·rintro w' ⟨s0, s1, s2, s3, s4, s5, s6, s7, s8, s9, s10, s11, s12⟩
                go_simp
                with_reducible rfl
               rotate_left
               ·simp only [Act.put, List.setIfInBounds_toArray, List.set_cons_zero, List.set_cons_succ, i64_w, i32_w]
                rfl
               refine take_ (i := 15) (N := some 126) (v := ?_) (a' := ?_) #[true, true, true, true, true, true, true, true, true, true, true, true, true, true, true, true, false, false, false, false, false, false, false, false, false, false, false, false, false, false, false, false, false] rfl rfl (take_ofW HT_.out HW_.out (by kernel_rfl)) (fun _ _ _ h => h) (Or.inl ⟨by rfl, ?_⟩) hHeld ?_ ?_
               rotate_left
               ·rintro w' ⟨s0, s1, s2, s3, s4, s5, s6, s7, s8, s9, s10, s11, s12⟩
                go_simp
                with_reducible rfl
               rotate_left
               ·simp only [Act.put, List.setIfInBounds_toArray, List.set_cons_zero, List.set_cons_succ, i64_w, i32_w]
                rfl
               refine pure_ (i := 16) (N := some 127) (v := ?_) (a' := ?_) #[true, true, true, true, true, true, true, true, true, true, true, true, true, true, true, true, true, false, false, false, false, false, false, false, false, false, false, false, false, false, false, false, false] rfl rfl (any_of HT_.out (by kernel_rfl)) (fun _ _ _ h => h) (Or.inl ⟨by rfl, ?_⟩) ?_ ?_
               rotate_left
               ·intro w'
                go_simp
                with_reducible rfl
               rotate_left
               ·simp only [Act.put, List.setIfInBounds_toArray, List.set_cons_zero, List.set_cons_succ, i64_w, i32_w]
                rfl
               refine pure_ (i := 17) (N := some 128) (v := ?_) (a' := ?_) #[true, true, true, true, true, true, true, true, true, true, true, true, true, true, true, true, true, true, false, false, false, false, false, false, false, false, false, false, false, false, false, false, false] rfl rfl (any_of HT_.out (by kernel_rfl)) (fun _ _ _ h => h) (Or.inl ⟨by rfl, ?_⟩) ?_ ?_
               rotate_left
               ·intro w'
                go_simp
                with_reducible rfl
               rotate_left
               ·simp only [Act.put, List.setIfInBounds_toArray, List.set_cons_zero, List.set_cons_succ, i64_w, i32_w]
                rfl
               refine pure_ (i := 18) (N := some 129) (v := ?_) (a' := ?_) #[true, true, true, true, true, true, true, true, true, true, true, true, true, true, true, true, true, true, true, false, false, false, false, false, false, false, false, false, false, false, false, false, false] rfl rfl (any_of HT_.out (by kernel_rfl)) (fun _ _ _ h => h) (Or.inl ⟨by rfl, ?_⟩) ?_ ?_
               rotate_left
               ·intro w'
                go_simp
                with_reducible rfl
               rotate_left
               ·simp only [Act.put, List.setIfInBounds_toArray, List.set_cons_zero, List.set_cons_succ, i64_w, i32_w]
                rfl
               refine pure_ (i := 19) (N := some 130) (v := ?_) (a' := ?_) #[true, true, true, true, true, true, true, true, true, true, true, true, true, true, true, true, true, true, true, true, false, false, false, false, false, false, false, false, false, false, false, false, false] rfl rfl (any_of HT_.out (by kernel_rfl)) (fun _ _ _ h => h) (Or.inl ⟨by rfl, ?_⟩) ?_ ?_
               rotate_left
               ·intro w'
                go_simp
                with_reducible rfl
               rotate_left
               ·simp only [Act.put, List.setIfInBounds_toArray, List.set_cons_zero, List.set_cons_succ, i64_w, i32_w]
                rfl
               refine take_ (i := 20) (N := some 131) (v := ?_) (a' := ?_) #[true, true, true, true, true, true, true, true, true, true, true, true, true, true, true, true, true, true, true, true, true, false, false, false, false, false, false, false, false, false, false, false, false] rfl rfl (take_ofW HT_.out HW_.out (by kernel_rfl)) (fun _ _ _ h => h) (Or.inl ⟨by rfl, ?_⟩) hHeld ?_ ?_
               rotate_left
               ·rintro w' ⟨s0, s1, s2, s3, s4, s5, s6, s7, s8, s9, s10, s11, s12⟩
                go_simp
                with_reducible rfl
               rotate_left
               ·simp only [Act.put, List.setIfInBounds_toArray, List.set_cons_zero, List.set_cons_succ, i64_w, i32_w]
                rfl
               refine pure_ (i := 21) (N := some 132) (v := ?_) (a' := ?_) #[true, true, true, true, true, true, true, true, true, true, true, true, true, true, true, true, true, true, true, true, true, true, false, false, false, false, false, false, false, false, false, false, false] rfl rfl (any_of HT_.out (by kernel_rfl)) (fun _ _ _ h => h) (Or.inl ⟨by rfl, ?_⟩) ?_ ?_
               rotate_left
               ·intro w'
                go_simp
                with_reducible rfl
               rotate_left
               ·simp only [Act.put, List.setIfInBounds_toArray, List.set_cons_zero, List.set_cons_succ, i64_w, i32_w]
                rfl
               refine pure_ (i := 22) (N := some 133) (v := ?_) (a' := ?_) #[true, true, true, true, true, true, true, true, true, true, true, true, true, true, true, true, true, true, true, true, true, true, true, false, false, false, false, false, false, false, false, false, false] rfl rfl (any_of HT_.out (by kernel_rfl)) (fun _ _ _ h => h) (Or.inl ⟨by rfl, ?_⟩) ?_ ?_
               rotate_left
               ·intro w'
                go_simp
                with_reducible rfl
               rotate_left
               ·simp only [Act.put, List.setIfInBounds_toArray, List.set_cons_zero, List.set_cons_succ, i64_w, i32_w]
                rfl
               refine pure_ (i := 23) (N := some 134) (v := ?_) (a' := ?_) #[true, true, true, true, true, true, true, true, true, true, true, true, true, true, true, true, true, true, true, true, true, true, true, true, false, false, false, false, false, false, false, false, false] rfl rfl (any_of HT_.out (by kernel_rfl)) (fun _ _ _ h => h) (Or.inl ⟨by rfl, ?_⟩) ?_ ?_
               rotate_left
               ·intro w'
                go_simp
                with_reducible rfl
               rotate_left
               ·simp only [Act.put, List.setIfInBounds_toArray, List.set_cons_zero, List.set_cons_succ, i64_w, i32_w]
                rfl
               refine pure_ (i := 24) (N := some 135) (v := undef) (a' := ?_) #[true, true, true, true, true, true, true, true, true, true, true, true, true, true, true, true, true, true, true, true, true, true, true, true, true, false, false, false, false, false, false, false, false] rfl rfl (any_of HT_.out (by kernel_rfl)) (fun _ _ _ h => h) (Or.inr ⟨by rfl, rfl⟩) ?_ ?_
               rotate_left
               ·simp only [Act.put, List.setIfInBounds_toArray, List.set_cons_zero, List.set_cons_succ, i64_w, i32_w]
                rfl
               refine pure_ (i := 25) (N := some 136) (v := undef) (a' := ?_) #[true, true, true, true, true, true, true, true, true, true, true, true, true, true, true, true, true, true, true, true, true, true, true, true, true, true, false, false, false, false, false, false, false] rfl rfl (any_of HT_.out (by kernel_rfl)) (fun _ _ _ h => h) (Or.inr ⟨by rfl, rfl⟩) ?_ ?_
               rotate_left
               ·simp only [Act.put, List.setIfInBounds_toArray, List.set_cons_zero, List.set_cons_succ, i64_w, i32_w]
                rfl
               refine pure_ (i := 26) (N := some 137) (v := undef) (a' := ?_) #[true, true, true, true, true, true, true, true, true, true, true, true, true, true, true, true, true, true, true, true, true, true, true, true, true, true, true, false, false, false, false, false, false] rfl rfl (any_of HT_.out (by kernel_rfl)) (fun _ _ _ h => h) (Or.inr ⟨by rfl, rfl⟩) ?_ ?_
               rotate_left
               ·simp only [Act.put, List.setIfInBounds_toArray, List.set_cons_zero, List.set_cons_succ, i64_w, i32_w]
                rfl
               refine pure_ (i := 27) (N := some 138) (v := undef) (a' := ?_) #[true, true, true, true, true, true, true, true, true, true, true, true, true, true, true, true, true, true, true, true, true, true, true, true, true, true, true, true, false, false, false, false, false] rfl rfl (any_of HT_.out (by kernel_rfl)) (fun _ _ _ h => h) (Or.inr ⟨by rfl, rfl⟩) ?_ ?_
               rotate_left
               ·simp only [Act.put, List.setIfInBounds_toArray, List.set_cons_zero, List.set_cons_succ, i64_w, i32_w]
                rfl
               refine pure_ (i := 28) (N := some 139) (v := undef) (a' := ?_) #[true, true, true, true, true, true, true, true, true, true, true, true, true, true, true, true, true, true, true, true, true, true, true, true, true, true, true, true, true, false, false, false, false] rfl rfl (any_of HT_.out (by kernel_rfl)) (fun _ _ _ h => h) (Or.inr ⟨by rfl, rfl⟩) ?_ ?_
               rotate_left
               ·simp only [Act.put, List.setIfInBounds_toArray, List.set_cons_zero, List.set_cons_succ, i64_w, i32_w]
                rfl
               refine pure_ (i := 29) (N := some 140) (v := undef) (a' := ?_) #[true, true, true, true, true, true, true, true, true, true, true, true, true, true, true, true, true, true, true, true, true, true, true, true, true, true, true, true, true, true, false, false, false] rfl rfl (any_of HT_.out (by kernel_rfl)) (fun _ _ _ h => h) (Or.inr ⟨by rfl, rfl⟩) ?_ ?_
               rotate_left
               ·simp only [Act.put, List.setIfInBounds_toArray, List.set_cons_zero, List.set_cons_succ, i64_w, i32_w]
                rfl
               refine pure_ (i := 30) (N := some 141) (v := undef) (a' := ?_) #[true, true, true, true, true, true, true, true, true, true, true, true, true, true, true, true, true, true, true, true, true, true, true, true, true, true, true, true, true, true, true, false, false] rfl rfl (any_of HT_.out (by kernel_rfl)) (fun _ _ _ h => h) (Or.inr ⟨by rfl, rfl⟩) ?_ ?_
               rotate_left
               ·simp only [Act.put, List.setIfInBounds_toArray, List.set_cons_zero, List.set_cons_succ, i64_w, i32_w]
                rfl
               refine pure_ (i := 31) (N := some 142) (v := ?_) (a' := ?_) #[true, true, true, true, true, true, true, true, true, true, true, true, true, true, true, true, true, true, true, true, true, true, true, true, true, true, true, true, true, true, true, true, false] rfl rfl (any_of HT_.out (by kernel_rfl)) (fun _ _ _ h => h) (Or.inl ⟨by rfl, ?_⟩) ?_ ?_
               rotate_left
               ·intro w'
                go_simp
                with_reducible rfl
               rotate_left
               ·simp only [Act.put, List.setIfInBounds_toArray, List.set_cons_zero, List.set_cons_succ, i64_w, i32_w]
                rfl
               refine pure_ (i := 32) (N := some 4) (v := ?_) (a' := ?_) #[true, true, true, true, true, true, true, true, true, true, true, true, true, true, true, true, true, true, true, true, true, true, true, true, true, true, true, true, true, true, true, true, true] rfl rfl (any_of HT_.out (by kernel_rfl)) (fun _ _ _ h => h) (Or.inl ⟨by rfl, ?_⟩) ?_ ?_
               rotate_left
               ·intro w'
                go_simp
                with_reducible rfl
               rotate_left
               ·simp only [Act.put, List.setIfInBounds_toArray, List.set_cons_zero, List.set_cons_succ, i64_w, i32_w]
                rfl
               refine done_ (done_of HT_.out (by kernel_rfl)) ?_
               try go_wp2
               go_meet
               case rel => exact ⟨_, (false), (by first | rfl | (simp; done) | (simp [*]; done)), H', ⟨by have := HJ10.out; have := HJ33.out; first | omega | exact Nat.le_refl _⟩, ⟨bkn BK486⟩, ⟨bkn BK492⟩, ⟨bkn BK497⟩, ⟨bkn BK511⟩, ⟨bkn BK518⟩, ⟨bw⟩⟩
             ·rw [if_neg c67] at H
              have c67b0 : (t512 == t488 && (t513 == t489 && (t514 == t490))) = false := by simpa using c67
              (try (have c67b1 : decide (t512 = t488 && (t513 == t489 && (t514 == t490))) = false := by simpa using c67))
              (try (have c67b2 : (t512 == t488 && (t513 == t489 && (t514 == t490))) = false := by simpa using c67))
              (try (have c67b3 : ¬ (t512 = t488 && (t513 == t489 && (t514 == t490))) := by simpa using c67))
              clear c67
              have H' := AX H
              clear H
              try go_wp2
              have n0_ : Aside0 ((((((w58.setCell ⟨gb518, 0, none⟩ (.int .i64 t512)).setCell ⟨gb518, 1, none⟩ (.int .i64 t513)).setCell ⟨gb518, 2, none⟩ (.int .i64 t514)).setCell ⟨gb518, 3, none⟩ (.int .i64 t515)).setCell ⟨gb518, 4, none⟩ (.int .i64 t516)).heap[gb486]? = some (.cells #[.int .i64 a0_0, .int .i64 a0_1, .int .i64 a0_2, .int .i64 a0_3, .int .i64 a0_4, .int .i64 a0_5, .int .i64 a0_6, .int .i64 a0_7, .int .i64 a0_8, .int .i64 a0_9] 25 (0, 0))) := ⟨by (with_reducible repeat first|refine blk_drewN ?_ _|refine blk_drew ?_|refine blk_alloc ?_ _); refine blk_far ?_ NB486_518.out _; (with_reducible repeat first|refine blk_drewN ?_ _|refine blk_drew ?_|refine blk_alloc ?_ _); refine blk_far ?_ NB486_518.out _; (with_reducible repeat first|refine blk_drewN ?_ _|refine blk_drew ?_|refine blk_alloc ?_ _); refine blk_far ?_ NB486_518.out _; (with_reducible repeat first|refine blk_drewN ?_ _|refine blk_drew ?_|refine blk_alloc ?_ _); refine blk_far ?_ NB486_518.out _; (with_reducible repeat first|refine blk_drewN ?_ _|refine blk_drew ?_|refine blk_alloc ?_ _); refine blk_far ?_ NB486_518.out _; (with_reducible repeat first|refine blk_drewN ?_ _|refine blk_drew ?_|refine blk_alloc ?_ _); exact BK486.out⟩
              have n1_ : Aside0 ((((((w58.setCell ⟨gb518, 0, none⟩ (.int .i64 t512)).setCell ⟨gb518, 1, none⟩ (.int .i64 t513)).setCell ⟨gb518, 2, none⟩ (.int .i64 t514)).setCell ⟨gb518, 3, none⟩ (.int .i64 t515)).setCell ⟨gb518, 4, none⟩ (.int .i64 t516)).heap[gb492]? = some (.cells #[.int .i64 t488, .int .i64 t489, .int .i64 t490] 33 (0, 0))) := ⟨by (with_reducible repeat first|refine blk_drewN ?_ _|refine blk_drew ?_|refine blk_alloc ?_ _); refine blk_far ?_ NB492_518.out _; (with_reducible repeat first|refine blk_drewN ?_ _|refine blk_drew ?_|refine blk_alloc ?_ _); refine blk_far ?_ NB492_518.out _; (with_reducible repeat first|refine blk_drewN ?_ _|refine blk_drew ?_|refine blk_alloc ?_ _); refine blk_far ?_ NB492_518.out _; (with_reducible repeat first|refine blk_drewN ?_ _|refine blk_drew ?_|refine blk_alloc ?_ _); refine blk_far ?_ NB492_518.out _; (with_reducible repeat first|refine blk_drewN ?_ _|refine blk_drew ?_|refine blk_alloc ?_ _); refine blk_far ?_ NB492_518.out _; (with_reducible repeat first|refine blk_drewN ?_ _|refine blk_drew ?_|refine blk_alloc ?_ _); exact BK492.out⟩
              have n2_ : Aside0 ((((((w58.setCell ⟨gb518, 0, none⟩ (.int .i64 t512)).setCell ⟨gb518, 1, none⟩ (.int .i64 t513)).setCell ⟨gb518, 2, none⟩ (.int .i64 t514)).setCell ⟨gb518, 3, none⟩ (.int .i64 t515)).setCell ⟨gb518, 4, none⟩ (.int .i64 t516)).heap[gb497]? = some (.cells #[.int .i64 t493, .int .i64 t494, .int .i64 t495] 33 (0, 0))) := ⟨by (with_reducible repeat first|refine blk_drewN ?_ _|refine blk_drew ?_|refine blk_alloc ?_ _); refine blk_far ?_ NB497_518.out _; (with_reducible repeat first|refine blk_drewN ?_ _|refine blk_drew ?_|refine blk_alloc ?_ _); refine blk_far ?_ NB497_518.out _; (with_reducible repeat first|refine blk_drewN ?_ _|refine blk_drew ?_|refine blk_alloc ?_ _); refine blk_far ?_ NB497_518.out _; (with_reducible repeat first|refine blk_drewN ?_ _|refine blk_drew ?_|refine blk_alloc ?_ _); refine blk_far ?_ NB497_518.out _; (with_reducible repeat first|refine blk_drewN ?_ _|refine blk_drew ?_|refine blk_alloc ?_ _); refine blk_far ?_ NB497_518.out _; (with_reducible repeat first|refine blk_drewN ?_ _|refine blk_drew ?_|refine blk_alloc ?_ _); exact BK497.out⟩
              have n3_ : Aside0 ((((((w58.setCell ⟨gb518, 0, none⟩ (.int .i64 t512)).setCell ⟨gb518, 1, none⟩ (.int .i64 t513)).setCell ⟨gb518, 2, none⟩ (.int .i64 t514)).setCell ⟨gb518, 3, none⟩ (.int .i64 t515)).setCell ⟨gb518, 4, none⟩ (.int .i64 t516)).heap[gb511]? = some (.cells #[.int .i64 t505, .int .i64 t506, .int .i64 t507, .int .i64 t508, .int .i64 t509] 35 (0, 0))) := ⟨by (with_reducible repeat first|refine blk_drewN ?_ _|refine blk_drew ?_|refine blk_alloc ?_ _); refine blk_far ?_ NB511_518.out _; (with_reducible repeat first|refine blk_drewN ?_ _|refine blk_drew ?_|refine blk_alloc ?_ _); refine blk_far ?_ NB511_518.out _; (with_reducible repeat first|refine blk_drewN ?_ _|refine blk_drew ?_|refine blk_alloc ?_ _); refine blk_far ?_ NB511_518.out _; (with_reducible repeat first|refine blk_drewN ?_ _|refine blk_drew ?_|refine blk_alloc ?_ _); refine blk_far ?_ NB511_518.out _; (with_reducible repeat first|refine blk_drewN ?_ _|refine blk_drew ?_|refine blk_alloc ?_ _); refine blk_far ?_ NB511_518.out _; (with_reducible repeat first|refine blk_drewN ?_ _|refine blk_drew ?_|refine blk_alloc ?_ _); exact BK511.out⟩
              have n4_ : Aside0 ((((((w58.setCell ⟨gb518, 0, none⟩ (.int .i64 t512)).setCell ⟨gb518, 1, none⟩ (.int .i64 t513)).setCell ⟨gb518, 2, none⟩ (.int .i64 t514)).setCell ⟨gb518, 3, none⟩ (.int .i64 t515)).setCell ⟨gb518, 4, none⟩ (.int .i64 t516)).heap[gb518]? = some (.cells #[.int .i64 t512, .int .i64 t513, .int .i64 t514, .int .i64 t515, .int .i64 t516] 35 (0, 0))) := ⟨by (with_reducible repeat first|refine blk_drewN ?_ _|refine blk_drew ?_|refine blk_alloc ?_ _); refine blk_put (cs := #[.int .i64 t512, .int .i64 t513, .int .i64 t514, .int .i64 t515, .int .i64 0]) ?_ 4 _ rfl; (with_reducible repeat first|refine blk_drewN ?_ _|refine blk_drew ?_|refine blk_alloc ?_ _); refine blk_put (cs := #[.int .i64 t512, .int .i64 t513, .int .i64 t514, .int .i64 0, .int .i64 0]) ?_ 3 _ rfl; (with_reducible repeat first|refine blk_drewN ?_ _|refine blk_drew ?_|refine blk_alloc ?_ _); refine blk_put (cs := #[.int .i64 t512, .int .i64 t513, .int .i64 0, .int .i64 0, .int .i64 0]) ?_ 2 _ rfl; (with_reducible repeat first|refine blk_drewN ?_ _|refine blk_drew ?_|refine blk_alloc ?_ _); refine blk_put (cs := #[.int .i64 t512, .int .i64 0, .int .i64 0, .int .i64 0, .int .i64 0]) ?_ 1 _ rfl; (with_reducible repeat first|refine blk_drewN ?_ _|refine blk_drew ?_|refine blk_alloc ?_ _); refine blk_put (cs := #[.int .i64 0, .int .i64 0, .int .i64 0, .int .i64 0, .int .i64 0]) ?_ 0 _ rfl; (with_reducible repeat first|refine blk_drewN ?_ _|refine blk_drew ?_|refine blk_alloc ?_ _); exact BK518.out⟩
              have n5_ : Aside0 (Below w.heap.size w (((((w58.setCell ⟨gb518, 0, none⟩ (.int .i64 t512)).setCell ⟨gb518, 1, none⟩ (.int .i64 t513)).setCell ⟨gb518, 2, none⟩ (.int .i64 t514)).setCell ⟨gb518, 3, none⟩ (.int .i64 t515)).setCell ⟨gb518, 4, none⟩ (.int .i64 t516))) := ⟨bw⟩
              (try clear BK486)
              (try clear BK492)
              (try clear BK497)
              (try clear BK511)
              (try clear BK518)
              (try clear HB)
              generalize (((((w58.setCell ⟨gb518, 0, none⟩ (.int .i64 t512)).setCell ⟨gb518, 1, none⟩ (.int .i64 t513)).setCell ⟨gb518, 2, none⟩ (.int .i64 t514)).setCell ⟨gb518, 3, none⟩ (.int .i64 t515)).setCell ⟨gb518, 4, none⟩ (.int .i64 t516)) = w75 at n0_ n1_ n2_ n3_ n4_ n5_ ⊢
              have BK486 := n0_
              have BK492 := n1_
              have BK497 := n2_
              have BK511 := n3_
              have BK518 := n4_
              have HB := n5_
              clear n0_ n1_ n2_ n3_ n4_ n5_
              have n0_ := AX (blk_drew BK486.out)
              have n1_ := AX (blk_drew BK492.out)
              have n2_ := AX (blk_drew BK497.out)
              have n3_ := AX (blk_drew BK511.out)
              have n4_ := AX (blk_drew BK518.out)
              have n5_ := AX (below_drew1 HB.out)
              clear BK486
              clear BK492
              clear BK497
              clear BK511
              clear BK518
              clear HB
              have BK486 := n0_
              have BK492 := n1_
              have BK497 := n2_
              have BK511 := n3_
              have BK518 := n4_
              have HB := n5_
              clear n0_ n1_ n2_ n3_ n4_ n5_
              refine start_ (n := 33) (S := fun w' => w'.cell? ⟨gb511, 0, none⟩ = some (.int .i64 t505) ∧ w'.cell? ⟨gb511, 1, none⟩ = some (.int .i64 t506) ∧ w'.cell? ⟨gb511, 2, none⟩ = some (.int .i64 t507) ∧ w'.cell? ⟨gb511, 3, none⟩ = some (.int .i64 t508) ∧ w'.cell? ⟨gb511, 4, none⟩ = some (.int .i64 t509) ∧ w'.cell? ⟨gb492, 0, none⟩ = some (.int .i64 t488) ∧ w'.cell? ⟨gb492, 1, none⟩ = some (.int .i64 t489) ∧ w'.cell? ⟨gb492, 2, none⟩ = some (.int .i64 t490) ∧ w'.cell? ⟨gb518, 0, none⟩ = some (.int .i64 t512) ∧ w'.cell? ⟨gb518, 1, none⟩ = some (.int .i64 t513) ∧ w'.cell? ⟨gb518, 2, none⟩ = some (.int .i64 t514) ∧ w'.cell? ⟨gb518, 3, none⟩ = some (.int .i64 t515) ∧ w'.cell? ⟨gb518, 4, none⟩ = some (.int .i64 t516)) (ds := []) #[false, false, false, false, false, false, false, false, false, false, false, false, false, false, false, false, false, false, false, false, false, false, false, false, false, false, false, false, false, false, false, false, false] (by kernel_rfl) rfl rfl ⟨(blk_cell BK511.out 0).trans rfl, (blk_cell BK511.out 1).trans rfl, (blk_cell BK511.out 2).trans rfl, (blk_cell BK511.out 3).trans rfl, (blk_cell BK511.out 4).trans rfl, (blk_cell BK492.out 0).trans rfl, (blk_cell BK492.out 1).trans rfl, (blk_cell BK492.out 2).trans rfl, (blk_cell BK518.out 0).trans rfl, (blk_cell BK518.out 1).trans rfl, (blk_cell BK518.out 2).trans rfl, (blk_cell BK518.out 3).trans rfl, (blk_cell BK518.out 4).trans rfl⟩ (fun hHeld => ?_); refine with_tabW pylonlaw04_ZoneDays.tab16 pylonlaw04_ZoneDays.bits16 (fun HT_ HW_ => ?_)
              generalize w75.drew = w76 at BK486 BK492 BK497 BK511 BK518 HB hHeld ⊢
              refine pure_ (i := 0) (N := some 111) (v := ?_) (a' := ?_) #[true, false, false, false, false, false, false, false, false, false, false, false, false, false, false, false, false, false, false, false, false, false, false, false, false, false, false, false, false, false, false, false, false] rfl rfl (any_of HT_.out (by kernel_rfl)) (fun _ _ _ h => h) (Or.inl ⟨by rfl, ?_⟩) ?_ ?_
              rotate_left
              ·intro w'
               go_simp
               with_reducible rfl
              rotate_left
              ·simp only [Act.put, List.setIfInBounds_toArray, List.set_cons_zero, List.set_cons_succ, i64_w, i32_w]
               rfl
              refine pure_ (i := 1) (N := some 112) (v := ?_) (a' := ?_) #[true, true, false, false, false, false, false, false, false, false, false, false, false, false, false, false, false, false, false, false, false, false, false, false, false, false, false, false, false, false, false, false, false] rfl rfl (any_of HT_.out (by kernel_rfl)) (fun _ _ _ h => h) (Or.inl ⟨by rfl, ?_⟩) ?_ ?_
              rotate_left
              ·intro w'
               go_simp
               with_reducible rfl
              rotate_left
              ·simp only [Act.put, List.setIfInBounds_toArray, List.set_cons_zero, List.set_cons_succ, i64_w, i32_w]
               rfl
              refine pure_ (i := 2) (N := some 113) (v := ?_) (a' := ?_) #[true, true, true, false, false, false, false, false, false, false, false, false, false, false, false, false, false, false, false, false, false, false, false, false, false, false, false, false, false, false, false, false, false] rfl rfl (any_of HT_.out (by kernel_rfl)) (fun _ _ _ h => h) (Or.inl ⟨by rfl, ?_⟩) ?_ ?_
              rotate_left
              ·intro w'
               go_simp
               with_reducible rfl
              rotate_left
              ·simp only [Act.put, List.setIfInBounds_toArray, List.set_cons_zero, List.set_cons_succ, i64_w, i32_w]
               rfl
              refine pure_ (i := 3) (N := some 114) (v := ?_) (a' := ?_) #[true, true, true, true, false, false, false, false, false, false, false, false, false, false, false, false, false, false, false, false, false, false, false, false, false, false, false, false, false, false, false, false, false] rfl rfl (any_of HT_.out (by kernel_rfl)) (fun _ _ _ h => h) (Or.inl ⟨by rfl, ?_⟩) ?_ ?_
              rotate_left
              ·intro w'
               go_simp
               with_reducible rfl
              rotate_left
              ·simp only [Act.put, List.setIfInBounds_toArray, List.set_cons_zero, List.set_cons_succ, i64_w, i32_w]
               rfl
              refine pure_ (i := 4) (N := some 115) (v := ?_) (a' := ?_) #[true, true, true, true, true, false, false, false, false, false, false, false, false, false, false, false, false, false, false, false, false, false, false, false, false, false, false, false, false, false, false, false, false] rfl rfl (any_of HT_.out (by kernel_rfl)) (fun _ _ _ h => h) (Or.inl ⟨by rfl, ?_⟩) ?_ ?_
              rotate_left
              ·intro w'
               go_simp
               with_reducible rfl
              rotate_left
              ·simp only [Act.put, List.setIfInBounds_toArray, List.set_cons_zero, List.set_cons_succ, i64_w, i32_w]
               rfl
              refine pure_ (i := 5) (N := some 116) (v := ?_) (a' := ?_) #[true, true, true, true, true, true, false, false, false, false, false, false, false, false, false, false, false, false, false, false, false, false, false, false, false, false, false, false, false, false, false, false, false] rfl rfl (any_of HT_.out (by kernel_rfl)) (fun _ _ _ h => h) (Or.inl ⟨by rfl, ?_⟩) ?_ ?_
              rotate_left
              ·intro w'
               go_simp
               with_reducible rfl
              rotate_left
              ·simp only [Act.put, List.setIfInBounds_toArray, List.set_cons_zero, List.set_cons_succ, i64_w, i32_w]
               rfl
              refine pure_ (i := 6) (N := some 117) (v := ?_) (a' := ?_) #[true, true, true, true, true, true, true, false, false, false, false, false, false, false, false, false, false, false, false, false, false, false, false, false, false, false, false, false, false, false, false, false, false] rfl rfl (any_of HT_.out (by kernel_rfl)) (fun _ _ _ h => h) (Or.inl ⟨by rfl, ?_⟩) ?_ ?_
              rotate_left
              ·intro w'
               go_simp
               with_reducible rfl
              rotate_left
              ·simp only [Act.put, List.setIfInBounds_toArray, List.set_cons_zero, List.set_cons_succ, i64_w, i32_w]
               rfl
              refine pure_ (i := 7) (N := some 118) (v := ?_) (a' := ?_) #[true, true, true, true, true, true, true, true, false, false, false, false, false, false, false, false, false, false, false, false, false, false, false, false, false, false, false, false, false, false, false, false, false] rfl rfl (any_of HT_.out (by kernel_rfl)) (fun _ _ _ h => h) (Or.inl ⟨by rfl, ?_⟩) ?_ ?_
              rotate_left
              ·intro w'
               go_simp
               with_reducible rfl
              rotate_left
              ·simp only [Act.put, List.setIfInBounds_toArray, List.set_cons_zero, List.set_cons_succ, i64_w, i32_w]
               rfl
              refine take_ (i := 8) (N := some 119) (v := ?_) (a' := ?_) #[true, true, true, true, true, true, true, true, true, false, false, false, false, false, false, false, false, false, false, false, false, false, false, false, false, false, false, false, false, false, false, false, false] rfl rfl (take_ofW HT_.out HW_.out (by kernel_rfl)) (fun _ _ _ h => h) (Or.inl ⟨by rfl, ?_⟩) hHeld ?_ ?_
              rotate_left
              ·rintro w' ⟨s0, s1, s2, s3, s4, s5, s6, s7, s8, s9, s10, s11, s12⟩
               go_simp
               with_reducible rfl
              rotate_left
              ·simp only [Act.put, List.setIfInBounds_toArray, List.set_cons_zero, List.set_cons_succ, i64_w, i32_w]
               rfl
              refine take_ (i := 9) (N := some 120) (v := ?_) (a' := ?_) #[true, true, true, true, true, true, true, true, true, true, false, false, false, false, false, false, false, false, false, false, false, false, false, false, false, false, false, false, false, false, false, false, false] rfl rfl (take_ofW HT_.out HW_.out (by kernel_rfl)) (fun _ _ _ h => h) (Or.inl ⟨by rfl, ?_⟩) hHeld ?_ ?_
              rotate_left
              ·rintro w' ⟨s0, s1, s2, s3, s4, s5, s6, s7, s8, s9, s10, s11, s12⟩
               go_simp
               with_reducible rfl
              rotate_left
              ·simp only [Act.put, List.setIfInBounds_toArray, List.set_cons_zero, List.set_cons_succ, i64_w, i32_w]
               rfl
              refine pure_ (i := 10) (N := some 121) (v := ?_) (a' := ?_) #[true, true, true, true, true, true, true, true, true, true, true, false, false, false, false, false, false, false, false, false, false, false, false, false, false, false, false, false, false, false, false, false, false] rfl rfl (any_of HT_.out (by kernel_rfl)) (fun _ _ _ h => h) (Or.inl ⟨by rfl, ?_⟩) ?_ ?_
              rotate_left
              ·intro w'
               go_simp
               with_reducible rfl
              rotate_left
              ·simp only [Act.put, List.setIfInBounds_toArray, List.set_cons_zero, List.set_cons_succ, i64_w, i32_w]
               rfl
              refine pure_ (i := 11) (N := some 122) (v := ?_) (a' := ?_) #[true, true, true, true, true, true, true, true, true, true, true, true, false, false, false, false, false, false, false, false, false, false, false, false, false, false, false, false, false, false, false, false, false] rfl rfl (any_of HT_.out (by kernel_rfl)) (fun _ _ _ h => h) (Or.inl ⟨by rfl, ?_⟩) ?_ ?_
              rotate_left
              ·intro w'
               go_simp
               with_reducible rfl
              rotate_left
              ·simp only [Act.put, List.setIfInBounds_toArray, List.set_cons_zero, List.set_cons_succ, i64_w, i32_w]
               rfl
              refine pure_ (i := 12) (N := some 123) (v := ?_) (a' := ?_) #[true, true, true, true, true, true, true, true, true, true, true, true, true, false, false, false, false, false, false, false, false, false, false, false, false, false, false, false, false, false, false, false, false] rfl rfl (any_of HT_.out (by kernel_rfl)) (fun _ _ _ h => h) (Or.inl ⟨by rfl, ?_⟩) ?_ ?_
              rotate_left
              ·intro w'
               go_simp
               with_reducible rfl
              rotate_left
              ·simp only [Act.put, List.setIfInBounds_toArray, List.set_cons_zero, List.set_cons_succ, i64_w, i32_w]
               rfl
              refine pure_ (i := 13) (N := some 124) (v := ?_) (a' := ?_) #[true, true, true, true, true, true, true, true, true, true, true, true, true, true, false, false, false, false, false, false, false, false, false, false, false, false, false, false, false, false, false, false, false] rfl rfl (any_of HT_.out (by kernel_rfl)) (fun _ _ _ h => h) (Or.inl ⟨by rfl, ?_⟩) ?_ ?_
              rotate_left
              ·intro w'
               go_simp
               with_reducible rfl
              rotate_left
              ·simp only [Act.put, List.setIfInBounds_toArray, List.set_cons_zero, List.set_cons_succ, i64_w, i32_w]
               rfl
              refine take_ (i := 14) (N := some 125) (v := ?_) (a' := ?_) #[true, true, true, true, true, true, true, true, true, true, true, true, true, true, true, false, false, false, false, false, false, false, false, false, false, false, false, false, false, false, false, false, false] rfl rfl (take_ofW HT_.out HW_.out (by kernel_rfl)) (fun _ _ _ h => h) (Or.inl ⟨by rfl, ?_⟩) hHeld ?_ ?_
              rotate_left
              ·rintro w' ⟨s0, s1, s2, s3, s4, s5, s6, s7, s8, s9, s10, s11, s12⟩
               go_simp
               with_reducible rfl
              rotate_left
              ·simp only [Act.put, List.setIfInBounds_toArray, List.set_cons_zero, List.set_cons_succ, i64_w, i32_w]
               rfl
              refine take_ (i := 15) (N := some 126) (v := ?_) (a' := ?_) #[true, true, true, true, true, true, true, true, true, true, true, true, true, true, true, true, false, false, false, false, false, false, false, false, false, false, false, false, false, false, false, false, false] rfl rfl (take_ofW HT_.out HW_.out (by kernel_rfl)) (fun _ _ _ h => h) (Or.inl ⟨by rfl, ?_⟩) hHeld ?_ ?_
              rotate_left
              ·rintro w' ⟨s0, s1, s2, s3, s4, s5, s6, s7, s8, s9, s10, s11, s12⟩
               go_simp
               with_reducible rfl
              rotate_left
              ·simp only [Act.put, List.setIfInBounds_toArray, List.set_cons_zero, List.set_cons_succ, i64_w, i32_w]
               rfl
              refine pure_ (i := 16) (N := some 127) (v := ?_) (a' := ?_) #[true, true, true, true, true, true, true, true, true, true, true, true, true, true, true, true, true, false, false, false, false, false, false, false, false, false, false, false, false, false, false, false, false] rfl rfl (any_of HT_.out (by kernel_rfl)) (fun _ _ _ h => h) (Or.inl ⟨by rfl, ?_⟩) ?_ ?_
              rotate_left
              ·intro w'
               go_simp
               with_reducible rfl
              rotate_left
              ·simp only [Act.put, List.setIfInBounds_toArray, List.set_cons_zero, List.set_cons_succ, i64_w, i32_w]
               rfl
              refine pure_ (i := 17) (N := some 128) (v := ?_) (a' := ?_) #[true, true, true, true, true, true, true, true, true, true, true, true, true, true, true, true, true, true, false, false, false, false, false, false, false, false, false, false, false, false, false, false, false] rfl rfl (any_of HT_.out (by kernel_rfl)) (fun _ _ _ h => h) (Or.inl ⟨by rfl, ?_⟩) ?_ ?_
              rotate_left
              ·intro w'
               go_simp
               with_reducible rfl
              rotate_left
              ·simp only [Act.put, List.setIfInBounds_toArray, List.set_cons_zero, List.set_cons_succ, i64_w, i32_w]
               rfl
              refine pure_ (i := 18) (N := some 129) (v := ?_) (a' := ?_) #[true, true, true, true, true, true, true, true, true, true, true, true, true, true, true, true, true, true, true, false, false, false, false, false, false, false, false, false, false, false, false, false, false] rfl rfl (any_of HT_.out (by kernel_rfl)) (fun _ _ _ h => h) (Or.inl ⟨by rfl, ?_⟩) ?_ ?_
              rotate_left
              ·intro w'
               go_simp
               with_reducible rfl
              rotate_left
              ·simp only [Act.put, List.setIfInBounds_toArray, List.set_cons_zero, List.set_cons_succ, i64_w, i32_w]
               rfl
              refine pure_ (i := 19) (N := some 130) (v := undef) (a' := ?_) #[true, true, true, true, true, true, true, true, true, true, true, true, true, true, true, true, true, true, true, true, false, false, false, false, false, false, false, false, false, false, false, false, false] rfl rfl (any_of HT_.out (by kernel_rfl)) (fun _ _ _ h => h) (Or.inr ⟨by rfl, rfl⟩) ?_ ?_
              rotate_left
              ·simp only [Act.put, List.setIfInBounds_toArray, List.set_cons_zero, List.set_cons_succ, i64_w, i32_w]
               rfl
              refine pure_ (i := 20) (N := some 131) (v := undef) (a' := ?_) #[true, true, true, true, true, true, true, true, true, true, true, true, true, true, true, true, true, true, true, true, true, false, false, false, false, false, false, false, false, false, false, false, false] rfl rfl (any_of HT_.out (by kernel_rfl)) (fun _ _ _ h => h) (Or.inr ⟨by rfl, rfl⟩) ?_ ?_
              rotate_left
              ·simp only [Act.put, List.setIfInBounds_toArray, List.set_cons_zero, List.set_cons_succ, i64_w, i32_w]
               rfl
              refine pure_ (i := 21) (N := some 132) (v := undef) (a' := ?_) #[true, true, true, true, true, true, true, true, true, true, true, true, true, true, true, true, true, true, true, true, true, true, false, false, false, false, false, false, false, false, false, false, false] rfl rfl (any_of HT_.out (by kernel_rfl)) (fun _ _ _ h => h) (Or.inr ⟨by rfl, rfl⟩) ?_ ?_
              rotate_left
              ·simp only [Act.put, List.setIfInBounds_toArray, List.set_cons_zero, List.set_cons_succ, i64_w, i32_w]
               rfl
              refine pure_ (i := 22) (N := some 133) (v := ?_) (a' := ?_) #[true, true, true, true, true, true, true, true, true, true, true, true, true, true, true, true, true, true, true, true, true, true, true, false, false, false, false, false, false, false, false, false, false] rfl rfl (any_of HT_.out (by kernel_rfl)) (fun _ _ _ h => h) (Or.inl ⟨by rfl, ?_⟩) ?_ ?_
              rotate_left
              ·intro w'
               go_simp
               with_reducible rfl
              rotate_left
              ·simp only [Act.put, List.setIfInBounds_toArray, List.set_cons_zero, List.set_cons_succ, i64_w, i32_w]
               rfl
              refine pure_ (i := 23) (N := some 134) (v := ?_) (a' := ?_) #[true, true, true, true, true, true, true, true, true, true, true, true, true, true, true, true, true, true, true, true, true, true, true, true, false, false, false, false, false, false, false, false, false] rfl rfl (any_of HT_.out (by kernel_rfl)) (fun _ _ _ h => h) (Or.inl ⟨by rfl, ?_⟩) ?_ ?_
              rotate_left
              ·intro w'
               go_simp
               with_reducible rfl
              rotate_left
              ·simp only [Act.put, List.setIfInBounds_toArray, List.set_cons_zero, List.set_cons_succ, i64_w, i32_w]
               rfl
              refine pure_ (i := 24) (N := some 135) (v := undef) (a' := ?_) #[true, true, true, true, true, true, true, true, true, true, true, true, true, true, true, true, true, true, true, true, true, true, true, true, true, false, false, false, false, false, false, false, false] rfl rfl (any_of HT_.out (by kernel_rfl)) (fun _ _ _ h => h) (Or.inr ⟨by rfl, rfl⟩) ?_ ?_
              rotate_left
              ·simp only [Act.put, List.setIfInBounds_toArray, List.set_cons_zero, List.set_cons_succ, i64_w, i32_w]
               rfl
              refine pure_ (i := 25) (N := some 136) (v := undef) (a' := ?_) #[true, true, true, true, true, true, true, true, true, true, true, true, true, true, true, true, true, true, true, true, true, true, true, true, true, true, false, false, false, false, false, false, false] rfl rfl (any_of HT_.out (by kernel_rfl)) (fun _ _ _ h => h) (Or.inr ⟨by rfl, rfl⟩) ?_ ?_
              rotate_left
              ·simp only [Act.put, List.setIfInBounds_toArray, List.set_cons_zero, List.set_cons_succ, i64_w, i32_w]
               rfl
              refine pure_ (i := 26) (N := some 137) (v := undef) (a' := ?_) #[true, true, true, true, true, true, true, true, true, true, true, true, true, true, true, true, true, true, true, true, true, true, true, true, true, true, true, false, false, false, false, false, false] rfl rfl (any_of HT_.out (by kernel_rfl)) (fun _ _ _ h => h) (Or.inr ⟨by rfl, rfl⟩) ?_ ?_
              rotate_left
              ·simp only [Act.put, List.setIfInBounds_toArray, List.set_cons_zero, List.set_cons_succ, i64_w, i32_w]
               rfl
              refine pure_ (i := 27) (N := some 138) (v := undef) (a' := ?_) #[true, true, true, true, true, true, true, true, true, true, true, true, true, true, true, true, true, true, true, true, true, true, true, true, true, true, true, true, false, false, false, false, false] rfl rfl (any_of HT_.out (by kernel_rfl)) (fun _ _ _ h => h) (Or.inr ⟨by rfl, rfl⟩) ?_ ?_
              rotate_left
              ·simp only [Act.put, List.setIfInBounds_toArray, List.set_cons_zero, List.set_cons_succ, i64_w, i32_w]
               rfl
              refine pure_ (i := 28) (N := some 139) (v := undef) (a' := ?_) #[true, true, true, true, true, true, true, true, true, true, true, true, true, true, true, true, true, true, true, true, true, true, true, true, true, true, true, true, true, false, false, false, false] rfl rfl (any_of HT_.out (by kernel_rfl)) (fun _ _ _ h => h) (Or.inr ⟨by rfl, rfl⟩) ?_ ?_
              rotate_left
              ·simp only [Act.put, List.setIfInBounds_toArray, List.set_cons_zero, List.set_cons_succ, i64_w, i32_w]
               rfl
              refine pure_ (i := 29) (N := some 140) (v := undef) (a' := ?_) #[true, true, true, true, true, true, true, true, true, true, true, true, true, true, true, true, true, true, true, true, true, true, true, true, true, true, true, true, true, true, false, false, false] rfl rfl (any_of HT_.out (by kernel_rfl)) (fun _ _ _ h => h) (Or.inr ⟨by rfl, rfl⟩) ?_ ?_
              rotate_left
              ·simp only [Act.put, List.setIfInBounds_toArray, List.set_cons_zero, List.set_cons_succ, i64_w, i32_w]
               rfl
              refine pure_ (i := 30) (N := some 141) (v := undef) (a' := ?_) #[true, true, true, true, true, true, true, true, true, true, true, true, true, true, true, true, true, true, true, true, true, true, true, true, true, true, true, true, true, true, true, false, false] rfl rfl (any_of HT_.out (by kernel_rfl)) (fun _ _ _ h => h) (Or.inr ⟨by rfl, rfl⟩) ?_ ?_
              rotate_left
              ·simp only [Act.put, List.setIfInBounds_toArray, List.set_cons_zero, List.set_cons_succ, i64_w, i32_w]
               rfl
              refine pure_ (i := 31) (N := some 142) (v := ?_) (a' := ?_) #[true, true, true, true, true, true, true, true, true, true, true, true, true, true, true, true, true, true, true, true, true, true, true, true, true, true, true, true, true, true, true, true, false] rfl rfl (any_of HT_.out (by kernel_rfl)) (fun _ _ _ h => h) (Or.inl ⟨by rfl, ?_⟩) ?_ ?_
              rotate_left
              ·intro w'
               go_simp
               with_reducible rfl
              rotate_left
              ·simp only [Act.put, List.setIfInBounds_toArray, List.set_cons_zero, List.set_cons_succ, i64_w, i32_w]
               rfl
              refine pure_ (i := 32) (N := some 4) (v := ?_) (a' := ?_) #[true, true, true, true, true, true, true, true, true, true, true, true, true, true, true, true, true, true, true, true, true, true, true, true, true, true, true, true, true, true, true, true, true] rfl rfl (any_of HT_.out (by kernel_rfl)) (fun _ _ _ h => h) (Or.inl ⟨by rfl, ?_⟩) ?_ ?_
              rotate_left
              ·intro w'
               go_simp
               with_reducible rfl
              rotate_left
              ·simp only [Act.put, List.setIfInBounds_toArray, List.set_cons_zero, List.set_cons_succ, i64_w, i32_w]
               rfl
              refine done_ (done_of HT_.out (by kernel_rfl)) ?_
              try go_wp2
              go_meet
              case rel => exact ⟨_, (false), (by first | rfl | (simp; done) | (simp [*]; done)), H', ⟨by have := HJ10.out; have := HJ33.out; first | omega | exact Nat.le_refl _⟩, ⟨bkn BK486⟩, ⟨bkn BK492⟩, ⟨bkn BK497⟩, ⟨bkn BK511⟩, ⟨bkn BK518⟩, ⟨bw⟩⟩
            ·rw [if_neg c66] at H
             have c66b0 : (t505 == t488 && (t506 == t489 && (t507 == t490))) = false := by simpa using c66
             (try (have c66b1 : decide (t505 = t488 && (t506 == t489 && (t507 == t490))) = false := by simpa using c66))
             (try (have c66b2 : (t505 == t488 && (t506 == t489 && (t507 == t490))) = false := by simpa using c66))
             (try (have c66b3 : ¬ (t505 = t488 && (t506 == t489 && (t507 == t490))) := by simpa using c66))
             clear c66
             have H' := AX H
             clear H
             try go_wp2
             have n0_ : Aside0 ((((((w58.setCell ⟨gb518, 0, none⟩ (.int .i64 t512)).setCell ⟨gb518, 1, none⟩ (.int .i64 t513)).setCell ⟨gb518, 2, none⟩ (.int .i64 t514)).setCell ⟨gb518, 3, none⟩ (.int .i64 t515)).setCell ⟨gb518, 4, none⟩ (.int .i64 t516)).heap[gb486]? = some (.cells #[.int .i64 a0_0, .int .i64 a0_1, .int .i64 a0_2, .int .i64 a0_3, .int .i64 a0_4, .int .i64 a0_5, .int .i64 a0_6, .int .i64 a0_7, .int .i64 a0_8, .int .i64 a0_9] 25 (0, 0))) := ⟨by (with_reducible repeat first|refine blk_drewN ?_ _|refine blk_drew ?_|refine blk_alloc ?_ _); refine blk_far ?_ NB486_518.out _; (with_reducible repeat first|refine blk_drewN ?_ _|refine blk_drew ?_|refine blk_alloc ?_ _); refine blk_far ?_ NB486_518.out _; (with_reducible repeat first|refine blk_drewN ?_ _|refine blk_drew ?_|refine blk_alloc ?_ _); refine blk_far ?_ NB486_518.out _; (with_reducible repeat first|refine blk_drewN ?_ _|refine blk_drew ?_|refine blk_alloc ?_ _); refine blk_far ?_ NB486_518.out _; (with_reducible repeat first|refine blk_drewN ?_ _|refine blk_drew ?_|refine blk_alloc ?_ _); refine blk_far ?_ NB486_518.out _; (with_reducible repeat first|refine blk_drewN ?_ _|refine blk_drew ?_|refine blk_alloc ?_ _); exact BK486.out⟩
             have n1_ : Aside0 ((((((w58.setCell ⟨gb518, 0, none⟩ (.int .i64 t512)).setCell ⟨gb518, 1, none⟩ (.int .i64 t513)).setCell ⟨gb518, 2, none⟩ (.int .i64 t514)).setCell ⟨gb518, 3, none⟩ (.int .i64 t515)).setCell ⟨gb518, 4, none⟩ (.int .i64 t516)).heap[gb492]? = some (.cells #[.int .i64 t488, .int .i64 t489, .int .i64 t490] 33 (0, 0))) := ⟨by (with_reducible repeat first|refine blk_drewN ?_ _|refine blk_drew ?_|refine blk_alloc ?_ _); refine blk_far ?_ NB492_518.out _; (with_reducible repeat first|refine blk_drewN ?_ _|refine blk_drew ?_|refine blk_alloc ?_ _); refine blk_far ?_ NB492_518.out _; (with_reducible repeat first|refine blk_drewN ?_ _|refine blk_drew ?_|refine blk_alloc ?_ _); refine blk_far ?_ NB492_518.out _; (with_reducible repeat first|refine blk_drewN ?_ _|refine blk_drew ?_|refine blk_alloc ?_ _); refine blk_far ?_ NB492_518.out _; (with_reducible repeat first|refine blk_drewN ?_ _|refine blk_drew ?_|refine blk_alloc ?_ _); refine blk_far ?_ NB492_518.out _; (with_reducible repeat first|refine blk_drewN ?_ _|refine blk_drew ?_|refine blk_alloc ?_ _); exact BK492.out⟩
             have n2_ : Aside0 ((((((w58.setCell ⟨gb518, 0, none⟩ (.int .i64 t512)).setCell ⟨gb518, 1, none⟩ (.int .i64 t513)).setCell ⟨gb518, 2, none⟩ (.int .i64 t514)).setCell ⟨gb518, 3, none⟩ (.int .i64 t515)).setCell ⟨gb518, 4, none⟩ (.int .i64 t516)).heap[gb497]? = some (.cells #[.int .i64 t493, .int .i64 t494, .int .i64 t495] 33 (0, 0))) := ⟨by (with_reducible repeat first|refine blk_drewN ?_ _|refine blk_drew ?_|refine blk_alloc ?_ _); refine blk_far ?_ NB497_518.out _; (with_reducible repeat first|refine blk_drewN ?_ _|refine blk_drew ?_|refine blk_alloc ?_ _); refine blk_far ?_ NB497_518.out _; (with_reducible repeat first|refine blk_drewN ?_ _|refine blk_drew ?_|refine blk_alloc ?_ _); refine blk_far ?_ NB497_518.out _; (with_reducible repeat first|refine blk_drewN ?_ _|refine blk_drew ?_|refine blk_alloc ?_ _); refine blk_far ?_ NB497_518.out _; (with_reducible repeat first|refine blk_drewN ?_ _|refine blk_drew ?_|refine blk_alloc ?_ _); refine blk_far ?_ NB497_518.out _; (with_reducible repeat first|refine blk_drewN ?_ _|refine blk_drew ?_|refine blk_alloc ?_ _); exact BK497.out⟩
             have n3_ : Aside0 ((((((w58.setCell ⟨gb518, 0, none⟩ (.int .i64 t512)).setCell ⟨gb518, 1, none⟩ (.int .i64 t513)).setCell ⟨gb518, 2, none⟩ (.int .i64 t514)).setCell ⟨gb518, 3, none⟩ (.int .i64 t515)).setCell ⟨gb518, 4, none⟩ (.int .i64 t516)).heap[gb511]? = some (.cells #[.int .i64 t505, .int .i64 t506, .int .i64 t507, .int .i64 t508, .int .i64 t509] 35 (0, 0))) := ⟨by (with_reducible repeat first|refine blk_drewN ?_ _|refine blk_drew ?_|refine blk_alloc ?_ _); refine blk_far ?_ NB511_518.out _; (with_reducible repeat first|refine blk_drewN ?_ _|refine blk_drew ?_|refine blk_alloc ?_ _); refine blk_far ?_ NB511_518.out _; (with_reducible repeat first|refine blk_drewN ?_ _|refine blk_drew ?_|refine blk_alloc ?_ _); refine blk_far ?_ NB511_518.out _; (with_reducible repeat first|refine blk_drewN ?_ _|refine blk_drew ?_|refine blk_alloc ?_ _); refine blk_far ?_ NB511_518.out _; (with_reducible repeat first|refine blk_drewN ?_ _|refine blk_drew ?_|refine blk_alloc ?_ _); refine blk_far ?_ NB511_518.out _; (with_reducible repeat first|refine blk_drewN ?_ _|refine blk_drew ?_|refine blk_alloc ?_ _); exact BK511.out⟩
             have n4_ : Aside0 ((((((w58.setCell ⟨gb518, 0, none⟩ (.int .i64 t512)).setCell ⟨gb518, 1, none⟩ (.int .i64 t513)).setCell ⟨gb518, 2, none⟩ (.int .i64 t514)).setCell ⟨gb518, 3, none⟩ (.int .i64 t515)).setCell ⟨gb518, 4, none⟩ (.int .i64 t516)).heap[gb518]? = some (.cells #[.int .i64 t512, .int .i64 t513, .int .i64 t514, .int .i64 t515, .int .i64 t516] 35 (0, 0))) := ⟨by (with_reducible repeat first|refine blk_drewN ?_ _|refine blk_drew ?_|refine blk_alloc ?_ _); refine blk_put (cs := #[.int .i64 t512, .int .i64 t513, .int .i64 t514, .int .i64 t515, .int .i64 0]) ?_ 4 _ rfl; (with_reducible repeat first|refine blk_drewN ?_ _|refine blk_drew ?_|refine blk_alloc ?_ _); refine blk_put (cs := #[.int .i64 t512, .int .i64 t513, .int .i64 t514, .int .i64 0, .int .i64 0]) ?_ 3 _ rfl; (with_reducible repeat first|refine blk_drewN ?_ _|refine blk_drew ?_|refine blk_alloc ?_ _); refine blk_put (cs := #[.int .i64 t512, .int .i64 t513, .int .i64 0, .int .i64 0, .int .i64 0]) ?_ 2 _ rfl; (with_reducible repeat first|refine blk_drewN ?_ _|refine blk_drew ?_|refine blk_alloc ?_ _); refine blk_put (cs := #[.int .i64 t512, .int .i64 0, .int .i64 0, .int .i64 0, .int .i64 0]) ?_ 1 _ rfl; (with_reducible repeat first|refine blk_drewN ?_ _|refine blk_drew ?_|refine blk_alloc ?_ _); refine blk_put (cs := #[.int .i64 0, .int .i64 0, .int .i64 0, .int .i64 0, .int .i64 0]) ?_ 0 _ rfl; (with_reducible repeat first|refine blk_drewN ?_ _|refine blk_drew ?_|refine blk_alloc ?_ _); exact BK518.out⟩
             have n5_ : Aside0 (Below w.heap.size w (((((w58.setCell ⟨gb518, 0, none⟩ (.int .i64 t512)).setCell ⟨gb518, 1, none⟩ (.int .i64 t513)).setCell ⟨gb518, 2, none⟩ (.int .i64 t514)).setCell ⟨gb518, 3, none⟩ (.int .i64 t515)).setCell ⟨gb518, 4, none⟩ (.int .i64 t516))) := ⟨bw⟩
             (try clear BK486)
             (try clear BK492)
             (try clear BK497)
             (try clear BK511)
             (try clear BK518)
             (try clear HB)
             generalize (((((w58.setCell ⟨gb518, 0, none⟩ (.int .i64 t512)).setCell ⟨gb518, 1, none⟩ (.int .i64 t513)).setCell ⟨gb518, 2, none⟩ (.int .i64 t514)).setCell ⟨gb518, 3, none⟩ (.int .i64 t515)).setCell ⟨gb518, 4, none⟩ (.int .i64 t516)) = w77 at n0_ n1_ n2_ n3_ n4_ n5_ ⊢
             have BK486 := n0_
             have BK492 := n1_
             have BK497 := n2_
             have BK511 := n3_
             have BK518 := n4_
             have HB := n5_
             clear n0_ n1_ n2_ n3_ n4_ n5_
             have n0_ := AX (blk_drew BK486.out)
             have n1_ := AX (blk_drew BK492.out)
             have n2_ := AX (blk_drew BK497.out)
             have n3_ := AX (blk_drew BK511.out)
             have n4_ := AX (blk_drew BK518.out)
             have n5_ := AX (below_drew1 HB.out)
             clear BK486
             clear BK492
             clear BK497
             clear BK511
             clear BK518
             clear HB
             have BK486 := n0_
             have BK492 := n1_
             have BK497 := n2_
             have BK511 := n3_
             have BK518 := n4_
             have HB := n5_
             clear n0_ n1_ n2_ n3_ n4_ n5_
             refine start_ (n := 33) (S := fun w' => w'.cell? ⟨gb511, 0, none⟩ = some (.int .i64 t505) ∧ w'.cell? ⟨gb511, 1, none⟩ = some (.int .i64 t506) ∧ w'.cell? ⟨gb511, 2, none⟩ = some (.int .i64 t507) ∧ w'.cell? ⟨gb511, 3, none⟩ = some (.int .i64 t508) ∧ w'.cell? ⟨gb511, 4, none⟩ = some (.int .i64 t509) ∧ w'.cell? ⟨gb492, 0, none⟩ = some (.int .i64 t488) ∧ w'.cell? ⟨gb492, 1, none⟩ = some (.int .i64 t489) ∧ w'.cell? ⟨gb492, 2, none⟩ = some (.int .i64 t490)) (ds := []) #[false, false, false, false, false, false, false, false, false, false, false, false, false, false, false, false, false, false, false, false, false, false, false, false, false, false, false, false, false, false, false, false, false] (by kernel_rfl) rfl rfl ⟨(blk_cell BK511.out 0).trans rfl, (blk_cell BK511.out 1).trans rfl, (blk_cell BK511.out 2).trans rfl, (blk_cell BK511.out 3).trans rfl, (blk_cell BK511.out 4).trans rfl, (blk_cell BK492.out 0).trans rfl, (blk_cell BK492.out 1).trans rfl, (blk_cell BK492.out 2).trans rfl⟩ (fun hHeld => ?_); refine with_tabW pylonlaw04_ZoneDays.tab16 pylonlaw04_ZoneDays.bits16 (fun HT_ HW_ => ?_)
             generalize w77.drew = w78 at BK486 BK492 BK497 BK511 BK518 HB hHeld ⊢
             refine pure_ (i := 0) (N := some 111) (v := ?_) (a' := ?_) #[true, false, false, false, false, false, false, false, false, false, false, false, false, false, false, false, false, false, false, false, false, false, false, false, false, false, false, false, false, false, false, false, false] rfl rfl (any_of HT_.out (by kernel_rfl)) (fun _ _ _ h => h) (Or.inl ⟨by rfl, ?_⟩) ?_ ?_
             rotate_left
             ·intro w'
              go_simp
              with_reducible rfl
             rotate_left
             ·simp only [Act.put, List.setIfInBounds_toArray, List.set_cons_zero, List.set_cons_succ, i64_w, i32_w]
              rfl
             refine pure_ (i := 1) (N := some 112) (v := ?_) (a' := ?_) #[true, true, false, false, false, false, false, false, false, false, false, false, false, false, false, false, false, false, false, false, false, false, false, false, false, false, false, false, false, false, false, false, false] rfl rfl (any_of HT_.out (by kernel_rfl)) (fun _ _ _ h => h) (Or.inl ⟨by rfl, ?_⟩) ?_ ?_
             rotate_left
             ·intro w'
              go_simp
              with_reducible rfl
             rotate_left
             ·simp only [Act.put, List.setIfInBounds_toArray, List.set_cons_zero, List.set_cons_succ, i64_w, i32_w]
              rfl
             refine pure_ (i := 2) (N := some 113) (v := ?_) (a' := ?_) #[true, true, true, false, false, false, false, false, false, false, false, false, false, false, false, false, false, false, false, false, false, false, false, false, false, false, false, false, false, false, false, false, false] rfl rfl (any_of HT_.out (by kernel_rfl)) (fun _ _ _ h => h) (Or.inl ⟨by rfl, ?_⟩) ?_ ?_
             rotate_left
             ·intro w'
              go_simp
              with_reducible rfl
             rotate_left
             ·simp only [Act.put, List.setIfInBounds_toArray, List.set_cons_zero, List.set_cons_succ, i64_w, i32_w]
              rfl
             refine pure_ (i := 3) (N := some 114) (v := ?_) (a' := ?_) #[true, true, true, true, false, false, false, false, false, false, false, false, false, false, false, false, false, false, false, false, false, false, false, false, false, false, false, false, false, false, false, false, false] rfl rfl (any_of HT_.out (by kernel_rfl)) (fun _ _ _ h => h) (Or.inl ⟨by rfl, ?_⟩) ?_ ?_
             rotate_left
             ·intro w'
              go_simp
              with_reducible rfl
             rotate_left
             ·simp only [Act.put, List.setIfInBounds_toArray, List.set_cons_zero, List.set_cons_succ, i64_w, i32_w]
              rfl
             refine pure_ (i := 4) (N := some 115) (v := ?_) (a' := ?_) #[true, true, true, true, true, false, false, false, false, false, false, false, false, false, false, false, false, false, false, false, false, false, false, false, false, false, false, false, false, false, false, false, false] rfl rfl (any_of HT_.out (by kernel_rfl)) (fun _ _ _ h => h) (Or.inl ⟨by rfl, ?_⟩) ?_ ?_
             rotate_left
             ·intro w'
              go_simp
              with_reducible rfl
             rotate_left
             ·simp only [Act.put, List.setIfInBounds_toArray, List.set_cons_zero, List.set_cons_succ, i64_w, i32_w]
              rfl
             refine pure_ (i := 5) (N := some 116) (v := ?_) (a' := ?_) #[true, true, true, true, true, true, false, false, false, false, false, false, false, false, false, false, false, false, false, false, false, false, false, false, false, false, false, false, false, false, false, false, false] rfl rfl (any_of HT_.out (by kernel_rfl)) (fun _ _ _ h => h) (Or.inl ⟨by rfl, ?_⟩) ?_ ?_
             rotate_left
             ·intro w'
              go_simp
              with_reducible rfl
             rotate_left
             ·simp only [Act.put, List.setIfInBounds_toArray, List.set_cons_zero, List.set_cons_succ, i64_w, i32_w]
              rfl
             refine pure_ (i := 6) (N := some 117) (v := ?_) (a' := ?_) #[true, true, true, true, true, true, true, false, false, false, false, false, false, false, false, false, false, false, false, false, false, false, false, false, false, false, false, false, false, false, false, false, false] rfl rfl (any_of HT_.out (by kernel_rfl)) (fun _ _ _ h => h) (Or.inl ⟨by rfl, ?_⟩) ?_ ?_
             rotate_left
             ·intro w'
              go_simp
              with_reducible rfl
             rotate_left
             ·simp only [Act.put, List.setIfInBounds_toArray, List.set_cons_zero, List.set_cons_succ, i64_w, i32_w]
              rfl
             refine pure_ (i := 7) (N := some 118) (v := ?_) (a' := ?_) #[true, true, true, true, true, true, true, true, false, false, false, false, false, false, false, false, false, false, false, false, false, false, false, false, false, false, false, false, false, false, false, false, false] rfl rfl (any_of HT_.out (by kernel_rfl)) (fun _ _ _ h => h) (Or.inl ⟨by rfl, ?_⟩) ?_ ?_
             rotate_left
             ·intro w'
              go_simp
              with_reducible rfl
             rotate_left
             ·simp only [Act.put, List.setIfInBounds_toArray, List.set_cons_zero, List.set_cons_succ, i64_w, i32_w]
              rfl
             refine take_ (i := 8) (N := some 119) (v := ?_) (a' := ?_) #[true, true, true, true, true, true, true, true, true, false, false, false, false, false, false, false, false, false, false, false, false, false, false, false, false, false, false, false, false, false, false, false, false] rfl rfl (take_ofW HT_.out HW_.out (by kernel_rfl)) (fun _ _ _ h => h) (Or.inl ⟨by rfl, ?_⟩) hHeld ?_ ?_
             rotate_left
             ·rintro w' ⟨s0, s1, s2, s3, s4, s5, s6, s7⟩
              go_simp
              with_reducible rfl
             rotate_left
             ·simp only [Act.put, List.setIfInBounds_toArray, List.set_cons_zero, List.set_cons_succ, i64_w, i32_w]
              rfl
             refine take_ (i := 9) (N := some 120) (v := ?_) (a' := ?_) #[true, true, true, true, true, true, true, true, true, true, false, false, false, false, false, false, false, false, false, false, false, false, false, false, false, false, false, false, false, false, false, false, false] rfl rfl (take_ofW HT_.out HW_.out (by kernel_rfl)) (fun _ _ _ h => h) (Or.inl ⟨by rfl, ?_⟩) hHeld ?_ ?_
             rotate_left
             ·rintro w' ⟨s0, s1, s2, s3, s4, s5, s6, s7⟩
              go_simp
              with_reducible rfl
             rotate_left
             ·simp only [Act.put, List.setIfInBounds_toArray, List.set_cons_zero, List.set_cons_succ, i64_w, i32_w]
              rfl
             refine pure_ (i := 10) (N := some 121) (v := ?_) (a' := ?_) #[true, true, true, true, true, true, true, true, true, true, true, false, false, false, false, false, false, false, false, false, false, false, false, false, false, false, false, false, false, false, false, false, false] rfl rfl (any_of HT_.out (by kernel_rfl)) (fun _ _ _ h => h) (Or.inl ⟨by rfl, ?_⟩) ?_ ?_
             rotate_left
             ·intro w'
              go_simp
              with_reducible rfl
             rotate_left
             ·simp only [Act.put, List.setIfInBounds_toArray, List.set_cons_zero, List.set_cons_succ, i64_w, i32_w]
              rfl
             refine pure_ (i := 11) (N := some 122) (v := ?_) (a' := ?_) #[true, true, true, true, true, true, true, true, true, true, true, true, false, false, false, false, false, false, false, false, false, false, false, false, false, false, false, false, false, false, false, false, false] rfl rfl (any_of HT_.out (by kernel_rfl)) (fun _ _ _ h => h) (Or.inl ⟨by rfl, ?_⟩) ?_ ?_
             rotate_left
             ·intro w'
              go_simp
              with_reducible rfl
             rotate_left
             ·simp only [Act.put, List.setIfInBounds_toArray, List.set_cons_zero, List.set_cons_succ, i64_w, i32_w]
              rfl
             refine pure_ (i := 12) (N := some 123) (v := ?_) (a' := ?_) #[true, true, true, true, true, true, true, true, true, true, true, true, true, false, false, false, false, false, false, false, false, false, false, false, false, false, false, false, false, false, false, false, false] rfl rfl (any_of HT_.out (by kernel_rfl)) (fun _ _ _ h => h) (Or.inl ⟨by rfl, ?_⟩) ?_ ?_
             rotate_left
             ·intro w'
              go_simp
              with_reducible rfl
             rotate_left
             ·simp only [Act.put, List.setIfInBounds_toArray, List.set_cons_zero, List.set_cons_succ, i64_w, i32_w]
              rfl
             refine pure_ (i := 13) (N := some 124) (v := undef) (a' := ?_) #[true, true, true, true, true, true, true, true, true, true, true, true, true, true, false, false, false, false, false, false, false, false, false, false, false, false, false, false, false, false, false, false, false] rfl rfl (any_of HT_.out (by kernel_rfl)) (fun _ _ _ h => h) (Or.inr ⟨by rfl, rfl⟩) ?_ ?_
             rotate_left
             ·simp only [Act.put, List.setIfInBounds_toArray, List.set_cons_zero, List.set_cons_succ, i64_w, i32_w]
              rfl
             refine pure_ (i := 14) (N := some 125) (v := undef) (a' := ?_) #[true, true, true, true, true, true, true, true, true, true, true, true, true, true, true, false, false, false, false, false, false, false, false, false, false, false, false, false, false, false, false, false, false] rfl rfl (any_of HT_.out (by kernel_rfl)) (fun _ _ _ h => h) (Or.inr ⟨by rfl, rfl⟩) ?_ ?_
             rotate_left
             ·simp only [Act.put, List.setIfInBounds_toArray, List.set_cons_zero, List.set_cons_succ, i64_w, i32_w]
              rfl
             refine pure_ (i := 15) (N := some 126) (v := undef) (a' := ?_) #[true, true, true, true, true, true, true, true, true, true, true, true, true, true, true, true, false, false, false, false, false, false, false, false, false, false, false, false, false, false, false, false, false] rfl rfl (any_of HT_.out (by kernel_rfl)) (fun _ _ _ h => h) (Or.inr ⟨by rfl, rfl⟩) ?_ ?_
             rotate_left
             ·simp only [Act.put, List.setIfInBounds_toArray, List.set_cons_zero, List.set_cons_succ, i64_w, i32_w]
              rfl
             refine pure_ (i := 16) (N := some 127) (v := undef) (a' := ?_) #[true, true, true, true, true, true, true, true, true, true, true, true, true, true, true, true, true, false, false, false, false, false, false, false, false, false, false, false, false, false, false, false, false] rfl rfl (any_of HT_.out (by kernel_rfl)) (fun _ _ _ h => h) (Or.inr ⟨by rfl, rfl⟩) ?_ ?_
             rotate_left
             ·simp only [Act.put, List.setIfInBounds_toArray, List.set_cons_zero, List.set_cons_succ, i64_w, i32_w]
              rfl
             refine pure_ (i := 17) (N := some 128) (v := ?_) (a' := ?_) #[true, true, true, true, true, true, true, true, true, true, true, true, true, true, true, true, true, true, false, false, false, false, false, false, false, false, false, false, false, false, false, false, false] rfl rfl (any_of HT_.out (by kernel_rfl)) (fun _ _ _ h => h) (Or.inl ⟨by rfl, ?_⟩) ?_ ?_
             rotate_left
             ·intro w'
              go_simp
              with_reducible rfl
             rotate_left
             ·simp only [Act.put, List.setIfInBounds_toArray, List.set_cons_zero, List.set_cons_succ, i64_w, i32_w]
              rfl
             refine pure_ (i := 18) (N := some 129) (v := ?_) (a' := ?_) #[true, true, true, true, true, true, true, true, true, true, true, true, true, true, true, true, true, true, true, false, false, false, false, false, false, false, false, false, false, false, false, false, false] rfl rfl (any_of HT_.out (by kernel_rfl)) (fun _ _ _ h => h) (Or.inl ⟨by rfl, ?_⟩) ?_ ?_
             rotate_left
             ·intro w'
              go_simp
              with_reducible rfl
             rotate_left
             ·simp only [Act.put, List.setIfInBounds_toArray, List.set_cons_zero, List.set_cons_succ, i64_w, i32_w]
              rfl
             refine pure_ (i := 19) (N := some 130) (v := undef) (a' := ?_) #[true, true, true, true, true, true, true, true, true, true, true, true, true, true, true, true, true, true, true, true, false, false, false, false, false, false, false, false, false, false, false, false, false] rfl rfl (any_of HT_.out (by kernel_rfl)) (fun _ _ _ h => h) (Or.inr ⟨by rfl, rfl⟩) ?_ ?_
             rotate_left
             ·simp only [Act.put, List.setIfInBounds_toArray, List.set_cons_zero, List.set_cons_succ, i64_w, i32_w]
              rfl
             refine pure_ (i := 20) (N := some 131) (v := undef) (a' := ?_) #[true, true, true, true, true, true, true, true, true, true, true, true, true, true, true, true, true, true, true, true, true, false, false, false, false, false, false, false, false, false, false, false, false] rfl rfl (any_of HT_.out (by kernel_rfl)) (fun _ _ _ h => h) (Or.inr ⟨by rfl, rfl⟩) ?_ ?_
             rotate_left
             ·simp only [Act.put, List.setIfInBounds_toArray, List.set_cons_zero, List.set_cons_succ, i64_w, i32_w]
              rfl
             refine pure_ (i := 21) (N := some 132) (v := undef) (a' := ?_) #[true, true, true, true, true, true, true, true, true, true, true, true, true, true, true, true, true, true, true, true, true, true, false, false, false, false, false, false, false, false, false, false, false] rfl rfl (any_of HT_.out (by kernel_rfl)) (fun _ _ _ h => h) (Or.inr ⟨by rfl, rfl⟩) ?_ ?_
             rotate_left
             ·simp only [Act.put, List.setIfInBounds_toArray, List.set_cons_zero, List.set_cons_succ, i64_w, i32_w]
              rfl
             refine pure_ (i := 22) (N := some 133) (v := ?_) (a' := ?_) #[true, true, true, true, true, true, true, true, true, true, true, true, true, true, true, true, true, true, true, true, true, true, true, false, false, false, false, false, false, false, false, false, false] rfl rfl (any_of HT_.out (by kernel_rfl)) (fun _ _ _ h => h) (Or.inl ⟨by rfl, ?_⟩) ?_ ?_
             rotate_left
             ·intro w'
              go_simp
              with_reducible rfl
             rotate_left
             ·simp only [Act.put, List.setIfInBounds_toArray, List.set_cons_zero, List.set_cons_succ, i64_w, i32_w]
              rfl
             refine pure_ (i := 23) (N := some 134) (v := ?_) (a' := ?_) #[true, true, true, true, true, true, true, true, true, true, true, true, true, true, true, true, true, true, true, true, true, true, true, true, false, false, false, false, false, false, false, false, false] rfl rfl (any_of HT_.out (by kernel_rfl)) (fun _ _ _ h => h) (Or.inl ⟨by rfl, ?_⟩) ?_ ?_
             rotate_left
             ·intro w'
              go_simp
              with_reducible rfl
             rotate_left
             ·simp only [Act.put, List.setIfInBounds_toArray, List.set_cons_zero, List.set_cons_succ, i64_w, i32_w]
              rfl
             refine pure_ (i := 24) (N := some 135) (v := undef) (a' := ?_) #[true, true, true, true, true, true, true, true, true, true, true, true, true, true, true, true, true, true, true, true, true, true, true, true, true, false, false, false, false, false, false, false, false] rfl rfl (any_of HT_.out (by kernel_rfl)) (fun _ _ _ h => h) (Or.inr ⟨by rfl, rfl⟩) ?_ ?_
             rotate_left
             ·simp only [Act.put, List.setIfInBounds_toArray, List.set_cons_zero, List.set_cons_succ, i64_w, i32_w]
              rfl
             refine pure_ (i := 25) (N := some 136) (v := undef) (a' := ?_) #[true, true, true, true, true, true, true, true, true, true, true, true, true, true, true, true, true, true, true, true, true, true, true, true, true, true, false, false, false, false, false, false, false] rfl rfl (any_of HT_.out (by kernel_rfl)) (fun _ _ _ h => h) (Or.inr ⟨by rfl, rfl⟩) ?_ ?_
             rotate_left
             ·simp only [Act.put, List.setIfInBounds_toArray, List.set_cons_zero, List.set_cons_succ, i64_w, i32_w]
              rfl
             refine pure_ (i := 26) (N := some 137) (v := undef) (a' := ?_) #[true, true, true, true, true, true, true, true, true, true, true, true, true, true, true, true, true, true, true, true, true, true, true, true, true, true, true, false, false, false, false, false, false] rfl rfl (any_of HT_.out (by kernel_rfl)) (fun _ _ _ h => h) (Or.inr ⟨by rfl, rfl⟩) ?_ ?_
             rotate_left
             ·simp only [Act.put, List.setIfInBounds_toArray, List.set_cons_zero, List.set_cons_succ, i64_w, i32_w]
              rfl
             refine pure_ (i := 27) (N := some 138) (v := undef) (a' := ?_) #[true, true, true, true, true, true, true, true, true, true, true, true, true, true, true, true, true, true, true, true, true, true, true, true, true, true, true, true, false, false, false, false, false] rfl rfl (any_of HT_.out (by kernel_rfl)) (fun _ _ _ h => h) (Or.inr ⟨by rfl, rfl⟩) ?_ ?_
             rotate_left
             ·simp only [Act.put, List.setIfInBounds_toArray, List.set_cons_zero, List.set_cons_succ, i64_w, i32_w]
              rfl
             refine pure_ (i := 28) (N := some 139) (v := undef) (a' := ?_) #[true, true, true, true, true, true, true, true, true, true, true, true, true, true, true, true, true, true, true, true, true, true, true, true, true, true, true, true, true, false, false, false, false] rfl rfl (any_of HT_.out (by kernel_rfl)) (fun _ _ _ h => h) (Or.inr ⟨by rfl, rfl⟩) ?_ ?_
             rotate_left
             ·simp only [Act.put, List.setIfInBounds_toArray, List.set_cons_zero, List.set_cons_succ, i64_w, i32_w]
              rfl
             refine pure_ (i := 29) (N := some 140) (v := undef) (a' := ?_) #[true, true, true, true, true, true, true, true, true, true, true, true, true, true, true, true, true, true, true, true, true, true, true, true, true, true, true, true, true, true, false, false, false] rfl rfl (any_of HT_.out (by kernel_rfl)) (fun _ _ _ h => h) (Or.inr ⟨by rfl, rfl⟩) ?_ ?_
             rotate_left
             ·simp only [Act.put, List.setIfInBounds_toArray, List.set_cons_zero, List.set_cons_succ, i64_w, i32_w]
              rfl
             refine pure_ (i := 30) (N := some 141) (v := undef) (a' := ?_) #[true, true, true, true, true, true, true, true, true, true, true, true, true, true, true, true, true, true, true, true, true, true, true, true, true, true, true, true, true, true, true, false, false] rfl rfl (any_of HT_.out (by kernel_rfl)) (fun _ _ _ h => h) (Or.inr ⟨by rfl, rfl⟩) ?_ ?_
             rotate_left
             ·simp only [Act.put, List.setIfInBounds_toArray, List.set_cons_zero, List.set_cons_succ, i64_w, i32_w]
              rfl
             refine pure_ (i := 31) (N := some 142) (v := ?_) (a' := ?_) #[true, true, true, true, true, true, true, true, true, true, true, true, true, true, true, true, true, true, true, true, true, true, true, true, true, true, true, true, true, true, true, true, false] rfl rfl (any_of HT_.out (by kernel_rfl)) (fun _ _ _ h => h) (Or.inl ⟨by rfl, ?_⟩) ?_ ?_
             rotate_left
             ·intro w'
              go_simp
              with_reducible rfl
             rotate_left
             ·simp only [Act.put, List.setIfInBounds_toArray, List.set_cons_zero, List.set_cons_succ, i64_w, i32_w]
              rfl
             refine pure_ (i := 32) (N := some 4) (v := ?_) (a' := ?_) #[true, true, true, true, true, true, true, true, true, true, true, true, true, true, true, true, true, true, true, true, true, true, true, true, true, true, true, true, true, true, true, true, true] rfl rfl (any_of HT_.out (by kernel_rfl)) (fun _ _ _ h => h) (Or.inl ⟨by rfl, ?_⟩) ?_ ?_
             rotate_left
             ·intro w'
              go_simp
              with_reducible rfl
             rotate_left
             ·simp only [Act.put, List.setIfInBounds_toArray, List.set_cons_zero, List.set_cons_succ, i64_w, i32_w]
              rfl
             refine done_ (done_of HT_.out (by kernel_rfl)) ?_
             try go_wp2
             go_meet
             case rel => exact ⟨_, (false), (by first | rfl | (simp; done) | (simp [*]; done)), H', ⟨by have := HJ10.out; have := HJ33.out; first | omega | exact Nat.le_refl _⟩, ⟨bkn BK486⟩, ⟨bkn BK492⟩, ⟨bkn BK497⟩, ⟨bkn BK511⟩, ⟨bkn BK518⟩, ⟨bw⟩⟩
           ·rw [if_neg c65] at H
            have c65b0 : (t517 == 0) = false := beq_eq_false_iff_ne.mpr c65
            have c65b1 : (t517 != 0) = true := bne_iff_ne.mpr c65
            have H' := AX H
            clear H
            try go_wp2
            have n0_ : Aside0 ((((((w58.setCell ⟨gb518, 0, none⟩ (.int .i64 t512)).setCell ⟨gb518, 1, none⟩ (.int .i64 t513)).setCell ⟨gb518, 2, none⟩ (.int .i64 t514)).setCell ⟨gb518, 3, none⟩ (.int .i64 t515)).setCell ⟨gb518, 4, none⟩ (.int .i64 t516)).heap[gb486]? = some (.cells #[.int .i64 a0_0, .int .i64 a0_1, .int .i64 a0_2, .int .i64 a0_3, .int .i64 a0_4, .int .i64 a0_5, .int .i64 a0_6, .int .i64 a0_7, .int .i64 a0_8, .int .i64 a0_9] 25 (0, 0))) := ⟨by (with_reducible repeat first|refine blk_drewN ?_ _|refine blk_drew ?_|refine blk_alloc ?_ _); refine blk_far ?_ NB486_518.out _; (with_reducible repeat first|refine blk_drewN ?_ _|refine blk_drew ?_|refine blk_alloc ?_ _); refine blk_far ?_ NB486_518.out _; (with_reducible repeat first|refine blk_drewN ?_ _|refine blk_drew ?_|refine blk_alloc ?_ _); refine blk_far ?_ NB486_518.out _; (with_reducible repeat first|refine blk_drewN ?_ _|refine blk_drew ?_|refine blk_alloc ?_ _); refine blk_far ?_ NB486_518.out _; (with_reducible repeat first|refine blk_drewN ?_ _|refine blk_drew ?_|refine blk_alloc ?_ _); refine blk_far ?_ NB486_518.out _; (with_reducible repeat first|refine blk_drewN ?_ _|refine blk_drew ?_|refine blk_alloc ?_ _); exact BK486.out⟩
            have n1_ : Aside0 ((((((w58.setCell ⟨gb518, 0, none⟩ (.int .i64 t512)).setCell ⟨gb518, 1, none⟩ (.int .i64 t513)).setCell ⟨gb518, 2, none⟩ (.int .i64 t514)).setCell ⟨gb518, 3, none⟩ (.int .i64 t515)).setCell ⟨gb518, 4, none⟩ (.int .i64 t516)).heap[gb492]? = some (.cells #[.int .i64 t488, .int .i64 t489, .int .i64 t490] 33 (0, 0))) := ⟨by (with_reducible repeat first|refine blk_drewN ?_ _|refine blk_drew ?_|refine blk_alloc ?_ _); refine blk_far ?_ NB492_518.out _; (with_reducible repeat first|refine blk_drewN ?_ _|refine blk_drew ?_|refine blk_alloc ?_ _); refine blk_far ?_ NB492_518.out _; (with_reducible repeat first|refine blk_drewN ?_ _|refine blk_drew ?_|refine blk_alloc ?_ _); refine blk_far ?_ NB492_518.out _; (with_reducible repeat first|refine blk_drewN ?_ _|refine blk_drew ?_|refine blk_alloc ?_ _); refine blk_far ?_ NB492_518.out _; (with_reducible repeat first|refine blk_drewN ?_ _|refine blk_drew ?_|refine blk_alloc ?_ _); refine blk_far ?_ NB492_518.out _; (with_reducible repeat first|refine blk_drewN ?_ _|refine blk_drew ?_|refine blk_alloc ?_ _); exact BK492.out⟩
            have n2_ : Aside0 ((((((w58.setCell ⟨gb518, 0, none⟩ (.int .i64 t512)).setCell ⟨gb518, 1, none⟩ (.int .i64 t513)).setCell ⟨gb518, 2, none⟩ (.int .i64 t514)).setCell ⟨gb518, 3, none⟩ (.int .i64 t515)).setCell ⟨gb518, 4, none⟩ (.int .i64 t516)).heap[gb497]? = some (.cells #[.int .i64 t493, .int .i64 t494, .int .i64 t495] 33 (0, 0))) := ⟨by (with_reducible repeat first|refine blk_drewN ?_ _|refine blk_drew ?_|refine blk_alloc ?_ _); refine blk_far ?_ NB497_518.out _; (with_reducible repeat first|refine blk_drewN ?_ _|refine blk_drew ?_|refine blk_alloc ?_ _); refine blk_far ?_ NB497_518.out _; (with_reducible repeat first|refine blk_drewN ?_ _|refine blk_drew ?_|refine blk_alloc ?_ _); refine blk_far ?_ NB497_518.out _; (with_reducible repeat first|refine blk_drewN ?_ _|refine blk_drew ?_|refine blk_alloc ?_ _); refine blk_far ?_ NB497_518.out _; (with_reducible repeat first|refine blk_drewN ?_ _|refine blk_drew ?_|refine blk_alloc ?_ _); refine blk_far ?_ NB497_518.out _; (with_reducible repeat first|refine blk_drewN ?_ _|refine blk_drew ?_|refine blk_alloc ?_ _); exact BK497.out⟩
            have n3_ : Aside0 ((((((w58.setCell ⟨gb518, 0, none⟩ (.int .i64 t512)).setCell ⟨gb518, 1, none⟩ (.int .i64 t513)).setCell ⟨gb518, 2, none⟩ (.int .i64 t514)).setCell ⟨gb518, 3, none⟩ (.int .i64 t515)).setCell ⟨gb518, 4, none⟩ (.int .i64 t516)).heap[gb511]? = some (.cells #[.int .i64 t505, .int .i64 t506, .int .i64 t507, .int .i64 t508, .int .i64 t509] 35 (0, 0))) := ⟨by (with_reducible repeat first|refine blk_drewN ?_ _|refine blk_drew ?_|refine blk_alloc ?_ _); refine blk_far ?_ NB511_518.out _; (with_reducible repeat first|refine blk_drewN ?_ _|refine blk_drew ?_|refine blk_alloc ?_ _); refine blk_far ?_ NB511_518.out _; (with_reducible repeat first|refine blk_drewN ?_ _|refine blk_drew ?_|refine blk_alloc ?_ _); refine blk_far ?_ NB511_518.out _; (with_reducible repeat first|refine blk_drewN ?_ _|refine blk_drew ?_|refine blk_alloc ?_ _); refine blk_far ?_ NB511_518.out _; (with_reducible repeat first|refine blk_drewN ?_ _|refine blk_drew ?_|refine blk_alloc ?_ _); refine blk_far ?_ NB511_518.out _; (with_reducible repeat first|refine blk_drewN ?_ _|refine blk_drew ?_|refine blk_alloc ?_ _); exact BK511.out⟩
            have n4_ : Aside0 ((((((w58.setCell ⟨gb518, 0, none⟩ (.int .i64 t512)).setCell ⟨gb518, 1, none⟩ (.int .i64 t513)).setCell ⟨gb518, 2, none⟩ (.int .i64 t514)).setCell ⟨gb518, 3, none⟩ (.int .i64 t515)).setCell ⟨gb518, 4, none⟩ (.int .i64 t516)).heap[gb518]? = some (.cells #[.int .i64 t512, .int .i64 t513, .int .i64 t514, .int .i64 t515, .int .i64 t516] 35 (0, 0))) := ⟨by (with_reducible repeat first|refine blk_drewN ?_ _|refine blk_drew ?_|refine blk_alloc ?_ _); refine blk_put (cs := #[.int .i64 t512, .int .i64 t513, .int .i64 t514, .int .i64 t515, .int .i64 0]) ?_ 4 _ rfl; (with_reducible repeat first|refine blk_drewN ?_ _|refine blk_drew ?_|refine blk_alloc ?_ _); refine blk_put (cs := #[.int .i64 t512, .int .i64 t513, .int .i64 t514, .int .i64 0, .int .i64 0]) ?_ 3 _ rfl; (with_reducible repeat first|refine blk_drewN ?_ _|refine blk_drew ?_|refine blk_alloc ?_ _); refine blk_put (cs := #[.int .i64 t512, .int .i64 t513, .int .i64 0, .int .i64 0, .int .i64 0]) ?_ 2 _ rfl; (with_reducible repeat first|refine blk_drewN ?_ _|refine blk_drew ?_|refine blk_alloc ?_ _); refine blk_put (cs := #[.int .i64 t512, .int .i64 0, .int .i64 0, .int .i64 0, .int .i64 0]) ?_ 1 _ rfl; (with_reducible repeat first|refine blk_drewN ?_ _|refine blk_drew ?_|refine blk_alloc ?_ _); refine blk_put (cs := #[.int .i64 0, .int .i64 0, .int .i64 0, .int .i64 0, .int .i64 0]) ?_ 0 _ rfl; (with_reducible repeat first|refine blk_drewN ?_ _|refine blk_drew ?_|refine blk_alloc ?_ _); exact BK518.out⟩
            have n5_ : Aside0 (Below w.heap.size w (((((w58.setCell ⟨gb518, 0, none⟩ (.int .i64 t512)).setCell ⟨gb518, 1, none⟩ (.int .i64 t513)).setCell ⟨gb518, 2, none⟩ (.int .i64 t514)).setCell ⟨gb518, 3, none⟩ (.int .i64 t515)).setCell ⟨gb518, 4, none⟩ (.int .i64 t516))) := ⟨bw⟩
            (try clear BK486)
            (try clear BK492)
            (try clear BK497)
            (try clear BK511)
            (try clear BK518)
            (try clear HB)
            generalize (((((w58.setCell ⟨gb518, 0, none⟩ (.int .i64 t512)).setCell ⟨gb518, 1, none⟩ (.int .i64 t513)).setCell ⟨gb518, 2, none⟩ (.int .i64 t514)).setCell ⟨gb518, 3, none⟩ (.int .i64 t515)).setCell ⟨gb518, 4, none⟩ (.int .i64 t516)) = w79 at n0_ n1_ n2_ n3_ n4_ n5_ ⊢
            have BK486 := n0_
            have BK492 := n1_
            have BK497 := n2_
            have BK511 := n3_
            have BK518 := n4_
            have HB := n5_
            clear n0_ n1_ n2_ n3_ n4_ n5_
            have n0_ := AX (blk_drew BK486.out)
            have n1_ := AX (blk_drew BK492.out)
            have n2_ := AX (blk_drew BK497.out)
            have n3_ := AX (blk_drew BK511.out)
            have n4_ := AX (blk_drew BK518.out)
            have n5_ := AX (below_drew1 HB.out)
            clear BK486
            clear BK492
            clear BK497
            clear BK511
            clear BK518
            clear HB
            have BK486 := n0_
            have BK492 := n1_
            have BK497 := n2_
            have BK511 := n3_
            have BK518 := n4_
            have HB := n5_
            clear n0_ n1_ n2_ n3_ n4_ n5_
            refine start_ (n := 33) (S := fun w' => True) (ds := []) #[false, false, false, false, false, false, false, false, false, false, false, false, false, false, false, false, false, false, false, false, false, false, false, false, false, false, false, false, false, false, false, false, false] (by kernel_rfl) rfl rfl trivial (fun hHeld => ?_); refine with_tabW pylonlaw04_ZoneDays.tab16 pylonlaw04_ZoneDays.bits16 (fun HT_ HW_ => ?_)
            generalize w79.drew = w80 at BK486 BK492 BK497 BK511 BK518 HB hHeld ⊢
            refine pure_ (i := 0) (N := some 111) (v := ?_) (a' := ?_) #[true, false, false, false, false, false, false, false, false, false, false, false, false, false, false, false, false, false, false, false, false, false, false, false, false, false, false, false, false, false, false, false, false] rfl rfl (any_of HT_.out (by kernel_rfl)) (fun _ _ _ h => h) (Or.inl ⟨by rfl, ?_⟩) ?_ ?_
            rotate_left
            ·intro w'
             go_simp
             with_reducible rfl
            rotate_left
            ·simp only [Act.put, List.setIfInBounds_toArray, List.set_cons_zero, List.set_cons_succ, i64_w, i32_w]
             rfl
            refine pure_ (i := 1) (N := some 112) (v := ?_) (a' := ?_) #[true, true, false, false, false, false, false, false, false, false, false, false, false, false, false, false, false, false, false, false, false, false, false, false, false, false, false, false, false, false, false, false, false] rfl rfl (any_of HT_.out (by kernel_rfl)) (fun _ _ _ h => h) (Or.inl ⟨by rfl, ?_⟩) ?_ ?_
            rotate_left
            ·intro w'
             go_simp
             with_reducible rfl
            rotate_left
            ·simp only [Act.put, List.setIfInBounds_toArray, List.set_cons_zero, List.set_cons_succ, i64_w, i32_w]
             rfl
            refine pure_ (i := 2) (N := some 113) (v := ?_) (a' := ?_) #[true, true, true, false, false, false, false, false, false, false, false, false, false, false, false, false, false, false, false, false, false, false, false, false, false, false, false, false, false, false, false, false, false] rfl rfl (any_of HT_.out (by kernel_rfl)) (fun _ _ _ h => h) (Or.inl ⟨by rfl, ?_⟩) ?_ ?_
            rotate_left
            ·intro w'
             go_simp
             with_reducible rfl
            rotate_left
            ·simp only [Act.put, List.setIfInBounds_toArray, List.set_cons_zero, List.set_cons_succ, i64_w, i32_w]
             rfl
            refine pure_ (i := 3) (N := some 114) (v := ?_) (a' := ?_) #[true, true, true, true, false, false, false, false, false, false, false, false, false, false, false, false, false, false, false, false, false, false, false, false, false, false, false, false, false, false, false, false, false] rfl rfl (any_of HT_.out (by kernel_rfl)) (fun _ _ _ h => h) (Or.inl ⟨by rfl, ?_⟩) ?_ ?_
            rotate_left
            ·intro w'
             go_simp
             with_reducible rfl
            rotate_left
            ·simp only [Act.put, List.setIfInBounds_toArray, List.set_cons_zero, List.set_cons_succ, i64_w, i32_w]
             rfl
            refine pure_ (i := 4) (N := some 115) (v := ?_) (a' := ?_) #[true, true, true, true, true, false, false, false, false, false, false, false, false, false, false, false, false, false, false, false, false, false, false, false, false, false, false, false, false, false, false, false, false] rfl rfl (any_of HT_.out (by kernel_rfl)) (fun _ _ _ h => h) (Or.inl ⟨by rfl, ?_⟩) ?_ ?_
            rotate_left
            ·intro w'
             go_simp
             with_reducible rfl
            rotate_left
            ·simp only [Act.put, List.setIfInBounds_toArray, List.set_cons_zero, List.set_cons_succ, i64_w, i32_w]
             rfl
            refine pure_ (i := 5) (N := some 116) (v := ?_) (a' := ?_) #[true, true, true, true, true, true, false, false, false, false, false, false, false, false, false, false, false, false, false, false, false, false, false, false, false, false, false, false, false, false, false, false, false] rfl rfl (any_of HT_.out (by kernel_rfl)) (fun _ _ _ h => h) (Or.inl ⟨by rfl, ?_⟩) ?_ ?_
            rotate_left
            ·intro w'
             go_simp
             with_reducible rfl
            rotate_left
            ·simp only [Act.put, List.setIfInBounds_toArray, List.set_cons_zero, List.set_cons_succ, i64_w, i32_w]
             rfl
            refine pure_ (i := 6) (N := some 117) (v := ?_) (a' := ?_) #[true, true, true, true, true, true, true, false, false, false, false, false, false, false, false, false, false, false, false, false, false, false, false, false, false, false, false, false, false, false, false, false, false] rfl rfl (any_of HT_.out (by kernel_rfl)) (fun _ _ _ h => h) (Or.inl ⟨by rfl, ?_⟩) ?_ ?_
            rotate_left
            ·intro w'
             go_simp
             with_reducible rfl
            rotate_left
            ·simp only [Act.put, List.setIfInBounds_toArray, List.set_cons_zero, List.set_cons_succ, i64_w, i32_w]
             rfl
            refine pure_ (i := 7) (N := some 118) (v := undef) (a' := ?_) #[true, true, true, true, true, true, true, true, false, false, false, false, false, false, false, false, false, false, false, false, false, false, false, false, false, false, false, false, false, false, false, false, false] rfl rfl (any_of HT_.out (by kernel_rfl)) (fun _ _ _ h => h) (Or.inr ⟨by rfl, rfl⟩) ?_ ?_
            rotate_left
            ·simp only [Act.put, List.setIfInBounds_toArray, List.set_cons_zero, List.set_cons_succ, i64_w, i32_w]
             rfl
            refine pure_ (i := 8) (N := some 119) (v := undef) (a' := ?_) #[true, true, true, true, true, true, true, true, true, false, false, false, false, false, false, false, false, false, false, false, false, false, false, false, false, false, false, false, false, false, false, false, false] rfl rfl (any_of HT_.out (by kernel_rfl)) (fun _ _ _ h => h) (Or.inr ⟨by rfl, rfl⟩) ?_ ?_
            rotate_left
            ·simp only [Act.put, List.setIfInBounds_toArray, List.set_cons_zero, List.set_cons_succ, i64_w, i32_w]
             rfl
            refine pure_ (i := 9) (N := some 120) (v := undef) (a' := ?_) #[true, true, true, true, true, true, true, true, true, true, false, false, false, false, false, false, false, false, false, false, false, false, false, false, false, false, false, false, false, false, false, false, false] rfl rfl (any_of HT_.out (by kernel_rfl)) (fun _ _ _ h => h) (Or.inr ⟨by rfl, rfl⟩) ?_ ?_
            rotate_left
            ·simp only [Act.put, List.setIfInBounds_toArray, List.set_cons_zero, List.set_cons_succ, i64_w, i32_w]
             rfl
            refine pure_ (i := 10) (N := some 121) (v := undef) (a' := ?_) #[true, true, true, true, true, true, true, true, true, true, true, false, false, false, false, false, false, false, false, false, false, false, false, false, false, false, false, false, false, false, false, false, false] rfl rfl (any_of HT_.out (by kernel_rfl)) (fun _ _ _ h => h) (Or.inr ⟨by rfl, rfl⟩) ?_ ?_
            rotate_left
            ·simp only [Act.put, List.setIfInBounds_toArray, List.set_cons_zero, List.set_cons_succ, i64_w, i32_w]
             rfl
            refine pure_ (i := 11) (N := some 122) (v := ?_) (a' := ?_) #[true, true, true, true, true, true, true, true, true, true, true, true, false, false, false, false, false, false, false, false, false, false, false, false, false, false, false, false, false, false, false, false, false] rfl rfl (any_of HT_.out (by kernel_rfl)) (fun _ _ _ h => h) (Or.inl ⟨by rfl, ?_⟩) ?_ ?_
            rotate_left
            ·intro w'
             go_simp
             with_reducible rfl
            rotate_left
            ·simp only [Act.put, List.setIfInBounds_toArray, List.set_cons_zero, List.set_cons_succ, i64_w, i32_w]
             rfl
            refine pure_ (i := 12) (N := some 123) (v := ?_) (a' := ?_) #[true, true, true, true, true, true, true, true, true, true, true, true, true, false, false, false, false, false, false, false, false, false, false, false, false, false, false, false, false, false, false, false, false] rfl rfl (any_of HT_.out (by kernel_rfl)) (fun _ _ _ h => h) (Or.inl ⟨by rfl, ?_⟩) ?_ ?_
            rotate_left
            ·intro w'
             go_simp
             with_reducible rfl
            rotate_left
            ·simp only [Act.put, List.setIfInBounds_toArray, List.set_cons_zero, List.set_cons_succ, i64_w, i32_w]
             rfl
            refine pure_ (i := 13) (N := some 124) (v := undef) (a' := ?_) #[true, true, true, true, true, true, true, true, true, true, true, true, true, true, false, false, false, false, false, false, false, false, false, false, false, false, false, false, false, false, false, false, false] rfl rfl (any_of HT_.out (by kernel_rfl)) (fun _ _ _ h => h) (Or.inr ⟨by rfl, rfl⟩) ?_ ?_
            rotate_left
            ·simp only [Act.put, List.setIfInBounds_toArray, List.set_cons_zero, List.set_cons_succ, i64_w, i32_w]
             rfl
            refine pure_ (i := 14) (N := some 125) (v := undef) (a' := ?_) #[true, true, true, true, true, true, true, true, true, true, true, true, true, true, true, false, false, false, false, false, false, false, false, false, false, false, false, false, false, false, false, false, false] rfl rfl (any_of HT_.out (by kernel_rfl)) (fun _ _ _ h => h) (Or.inr ⟨by rfl, rfl⟩) ?_ ?_
            rotate_left
            ·simp only [Act.put, List.setIfInBounds_toArray, List.set_cons_zero, List.set_cons_succ, i64_w, i32_w]
             rfl
            refine pure_ (i := 15) (N := some 126) (v := undef) (a' := ?_) #[true, true, true, true, true, true, true, true, true, true, true, true, true, true, true, true, false, false, false, false, false, false, false, false, false, false, false, false, false, false, false, false, false] rfl rfl (any_of HT_.out (by kernel_rfl)) (fun _ _ _ h => h) (Or.inr ⟨by rfl, rfl⟩) ?_ ?_
            rotate_left
            ·simp only [Act.put, List.setIfInBounds_toArray, List.set_cons_zero, List.set_cons_succ, i64_w, i32_w]
             rfl
            refine pure_ (i := 16) (N := some 127) (v := undef) (a' := ?_) #[true, true, true, true, true, true, true, true, true, true, true, true, true, true, true, true, true, false, false, false, false, false, false, false, false, false, false, false, false, false, false, false, false] rfl rfl (any_of HT_.out (by kernel_rfl)) (fun _ _ _ h => h) (Or.inr ⟨by rfl, rfl⟩) ?_ ?_
            rotate_left
            ·simp only [Act.put, List.setIfInBounds_toArray, List.set_cons_zero, List.set_cons_succ, i64_w, i32_w]
             rfl
            refine pure_ (i := 17) (N := some 128) (v := ?_) (a' := ?_) #[true, true, true, true, true, true, true, true, true, true, true, true, true, true, true, true, true, true, false, false, false, false, false, false, false, false, false, false, false, false, false, false, false] rfl rfl (any_of HT_.out (by kernel_rfl)) (fun _ _ _ h => h) (Or.inl ⟨by rfl, ?_⟩) ?_ ?_
            rotate_left
            ·intro w'
             go_simp
             with_reducible rfl
            rotate_left
            ·simp only [Act.put, List.setIfInBounds_toArray, List.set_cons_zero, List.set_cons_succ, i64_w, i32_w]
             rfl
            refine pure_ (i := 18) (N := some 129) (v := ?_) (a' := ?_) #[true, true, true, true, true, true, true, true, true, true, true, true, true, true, true, true, true, true, true, false, false, false, false, false, false, false, false, false, false, false, false, false, false] rfl rfl (any_of HT_.out (by kernel_rfl)) (fun _ _ _ h => h) (Or.inl ⟨by rfl, ?_⟩) ?_ ?_
            rotate_left
            ·intro w'
             go_simp
             with_reducible rfl
            rotate_left
            ·simp only [Act.put, List.setIfInBounds_toArray, List.set_cons_zero, List.set_cons_succ, i64_w, i32_w]
             rfl
            refine pure_ (i := 19) (N := some 130) (v := undef) (a' := ?_) #[true, true, true, true, true, true, true, true, true, true, true, true, true, true, true, true, true, true, true, true, false, false, false, false, false, false, false, false, false, false, false, false, false] rfl rfl (any_of HT_.out (by kernel_rfl)) (fun _ _ _ h => h) (Or.inr ⟨by rfl, rfl⟩) ?_ ?_
            rotate_left
            ·simp only [Act.put, List.setIfInBounds_toArray, List.set_cons_zero, List.set_cons_succ, i64_w, i32_w]
             rfl
            refine pure_ (i := 20) (N := some 131) (v := undef) (a' := ?_) #[true, true, true, true, true, true, true, true, true, true, true, true, true, true, true, true, true, true, true, true, true, false, false, false, false, false, false, false, false, false, false, false, false] rfl rfl (any_of HT_.out (by kernel_rfl)) (fun _ _ _ h => h) (Or.inr ⟨by rfl, rfl⟩) ?_ ?_
            rotate_left
            ·simp only [Act.put, List.setIfInBounds_toArray, List.set_cons_zero, List.set_cons_succ, i64_w, i32_w]
             rfl
            refine pure_ (i := 21) (N := some 132) (v := undef) (a' := ?_) #[true, true, true, true, true, true, true, true, true, true, true, true, true, true, true, true, true, true, true, true, true, true, false, false, false, false, false, false, false, false, false, false, false] rfl rfl (any_of HT_.out (by kernel_rfl)) (fun _ _ _ h => h) (Or.inr ⟨by rfl, rfl⟩) ?_ ?_
            rotate_left
            ·simp only [Act.put, List.setIfInBounds_toArray, List.set_cons_zero, List.set_cons_succ, i64_w, i32_w]
             rfl
            refine pure_ (i := 22) (N := some 133) (v := ?_) (a' := ?_) #[true, true, true, true, true, true, true, true, true, true, true, true, true, true, true, true, true, true, true, true, true, true, true, false, false, false, false, false, false, false, false, false, false] rfl rfl (any_of HT_.out (by kernel_rfl)) (fun _ _ _ h => h) (Or.inl ⟨by rfl, ?_⟩) ?_ ?_
            rotate_left
            ·intro w'
             go_simp
             with_reducible rfl
            rotate_left
            ·simp only [Act.put, List.setIfInBounds_toArray, List.set_cons_zero, List.set_cons_succ, i64_w, i32_w]
             rfl
            refine pure_ (i := 23) (N := some 134) (v := ?_) (a' := ?_) #[true, true, true, true, true, true, true, true, true, true, true, true, true, true, true, true, true, true, true, true, true, true, true, true, false, false, false, false, false, false, false, false, false] rfl rfl (any_of HT_.out (by kernel_rfl)) (fun _ _ _ h => h) (Or.inl ⟨by rfl, ?_⟩) ?_ ?_
            rotate_left
            ·intro w'
             go_simp
             with_reducible rfl
            rotate_left
            ·simp only [Act.put, List.setIfInBounds_toArray, List.set_cons_zero, List.set_cons_succ, i64_w, i32_w]
             rfl
            refine pure_ (i := 24) (N := some 135) (v := undef) (a' := ?_) #[true, true, true, true, true, true, true, true, true, true, true, true, true, true, true, true, true, true, true, true, true, true, true, true, true, false, false, false, false, false, false, false, false] rfl rfl (any_of HT_.out (by kernel_rfl)) (fun _ _ _ h => h) (Or.inr ⟨by rfl, rfl⟩) ?_ ?_
            rotate_left
            ·simp only [Act.put, List.setIfInBounds_toArray, List.set_cons_zero, List.set_cons_succ, i64_w, i32_w]
             rfl
            refine pure_ (i := 25) (N := some 136) (v := undef) (a' := ?_) #[true, true, true, true, true, true, true, true, true, true, true, true, true, true, true, true, true, true, true, true, true, true, true, true, true, true, false, false, false, false, false, false, false] rfl rfl (any_of HT_.out (by kernel_rfl)) (fun _ _ _ h => h) (Or.inr ⟨by rfl, rfl⟩) ?_ ?_
            rotate_left
            ·simp only [Act.put, List.setIfInBounds_toArray, List.set_cons_zero, List.set_cons_succ, i64_w, i32_w]
             rfl
            refine pure_ (i := 26) (N := some 137) (v := undef) (a' := ?_) #[true, true, true, true, true, true, true, true, true, true, true, true, true, true, true, true, true, true, true, true, true, true, true, true, true, true, true, false, false, false, false, false, false] rfl rfl (any_of HT_.out (by kernel_rfl)) (fun _ _ _ h => h) (Or.inr ⟨by rfl, rfl⟩) ?_ ?_
            rotate_left
            ·simp only [Act.put, List.setIfInBounds_toArray, List.set_cons_zero, List.set_cons_succ, i64_w, i32_w]
             rfl
            refine pure_ (i := 27) (N := some 138) (v := undef) (a' := ?_) #[true, true, true, true, true, true, true, true, true, true, true, true, true, true, true, true, true, true, true, true, true, true, true, true, true, true, true, true, false, false, false, false, false] rfl rfl (any_of HT_.out (by kernel_rfl)) (fun _ _ _ h => h) (Or.inr ⟨by rfl, rfl⟩) ?_ ?_
            rotate_left
            ·simp only [Act.put, List.setIfInBounds_toArray, List.set_cons_zero, List.set_cons_succ, i64_w, i32_w]
             rfl
            refine pure_ (i := 28) (N := some 139) (v := undef) (a' := ?_) #[true, true, true, true, true, true, true, true, true, true, true, true, true, true, true, true, true, true, true, true, true, true, true, true, true, true, true, true, true, false, false, false, false] rfl rfl (any_of HT_.out (by kernel_rfl)) (fun _ _ _ h => h) (Or.inr ⟨by rfl, rfl⟩) ?_ ?_
            rotate_left
            ·simp only [Act.put, List.setIfInBounds_toArray, List.set_cons_zero, List.set_cons_succ, i64_w, i32_w]
             rfl
            refine pure_ (i := 29) (N := some 140) (v := undef) (a' := ?_) #[true, true, true, true, true, true, true, true, true, true, true, true, true, true, true, true, true, true, true, true, true, true, true, true, true, true, true, true, true, true, false, false, false] rfl rfl (any_of HT_.out (by kernel_rfl)) (fun _ _ _ h => h) (Or.inr ⟨by rfl, rfl⟩) ?_ ?_
            rotate_left
            ·simp only [Act.put, List.setIfInBounds_toArray, List.set_cons_zero, List.set_cons_succ, i64_w, i32_w]
             rfl
            refine pure_ (i := 30) (N := some 141) (v := undef) (a' := ?_) #[true, true, true, true, true, true, true, true, true, true, true, true, true, true, true, true, true, true, true, true, true, true, true, true, true, true, true, true, true, true, true, false, false] rfl rfl (any_of HT_.out (by kernel_rfl)) (fun _ _ _ h => h) (Or.inr ⟨by rfl, rfl⟩) ?_ ?_
            rotate_left
            ·simp only [Act.put, List.setIfInBounds_toArray, List.set_cons_zero, List.set_cons_succ, i64_w, i32_w]
             rfl
            refine pure_ (i := 31) (N := some 142) (v := ?_) (a' := ?_) #[true, true, true, true, true, true, true, true, true, true, true, true, true, true, true, true, true, true, true, true, true, true, true, true, true, true, true, true, true, true, true, true, false] rfl rfl (any_of HT_.out (by kernel_rfl)) (fun _ _ _ h => h) (Or.inl ⟨by rfl, ?_⟩) ?_ ?_
            rotate_left
            ·intro w'
             go_simp
             with_reducible rfl
            rotate_left
            ·simp only [Act.put, List.setIfInBounds_toArray, List.set_cons_zero, List.set_cons_succ, i64_w, i32_w]
             rfl
            refine pure_ (i := 32) (N := some 4) (v := ?_) (a' := ?_) #[true, true, true, true, true, true, true, true, true, true, true, true, true, true, true, true, true, true, true, true, true, true, true, true, true, true, true, true, true, true, true, true, true] rfl rfl (any_of HT_.out (by kernel_rfl)) (fun _ _ _ h => h) (Or.inl ⟨by rfl, ?_⟩) ?_ ?_
            rotate_left
            ·intro w'
             go_simp
             with_reducible rfl
            rotate_left
            ·simp only [Act.put, List.setIfInBounds_toArray, List.set_cons_zero, List.set_cons_succ, i64_w, i32_w]
             rfl
            refine done_ (done_of HT_.out (by kernel_rfl)) ?_
            try go_wp2
            go_meet
            case rel => exact ⟨_, (false), (by first | rfl | (simp; done) | (simp [*]; done)), H', ⟨by have := HJ10.out; have := HJ33.out; first | omega | exact Nat.le_refl _⟩, ⟨bkn BK486⟩, ⟨bkn BK492⟩, ⟨bkn BK497⟩, ⟨bkn BK511⟩, ⟨bkn BK518⟩, ⟨bw⟩⟩
          ·rw [if_neg c64] at H
           have c64b0 : (t510 == 0) = false := beq_eq_false_iff_ne.mpr c64
           have c64b1 : (t510 != 0) = true := bne_iff_ne.mpr c64
           (first | rw [c64b0] | (simp only [i64_w, i32_w]; rw [c64b0]) | skip)
           have H' := AX H
           clear H
           try go_wp2
           have n0_ : Aside0 ((((((w58.setCell ⟨gb518, 0, none⟩ (.int .i64 t512)).setCell ⟨gb518, 1, none⟩ (.int .i64 t513)).setCell ⟨gb518, 2, none⟩ (.int .i64 t514)).setCell ⟨gb518, 3, none⟩ (.int .i64 t515)).setCell ⟨gb518, 4, none⟩ (.int .i64 t516)).heap[gb486]? = some (.cells #[.int .i64 a0_0, .int .i64 a0_1, .int .i64 a0_2, .int .i64 a0_3, .int .i64 a0_4, .int .i64 a0_5, .int .i64 a0_6, .int .i64 a0_7, .int .i64 a0_8, .int .i64 a0_9] 25 (0, 0))) := ⟨by (with_reducible repeat first|refine blk_drewN ?_ _|refine blk_drew ?_|refine blk_alloc ?_ _); refine blk_far ?_ NB486_518.out _; (with_reducible repeat first|refine blk_drewN ?_ _|refine blk_drew ?_|refine blk_alloc ?_ _); refine blk_far ?_ NB486_518.out _; (with_reducible repeat first|refine blk_drewN ?_ _|refine blk_drew ?_|refine blk_alloc ?_ _); refine blk_far ?_ NB486_518.out _; (with_reducible repeat first|refine blk_drewN ?_ _|refine blk_drew ?_|refine blk_alloc ?_ _); refine blk_far ?_ NB486_518.out _; (with_reducible repeat first|refine blk_drewN ?_ _|refine blk_drew ?_|refine blk_alloc ?_ _); refine blk_far ?_ NB486_518.out _; (with_reducible repeat first|refine blk_drewN ?_ _|refine blk_drew ?_|refine blk_alloc ?_ _); exact BK486.out⟩
           have n1_ : Aside0 ((((((w58.setCell ⟨gb518, 0, none⟩ (.int .i64 t512)).setCell ⟨gb518, 1, none⟩ (.int .i64 t513)).setCell ⟨gb518, 2, none⟩ (.int .i64 t514)).setCell ⟨gb518, 3, none⟩ (.int .i64 t515)).setCell ⟨gb518, 4, none⟩ (.int .i64 t516)).heap[gb492]? = some (.cells #[.int .i64 t488, .int .i64 t489, .int .i64 t490] 33 (0, 0))) := ⟨by (with_reducible repeat first|refine blk_drewN ?_ _|refine blk_drew ?_|refine blk_alloc ?_ _); refine blk_far ?_ NB492_518.out _; (with_reducible repeat first|refine blk_drewN ?_ _|refine blk_drew ?_|refine blk_alloc ?_ _); refine blk_far ?_ NB492_518.out _; (with_reducible repeat first|refine blk_drewN ?_ _|refine blk_drew ?_|refine blk_alloc ?_ _); refine blk_far ?_ NB492_518.out _; (with_reducible repeat first|refine blk_drewN ?_ _|refine blk_drew ?_|refine blk_alloc ?_ _); refine blk_far ?_ NB492_518.out _; (with_reducible repeat first|refine blk_drewN ?_ _|refine blk_drew ?_|refine blk_alloc ?_ _); refine blk_far ?_ NB492_518.out _; (with_reducible repeat first|refine blk_drewN ?_ _|refine blk_drew ?_|refine blk_alloc ?_ _); exact BK492.out⟩
           have n2_ : Aside0 ((((((w58.setCell ⟨gb518, 0, none⟩ (.int .i64 t512)).setCell ⟨gb518, 1, none⟩ (.int .i64 t513)).setCell ⟨gb518, 2, none⟩ (.int .i64 t514)).setCell ⟨gb518, 3, none⟩ (.int .i64 t515)).setCell ⟨gb518, 4, none⟩ (.int .i64 t516)).heap[gb497]? = some (.cells #[.int .i64 t493, .int .i64 t494, .int .i64 t495] 33 (0, 0))) := ⟨by (with_reducible repeat first|refine blk_drewN ?_ _|refine blk_drew ?_|refine blk_alloc ?_ _); refine blk_far ?_ NB497_518.out _; (with_reducible repeat first|refine blk_drewN ?_ _|refine blk_drew ?_|refine blk_alloc ?_ _); refine blk_far ?_ NB497_518.out _; (with_reducible repeat first|refine blk_drewN ?_ _|refine blk_drew ?_|refine blk_alloc ?_ _); refine blk_far ?_ NB497_518.out _; (with_reducible repeat first|refine blk_drewN ?_ _|refine blk_drew ?_|refine blk_alloc ?_ _); refine blk_far ?_ NB497_518.out _; (with_reducible repeat first|refine blk_drewN ?_ _|refine blk_drew ?_|refine blk_alloc ?_ _); refine blk_far ?_ NB497_518.out _; (with_reducible repeat first|refine blk_drewN ?_ _|refine blk_drew ?_|refine blk_alloc ?_ _); exact BK497.out⟩
           have n3_ : Aside0 ((((((w58.setCell ⟨gb518, 0, none⟩ (.int .i64 t512)).setCell ⟨gb518, 1, none⟩ (.int .i64 t513)).setCell ⟨gb518, 2, none⟩ (.int .i64 t514)).setCell ⟨gb518, 3, none⟩ (.int .i64 t515)).setCell ⟨gb518, 4, none⟩ (.int .i64 t516)).heap[gb511]? = some (.cells #[.int .i64 t505, .int .i64 t506, .int .i64 t507, .int .i64 t508, .int .i64 t509] 35 (0, 0))) := ⟨by (with_reducible repeat first|refine blk_drewN ?_ _|refine blk_drew ?_|refine blk_alloc ?_ _); refine blk_far ?_ NB511_518.out _; (with_reducible repeat first|refine blk_drewN ?_ _|refine blk_drew ?_|refine blk_alloc ?_ _); refine blk_far ?_ NB511_518.out _; (with_reducible repeat first|refine blk_drewN ?_ _|refine blk_drew ?_|refine blk_alloc ?_ _); refine blk_far ?_ NB511_518.out _; (with_reducible repeat first|refine blk_drewN ?_ _|refine blk_drew ?_|refine blk_alloc ?_ _); refine blk_far ?_ NB511_518.out _; (with_reducible repeat first|refine blk_drewN ?_ _|refine blk_drew ?_|refine blk_alloc ?_ _); refine blk_far ?_ NB511_518.out _; (with_reducible repeat first|refine blk_drewN ?_ _|refine blk_drew ?_|refine blk_alloc ?_ _); exact BK511.out⟩
           have n4_ : Aside0 ((((((w58.setCell ⟨gb518, 0, none⟩ (.int .i64 t512)).setCell ⟨gb518, 1, none⟩ (.int .i64 t513)).setCell ⟨gb518, 2, none⟩ (.int .i64 t514)).setCell ⟨gb518, 3, none⟩ (.int .i64 t515)).setCell ⟨gb518, 4, none⟩ (.int .i64 t516)).heap[gb518]? = some (.cells #[.int .i64 t512, .int .i64 t513, .int .i64 t514, .int .i64 t515, .int .i64 t516] 35 (0, 0))) := ⟨by (with_reducible repeat first|refine blk_drewN ?_ _|refine blk_drew ?_|refine blk_alloc ?_ _); refine blk_put (cs := #[.int .i64 t512, .int .i64 t513, .int .i64 t514, .int .i64 t515, .int .i64 0]) ?_ 4 _ rfl; (with_reducible repeat first|refine blk_drewN ?_ _|refine blk_drew ?_|refine blk_alloc ?_ _); refine blk_put (cs := #[.int .i64 t512, .int .i64 t513, .int .i64 t514, .int .i64 0, .int .i64 0]) ?_ 3 _ rfl; (with_reducible repeat first|refine blk_drewN ?_ _|refine blk_drew ?_|refine blk_alloc ?_ _); refine blk_put (cs := #[.int .i64 t512, .int .i64 t513, .int .i64 0, .int .i64 0, .int .i64 0]) ?_ 2 _ rfl; (with_reducible repeat first|refine blk_drewN ?_ _|refine blk_drew ?_|refine blk_alloc ?_ _); refine blk_put (cs := #[.int .i64 t512, .int .i64 0, .int .i64 0, .int .i64 0, .int .i64 0]) ?_ 1 _ rfl; (with_reducible repeat first|refine blk_drewN ?_ _|refine blk_drew ?_|refine blk_alloc ?_ _); refine blk_put (cs := #[.int .i64 0, .int .i64 0, .int .i64 0, .int .i64 0, .int .i64 0]) ?_ 0 _ rfl; (with_reducible repeat first|refine blk_drewN ?_ _|refine blk_drew ?_|refine blk_alloc ?_ _); exact BK518.out⟩
           have n5_ : Aside0 (Below w.heap.size w (((((w58.setCell ⟨gb518, 0, none⟩ (.int .i64 t512)).setCell ⟨gb518, 1, none⟩ (.int .i64 t513)).setCell ⟨gb518, 2, none⟩ (.int .i64 t514)).setCell ⟨gb518, 3, none⟩ (.int .i64 t515)).setCell ⟨gb518, 4, none⟩ (.int .i64 t516))) := ⟨bw⟩
           (try clear BK486)
           (try clear BK492)
           (try clear BK497)
           (try clear BK511)
           (try clear BK518)
           (try clear HB)
           generalize (((((w58.setCell ⟨gb518, 0, none⟩ (.int .i64 t512)).setCell ⟨gb518, 1, none⟩ (.int .i64 t513)).setCell ⟨gb518, 2, none⟩ (.int .i64 t514)).setCell ⟨gb518, 3, none⟩ (.int .i64 t515)).setCell ⟨gb518, 4, none⟩ (.int .i64 t516)) = w81 at n0_ n1_ n2_ n3_ n4_ n5_ ⊢
           have BK486 := n0_
           have BK492 := n1_
           have BK497 := n2_
           have BK511 := n3_
           have BK518 := n4_
           have HB := n5_
           clear n0_ n1_ n2_ n3_ n4_ n5_
           have n0_ := AX (blk_drew BK486.out)
           have n1_ := AX (blk_drew BK492.out)
           have n2_ := AX (blk_drew BK497.out)
           have n3_ := AX (blk_drew BK511.out)
           have n4_ := AX (blk_drew BK518.out)
           have n5_ := AX (below_drew1 HB.out)
           clear BK486
           clear BK492
           clear BK497
           clear BK511
           clear BK518
           clear HB
           have BK486 := n0_
           have BK492 := n1_
           have BK497 := n2_
           have BK511 := n3_
           have BK518 := n4_
           have HB := n5_
           clear n0_ n1_ n2_ n3_ n4_ n5_
           refine start_ (n := 33) (S := fun w' => True) (ds := []) #[false, false, false, false, false, false, false, false, false, false, false, false, false, false, false, false, false, false, false, false, false, false, false, false, false, false, false, false, false, false, false, false, false] (by kernel_rfl) rfl rfl trivial (fun hHeld => ?_); refine with_tabW pylonlaw04_ZoneDays.tab16 pylonlaw04_ZoneDays.bits16 (fun HT_ HW_ => ?_)
           generalize w81.drew = w82 at BK486 BK492 BK497 BK511 BK518 HB hHeld ⊢
           refine pure_ (i := 0) (N := some 111) (v := ?_) (a' := ?_) #[true, false, false, false, false, false, false, false, false, false, false, false, false, false, false, false, false, false, false, false, false, false, false, false, false, false, false, false, false, false, false, false, false] rfl rfl (any_of HT_.out (by kernel_rfl)) (fun _ _ _ h => h) (Or.inl ⟨by rfl, ?_⟩) ?_ ?_
           rotate_left
           ·intro w'
            go_simp
            with_reducible rfl
           rotate_left
           ·simp only [Act.put, List.setIfInBounds_toArray, List.set_cons_zero, List.set_cons_succ, i64_w, i32_w]
            rfl
           refine pure_ (i := 1) (N := some 112) (v := ?_) (a' := ?_) #[true, true, false, false, false, false, false, false, false, false, false, false, false, false, false, false, false, false, false, false, false, false, false, false, false, false, false, false, false, false, false, false, false] rfl rfl (any_of HT_.out (by kernel_rfl)) (fun _ _ _ h => h) (Or.inl ⟨by rfl, ?_⟩) ?_ ?_
           rotate_left
           ·intro w'
            go_simp
            with_reducible rfl
           rotate_left
           ·simp only [Act.put, List.setIfInBounds_toArray, List.set_cons_zero, List.set_cons_succ, i64_w, i32_w]
            rfl
           refine pure_ (i := 2) (N := some 113) (v := ?_) (a' := ?_) #[true, true, true, false, false, false, false, false, false, false, false, false, false, false, false, false, false, false, false, false, false, false, false, false, false, false, false, false, false, false, false, false, false] rfl rfl (any_of HT_.out (by kernel_rfl)) (fun _ _ _ h => h) (Or.inl ⟨by rfl, ?_⟩) ?_ ?_
           rotate_left
           ·intro w'
            go_simp
            with_reducible rfl
           rotate_left
           ·simp only [Act.put, List.setIfInBounds_toArray, List.set_cons_zero, List.set_cons_succ, i64_w, i32_w]
            rfl
           refine pure_ (i := 3) (N := some 114) (v := undef) (a' := ?_) #[true, true, true, true, false, false, false, false, false, false, false, false, false, false, false, false, false, false, false, false, false, false, false, false, false, false, false, false, false, false, false, false, false] rfl rfl (any_of HT_.out (by kernel_rfl)) (fun _ _ _ h => h) (Or.inr ⟨by rfl, rfl⟩) ?_ ?_
           rotate_left
           ·simp only [Act.put, List.setIfInBounds_toArray, List.set_cons_zero, List.set_cons_succ, i64_w, i32_w]
            rfl
           refine pure_ (i := 4) (N := some 115) (v := undef) (a' := ?_) #[true, true, true, true, true, false, false, false, false, false, false, false, false, false, false, false, false, false, false, false, false, false, false, false, false, false, false, false, false, false, false, false, false] rfl rfl (any_of HT_.out (by kernel_rfl)) (fun _ _ _ h => h) (Or.inr ⟨by rfl, rfl⟩) ?_ ?_
           rotate_left
           ·simp only [Act.put, List.setIfInBounds_toArray, List.set_cons_zero, List.set_cons_succ, i64_w, i32_w]
            rfl
           refine pure_ (i := 5) (N := some 116) (v := ?_) (a' := ?_) #[true, true, true, true, true, true, false, false, false, false, false, false, false, false, false, false, false, false, false, false, false, false, false, false, false, false, false, false, false, false, false, false, false] rfl rfl (any_of HT_.out (by kernel_rfl)) (fun _ _ _ h => h) (Or.inl ⟨by rfl, ?_⟩) ?_ ?_
           rotate_left
           ·intro w'
            go_simp
            with_reducible rfl
           rotate_left
           ·simp only [Act.put, List.setIfInBounds_toArray, List.set_cons_zero, List.set_cons_succ, i64_w, i32_w]
            rfl
           refine pure_ (i := 6) (N := some 117) (v := ?_) (a' := ?_) #[true, true, true, true, true, true, true, false, false, false, false, false, false, false, false, false, false, false, false, false, false, false, false, false, false, false, false, false, false, false, false, false, false] rfl rfl (any_of HT_.out (by kernel_rfl)) (fun _ _ _ h => h) (Or.inl ⟨by rfl, ?_⟩) ?_ ?_
           rotate_left
           ·intro w'
            go_simp
            with_reducible rfl
           rotate_left
           ·simp only [Act.put, List.setIfInBounds_toArray, List.set_cons_zero, List.set_cons_succ, i64_w, i32_w]
            rfl
           refine pure_ (i := 7) (N := some 118) (v := undef) (a' := ?_) #[true, true, true, true, true, true, true, true, false, false, false, false, false, false, false, false, false, false, false, false, false, false, false, false, false, false, false, false, false, false, false, false, false] rfl rfl (any_of HT_.out (by kernel_rfl)) (fun _ _ _ h => h) (Or.inr ⟨by rfl, rfl⟩) ?_ ?_
           rotate_left
           ·simp only [Act.put, List.setIfInBounds_toArray, List.set_cons_zero, List.set_cons_succ, i64_w, i32_w]
            rfl
           refine pure_ (i := 8) (N := some 119) (v := undef) (a' := ?_) #[true, true, true, true, true, true, true, true, true, false, false, false, false, false, false, false, false, false, false, false, false, false, false, false, false, false, false, false, false, false, false, false, false] rfl rfl (any_of HT_.out (by kernel_rfl)) (fun _ _ _ h => h) (Or.inr ⟨by rfl, rfl⟩) ?_ ?_
           rotate_left
           ·simp only [Act.put, List.setIfInBounds_toArray, List.set_cons_zero, List.set_cons_succ, i64_w, i32_w]
            rfl
           refine pure_ (i := 9) (N := some 120) (v := undef) (a' := ?_) #[true, true, true, true, true, true, true, true, true, true, false, false, false, false, false, false, false, false, false, false, false, false, false, false, false, false, false, false, false, false, false, false, false] rfl rfl (any_of HT_.out (by kernel_rfl)) (fun _ _ _ h => h) (Or.inr ⟨by rfl, rfl⟩) ?_ ?_
           rotate_left
           ·simp only [Act.put, List.setIfInBounds_toArray, List.set_cons_zero, List.set_cons_succ, i64_w, i32_w]
            rfl
           refine pure_ (i := 10) (N := some 121) (v := undef) (a' := ?_) #[true, true, true, true, true, true, true, true, true, true, true, false, false, false, false, false, false, false, false, false, false, false, false, false, false, false, false, false, false, false, false, false, false] rfl rfl (any_of HT_.out (by kernel_rfl)) (fun _ _ _ h => h) (Or.inr ⟨by rfl, rfl⟩) ?_ ?_
           rotate_left
           ·simp only [Act.put, List.setIfInBounds_toArray, List.set_cons_zero, List.set_cons_succ, i64_w, i32_w]
            rfl
           refine pure_ (i := 11) (N := some 122) (v := ?_) (a' := ?_) #[true, true, true, true, true, true, true, true, true, true, true, true, false, false, false, false, false, false, false, false, false, false, false, false, false, false, false, false, false, false, false, false, false] rfl rfl (any_of HT_.out (by kernel_rfl)) (fun _ _ _ h => h) (Or.inl ⟨by rfl, ?_⟩) ?_ ?_
           rotate_left
           ·intro w'
            go_simp
            with_reducible rfl
           rotate_left
           ·simp only [Act.put, List.setIfInBounds_toArray, List.set_cons_zero, List.set_cons_succ, i64_w, i32_w]
            rfl
           refine pure_ (i := 12) (N := some 123) (v := ?_) (a' := ?_) #[true, true, true, true, true, true, true, true, true, true, true, true, true, false, false, false, false, false, false, false, false, false, false, false, false, false, false, false, false, false, false, false, false] rfl rfl (any_of HT_.out (by kernel_rfl)) (fun _ _ _ h => h) (Or.inl ⟨by rfl, ?_⟩) ?_ ?_
           rotate_left
           ·intro w'
            go_simp
            with_reducible rfl
           rotate_left
           ·simp only [Act.put, List.setIfInBounds_toArray, List.set_cons_zero, List.set_cons_succ, i64_w, i32_w]
            rfl
           refine pure_ (i := 13) (N := some 124) (v := undef) (a' := ?_) #[true, true, true, true, true, true, true, true, true, true, true, true, true, true, false, false, false, false, false, false, false, false, false, false, false, false, false, false, false, false, false, false, false] rfl rfl (any_of HT_.out (by kernel_rfl)) (fun _ _ _ h => h) (Or.inr ⟨by rfl, rfl⟩) ?_ ?_
           rotate_left
           ·simp only [Act.put, List.setIfInBounds_toArray, List.set_cons_zero, List.set_cons_succ, i64_w, i32_w]
            rfl
           refine pure_ (i := 14) (N := some 125) (v := undef) (a' := ?_) #[true, true, true, true, true, true, true, true, true, true, true, true, true, true, true, false, false, false, false, false, false, false, false, false, false, false, false, false, false, false, false, false, false] rfl rfl (any_of HT_.out (by kernel_rfl)) (fun _ _ _ h => h) (Or.inr ⟨by rfl, rfl⟩) ?_ ?_
           rotate_left
           ·simp only [Act.put, List.setIfInBounds_toArray, List.set_cons_zero, List.set_cons_succ, i64_w, i32_w]
            rfl
           refine pure_ (i := 15) (N := some 126) (v := undef) (a' := ?_) #[true, true, true, true, true, true, true, true, true, true, true, true, true, true, true, true, false, false, false, false, false, false, false, false, false, false, false, false, false, false, false, false, false] rfl rfl (any_of HT_.out (by kernel_rfl)) (fun _ _ _ h => h) (Or.inr ⟨by rfl, rfl⟩) ?_ ?_
           rotate_left
           ·simp only [Act.put, List.setIfInBounds_toArray, List.set_cons_zero, List.set_cons_succ, i64_w, i32_w]
            rfl
           refine pure_ (i := 16) (N := some 127) (v := undef) (a' := ?_) #[true, true, true, true, true, true, true, true, true, true, true, true, true, true, true, true, true, false, false, false, false, false, false, false, false, false, false, false, false, false, false, false, false] rfl rfl (any_of HT_.out (by kernel_rfl)) (fun _ _ _ h => h) (Or.inr ⟨by rfl, rfl⟩) ?_ ?_
           rotate_left
           ·simp only [Act.put, List.setIfInBounds_toArray, List.set_cons_zero, List.set_cons_succ, i64_w, i32_w]
            rfl
           refine pure_ (i := 17) (N := some 128) (v := ?_) (a' := ?_) #[true, true, true, true, true, true, true, true, true, true, true, true, true, true, true, true, true, true, false, false, false, false, false, false, false, false, false, false, false, false, false, false, false] rfl rfl (any_of HT_.out (by kernel_rfl)) (fun _ _ _ h => h) (Or.inl ⟨by rfl, ?_⟩) ?_ ?_
           rotate_left
           ·intro w'
            go_simp
            with_reducible rfl
           rotate_left
           ·simp only [Act.put, List.setIfInBounds_toArray, List.set_cons_zero, List.set_cons_succ, i64_w, i32_w]
            rfl
           refine pure_ (i := 18) (N := some 129) (v := ?_) (a' := ?_) #[true, true, true, true, true, true, true, true, true, true, true, true, true, true, true, true, true, true, true, false, false, false, false, false, false, false, false, false, false, false, false, false, false] rfl rfl (any_of HT_.out (by kernel_rfl)) (fun _ _ _ h => h) (Or.inl ⟨by rfl, ?_⟩) ?_ ?_
           rotate_left
           ·intro w'
            go_simp
            with_reducible rfl
           rotate_left
           ·simp only [Act.put, List.setIfInBounds_toArray, List.set_cons_zero, List.set_cons_succ, i64_w, i32_w]
            rfl
           refine pure_ (i := 19) (N := some 130) (v := undef) (a' := ?_) #[true, true, true, true, true, true, true, true, true, true, true, true, true, true, true, true, true, true, true, true, false, false, false, false, false, false, false, false, false, false, false, false, false] rfl rfl (any_of HT_.out (by kernel_rfl)) (fun _ _ _ h => h) (Or.inr ⟨by rfl, rfl⟩) ?_ ?_
           rotate_left
           ·simp only [Act.put, List.setIfInBounds_toArray, List.set_cons_zero, List.set_cons_succ, i64_w, i32_w]
            rfl
           refine pure_ (i := 20) (N := some 131) (v := undef) (a' := ?_) #[true, true, true, true, true, true, true, true, true, true, true, true, true, true, true, true, true, true, true, true, true, false, false, false, false, false, false, false, false, false, false, false, false] rfl rfl (any_of HT_.out (by kernel_rfl)) (fun _ _ _ h => h) (Or.inr ⟨by rfl, rfl⟩) ?_ ?_
           rotate_left
           ·simp only [Act.put, List.setIfInBounds_toArray, List.set_cons_zero, List.set_cons_succ, i64_w, i32_w]
            rfl
           refine pure_ (i := 21) (N := some 132) (v := undef) (a' := ?_) #[true, true, true, true, true, true, true, true, true, true, true, true, true, true, true, true, true, true, true, true, true, true, false, false, false, false, false, false, false, false, false, false, false] rfl rfl (any_of HT_.out (by kernel_rfl)) (fun _ _ _ h => h) (Or.inr ⟨by rfl, rfl⟩) ?_ ?_
           rotate_left
           ·simp only [Act.put, List.setIfInBounds_toArray, List.set_cons_zero, List.set_cons_succ, i64_w, i32_w]
            rfl
           refine pure_ (i := 22) (N := some 133) (v := ?_) (a' := ?_) #[true, true, true, true, true, true, true, true, true, true, true, true, true, true, true, true, true, true, true, true, true, true, true, false, false, false, false, false, false, false, false, false, false] rfl rfl (any_of HT_.out (by kernel_rfl)) (fun _ _ _ h => h) (Or.inl ⟨by rfl, ?_⟩) ?_ ?_
           rotate_left
           ·intro w'
            go_simp
            with_reducible rfl
           rotate_left
           ·simp only [Act.put, List.setIfInBounds_toArray, List.set_cons_zero, List.set_cons_succ, i64_w, i32_w]
            rfl
           refine pure_ (i := 23) (N := some 134) (v := ?_) (a' := ?_) #[true, true, true, true, true, true, true, true, true, true, true, true, true, true, true, true, true, true, true, true, true, true, true, true, false, false, false, false, false, false, false, false, false] rfl rfl (any_of HT_.out (by kernel_rfl)) (fun _ _ _ h => h) (Or.inl ⟨by rfl, ?_⟩) ?_ ?_
           rotate_left
           ·intro w'
            go_simp
            with_reducible rfl
           rotate_left
           ·simp only [Act.put, List.setIfInBounds_toArray, List.set_cons_zero, List.set_cons_succ, i64_w, i32_w]
            rfl
           refine pure_ (i := 24) (N := some 135) (v := undef) (a' := ?_) #[true, true, true, true, true, true, true, true, true, true, true, true, true, true, true, true, true, true, true, true, true, true, true, true, true, false, false, false, false, false, false, false, false] rfl rfl (any_of HT_.out (by kernel_rfl)) (fun _ _ _ h => h) (Or.inr ⟨by rfl, rfl⟩) ?_ ?_
           rotate_left
           ·simp only [Act.put, List.setIfInBounds_toArray, List.set_cons_zero, List.set_cons_succ, i64_w, i32_w]
            rfl
           refine pure_ (i := 25) (N := some 136) (v := undef) (a' := ?_) #[true, true, true, true, true, true, true, true, true, true, true, true, true, true, true, true, true, true, true, true, true, true, true, true, true, true, false, false, false, false, false, false, false] rfl rfl (any_of HT_.out (by kernel_rfl)) (fun _ _ _ h => h) (Or.inr ⟨by rfl, rfl⟩) ?_ ?_
           rotate_left
           ·simp only [Act.put, List.setIfInBounds_toArray, List.set_cons_zero, List.set_cons_succ, i64_w, i32_w]
            rfl
           refine pure_ (i := 26) (N := some 137) (v := undef) (a' := ?_) #[true, true, true, true, true, true, true, true, true, true, true, true, true, true, true, true, true, true, true, true, true, true, true, true, true, true, true, false, false, false, false, false, false] rfl rfl (any_of HT_.out (by kernel_rfl)) (fun _ _ _ h => h) (Or.inr ⟨by rfl, rfl⟩) ?_ ?_
           rotate_left
           ·simp only [Act.put, List.setIfInBounds_toArray, List.set_cons_zero, List.set_cons_succ, i64_w, i32_w]
            rfl
           refine pure_ (i := 27) (N := some 138) (v := undef) (a' := ?_) #[true, true, true, true, true, true, true, true, true, true, true, true, true, true, true, true, true, true, true, true, true, true, true, true, true, true, true, true, false, false, false, false, false] rfl rfl (any_of HT_.out (by kernel_rfl)) (fun _ _ _ h => h) (Or.inr ⟨by rfl, rfl⟩) ?_ ?_
           rotate_left
           ·simp only [Act.put, List.setIfInBounds_toArray, List.set_cons_zero, List.set_cons_succ, i64_w, i32_w]
            rfl
           refine pure_ (i := 28) (N := some 139) (v := undef) (a' := ?_) #[true, true, true, true, true, true, true, true, true, true, true, true, true, true, true, true, true, true, true, true, true, true, true, true, true, true, true, true, true, false, false, false, false] rfl rfl (any_of HT_.out (by kernel_rfl)) (fun _ _ _ h => h) (Or.inr ⟨by rfl, rfl⟩) ?_ ?_
           rotate_left
           ·simp only [Act.put, List.setIfInBounds_toArray, List.set_cons_zero, List.set_cons_succ, i64_w, i32_w]
            rfl
           refine pure_ (i := 29) (N := some 140) (v := undef) (a' := ?_) #[true, true, true, true, true, true, true, true, true, true, true, true, true, true, true, true, true, true, true, true, true, true, true, true, true, true, true, true, true, true, false, false, false] rfl rfl (any_of HT_.out (by kernel_rfl)) (fun _ _ _ h => h) (Or.inr ⟨by rfl, rfl⟩) ?_ ?_
           rotate_left
           ·simp only [Act.put, List.setIfInBounds_toArray, List.set_cons_zero, List.set_cons_succ, i64_w, i32_w]
            rfl
           refine pure_ (i := 30) (N := some 141) (v := undef) (a' := ?_) #[true, true, true, true, true, true, true, true, true, true, true, true, true, true, true, true, true, true, true, true, true, true, true, true, true, true, true, true, true, true, true, false, false] rfl rfl (any_of HT_.out (by kernel_rfl)) (fun _ _ _ h => h) (Or.inr ⟨by rfl, rfl⟩) ?_ ?_
           rotate_left
           ·simp only [Act.put, List.setIfInBounds_toArray, List.set_cons_zero, List.set_cons_succ, i64_w, i32_w]
            rfl
           refine pure_ (i := 31) (N := some 142) (v := ?_) (a' := ?_) #[true, true, true, true, true, true, true, true, true, true, true, true, true, true, true, true, true, true, true, true, true, true, true, true, true, true, true, true, true, true, true, true, false] rfl rfl (any_of HT_.out (by kernel_rfl)) (fun _ _ _ h => h) (Or.inl ⟨by rfl, ?_⟩) ?_ ?_
           rotate_left
           ·intro w'
            go_simp
            with_reducible rfl
           rotate_left
           ·simp only [Act.put, List.setIfInBounds_toArray, List.set_cons_zero, List.set_cons_succ, i64_w, i32_w]
            rfl
           refine pure_ (i := 32) (N := some 4) (v := ?_) (a' := ?_) #[true, true, true, true, true, true, true, true, true, true, true, true, true, true, true, true, true, true, true, true, true, true, true, true, true, true, true, true, true, true, true, true, true] rfl rfl (any_of HT_.out (by kernel_rfl)) (fun _ _ _ h => h) (Or.inl ⟨by rfl, ?_⟩) ?_ ?_
           rotate_left
           ·intro w'
            go_simp
            with_reducible rfl
           rotate_left
           ·simp only [Act.put, List.setIfInBounds_toArray, List.set_cons_zero, List.set_cons_succ, i64_w, i32_w]
            rfl
           refine done_ (done_of HT_.out (by kernel_rfl)) ?_
           try go_wp2
           go_meet
           case rel => exact ⟨_, (false), (by first | rfl | (simp; done) | (simp [*]; done)), H', ⟨by have := HJ10.out; have := HJ33.out; first | omega | exact Nat.le_refl _⟩, ⟨bkn BK486⟩, ⟨bkn BK492⟩, ⟨bkn BK497⟩, ⟨bkn BK511⟩, ⟨bkn BK518⟩, ⟨bw⟩⟩
         case rest =>
          clear HC46
          obtain ⟨kq, x4_45, rfl, HA, HJ45, BK486, BK492, BK497, BK511, BK518, HB⟩ := hcut
          cases kq with
          | zero => exact absurd HA.out (by simp [pylonlaw04_ZoneDays.j3])
          | succ kj45 =>
           have H := HA.out
           clear HA
           simp only [pylonlaw04_ZoneDays.j3] at H
           obtain rfl := Option.some.inj H
           go_wp2
           go_ret
           exact ⟨by first | rfl | (simp [errW_none, errW_some] <;> rfl) | (simp [*, errW_none, errW_some] <;> rfl), bw⟩
  ·rw [if_neg c10] at H
   have c10b0 : (t504 == 0) = false := beq_eq_false_iff_ne.mpr c10
   have c10b1 : (t504 != 0) = true := bne_iff_ne.mpr c10
   have HC83 := AX H
   clear H
   go_enter Try.func6, Try.ntmps6
   go_upto_region 8 with (first | ((with_reducible refine gate_dst (N := 2) rfl ?_); refine box_event ?hg (N := 2) ?hd (cs := #[.int .i64 a0_0, .int .i64 a0_1, .int .i64 a0_2, .int .i64 a0_3, .int .i64 a0_4, .int .i64 a0_5, .int .i64 a0_6, .int .i64 a0_7, .int .i64 a0_8, .int .i64 a0_9]) (t := 25) ?hr ?_; (case hd => rfl); (case hg => rfl); (case hr => first | (go_simp; done) | (go_simp; rfl)); intro gb486 hg w84 hbox hb; have n0_ := AX (below_step bw hb); have n1_ := AX (hbox); have n2_ := AX ((by rw [hg]; exact (below_size bw) : w.heap.size ≤ gb486)); have n3_ := n2_; clear HB; have HB := n0_; have BK486 := n1_; have GW486 := n2_; have GE486 := n3_; clear n0_ n1_ n2_ n3_; clear hb hbox hg) | ((with_reducible refine gate_callee (f := 14) rfl ?_); refine goesL_ (some 20) rfl rfl Try.func14 (by kernel_rfl) rfl #[] rfl (by (try simp only [List.map_toArray, List.map_cons, List.map_nil]); first | done | rfl | (simp only [List.length_drop, List.length_take]; rfl)) ?_; (with_reducible refine (pylonlaw04_awake.calls k  true _ A3.out).mono ?_); rintro e w85 ⟨rfl, hb⟩; refine ⟨_, rfl, ?_⟩; have n0_ := AX (bkb BK486 hb); have n1_ := AX (below_step bw hb); clear BK486; clear HB; have BK486 := n0_; have HB := n1_; clear n0_ n1_; (try clear hb)) | ((with_reducible refine gate_callee (f := 25) rfl ?_); refine goesL_ (some 28) rfl rfl Try.func25 (by kernel_rfl) rfl #[.int .i64 (wrap64 ((wrap64 (Int.tmod (IntKind.u64.wrap (a1)) 3651900)) - 719100))] rfl (by (try simp only [List.map_toArray, List.map_cons, List.map_nil]); first | done | rfl | (simp only [List.length_drop, List.length_take]; rfl)) ?_; (with_reducible refine (pylonref03_Of.calls k (wrap64 ((wrap64 (Int.tmod (IntKind.u64.wrap (a1)) 3651900)) - 719100)) t488 t489 t490 t491 _ A5.out).mono ?_); rintro e w86 ⟨rfl, hb⟩; refine ⟨_, rfl, ?_⟩; have n0_ := AX (bkb BK486 hb); have n1_ := AX (below_step bw hb); clear BK486; clear HB; have BK486 := n0_; have HB := n1_; clear n0_ n1_; (try clear hb)) | ((with_reducible refine gate_dst (N := 5) rfl ?_); refine box_event ?hg (N := 5) ?hd (cs := #[.int .i64 0, .int .i64 0, .int .i64 0]) (t := 33) ?hr ?_; (case hd => rfl); (case hg => rfl); (case hr => first | (go_simp; done) | (go_simp; rfl)); intro gb492 hg w87 hbox hb; have n0_ := AX (bkb BK486 hb); have n1_ := AX (below_step bw hb); have n2_ := AX (hbox); have n3_ := AX ((by rw [hg]; exact (below_size bw) : w.heap.size ≤ gb492)); have n4_ := n3_; have n5_ := AX ((by rw [hg]; exact Nat.ne_of_lt (blk_lt (bkn BK486)) : gb486 ≠ gb492)); have n6_ := AX ((by rw [hg]; exact Nat.ne_of_gt (blk_lt (bkn BK486)) : gb492 ≠ gb486)); clear BK486; clear HB; have BK486 := n0_; have HB := n1_; have BK492 := n2_; have GW492 := n3_; have GE492 := n4_; have NB486_492 := n5_; have NB492_486 := n6_; clear n0_ n1_ n2_ n3_ n4_ n5_ n6_; clear hb hbox hg; have hnb88 := NB492_486.out; have hnc88 := NB486_492.out; obtain ⟨hcz89_0, hcz89_1, hcz89_2⟩ := blkC3 (w := w87) BK492.out; obtain ⟨hfz89_0, hfz89_1, hfz89_2⟩ := blkF3 BK492.out) | ((with_reducible refine gate_callee (f := 26) rfl ?_); refine goesL_ (some 33) rfl rfl Try.func26 (by kernel_rfl) rfl #[.agg #[.int .i64 t488, .int .i64 t489, .int .i64 t490], .int .i64 1] rfl (by (try simp only [List.map_toArray, List.map_cons, List.map_nil]); first | done | rfl | (simp only [List.length_drop, List.length_take]; rfl)) ?_; (with_reducible refine (pylonref03_Add.calls k t488 t489 t490 1 t493 t494 t495 t496 _ A6.out).mono ?_); rintro e w90 ⟨rfl, hb⟩; refine ⟨_, rfl, ?_⟩; have n0_ := AX (blk_below (g := gb486) (o := .cells #[.int .i64 a0_0, .int .i64 a0_1, .int .i64 a0_2, .int .i64 a0_3, .int .i64 a0_4, .int .i64 a0_5, .int .i64 a0_6, .int .i64 a0_7, .int .i64 a0_8, .int .i64 a0_9] 25 (0, 0)) (by (with_reducible repeat first|refine blk_drewN ?_ _|refine blk_drew ?_|refine blk_alloc ?_ _|refine blk_far ?_ NB486_492.out _); exact BK486.out) hb); have n1_ := AX (blk_below (g := gb492) (o := .cells #[.int .i64 t488, .int .i64 t489, .int .i64 t490] 33 (0, 0)) (by (with_reducible repeat first|refine blk_drewN ?_ _|refine blk_drew ?_|refine blk_alloc ?_ _); refine blk_put (cs := #[.int .i64 t488, .int .i64 t489, .int .i64 0]) ?_ 2 _ rfl; (with_reducible repeat first|refine blk_drewN ?_ _|refine blk_drew ?_|refine blk_alloc ?_ _); refine blk_put (cs := #[.int .i64 t488, .int .i64 0, .int .i64 0]) ?_ 1 _ rfl; (with_reducible repeat first|refine blk_drewN ?_ _|refine blk_drew ?_|refine blk_alloc ?_ _); refine blk_put (cs := #[.int .i64 0, .int .i64 0, .int .i64 0]) ?_ 0 _ rfl; (with_reducible repeat first|refine blk_drewN ?_ _|refine blk_drew ?_|refine blk_alloc ?_ _); exact BK492.out) hb); have n2_ := AX (below_step bw hb); clear BK486; clear BK492; clear HB; have BK486 := n0_; have BK492 := n1_; have HB := n2_; clear n0_ n1_ n2_; (try clear hb)) | ((with_reducible refine gate_dst (N := 7) rfl ?_); refine box_event ?hg (N := 7) ?hd (cs := #[.int .i64 0, .int .i64 0, .int .i64 0]) (t := 33) ?hr ?_; (case hd => rfl); (case hg => rfl); (case hr => first | (go_simp; done) | (go_simp; rfl)); intro gb497 hg w91 hbox hb; have n0_ := AX (bkb BK486 hb); have n1_ := AX (bkb BK492 hb); have n2_ := AX (below_step bw hb); have n3_ := AX (hbox); have n4_ := AX ((by rw [hg]; exact (below_size bw) : w.heap.size ≤ gb497)); have n5_ := n4_; have n6_ := AX ((by rw [hg]; exact Nat.ne_of_lt (blk_lt (bkn BK486)) : gb486 ≠ gb497)); have n7_ := AX ((by rw [hg]; exact Nat.ne_of_gt (blk_lt (bkn BK486)) : gb497 ≠ gb486)); have n8_ := AX ((by rw [hg]; exact Nat.ne_of_lt (blk_lt (bkn BK492)) : gb492 ≠ gb497)); have n9_ := AX ((by rw [hg]; exact Nat.ne_of_gt (blk_lt (bkn BK492)) : gb497 ≠ gb492)); clear BK486; clear BK492; clear HB; have BK486 := n0_; have BK492 := n1_; have HB := n2_; have BK497 := n3_; have GW497 := n4_; have GE497 := n5_; have NB486_497 := n6_; have NB497_486 := n7_; have NB492_497 := n8_; have NB497_492 := n9_; clear n0_ n1_ n2_ n3_ n4_ n5_ n6_ n7_ n8_ n9_; clear hb hbox hg; have hnb92 := NB497_486.out; have hnc92 := NB486_497.out; have hnb93 := NB497_492.out; have hnc93 := NB492_497.out; obtain ⟨hcz94_0, hcz94_1, hcz94_2⟩ := blkC3 (w := w91) BK497.out; obtain ⟨hfz94_0, hfz94_1, hfz94_2⟩ := blkF3 BK497.out; obtain ⟨hcz95_0, hcz95_1, hcz95_2, hcz95_3, hcz95_4, hcz95_5, hcz95_6, hcz95_7, hcz95_8, hcz95_9⟩ := blkC10 (w := w91) BK486.out; obtain ⟨hfz95_0, hfz95_1, hfz95_2, hfz95_3, hfz95_4, hfz95_5, hfz95_6, hfz95_7, hfz95_8, hfz95_9⟩ := blkF10 BK486.out; obtain ⟨hcz96_0, hcz96_1, hcz96_2⟩ := blkC3 (w := w91) BK492.out; obtain ⟨hfz96_0, hfz96_1, hfz96_2⟩ := blkF3 BK492.out) | ((with_reducible refine gate_callee (f := 27) rfl ?_); refine goesL_ (some 39) rfl rfl Try.func27 (by kernel_rfl) rfl #[.agg #[.int .i64 a0_0, .int .i64 a0_1, .int .i64 a0_2, .int .i64 a0_3, .int .i64 a0_4, .int .i64 a0_5, .int .i64 a0_6, .int .i64 a0_7, .int .i64 a0_8, .int .i64 a0_9], .agg #[.int .i64 t488, .int .i64 t489, .int .i64 t490]] rfl (by (try simp only [List.map_toArray, List.map_cons, List.map_nil]); first | done | rfl | (simp only [List.length_drop, List.length_take]; rfl)) ?_; (with_reducible refine (zone_Day.calls k a0_0 a0_1 a0_2 a0_3 a0_4 a0_5 a0_6 a0_7 a0_8 a0_9 t488 t489 t490 t498 t499 t500 _ A7.out).mono ?_); rintro e w97 ⟨rfl, hb⟩; refine ⟨_, rfl, ?_⟩; have n0_ := AX (blk_below (g := gb486) (o := .cells #[.int .i64 a0_0, .int .i64 a0_1, .int .i64 a0_2, .int .i64 a0_3, .int .i64 a0_4, .int .i64 a0_5, .int .i64 a0_6, .int .i64 a0_7, .int .i64 a0_8, .int .i64 a0_9] 25 (0, 0)) (by (with_reducible repeat first|refine blk_drewN ?_ _|refine blk_drew ?_|refine blk_alloc ?_ _|refine blk_far ?_ NB486_497.out _); exact BK486.out) hb); have n1_ := AX (blk_below (g := gb492) (o := .cells #[.int .i64 t488, .int .i64 t489, .int .i64 t490] 33 (0, 0)) (by (with_reducible repeat first|refine blk_drewN ?_ _|refine blk_drew ?_|refine blk_alloc ?_ _|refine blk_far ?_ NB492_497.out _); exact BK492.out) hb); have n2_ := AX (blk_below (g := gb497) (o := .cells #[.int .i64 t493, .int .i64 t494, .int .i64 t495] 33 (0, 0)) (by (with_reducible repeat first|refine blk_drewN ?_ _|refine blk_drew ?_|refine blk_alloc ?_ _); refine blk_put (cs := #[.int .i64 t493, .int .i64 t494, .int .i64 0]) ?_ 2 _ rfl; (with_reducible repeat first|refine blk_drewN ?_ _|refine blk_drew ?_|refine blk_alloc ?_ _); refine blk_put (cs := #[.int .i64 t493, .int .i64 0, .int .i64 0]) ?_ 1 _ rfl; (with_reducible repeat first|refine blk_drewN ?_ _|refine blk_drew ?_|refine blk_alloc ?_ _); refine blk_put (cs := #[.int .i64 0, .int .i64 0, .int .i64 0]) ?_ 0 _ rfl; (with_reducible repeat first|refine blk_drewN ?_ _|refine blk_drew ?_|refine blk_alloc ?_ _); exact BK497.out) hb); have n3_ := AX (below_step bw hb); clear BK486; clear BK492; clear BK497; clear HB; have BK486 := n0_; have BK492 := n1_; have BK497 := n2_; have HB := n3_; clear n0_ n1_ n2_ n3_; (try clear hb); obtain ⟨hcz98_0, hcz98_1, hcz98_2, hcz98_3, hcz98_4, hcz98_5, hcz98_6, hcz98_7, hcz98_8, hcz98_9⟩ := blkC10 (w := w97) BK486.out; obtain ⟨hfz98_0, hfz98_1, hfz98_2, hfz98_3, hfz98_4, hfz98_5, hfz98_6, hfz98_7, hfz98_8, hfz98_9⟩ := blkF10 BK486.out; obtain ⟨hcz99_0, hcz99_1, hcz99_2⟩ := blkC3 (w := w97) BK497.out; obtain ⟨hfz99_0, hfz99_1, hfz99_2⟩ := blkF3 BK497.out) | ((with_reducible refine gate_callee (f := 27) rfl ?_); refine goesL_ (some 46) rfl rfl Try.func27 (by kernel_rfl) rfl #[.agg #[.int .i64 a0_0, .int .i64 a0_1, .int .i64 a0_2, .int .i64 a0_3, .int .i64 a0_4, .int .i64 a0_5, .int .i64 a0_6, .int .i64 a0_7, .int .i64 a0_8, .int .i64 a0_9], .agg #[.int .i64 t493, .int .i64 t494, .int .i64 t495]] rfl (by (try simp only [List.map_toArray, List.map_cons, List.map_nil]); first | done | rfl | (simp only [List.length_drop, List.length_take]; rfl)) ?_; (with_reducible refine (zone_Day.calls k a0_0 a0_1 a0_2 a0_3 a0_4 a0_5 a0_6 a0_7 a0_8 a0_9 t493 t494 t495 t501 t502 t503 _ A8.out).mono ?_); rintro e w100 ⟨rfl, hb⟩; refine ⟨_, rfl, ?_⟩; have n0_ := AX (bkb BK486 hb); have n1_ := AX (bkb BK492 hb); have n2_ := AX (bkb BK497 hb); have n3_ := AX (below_step bw hb); clear BK486; clear BK492; clear BK497; clear HB; have BK486 := n0_; have BK492 := n1_; have BK497 := n2_; have HB := n3_; clear n0_ n1_ n2_ n3_; (try clear hb); obtain ⟨hcz101_0, hcz101_1, hcz101_2, hcz101_3, hcz101_4, hcz101_5, hcz101_6, hcz101_7, hcz101_8, hcz101_9⟩ := blkC10 (w := w100) BK486.out; obtain ⟨hfz101_0, hfz101_1, hfz101_2, hfz101_3, hfz101_4, hfz101_5, hfz101_6, hfz101_7, hfz101_8, hfz101_9⟩ := blkF10 BK486.out) | ((with_reducible refine gate_callee (f := 16) rfl ?_); refine goesL_ (some 51) rfl rfl Try.func16 (by kernel_rfl) rfl #[.agg #[.int .i64 a0_0, .int .i64 a0_1, .int .i64 a0_2, .int .i64 a0_3, .int .i64 a0_4, .int .i64 a0_5, .int .i64 a0_6, .int .i64 a0_7, .int .i64 a0_8, .int .i64 a0_9]] rfl (by (try simp only [List.map_toArray, List.map_cons, List.map_nil]); first | done | rfl | (simp only [List.length_drop, List.length_take]; rfl)) ?_; (with_reducible refine (pylonref04_Check.calls k a0_0 a0_1 a0_2 a0_3 a0_4 a0_5 a0_6 a0_7 a0_8 a0_9 t504 _ A9.out).mono ?_); rintro e w102 ⟨rfl, hb⟩; refine ⟨_, rfl, ?_⟩; have n0_ := AX (bkb BK486 hb); have n1_ := AX (bkb BK492 hb); have n2_ := AX (bkb BK497 hb); have n3_ := AX (below_step bw hb); clear BK486; clear BK492; clear BK497; clear HB; have BK486 := n0_; have BK492 := n1_; have BK497 := n2_; have HB := n3_; clear n0_ n1_ n2_ n3_; (try clear hb)))
   (try simp only [Act.put, List.setIfInBounds_toArray, List.set_cons_zero, List.set_cons_succ])
   go_cut [4] (fun v4 wc => ∃ (kq : Nat) (x4_82 : Bool), v4 = .bool x4_82 ∧ Aside0 (pylonlaw04_ZoneDays.j0 kq x4_82 = some r) ∧ Aside0 (kq ≤ k) ∧ Aside0 (wc.heap[gb486]? = some (.cells #[.int .i64 a0_0, .int .i64 a0_1, .int .i64 a0_2, .int .i64 a0_3, .int .i64 a0_4, .int .i64 a0_5, .int .i64 a0_6, .int .i64 a0_7, .int .i64 a0_8, .int .i64 a0_9] 25 (0, 0))) ∧ Aside0 (wc.heap[gb492]? = some (.cells #[.int .i64 t488, .int .i64 t489, .int .i64 t490] 33 (0, 0))) ∧ Aside0 (wc.heap[gb497]? = some (.cells #[.int .i64 t493, .int .i64 t494, .int .i64 t495] 33 (0, 0))) ∧ Aside0 (Below w.heap.size w wc))
   case first =>
    have H := HC83.out
    clear HC83
    by_cases c103 : t500 = 8
    ·rw [if_pos c103] at H
     have c103b0 : (t500 == 8) = true := beq_iff_eq.mpr c103
     have c103b1 : (t500 != 8) = false := bne_eq_false_iff_eq.mpr c103
     clear c103
     (first | rw [c103b0] | (simp only [i64_w, i32_w]; rw [c103b0]) | skip)
     by_cases c104 : t503 = 8
     ·rw [if_pos c104] at H
      have c104b0 : (t503 == 8) = true := beq_iff_eq.mpr c104
      have c104b1 : (t503 != 8) = false := bne_eq_false_iff_eq.mpr c104
      clear c104
      by_cases c105 : t498 = 0
      ·rw [if_pos c105] at H
       have c105b0 : (t498 == 0) = true := beq_iff_eq.mpr c105
       have c105b1 : (t498 != 0) = false := bne_eq_false_iff_eq.mpr c105
       clear c105
       have H' := AX H
       clear H
       go_wp2
       go_meet
       case rel => exact ⟨_, ((t499 == 0)), (by first | rfl | (simp; done) | (simp [*]; done)), H', ⟨by first | omega | exact Nat.le_refl _⟩, ⟨bkn BK486⟩, ⟨bkn BK492⟩, ⟨bkn BK497⟩, ⟨bw⟩⟩
      ·rw [if_neg c105] at H
       have c105b0 : (t498 == 0) = false := beq_eq_false_iff_ne.mpr c105
       have c105b1 : (t498 != 0) = true := bne_iff_ne.mpr c105
       have H' := AX H
       clear H
       go_wp2
       go_meet
       case rel => exact ⟨_, (false), (by first | rfl | (simp; done) | (simp [*]; done)), H', ⟨by first | omega | exact Nat.le_refl _⟩, ⟨bkn BK486⟩, ⟨bkn BK492⟩, ⟨bkn BK497⟩, ⟨bw⟩⟩
     ·rw [if_neg c104] at H
      have c104b0 : (t503 == 8) = false := beq_eq_false_iff_ne.mpr c104
      have c104b1 : (t503 != 8) = true := bne_iff_ne.mpr c104
      have H' := AX H
      clear H
      go_wp2
      go_meet
      case rel => exact ⟨_, (false), (by first | rfl | (simp; done) | (simp [*]; done)), H', ⟨by first | omega | exact Nat.le_refl _⟩, ⟨bkn BK486⟩, ⟨bkn BK492⟩, ⟨bkn BK497⟩, ⟨bw⟩⟩
    ·rw [if_neg c103] at H
     have c103b0 : (t500 == 8) = false := beq_eq_false_iff_ne.mpr c103
     have c103b1 : (t500 != 8) = true := bne_iff_ne.mpr c103
     (first | rw [c103b0] | (simp only [i64_w, i32_w]; rw [c103b0]) | skip)
     have H' := AX H
     clear H
     go_wp2
     go_meet
     case rel => exact ⟨_, (false), (by first | rfl | (simp; done) | (simp [*]; done)), H', ⟨by first | omega | exact Nat.le_refl _⟩, ⟨bkn BK486⟩, ⟨bkn BK492⟩, ⟨bkn BK497⟩, ⟨bw⟩⟩
   case rest =>
    clear HC83
    try clear c10
    try clear c10b0
    try clear c10b1
    try clear hcz101_0 hcz101_1 hcz101_2 hcz101_3 hcz101_4 hcz101_5 hcz101_6 hcz101_7 hcz101_8 hcz101_9
    try clear hcz89_0 hcz89_1 hcz89_2
    try clear hcz94_0 hcz94_1 hcz94_2
    try clear hcz95_0 hcz95_1 hcz95_2 hcz95_3 hcz95_4 hcz95_5 hcz95_6 hcz95_7 hcz95_8 hcz95_9
    try clear hcz96_0 hcz96_1 hcz96_2
    try clear hcz98_0 hcz98_1 hcz98_2 hcz98_3 hcz98_4 hcz98_5 hcz98_6 hcz98_7 hcz98_8 hcz98_9
    try clear hcz99_0 hcz99_1 hcz99_2
    try clear hfz101_0 hfz101_1 hfz101_2 hfz101_3 hfz101_4 hfz101_5 hfz101_6 hfz101_7 hfz101_8 hfz101_9
    try clear hfz89_0 hfz89_1 hfz89_2
    try clear hfz94_0 hfz94_1 hfz94_2
    try clear hfz95_0 hfz95_1 hfz95_2 hfz95_3 hfz95_4 hfz95_5 hfz95_6 hfz95_7 hfz95_8 hfz95_9
    try clear hfz96_0 hfz96_1 hfz96_2
    try clear hfz98_0 hfz98_1 hfz98_2 hfz98_3 hfz98_4 hfz98_5 hfz98_6 hfz98_7 hfz98_8 hfz98_9
    try clear hfz99_0 hfz99_1 hfz99_2
    obtain ⟨kq, x4_82, rfl, HA, HJ82, BK486, BK492, BK497, HB⟩ := hcut
    cases kq with
    | zero => exact absurd HA.out (by simp [pylonlaw04_ZoneDays.j0])
    | succ kj82 =>
     have H := HA.out
     clear HA
     simp only [pylonlaw04_ZoneDays.j0] at H
     obtain rfl := Option.some.inj H
     go_wp2
     go_ret
     exact ⟨by first | rfl | (simp [errW_none, errW_some] <;> rfl) | (simp [*, errW_none, errW_some] <;> rfl), bw⟩
 ·replace c4 := Bool.eq_false_iff.mpr c4
  subst c4
  have H1 : (some false) = some r := by rw [if_neg (show ¬ (false = true) by decide)] at H; exact H
  clear H
  have H := H1
  clear H1
  obtain rfl := Option.some.inj H
  go_enter Try.func6, Try.ntmps6
  go_wp2_with (first | ((with_reducible refine gate_dst (N := 2) rfl ?_); refine box_event ?hg (N := 2) ?hd (cs := #[.int .i64 a0_0, .int .i64 a0_1, .int .i64 a0_2, .int .i64 a0_3, .int .i64 a0_4, .int .i64 a0_5, .int .i64 a0_6, .int .i64 a0_7, .int .i64 a0_8, .int .i64 a0_9]) (t := 25) ?hr ?_; (case hd => rfl); (case hg => rfl); (case hr => first | (go_simp; done) | (go_simp; rfl)); intro gb486 hg w106 hbox hb; have n0_ := AX (below_step bw hb); have n1_ := AX (hbox); have n2_ := AX ((by rw [hg]; exact (below_size bw) : w.heap.size ≤ gb486)); have n3_ := n2_; clear HB; have HB := n0_; have BK486 := n1_; have GW486 := n2_; have GE486 := n3_; clear n0_ n1_ n2_ n3_; clear hb hbox hg) | ((with_reducible refine gate_callee (f := 14) rfl ?_); refine goesL_ (some 20) rfl rfl Try.func14 (by kernel_rfl) rfl #[] rfl (by (try simp only [List.map_toArray, List.map_cons, List.map_nil]); first | done | rfl | (simp only [List.length_drop, List.length_take]; rfl)) ?_; (with_reducible refine (pylonlaw04_awake.calls k  false _ A3.out).mono ?_); rintro e w107 ⟨rfl, hb⟩; refine ⟨_, rfl, ?_⟩; have n0_ := AX (bkb BK486 hb); have n1_ := AX (below_step bw hb); clear BK486; clear HB; have BK486 := n0_; have HB := n1_; clear n0_ n1_; (try clear hb)))
  go_ret
  exact ⟨by first | rfl | (simp [errW_none, errW_some] <;> rfl) | (simp [*, errW_none, errW_some] <;> rfl), bw⟩

end Go.Proofs.Ytddkckpfmleffaa.PX
