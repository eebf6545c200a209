/- Functions of the program as plain Lean functions, each with a proof that the call in the machine answers just what the plain function says; condition: the plain function answers at all. -/
import Derived.Test.YtddkckpfmleffaaPXx0
import Derived.Test.YtddkckpfmleffaaPXx2
import Derived.Test.YtddkckpfmleffaaPXx6
import Derived.Test.YtddkckpfmleffaaPXx9
import Derived.Test.YtddkckpfmleffaaPXx10
import Derived.Test.YtddkckpfmleffaaPXx11
import Derived.Test.YtddkckpfmleffaaPXx12
import Derived.Test.YtddkckpfmleffaaPXx13
namespace Go.Proofs.Ytddkckpfmleffaa.PX
open Go.RowKit Go.Proofs.YtddkckpfmleffaaW.PrintWords Go.Proofs.YtddkckpfmleffaaW.PrintLast Go.Proofs.YtddkckpfmleffaaW.PrintMore
attribute [local go_sem] max2_int min2_int max_two min_two max_three min_three max_four min_four   -- for this text's walks alone
set_option linter.unusedVariables false
set_option linter.unusedSimpArgs false

attribute [local go_sem high] eqA35
/-! ### pylonlaw04_ZoneAts: function 4 -/
mutual
def pylonlaw04_ZoneAts.j1 : Nat → Int → Bool → Int → Int → Int → Int → Int → Int → Int → Int → Int → Int → Int → Int → Int → Int → Int → Option (Bool)
 | 0, _, _, _, _, _, _, _, _, _, _, _, _, _, _, _, _, _ => none
 | k + 1, x1, x66, x255000, x255001, x255002, x255003, x255004, x255005, x255006, x255007, x255008, x255009, x264000, x264001, x264002, x264003, x264004 => if x66 = true then (some false) else ((zone_Moments.f k x255000 x255001 x255002 x255003 x255004 x255005 x255006 x255007 x255008 x255009 x264000 x264001 x264002 x264003).bind fun bt266 => ((pylonref03_Days.f k x264000 x264001 x264002).bind fun bt270 => (pylonlaw04_ZoneAts.l0 k x1 bt266.1 bt266.2 bt270.1 bt270.2 false (bt266.1.length : Int) 0 x264000 x264001 x264002 x264003 x264004)))
def pylonlaw04_ZoneAts.l0 : Nat → Int → List Int → Int → Int → Int → Bool → Int → Int → Int → Int → Int → Int → Int → Option (Bool)
 | 0, _, _, _, _, _, _, _, _, _, _, _, _, _ => none
 | k + 1, x1, x7, x8, x9, x10, x11, x83, x84, x264000, x264001, x264002, x264003, x264004 => if x84 < x83 then (if x11 = true then (pylonlaw04_ZoneAts.j3 k x1 x7 x8 x9 x10 true x83 x84 x264000 x264001 x264002 x264003 x264004) else (if 0 ≤ x84 then (if x84 < (x7.length : Int) then (pylonlaw04_ZoneAts.j3 k x1 x7 x8 x9 x10 ((rd x7 x84) == x1) x83 x84 x264000 x264001 x264002 x264003 x264004) else (none)) else (none))) else (if x8 = 0 then (if x10 = 0 then (if x11 = true then (if (x7.length : Int) ≤ 2 then (pylonlaw04_ZoneAts.j4 k (x1 == (wrap64 ((wrap64 (x9 * 86400)) + (wrap64 (60 * (wrap64 (x264003 - x264004)))))))) else (pylonlaw04_ZoneAts.j4 k false)) else (pylonlaw04_ZoneAts.j4 k false)) else (pylonlaw04_ZoneAts.j4 k false)) else (pylonlaw04_ZoneAts.j4 k false))
def pylonlaw04_ZoneAts.j3 : Nat → Int → List Int → Int → Int → Int → Bool → Int → Int → Int → Int → Int → Int → Int → Option (Bool)
 | 0, _, _, _, _, _, _, _, _, _, _, _, _, _ => none
 | k + 1, x1, x7, x8, x9, x10, x11, x83, x84, x264000, x264001, x264002, x264003, x264004 => pylonlaw04_ZoneAts.l0 k x1 x7 x8 x9 x10 x11 x83 (wrap64 (x84 + 1)) x264000 x264001 x264002 x264003 x264004
def pylonlaw04_ZoneAts.j4 : Nat → Bool → Option (Bool)
 | 0, _ => none
 | k + 1, x4 => some x4
def pylonlaw04_ZoneAts.j0 : Nat → Bool → Option (Bool)
 | 0, _ => none
 | k + 1, x4 => some x4
end
def pylonlaw04_ZoneAts.f (k : Nat) (a0_0 : Int) (a0_1 : Int) (a0_2 : Int) (a0_3 : Int) (a0_4 : Int) (a0_5 : Int) (a0_6 : Int) (a0_7 : Int) (a0_8 : Int) (a0_9 : Int) (a1 : Int) : Option (Bool) := (pylonlaw04_awake.f k).bind fun t255 => (if t255 = true then ((pylonlaw04_inner.f a1).bind fun t256 => ((zone_At.f k a0_0 a0_1 a0_2 a0_3 a0_4 a0_5 a0_6 a0_7 a0_8 a0_9 t256).bind fun bt257 => ((pylonref04_Check.f k a0_0 a0_1 a0_2 a0_3 a0_4 a0_5 a0_6 a0_7 a0_8 a0_9).bind fun t264 => (if t264 = 0 then (if bt257.2.2.2.2.2 = 0 then (if bt257.2.2.2.2.1 = a0_0 then (if bt257.2.2.2.1 < 0 then (pylonlaw04_ZoneAts.j1 k t256 true a0_0 a0_1 a0_2 a0_3 a0_4 a0_5 a0_6 a0_7 a0_8 a0_9 bt257.1 bt257.2.1 bt257.2.2.1 bt257.2.2.2.1 bt257.2.2.2.2.1) else (pylonlaw04_ZoneAts.j1 k t256 (decide (bt257.2.2.2.1 > 1439)) a0_0 a0_1 a0_2 a0_3 a0_4 a0_5 a0_6 a0_7 a0_8 a0_9 bt257.1 bt257.2.1 bt257.2.2.1 bt257.2.2.2.1 bt257.2.2.2.2.1)) else (if bt257.2.2.2.2.1 = (wrap64 (a0_0 + a0_1)) then (if bt257.2.2.2.1 < 0 then (pylonlaw04_ZoneAts.j1 k t256 true a0_0 a0_1 a0_2 a0_3 a0_4 a0_5 a0_6 a0_7 a0_8 a0_9 bt257.1 bt257.2.1 bt257.2.2.1 bt257.2.2.2.1 bt257.2.2.2.2.1) else (pylonlaw04_ZoneAts.j1 k t256 (decide (bt257.2.2.2.1 > 1439)) a0_0 a0_1 a0_2 a0_3 a0_4 a0_5 a0_6 a0_7 a0_8 a0_9 bt257.1 bt257.2.1 bt257.2.2.1 bt257.2.2.2.1 bt257.2.2.2.2.1)) else (pylonlaw04_ZoneAts.j1 k t256 true a0_0 a0_1 a0_2 a0_3 a0_4 a0_5 a0_6 a0_7 a0_8 a0_9 bt257.1 bt257.2.1 bt257.2.2.1 bt257.2.2.2.1 bt257.2.2.2.2.1))) else (pylonlaw04_ZoneAts.j1 k t256 true a0_0 a0_1 a0_2 a0_3 a0_4 a0_5 a0_6 a0_7 a0_8 a0_9 bt257.1 bt257.2.1 bt257.2.2.1 bt257.2.2.2.1 bt257.2.2.2.2.1)) else (if bt257.2.2.2.2.2 = 8 then (if ((bt257.1 == 0 && (bt257.2.1 == 0 && (bt257.2.2.1 == 0))) && (bt257.2.2.2.1 == 0 && (bt257.2.2.2.2.1 == 0))) = true then ((zone_Check.f k a0_0 a0_1 a0_2 a0_3 a0_4 a0_5 a0_6 a0_7 a0_8 a0_9).bind fun t265 => (pylonlaw04_ZoneAts.j0 k (t265 == 8))) else (pylonlaw04_ZoneAts.j0 k false)) else (pylonlaw04_ZoneAts.j0 k false)))))) else (some false))
theorem pylonlaw04_ZoneAts.mono_l : ∀ k, (∀ y0 y1 y2 y3 y4 y5 y6 y7 y8 y9 y10 y11 y12 y13 y14 y15 y16, LeO (pylonlaw04_ZoneAts.j1 k y0 y1 y2 y3 y4 y5 y6 y7 y8 y9 y10 y11 y12 y13 y14 y15 y16) (pylonlaw04_ZoneAts.j1 (k + 1) y0 y1 y2 y3 y4 y5 y6 y7 y8 y9 y10 y11 y12 y13 y14 y15 y16)) ∧ (∀ y0 y1 y2 y3 y4 y5 y6 y7 y8 y9 y10 y11 y12, LeO (pylonlaw04_ZoneAts.l0 k y0 y1 y2 y3 y4 y5 y6 y7 y8 y9 y10 y11 y12) (pylonlaw04_ZoneAts.l0 (k + 1) y0 y1 y2 y3 y4 y5 y6 y7 y8 y9 y10 y11 y12)) ∧ (∀ y0 y1 y2 y3 y4 y5 y6 y7 y8 y9 y10 y11 y12, LeO (pylonlaw04_ZoneAts.j3 k y0 y1 y2 y3 y4 y5 y6 y7 y8 y9 y10 y11 y12) (pylonlaw04_ZoneAts.j3 (k + 1) y0 y1 y2 y3 y4 y5 y6 y7 y8 y9 y10 y11 y12)) ∧ (∀ y0, LeO (pylonlaw04_ZoneAts.j4 k y0) (pylonlaw04_ZoneAts.j4 (k + 1) y0)) ∧ (∀ y0, LeO (pylonlaw04_ZoneAts.j0 k y0) (pylonlaw04_ZoneAts.j0 (k + 1) y0))
 | 0 => ⟨fun _ _ _ _ _ _ _ _ _ _ _ _ _ _ _ _ _ r h => by simp [pylonlaw04_ZoneAts.j1] at h, fun _ _ _ _ _ _ _ _ _ _ _ _ _ r h => by simp [pylonlaw04_ZoneAts.l0] at h, fun _ _ _ _ _ _ _ _ _ _ _ _ _ r h => by simp [pylonlaw04_ZoneAts.j3] at h, fun _ r h => by simp [pylonlaw04_ZoneAts.j4] at h, fun _ r h => by simp [pylonlaw04_ZoneAts.j0] at h⟩
 | k + 1 => by
  obtain ⟨ih0, ih1, ih2, ih3, ih4⟩ := pylonlaw04_ZoneAts.mono_l k
  refine ⟨?_, ?_, ?_, ?_, ?_⟩
  ·intro y0 y1 y2 y3 y4 y5 y6 y7 y8 y9 y10 y11 y12 y13 y14 y15 y16
   unfold pylonlaw04_ZoneAts.j1
   repeat' first
   | (with_reducible exact ih0 _ _ _ _ _ _ _ _ _ _ _ _ _ _ _ _ _)
   | (with_reducible exact ih1 _ _ _ _ _ _ _ _ _ _ _ _ _)
   | (with_reducible exact ih2 _ _ _ _ _ _ _ _ _ _ _ _ _)
   | (with_reducible exact ih3 _)
   | (with_reducible exact ih4 _)
   | (with_reducible exact pylonlaw04_awake.mono _)
   | (with_reducible exact pylonref03_Days.mono _ _ _ _)
   | (with_reducible exact pylonref04_Check.mono _ _ _ _ _ _ _ _ _ _ _)
   | (with_reducible exact zone_At.mono _ _ _ _ _ _ _ _ _ _ _ _)
   | (with_reducible exact zone_Check.mono _ _ _ _ _ _ _ _ _ _ _)
   | (with_reducible exact zone_Moments.mono _ _ _ _ _ _ _ _ _ _ _ _ _ _ _)
   | (with_reducible exact LeO.refl _)
   | (with_reducible exact LeO.none _)
   | (with_reducible refine LeO.ite ?_ ?_)
   | (with_reducible refine LeO.bind ?_ (fun _ => ?_))
   | exact ih0 _ _ _ _ _ _ _ _ _ _ _ _ _ _ _ _ _
   | exact ih1 _ _ _ _ _ _ _ _ _ _ _ _ _
   | exact ih2 _ _ _ _ _ _ _ _ _ _ _ _ _
   | exact ih3 _
   | exact ih4 _
   | exact pylonlaw04_awake.mono _
   | exact pylonref03_Days.mono _ _ _ _
   | exact pylonref04_Check.mono _ _ _ _ _ _ _ _ _ _ _
   | exact zone_At.mono _ _ _ _ _ _ _ _ _ _ _ _
   | exact zone_Check.mono _ _ _ _ _ _ _ _ _ _ _
   | exact zone_Moments.mono _ _ _ _ _ _ _ _ _ _ _ _ _ _ _
   | exact LeO.none _
   | refine LeO.ite ?_ ?_
   | refine LeO.bind ?_ (fun _ => ?_)
  ·intro y0 y1 y2 y3 y4 y5 y6 y7 y8 y9 y10 y11 y12
   unfold pylonlaw04_ZoneAts.l0
   repeat' first
   | (with_reducible exact ih0 _ _ _ _ _ _ _ _ _ _ _ _ _ _ _ _ _)
   | (with_reducible exact ih1 _ _ _ _ _ _ _ _ _ _ _ _ _)
   | (with_reducible exact ih2 _ _ _ _ _ _ _ _ _ _ _ _ _)
   | (with_reducible exact ih3 _)
   | (with_reducible exact ih4 _)
   | (with_reducible exact pylonlaw04_awake.mono _)
   | (with_reducible exact pylonref03_Days.mono _ _ _ _)
   | (with_reducible exact pylonref04_Check.mono _ _ _ _ _ _ _ _ _ _ _)
   | (with_reducible exact zone_At.mono _ _ _ _ _ _ _ _ _ _ _ _)
   | (with_reducible exact zone_Check.mono _ _ _ _ _ _ _ _ _ _ _)
   | (with_reducible exact zone_Moments.mono _ _ _ _ _ _ _ _ _ _ _ _ _ _ _)
   | (with_reducible exact LeO.refl _)
   | (with_reducible exact LeO.none _)
   | (with_reducible refine LeO.ite ?_ ?_)
   | (with_reducible refine LeO.bind ?_ (fun _ => ?_))
   | exact ih0 _ _ _ _ _ _ _ _ _ _ _ _ _ _ _ _ _
   | exact ih1 _ _ _ _ _ _ _ _ _ _ _ _ _
   | exact ih2 _ _ _ _ _ _ _ _ _ _ _ _ _
   | exact ih3 _
   | exact ih4 _
   | exact pylonlaw04_awake.mono _
   | exact pylonref03_Days.mono _ _ _ _
   | exact pylonref04_Check.mono _ _ _ _ _ _ _ _ _ _ _
   | exact zone_At.mono _ _ _ _ _ _ _ _ _ _ _ _
   | exact zone_Check.mono _ _ _ _ _ _ _ _ _ _ _
   | exact zone_Moments.mono _ _ _ _ _ _ _ _ _ _ _ _ _ _ _
   | exact LeO.none _
   | refine LeO.ite ?_ ?_
   | refine LeO.bind ?_ (fun _ => ?_)
  ·intro y0 y1 y2 y3 y4 y5 y6 y7 y8 y9 y10 y11 y12
   unfold pylonlaw04_ZoneAts.j3
   repeat' first
   | (with_reducible exact ih0 _ _ _ _ _ _ _ _ _ _ _ _ _ _ _ _ _)
   | (with_reducible exact ih1 _ _ _ _ _ _ _ _ _ _ _ _ _)
   | (with_reducible exact ih2 _ _ _ _ _ _ _ _ _ _ _ _ _)
   | (with_reducible exact ih3 _)
   | (with_reducible exact ih4 _)
   | (with_reducible exact pylonlaw04_awake.mono _)
   | (with_reducible exact pylonref03_Days.mono _ _ _ _)
   | (with_reducible exact pylonref04_Check.mono _ _ _ _ _ _ _ _ _ _ _)
   | (with_reducible exact zone_At.mono _ _ _ _ _ _ _ _ _ _ _ _)
   | (with_reducible exact zone_Check.mono _ _ _ _ _ _ _ _ _ _ _)
   | (with_reducible exact zone_Moments.mono _ _ _ _ _ _ _ _ _ _ _ _ _ _ _)
   | (with_reducible exact LeO.refl _)
   | (with_reducible exact LeO.none _)
   | (with_reducible refine LeO.ite ?_ ?_)
   | (with_reducible refine LeO.bind ?_ (fun _ => ?_))
   | exact ih0 _ _ _ _ _ _ _ _ _ _ _ _ _ _ _ _ _
   | exact ih1 _ _ _ _ _ _ _ _ _ _ _ _ _
   | exact ih2 _ _ _ _ _ _ _ _ _ _ _ _ _
   | exact ih3 _
   | exact ih4 _
   | exact pylonlaw04_awake.mono _
   | exact pylonref03_Days.mono _ _ _ _
   | exact pylonref04_Check.mono _ _ _ _ _ _ _ _ _ _ _
   | exact zone_At.mono _ _ _ _ _ _ _ _ _ _ _ _
   | exact zone_Check.mono _ _ _ _ _ _ _ _ _ _ _
   | exact zone_Moments.mono _ _ _ _ _ _ _ _ _ _ _ _ _ _ _
   | exact LeO.none _
   | refine LeO.ite ?_ ?_
   | refine LeO.bind ?_ (fun _ => ?_)
  ·intro y0
   unfold pylonlaw04_ZoneAts.j4
   repeat' first
   | (with_reducible exact ih0 _ _ _ _ _ _ _ _ _ _ _ _ _ _ _ _ _)
   | (with_reducible exact ih1 _ _ _ _ _ _ _ _ _ _ _ _ _)
   | (with_reducible exact ih2 _ _ _ _ _ _ _ _ _ _ _ _ _)
   | (with_reducible exact ih3 _)
   | (with_reducible exact ih4 _)
   | (with_reducible exact pylonlaw04_awake.mono _)
   | (with_reducible exact pylonref03_Days.mono _ _ _ _)
   | (with_reducible exact pylonref04_Check.mono _ _ _ _ _ _ _ _ _ _ _)
   | (with_reducible exact zone_At.mono _ _ _ _ _ _ _ _ _ _ _ _)
   | (with_reducible exact zone_Check.mono _ _ _ _ _ _ _ _ _ _ _)
   | (with_reducible exact zone_Moments.mono _ _ _ _ _ _ _ _ _ _ _ _ _ _ _)
   | (with_reducible exact LeO.refl _)
   | (with_reducible exact LeO.none _)
   | (with_reducible refine LeO.ite ?_ ?_)
   | (with_reducible refine LeO.bind ?_ (fun _ => ?_))
   | exact ih0 _ _ _ _ _ _ _ _ _ _ _ _ _ _ _ _ _
   | exact ih1 _ _ _ _ _ _ _ _ _ _ _ _ _
   | exact ih2 _ _ _ _ _ _ _ _ _ _ _ _ _
   | exact ih3 _
   | exact ih4 _
   | exact pylonlaw04_awake.mono _
   | exact pylonref03_Days.mono _ _ _ _
   | exact pylonref04_Check.mono _ _ _ _ _ _ _ _ _ _ _
   | exact zone_At.mono _ _ _ _ _ _ _ _ _ _ _ _
   | exact zone_Check.mono _ _ _ _ _ _ _ _ _ _ _
   | exact zone_Moments.mono _ _ _ _ _ _ _ _ _ _ _ _ _ _ _
   | exact LeO.none _
   | refine LeO.ite ?_ ?_
   | refine LeO.bind ?_ (fun _ => ?_)
  ·intro y0
   unfold pylonlaw04_ZoneAts.j0
   repeat' first
   | (with_reducible exact ih0 _ _ _ _ _ _ _ _ _ _ _ _ _ _ _ _ _)
   | (with_reducible exact ih1 _ _ _ _ _ _ _ _ _ _ _ _ _)
   | (with_reducible exact ih2 _ _ _ _ _ _ _ _ _ _ _ _ _)
   | (with_reducible exact ih3 _)
   | (with_reducible exact ih4 _)
   | (with_reducible exact pylonlaw04_awake.mono _)
   | (with_reducible exact pylonref03_Days.mono _ _ _ _)
   | (with_reducible exact pylonref04_Check.mono _ _ _ _ _ _ _ _ _ _ _)
   | (with_reducible exact zone_At.mono _ _ _ _ _ _ _ _ _ _ _ _)
   | (with_reducible exact zone_Check.mono _ _ _ _ _ _ _ _ _ _ _)
   | (with_reducible exact zone_Moments.mono _ _ _ _ _ _ _ _ _ _ _ _ _ _ _)
   | (with_reducible exact LeO.refl _)
   | (with_reducible exact LeO.none _)
   | (with_reducible refine LeO.ite ?_ ?_)
   | (with_reducible refine LeO.bind ?_ (fun _ => ?_))
   | exact ih0 _ _ _ _ _ _ _ _ _ _ _ _ _ _ _ _ _
   | exact ih1 _ _ _ _ _ _ _ _ _ _ _ _ _
   | exact ih2 _ _ _ _ _ _ _ _ _ _ _ _ _
   | exact ih3 _
   | exact ih4 _
   | exact pylonlaw04_awake.mono _
   | exact pylonref03_Days.mono _ _ _ _
   | exact pylonref04_Check.mono _ _ _ _ _ _ _ _ _ _ _
   | exact zone_At.mono _ _ _ _ _ _ _ _ _ _ _ _
   | exact zone_Check.mono _ _ _ _ _ _ _ _ _ _ _
   | exact zone_Moments.mono _ _ _ _ _ _ _ _ _ _ _ _ _ _ _
   | exact LeO.none _
   | refine LeO.ite ?_ ?_
   | refine LeO.bind ?_ (fun _ => ?_)
theorem pylonlaw04_ZoneAts.mono : ∀ a0 a1 a2 a3 a4 a5 a6 a7 a8 a9 a10 k, LeO (pylonlaw04_ZoneAts.f k a0 a1 a2 a3 a4 a5 a6 a7 a8 a9 a10) (pylonlaw04_ZoneAts.f (k + 1) a0 a1 a2 a3 a4 a5 a6 a7 a8 a9 a10) := by
 intro a0 a1 a2 a3 a4 a5 a6 a7 a8 a9 a10 k
 obtain ⟨ih0, ih1, ih2, ih3, ih4⟩ := pylonlaw04_ZoneAts.mono_l k
 unfold pylonlaw04_ZoneAts.f
 repeat' first
   | (with_reducible exact ih0 _ _ _ _ _ _ _ _ _ _ _ _ _ _ _ _ _)
   | (with_reducible exact ih1 _ _ _ _ _ _ _ _ _ _ _ _ _)
   | (with_reducible exact ih2 _ _ _ _ _ _ _ _ _ _ _ _ _)
   | (with_reducible exact ih3 _)
   | (with_reducible exact ih4 _)
   | (with_reducible exact pylonlaw04_awake.mono _)
   | (with_reducible exact pylonref03_Days.mono _ _ _ _)
   | (with_reducible exact pylonref04_Check.mono _ _ _ _ _ _ _ _ _ _ _)
   | (with_reducible exact zone_At.mono _ _ _ _ _ _ _ _ _ _ _ _)
   | (with_reducible exact zone_Check.mono _ _ _ _ _ _ _ _ _ _ _)
   | (with_reducible exact zone_Moments.mono _ _ _ _ _ _ _ _ _ _ _ _ _ _ _)
   | (with_reducible exact LeO.refl _)
   | (with_reducible exact LeO.none _)
   | (with_reducible refine LeO.ite ?_ ?_)
   | (with_reducible refine LeO.bind ?_ (fun _ => ?_))
   | exact ih0 _ _ _ _ _ _ _ _ _ _ _ _ _ _ _ _ _
   | exact ih1 _ _ _ _ _ _ _ _ _ _ _ _ _
   | exact ih2 _ _ _ _ _ _ _ _ _ _ _ _ _
   | exact ih3 _
   | exact ih4 _
   | exact pylonlaw04_awake.mono _
   | exact pylonref03_Days.mono _ _ _ _
   | exact pylonref04_Check.mono _ _ _ _ _ _ _ _ _ _ _
   | exact zone_At.mono _ _ _ _ _ _ _ _ _ _ _ _
   | exact zone_Check.mono _ _ _ _ _ _ _ _ _ _ _
   | exact zone_Moments.mono _ _ _ _ _ _ _ _ _ _ _ _ _ _ _
   | exact LeO.none _
   | refine LeO.ite ?_ ?_
   | refine LeO.bind ?_ (fun _ => ?_)
set_option maxHeartbeats 8000000 in
set_option maxRecDepth 100000 in
theorem pylonlaw04_ZoneAts.calls (k : Nat) (a0_0 : Int) (a0_1 : Int) (a0_2 : Int) (a0_3 : Int) (a0_4 : Int) (a0_5 : Int) (a0_6 : Int) (a0_7 : Int) (a0_8 : Int) (a0_9 : Int) (a1 : Int) (r : Bool) (w : World) (h : pylonlaw04_ZoneAts.f k a0_0 a0_1 a0_2 a0_3 a0_4 a0_5 a0_6 a0_7 a0_8 a0_9 a1 = some r) :
  Calls Try.prog 4 #[.agg #[.int .i64 a0_0, .int .i64 a0_1, .int .i64 a0_2, .int .i64 a0_3, .int .i64 a0_4, .int .i64 a0_5, .int .i64 a0_6, .int .i64 a0_7, .int .i64 a0_8, .int .i64 a0_9], .int .i64 a1] w fun e w' => e = .returned (.bool r) ∧ Below w.heap.size w w' := by
 have hu25 := Try.underlying25
 have hu35 := Try.underlying35
 have hu33 := Try.underlying33
 have HB := Aside0.mk (Below.refl w.heap.size w)
 have H : ((pylonlaw04_awake.f k).bind fun t255 => (if t255 = true then ((pylonlaw04_inner.f a1).bind fun t256 => ((zone_At.f k a0_0 a0_1 a0_2 a0_3 a0_4 a0_5 a0_6 a0_7 a0_8 a0_9 t256).bind fun bt257 => ((pylonref04_Check.f k a0_0 a0_1 a0_2 a0_3 a0_4 a0_5 a0_6 a0_7 a0_8 a0_9).bind fun t264 => (if t264 = 0 then (if bt257.2.2.2.2.2 = 0 then (if bt257.2.2.2.2.1 = a0_0 then (if bt257.2.2.2.1 < 0 then (pylonlaw04_ZoneAts.j1 k t256 true a0_0 a0_1 a0_2 a0_3 a0_4 a0_5 a0_6 a0_7 a0_8 a0_9 bt257.1 bt257.2.1 bt257.2.2.1 bt257.2.2.2.1 bt257.2.2.2.2.1) else (pylonlaw04_ZoneAts.j1 k t256 (decide (bt257.2.2.2.1 > 1439)) a0_0 a0_1 a0_2 a0_3 a0_4 a0_5 a0_6 a0_7 a0_8 a0_9 bt257.1 bt257.2.1 bt257.2.2.1 bt257.2.2.2.1 bt257.2.2.2.2.1)) else (if bt257.2.2.2.2.1 = (wrap64 (a0_0 + a0_1)) then (if bt257.2.2.2.1 < 0 then (pylonlaw04_ZoneAts.j1 k t256 true a0_0 a0_1 a0_2 a0_3 a0_4 a0_5 a0_6 a0_7 a0_8 a0_9 bt257.1 bt257.2.1 bt257.2.2.1 bt257.2.2.2.1 bt257.2.2.2.2.1) else (pylonlaw04_ZoneAts.j1 k t256 (decide (bt257.2.2.2.1 > 1439)) a0_0 a0_1 a0_2 a0_3 a0_4 a0_5 a0_6 a0_7 a0_8 a0_9 bt257.1 bt257.2.1 bt257.2.2.1 bt257.2.2.2.1 bt257.2.2.2.2.1)) else (pylonlaw04_ZoneAts.j1 k t256 true a0_0 a0_1 a0_2 a0_3 a0_4 a0_5 a0_6 a0_7 a0_8 a0_9 bt257.1 bt257.2.1 bt257.2.2.1 bt257.2.2.2.1 bt257.2.2.2.2.1))) else (pylonlaw04_ZoneAts.j1 k t256 true a0_0 a0_1 a0_2 a0_3 a0_4 a0_5 a0_6 a0_7 a0_8 a0_9 bt257.1 bt257.2.1 bt257.2.2.1 bt257.2.2.2.1 bt257.2.2.2.2.1)) else (if bt257.2.2.2.2.2 = 8 then (if ((bt257.1 == 0 && (bt257.2.1 == 0 && (bt257.2.2.1 == 0))) && (bt257.2.2.2.1 == 0 && (bt257.2.2.2.2.1 == 0))) = true then ((zone_Check.f k a0_0 a0_1 a0_2 a0_3 a0_4 a0_5 a0_6 a0_7 a0_8 a0_9).bind fun t265 => (pylonlaw04_ZoneAts.j0 k (t265 == 8))) else (pylonlaw04_ZoneAts.j0 k false)) else (pylonlaw04_ZoneAts.j0 k false)))))) else (some false))) = some r := h
 clear h
 replace H := Option.bind_eq_some_iff.mp H
 obtain ⟨t255, A30, H⟩ := H
 replace H : (if t255 = true then ((pylonlaw04_inner.f a1).bind fun t256 => ((zone_At.f k a0_0 a0_1 a0_2 a0_3 a0_4 a0_5 a0_6 a0_7 a0_8 a0_9 t256).bind fun bt257 => ((pylonref04_Check.f k a0_0 a0_1 a0_2 a0_3 a0_4 a0_5 a0_6 a0_7 a0_8 a0_9).bind fun t264 => (if t264 = 0 then (if bt257.2.2.2.2.2 = 0 then (if bt257.2.2.2.2.1 = a0_0 then (if bt257.2.2.2.1 < 0 then (pylonlaw04_ZoneAts.j1 k t256 true a0_0 a0_1 a0_2 a0_3 a0_4 a0_5 a0_6 a0_7 a0_8 a0_9 bt257.1 bt257.2.1 bt257.2.2.1 bt257.2.2.2.1 bt257.2.2.2.2.1) else (pylonlaw04_ZoneAts.j1 k t256 (decide (bt257.2.2.2.1 > 1439)) a0_0 a0_1 a0_2 a0_3 a0_4 a0_5 a0_6 a0_7 a0_8 a0_9 bt257.1 bt257.2.1 bt257.2.2.1 bt257.2.2.2.1 bt257.2.2.2.2.1)) else (if bt257.2.2.2.2.1 = (wrap64 (a0_0 + a0_1)) then (if bt257.2.2.2.1 < 0 then (pylonlaw04_ZoneAts.j1 k t256 true a0_0 a0_1 a0_2 a0_3 a0_4 a0_5 a0_6 a0_7 a0_8 a0_9 bt257.1 bt257.2.1 bt257.2.2.1 bt257.2.2.2.1 bt257.2.2.2.2.1) else (pylonlaw04_ZoneAts.j1 k t256 (decide (bt257.2.2.2.1 > 1439)) a0_0 a0_1 a0_2 a0_3 a0_4 a0_5 a0_6 a0_7 a0_8 a0_9 bt257.1 bt257.2.1 bt257.2.2.1 bt257.2.2.2.1 bt257.2.2.2.2.1)) else (pylonlaw04_ZoneAts.j1 k t256 true a0_0 a0_1 a0_2 a0_3 a0_4 a0_5 a0_6 a0_7 a0_8 a0_9 bt257.1 bt257.2.1 bt257.2.2.1 bt257.2.2.2.1 bt257.2.2.2.2.1))) else (pylonlaw04_ZoneAts.j1 k t256 true a0_0 a0_1 a0_2 a0_3 a0_4 a0_5 a0_6 a0_7 a0_8 a0_9 bt257.1 bt257.2.1 bt257.2.2.1 bt257.2.2.2.1 bt257.2.2.2.2.1)) else (if bt257.2.2.2.2.2 = 8 then (if ((bt257.1 == 0 && (bt257.2.1 == 0 && (bt257.2.2.1 == 0))) && (bt257.2.2.2.1 == 0 && (bt257.2.2.2.2.1 == 0))) = true then ((zone_Check.f k a0_0 a0_1 a0_2 a0_3 a0_4 a0_5 a0_6 a0_7 a0_8 a0_9).bind fun t265 => (pylonlaw04_ZoneAts.j0 k (t265 == 8))) else (pylonlaw04_ZoneAts.j0 k false)) else (pylonlaw04_ZoneAts.j0 k false)))))) else (some false)) = some r := H
 have A3 := Aside0.mk A30
 clear A30
 by_cases c4 : t255 = true
 ·subst c4
  have H1 : ((pylonlaw04_inner.f a1).bind fun t256 => ((zone_At.f k a0_0 a0_1 a0_2 a0_3 a0_4 a0_5 a0_6 a0_7 a0_8 a0_9 t256).bind fun bt257 => ((pylonref04_Check.f k a0_0 a0_1 a0_2 a0_3 a0_4 a0_5 a0_6 a0_7 a0_8 a0_9).bind fun t264 => (if t264 = 0 then (if bt257.2.2.2.2.2 = 0 then (if bt257.2.2.2.2.1 = a0_0 then (if bt257.2.2.2.1 < 0 then (pylonlaw04_ZoneAts.j1 k t256 true a0_0 a0_1 a0_2 a0_3 a0_4 a0_5 a0_6 a0_7 a0_8 a0_9 bt257.1 bt257.2.1 bt257.2.2.1 bt257.2.2.2.1 bt257.2.2.2.2.1) else (pylonlaw04_ZoneAts.j1 k t256 (decide (bt257.2.2.2.1 > 1439)) a0_0 a0_1 a0_2 a0_3 a0_4 a0_5 a0_6 a0_7 a0_8 a0_9 bt257.1 bt257.2.1 bt257.2.2.1 bt257.2.2.2.1 bt257.2.2.2.2.1)) else (if bt257.2.2.2.2.1 = (wrap64 (a0_0 + a0_1)) then (if bt257.2.2.2.1 < 0 then (pylonlaw04_ZoneAts.j1 k t256 true a0_0 a0_1 a0_2 a0_3 a0_4 a0_5 a0_6 a0_7 a0_8 a0_9 bt257.1 bt257.2.1 bt257.2.2.1 bt257.2.2.2.1 bt257.2.2.2.2.1) else (pylonlaw04_ZoneAts.j1 k t256 (decide (bt257.2.2.2.1 > 1439)) a0_0 a0_1 a0_2 a0_3 a0_4 a0_5 a0_6 a0_7 a0_8 a0_9 bt257.1 bt257.2.1 bt257.2.2.1 bt257.2.2.2.1 bt257.2.2.2.2.1)) else (pylonlaw04_ZoneAts.j1 k t256 true a0_0 a0_1 a0_2 a0_3 a0_4 a0_5 a0_6 a0_7 a0_8 a0_9 bt257.1 bt257.2.1 bt257.2.2.1 bt257.2.2.2.1 bt257.2.2.2.2.1))) else (pylonlaw04_ZoneAts.j1 k t256 true a0_0 a0_1 a0_2 a0_3 a0_4 a0_5 a0_6 a0_7 a0_8 a0_9 bt257.1 bt257.2.1 bt257.2.2.1 bt257.2.2.2.1 bt257.2.2.2.2.1)) else (if bt257.2.2.2.2.2 = 8 then (if ((bt257.1 == 0 && (bt257.2.1 == 0 && (bt257.2.2.1 == 0))) && (bt257.2.2.2.1 == 0 && (bt257.2.2.2.2.1 == 0))) = true then ((zone_Check.f k a0_0 a0_1 a0_2 a0_3 a0_4 a0_5 a0_6 a0_7 a0_8 a0_9).bind fun t265 => (pylonlaw04_ZoneAts.j0 k (t265 == 8))) else (pylonlaw04_ZoneAts.j0 k false)) else (pylonlaw04_ZoneAts.j0 k false)))))) = some r := by rw [if_pos rfl] at H; exact H
  clear H
  have H := H1
  clear H1
  replace H := Option.bind_eq_some_iff.mp H
  obtain ⟨t256, A50, H⟩ := H
  replace H : ((zone_At.f k a0_0 a0_1 a0_2 a0_3 a0_4 a0_5 a0_6 a0_7 a0_8 a0_9 t256).bind fun bt257 => ((pylonref04_Check.f k a0_0 a0_1 a0_2 a0_3 a0_4 a0_5 a0_6 a0_7 a0_8 a0_9).bind fun t264 => (if t264 = 0 then (if bt257.2.2.2.2.2 = 0 then (if bt257.2.2.2.2.1 = a0_0 then (if bt257.2.2.2.1 < 0 then (pylonlaw04_ZoneAts.j1 k t256 true a0_0 a0_1 a0_2 a0_3 a0_4 a0_5 a0_6 a0_7 a0_8 a0_9 bt257.1 bt257.2.1 bt257.2.2.1 bt257.2.2.2.1 bt257.2.2.2.2.1) else (pylonlaw04_ZoneAts.j1 k t256 (decide (bt257.2.2.2.1 > 1439)) a0_0 a0_1 a0_2 a0_3 a0_4 a0_5 a0_6 a0_7 a0_8 a0_9 bt257.1 bt257.2.1 bt257.2.2.1 bt257.2.2.2.1 bt257.2.2.2.2.1)) else (if bt257.2.2.2.2.1 = (wrap64 (a0_0 + a0_1)) then (if bt257.2.2.2.1 < 0 then (pylonlaw04_ZoneAts.j1 k t256 true a0_0 a0_1 a0_2 a0_3 a0_4 a0_5 a0_6 a0_7 a0_8 a0_9 bt257.1 bt257.2.1 bt257.2.2.1 bt257.2.2.2.1 bt257.2.2.2.2.1) else (pylonlaw04_ZoneAts.j1 k t256 (decide (bt257.2.2.2.1 > 1439)) a0_0 a0_1 a0_2 a0_3 a0_4 a0_5 a0_6 a0_7 a0_8 a0_9 bt257.1 bt257.2.1 bt257.2.2.1 bt257.2.2.2.1 bt257.2.2.2.2.1)) else (pylonlaw04_ZoneAts.j1 k t256 true a0_0 a0_1 a0_2 a0_3 a0_4 a0_5 a0_6 a0_7 a0_8 a0_9 bt257.1 bt257.2.1 bt257.2.2.1 bt257.2.2.2.1 bt257.2.2.2.2.1))) else (pylonlaw04_ZoneAts.j1 k t256 true a0_0 a0_1 a0_2 a0_3 a0_4 a0_5 a0_6 a0_7 a0_8 a0_9 bt257.1 bt257.2.1 bt257.2.2.1 bt257.2.2.2.1 bt257.2.2.2.2.1)) else (if bt257.2.2.2.2.2 = 8 then (if ((bt257.1 == 0 && (bt257.2.1 == 0 && (bt257.2.2.1 == 0))) && (bt257.2.2.2.1 == 0 && (bt257.2.2.2.2.1 == 0))) = true then ((zone_Check.f k a0_0 a0_1 a0_2 a0_3 a0_4 a0_5 a0_6 a0_7 a0_8 a0_9).bind fun t265 => (pylonlaw04_ZoneAts.j0 k (t265 == 8))) else (pylonlaw04_ZoneAts.j0 k false)) else (pylonlaw04_ZoneAts.j0 k false))))) = some r := H
  have A5 := Aside0.mk A50
  clear A50
  replace H := Option.bind_eq_some_iff.mp H
  obtain ⟨⟨t257, t258, t259, t260, t261, t262⟩, A60, H⟩ := H
  replace H : ((pylonref04_Check.f k a0_0 a0_1 a0_2 a0_3 a0_4 a0_5 a0_6 a0_7 a0_8 a0_9).bind fun t264 => (if t264 = 0 then (if t262 = 0 then (if t261 = a0_0 then (if t260 < 0 then (pylonlaw04_ZoneAts.j1 k t256 true a0_0 a0_1 a0_2 a0_3 a0_4 a0_5 a0_6 a0_7 a0_8 a0_9 t257 t258 t259 t260 t261) else (pylonlaw04_ZoneAts.j1 k t256 (decide (t260 > 1439)) a0_0 a0_1 a0_2 a0_3 a0_4 a0_5 a0_6 a0_7 a0_8 a0_9 t257 t258 t259 t260 t261)) else (if t261 = (wrap64 (a0_0 + a0_1)) then (if t260 < 0 then (pylonlaw04_ZoneAts.j1 k t256 true a0_0 a0_1 a0_2 a0_3 a0_4 a0_5 a0_6 a0_7 a0_8 a0_9 t257 t258 t259 t260 t261) else (pylonlaw04_ZoneAts.j1 k t256 (decide (t260 > 1439)) a0_0 a0_1 a0_2 a0_3 a0_4 a0_5 a0_6 a0_7 a0_8 a0_9 t257 t258 t259 t260 t261)) else (pylonlaw04_ZoneAts.j1 k t256 true a0_0 a0_1 a0_2 a0_3 a0_4 a0_5 a0_6 a0_7 a0_8 a0_9 t257 t258 t259 t260 t261))) else (pylonlaw04_ZoneAts.j1 k t256 true a0_0 a0_1 a0_2 a0_3 a0_4 a0_5 a0_6 a0_7 a0_8 a0_9 t257 t258 t259 t260 t261)) else (if t262 = 8 then (if ((t257 == 0 && (t258 == 0 && (t259 == 0))) && (t260 == 0 && (t261 == 0))) = true then ((zone_Check.f k a0_0 a0_1 a0_2 a0_3 a0_4 a0_5 a0_6 a0_7 a0_8 a0_9).bind fun t265 => (pylonlaw04_ZoneAts.j0 k (t265 == 8))) else (pylonlaw04_ZoneAts.j0 k false)) else (pylonlaw04_ZoneAts.j0 k false)))) = some r := H
  have A6 := Aside0.mk A60
  clear A60
  replace H := Option.bind_eq_some_iff.mp H
  obtain ⟨t264, A70, H⟩ := H
  replace H : (if t264 = 0 then (if t262 = 0 then (if t261 = a0_0 then (if t260 < 0 then (pylonlaw04_ZoneAts.j1 k t256 true a0_0 a0_1 a0_2 a0_3 a0_4 a0_5 a0_6 a0_7 a0_8 a0_9 t257 t258 t259 t260 t261) else (pylonlaw04_ZoneAts.j1 k t256 (decide (t260 > 1439)) a0_0 a0_1 a0_2 a0_3 a0_4 a0_5 a0_6 a0_7 a0_8 a0_9 t257 t258 t259 t260 t261)) else (if t261 = (wrap64 (a0_0 + a0_1)) then (if t260 < 0 then (pylonlaw04_ZoneAts.j1 k t256 true a0_0 a0_1 a0_2 a0_3 a0_4 a0_5 a0_6 a0_7 a0_8 a0_9 t257 t258 t259 t260 t261) else (pylonlaw04_ZoneAts.j1 k t256 (decide (t260 > 1439)) a0_0 a0_1 a0_2 a0_3 a0_4 a0_5 a0_6 a0_7 a0_8 a0_9 t257 t258 t259 t260 t261)) else (pylonlaw04_ZoneAts.j1 k t256 true a0_0 a0_1 a0_2 a0_3 a0_4 a0_5 a0_6 a0_7 a0_8 a0_9 t257 t258 t259 t260 t261))) else (pylonlaw04_ZoneAts.j1 k t256 true a0_0 a0_1 a0_2 a0_3 a0_4 a0_5 a0_6 a0_7 a0_8 a0_9 t257 t258 t259 t260 t261)) else (if t262 = 8 then (if ((t257 == 0 && (t258 == 0 && (t259 == 0))) && (t260 == 0 && (t261 == 0))) = true then ((zone_Check.f k a0_0 a0_1 a0_2 a0_3 a0_4 a0_5 a0_6 a0_7 a0_8 a0_9).bind fun t265 => (pylonlaw04_ZoneAts.j0 k (t265 == 8))) else (pylonlaw04_ZoneAts.j0 k false)) else (pylonlaw04_ZoneAts.j0 k false))) = some r := H
  have A7 := Aside0.mk A70
  clear A70
  by_cases c8 : t264 = 0
  ·rw [if_pos c8] at H
   have c8b0 : (t264 == 0) = true := beq_iff_eq.mpr c8
   have c8b1 : (t264 != 0) = false := bne_eq_false_iff_eq.mpr c8
   clear c8
   have HC9 := Aside0.mk H
   clear H
   go_enter Try.func4, Try.ntmps4
   go_upto_region 7 with (first | ((with_reducible refine gate_dst (N := 2) rfl ?_); (try (refine gate_guard (by rfl) ?_; dsimp only)); refine box_event ?hg (N := 2) ?hd (cs := #[.int .i64 a0_0, .int .i64 a0_1, .int .i64 a0_2, .int .i64 a0_3, .int .i64 a0_4, .int .i64 a0_5, .int .i64 a0_6, .int .i64 a0_7, .int .i64 a0_8, .int .i64 a0_9]) (t := 25) ?hr ?_; (case hd => rfl); (case hg => rfl); (case hr => first | (go_simp; done) | (go_simp; rfl)); intro gb254 hg w10 hbox hb; have n0_ := Aside0.mk (below_step (by repeat (first | (with_reducible first | exact HB.out | apply below_alloc | apply pw_below_drewN | apply below_drew1) | exact HB.out)) hb); have n1_ := Aside0.mk (hbox); have n2_ := Aside0.mk ((by rw [hg]; exact (below_size (by repeat (first | (with_reducible first | exact HB.out | apply below_alloc | apply pw_below_drewN | apply below_drew1) | exact HB.out))) : w.heap.size ≤ gb254)); have n3_ := Aside0.mk ((by rw [hg]; exact (below_size (by repeat (first | (with_reducible first | exact HB.out | apply below_alloc | apply pw_below_drewN | apply below_drew1) | exact HB.out))) : w.heap.size ≤ gb254)); clear HB; have HB := n0_; have BK254 := n1_; have GW254 := n2_; have GE254 := n3_; clear n0_ n1_ n2_ n3_; clear hb hbox hg) | ((with_reducible refine gate_callee (f := 14) rfl ?_); refine goesL_ (some 13) rfl rfl Try.func14 (by kernel_rfl) rfl #[] rfl (by (try simp only [List.map_toArray, List.map_cons, List.map_nil]); first | done | rfl | (simp only [List.length_drop, List.length_take]; rfl)) ?_; (with_reducible refine (pylonlaw04_awake.calls k  true _ A3.out).mono ?_); rintro e w11 ⟨rfl, hb⟩; refine ⟨_, rfl, ?_⟩; have n0_ := Aside0.mk (blk_below (g := gb254) (o := .cells #[.int .i64 a0_0, .int .i64 a0_1, .int .i64 a0_2, .int .i64 a0_3, .int .i64 a0_4, .int .i64 a0_5, .int .i64 a0_6, .int .i64 a0_7, .int .i64 a0_8, .int .i64 a0_9] 25 (0, 0)) (by (with_reducible repeat first|refine blk_drewN ?_ _|refine blk_drew ?_|refine blk_alloc ?_ _); exact BK254.out) hb); have n1_ := Aside0.mk (below_step (by repeat (first | (with_reducible first | exact HB.out | apply below_alloc | apply pw_below_drewN | apply below_drew1 | refine below_set ?_ GE254.out) | exact HB.out)) hb); clear BK254; clear HB; have BK254 := n0_; have HB := n1_; clear n0_ n1_; (try clear hb); (try clear hb2); (try clear hk); (try clear hi)) | ((with_reducible refine gate_callee (f := 18) rfl ?_); refine goesL_ (some 16) rfl rfl Try.func18 (by kernel_rfl) rfl #[.int .i64 a1] rfl (by (try simp only [List.map_toArray, List.map_cons, List.map_nil]); first | done | rfl | (simp only [List.length_drop, List.length_take]; rfl)) ?_; (with_reducible refine (pylonlaw04_inner.calls a1 t256 _ A5.out).mono ?_); rintro e w' ⟨rfl, ⟨nd, rfl⟩⟩; refine ⟨_, rfl, ?_⟩; (try (rw [drewN_self w11]; generalize hq_ : World.drewN w11 _ = w11; have n0_ : Aside0 (w11.heap[gb254]? = some (.cells #[.int .i64 a0_0, .int .i64 a0_1, .int .i64 a0_2, .int .i64 a0_3, .int .i64 a0_4, .int .i64 a0_5, .int .i64 a0_6, .int .i64 a0_7, .int .i64 a0_8, .int .i64 a0_9] 25 (0, 0))) := ⟨by rw [← hq_]; exact (by (with_reducible repeat first|refine blk_drewN ?_ _|refine blk_drew ?_|refine blk_alloc ?_ _); exact BK254.out)⟩; have n1_ : Aside0 (Below w.heap.size w w11) := ⟨by rw [← hq_]; exact (by repeat (first | (with_reducible first | exact HB.out | apply below_alloc | apply pw_below_drewN | apply below_drew1 | refine below_set ?_ GE254.out) | exact HB.out))⟩; clear BK254 HB hq_; have BK254 := n0_; have HB := n1_; clear n0_ n1_)); have hcz12_0 : w11.cell? ⟨gb254, 0, none⟩ = some (.int .i64 a0_0) := (blk_cell BK254.out 0).trans rfl; have hcz12_1 : w11.cell? ⟨gb254, 1, none⟩ = some (.int .i64 a0_1) := (blk_cell BK254.out 1).trans rfl; have hcz12_2 : w11.cell? ⟨gb254, 2, none⟩ = some (.int .i64 a0_2) := (blk_cell BK254.out 2).trans rfl; have hcz12_3 : w11.cell? ⟨gb254, 3, none⟩ = some (.int .i64 a0_3) := (blk_cell BK254.out 3).trans rfl; have hcz12_4 : w11.cell? ⟨gb254, 4, none⟩ = some (.int .i64 a0_4) := (blk_cell BK254.out 4).trans rfl; have hcz12_5 : w11.cell? ⟨gb254, 5, none⟩ = some (.int .i64 a0_5) := (blk_cell BK254.out 5).trans rfl; have hcz12_6 : w11.cell? ⟨gb254, 6, none⟩ = some (.int .i64 a0_6) := (blk_cell BK254.out 6).trans rfl; have hcz12_7 : w11.cell? ⟨gb254, 7, none⟩ = some (.int .i64 a0_7) := (blk_cell BK254.out 7).trans rfl; have hcz12_8 : w11.cell? ⟨gb254, 8, none⟩ = some (.int .i64 a0_8) := (blk_cell BK254.out 8).trans rfl; have hcz12_9 : w11.cell? ⟨gb254, 9, none⟩ = some (.int .i64 a0_9) := (blk_cell BK254.out 9).trans rfl; have hfz12_0 := blk_frozen BK254.out 0; have hfz12_1 := blk_frozen BK254.out 1; have hfz12_2 := blk_frozen BK254.out 2; have hfz12_3 := blk_frozen BK254.out 3; have hfz12_4 := blk_frozen BK254.out 4; have hfz12_5 := blk_frozen BK254.out 5; have hfz12_6 := blk_frozen BK254.out 6; have hfz12_7 := blk_frozen BK254.out 7; have hfz12_8 := blk_frozen BK254.out 8; have hfz12_9 := blk_frozen BK254.out 9) | ((with_reducible refine gate_callee (f := 17) rfl ?_); refine goesL_ (some 20) rfl rfl Try.func17 (by kernel_rfl) rfl #[.agg #[.int .i64 a0_0, .int .i64 a0_1, .int .i64 a0_2, .int .i64 a0_3, .int .i64 a0_4, .int .i64 a0_5, .int .i64 a0_6, .int .i64 a0_7, .int .i64 a0_8, .int .i64 a0_9], .int .i64 t256] rfl (by (try simp only [List.map_toArray, List.map_cons, List.map_nil]); first | done | rfl | (simp only [List.length_drop, List.length_take]; rfl)) ?_; (with_reducible refine (zone_At.calls k a0_0 a0_1 a0_2 a0_3 a0_4 a0_5 a0_6 a0_7 a0_8 a0_9 t256 t257 t258 t259 t260 t261 t262 _ A6.out).mono ?_); rintro e w13 ⟨rfl, hb⟩; refine ⟨_, rfl, ?_⟩; have n0_ := Aside0.mk (blk_below (g := gb254) (o := .cells #[.int .i64 a0_0, .int .i64 a0_1, .int .i64 a0_2, .int .i64 a0_3, .int .i64 a0_4, .int .i64 a0_5, .int .i64 a0_6, .int .i64 a0_7, .int .i64 a0_8, .int .i64 a0_9] 25 (0, 0)) (by (with_reducible repeat first|refine blk_drewN ?_ _|refine blk_drew ?_|refine blk_alloc ?_ _); exact BK254.out) hb); have n1_ := Aside0.mk (below_step (by repeat (first | (with_reducible first | exact HB.out | apply below_alloc | apply pw_below_drewN | apply below_drew1 | refine below_set ?_ GE254.out) | exact HB.out)) hb); clear BK254; clear HB; have BK254 := n0_; have HB := n1_; clear n0_ n1_; (try clear hb); (try clear hb2); (try clear hk); (try clear hi)) | ((with_reducible refine gate_dst (N := 5) rfl ?_); (try (refine gate_guard (by rfl) ?_; dsimp only)); refine box_event ?hg (N := 5) ?hd (cs := #[.int .i64 0, .int .i64 0, .int .i64 0, .int .i64 0, .int .i64 0]) (t := 35) ?hr ?_; (case hd => rfl); (case hg => rfl); (case hr => first | (go_simp; done) | (go_simp; rfl)); intro gb263 hg w14 hbox hb; have n0_ := Aside0.mk (blk_below (g := gb254) (o := .cells #[.int .i64 a0_0, .int .i64 a0_1, .int .i64 a0_2, .int .i64 a0_3, .int .i64 a0_4, .int .i64 a0_5, .int .i64 a0_6, .int .i64 a0_7, .int .i64 a0_8, .int .i64 a0_9] 25 (0, 0)) (by (with_reducible repeat first|refine blk_drewN ?_ _|refine blk_drew ?_|refine blk_alloc ?_ _); exact BK254.out) hb); have n1_ := Aside0.mk (below_step (by repeat (first | (with_reducible first | exact HB.out | apply below_alloc | apply pw_below_drewN | apply below_drew1 | refine below_set ?_ GE254.out) | exact HB.out)) hb); have n2_ := Aside0.mk (hbox); have n3_ := Aside0.mk ((by rw [hg]; exact (below_size (by repeat (first | (with_reducible first | exact HB.out | apply below_alloc | apply pw_below_drewN | apply below_drew1 | refine below_set ?_ GE254.out) | exact HB.out))) : w.heap.size ≤ gb263)); have n4_ := Aside0.mk ((by rw [hg]; exact (below_size (by repeat (first | (with_reducible first | exact HB.out | apply below_alloc | apply pw_below_drewN | apply below_drew1 | refine below_set ?_ GE254.out) | exact HB.out))) : w.heap.size ≤ gb263)); have n5_ := Aside0.mk ((by rw [hg]; exact Nat.ne_of_lt (blk_lt (g := gb254) (o := .cells #[.int .i64 a0_0, .int .i64 a0_1, .int .i64 a0_2, .int .i64 a0_3, .int .i64 a0_4, .int .i64 a0_5, .int .i64 a0_6, .int .i64 a0_7, .int .i64 a0_8, .int .i64 a0_9] 25 (0, 0)) (by (with_reducible repeat first|refine blk_drewN ?_ _|refine blk_drew ?_|refine blk_alloc ?_ _); exact BK254.out)) : gb254 ≠ gb263)); have n6_ := Aside0.mk ((by rw [hg]; exact Nat.ne_of_gt (blk_lt (g := gb254) (o := .cells #[.int .i64 a0_0, .int .i64 a0_1, .int .i64 a0_2, .int .i64 a0_3, .int .i64 a0_4, .int .i64 a0_5, .int .i64 a0_6, .int .i64 a0_7, .int .i64 a0_8, .int .i64 a0_9] 25 (0, 0)) (by (with_reducible repeat first|refine blk_drewN ?_ _|refine blk_drew ?_|refine blk_alloc ?_ _); exact BK254.out)) : gb263 ≠ gb254)); clear BK254; clear HB; have BK254 := n0_; have HB := n1_; have BK263 := n2_; have GW263 := n3_; have GE263 := n4_; have NB254_263 := n5_; have NB263_254 := n6_; clear n0_ n1_ n2_ n3_ n4_ n5_ n6_; clear hb hbox hg; have hnb15 := NB263_254.out; have hnc15 := NB254_263.out; have hcz16_0 : w14.cell? ⟨gb263, 0, none⟩ = some (.int .i64 0) := (blk_cell BK263.out 0).trans rfl; have hcz16_1 : w14.cell? ⟨gb263, 1, none⟩ = some (.int .i64 0) := (blk_cell BK263.out 1).trans rfl; have hcz16_2 : w14.cell? ⟨gb263, 2, none⟩ = some (.int .i64 0) := (blk_cell BK263.out 2).trans rfl; have hcz16_3 : w14.cell? ⟨gb263, 3, none⟩ = some (.int .i64 0) := (blk_cell BK263.out 3).trans rfl; have hcz16_4 : w14.cell? ⟨gb263, 4, none⟩ = some (.int .i64 0) := (blk_cell BK263.out 4).trans rfl; have hfz16_0 := blk_frozen BK263.out 0; have hfz16_1 := blk_frozen BK263.out 1; have hfz16_2 := blk_frozen BK263.out 2; have hfz16_3 := blk_frozen BK263.out 3; have hfz16_4 := blk_frozen BK263.out 4; have hcz17_0 : w14.cell? ⟨gb254, 0, none⟩ = some (.int .i64 a0_0) := (blk_cell BK254.out 0).trans rfl; have hcz17_1 : w14.cell? ⟨gb254, 1, none⟩ = some (.int .i64 a0_1) := (blk_cell BK254.out 1).trans rfl; have hcz17_2 : w14.cell? ⟨gb254, 2, none⟩ = some (.int .i64 a0_2) := (blk_cell BK254.out 2).trans rfl; have hcz17_3 : w14.cell? ⟨gb254, 3, none⟩ = some (.int .i64 a0_3) := (blk_cell BK254.out 3).trans rfl; have hcz17_4 : w14.cell? ⟨gb254, 4, none⟩ = some (.int .i64 a0_4) := (blk_cell BK254.out 4).trans rfl; have hcz17_5 : w14.cell? ⟨gb254, 5, none⟩ = some (.int .i64 a0_5) := (blk_cell BK254.out 5).trans rfl; have hcz17_6 : w14.cell? ⟨gb254, 6, none⟩ = some (.int .i64 a0_6) := (blk_cell BK254.out 6).trans rfl; have hcz17_7 : w14.cell? ⟨gb254, 7, none⟩ = some (.int .i64 a0_7) := (blk_cell BK254.out 7).trans rfl; have hcz17_8 : w14.cell? ⟨gb254, 8, none⟩ = some (.int .i64 a0_8) := (blk_cell BK254.out 8).trans rfl; have hcz17_9 : w14.cell? ⟨gb254, 9, none⟩ = some (.int .i64 a0_9) := (blk_cell BK254.out 9).trans rfl; have hfz17_0 := blk_frozen BK254.out 0; have hfz17_1 := blk_frozen BK254.out 1; have hfz17_2 := blk_frozen BK254.out 2; have hfz17_3 := blk_frozen BK254.out 3; have hfz17_4 := blk_frozen BK254.out 4; have hfz17_5 := blk_frozen BK254.out 5; have hfz17_6 := blk_frozen BK254.out 6; have hfz17_7 := blk_frozen BK254.out 7; have hfz17_8 := blk_frozen BK254.out 8; have hfz17_9 := blk_frozen BK254.out 9) | ((with_reducible refine gate_callee (f := 16) rfl ?_); refine goesL_ (some 24) rfl rfl Try.func16 (by kernel_rfl) rfl #[.agg #[.int .i64 a0_0, .int .i64 a0_1, .int .i64 a0_2, .int .i64 a0_3, .int .i64 a0_4, .int .i64 a0_5, .int .i64 a0_6, .int .i64 a0_7, .int .i64 a0_8, .int .i64 a0_9]] rfl (by (try simp only [List.map_toArray, List.map_cons, List.map_nil]); first | done | rfl | (simp only [List.length_drop, List.length_take]; rfl)) ?_; (with_reducible refine (pylonref04_Check.calls k a0_0 a0_1 a0_2 a0_3 a0_4 a0_5 a0_6 a0_7 a0_8 a0_9 t264 _ A7.out).mono ?_); rintro e w18 ⟨rfl, hb⟩; refine ⟨_, rfl, ?_⟩; have n0_ := Aside0.mk (blk_below (g := gb254) (o := .cells #[.int .i64 a0_0, .int .i64 a0_1, .int .i64 a0_2, .int .i64 a0_3, .int .i64 a0_4, .int .i64 a0_5, .int .i64 a0_6, .int .i64 a0_7, .int .i64 a0_8, .int .i64 a0_9] 25 (0, 0)) (by (with_reducible repeat first|refine blk_drewN ?_ _|refine blk_drew ?_|refine blk_alloc ?_ _); refine blk_far ?_ NB254_263.out _; (with_reducible repeat first|refine blk_drewN ?_ _|refine blk_drew ?_|refine blk_alloc ?_ _); refine blk_far ?_ NB254_263.out _; (with_reducible repeat first|refine blk_drewN ?_ _|refine blk_drew ?_|refine blk_alloc ?_ _); refine blk_far ?_ NB254_263.out _; (with_reducible repeat first|refine blk_drewN ?_ _|refine blk_drew ?_|refine blk_alloc ?_ _); refine blk_far ?_ NB254_263.out _; (with_reducible repeat first|refine blk_drewN ?_ _|refine blk_drew ?_|refine blk_alloc ?_ _); refine blk_far ?_ NB254_263.out _; (with_reducible repeat first|refine blk_drewN ?_ _|refine blk_drew ?_|refine blk_alloc ?_ _); exact BK254.out) hb); have n1_ := Aside0.mk (blk_below (g := gb263) (o := .cells #[.int .i64 t257, .int .i64 t258, .int .i64 t259, .int .i64 t260, .int .i64 t261] 35 (0, 0)) (by (with_reducible repeat first|refine blk_drewN ?_ _|refine blk_drew ?_|refine blk_alloc ?_ _); refine blk_put (cs := #[.int .i64 t257, .int .i64 t258, .int .i64 t259, .int .i64 t260, .int .i64 0]) ?_ 4 _ rfl; (with_reducible repeat first|refine blk_drewN ?_ _|refine blk_drew ?_|refine blk_alloc ?_ _); refine blk_put (cs := #[.int .i64 t257, .int .i64 t258, .int .i64 t259, .int .i64 0, .int .i64 0]) ?_ 3 _ rfl; (with_reducible repeat first|refine blk_drewN ?_ _|refine blk_drew ?_|refine blk_alloc ?_ _); refine blk_put (cs := #[.int .i64 t257, .int .i64 t258, .int .i64 0, .int .i64 0, .int .i64 0]) ?_ 2 _ rfl; (with_reducible repeat first|refine blk_drewN ?_ _|refine blk_drew ?_|refine blk_alloc ?_ _); refine blk_put (cs := #[.int .i64 t257, .int .i64 0, .int .i64 0, .int .i64 0, .int .i64 0]) ?_ 1 _ rfl; (with_reducible repeat first|refine blk_drewN ?_ _|refine blk_drew ?_|refine blk_alloc ?_ _); refine blk_put (cs := #[.int .i64 0, .int .i64 0, .int .i64 0, .int .i64 0, .int .i64 0]) ?_ 0 _ rfl; (with_reducible repeat first|refine blk_drewN ?_ _|refine blk_drew ?_|refine blk_alloc ?_ _); exact BK263.out) hb); have n2_ := Aside0.mk (below_step (by repeat (first | (with_reducible first | exact HB.out | apply below_alloc | apply pw_below_drewN | apply below_drew1 | refine below_set ?_ GE254.out | refine below_set ?_ GE263.out) | exact HB.out)) hb); clear BK254; clear BK263; clear HB; have BK254 := n0_; have BK263 := n1_; have HB := n2_; clear n0_ n1_ n2_; (try clear hb); (try clear hb2); (try clear hk); (try clear hi)))
   (try simp only [Act.put, List.setIfInBounds_toArray, List.set_cons_zero, List.set_cons_succ])
   go_cut [66] (fun v66 wc => ∃ (kq : Nat) (x66_8 : Bool), v66 = .bool x66_8 ∧ Aside0 (pylonlaw04_ZoneAts.j1 kq t256 x66_8 a0_0 a0_1 a0_2 a0_3 a0_4 a0_5 a0_6 a0_7 a0_8 a0_9 t257 t258 t259 t260 t261 = some r) ∧ Aside0 (kq ≤ k) ∧ Aside0 (wc.heap[gb254]? = some (.cells #[.int .i64 a0_0, .int .i64 a0_1, .int .i64 a0_2, .int .i64 a0_3, .int .i64 a0_4, .int .i64 a0_5, .int .i64 a0_6, .int .i64 a0_7, .int .i64 a0_8, .int .i64 a0_9] 25 (0, 0))) ∧ Aside0 (wc.heap[gb263]? = some (.cells #[.int .i64 t257, .int .i64 t258, .int .i64 t259, .int .i64 t260, .int .i64 t261] 35 (0, 0))) ∧ Aside0 (Below w.heap.size w wc))
   case first =>
    have H := HC9.out
    clear HC9
    by_cases c19 : t262 = 0
    ·rw [if_pos c19] at H
     have c19b0 : (t262 == 0) = true := beq_iff_eq.mpr c19
     have c19b1 : (t262 != 0) = false := bne_eq_false_iff_eq.mpr c19
     clear c19
     (first | rw [c19b0] | (simp only [i64_w, i32_w]; rw [c19b0]) | skip)
     by_cases c20 : t261 = a0_0
     ·rw [if_pos c20] at H
      have c20b0 : (t261 == a0_0) = true := beq_iff_eq.mpr c20
      have c20b1 : (t261 != a0_0) = false := bne_eq_false_iff_eq.mpr c20
      clear c20
      by_cases c21 : t260 < 0
      ·rw [if_pos c21] at H
       have c21b0 : decide (t260 < 0) = true := decide_eq_true c21
       clear c21
       have H' := Aside0.mk H
       clear H
       have hnb22 := NB263_254.out
       have hnc22 := NB254_263.out
       have hcz23_0 : w18.cell? ⟨gb263, 0, none⟩ = some (.int .i64 t257) := (blk_cell BK263.out 0).trans rfl
       have hcz23_1 : w18.cell? ⟨gb263, 1, none⟩ = some (.int .i64 t258) := (blk_cell BK263.out 1).trans rfl
       have hcz23_2 : w18.cell? ⟨gb263, 2, none⟩ = some (.int .i64 t259) := (blk_cell BK263.out 2).trans rfl
       have hcz23_3 : w18.cell? ⟨gb263, 3, none⟩ = some (.int .i64 t260) := (blk_cell BK263.out 3).trans rfl
       have hcz23_4 : w18.cell? ⟨gb263, 4, none⟩ = some (.int .i64 t261) := (blk_cell BK263.out 4).trans rfl
       have hfz23_0 := blk_frozen BK263.out 0
       have hfz23_1 := blk_frozen BK263.out 1
       have hfz23_2 := blk_frozen BK263.out 2
       have hfz23_3 := blk_frozen BK263.out 3
       have hfz23_4 := blk_frozen BK263.out 4
       have hcz24_0 : w18.cell? ⟨gb254, 0, none⟩ = some (.int .i64 a0_0) := (blk_cell BK254.out 0).trans rfl
       have hcz24_1 : w18.cell? ⟨gb254, 1, none⟩ = some (.int .i64 a0_1) := (blk_cell BK254.out 1).trans rfl
       have hcz24_2 : w18.cell? ⟨gb254, 2, none⟩ = some (.int .i64 a0_2) := (blk_cell BK254.out 2).trans rfl
       have hcz24_3 : w18.cell? ⟨gb254, 3, none⟩ = some (.int .i64 a0_3) := (blk_cell BK254.out 3).trans rfl
       have hcz24_4 : w18.cell? ⟨gb254, 4, none⟩ = some (.int .i64 a0_4) := (blk_cell BK254.out 4).trans rfl
       have hcz24_5 : w18.cell? ⟨gb254, 5, none⟩ = some (.int .i64 a0_5) := (blk_cell BK254.out 5).trans rfl
       have hcz24_6 : w18.cell? ⟨gb254, 6, none⟩ = some (.int .i64 a0_6) := (blk_cell BK254.out 6).trans rfl
       have hcz24_7 : w18.cell? ⟨gb254, 7, none⟩ = some (.int .i64 a0_7) := (blk_cell BK254.out 7).trans rfl
       have hcz24_8 : w18.cell? ⟨gb254, 8, none⟩ = some (.int .i64 a0_8) := (blk_cell BK254.out 8).trans rfl
       have hcz24_9 : w18.cell? ⟨gb254, 9, none⟩ = some (.int .i64 a0_9) := (blk_cell BK254.out 9).trans rfl
       have hfz24_0 := blk_frozen BK254.out 0
       have hfz24_1 := blk_frozen BK254.out 1
       have hfz24_2 := blk_frozen BK254.out 2
       have hfz24_3 := blk_frozen BK254.out 3
       have hfz24_4 := blk_frozen BK254.out 4
       have hfz24_5 := blk_frozen BK254.out 5
       have hfz24_6 := blk_frozen BK254.out 6
       have hfz24_7 := blk_frozen BK254.out 7
       have hfz24_8 := blk_frozen BK254.out 8
       have hfz24_9 := blk_frozen BK254.out 9
       go_wp2
       go_meet
       case rel => exact ⟨_, (true), (by first | rfl | (simp; done) | (simp [*]; done)), H', ⟨by first | omega | exact Nat.le_refl _⟩, ⟨by (with_reducible repeat first|refine blk_drewN ?_ _|refine blk_drew ?_|refine blk_alloc ?_ _); exact BK254.out⟩, ⟨by (with_reducible repeat first|refine blk_drewN ?_ _|refine blk_drew ?_|refine blk_alloc ?_ _); exact BK263.out⟩, ⟨by repeat (first | (with_reducible first | exact HB.out | apply below_alloc | apply pw_below_drewN | apply below_drew1 | refine below_set ?_ GE254.out | refine below_set ?_ GE263.out) | exact HB.out)⟩⟩
      ·rw [if_neg c21] at H
       have c21b0 : decide (t260 < 0) = false := decide_eq_false c21
       clear c21
       have H' := Aside0.mk H
       clear H
       have hnb25 := NB263_254.out
       have hnc25 := NB254_263.out
       have hcz26_0 : w18.cell? ⟨gb263, 0, none⟩ = some (.int .i64 t257) := (blk_cell BK263.out 0).trans rfl
       have hcz26_1 : w18.cell? ⟨gb263, 1, none⟩ = some (.int .i64 t258) := (blk_cell BK263.out 1).trans rfl
       have hcz26_2 : w18.cell? ⟨gb263, 2, none⟩ = some (.int .i64 t259) := (blk_cell BK263.out 2).trans rfl
       have hcz26_3 : w18.cell? ⟨gb263, 3, none⟩ = some (.int .i64 t260) := (blk_cell BK263.out 3).trans rfl
       have hcz26_4 : w18.cell? ⟨gb263, 4, none⟩ = some (.int .i64 t261) := (blk_cell BK263.out 4).trans rfl
       have hfz26_0 := blk_frozen BK263.out 0
       have hfz26_1 := blk_frozen BK263.out 1
       have hfz26_2 := blk_frozen BK263.out 2
       have hfz26_3 := blk_frozen BK263.out 3
       have hfz26_4 := blk_frozen BK263.out 4
       have hcz27_0 : w18.cell? ⟨gb254, 0, none⟩ = some (.int .i64 a0_0) := (blk_cell BK254.out 0).trans rfl
       have hcz27_1 : w18.cell? ⟨gb254, 1, none⟩ = some (.int .i64 a0_1) := (blk_cell BK254.out 1).trans rfl
       have hcz27_2 : w18.cell? ⟨gb254, 2, none⟩ = some (.int .i64 a0_2) := (blk_cell BK254.out 2).trans rfl
       have hcz27_3 : w18.cell? ⟨gb254, 3, none⟩ = some (.int .i64 a0_3) := (blk_cell BK254.out 3).trans rfl
       have hcz27_4 : w18.cell? ⟨gb254, 4, none⟩ = some (.int .i64 a0_4) := (blk_cell BK254.out 4).trans rfl
       have hcz27_5 : w18.cell? ⟨gb254, 5, none⟩ = some (.int .i64 a0_5) := (blk_cell BK254.out 5).trans rfl
       have hcz27_6 : w18.cell? ⟨gb254, 6, none⟩ = some (.int .i64 a0_6) := (blk_cell BK254.out 6).trans rfl
       have hcz27_7 : w18.cell? ⟨gb254, 7, none⟩ = some (.int .i64 a0_7) := (blk_cell BK254.out 7).trans rfl
       have hcz27_8 : w18.cell? ⟨gb254, 8, none⟩ = some (.int .i64 a0_8) := (blk_cell BK254.out 8).trans rfl
       have hcz27_9 : w18.cell? ⟨gb254, 9, none⟩ = some (.int .i64 a0_9) := (blk_cell BK254.out 9).trans rfl
       have hfz27_0 := blk_frozen BK254.out 0
       have hfz27_1 := blk_frozen BK254.out 1
       have hfz27_2 := blk_frozen BK254.out 2
       have hfz27_3 := blk_frozen BK254.out 3
       have hfz27_4 := blk_frozen BK254.out 4
       have hfz27_5 := blk_frozen BK254.out 5
       have hfz27_6 := blk_frozen BK254.out 6
       have hfz27_7 := blk_frozen BK254.out 7
       have hfz27_8 := blk_frozen BK254.out 8
       have hfz27_9 := blk_frozen BK254.out 9
       go_wp2
       go_meet
       case rel => exact ⟨_, (decide (t260 > 1439)), (by first | rfl | (simp; done) | (simp [*]; done)), H', ⟨by first | omega | exact Nat.le_refl _⟩, ⟨by (with_reducible repeat first|refine blk_drewN ?_ _|refine blk_drew ?_|refine blk_alloc ?_ _); exact BK254.out⟩, ⟨by (with_reducible repeat first|refine blk_drewN ?_ _|refine blk_drew ?_|refine blk_alloc ?_ _); exact BK263.out⟩, ⟨by repeat (first | (with_reducible first | exact HB.out | apply below_alloc | apply pw_below_drewN | apply below_drew1 | refine below_set ?_ GE254.out | refine below_set ?_ GE263.out) | exact HB.out)⟩⟩
     ·rw [if_neg c20] at H
      have c20b0 : (t261 == a0_0) = false := beq_eq_false_iff_ne.mpr c20
      have c20b1 : (t261 != a0_0) = true := bne_iff_ne.mpr c20
      by_cases c28 : t261 = (wrap64 (a0_0 + a0_1))
      ·rw [if_pos c28] at H
       have c28b0 : (t261 == (wrap64 (a0_0 + a0_1))) = true := beq_iff_eq.mpr c28
       have c28b1 : (t261 != (wrap64 (a0_0 + a0_1))) = false := bne_eq_false_iff_eq.mpr c28
       clear c28
       by_cases c29 : t260 < 0
       ·rw [if_pos c29] at H
        have c29b0 : decide (t260 < 0) = true := decide_eq_true c29
        clear c29
        have H' := Aside0.mk H
        clear H
        have hnb30 := NB263_254.out
        have hnc30 := NB254_263.out
        have hcz31_0 : w18.cell? ⟨gb263, 0, none⟩ = some (.int .i64 t257) := (blk_cell BK263.out 0).trans rfl
        have hcz31_1 : w18.cell? ⟨gb263, 1, none⟩ = some (.int .i64 t258) := (blk_cell BK263.out 1).trans rfl
        have hcz31_2 : w18.cell? ⟨gb263, 2, none⟩ = some (.int .i64 t259) := (blk_cell BK263.out 2).trans rfl
        have hcz31_3 : w18.cell? ⟨gb263, 3, none⟩ = some (.int .i64 t260) := (blk_cell BK263.out 3).trans rfl
        have hcz31_4 : w18.cell? ⟨gb263, 4, none⟩ = some (.int .i64 t261) := (blk_cell BK263.out 4).trans rfl
        have hfz31_0 := blk_frozen BK263.out 0
        have hfz31_1 := blk_frozen BK263.out 1
        have hfz31_2 := blk_frozen BK263.out 2
        have hfz31_3 := blk_frozen BK263.out 3
        have hfz31_4 := blk_frozen BK263.out 4
        have hcz32_0 : w18.cell? ⟨gb254, 0, none⟩ = some (.int .i64 a0_0) := (blk_cell BK254.out 0).trans rfl
        have hcz32_1 : w18.cell? ⟨gb254, 1, none⟩ = some (.int .i64 a0_1) := (blk_cell BK254.out 1).trans rfl
        have hcz32_2 : w18.cell? ⟨gb254, 2, none⟩ = some (.int .i64 a0_2) := (blk_cell BK254.out 2).trans rfl
        have hcz32_3 : w18.cell? ⟨gb254, 3, none⟩ = some (.int .i64 a0_3) := (blk_cell BK254.out 3).trans rfl
        have hcz32_4 : w18.cell? ⟨gb254, 4, none⟩ = some (.int .i64 a0_4) := (blk_cell BK254.out 4).trans rfl
        have hcz32_5 : w18.cell? ⟨gb254, 5, none⟩ = some (.int .i64 a0_5) := (blk_cell BK254.out 5).trans rfl
        have hcz32_6 : w18.cell? ⟨gb254, 6, none⟩ = some (.int .i64 a0_6) := (blk_cell BK254.out 6).trans rfl
        have hcz32_7 : w18.cell? ⟨gb254, 7, none⟩ = some (.int .i64 a0_7) := (blk_cell BK254.out 7).trans rfl
        have hcz32_8 : w18.cell? ⟨gb254, 8, none⟩ = some (.int .i64 a0_8) := (blk_cell BK254.out 8).trans rfl
        have hcz32_9 : w18.cell? ⟨gb254, 9, none⟩ = some (.int .i64 a0_9) := (blk_cell BK254.out 9).trans rfl
        have hfz32_0 := blk_frozen BK254.out 0
        have hfz32_1 := blk_frozen BK254.out 1
        have hfz32_2 := blk_frozen BK254.out 2
        have hfz32_3 := blk_frozen BK254.out 3
        have hfz32_4 := blk_frozen BK254.out 4
        have hfz32_5 := blk_frozen BK254.out 5
        have hfz32_6 := blk_frozen BK254.out 6
        have hfz32_7 := blk_frozen BK254.out 7
        have hfz32_8 := blk_frozen BK254.out 8
        have hfz32_9 := blk_frozen BK254.out 9
        go_wp2
        go_meet
        case rel => exact ⟨_, (true), (by first | rfl | (simp; done) | (simp [*]; done)), H', ⟨by first | omega | exact Nat.le_refl _⟩, ⟨by (with_reducible repeat first|refine blk_drewN ?_ _|refine blk_drew ?_|refine blk_alloc ?_ _); exact BK254.out⟩, ⟨by (with_reducible repeat first|refine blk_drewN ?_ _|refine blk_drew ?_|refine blk_alloc ?_ _); exact BK263.out⟩, ⟨by repeat (first | (with_reducible first | exact HB.out | apply below_alloc | apply pw_below_drewN | apply below_drew1 | refine below_set ?_ GE254.out | refine below_set ?_ GE263.out) | exact HB.out)⟩⟩
       ·rw [if_neg c29] at H
        have c29b0 : decide (t260 < 0) = false := decide_eq_false c29
        clear c29
        have H' := Aside0.mk H
        clear H
        have hnb33 := NB263_254.out
        have hnc33 := NB254_263.out
        have hcz34_0 : w18.cell? ⟨gb263, 0, none⟩ = some (.int .i64 t257) := (blk_cell BK263.out 0).trans rfl
        have hcz34_1 : w18.cell? ⟨gb263, 1, none⟩ = some (.int .i64 t258) := (blk_cell BK263.out 1).trans rfl
        have hcz34_2 : w18.cell? ⟨gb263, 2, none⟩ = some (.int .i64 t259) := (blk_cell BK263.out 2).trans rfl
        have hcz34_3 : w18.cell? ⟨gb263, 3, none⟩ = some (.int .i64 t260) := (blk_cell BK263.out 3).trans rfl
        have hcz34_4 : w18.cell? ⟨gb263, 4, none⟩ = some (.int .i64 t261) := (blk_cell BK263.out 4).trans rfl
        have hfz34_0 := blk_frozen BK263.out 0
        have hfz34_1 := blk_frozen BK263.out 1
        have hfz34_2 := blk_frozen BK263.out 2
        have hfz34_3 := blk_frozen BK263.out 3
        have hfz34_4 := blk_frozen BK263.out 4
        have hcz35_0 : w18.cell? ⟨gb254, 0, none⟩ = some (.int .i64 a0_0) := (blk_cell BK254.out 0).trans rfl
        have hcz35_1 : w18.cell? ⟨gb254, 1, none⟩ = some (.int .i64 a0_1) := (blk_cell BK254.out 1).trans rfl
        have hcz35_2 : w18.cell? ⟨gb254, 2, none⟩ = some (.int .i64 a0_2) := (blk_cell BK254.out 2).trans rfl
        have hcz35_3 : w18.cell? ⟨gb254, 3, none⟩ = some (.int .i64 a0_3) := (blk_cell BK254.out 3).trans rfl
        have hcz35_4 : w18.cell? ⟨gb254, 4, none⟩ = some (.int .i64 a0_4) := (blk_cell BK254.out 4).trans rfl
        have hcz35_5 : w18.cell? ⟨gb254, 5, none⟩ = some (.int .i64 a0_5) := (blk_cell BK254.out 5).trans rfl
        have hcz35_6 : w18.cell? ⟨gb254, 6, none⟩ = some (.int .i64 a0_6) := (blk_cell BK254.out 6).trans rfl
        have hcz35_7 : w18.cell? ⟨gb254, 7, none⟩ = some (.int .i64 a0_7) := (blk_cell BK254.out 7).trans rfl
        have hcz35_8 : w18.cell? ⟨gb254, 8, none⟩ = some (.int .i64 a0_8) := (blk_cell BK254.out 8).trans rfl
        have hcz35_9 : w18.cell? ⟨gb254, 9, none⟩ = some (.int .i64 a0_9) := (blk_cell BK254.out 9).trans rfl
        have hfz35_0 := blk_frozen BK254.out 0
        have hfz35_1 := blk_frozen BK254.out 1
        have hfz35_2 := blk_frozen BK254.out 2
        have hfz35_3 := blk_frozen BK254.out 3
        have hfz35_4 := blk_frozen BK254.out 4
        have hfz35_5 := blk_frozen BK254.out 5
        have hfz35_6 := blk_frozen BK254.out 6
        have hfz35_7 := blk_frozen BK254.out 7
        have hfz35_8 := blk_frozen BK254.out 8
        have hfz35_9 := blk_frozen BK254.out 9
        go_wp2
        go_meet
        case rel => exact ⟨_, (decide (t260 > 1439)), (by first | rfl | (simp; done) | (simp [*]; done)), H', ⟨by first | omega | exact Nat.le_refl _⟩, ⟨by (with_reducible repeat first|refine blk_drewN ?_ _|refine blk_drew ?_|refine blk_alloc ?_ _); exact BK254.out⟩, ⟨by (with_reducible repeat first|refine blk_drewN ?_ _|refine blk_drew ?_|refine blk_alloc ?_ _); exact BK263.out⟩, ⟨by repeat (first | (with_reducible first | exact HB.out | apply below_alloc | apply pw_below_drewN | apply below_drew1 | refine below_set ?_ GE254.out | refine below_set ?_ GE263.out) | exact HB.out)⟩⟩
      ·rw [if_neg c28] at H
       have c28b0 : (t261 == (wrap64 (a0_0 + a0_1))) = false := beq_eq_false_iff_ne.mpr c28
       have c28b1 : (t261 != (wrap64 (a0_0 + a0_1))) = true := bne_iff_ne.mpr c28
       have H' := Aside0.mk H
       clear H
       have hnb36 := NB263_254.out
       have hnc36 := NB254_263.out
       have hcz37_0 : w18.cell? ⟨gb263, 0, none⟩ = some (.int .i64 t257) := (blk_cell BK263.out 0).trans rfl
       have hcz37_1 : w18.cell? ⟨gb263, 1, none⟩ = some (.int .i64 t258) := (blk_cell BK263.out 1).trans rfl
       have hcz37_2 : w18.cell? ⟨gb263, 2, none⟩ = some (.int .i64 t259) := (blk_cell BK263.out 2).trans rfl
       have hcz37_3 : w18.cell? ⟨gb263, 3, none⟩ = some (.int .i64 t260) := (blk_cell BK263.out 3).trans rfl
       have hcz37_4 : w18.cell? ⟨gb263, 4, none⟩ = some (.int .i64 t261) := (blk_cell BK263.out 4).trans rfl
       have hfz37_0 := blk_frozen BK263.out 0
       have hfz37_1 := blk_frozen BK263.out 1
       have hfz37_2 := blk_frozen BK263.out 2
       have hfz37_3 := blk_frozen BK263.out 3
       have hfz37_4 := blk_frozen BK263.out 4
       have hcz38_0 : w18.cell? ⟨gb254, 0, none⟩ = some (.int .i64 a0_0) := (blk_cell BK254.out 0).trans rfl
       have hcz38_1 : w18.cell? ⟨gb254, 1, none⟩ = some (.int .i64 a0_1) := (blk_cell BK254.out 1).trans rfl
       have hcz38_2 : w18.cell? ⟨gb254, 2, none⟩ = some (.int .i64 a0_2) := (blk_cell BK254.out 2).trans rfl
       have hcz38_3 : w18.cell? ⟨gb254, 3, none⟩ = some (.int .i64 a0_3) := (blk_cell BK254.out 3).trans rfl
       have hcz38_4 : w18.cell? ⟨gb254, 4, none⟩ = some (.int .i64 a0_4) := (blk_cell BK254.out 4).trans rfl
       have hcz38_5 : w18.cell? ⟨gb254, 5, none⟩ = some (.int .i64 a0_5) := (blk_cell BK254.out 5).trans rfl
       have hcz38_6 : w18.cell? ⟨gb254, 6, none⟩ = some (.int .i64 a0_6) := (blk_cell BK254.out 6).trans rfl
       have hcz38_7 : w18.cell? ⟨gb254, 7, none⟩ = some (.int .i64 a0_7) := (blk_cell BK254.out 7).trans rfl
       have hcz38_8 : w18.cell? ⟨gb254, 8, none⟩ = some (.int .i64 a0_8) := (blk_cell BK254.out 8).trans rfl
       have hcz38_9 : w18.cell? ⟨gb254, 9, none⟩ = some (.int .i64 a0_9) := (blk_cell BK254.out 9).trans rfl
       have hfz38_0 := blk_frozen BK254.out 0
       have hfz38_1 := blk_frozen BK254.out 1
       have hfz38_2 := blk_frozen BK254.out 2
       have hfz38_3 := blk_frozen BK254.out 3
       have hfz38_4 := blk_frozen BK254.out 4
       have hfz38_5 := blk_frozen BK254.out 5
       have hfz38_6 := blk_frozen BK254.out 6
       have hfz38_7 := blk_frozen BK254.out 7
       have hfz38_8 := blk_frozen BK254.out 8
       have hfz38_9 := blk_frozen BK254.out 9
       go_wp2
       go_meet
       case rel => exact ⟨_, (true), (by first | rfl | (simp; done) | (simp [*]; done)), H', ⟨by first | omega | exact Nat.le_refl _⟩, ⟨by (with_reducible repeat first|refine blk_drewN ?_ _|refine blk_drew ?_|refine blk_alloc ?_ _); exact BK254.out⟩, ⟨by (with_reducible repeat first|refine blk_drewN ?_ _|refine blk_drew ?_|refine blk_alloc ?_ _); exact BK263.out⟩, ⟨by repeat (first | (with_reducible first | exact HB.out | apply below_alloc | apply pw_below_drewN | apply below_drew1 | refine below_set ?_ GE254.out | refine below_set ?_ GE263.out) | exact HB.out)⟩⟩
    ·rw [if_neg c19] at H
     have c19b0 : (t262 == 0) = false := beq_eq_false_iff_ne.mpr c19
     have c19b1 : (t262 != 0) = true := bne_iff_ne.mpr c19
     (first | rw [c19b0] | (simp only [i64_w, i32_w]; rw [c19b0]) | skip)
     have H' := Aside0.mk H
     clear H
     go_wp2
     go_meet
     case rel => exact ⟨_, (true), (by first | rfl | (simp; done) | (simp [*]; done)), H', ⟨by first | omega | exact Nat.le_refl _⟩, ⟨by (with_reducible repeat first|refine blk_drewN ?_ _|refine blk_drew ?_|refine blk_alloc ?_ _); exact BK254.out⟩, ⟨by (with_reducible repeat first|refine blk_drewN ?_ _|refine blk_drew ?_|refine blk_alloc ?_ _); exact BK263.out⟩, ⟨by repeat (first | (with_reducible first | exact HB.out | apply below_alloc | apply pw_below_drewN | apply below_drew1 | refine below_set ?_ GE254.out | refine below_set ?_ GE263.out) | exact HB.out)⟩⟩
   case rest =>
    clear HC9
    try clear c1
    try clear c2
    try clear p2
    try clear c3
    try clear c4
    try clear p6
    try clear c8
    try clear c8b0
    try clear c8b1
    try clear c14
    try clear c15
    try clear c16
    try clear c17
    try clear c18
    try clear c19
    try clear c19b0
    try clear c19b1
    try clear c20
    try clear c20b0
    try clear c20b1
    try clear c21
    try clear c21b0
    try clear c22
    try clear c25
    try clear c28
    try clear c28b0
    try clear c28b1
    try clear c29
    try clear c29b0
    try clear c30
    try clear c33
    try clear c36
    try clear hcz12_0
    try clear hcz12_1
    try clear hcz12_2
    try clear hcz12_3
    try clear hcz12_4
    try clear hcz12_5
    try clear hcz12_6
    try clear hcz12_7
    try clear hcz12_8
    try clear hcz12_9
    try clear hcz16_0
    try clear hcz16_1
    try clear hcz16_2
    try clear hcz16_3
    try clear hcz16_4
    try clear hcz17_0
    try clear hcz17_1
    try clear hcz17_2
    try clear hcz17_3
    try clear hcz17_4
    try clear hcz17_5
    try clear hcz17_6
    try clear hcz17_7
    try clear hcz17_8
    try clear hcz17_9
    try clear hcz23_0
    try clear hcz23_1
    try clear hcz23_2
    try clear hcz23_3
    try clear hcz23_4
    try clear hcz24_0
    try clear hcz24_1
    try clear hcz24_2
    try clear hcz24_3
    try clear hcz24_4
    try clear hcz24_5
    try clear hcz24_6
    try clear hcz24_7
    try clear hcz24_8
    try clear hcz24_9
    try clear hcz26_0
    try clear hcz26_1
    try clear hcz26_2
    try clear hcz26_3
    try clear hcz26_4
    try clear hcz27_0
    try clear hcz27_1
    try clear hcz27_2
    try clear hcz27_3
    try clear hcz27_4
    try clear hcz27_5
    try clear hcz27_6
    try clear hcz27_7
    try clear hcz27_8
    try clear hcz27_9
    try clear hcz31_0
    try clear hcz31_1
    try clear hcz31_2
    try clear hcz31_3
    try clear hcz31_4
    try clear hcz32_0
    try clear hcz32_1
    try clear hcz32_2
    try clear hcz32_3
    try clear hcz32_4
    try clear hcz32_5
    try clear hcz32_6
    try clear hcz32_7
    try clear hcz32_8
    try clear hcz32_9
    try clear hcz34_0
    try clear hcz34_1
    try clear hcz34_2
    try clear hcz34_3
    try clear hcz34_4
    try clear hcz35_0
    try clear hcz35_1
    try clear hcz35_2
    try clear hcz35_3
    try clear hcz35_4
    try clear hcz35_5
    try clear hcz35_6
    try clear hcz35_7
    try clear hcz35_8
    try clear hcz35_9
    try clear hcz37_0
    try clear hcz37_1
    try clear hcz37_2
    try clear hcz37_3
    try clear hcz37_4
    try clear hcz38_0
    try clear hcz38_1
    try clear hcz38_2
    try clear hcz38_3
    try clear hcz38_4
    try clear hcz38_5
    try clear hcz38_6
    try clear hcz38_7
    try clear hcz38_8
    try clear hcz38_9
    try clear hfz12_0
    try clear hfz12_1
    try clear hfz12_2
    try clear hfz12_3
    try clear hfz12_4
    try clear hfz12_5
    try clear hfz12_6
    try clear hfz12_7
    try clear hfz12_8
    try clear hfz12_9
    try clear hfz16_0
    try clear hfz16_1
    try clear hfz16_2
    try clear hfz16_3
    try clear hfz16_4
    try clear hfz17_0
    try clear hfz17_1
    try clear hfz17_2
    try clear hfz17_3
    try clear hfz17_4
    try clear hfz17_5
    try clear hfz17_6
    try clear hfz17_7
    try clear hfz17_8
    try clear hfz17_9
    try clear hfz23_0
    try clear hfz23_1
    try clear hfz23_2
    try clear hfz23_3
    try clear hfz23_4
    try clear hfz24_0
    try clear hfz24_1
    try clear hfz24_2
    try clear hfz24_3
    try clear hfz24_4
    try clear hfz24_5
    try clear hfz24_6
    try clear hfz24_7
    try clear hfz24_8
    try clear hfz24_9
    try clear hfz26_0
    try clear hfz26_1
    try clear hfz26_2
    try clear hfz26_3
    try clear hfz26_4
    try clear hfz27_0
    try clear hfz27_1
    try clear hfz27_2
    try clear hfz27_3
    try clear hfz27_4
    try clear hfz27_5
    try clear hfz27_6
    try clear hfz27_7
    try clear hfz27_8
    try clear hfz27_9
    try clear hfz31_0
    try clear hfz31_1
    try clear hfz31_2
    try clear hfz31_3
    try clear hfz31_4
    try clear hfz32_0
    try clear hfz32_1
    try clear hfz32_2
    try clear hfz32_3
    try clear hfz32_4
    try clear hfz32_5
    try clear hfz32_6
    try clear hfz32_7
    try clear hfz32_8
    try clear hfz32_9
    try clear hfz34_0
    try clear hfz34_1
    try clear hfz34_2
    try clear hfz34_3
    try clear hfz34_4
    try clear hfz35_0
    try clear hfz35_1
    try clear hfz35_2
    try clear hfz35_3
    try clear hfz35_4
    try clear hfz35_5
    try clear hfz35_6
    try clear hfz35_7
    try clear hfz35_8
    try clear hfz35_9
    try clear hfz37_0
    try clear hfz37_1
    try clear hfz37_2
    try clear hfz37_3
    try clear hfz37_4
    try clear hfz38_0
    try clear hfz38_1
    try clear hfz38_2
    try clear hfz38_3
    try clear hfz38_4
    try clear hfz38_5
    try clear hfz38_6
    try clear hfz38_7
    try clear hfz38_8
    try clear hfz38_9
    obtain ⟨kq, x66_8, rfl, HA, HJ8, BK254, BK263, HB⟩ := hcut
    cases kq with
    | zero => exact absurd HA.out (by simp [pylonlaw04_ZoneAts.j1])
    | succ kj8 =>
     have H := HA.out
     clear HA
     simp only [pylonlaw04_ZoneAts.j1] at H
     by_cases c39 : x66_8 = true
     ·subst c39
      have H1 : (some false) = some r := by rw [if_pos rfl] at H; exact H
      clear H
      have H := H1
      clear H1
      obtain rfl := Option.some.inj H
      go_wp2
      go_ret
      exact ⟨by first | rfl | (simp [errW_none, errW_some] <;> rfl) | (simp [*, errW_none, errW_some] <;> rfl), by repeat (first | (with_reducible first | exact HB.out | apply below_alloc | apply pw_below_drewN | apply below_drew1 | refine below_set ?_ GE254.out | refine below_set ?_ GE263.out) | exact HB.out)⟩
     ·replace c39 := Bool.eq_false_iff.mpr c39
      subst c39
      have H1 : ((zone_Moments.f kj8 a0_0 a0_1 a0_2 a0_3 a0_4 a0_5 a0_6 a0_7 a0_8 a0_9 t257 t258 t259 t260).bind fun bt266 => ((pylonref03_Days.f kj8 t257 t258 t259).bind fun bt270 => (pylonlaw04_ZoneAts.l0 kj8 t256 bt266.1 bt266.2 bt270.1 bt270.2 false (bt266.1.length : Int) 0 t257 t258 t259 t260 t261))) = some r := by rw [if_neg (show ¬ (false = true) by decide)] at H; exact H
      clear H
      have H := H1
      clear H1
      replace H := Option.bind_eq_some_iff.mp H
      obtain ⟨⟨t266, t269⟩, A400, H⟩ := H
      replace H : ((pylonref03_Days.f kj8 t257 t258 t259).bind fun bt270 => (pylonlaw04_ZoneAts.l0 kj8 t256 t266 t269 bt270.1 bt270.2 false (t266.length : Int) 0 t257 t258 t259 t260 t261)) = some r := H
      have A40 := Aside0.mk A400
      clear A400
      replace H := Option.bind_eq_some_iff.mp H
      obtain ⟨⟨t270, t271⟩, A410, H⟩ := H
      replace H : (pylonlaw04_ZoneAts.l0 kj8 t256 t266 t269 t270 t271 false (t266.length : Int) 0 t257 t258 t259 t260 t261) = some r := H
      have A41 := Aside0.mk A410
      clear A410
      have H' := Aside0.mk H
      clear H
      have hnb42 := NB254_263.out
      have hnc42 := NB263_254.out
      have hcz43_0 : wc.cell? ⟨gb254, 0, none⟩ = some (.int .i64 a0_0) := (blk_cell BK254.out 0).trans rfl
      have hcz43_1 : wc.cell? ⟨gb254, 1, none⟩ = some (.int .i64 a0_1) := (blk_cell BK254.out 1).trans rfl
      have hcz43_2 : wc.cell? ⟨gb254, 2, none⟩ = some (.int .i64 a0_2) := (blk_cell BK254.out 2).trans rfl
      have hcz43_3 : wc.cell? ⟨gb254, 3, none⟩ = some (.int .i64 a0_3) := (blk_cell BK254.out 3).trans rfl
      have hcz43_4 : wc.cell? ⟨gb254, 4, none⟩ = some (.int .i64 a0_4) := (blk_cell BK254.out 4).trans rfl
      have hcz43_5 : wc.cell? ⟨gb254, 5, none⟩ = some (.int .i64 a0_5) := (blk_cell BK254.out 5).trans rfl
      have hcz43_6 : wc.cell? ⟨gb254, 6, none⟩ = some (.int .i64 a0_6) := (blk_cell BK254.out 6).trans rfl
      have hcz43_7 : wc.cell? ⟨gb254, 7, none⟩ = some (.int .i64 a0_7) := (blk_cell BK254.out 7).trans rfl
      have hcz43_8 : wc.cell? ⟨gb254, 8, none⟩ = some (.int .i64 a0_8) := (blk_cell BK254.out 8).trans rfl
      have hcz43_9 : wc.cell? ⟨gb254, 9, none⟩ = some (.int .i64 a0_9) := (blk_cell BK254.out 9).trans rfl
      have hfz43_0 := blk_frozen BK254.out 0
      have hfz43_1 := blk_frozen BK254.out 1
      have hfz43_2 := blk_frozen BK254.out 2
      have hfz43_3 := blk_frozen BK254.out 3
      have hfz43_4 := blk_frozen BK254.out 4
      have hfz43_5 := blk_frozen BK254.out 5
      have hfz43_6 := blk_frozen BK254.out 6
      have hfz43_7 := blk_frozen BK254.out 7
      have hfz43_8 := blk_frozen BK254.out 8
      have hfz43_9 := blk_frozen BK254.out 9
      have hcz44_0 : wc.cell? ⟨gb263, 0, none⟩ = some (.int .i64 t257) := (blk_cell BK263.out 0).trans rfl
      have hcz44_1 : wc.cell? ⟨gb263, 1, none⟩ = some (.int .i64 t258) := (blk_cell BK263.out 1).trans rfl
      have hcz44_2 : wc.cell? ⟨gb263, 2, none⟩ = some (.int .i64 t259) := (blk_cell BK263.out 2).trans rfl
      have hcz44_3 : wc.cell? ⟨gb263, 3, none⟩ = some (.int .i64 t260) := (blk_cell BK263.out 3).trans rfl
      have hcz44_4 : wc.cell? ⟨gb263, 4, none⟩ = some (.int .i64 t261) := (blk_cell BK263.out 4).trans rfl
      have hfz44_0 := blk_frozen BK263.out 0
      have hfz44_1 := blk_frozen BK263.out 1
      have hfz44_2 := blk_frozen BK263.out 2
      have hfz44_3 := blk_frozen BK263.out 3
      have hfz44_4 := blk_frozen BK263.out 4
      go_wp2_with (first | ((with_reducible refine gate_callee (f := 20) rfl ?_); refine goesL_ (some 73) rfl rfl Try.func20 (by kernel_rfl) rfl #[.agg #[.int .i64 a0_0, .int .i64 a0_1, .int .i64 a0_2, .int .i64 a0_3, .int .i64 a0_4, .int .i64 a0_5, .int .i64 a0_6, .int .i64 a0_7, .int .i64 a0_8, .int .i64 a0_9], .agg #[.int .i64 t257, .int .i64 t258, .int .i64 t259], .int .i64 t260] rfl (by (try simp only [List.map_toArray, List.map_cons, List.map_nil]); first | done | rfl | (simp only [List.length_drop, List.length_take]; rfl)) ?_; (with_reducible refine (zone_Moments.calls kj8 a0_0 a0_1 a0_2 a0_3 a0_4 a0_5 a0_6 a0_7 a0_8 a0_9 t257 t258 t259 t260 t266 t269 _ A40.out).mono ?_); rintro e w45 ⟨v267, rfl, ho0, hb⟩; refine ⟨_, rfl, ?_⟩; have n0_ := Aside0.mk (Kd.R_lower ho0 (below_size (by repeat (first | (with_reducible first | exact HB.out | apply below_alloc | apply pw_below_drewN | apply below_drew1 | refine below_set ?_ GE254.out | refine below_set ?_ GE263.out) | exact HB.out)))); have n1_ := Aside0.mk (blk_below (g := gb254) (o := .cells #[.int .i64 a0_0, .int .i64 a0_1, .int .i64 a0_2, .int .i64 a0_3, .int .i64 a0_4, .int .i64 a0_5, .int .i64 a0_6, .int .i64 a0_7, .int .i64 a0_8, .int .i64 a0_9] 25 (0, 0)) (by (with_reducible repeat first|refine blk_drewN ?_ _|refine blk_drew ?_|refine blk_alloc ?_ _); exact BK254.out) hb); have n2_ := Aside0.mk (blk_below (g := gb263) (o := .cells #[.int .i64 t257, .int .i64 t258, .int .i64 t259, .int .i64 t260, .int .i64 t261] 35 (0, 0)) (by (with_reducible repeat first|refine blk_drewN ?_ _|refine blk_drew ?_|refine blk_alloc ?_ _); exact BK263.out) hb); have n3_ := Aside0.mk (below_step (by repeat (first | (with_reducible first | exact HB.out | apply below_alloc | apply pw_below_drewN | apply below_drew1 | refine below_set ?_ GE254.out | refine below_set ?_ GE263.out) | exact HB.out)) hb); clear BK254; clear BK263; clear HB; have HO268 := n0_; have BK254 := n1_; have BK263 := n2_; have HB := n3_; clear n0_ n1_ n2_ n3_; (try clear hb); (try clear hb2); (try clear hk); (try clear hi); (try clear ho0); have hcz46_0 : w45.cell? ⟨gb263, 0, none⟩ = some (.int .i64 t257) := (blk_cell BK263.out 0).trans rfl; have hcz46_1 : w45.cell? ⟨gb263, 1, none⟩ = some (.int .i64 t258) := (blk_cell BK263.out 1).trans rfl; have hcz46_2 : w45.cell? ⟨gb263, 2, none⟩ = some (.int .i64 t259) := (blk_cell BK263.out 2).trans rfl; have hcz46_3 : w45.cell? ⟨gb263, 3, none⟩ = some (.int .i64 t260) := (blk_cell BK263.out 3).trans rfl; have hcz46_4 : w45.cell? ⟨gb263, 4, none⟩ = some (.int .i64 t261) := (blk_cell BK263.out 4).trans rfl; have hfz46_0 := blk_frozen BK263.out 0; have hfz46_1 := blk_frozen BK263.out 1; have hfz46_2 := blk_frozen BK263.out 2; have hfz46_3 := blk_frozen BK263.out 3; have hfz46_4 := blk_frozen BK263.out 4) | ((with_reducible refine gate_callee (f := 21) rfl ?_); refine goesL_ (some 79) rfl rfl Try.func21 (by kernel_rfl) rfl #[.agg #[.int .i64 t257, .int .i64 t258, .int .i64 t259]] rfl (by (try simp only [List.map_toArray, List.map_cons, List.map_nil]); first | done | rfl | (simp only [List.length_drop, List.length_take]; rfl)) ?_; (with_reducible refine (pylonref03_Days.calls kj8 t257 t258 t259 t270 t271 _ A41.out).mono ?_); rintro e w47 ⟨rfl, hb⟩; refine ⟨_, rfl, ?_⟩; have n0_ := Aside0.mk (Kd.R_below (by (with_reducible repeat (first | apply Kd.R_alloc | apply Kd.R_drewN | apply Kd.R_drew)); exact HO268.out) hb); have n1_ := Aside0.mk (blk_below (g := gb254) (o := .cells #[.int .i64 a0_0, .int .i64 a0_1, .int .i64 a0_2, .int .i64 a0_3, .int .i64 a0_4, .int .i64 a0_5, .int .i64 a0_6, .int .i64 a0_7, .int .i64 a0_8, .int .i64 a0_9] 25 (0, 0)) (by (with_reducible repeat first|refine blk_drewN ?_ _|refine blk_drew ?_|refine blk_alloc ?_ _); exact BK254.out) hb); have n2_ := Aside0.mk (blk_below (g := gb263) (o := .cells #[.int .i64 t257, .int .i64 t258, .int .i64 t259, .int .i64 t260, .int .i64 t261] 35 (0, 0)) (by (with_reducible repeat first|refine blk_drewN ?_ _|refine blk_drew ?_|refine blk_alloc ?_ _); exact BK263.out) hb); have n3_ := Aside0.mk (below_step (by repeat (first | (with_reducible first | exact HB.out | apply below_alloc | apply pw_below_drewN | apply below_drew1 | refine below_set ?_ GE254.out | refine below_set ?_ GE263.out) | exact HB.out)) hb); clear HO268; clear BK254; clear BK263; clear HB; have HO268 := n0_; have BK254 := n1_; have BK263 := n2_; have HB := n3_; clear n0_ n1_ n2_ n3_; (try clear hb); (try clear hb2); (try clear hk); (try clear hi); obtain ⟨Ao48, co48, eo48⟩ := Kd.R_slice HO268.out; subst eo48))
      go_loopg [11, 84] kj8 (fun kq v11 v84 w' => ∃ (x11_2 : Bool) (x84_2 : Int), v11 = .bool x11_2 ∧ v84 = .int .i64 x84_2 ∧ Aside0 (pylonlaw04_ZoneAts.l0 kq t256 t266 t269 t270 t271 x11_2 (t266.length : Int) x84_2 t257 t258 t259 t260 t261 = some r) ∧ Aside0 (kq ≤ kj8) ∧ Aside0 (Kd.R (Kd.int .i64) 2 w' w.heap.size (fun _ => True) (.slice Ao48 t266.length co48) t266) ∧ Aside0 (w'.heap[gb254]? = some (.cells #[.int .i64 a0_0, .int .i64 a0_1, .int .i64 a0_2, .int .i64 a0_3, .int .i64 a0_4, .int .i64 a0_5, .int .i64 a0_6, .int .i64 a0_7, .int .i64 a0_8, .int .i64 a0_9] 25 (0, 0))) ∧ Aside0 (w'.heap[gb263]? = some (.cells #[.int .i64 t257, .int .i64 t258, .int .i64 t259, .int .i64 t260, .int .i64 t261] 35 (0, 0))) ∧ Aside0 (Below w.heap.size w w'))
      case atStart => exact ⟨(false), (0), (by first | rfl | (simp; done) | (simp [*]; done)), (by first | rfl | (simp; done) | (simp [*]; done)), H', ⟨Nat.le_refl _⟩, ⟨by (with_reducible repeat (first | apply Kd.R_alloc | apply Kd.R_drewN | apply Kd.R_drew)); exact HO268.out⟩, ⟨by (with_reducible repeat first|refine blk_drewN ?_ _|refine blk_drew ?_|refine blk_alloc ?_ _); exact BK254.out⟩, ⟨by (with_reducible repeat first|refine blk_drewN ?_ _|refine blk_drew ?_|refine blk_alloc ?_ _); exact BK263.out⟩, ⟨by repeat (first | (with_reducible first | exact HB.out | apply below_alloc | apply pw_below_drewN | apply below_drew1 | refine below_set ?_ GE254.out | refine below_set ?_ GE263.out) | exact HB.out)⟩⟩
      case round =>
       clear H'
       try clear c1
       try clear c2
       try clear p2
       try clear c3
       try clear c4
       try clear p6
       try clear c8
       try clear c8b0
       try clear c8b1
       try clear c14
       try clear c15
       try clear c16
       try clear c17
       try clear c18
       try clear c19
       try clear c19b0
       try clear c19b1
       try clear c20
       try clear c20b0
       try clear c20b1
       try clear c21
       try clear c21b0
       try clear c22
       try clear c25
       try clear c28
       try clear c28b0
       try clear c28b1
       try clear c29
       try clear c29b0
       try clear c30
       try clear c33
       try clear c36
       try clear c39
       try clear c42
       try clear hcz12_0
       try clear hcz12_1
       try clear hcz12_2
       try clear hcz12_3
       try clear hcz12_4
       try clear hcz12_5
       try clear hcz12_6
       try clear hcz12_7
       try clear hcz12_8
       try clear hcz12_9
       try clear hcz16_0
       try clear hcz16_1
       try clear hcz16_2
       try clear hcz16_3
       try clear hcz16_4
       try clear hcz17_0
       try clear hcz17_1
       try clear hcz17_2
       try clear hcz17_3
       try clear hcz17_4
       try clear hcz17_5
       try clear hcz17_6
       try clear hcz17_7
       try clear hcz17_8
       try clear hcz17_9
       try clear hcz23_0
       try clear hcz23_1
       try clear hcz23_2
       try clear hcz23_3
       try clear hcz23_4
       try clear hcz24_0
       try clear hcz24_1
       try clear hcz24_2
       try clear hcz24_3
       try clear hcz24_4
       try clear hcz24_5
       try clear hcz24_6
       try clear hcz24_7
       try clear hcz24_8
       try clear hcz24_9
       try clear hcz26_0
       try clear hcz26_1
       try clear hcz26_2
       try clear hcz26_3
       try clear hcz26_4
       try clear hcz27_0
       try clear hcz27_1
       try clear hcz27_2
       try clear hcz27_3
       try clear hcz27_4
       try clear hcz27_5
       try clear hcz27_6
       try clear hcz27_7
       try clear hcz27_8
       try clear hcz27_9
       try clear hcz31_0
       try clear hcz31_1
       try clear hcz31_2
       try clear hcz31_3
       try clear hcz31_4
       try clear hcz32_0
       try clear hcz32_1
       try clear hcz32_2
       try clear hcz32_3
       try clear hcz32_4
       try clear hcz32_5
       try clear hcz32_6
       try clear hcz32_7
       try clear hcz32_8
       try clear hcz32_9
       try clear hcz34_0
       try clear hcz34_1
       try clear hcz34_2
       try clear hcz34_3
       try clear hcz34_4
       try clear hcz35_0
       try clear hcz35_1
       try clear hcz35_2
       try clear hcz35_3
       try clear hcz35_4
       try clear hcz35_5
       try clear hcz35_6
       try clear hcz35_7
       try clear hcz35_8
       try clear hcz35_9
       try clear hcz37_0
       try clear hcz37_1
       try clear hcz37_2
       try clear hcz37_3
       try clear hcz37_4
       try clear hcz38_0
       try clear hcz38_1
       try clear hcz38_2
       try clear hcz38_3
       try clear hcz38_4
       try clear hcz38_5
       try clear hcz38_6
       try clear hcz38_7
       try clear hcz38_8
       try clear hcz38_9
       try clear hcz43_0
       try clear hcz43_1
       try clear hcz43_2
       try clear hcz43_3
       try clear hcz43_4
       try clear hcz43_5
       try clear hcz43_6
       try clear hcz43_7
       try clear hcz43_8
       try clear hcz43_9
       try clear hcz44_0
       try clear hcz44_1
       try clear hcz44_2
       try clear hcz44_3
       try clear hcz44_4
       try clear hcz46_0
       try clear hcz46_1
       try clear hcz46_2
       try clear hcz46_3
       try clear hcz46_4
       try clear hfz12_0
       try clear hfz12_1
       try clear hfz12_2
       try clear hfz12_3
       try clear hfz12_4
       try clear hfz12_5
       try clear hfz12_6
       try clear hfz12_7
       try clear hfz12_8
       try clear hfz12_9
       try clear hfz16_0
       try clear hfz16_1
       try clear hfz16_2
       try clear hfz16_3
       try clear hfz16_4
       try clear hfz17_0
       try clear hfz17_1
       try clear hfz17_2
       try clear hfz17_3
       try clear hfz17_4
       try clear hfz17_5
       try clear hfz17_6
       try clear hfz17_7
       try clear hfz17_8
       try clear hfz17_9
       try clear hfz23_0
       try clear hfz23_1
       try clear hfz23_2
       try clear hfz23_3
       try clear hfz23_4
       try clear hfz24_0
       try clear hfz24_1
       try clear hfz24_2
       try clear hfz24_3
       try clear hfz24_4
       try clear hfz24_5
       try clear hfz24_6
       try clear hfz24_7
       try clear hfz24_8
       try clear hfz24_9
       try clear hfz26_0
       try clear hfz26_1
       try clear hfz26_2
       try clear hfz26_3
       try clear hfz26_4
       try clear hfz27_0
       try clear hfz27_1
       try clear hfz27_2
       try clear hfz27_3
       try clear hfz27_4
       try clear hfz27_5
       try clear hfz27_6
       try clear hfz27_7
       try clear hfz27_8
       try clear hfz27_9
       try clear hfz31_0
       try clear hfz31_1
       try clear hfz31_2
       try clear hfz31_3
       try clear hfz31_4
       try clear hfz32_0
       try clear hfz32_1
       try clear hfz32_2
       try clear hfz32_3
       try clear hfz32_4
       try clear hfz32_5
       try clear hfz32_6
       try clear hfz32_7
       try clear hfz32_8
       try clear hfz32_9
       try clear hfz34_0
       try clear hfz34_1
       try clear hfz34_2
       try clear hfz34_3
       try clear hfz34_4
       try clear hfz35_0
       try clear hfz35_1
       try clear hfz35_2
       try clear hfz35_3
       try clear hfz35_4
       try clear hfz35_5
       try clear hfz35_6
       try clear hfz35_7
       try clear hfz35_8
       try clear hfz35_9
       try clear hfz37_0
       try clear hfz37_1
       try clear hfz37_2
       try clear hfz37_3
       try clear hfz37_4
       try clear hfz38_0
       try clear hfz38_1
       try clear hfz38_2
       try clear hfz38_3
       try clear hfz38_4
       try clear hfz38_5
       try clear hfz38_6
       try clear hfz38_7
       try clear hfz38_8
       try clear hfz38_9
       try clear hfz43_0
       try clear hfz43_1
       try clear hfz43_2
       try clear hfz43_3
       try clear hfz43_4
       try clear hfz43_5
       try clear hfz43_6
       try clear hfz43_7
       try clear hfz43_8
       try clear hfz43_9
       try clear hfz44_0
       try clear hfz44_1
       try clear hfz44_2
       try clear hfz44_3
       try clear hfz44_4
       try clear hfz46_0
       try clear hfz46_1
       try clear hfz46_2
       try clear hfz46_3
       try clear hfz46_4
       try clear p2
       try clear p6
       obtain ⟨x11_2, x84_2, rfl, rfl, HA, HK2, HO_7, BK254, BK263, HB⟩ := hrel
       cases gk with
       | zero => exact absurd HA.out (by simp [pylonlaw04_ZoneAts.l0])
       | succ k2 =>
        have H := HA.out
        clear HA
        simp only [pylonlaw04_ZoneAts.l0] at H
        by_cases c49 : x84_2 < (t266.length : Int)
        ·rw [if_pos c49] at H
         have c49b0 : decide (x84_2 < (t266.length : Int)) = true := decide_eq_true c49
         clear c49
         have HC50 := Aside0.mk H
         clear H
         go_upto_block 1 with (fail)
         go_cut [11] (fun v11 wc => ∃ (kq : Nat) (x11_49 : Bool), v11 = .bool x11_49 ∧ Aside0 (pylonlaw04_ZoneAts.j3 kq t256 t266 t269 t270 t271 x11_49 (t266.length : Int) x84_2 t257 t258 t259 t260 t261 = some r) ∧ Aside0 (kq ≤ k2) ∧ Aside0 (Kd.R (Kd.int .i64) 2 wc w.heap.size (fun _ => True) (.slice Ao48 t266.length co48) t266) ∧ Aside0 (wc.heap[gb254]? = some (.cells #[.int .i64 a0_0, .int .i64 a0_1, .int .i64 a0_2, .int .i64 a0_3, .int .i64 a0_4, .int .i64 a0_5, .int .i64 a0_6, .int .i64 a0_7, .int .i64 a0_8, .int .i64 a0_9] 25 (0, 0))) ∧ Aside0 (wc.heap[gb263]? = some (.cells #[.int .i64 t257, .int .i64 t258, .int .i64 t259, .int .i64 t260, .int .i64 t261] 35 (0, 0))) ∧ Aside0 (Below w.heap.size w wc))
         case first =>
          have H := HC50.out
          clear HC50
          by_cases c51 : x11_2 = true
          ·subst c51
           have H1 : (pylonlaw04_ZoneAts.j3 k2 t256 t266 t269 t270 t271 true (t266.length : Int) x84_2 t257 t258 t259 t260 t261) = some r := by rw [if_pos rfl] at H; exact H
           clear H
           have H := H1
           clear H1
           have H' := Aside0.mk H
           clear H
           go_wp2
           go_meet
           case rel => exact ⟨_, (true), (by first | rfl | (simp; done) | (simp [*]; done)), H', ⟨by have := HJ8.out; have := HK2.out; first | omega | exact Nat.le_refl _⟩, ⟨by (with_reducible repeat (first | apply Kd.R_alloc | apply Kd.R_drewN | apply Kd.R_drew)); exact HO_7.out⟩, ⟨by (with_reducible repeat first|refine blk_drewN ?_ _|refine blk_drew ?_|refine blk_alloc ?_ _); exact BK254.out⟩, ⟨by (with_reducible repeat first|refine blk_drewN ?_ _|refine blk_drew ?_|refine blk_alloc ?_ _); exact BK263.out⟩, ⟨by repeat (first | (with_reducible first | exact HB.out | apply below_alloc | apply pw_below_drewN | apply below_drew1 | refine below_set ?_ GE254.out | refine below_set ?_ GE263.out) | exact HB.out)⟩⟩
          ·replace c51 := Bool.eq_false_iff.mpr c51
           subst c51
           have H1 : (if 0 ≤ x84_2 then (if x84_2 < (t266.length : Int) then (pylonlaw04_ZoneAts.j3 k2 t256 t266 t269 t270 t271 ((rd t266 x84_2) == t256) (t266.length : Int) x84_2 t257 t258 t259 t260 t261) else (none)) else (none)) = some r := by rw [if_neg (show ¬ (false = true) by decide)] at H; exact H
           clear H
           have H := H1
           clear H1
           by_cases c52 : 0 ≤ x84_2
           ·rw [if_pos c52] at H
            have c52b0 : decide (0 ≤ x84_2) = true := decide_eq_true c52
            clear c52
            (first | rw [c52b0] | (simp only [i64_w, i32_w]; rw [c52b0]) | skip)
            by_cases c53 : x84_2 < (t266.length : Int)
            ·rw [if_pos c53] at H
             have c53b0 : decide (x84_2 < (t266.length : Int)) = true := decide_eq_true c53
             clear c53
             have H' := Aside0.mk H
             clear H
             have p272 : 0 ≤ (x84_2 : Int) := of_decide_eq_true (by first | (with_reducible assumption) | assumption)
             have q272 : x84_2 < (t266.length : Int) := of_decide_eq_true (by first | (with_reducible assumption) | assumption)
             obtain ⟨ad272, e272, hx272_0⟩ := Kd.at_int (Kd.R_reads' HO_7.out).2.2 x84_2 p272 q272
             cases e272
             replace p272 := eq_true p272
             replace q272 := eq_true q272
             go_wp2
             go_meet
             case rel => exact ⟨_, (((rd t266 x84_2) == t256)), (by first | rfl | (simp; done) | (simp [*]; done)), H', ⟨by have := HJ8.out; have := HK2.out; first | omega | exact Nat.le_refl _⟩, ⟨by (with_reducible repeat (first | apply Kd.R_alloc | apply Kd.R_drewN | apply Kd.R_drew)); exact HO_7.out⟩, ⟨by (with_reducible repeat first|refine blk_drewN ?_ _|refine blk_drew ?_|refine blk_alloc ?_ _); exact BK254.out⟩, ⟨by (with_reducible repeat first|refine blk_drewN ?_ _|refine blk_drew ?_|refine blk_alloc ?_ _); exact BK263.out⟩, ⟨by repeat (first | (with_reducible first | exact HB.out | apply below_alloc | apply pw_below_drewN | apply below_drew1 | refine below_set ?_ GE254.out | refine below_set ?_ GE263.out) | exact HB.out)⟩⟩
            ·rw [if_neg c53] at H
             exact absurd H (by simp)
           ·rw [if_neg c52] at H
            exact absurd H (by simp)
         case rest =>
          clear HC50
          try clear c1
          try clear c2
          try clear p2
          try clear q2
          try clear hx2
          try clear c3
          try clear c4
          try clear c5
          try clear p6
          try clear c8
          try clear c8b0
          try clear c8b1
          try clear c14
          try clear c15
          try clear c16
          try clear c17
          try clear c18
          try clear c19
          try clear c19b0
          try clear c19b1
          try clear c20
          try clear c20b0
          try clear c20b1
          try clear c21
          try clear c21b0
          try clear c22
          try clear c25
          try clear p27
          try clear q27
          try clear hx27
          try clear c28
          try clear c28b0
          try clear c28b1
          try clear c29
          try clear c29b0
          try clear c30
          try clear c33
          try clear c36
          try clear c39
          try clear c42
          try clear c49
          try clear c49b0
          try clear c51
          try clear c52
          try clear c52b0
          try clear c53
          try clear c53b0
          try clear hcz12_0
          try clear hcz12_1
          try clear hcz12_2
          try clear hcz12_3
          try clear hcz12_4
          try clear hcz12_5
          try clear hcz12_6
          try clear hcz12_7
          try clear hcz12_8
          try clear hcz12_9
          try clear hcz16_0
          try clear hcz16_1
          try clear hcz16_2
          try clear hcz16_3
          try clear hcz16_4
          try clear hcz17_0
          try clear hcz17_1
          try clear hcz17_2
          try clear hcz17_3
          try clear hcz17_4
          try clear hcz17_5
          try clear hcz17_6
          try clear hcz17_7
          try clear hcz17_8
          try clear hcz17_9
          try clear hcz23_0
          try clear hcz23_1
          try clear hcz23_2
          try clear hcz23_3
          try clear hcz23_4
          try clear hcz24_0
          try clear hcz24_1
          try clear hcz24_2
          try clear hcz24_3
          try clear hcz24_4
          try clear hcz24_5
          try clear hcz24_6
          try clear hcz24_7
          try clear hcz24_8
          try clear hcz24_9
          try clear hcz26_0
          try clear hcz26_1
          try clear hcz26_2
          try clear hcz26_3
          try clear hcz26_4
          try clear hcz27_0
          try clear hcz27_1
          try clear hcz27_2
          try clear hcz27_3
          try clear hcz27_4
          try clear hcz27_5
          try clear hcz27_6
          try clear hcz27_7
          try clear hcz27_8
          try clear hcz27_9
          try clear hcz31_0
          try clear hcz31_1
          try clear hcz31_2
          try clear hcz31_3
          try clear hcz31_4
          try clear hcz32_0
          try clear hcz32_1
          try clear hcz32_2
          try clear hcz32_3
          try clear hcz32_4
          try clear hcz32_5
          try clear hcz32_6
          try clear hcz32_7
          try clear hcz32_8
          try clear hcz32_9
          try clear hcz34_0
          try clear hcz34_1
          try clear hcz34_2
          try clear hcz34_3
          try clear hcz34_4
          try clear hcz35_0
          try clear hcz35_1
          try clear hcz35_2
          try clear hcz35_3
          try clear hcz35_4
          try clear hcz35_5
          try clear hcz35_6
          try clear hcz35_7
          try clear hcz35_8
          try clear hcz35_9
          try clear hcz37_0
          try clear hcz37_1
          try clear hcz37_2
          try clear hcz37_3
          try clear hcz37_4
          try clear hcz38_0
          try clear hcz38_1
          try clear hcz38_2
          try clear hcz38_3
          try clear hcz38_4
          try clear hcz38_5
          try clear hcz38_6
          try clear hcz38_7
          try clear hcz38_8
          try clear hcz38_9
          try clear hcz43_0
          try clear hcz43_1
          try clear hcz43_2
          try clear hcz43_3
          try clear hcz43_4
          try clear hcz43_5
          try clear hcz43_6
          try clear hcz43_7
          try clear hcz43_8
          try clear hcz43_9
          try clear hcz44_0
          try clear hcz44_1
          try clear hcz44_2
          try clear hcz44_3
          try clear hcz44_4
          try clear hcz46_0
          try clear hcz46_1
          try clear hcz46_2
          try clear hcz46_3
          try clear hcz46_4
          try clear hfz12_0
          try clear hfz12_1
          try clear hfz12_2
          try clear hfz12_3
          try clear hfz12_4
          try clear hfz12_5
          try clear hfz12_6
          try clear hfz12_7
          try clear hfz12_8
          try clear hfz12_9
          try clear hfz16_0
          try clear hfz16_1
          try clear hfz16_2
          try clear hfz16_3
          try clear hfz16_4
          try clear hfz17_0
          try clear hfz17_1
          try clear hfz17_2
          try clear hfz17_3
          try clear hfz17_4
          try clear hfz17_5
          try clear hfz17_6
          try clear hfz17_7
          try clear hfz17_8
          try clear hfz17_9
          try clear hfz23_0
          try clear hfz23_1
          try clear hfz23_2
          try clear hfz23_3
          try clear hfz23_4
          try clear hfz24_0
          try clear hfz24_1
          try clear hfz24_2
          try clear hfz24_3
          try clear hfz24_4
          try clear hfz24_5
          try clear hfz24_6
          try clear hfz24_7
          try clear hfz24_8
          try clear hfz24_9
          try clear hfz26_0
          try clear hfz26_1
          try clear hfz26_2
          try clear hfz26_3
          try clear hfz26_4
          try clear hfz27_0
          try clear hfz27_1
          try clear hfz27_2
          try clear hfz27_3
          try clear hfz27_4
          try clear hfz27_5
          try clear hfz27_6
          try clear hfz27_7
          try clear hfz27_8
          try clear hfz27_9
          try clear hfz31_0
          try clear hfz31_1
          try clear hfz31_2
          try clear hfz31_3
          try clear hfz31_4
          try clear hfz32_0
          try clear hfz32_1
          try clear hfz32_2
          try clear hfz32_3
          try clear hfz32_4
          try clear hfz32_5
          try clear hfz32_6
          try clear hfz32_7
          try clear hfz32_8
          try clear hfz32_9
          try clear hfz34_0
          try clear hfz34_1
          try clear hfz34_2
          try clear hfz34_3
          try clear hfz34_4
          try clear hfz35_0
          try clear hfz35_1
          try clear hfz35_2
          try clear hfz35_3
          try clear hfz35_4
          try clear hfz35_5
          try clear hfz35_6
          try clear hfz35_7
          try clear hfz35_8
          try clear hfz35_9
          try clear hfz37_0
          try clear hfz37_1
          try clear hfz37_2
          try clear hfz37_3
          try clear hfz37_4
          try clear hfz38_0
          try clear hfz38_1
          try clear hfz38_2
          try clear hfz38_3
          try clear hfz38_4
          try clear hfz38_5
          try clear hfz38_6
          try clear hfz38_7
          try clear hfz38_8
          try clear hfz38_9
          try clear hfz43_0
          try clear hfz43_1
          try clear hfz43_2
          try clear hfz43_3
          try clear hfz43_4
          try clear hfz43_5
          try clear hfz43_6
          try clear hfz43_7
          try clear hfz43_8
          try clear hfz43_9
          try clear hfz44_0
          try clear hfz44_1
          try clear hfz44_2
          try clear hfz44_3
          try clear hfz44_4
          try clear hfz46_0
          try clear hfz46_1
          try clear hfz46_2
          try clear hfz46_3
          try clear hfz46_4
          try clear hx272_0
          try clear p2
          try clear p272
          try clear p6
          try clear q272
          obtain ⟨kq, x11_49, rfl, HA, HJ49, HO_7, BK254, BK263, HB⟩ := hcut
          cases kq with
          | zero => exact absurd HA.out (by simp [pylonlaw04_ZoneAts.j3])
          | succ kj49 =>
           have H := HA.out
           clear HA
           simp only [pylonlaw04_ZoneAts.j3] at H
           have H' := Aside0.mk H
           clear H
           go_wp2
           go_roundg kj49
           case measure => have := HJ8.out; have := HK2.out; have := HJ49.out; omega
           case rel => exact ⟨(x11_49), (wrap64 (x84_2 + 1)), (by first | rfl | (simp; done) | (simp [*]; done)), (by first | rfl | (simp; done) | (simp [*]; done)), H', ⟨by have := HJ8.out; have := HK2.out; have := HJ49.out; omega⟩, ⟨by (with_reducible repeat (first | apply Kd.R_alloc | apply Kd.R_drewN | apply Kd.R_drew)); exact HO_7.out⟩, ⟨by (with_reducible repeat first|refine blk_drewN ?_ _|refine blk_drew ?_|refine blk_alloc ?_ _); exact BK254.out⟩, ⟨by (with_reducible repeat first|refine blk_drewN ?_ _|refine blk_drew ?_|refine blk_alloc ?_ _); exact BK263.out⟩, ⟨by repeat (first | (with_reducible first | exact HB.out | apply below_alloc | apply pw_below_drewN | apply below_drew1 | refine below_set ?_ GE254.out | refine below_set ?_ GE263.out) | exact HB.out)⟩⟩
        ·rw [if_neg c49] at H
         have c49b0 : decide (x84_2 < (t266.length : Int)) = false := decide_eq_false c49
         clear c49
         have HC54 := Aside0.mk H
         clear H
         go_upto_region 17 with (fail)
         go_cut [4] (fun v4 wc => ∃ (kq : Nat) (x4_53 : Bool), v4 = .bool x4_53 ∧ Aside0 (pylonlaw04_ZoneAts.j4 kq x4_53 = some r) ∧ Aside0 (kq ≤ k2) ∧ Aside0 (wc.heap[gb254]? = some (.cells #[.int .i64 a0_0, .int .i64 a0_1, .int .i64 a0_2, .int .i64 a0_3, .int .i64 a0_4, .int .i64 a0_5, .int .i64 a0_6, .int .i64 a0_7, .int .i64 a0_8, .int .i64 a0_9] 25 (0, 0))) ∧ Aside0 (wc.heap[gb263]? = some (.cells #[.int .i64 t257, .int .i64 t258, .int .i64 t259, .int .i64 t260, .int .i64 t261] 35 (0, 0))) ∧ Aside0 (Below w.heap.size w wc))
         case first =>
          have H := HC54.out
          clear HC54
          by_cases c55 : t269 = 0
          ·rw [if_pos c55] at H
           have c55b0 : (t269 == 0) = true := beq_iff_eq.mpr c55
           have c55b1 : (t269 != 0) = false := bne_eq_false_iff_eq.mpr c55
           clear c55
           (first | rw [c55b0] | (simp only [i64_w, i32_w]; rw [c55b0]) | skip)
           by_cases c56 : t271 = 0
           ·rw [if_pos c56] at H
            have c56b0 : (t271 == 0) = true := beq_iff_eq.mpr c56
            have c56b1 : (t271 != 0) = false := bne_eq_false_iff_eq.mpr c56
            clear c56
            by_cases c57 : x11_2 = true
            ·subst c57
             have H1 : (if (t266.length : Int) ≤ 2 then (pylonlaw04_ZoneAts.j4 k2 (t256 == (wrap64 ((wrap64 (t270 * 86400)) + (wrap64 (60 * (wrap64 (t260 - t261)))))))) else (pylonlaw04_ZoneAts.j4 k2 false)) = some r := by rw [if_pos rfl] at H; exact H
             clear H
             have H := H1
             clear H1
             by_cases c58 : (t266.length : Int) ≤ 2
             ·rw [if_pos c58] at H
              have c58b0 : decide ((t266.length : Int) ≤ 2) = true := decide_eq_true c58
              have c58b1 : decide (t266.length ≤ 2) = true := decide_eq_true (by omega)
              clear c58
              have H' := Aside0.mk H
              clear H
              have hnb59 := NB263_254.out
              have hnc59 := NB254_263.out
              have hcz60_0 : wr.cell? ⟨gb263, 0, none⟩ = some (.int .i64 t257) := (blk_cell BK263.out 0).trans rfl
              have hcz60_1 : wr.cell? ⟨gb263, 1, none⟩ = some (.int .i64 t258) := (blk_cell BK263.out 1).trans rfl
              have hcz60_2 : wr.cell? ⟨gb263, 2, none⟩ = some (.int .i64 t259) := (blk_cell BK263.out 2).trans rfl
              have hcz60_3 : wr.cell? ⟨gb263, 3, none⟩ = some (.int .i64 t260) := (blk_cell BK263.out 3).trans rfl
              have hcz60_4 : wr.cell? ⟨gb263, 4, none⟩ = some (.int .i64 t261) := (blk_cell BK263.out 4).trans rfl
              have hfz60_0 := blk_frozen BK263.out 0
              have hfz60_1 := blk_frozen BK263.out 1
              have hfz60_2 := blk_frozen BK263.out 2
              have hfz60_3 := blk_frozen BK263.out 3
              have hfz60_4 := blk_frozen BK263.out 4
              go_wp2
              go_meet
              case rel => exact ⟨_, ((t256 == (wrap64 ((wrap64 (t270 * 86400)) + (wrap64 (60 * (wrap64 (t260 - t261)))))))), (by first | rfl | (simp; done) | (simp [*]; done)), H', ⟨by have := HJ8.out; have := HK2.out; first | omega | exact Nat.le_refl _⟩, ⟨by (with_reducible repeat first|refine blk_drewN ?_ _|refine blk_drew ?_|refine blk_alloc ?_ _); exact BK254.out⟩, ⟨by (with_reducible repeat first|refine blk_drewN ?_ _|refine blk_drew ?_|refine blk_alloc ?_ _); exact BK263.out⟩, ⟨by repeat (first | (with_reducible first | exact HB.out | apply below_alloc | apply pw_below_drewN | apply below_drew1 | refine below_set ?_ GE254.out | refine below_set ?_ GE263.out) | exact HB.out)⟩⟩
             ·rw [if_neg c58] at H
              have c58b0 : decide ((t266.length : Int) ≤ 2) = false := decide_eq_false c58
              have c58b1 : decide (t266.length ≤ 2) = false := decide_eq_false (by omega)
              clear c58
              have H' := Aside0.mk H
              clear H
              go_wp2
              go_meet
              case rel => exact ⟨_, (false), (by first | rfl | (simp; done) | (simp [*]; done)), H', ⟨by have := HJ8.out; have := HK2.out; first | omega | exact Nat.le_refl _⟩, ⟨by (with_reducible repeat first|refine blk_drewN ?_ _|refine blk_drew ?_|refine blk_alloc ?_ _); exact BK254.out⟩, ⟨by (with_reducible repeat first|refine blk_drewN ?_ _|refine blk_drew ?_|refine blk_alloc ?_ _); exact BK263.out⟩, ⟨by repeat (first | (with_reducible first | exact HB.out | apply below_alloc | apply pw_below_drewN | apply below_drew1 | refine below_set ?_ GE254.out | refine below_set ?_ GE263.out) | exact HB.out)⟩⟩
            ·replace c57 := Bool.eq_false_iff.mpr c57
             subst c57
             have H1 : (pylonlaw04_ZoneAts.j4 k2 false) = some r := by rw [if_neg (show ¬ (false = true) by decide)] at H; exact H
             clear H
             have H := H1
             clear H1
             have H' := Aside0.mk H
             clear H
             go_wp2
             go_meet
             case rel => exact ⟨_, (false), (by first | rfl | (simp; done) | (simp [*]; done)), H', ⟨by have := HJ8.out; have := HK2.out; first | omega | exact Nat.le_refl _⟩, ⟨by (with_reducible repeat first|refine blk_drewN ?_ _|refine blk_drew ?_|refine blk_alloc ?_ _); exact BK254.out⟩, ⟨by (with_reducible repeat first|refine blk_drewN ?_ _|refine blk_drew ?_|refine blk_alloc ?_ _); exact BK263.out⟩, ⟨by repeat (first | (with_reducible first | exact HB.out | apply below_alloc | apply pw_below_drewN | apply below_drew1 | refine below_set ?_ GE254.out | refine below_set ?_ GE263.out) | exact HB.out)⟩⟩
           ·rw [if_neg c56] at H
            have c56b0 : (t271 == 0) = false := beq_eq_false_iff_ne.mpr c56
            have c56b1 : (t271 != 0) = true := bne_iff_ne.mpr c56
            have H' := Aside0.mk H
            clear H
            go_wp2
            go_meet
            case rel => exact ⟨_, (false), (by first | rfl | (simp; done) | (simp [*]; done)), H', ⟨by have := HJ8.out; have := HK2.out; first | omega | exact Nat.le_refl _⟩, ⟨by (with_reducible repeat first|refine blk_drewN ?_ _|refine blk_drew ?_|refine blk_alloc ?_ _); exact BK254.out⟩, ⟨by (with_reducible repeat first|refine blk_drewN ?_ _|refine blk_drew ?_|refine blk_alloc ?_ _); exact BK263.out⟩, ⟨by repeat (first | (with_reducible first | exact HB.out | apply below_alloc | apply pw_below_drewN | apply below_drew1 | refine below_set ?_ GE254.out | refine below_set ?_ GE263.out) | exact HB.out)⟩⟩
          ·rw [if_neg c55] at H
           have c55b0 : (t269 == 0) = false := beq_eq_false_iff_ne.mpr c55
           have c55b1 : (t269 != 0) = true := bne_iff_ne.mpr c55
           (first | rw [c55b0] | (simp only [i64_w, i32_w]; rw [c55b0]) | skip)
           have H' := Aside0.mk H
           clear H
           go_wp2
           go_meet
           case rel => exact ⟨_, (false), (by first | rfl | (simp; done) | (simp [*]; done)), H', ⟨by have := HJ8.out; have := HK2.out; first | omega | exact Nat.le_refl _⟩, ⟨by (with_reducible repeat first|refine blk_drewN ?_ _|refine blk_drew ?_|refine blk_alloc ?_ _); exact BK254.out⟩, ⟨by (with_reducible repeat first|refine blk_drewN ?_ _|refine blk_drew ?_|refine blk_alloc ?_ _); exact BK263.out⟩, ⟨by repeat (first | (with_reducible first | exact HB.out | apply below_alloc | apply pw_below_drewN | apply below_drew1 | refine below_set ?_ GE254.out | refine below_set ?_ GE263.out) | exact HB.out)⟩⟩
         case rest =>
          clear HC54
          try clear c1
          try clear c2
          try clear p2
          try clear q2
          try clear hx2
          try clear c3
          try clear c4
          try clear c5
          try clear p6
          try clear c8
          try clear c8b0
          try clear c8b1
          try clear c14
          try clear c15
          try clear c16
          try clear c17
          try clear c18
          try clear c19
          try clear c19b0
          try clear c19b1
          try clear c20
          try clear c20b0
          try clear c20b1
          try clear c21
          try clear c21b0
          try clear c22
          try clear c25
          try clear p27
          try clear q27
          try clear hx27
          try clear c28
          try clear c28b0
          try clear c28b1
          try clear c29
          try clear c29b0
          try clear c30
          try clear c33
          try clear c36
          try clear c39
          try clear c42
          try clear c49
          try clear c49b0
          try clear c51
          try clear c52
          try clear c52b0
          try clear c53
          try clear c53b0
          try clear c55
          try clear c55b0
          try clear c55b1
          try clear c56
          try clear c56b0
          try clear c56b1
          try clear c57
          try clear c58
          try clear c58b0
          try clear c58b1
          try clear c59
          try clear hcz12_0
          try clear hcz12_1
          try clear hcz12_2
          try clear hcz12_3
          try clear hcz12_4
          try clear hcz12_5
          try clear hcz12_6
          try clear hcz12_7
          try clear hcz12_8
          try clear hcz12_9
          try clear hcz16_0
          try clear hcz16_1
          try clear hcz16_2
          try clear hcz16_3
          try clear hcz16_4
          try clear hcz17_0
          try clear hcz17_1
          try clear hcz17_2
          try clear hcz17_3
          try clear hcz17_4
          try clear hcz17_5
          try clear hcz17_6
          try clear hcz17_7
          try clear hcz17_8
          try clear hcz17_9
          try clear hcz23_0
          try clear hcz23_1
          try clear hcz23_2
          try clear hcz23_3
          try clear hcz23_4
          try clear hcz24_0
          try clear hcz24_1
          try clear hcz24_2
          try clear hcz24_3
          try clear hcz24_4
          try clear hcz24_5
          try clear hcz24_6
          try clear hcz24_7
          try clear hcz24_8
          try clear hcz24_9
          try clear hcz26_0
          try clear hcz26_1
          try clear hcz26_2
          try clear hcz26_3
          try clear hcz26_4
          try clear hcz27_0
          try clear hcz27_1
          try clear hcz27_2
          try clear hcz27_3
          try clear hcz27_4
          try clear hcz27_5
          try clear hcz27_6
          try clear hcz27_7
          try clear hcz27_8
          try clear hcz27_9
          try clear hcz31_0
          try clear hcz31_1
          try clear hcz31_2
          try clear hcz31_3
          try clear hcz31_4
          try clear hcz32_0
          try clear hcz32_1
          try clear hcz32_2
          try clear hcz32_3
          try clear hcz32_4
          try clear hcz32_5
          try clear hcz32_6
          try clear hcz32_7
          try clear hcz32_8
          try clear hcz32_9
          try clear hcz34_0
          try clear hcz34_1
          try clear hcz34_2
          try clear hcz34_3
          try clear hcz34_4
          try clear hcz35_0
          try clear hcz35_1
          try clear hcz35_2
          try clear hcz35_3
          try clear hcz35_4
          try clear hcz35_5
          try clear hcz35_6
          try clear hcz35_7
          try clear hcz35_8
          try clear hcz35_9
          try clear hcz37_0
          try clear hcz37_1
          try clear hcz37_2
          try clear hcz37_3
          try clear hcz37_4
          try clear hcz38_0
          try clear hcz38_1
          try clear hcz38_2
          try clear hcz38_3
          try clear hcz38_4
          try clear hcz38_5
          try clear hcz38_6
          try clear hcz38_7
          try clear hcz38_8
          try clear hcz38_9
          try clear hcz43_0
          try clear hcz43_1
          try clear hcz43_2
          try clear hcz43_3
          try clear hcz43_4
          try clear hcz43_5
          try clear hcz43_6
          try clear hcz43_7
          try clear hcz43_8
          try clear hcz43_9
          try clear hcz44_0
          try clear hcz44_1
          try clear hcz44_2
          try clear hcz44_3
          try clear hcz44_4
          try clear hcz46_0
          try clear hcz46_1
          try clear hcz46_2
          try clear hcz46_3
          try clear hcz46_4
          try clear hcz60_0
          try clear hcz60_1
          try clear hcz60_2
          try clear hcz60_3
          try clear hcz60_4
          try clear hfz12_0
          try clear hfz12_1
          try clear hfz12_2
          try clear hfz12_3
          try clear hfz12_4
          try clear hfz12_5
          try clear hfz12_6
          try clear hfz12_7
          try clear hfz12_8
          try clear hfz12_9
          try clear hfz16_0
          try clear hfz16_1
          try clear hfz16_2
          try clear hfz16_3
          try clear hfz16_4
          try clear hfz17_0
          try clear hfz17_1
          try clear hfz17_2
          try clear hfz17_3
          try clear hfz17_4
          try clear hfz17_5
          try clear hfz17_6
          try clear hfz17_7
          try clear hfz17_8
          try clear hfz17_9
          try clear hfz23_0
          try clear hfz23_1
          try clear hfz23_2
          try clear hfz23_3
          try clear hfz23_4
          try clear hfz24_0
          try clear hfz24_1
          try clear hfz24_2
          try clear hfz24_3
          try clear hfz24_4
          try clear hfz24_5
          try clear hfz24_6
          try clear hfz24_7
          try clear hfz24_8
          try clear hfz24_9
          try clear hfz26_0
          try clear hfz26_1
          try clear hfz26_2
          try clear hfz26_3
          try clear hfz26_4
          try clear hfz27_0
          try clear hfz27_1
          try clear hfz27_2
          try clear hfz27_3
          try clear hfz27_4
          try clear hfz27_5
          try clear hfz27_6
          try clear hfz27_7
          try clear hfz27_8
          try clear hfz27_9
          try clear hfz31_0
          try clear hfz31_1
          try clear hfz31_2
          try clear hfz31_3
          try clear hfz31_4
          try clear hfz32_0
          try clear hfz32_1
          try clear hfz32_2
          try clear hfz32_3
          try clear hfz32_4
          try clear hfz32_5
          try clear hfz32_6
          try clear hfz32_7
          try clear hfz32_8
          try clear hfz32_9
          try clear hfz34_0
          try clear hfz34_1
          try clear hfz34_2
          try clear hfz34_3
          try clear hfz34_4
          try clear hfz35_0
          try clear hfz35_1
          try clear hfz35_2
          try clear hfz35_3
          try clear hfz35_4
          try clear hfz35_5
          try clear hfz35_6
          try clear hfz35_7
          try clear hfz35_8
          try clear hfz35_9
          try clear hfz37_0
          try clear hfz37_1
          try clear hfz37_2
          try clear hfz37_3
          try clear hfz37_4
          try clear hfz38_0
          try clear hfz38_1
          try clear hfz38_2
          try clear hfz38_3
          try clear hfz38_4
          try clear hfz38_5
          try clear hfz38_6
          try clear hfz38_7
          try clear hfz38_8
          try clear hfz38_9
          try clear hfz43_0
          try clear hfz43_1
          try clear hfz43_2
          try clear hfz43_3
          try clear hfz43_4
          try clear hfz43_5
          try clear hfz43_6
          try clear hfz43_7
          try clear hfz43_8
          try clear hfz43_9
          try clear hfz44_0
          try clear hfz44_1
          try clear hfz44_2
          try clear hfz44_3
          try clear hfz44_4
          try clear hfz46_0
          try clear hfz46_1
          try clear hfz46_2
          try clear hfz46_3
          try clear hfz46_4
          try clear hfz60_0
          try clear hfz60_1
          try clear hfz60_2
          try clear hfz60_3
          try clear hfz60_4
          try clear hx272_0
          try clear p2
          try clear p27
          try clear p272
          try clear p6
          try clear q2
          try clear q27
          try clear q272
          obtain ⟨kq, x4_53, rfl, HA, HJ53, BK254, BK263, HB⟩ := hcut
          cases kq with
          | zero => exact absurd HA.out (by simp [pylonlaw04_ZoneAts.j4])
          | succ kj53 =>
           have H := HA.out
           clear HA
           simp only [pylonlaw04_ZoneAts.j4] at H
           obtain rfl := Option.some.inj H
           go_wp2
           go_ret
           exact ⟨by first | rfl | (simp [errW_none, errW_some] <;> rfl) | (simp [*, errW_none, errW_some] <;> rfl), by repeat (first | (with_reducible first | exact HB.out | apply below_alloc | apply pw_below_drewN | apply below_drew1 | refine below_set ?_ GE254.out | refine below_set ?_ GE263.out) | exact HB.out)⟩
  ·rw [if_neg c8] at H
   have c8b0 : (t264 == 0) = false := beq_eq_false_iff_ne.mpr c8
   have c8b1 : (t264 != 0) = true := bne_iff_ne.mpr c8
   have HC61 := Aside0.mk H
   clear H
   go_enter Try.func4, Try.ntmps4
   go_upto_region 6 with (first | ((with_reducible refine gate_dst (N := 2) rfl ?_); (try (refine gate_guard (by rfl) ?_; dsimp only)); refine box_event ?hg (N := 2) ?hd (cs := #[.int .i64 a0_0, .int .i64 a0_1, .int .i64 a0_2, .int .i64 a0_3, .int .i64 a0_4, .int .i64 a0_5, .int .i64 a0_6, .int .i64 a0_7, .int .i64 a0_8, .int .i64 a0_9]) (t := 25) ?hr ?_; (case hd => rfl); (case hg => rfl); (case hr => first | (go_simp; done) | (go_simp; rfl)); intro gb254 hg w62 hbox hb; have n0_ := Aside0.mk (below_step (by repeat (first | (with_reducible first | exact HB.out | apply below_alloc | apply pw_below_drewN | apply below_drew1) | exact HB.out)) hb); have n1_ := Aside0.mk (hbox); have n2_ := Aside0.mk ((by rw [hg]; exact (below_size (by repeat (first | (with_reducible first | exact HB.out | apply below_alloc | apply pw_below_drewN | apply below_drew1) | exact HB.out))) : w.heap.size ≤ gb254)); have n3_ := Aside0.mk ((by rw [hg]; exact (below_size (by repeat (first | (with_reducible first | exact HB.out | apply below_alloc | apply pw_below_drewN | apply below_drew1) | exact HB.out))) : w.heap.size ≤ gb254)); clear HB; have HB := n0_; have BK254 := n1_; have GW254 := n2_; have GE254 := n3_; clear n0_ n1_ n2_ n3_; clear hb hbox hg) | ((with_reducible refine gate_callee (f := 14) rfl ?_); refine goesL_ (some 13) rfl rfl Try.func14 (by kernel_rfl) rfl #[] rfl (by (try simp only [List.map_toArray, List.map_cons, List.map_nil]); first | done | rfl | (simp only [List.length_drop, List.length_take]; rfl)) ?_; (with_reducible refine (pylonlaw04_awake.calls k  true _ A3.out).mono ?_); rintro e w63 ⟨rfl, hb⟩; refine ⟨_, rfl, ?_⟩; have n0_ := Aside0.mk (blk_below (g := gb254) (o := .cells #[.int .i64 a0_0, .int .i64 a0_1, .int .i64 a0_2, .int .i64 a0_3, .int .i64 a0_4, .int .i64 a0_5, .int .i64 a0_6, .int .i64 a0_7, .int .i64 a0_8, .int .i64 a0_9] 25 (0, 0)) (by (with_reducible repeat first|refine blk_drewN ?_ _|refine blk_drew ?_|refine blk_alloc ?_ _); exact BK254.out) hb); have n1_ := Aside0.mk (below_step (by repeat (first | (with_reducible first | exact HB.out | apply below_alloc | apply pw_below_drewN | apply below_drew1 | refine below_set ?_ GE254.out) | exact HB.out)) hb); clear BK254; clear HB; have BK254 := n0_; have HB := n1_; clear n0_ n1_; (try clear hb); (try clear hb2); (try clear hk); (try clear hi)) | ((with_reducible refine gate_callee (f := 18) rfl ?_); refine goesL_ (some 16) rfl rfl Try.func18 (by kernel_rfl) rfl #[.int .i64 a1] rfl (by (try simp only [List.map_toArray, List.map_cons, List.map_nil]); first | done | rfl | (simp only [List.length_drop, List.length_take]; rfl)) ?_; (with_reducible refine (pylonlaw04_inner.calls a1 t256 _ A5.out).mono ?_); rintro e w' ⟨rfl, ⟨nd, rfl⟩⟩; refine ⟨_, rfl, ?_⟩; (try (rw [drewN_self w63]; generalize hq_ : World.drewN w63 _ = w63; have n0_ : Aside0 (w63.heap[gb254]? = some (.cells #[.int .i64 a0_0, .int .i64 a0_1, .int .i64 a0_2, .int .i64 a0_3, .int .i64 a0_4, .int .i64 a0_5, .int .i64 a0_6, .int .i64 a0_7, .int .i64 a0_8, .int .i64 a0_9] 25 (0, 0))) := ⟨by rw [← hq_]; exact (by (with_reducible repeat first|refine blk_drewN ?_ _|refine blk_drew ?_|refine blk_alloc ?_ _); exact BK254.out)⟩; have n1_ : Aside0 (Below w.heap.size w w63) := ⟨by rw [← hq_]; exact (by repeat (first | (with_reducible first | exact HB.out | apply below_alloc | apply pw_below_drewN | apply below_drew1 | refine below_set ?_ GE254.out) | exact HB.out))⟩; clear BK254 HB hq_; have BK254 := n0_; have HB := n1_; clear n0_ n1_)); have hcz64_0 : w63.cell? ⟨gb254, 0, none⟩ = some (.int .i64 a0_0) := (blk_cell BK254.out 0).trans rfl; have hcz64_1 : w63.cell? ⟨gb254, 1, none⟩ = some (.int .i64 a0_1) := (blk_cell BK254.out 1).trans rfl; have hcz64_2 : w63.cell? ⟨gb254, 2, none⟩ = some (.int .i64 a0_2) := (blk_cell BK254.out 2).trans rfl; have hcz64_3 : w63.cell? ⟨gb254, 3, none⟩ = some (.int .i64 a0_3) := (blk_cell BK254.out 3).trans rfl; have hcz64_4 : w63.cell? ⟨gb254, 4, none⟩ = some (.int .i64 a0_4) := (blk_cell BK254.out 4).trans rfl; have hcz64_5 : w63.cell? ⟨gb254, 5, none⟩ = some (.int .i64 a0_5) := (blk_cell BK254.out 5).trans rfl; have hcz64_6 : w63.cell? ⟨gb254, 6, none⟩ = some (.int .i64 a0_6) := (blk_cell BK254.out 6).trans rfl; have hcz64_7 : w63.cell? ⟨gb254, 7, none⟩ = some (.int .i64 a0_7) := (blk_cell BK254.out 7).trans rfl; have hcz64_8 : w63.cell? ⟨gb254, 8, none⟩ = some (.int .i64 a0_8) := (blk_cell BK254.out 8).trans rfl; have hcz64_9 : w63.cell? ⟨gb254, 9, none⟩ = some (.int .i64 a0_9) := (blk_cell BK254.out 9).trans rfl; have hfz64_0 := blk_frozen BK254.out 0; have hfz64_1 := blk_frozen BK254.out 1; have hfz64_2 := blk_frozen BK254.out 2; have hfz64_3 := blk_frozen BK254.out 3; have hfz64_4 := blk_frozen BK254.out 4; have hfz64_5 := blk_frozen BK254.out 5; have hfz64_6 := blk_frozen BK254.out 6; have hfz64_7 := blk_frozen BK254.out 7; have hfz64_8 := blk_frozen BK254.out 8; have hfz64_9 := blk_frozen BK254.out 9) | ((with_reducible refine gate_callee (f := 17) rfl ?_); refine goesL_ (some 20) rfl rfl Try.func17 (by kernel_rfl) rfl #[.agg #[.int .i64 a0_0, .int .i64 a0_1, .int .i64 a0_2, .int .i64 a0_3, .int .i64 a0_4, .int .i64 a0_5, .int .i64 a0_6, .int .i64 a0_7, .int .i64 a0_8, .int .i64 a0_9], .int .i64 t256] rfl (by (try simp only [List.map_toArray, List.map_cons, List.map_nil]); first | done | rfl | (simp only [List.length_drop, List.length_take]; rfl)) ?_; (with_reducible refine (zone_At.calls k a0_0 a0_1 a0_2 a0_3 a0_4 a0_5 a0_6 a0_7 a0_8 a0_9 t256 t257 t258 t259 t260 t261 t262 _ A6.out).mono ?_); rintro e w65 ⟨rfl, hb⟩; refine ⟨_, rfl, ?_⟩; have n0_ := Aside0.mk (blk_below (g := gb254) (o := .cells #[.int .i64 a0_0, .int .i64 a0_1, .int .i64 a0_2, .int .i64 a0_3, .int .i64 a0_4, .int .i64 a0_5, .int .i64 a0_6, .int .i64 a0_7, .int .i64 a0_8, .int .i64 a0_9] 25 (0, 0)) (by (with_reducible repeat first|refine blk_drewN ?_ _|refine blk_drew ?_|refine blk_alloc ?_ _); exact BK254.out) hb); have n1_ := Aside0.mk (below_step (by repeat (first | (with_reducible first | exact HB.out | apply below_alloc | apply pw_below_drewN | apply below_drew1 | refine below_set ?_ GE254.out) | exact HB.out)) hb); clear BK254; clear HB; have BK254 := n0_; have HB := n1_; clear n0_ n1_; (try clear hb); (try clear hb2); (try clear hk); (try clear hi)) | ((with_reducible refine gate_dst (N := 5) rfl ?_); (try (refine gate_guard (by rfl) ?_; dsimp only)); refine box_event ?hg (N := 5) ?hd (cs := #[.int .i64 0, .int .i64 0, .int .i64 0, .int .i64 0, .int .i64 0]) (t := 35) ?hr ?_; (case hd => rfl); (case hg => rfl); (case hr => first | (go_simp; done) | (go_simp; rfl)); intro gb263 hg w66 hbox hb; have n0_ := Aside0.mk (blk_below (g := gb254) (o := .cells #[.int .i64 a0_0, .int .i64 a0_1, .int .i64 a0_2, .int .i64 a0_3, .int .i64 a0_4, .int .i64 a0_5, .int .i64 a0_6, .int .i64 a0_7, .int .i64 a0_8, .int .i64 a0_9] 25 (0, 0)) (by (with_reducible repeat first|refine blk_drewN ?_ _|refine blk_drew ?_|refine blk_alloc ?_ _); exact BK254.out) hb); have n1_ := Aside0.mk (below_step (by repeat (first | (with_reducible first | exact HB.out | apply below_alloc | apply pw_below_drewN | apply below_drew1 | refine below_set ?_ GE254.out) | exact HB.out)) hb); have n2_ := Aside0.mk (hbox); have n3_ := Aside0.mk ((by rw [hg]; exact (below_size (by repeat (first | (with_reducible first | exact HB.out | apply below_alloc | apply pw_below_drewN | apply below_drew1 | refine below_set ?_ GE254.out) | exact HB.out))) : w.heap.size ≤ gb263)); have n4_ := Aside0.mk ((by rw [hg]; exact (below_size (by repeat (first | (with_reducible first | exact HB.out | apply below_alloc | apply pw_below_drewN | apply below_drew1 | refine below_set ?_ GE254.out) | exact HB.out))) : w.heap.size ≤ gb263)); have n5_ := Aside0.mk ((by rw [hg]; exact Nat.ne_of_lt (blk_lt (g := gb254) (o := .cells #[.int .i64 a0_0, .int .i64 a0_1, .int .i64 a0_2, .int .i64 a0_3, .int .i64 a0_4, .int .i64 a0_5, .int .i64 a0_6, .int .i64 a0_7, .int .i64 a0_8, .int .i64 a0_9] 25 (0, 0)) (by (with_reducible repeat first|refine blk_drewN ?_ _|refine blk_drew ?_|refine blk_alloc ?_ _); exact BK254.out)) : gb254 ≠ gb263)); have n6_ := Aside0.mk ((by rw [hg]; exact Nat.ne_of_gt (blk_lt (g := gb254) (o := .cells #[.int .i64 a0_0, .int .i64 a0_1, .int .i64 a0_2, .int .i64 a0_3, .int .i64 a0_4, .int .i64 a0_5, .int .i64 a0_6, .int .i64 a0_7, .int .i64 a0_8, .int .i64 a0_9] 25 (0, 0)) (by (with_reducible repeat first|refine blk_drewN ?_ _|refine blk_drew ?_|refine blk_alloc ?_ _); exact BK254.out)) : gb263 ≠ gb254)); clear BK254; clear HB; have BK254 := n0_; have HB := n1_; have BK263 := n2_; have GW263 := n3_; have GE263 := n4_; have NB254_263 := n5_; have NB263_254 := n6_; clear n0_ n1_ n2_ n3_ n4_ n5_ n6_; clear hb hbox hg; have hnb67 := NB263_254.out; have hnc67 := NB254_263.out; have hcz68_0 : w66.cell? ⟨gb263, 0, none⟩ = some (.int .i64 0) := (blk_cell BK263.out 0).trans rfl; have hcz68_1 : w66.cell? ⟨gb263, 1, none⟩ = some (.int .i64 0) := (blk_cell BK263.out 1).trans rfl; have hcz68_2 : w66.cell? ⟨gb263, 2, none⟩ = some (.int .i64 0) := (blk_cell BK263.out 2).trans rfl; have hcz68_3 : w66.cell? ⟨gb263, 3, none⟩ = some (.int .i64 0) := (blk_cell BK263.out 3).trans rfl; have hcz68_4 : w66.cell? ⟨gb263, 4, none⟩ = some (.int .i64 0) := (blk_cell BK263.out 4).trans rfl; have hfz68_0 := blk_frozen BK263.out 0; have hfz68_1 := blk_frozen BK263.out 1; have hfz68_2 := blk_frozen BK263.out 2; have hfz68_3 := blk_frozen BK263.out 3; have hfz68_4 := blk_frozen BK263.out 4; have hcz69_0 : w66.cell? ⟨gb254, 0, none⟩ = some (.int .i64 a0_0) := (blk_cell BK254.out 0).trans rfl; have hcz69_1 : w66.cell? ⟨gb254, 1, none⟩ = some (.int .i64 a0_1) := (blk_cell BK254.out 1).trans rfl; have hcz69_2 : w66.cell? ⟨gb254, 2, none⟩ = some (.int .i64 a0_2) := (blk_cell BK254.out 2).trans rfl; have hcz69_3 : w66.cell? ⟨gb254, 3, none⟩ = some (.int .i64 a0_3) := (blk_cell BK254.out 3).trans rfl; have hcz69_4 : w66.cell? ⟨gb254, 4, none⟩ = some (.int .i64 a0_4) := (blk_cell BK254.out 4).trans rfl; have hcz69_5 : w66.cell? ⟨gb254, 5, none⟩ = some (.int .i64 a0_5) := (blk_cell BK254.out 5).trans rfl; have hcz69_6 : w66.cell? ⟨gb254, 6, none⟩ = some (.int .i64 a0_6) := (blk_cell BK254.out 6).trans rfl; have hcz69_7 : w66.cell? ⟨gb254, 7, none⟩ = some (.int .i64 a0_7) := (blk_cell BK254.out 7).trans rfl; have hcz69_8 : w66.cell? ⟨gb254, 8, none⟩ = some (.int .i64 a0_8) := (blk_cell BK254.out 8).trans rfl; have hcz69_9 : w66.cell? ⟨gb254, 9, none⟩ = some (.int .i64 a0_9) := (blk_cell BK254.out 9).trans rfl; have hfz69_0 := blk_frozen BK254.out 0; have hfz69_1 := blk_frozen BK254.out 1; have hfz69_2 := blk_frozen BK254.out 2; have hfz69_3 := blk_frozen BK254.out 3; have hfz69_4 := blk_frozen BK254.out 4; have hfz69_5 := blk_frozen BK254.out 5; have hfz69_6 := blk_frozen BK254.out 6; have hfz69_7 := blk_frozen BK254.out 7; have hfz69_8 := blk_frozen BK254.out 8; have hfz69_9 := blk_frozen BK254.out 9) | ((with_reducible refine gate_callee (f := 16) rfl ?_); refine goesL_ (some 24) rfl rfl Try.func16 (by kernel_rfl) rfl #[.agg #[.int .i64 a0_0, .int .i64 a0_1, .int .i64 a0_2, .int .i64 a0_3, .int .i64 a0_4, .int .i64 a0_5, .int .i64 a0_6, .int .i64 a0_7, .int .i64 a0_8, .int .i64 a0_9]] rfl (by (try simp only [List.map_toArray, List.map_cons, List.map_nil]); first | done | rfl | (simp only [List.length_drop, List.length_take]; rfl)) ?_; (with_reducible refine (pylonref04_Check.calls k a0_0 a0_1 a0_2 a0_3 a0_4 a0_5 a0_6 a0_7 a0_8 a0_9 t264 _ A7.out).mono ?_); rintro e w70 ⟨rfl, hb⟩; refine ⟨_, rfl, ?_⟩; have n0_ := Aside0.mk (blk_below (g := gb254) (o := .cells #[.int .i64 a0_0, .int .i64 a0_1, .int .i64 a0_2, .int .i64 a0_3, .int .i64 a0_4, .int .i64 a0_5, .int .i64 a0_6, .int .i64 a0_7, .int .i64 a0_8, .int .i64 a0_9] 25 (0, 0)) (by (with_reducible repeat first|refine blk_drewN ?_ _|refine blk_drew ?_|refine blk_alloc ?_ _); refine blk_far ?_ NB254_263.out _; (with_reducible repeat first|refine blk_drewN ?_ _|refine blk_drew ?_|refine blk_alloc ?_ _); refine blk_far ?_ NB254_263.out _; (with_reducible repeat first|refine blk_drewN ?_ _|refine blk_drew ?_|refine blk_alloc ?_ _); refine blk_far ?_ NB254_263.out _; (with_reducible repeat first|refine blk_drewN ?_ _|refine blk_drew ?_|refine blk_alloc ?_ _); refine blk_far ?_ NB254_263.out _; (with_reducible repeat first|refine blk_drewN ?_ _|refine blk_drew ?_|refine blk_alloc ?_ _); refine blk_far ?_ NB254_263.out _; (with_reducible repeat first|refine blk_drewN ?_ _|refine blk_drew ?_|refine blk_alloc ?_ _); exact BK254.out) hb); have n1_ := Aside0.mk (blk_below (g := gb263) (o := .cells #[.int .i64 t257, .int .i64 t258, .int .i64 t259, .int .i64 t260, .int .i64 t261] 35 (0, 0)) (by (with_reducible repeat first|refine blk_drewN ?_ _|refine blk_drew ?_|refine blk_alloc ?_ _); refine blk_put (cs := #[.int .i64 t257, .int .i64 t258, .int .i64 t259, .int .i64 t260, .int .i64 0]) ?_ 4 _ rfl; (with_reducible repeat first|refine blk_drewN ?_ _|refine blk_drew ?_|refine blk_alloc ?_ _); refine blk_put (cs := #[.int .i64 t257, .int .i64 t258, .int .i64 t259, .int .i64 0, .int .i64 0]) ?_ 3 _ rfl; (with_reducible repeat first|refine blk_drewN ?_ _|refine blk_drew ?_|refine blk_alloc ?_ _); refine blk_put (cs := #[.int .i64 t257, .int .i64 t258, .int .i64 0, .int .i64 0, .int .i64 0]) ?_ 2 _ rfl; (with_reducible repeat first|refine blk_drewN ?_ _|refine blk_drew ?_|refine blk_alloc ?_ _); refine blk_put (cs := #[.int .i64 t257, .int .i64 0, .int .i64 0, .int .i64 0, .int .i64 0]) ?_ 1 _ rfl; (with_reducible repeat first|refine blk_drewN ?_ _|refine blk_drew ?_|refine blk_alloc ?_ _); refine blk_put (cs := #[.int .i64 0, .int .i64 0, .int .i64 0, .int .i64 0, .int .i64 0]) ?_ 0 _ rfl; (with_reducible repeat first|refine blk_drewN ?_ _|refine blk_drew ?_|refine blk_alloc ?_ _); exact BK263.out) hb); have n2_ := Aside0.mk (below_step (by repeat (first | (with_reducible first | exact HB.out | apply below_alloc | apply pw_below_drewN | apply below_drew1 | refine below_set ?_ GE254.out | refine below_set ?_ GE263.out) | exact HB.out)) hb); clear BK254; clear BK263; clear HB; have BK254 := n0_; have BK263 := n1_; have HB := n2_; clear n0_ n1_ n2_; (try clear hb); (try clear hb2); (try clear hk); (try clear hi)))
   (try simp only [Act.put, List.setIfInBounds_toArray, List.set_cons_zero, List.set_cons_succ])
   go_cut [4] (fun v4 wc => ∃ (kq : Nat) (x4_60 : Bool), v4 = .bool x4_60 ∧ Aside0 (pylonlaw04_ZoneAts.j0 kq x4_60 = some r) ∧ Aside0 (kq ≤ k) ∧ Aside0 (wc.heap[gb254]? = some (.cells #[.int .i64 a0_0, .int .i64 a0_1, .int .i64 a0_2, .int .i64 a0_3, .int .i64 a0_4, .int .i64 a0_5, .int .i64 a0_6, .int .i64 a0_7, .int .i64 a0_8, .int .i64 a0_9] 25 (0, 0))) ∧ Aside0 (wc.heap[gb263]? = some (.cells #[.int .i64 t257, .int .i64 t258, .int .i64 t259, .int .i64 t260, .int .i64 t261] 35 (0, 0))) ∧ Aside0 (Below w.heap.size w wc))
   case first =>
    have H := HC61.out
    clear HC61
    by_cases c71 : t262 = 8
    ·rw [if_pos c71] at H
     have c71b0 : (t262 == 8) = true := beq_iff_eq.mpr c71
     have c71b1 : (t262 != 8) = false := bne_eq_false_iff_eq.mpr c71
     clear c71
     (first | rw [c71b0] | (simp only [i64_w, i32_w]; rw [c71b0]) | skip)
     by_cases c72 : ((t257 == 0 && (t258 == 0 && (t259 == 0))) && (t260 == 0 && (t261 == 0))) = true
     ·rw [if_pos c72] at H
      have c72b0 : ((t257 == 0 && (t258 == 0 && (t259 == 0))) && (t260 == 0 && (t261 == 0))) = true := c72
      clear c72
      replace H := Option.bind_eq_some_iff.mp H
      obtain ⟨t265, A730, H⟩ := H
      replace H : (pylonlaw04_ZoneAts.j0 k (t265 == 8)) = some r := H
      have A73 := Aside0.mk A730
      clear A730
      have H' := Aside0.mk H
      clear H
      have hnb74 := NB263_254.out
      have hnc74 := NB254_263.out
      have hcz75_0 : w70.cell? ⟨gb263, 0, none⟩ = some (.int .i64 t257) := (blk_cell BK263.out 0).trans rfl
      have hcz75_1 : w70.cell? ⟨gb263, 1, none⟩ = some (.int .i64 t258) := (blk_cell BK263.out 1).trans rfl
      have hcz75_2 : w70.cell? ⟨gb263, 2, none⟩ = some (.int .i64 t259) := (blk_cell BK263.out 2).trans rfl
      have hcz75_3 : w70.cell? ⟨gb263, 3, none⟩ = some (.int .i64 t260) := (blk_cell BK263.out 3).trans rfl
      have hcz75_4 : w70.cell? ⟨gb263, 4, none⟩ = some (.int .i64 t261) := (blk_cell BK263.out 4).trans rfl
      have hfz75_0 := blk_frozen BK263.out 0
      have hfz75_1 := blk_frozen BK263.out 1
      have hfz75_2 := blk_frozen BK263.out 2
      have hfz75_3 := blk_frozen BK263.out 3
      have hfz75_4 := blk_frozen BK263.out 4
      have hcz76_0 : w70.cell? ⟨gb254, 0, none⟩ = some (.int .i64 a0_0) := (blk_cell BK254.out 0).trans rfl
      have hcz76_1 : w70.cell? ⟨gb254, 1, none⟩ = some (.int .i64 a0_1) := (blk_cell BK254.out 1).trans rfl
      have hcz76_2 : w70.cell? ⟨gb254, 2, none⟩ = some (.int .i64 a0_2) := (blk_cell BK254.out 2).trans rfl
      have hcz76_3 : w70.cell? ⟨gb254, 3, none⟩ = some (.int .i64 a0_3) := (blk_cell BK254.out 3).trans rfl
      have hcz76_4 : w70.cell? ⟨gb254, 4, none⟩ = some (.int .i64 a0_4) := (blk_cell BK254.out 4).trans rfl
      have hcz76_5 : w70.cell? ⟨gb254, 5, none⟩ = some (.int .i64 a0_5) := (blk_cell BK254.out 5).trans rfl
      have hcz76_6 : w70.cell? ⟨gb254, 6, none⟩ = some (.int .i64 a0_6) := (blk_cell BK254.out 6).trans rfl
      have hcz76_7 : w70.cell? ⟨gb254, 7, none⟩ = some (.int .i64 a0_7) := (blk_cell BK254.out 7).trans rfl
      have hcz76_8 : w70.cell? ⟨gb254, 8, none⟩ = some (.int .i64 a0_8) := (blk_cell BK254.out 8).trans rfl
      have hcz76_9 : w70.cell? ⟨gb254, 9, none⟩ = some (.int .i64 a0_9) := (blk_cell BK254.out 9).trans rfl
      have hfz76_0 := blk_frozen BK254.out 0
      have hfz76_1 := blk_frozen BK254.out 1
      have hfz76_2 := blk_frozen BK254.out 2
      have hfz76_3 := blk_frozen BK254.out 3
      have hfz76_4 := blk_frozen BK254.out 4
      have hfz76_5 := blk_frozen BK254.out 5
      have hfz76_6 := blk_frozen BK254.out 6
      have hfz76_7 := blk_frozen BK254.out 7
      have hfz76_8 := blk_frozen BK254.out 8
      have hfz76_9 := blk_frozen BK254.out 9
      go_wp2_with (first | (go_at_call 19; (with_reducible refine (zone_Check.calls k a0_0 a0_1 a0_2 a0_3 a0_4 a0_5 a0_6 a0_7 a0_8 a0_9 t265 _ A73.out).mono ?_); rintro e w77 ⟨rfl, hb⟩; have n0_ := Aside0.mk (blk_below (g := gb254) (o := .cells #[.int .i64 a0_0, .int .i64 a0_1, .int .i64 a0_2, .int .i64 a0_3, .int .i64 a0_4, .int .i64 a0_5, .int .i64 a0_6, .int .i64 a0_7, .int .i64 a0_8, .int .i64 a0_9] 25 (0, 0)) (by (with_reducible repeat first|refine blk_drewN ?_ _|refine blk_drew ?_|refine blk_alloc ?_ _); exact BK254.out) hb); have n1_ := Aside0.mk (blk_below (g := gb263) (o := .cells #[.int .i64 t257, .int .i64 t258, .int .i64 t259, .int .i64 t260, .int .i64 t261] 35 (0, 0)) (by (with_reducible repeat first|refine blk_drewN ?_ _|refine blk_drew ?_|refine blk_alloc ?_ _); exact BK263.out) hb); have n2_ := Aside0.mk (below_step (by repeat (first | (with_reducible first | exact HB.out | apply below_alloc | apply pw_below_drewN | apply below_drew1 | refine below_set ?_ GE254.out | refine below_set ?_ GE263.out) | exact HB.out)) hb); clear BK254; clear BK263; clear HB; have BK254 := n0_; have BK263 := n1_; have HB := n2_; clear n0_ n1_ n2_; (try clear hb); (try clear hb2); (try clear hk); (try clear hi)))
      go_meet
      case rel => exact ⟨_, ((t265 == 8)), (by first | rfl | (simp; done) | (simp [*]; done)), H', ⟨by first | omega | exact Nat.le_refl _⟩, ⟨by (with_reducible repeat first|refine blk_drewN ?_ _|refine blk_drew ?_|refine blk_alloc ?_ _); exact BK254.out⟩, ⟨by (with_reducible repeat first|refine blk_drewN ?_ _|refine blk_drew ?_|refine blk_alloc ?_ _); exact BK263.out⟩, ⟨by repeat (first | (with_reducible first | exact HB.out | apply below_alloc | apply pw_below_drewN | apply below_drew1 | refine below_set ?_ GE254.out | refine below_set ?_ GE263.out) | exact HB.out)⟩⟩
     ·rw [if_neg c72] at H
      have c72b0 : ((t257 == 0 && (t258 == 0 && (t259 == 0))) && (t260 == 0 && (t261 == 0))) = false := by simpa using c72
      clear c72
      have H' := Aside0.mk H
      clear H
      have hnb78 := NB263_254.out
      have hnc78 := NB254_263.out
      have hcz79_0 : w70.cell? ⟨gb263, 0, none⟩ = some (.int .i64 t257) := (blk_cell BK263.out 0).trans rfl
      have hcz79_1 : w70.cell? ⟨gb263, 1, none⟩ = some (.int .i64 t258) := (blk_cell BK263.out 1).trans rfl
      have hcz79_2 : w70.cell? ⟨gb263, 2, none⟩ = some (.int .i64 t259) := (blk_cell BK263.out 2).trans rfl
      have hcz79_3 : w70.cell? ⟨gb263, 3, none⟩ = some (.int .i64 t260) := (blk_cell BK263.out 3).trans rfl
      have hcz79_4 : w70.cell? ⟨gb263, 4, none⟩ = some (.int .i64 t261) := (blk_cell BK263.out 4).trans rfl
      have hfz79_0 := blk_frozen BK263.out 0
      have hfz79_1 := blk_frozen BK263.out 1
      have hfz79_2 := blk_frozen BK263.out 2
      have hfz79_3 := blk_frozen BK263.out 3
      have hfz79_4 := blk_frozen BK263.out 4
      go_wp2
      go_meet
      case rel => exact ⟨_, (false), (by first | rfl | (simp; done) | (simp [*]; done)), H', ⟨by first | omega | exact Nat.le_refl _⟩, ⟨by (with_reducible repeat first|refine blk_drewN ?_ _|refine blk_drew ?_|refine blk_alloc ?_ _); exact BK254.out⟩, ⟨by (with_reducible repeat first|refine blk_drewN ?_ _|refine blk_drew ?_|refine blk_alloc ?_ _); exact BK263.out⟩, ⟨by repeat (first | (with_reducible first | exact HB.out | apply below_alloc | apply pw_below_drewN | apply below_drew1 | refine below_set ?_ GE254.out | refine below_set ?_ GE263.out) | exact HB.out)⟩⟩
    ·rw [if_neg c71] at H
     have c71b0 : (t262 == 8) = false := beq_eq_false_iff_ne.mpr c71
     have c71b1 : (t262 != 8) = true := bne_iff_ne.mpr c71
     (first | rw [c71b0] | (simp only [i64_w, i32_w]; rw [c71b0]) | skip)
     have H' := Aside0.mk H
     clear H
     go_wp2
     go_meet
     case rel => exact ⟨_, (false), (by first | rfl | (simp; done) | (simp [*]; done)), H', ⟨by first | omega | exact Nat.le_refl _⟩, ⟨by (with_reducible repeat first|refine blk_drewN ?_ _|refine blk_drew ?_|refine blk_alloc ?_ _); exact BK254.out⟩, ⟨by (with_reducible repeat first|refine blk_drewN ?_ _|refine blk_drew ?_|refine blk_alloc ?_ _); exact BK263.out⟩, ⟨by repeat (first | (with_reducible first | exact HB.out | apply below_alloc | apply pw_below_drewN | apply below_drew1 | refine below_set ?_ GE254.out | refine below_set ?_ GE263.out) | exact HB.out)⟩⟩
   case rest =>
    clear HC61
    try clear c1
    try clear c2
    try clear p2
    try clear q2
    try clear hx2
    try clear c3
    try clear c4
    try clear c5
    try clear c6
    try clear p6
    try clear c7
    try clear c8
    try clear c8b0
    try clear c8b1
    try clear c14
    try clear c15
    try clear c16
    try clear c17
    try clear c18
    try clear c19
    try clear c19b0
    try clear c19b1
    try clear c20
    try clear c20b0
    try clear c20b1
    try clear c21
    try clear c21b0
    try clear c22
    try clear c25
    try clear p27
    try clear q27
    try clear hx27
    try clear c28
    try clear c28b0
    try clear c28b1
    try clear c29
    try clear c29b0
    try clear c30
    try clear c33
    try clear c36
    try clear c39
    try clear c42
    try clear c49
    try clear c49b0
    try clear c51
    try clear c52
    try clear c52b0
    try clear c53
    try clear c53b0
    try clear c55
    try clear c55b0
    try clear c55b1
    try clear c56
    try clear c56b0
    try clear c56b1
    try clear c57
    try clear c58
    try clear c58b0
    try clear c58b1
    try clear c59
    try clear p64
    try clear c67
    try clear c71
    try clear c71b0
    try clear c71b1
    try clear c72
    try clear c72b0
    try clear c74
    try clear c78
    try clear hcz12_0
    try clear hcz12_1
    try clear hcz12_2
    try clear hcz12_3
    try clear hcz12_4
    try clear hcz12_5
    try clear hcz12_6
    try clear hcz12_7
    try clear hcz12_8
    try clear hcz12_9
    try clear hcz16_0
    try clear hcz16_1
    try clear hcz16_2
    try clear hcz16_3
    try clear hcz16_4
    try clear hcz17_0
    try clear hcz17_1
    try clear hcz17_2
    try clear hcz17_3
    try clear hcz17_4
    try clear hcz17_5
    try clear hcz17_6
    try clear hcz17_7
    try clear hcz17_8
    try clear hcz17_9
    try clear hcz23_0
    try clear hcz23_1
    try clear hcz23_2
    try clear hcz23_3
    try clear hcz23_4
    try clear hcz24_0
    try clear hcz24_1
    try clear hcz24_2
    try clear hcz24_3
    try clear hcz24_4
    try clear hcz24_5
    try clear hcz24_6
    try clear hcz24_7
    try clear hcz24_8
    try clear hcz24_9
    try clear hcz26_0
    try clear hcz26_1
    try clear hcz26_2
    try clear hcz26_3
    try clear hcz26_4
    try clear hcz27_0
    try clear hcz27_1
    try clear hcz27_2
    try clear hcz27_3
    try clear hcz27_4
    try clear hcz27_5
    try clear hcz27_6
    try clear hcz27_7
    try clear hcz27_8
    try clear hcz27_9
    try clear hcz31_0
    try clear hcz31_1
    try clear hcz31_2
    try clear hcz31_3
    try clear hcz31_4
    try clear hcz32_0
    try clear hcz32_1
    try clear hcz32_2
    try clear hcz32_3
    try clear hcz32_4
    try clear hcz32_5
    try clear hcz32_6
    try clear hcz32_7
    try clear hcz32_8
    try clear hcz32_9
    try clear hcz34_0
    try clear hcz34_1
    try clear hcz34_2
    try clear hcz34_3
    try clear hcz34_4
    try clear hcz35_0
    try clear hcz35_1
    try clear hcz35_2
    try clear hcz35_3
    try clear hcz35_4
    try clear hcz35_5
    try clear hcz35_6
    try clear hcz35_7
    try clear hcz35_8
    try clear hcz35_9
    try clear hcz37_0
    try clear hcz37_1
    try clear hcz37_2
    try clear hcz37_3
    try clear hcz37_4
    try clear hcz38_0
    try clear hcz38_1
    try clear hcz38_2
    try clear hcz38_3
    try clear hcz38_4
    try clear hcz38_5
    try clear hcz38_6
    try clear hcz38_7
    try clear hcz38_8
    try clear hcz38_9
    try clear hcz43_0
    try clear hcz43_1
    try clear hcz43_2
    try clear hcz43_3
    try clear hcz43_4
    try clear hcz43_5
    try clear hcz43_6
    try clear hcz43_7
    try clear hcz43_8
    try clear hcz43_9
    try clear hcz44_0
    try clear hcz44_1
    try clear hcz44_2
    try clear hcz44_3
    try clear hcz44_4
    try clear hcz46_0
    try clear hcz46_1
    try clear hcz46_2
    try clear hcz46_3
    try clear hcz46_4
    try clear hcz60_0
    try clear hcz60_1
    try clear hcz60_2
    try clear hcz60_3
    try clear hcz60_4
    try clear hcz64_0
    try clear hcz64_1
    try clear hcz64_2
    try clear hcz64_3
    try clear hcz64_4
    try clear hcz64_5
    try clear hcz64_6
    try clear hcz64_7
    try clear hcz64_8
    try clear hcz64_9
    try clear hcz68_0
    try clear hcz68_1
    try clear hcz68_2
    try clear hcz68_3
    try clear hcz68_4
    try clear hcz69_0
    try clear hcz69_1
    try clear hcz69_2
    try clear hcz69_3
    try clear hcz69_4
    try clear hcz69_5
    try clear hcz69_6
    try clear hcz69_7
    try clear hcz69_8
    try clear hcz69_9
    try clear hcz75_0
    try clear hcz75_1
    try clear hcz75_2
    try clear hcz75_3
    try clear hcz75_4
    try clear hcz76_0
    try clear hcz76_1
    try clear hcz76_2
    try clear hcz76_3
    try clear hcz76_4
    try clear hcz76_5
    try clear hcz76_6
    try clear hcz76_7
    try clear hcz76_8
    try clear hcz76_9
    try clear hcz79_0
    try clear hcz79_1
    try clear hcz79_2
    try clear hcz79_3
    try clear hcz79_4
    try clear hfz12_0
    try clear hfz12_1
    try clear hfz12_2
    try clear hfz12_3
    try clear hfz12_4
    try clear hfz12_5
    try clear hfz12_6
    try clear hfz12_7
    try clear hfz12_8
    try clear hfz12_9
    try clear hfz16_0
    try clear hfz16_1
    try clear hfz16_2
    try clear hfz16_3
    try clear hfz16_4
    try clear hfz17_0
    try clear hfz17_1
    try clear hfz17_2
    try clear hfz17_3
    try clear hfz17_4
    try clear hfz17_5
    try clear hfz17_6
    try clear hfz17_7
    try clear hfz17_8
    try clear hfz17_9
    try clear hfz23_0
    try clear hfz23_1
    try clear hfz23_2
    try clear hfz23_3
    try clear hfz23_4
    try clear hfz24_0
    try clear hfz24_1
    try clear hfz24_2
    try clear hfz24_3
    try clear hfz24_4
    try clear hfz24_5
    try clear hfz24_6
    try clear hfz24_7
    try clear hfz24_8
    try clear hfz24_9
    try clear hfz26_0
    try clear hfz26_1
    try clear hfz26_2
    try clear hfz26_3
    try clear hfz26_4
    try clear hfz27_0
    try clear hfz27_1
    try clear hfz27_2
    try clear hfz27_3
    try clear hfz27_4
    try clear hfz27_5
    try clear hfz27_6
    try clear hfz27_7
    try clear hfz27_8
    try clear hfz27_9
    try clear hfz31_0
    try clear hfz31_1
    try clear hfz31_2
    try clear hfz31_3
    try clear hfz31_4
    try clear hfz32_0
    try clear hfz32_1
    try clear hfz32_2
    try clear hfz32_3
    try clear hfz32_4
    try clear hfz32_5
    try clear hfz32_6
    try clear hfz32_7
    try clear hfz32_8
    try clear hfz32_9
    try clear hfz34_0
    try clear hfz34_1
    try clear hfz34_2
    try clear hfz34_3
    try clear hfz34_4
    try clear hfz35_0
    try clear hfz35_1
    try clear hfz35_2
    try clear hfz35_3
    try clear hfz35_4
    try clear hfz35_5
    try clear hfz35_6
    try clear hfz35_7
    try clear hfz35_8
    try clear hfz35_9
    try clear hfz37_0
    try clear hfz37_1
    try clear hfz37_2
    try clear hfz37_3
    try clear hfz37_4
    try clear hfz38_0
    try clear hfz38_1
    try clear hfz38_2
    try clear hfz38_3
    try clear hfz38_4
    try clear hfz38_5
    try clear hfz38_6
    try clear hfz38_7
    try clear hfz38_8
    try clear hfz38_9
    try clear hfz43_0
    try clear hfz43_1
    try clear hfz43_2
    try clear hfz43_3
    try clear hfz43_4
    try clear hfz43_5
    try clear hfz43_6
    try clear hfz43_7
    try clear hfz43_8
    try clear hfz43_9
    try clear hfz44_0
    try clear hfz44_1
    try clear hfz44_2
    try clear hfz44_3
    try clear hfz44_4
    try clear hfz46_0
    try clear hfz46_1
    try clear hfz46_2
    try clear hfz46_3
    try clear hfz46_4
    try clear hfz60_0
    try clear hfz60_1
    try clear hfz60_2
    try clear hfz60_3
    try clear hfz60_4
    try clear hfz64_0
    try clear hfz64_1
    try clear hfz64_2
    try clear hfz64_3
    try clear hfz64_4
    try clear hfz64_5
    try clear hfz64_6
    try clear hfz64_7
    try clear hfz64_8
    try clear hfz64_9
    try clear hfz68_0
    try clear hfz68_1
    try clear hfz68_2
    try clear hfz68_3
    try clear hfz68_4
    try clear hfz69_0
    try clear hfz69_1
    try clear hfz69_2
    try clear hfz69_3
    try clear hfz69_4
    try clear hfz69_5
    try clear hfz69_6
    try clear hfz69_7
    try clear hfz69_8
    try clear hfz69_9
    try clear hfz75_0
    try clear hfz75_1
    try clear hfz75_2
    try clear hfz75_3
    try clear hfz75_4
    try clear hfz76_0
    try clear hfz76_1
    try clear hfz76_2
    try clear hfz76_3
    try clear hfz76_4
    try clear hfz76_5
    try clear hfz76_6
    try clear hfz76_7
    try clear hfz76_8
    try clear hfz76_9
    try clear hfz79_0
    try clear hfz79_1
    try clear hfz79_2
    try clear hfz79_3
    try clear hfz79_4
    try clear hx272_0
    try clear p2
    try clear p27
    try clear p272
    try clear p6
    try clear q2
    try clear q27
    try clear q272
    obtain ⟨kq, x4_60, rfl, HA, HJ60, BK254, BK263, HB⟩ := hcut
    cases kq with
    | zero => exact absurd HA.out (by simp [pylonlaw04_ZoneAts.j0])
    | succ kj60 =>
     have H := HA.out
     clear HA
     simp only [pylonlaw04_ZoneAts.j0] at H
     obtain rfl := Option.some.inj H
     go_wp2
     go_ret
     exact ⟨by first | rfl | (simp [errW_none, errW_some] <;> rfl) | (simp [*, errW_none, errW_some] <;> rfl), by repeat (first | (with_reducible first | exact HB.out | apply below_alloc | apply pw_below_drewN | apply below_drew1 | refine below_set ?_ GE254.out | refine below_set ?_ GE263.out) | exact HB.out)⟩
 ·replace c4 := Bool.eq_false_iff.mpr c4
  subst c4
  have H1 : (some false) = some r := by rw [if_neg (show ¬ (false = true) by decide)] at H; exact H
  clear H
  have H := H1
  clear H1
  obtain rfl := Option.some.inj H
  go_enter Try.func4, Try.ntmps4
  go_wp2_with (first | ((with_reducible refine gate_dst (N := 2) rfl ?_); (try (refine gate_guard (by rfl) ?_; dsimp only)); refine box_event ?hg (N := 2) ?hd (cs := #[.int .i64 a0_0, .int .i64 a0_1, .int .i64 a0_2, .int .i64 a0_3, .int .i64 a0_4, .int .i64 a0_5, .int .i64 a0_6, .int .i64 a0_7, .int .i64 a0_8, .int .i64 a0_9]) (t := 25) ?hr ?_; (case hd => rfl); (case hg => rfl); (case hr => first | (go_simp; done) | (go_simp; rfl)); intro gb254 hg w80 hbox hb; have n0_ := Aside0.mk (below_step (by repeat (first | (with_reducible first | exact HB.out | apply below_alloc | apply pw_below_drewN | apply below_drew1) | exact HB.out)) hb); have n1_ := Aside0.mk (hbox); have n2_ := Aside0.mk ((by rw [hg]; exact (below_size (by repeat (first | (with_reducible first | exact HB.out | apply below_alloc | apply pw_below_drewN | apply below_drew1) | exact HB.out))) : w.heap.size ≤ gb254)); have n3_ := Aside0.mk ((by rw [hg]; exact (below_size (by repeat (first | (with_reducible first | exact HB.out | apply below_alloc | apply pw_below_drewN | apply below_drew1) | exact HB.out))) : w.heap.size ≤ gb254)); clear HB; have HB := n0_; have BK254 := n1_; have GW254 := n2_; have GE254 := n3_; clear n0_ n1_ n2_ n3_; clear hb hbox hg) | ((with_reducible refine gate_callee (f := 14) rfl ?_); refine goesL_ (some 13) rfl rfl Try.func14 (by kernel_rfl) rfl #[] rfl (by (try simp only [List.map_toArray, List.map_cons, List.map_nil]); first | done | rfl | (simp only [List.length_drop, List.length_take]; rfl)) ?_; (with_reducible refine (pylonlaw04_awake.calls k  false _ A3.out).mono ?_); rintro e w81 ⟨rfl, hb⟩; refine ⟨_, rfl, ?_⟩; have n0_ := Aside0.mk (blk_below (g := gb254) (o := .cells #[.int .i64 a0_0, .int .i64 a0_1, .int .i64 a0_2, .int .i64 a0_3, .int .i64 a0_4, .int .i64 a0_5, .int .i64 a0_6, .int .i64 a0_7, .int .i64 a0_8, .int .i64 a0_9] 25 (0, 0)) (by (with_reducible repeat first|refine blk_drewN ?_ _|refine blk_drew ?_|refine blk_alloc ?_ _); exact BK254.out) hb); have n1_ := Aside0.mk (below_step (by repeat (first | (with_reducible first | exact HB.out | apply below_alloc | apply pw_below_drewN | apply below_drew1 | refine below_set ?_ GE254.out) | exact HB.out)) hb); clear BK254; clear HB; have BK254 := n0_; have HB := n1_; clear n0_ n1_; (try clear hb); (try clear hb2); (try clear hk); (try clear hi)))
  go_ret
  exact ⟨by first | rfl | (simp [errW_none, errW_some] <;> rfl) | (simp [*, errW_none, errW_some] <;> rfl), by repeat (first | (with_reducible first | exact HB.out | apply below_alloc | apply pw_below_drewN | apply below_drew1 | refine below_set ?_ GE254.out) | exact HB.out)⟩

end Go.Proofs.Ytddkckpfmleffaa.PX
