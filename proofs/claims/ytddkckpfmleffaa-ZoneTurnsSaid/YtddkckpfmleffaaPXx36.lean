/- Functions of the program as plain Lean functions, each with a proof that the call in the machine answers just what the plain function says; condition: the plain function answers at all. -/
import Derived.Test.YtddkckpfmleffaaPXx0
import Derived.Test.YtddkckpfmleffaaPXx7
import Derived.Test.YtddkckpfmleffaaPXx9
import Derived.Test.YtddkckpfmleffaaPXx10
import Derived.Test.YtddkckpfmleffaaPXx11
namespace Go.Proofs.Ytddkckpfmleffaa.PX
open Go.RowKit Go.Proofs.YtddkckpfmleffaaW.PrintWords Go.Proofs.YtddkckpfmleffaaW.PrintLast Go.Proofs.YtddkckpfmleffaaW.PrintMore
attribute [local go_sem] max2_int min2_int max_two min_two max_three min_three max_four min_four   -- for this text's walks alone
set_option linter.unusedVariables false
set_option linter.unusedSimpArgs false

/-! ### pylonlaw04_ZoneTurns: function 3 -/
mutual
def pylonlaw04_ZoneTurns.j1 : Nat → Bool → Option (Bool)
 | 0, _ => none
 | k + 1, x4 => some x4
def pylonlaw04_ZoneTurns.j2 : Nat → Int → Int → Bool → Int → Int → Int → Int → Int → Int → Int → Int → Int → Int → Option (Bool)
 | 0, _, _, _, _, _, _, _, _, _, _, _, _, _ => none
 | k + 1, x5, x6, x62, x186000, x186001, x186002, x186003, x186004, x186005, x186006, x186007, x186008, x186009 => if x62 = true then (some false) else ((zone_At.f k x186000 x186001 x186002 x186003 x186004 x186005 x186006 x186007 x186008 x186009 (wrap64 (x5 - 1))).bind fun bt191 => ((zone_At.f k x186000 x186001 x186002 x186003 x186004 x186005 x186006 x186007 x186008 x186009 x5).bind fun bt198 => ((zone_At.f k x186000 x186001 x186002 x186003 x186004 x186005 x186006 x186007 x186008 x186009 (wrap64 (x6 - 1))).bind fun bt205 => ((zone_At.f k x186000 x186001 x186002 x186003 x186004 x186005 x186006 x186007 x186008 x186009 x6).bind fun bt212 => (if bt191.2.2.2.2.2 = 0 then (if bt198.2.2.2.2.2 = 0 then (if bt205.2.2.2.2.2 = 0 then (pylonlaw04_ZoneTurns.j3 k (bt212.2.2.2.2.2 != 0) x186000 x186001 x186002 x186003 x186004 x186005 x186006 x186007 x186008 x186009 bt191.1 bt191.2.1 bt191.2.2.1 bt191.2.2.2.1 bt191.2.2.2.2.1 bt198.1 bt198.2.1 bt198.2.2.1 bt198.2.2.2.1 bt198.2.2.2.2.1 bt205.1 bt205.2.1 bt205.2.2.1 bt205.2.2.2.1 bt205.2.2.2.2.1 bt212.1 bt212.2.1 bt212.2.2.1 bt212.2.2.2.1 bt212.2.2.2.2.1) else (pylonlaw04_ZoneTurns.j3 k true x186000 x186001 x186002 x186003 x186004 x186005 x186006 x186007 x186008 x186009 bt191.1 bt191.2.1 bt191.2.2.1 bt191.2.2.2.1 bt191.2.2.2.2.1 bt198.1 bt198.2.1 bt198.2.2.1 bt198.2.2.2.1 bt198.2.2.2.2.1 bt205.1 bt205.2.1 bt205.2.2.1 bt205.2.2.2.1 bt205.2.2.2.2.1 bt212.1 bt212.2.1 bt212.2.2.1 bt212.2.2.2.1 bt212.2.2.2.2.1)) else (pylonlaw04_ZoneTurns.j3 k true x186000 x186001 x186002 x186003 x186004 x186005 x186006 x186007 x186008 x186009 bt191.1 bt191.2.1 bt191.2.2.1 bt191.2.2.2.1 bt191.2.2.2.2.1 bt198.1 bt198.2.1 bt198.2.2.1 bt198.2.2.2.1 bt198.2.2.2.2.1 bt205.1 bt205.2.1 bt205.2.2.1 bt205.2.2.2.1 bt205.2.2.2.2.1 bt212.1 bt212.2.1 bt212.2.2.1 bt212.2.2.2.1 bt212.2.2.2.2.1)) else (pylonlaw04_ZoneTurns.j3 k true x186000 x186001 x186002 x186003 x186004 x186005 x186006 x186007 x186008 x186009 bt191.1 bt191.2.1 bt191.2.2.1 bt191.2.2.2.1 bt191.2.2.2.2.1 bt198.1 bt198.2.1 bt198.2.2.1 bt198.2.2.2.1 bt198.2.2.2.2.1 bt205.1 bt205.2.1 bt205.2.2.1 bt205.2.2.2.1 bt205.2.2.2.2.1 bt212.1 bt212.2.1 bt212.2.2.1 bt212.2.2.2.1 bt212.2.2.2.2.1))))))
def pylonlaw04_ZoneTurns.j3 : Nat → Bool → Int → Int → Int → Int → Int → Int → Int → Int → Int → Int → Int → Int → Int → Int → Int → Int → Int → Int → Int → Int → Int → Int → Int → Int → Int → Int → Int → Int → Int → Int → Option (Bool)
 | 0, _, _, _, _, _, _, _, _, _, _, _, _, _, _, _, _, _, _, _, _, _, _, _, _, _, _, _, _, _, _, _ => none
 | k + 1, x102, x186000, x186001, x186002, x186003, x186004, x186005, x186006, x186007, x186008, x186009, x198000, x198001, x198002, x198003, x198004, x205000, x205001, x205002, x205003, x205004, x212000, x212001, x212002, x212003, x212004, x219000, x219001, x219002, x219003, x219004 => if x102 = true then (some false) else (if x198004 = x186000 then (if x205004 = (wrap64 (x186000 + x186001)) then (if x212004 = (wrap64 (x186000 + x186001)) then (if x219004 = x186000 then (if x198003 = (wrap64 (x186005 - 1)) then (pylonlaw04_ZoneTurns.j4 k (x212003 == (wrap64 (x186009 - 1)))) else (pylonlaw04_ZoneTurns.j4 k false)) else (pylonlaw04_ZoneTurns.j4 k false)) else (pylonlaw04_ZoneTurns.j4 k false)) else (pylonlaw04_ZoneTurns.j4 k false)) else (pylonlaw04_ZoneTurns.j4 k false))
def pylonlaw04_ZoneTurns.j4 : Nat → Bool → Option (Bool)
 | 0, _ => none
 | k + 1, x4 => some x4
def pylonlaw04_ZoneTurns.j0 : Nat → Bool → Option (Bool)
 | 0, _ => none
 | k + 1, x4 => some x4
end
def pylonlaw04_ZoneTurns.f (k : Nat) (a0_0 : Int) (a0_1 : Int) (a0_2 : Int) (a0_3 : Int) (a0_4 : Int) (a0_5 : Int) (a0_6 : Int) (a0_7 : Int) (a0_8 : Int) (a0_9 : Int) (a1 : Int) : Option (Bool) := (pylonlaw04_awake.f k).bind fun t186 => (if t186 = true then ((zone_Turns.f k a0_0 a0_1 a0_2 a0_3 a0_4 a0_5 a0_6 a0_7 a0_8 a0_9 (wrap64 (2 + (wrap64 (Int.tmod (IntKind.u64.wrap (a1)) 9990))))).bind fun bt187 => ((pylonref04_Check.f k a0_0 a0_1 a0_2 a0_3 a0_4 a0_5 a0_6 a0_7 a0_8 a0_9).bind fun t190 => (if t190 = 0 then (if a0_1 = 0 then (if bt187.2.2 = 7 then (if bt187.1 = 0 then (pylonlaw04_ZoneTurns.j1 k (bt187.2.1 == 0)) else (pylonlaw04_ZoneTurns.j1 k false)) else (pylonlaw04_ZoneTurns.j1 k false)) else (if bt187.2.2 = 0 then (pylonlaw04_ZoneTurns.j2 k bt187.1 bt187.2.1 (bt187.1 == bt187.2.1) a0_0 a0_1 a0_2 a0_3 a0_4 a0_5 a0_6 a0_7 a0_8 a0_9) else (pylonlaw04_ZoneTurns.j2 k bt187.1 bt187.2.1 true a0_0 a0_1 a0_2 a0_3 a0_4 a0_5 a0_6 a0_7 a0_8 a0_9))) else (if bt187.2.2 = 8 then (if bt187.1 = 0 then (pylonlaw04_ZoneTurns.j0 k (bt187.2.1 == 0)) else (pylonlaw04_ZoneTurns.j0 k false)) else (pylonlaw04_ZoneTurns.j0 k false))))) else (some false))
theorem pylonlaw04_ZoneTurns.mono_l : ∀ k, (∀ y0, LeO (pylonlaw04_ZoneTurns.j1 k y0) (pylonlaw04_ZoneTurns.j1 (k + 1) y0)) ∧ (∀ y0 y1 y2 y3 y4 y5 y6 y7 y8 y9 y10 y11 y12, LeO (pylonlaw04_ZoneTurns.j2 k y0 y1 y2 y3 y4 y5 y6 y7 y8 y9 y10 y11 y12) (pylonlaw04_ZoneTurns.j2 (k + 1) y0 y1 y2 y3 y4 y5 y6 y7 y8 y9 y10 y11 y12)) ∧ (∀ y0 y1 y2 y3 y4 y5 y6 y7 y8 y9 y10 y11 y12 y13 y14 y15 y16 y17 y18 y19 y20 y21 y22 y23 y24 y25 y26 y27 y28 y29 y30, LeO (pylonlaw04_ZoneTurns.j3 k y0 y1 y2 y3 y4 y5 y6 y7 y8 y9 y10 y11 y12 y13 y14 y15 y16 y17 y18 y19 y20 y21 y22 y23 y24 y25 y26 y27 y28 y29 y30) (pylonlaw04_ZoneTurns.j3 (k + 1) y0 y1 y2 y3 y4 y5 y6 y7 y8 y9 y10 y11 y12 y13 y14 y15 y16 y17 y18 y19 y20 y21 y22 y23 y24 y25 y26 y27 y28 y29 y30)) ∧ (∀ y0, LeO (pylonlaw04_ZoneTurns.j4 k y0) (pylonlaw04_ZoneTurns.j4 (k + 1) y0)) ∧ (∀ y0, LeO (pylonlaw04_ZoneTurns.j0 k y0) (pylonlaw04_ZoneTurns.j0 (k + 1) y0))
 | 0 => ⟨fun _ r h => by simp [pylonlaw04_ZoneTurns.j1] at h, fun _ _ _ _ _ _ _ _ _ _ _ _ _ r h => by simp [pylonlaw04_ZoneTurns.j2] at h, fun _ _ _ _ _ _ _ _ _ _ _ _ _ _ _ _ _ _ _ _ _ _ _ _ _ _ _ _ _ _ _ r h => by simp [pylonlaw04_ZoneTurns.j3] at h, fun _ r h => by simp [pylonlaw04_ZoneTurns.j4] at h, fun _ r h => by simp [pylonlaw04_ZoneTurns.j0] at h⟩
 | k + 1 => by
  obtain ⟨ih0, ih1, ih2, ih3, ih4⟩ := pylonlaw04_ZoneTurns.mono_l k
  refine ⟨?_, ?_, ?_, ?_, ?_⟩
  ·intro y0
   unfold pylonlaw04_ZoneTurns.j1
   repeat' first
   | (with_reducible exact ih0 _)
   | (with_reducible exact ih1 _ _ _ _ _ _ _ _ _ _ _ _ _)
   | (with_reducible exact ih2 _ _ _ _ _ _ _ _ _ _ _ _ _ _ _ _ _ _ _ _ _ _ _ _ _ _ _ _ _ _ _)
   | (with_reducible exact ih3 _)
   | (with_reducible exact ih4 _)
   | (with_reducible exact pylonlaw04_awake.mono _)
   | (with_reducible exact pylonref04_Check.mono _ _ _ _ _ _ _ _ _ _ _)
   | (with_reducible exact zone_At.mono _ _ _ _ _ _ _ _ _ _ _ _)
   | (with_reducible exact zone_Turns.mono _ _ _ _ _ _ _ _ _ _ _ _)
   | (with_reducible exact LeO.refl _)
   | (with_reducible exact LeO.none _)
   | (with_reducible refine LeO.ite ?_ ?_)
   | (with_reducible refine LeO.bind ?_ (fun _ => ?_))
   | exact ih0 _
   | exact ih1 _ _ _ _ _ _ _ _ _ _ _ _ _
   | exact ih2 _ _ _ _ _ _ _ _ _ _ _ _ _ _ _ _ _ _ _ _ _ _ _ _ _ _ _ _ _ _ _
   | exact ih3 _
   | exact ih4 _
   | exact pylonlaw04_awake.mono _
   | exact pylonref04_Check.mono _ _ _ _ _ _ _ _ _ _ _
   | exact zone_At.mono _ _ _ _ _ _ _ _ _ _ _ _
   | exact zone_Turns.mono _ _ _ _ _ _ _ _ _ _ _ _
   | exact LeO.none _
   | refine LeO.ite ?_ ?_
   | refine LeO.bind ?_ (fun _ => ?_)
  ·intro y0 y1 y2 y3 y4 y5 y6 y7 y8 y9 y10 y11 y12
   unfold pylonlaw04_ZoneTurns.j2
   repeat' first
   | (with_reducible exact ih0 _)
   | (with_reducible exact ih1 _ _ _ _ _ _ _ _ _ _ _ _ _)
   | (with_reducible exact ih2 _ _ _ _ _ _ _ _ _ _ _ _ _ _ _ _ _ _ _ _ _ _ _ _ _ _ _ _ _ _ _)
   | (with_reducible exact ih3 _)
   | (with_reducible exact ih4 _)
   | (with_reducible exact pylonlaw04_awake.mono _)
   | (with_reducible exact pylonref04_Check.mono _ _ _ _ _ _ _ _ _ _ _)
   | (with_reducible exact zone_At.mono _ _ _ _ _ _ _ _ _ _ _ _)
   | (with_reducible exact zone_Turns.mono _ _ _ _ _ _ _ _ _ _ _ _)
   | (with_reducible exact LeO.refl _)
   | (with_reducible exact LeO.none _)
   | (with_reducible refine LeO.ite ?_ ?_)
   | (with_reducible refine LeO.bind ?_ (fun _ => ?_))
   | exact ih0 _
   | exact ih1 _ _ _ _ _ _ _ _ _ _ _ _ _
   | exact ih2 _ _ _ _ _ _ _ _ _ _ _ _ _ _ _ _ _ _ _ _ _ _ _ _ _ _ _ _ _ _ _
   | exact ih3 _
   | exact ih4 _
   | exact pylonlaw04_awake.mono _
   | exact pylonref04_Check.mono _ _ _ _ _ _ _ _ _ _ _
   | exact zone_At.mono _ _ _ _ _ _ _ _ _ _ _ _
   | exact zone_Turns.mono _ _ _ _ _ _ _ _ _ _ _ _
   | exact LeO.none _
   | refine LeO.ite ?_ ?_
   | refine LeO.bind ?_ (fun _ => ?_)
  ·intro y0 y1 y2 y3 y4 y5 y6 y7 y8 y9 y10 y11 y12 y13 y14 y15 y16 y17 y18 y19 y20 y21 y22 y23 y24 y25 y26 y27 y28 y29 y30
   unfold pylonlaw04_ZoneTurns.j3
   repeat' first
   | (with_reducible exact ih0 _)
   | (with_reducible exact ih1 _ _ _ _ _ _ _ _ _ _ _ _ _)
   | (with_reducible exact ih2 _ _ _ _ _ _ _ _ _ _ _ _ _ _ _ _ _ _ _ _ _ _ _ _ _ _ _ _ _ _ _)
   | (with_reducible exact ih3 _)
   | (with_reducible exact ih4 _)
   | (with_reducible exact pylonlaw04_awake.mono _)
   | (with_reducible exact pylonref04_Check.mono _ _ _ _ _ _ _ _ _ _ _)
   | (with_reducible exact zone_At.mono _ _ _ _ _ _ _ _ _ _ _ _)
   | (with_reducible exact zone_Turns.mono _ _ _ _ _ _ _ _ _ _ _ _)
   | (with_reducible exact LeO.refl _)
   | (with_reducible exact LeO.none _)
   | (with_reducible refine LeO.ite ?_ ?_)
   | (with_reducible refine LeO.bind ?_ (fun _ => ?_))
   | exact ih0 _
   | exact ih1 _ _ _ _ _ _ _ _ _ _ _ _ _
   | exact ih2 _ _ _ _ _ _ _ _ _ _ _ _ _ _ _ _ _ _ _ _ _ _ _ _ _ _ _ _ _ _ _
   | exact ih3 _
   | exact ih4 _
   | exact pylonlaw04_awake.mono _
   | exact pylonref04_Check.mono _ _ _ _ _ _ _ _ _ _ _
   | exact zone_At.mono _ _ _ _ _ _ _ _ _ _ _ _
   | exact zone_Turns.mono _ _ _ _ _ _ _ _ _ _ _ _
   | exact LeO.none _
   | refine LeO.ite ?_ ?_
   | refine LeO.bind ?_ (fun _ => ?_)
  ·intro y0
   unfold pylonlaw04_ZoneTurns.j4
   repeat' first
   | (with_reducible exact ih0 _)
   | (with_reducible exact ih1 _ _ _ _ _ _ _ _ _ _ _ _ _)
   | (with_reducible exact ih2 _ _ _ _ _ _ _ _ _ _ _ _ _ _ _ _ _ _ _ _ _ _ _ _ _ _ _ _ _ _ _)
   | (with_reducible exact ih3 _)
   | (with_reducible exact ih4 _)
   | (with_reducible exact pylonlaw04_awake.mono _)
   | (with_reducible exact pylonref04_Check.mono _ _ _ _ _ _ _ _ _ _ _)
   | (with_reducible exact zone_At.mono _ _ _ _ _ _ _ _ _ _ _ _)
   | (with_reducible exact zone_Turns.mono _ _ _ _ _ _ _ _ _ _ _ _)
   | (with_reducible exact LeO.refl _)
   | (with_reducible exact LeO.none _)
   | (with_reducible refine LeO.ite ?_ ?_)
   | (with_reducible refine LeO.bind ?_ (fun _ => ?_))
   | exact ih0 _
   | exact ih1 _ _ _ _ _ _ _ _ _ _ _ _ _
   | exact ih2 _ _ _ _ _ _ _ _ _ _ _ _ _ _ _ _ _ _ _ _ _ _ _ _ _ _ _ _ _ _ _
   | exact ih3 _
   | exact ih4 _
   | exact pylonlaw04_awake.mono _
   | exact pylonref04_Check.mono _ _ _ _ _ _ _ _ _ _ _
   | exact zone_At.mono _ _ _ _ _ _ _ _ _ _ _ _
   | exact zone_Turns.mono _ _ _ _ _ _ _ _ _ _ _ _
   | exact LeO.none _
   | refine LeO.ite ?_ ?_
   | refine LeO.bind ?_ (fun _ => ?_)
  ·intro y0
   unfold pylonlaw04_ZoneTurns.j0
   repeat' first
   | (with_reducible exact ih0 _)
   | (with_reducible exact ih1 _ _ _ _ _ _ _ _ _ _ _ _ _)
   | (with_reducible exact ih2 _ _ _ _ _ _ _ _ _ _ _ _ _ _ _ _ _ _ _ _ _ _ _ _ _ _ _ _ _ _ _)
   | (with_reducible exact ih3 _)
   | (with_reducible exact ih4 _)
   | (with_reducible exact pylonlaw04_awake.mono _)
   | (with_reducible exact pylonref04_Check.mono _ _ _ _ _ _ _ _ _ _ _)
   | (with_reducible exact zone_At.mono _ _ _ _ _ _ _ _ _ _ _ _)
   | (with_reducible exact zone_Turns.mono _ _ _ _ _ _ _ _ _ _ _ _)
   | (with_reducible exact LeO.refl _)
   | (with_reducible exact LeO.none _)
   | (with_reducible refine LeO.ite ?_ ?_)
   | (with_reducible refine LeO.bind ?_ (fun _ => ?_))
   | exact ih0 _
   | exact ih1 _ _ _ _ _ _ _ _ _ _ _ _ _
   | exact ih2 _ _ _ _ _ _ _ _ _ _ _ _ _ _ _ _ _ _ _ _ _ _ _ _ _ _ _ _ _ _ _
   | exact ih3 _
   | exact ih4 _
   | exact pylonlaw04_awake.mono _
   | exact pylonref04_Check.mono _ _ _ _ _ _ _ _ _ _ _
   | exact zone_At.mono _ _ _ _ _ _ _ _ _ _ _ _
   | exact zone_Turns.mono _ _ _ _ _ _ _ _ _ _ _ _
   | exact LeO.none _
   | refine LeO.ite ?_ ?_
   | refine LeO.bind ?_ (fun _ => ?_)
theorem pylonlaw04_ZoneTurns.mono : ∀ a0 a1 a2 a3 a4 a5 a6 a7 a8 a9 a10 k, LeO (pylonlaw04_ZoneTurns.f k a0 a1 a2 a3 a4 a5 a6 a7 a8 a9 a10) (pylonlaw04_ZoneTurns.f (k + 1) a0 a1 a2 a3 a4 a5 a6 a7 a8 a9 a10) := by
 intro a0 a1 a2 a3 a4 a5 a6 a7 a8 a9 a10 k
 obtain ⟨ih0, ih1, ih2, ih3, ih4⟩ := pylonlaw04_ZoneTurns.mono_l k
 unfold pylonlaw04_ZoneTurns.f
 repeat' first
   | (with_reducible exact ih0 _)
   | (with_reducible exact ih1 _ _ _ _ _ _ _ _ _ _ _ _ _)
   | (with_reducible exact ih2 _ _ _ _ _ _ _ _ _ _ _ _ _ _ _ _ _ _ _ _ _ _ _ _ _ _ _ _ _ _ _)
   | (with_reducible exact ih3 _)
   | (with_reducible exact ih4 _)
   | (with_reducible exact pylonlaw04_awake.mono _)
   | (with_reducible exact pylonref04_Check.mono _ _ _ _ _ _ _ _ _ _ _)
   | (with_reducible exact zone_At.mono _ _ _ _ _ _ _ _ _ _ _ _)
   | (with_reducible exact zone_Turns.mono _ _ _ _ _ _ _ _ _ _ _ _)
   | (with_reducible exact LeO.refl _)
   | (with_reducible exact LeO.none _)
   | (with_reducible refine LeO.ite ?_ ?_)
   | (with_reducible refine LeO.bind ?_ (fun _ => ?_))
   | exact ih0 _
   | exact ih1 _ _ _ _ _ _ _ _ _ _ _ _ _
   | exact ih2 _ _ _ _ _ _ _ _ _ _ _ _ _ _ _ _ _ _ _ _ _ _ _ _ _ _ _ _ _ _ _
   | exact ih3 _
   | exact ih4 _
   | exact pylonlaw04_awake.mono _
   | exact pylonref04_Check.mono _ _ _ _ _ _ _ _ _ _ _
   | exact zone_At.mono _ _ _ _ _ _ _ _ _ _ _ _
   | exact zone_Turns.mono _ _ _ _ _ _ _ _ _ _ _ _
   | exact LeO.none _
   | refine LeO.ite ?_ ?_
   | refine LeO.bind ?_ (fun _ => ?_)
set_option maxHeartbeats 8000000 in
set_option maxRecDepth 100000 in
theorem pylonlaw04_ZoneTurns.calls (k : Nat) (a0_0 : Int) (a0_1 : Int) (a0_2 : Int) (a0_3 : Int) (a0_4 : Int) (a0_5 : Int) (a0_6 : Int) (a0_7 : Int) (a0_8 : Int) (a0_9 : Int) (a1 : Int) (r : Bool) (w : World) (h : pylonlaw04_ZoneTurns.f k a0_0 a0_1 a0_2 a0_3 a0_4 a0_5 a0_6 a0_7 a0_8 a0_9 a1 = some r) :
  Calls Try.prog 3 #[.agg #[.int .i64 a0_0, .int .i64 a0_1, .int .i64 a0_2, .int .i64 a0_3, .int .i64 a0_4, .int .i64 a0_5, .int .i64 a0_6, .int .i64 a0_7, .int .i64 a0_8, .int .i64 a0_9], .int .i64 a1] w fun e w' => e = .returned (.bool r) ∧ Below w.heap.size w w' := by
 have hu25 := Try.underlying25
 have hu35 := Try.underlying35
 have HB := Aside0.mk (Below.refl w.heap.size w)
 have H : ((pylonlaw04_awake.f k).bind fun t186 => (if t186 = true then ((zone_Turns.f k a0_0 a0_1 a0_2 a0_3 a0_4 a0_5 a0_6 a0_7 a0_8 a0_9 (wrap64 (2 + (wrap64 (Int.tmod (IntKind.u64.wrap (a1)) 9990))))).bind fun bt187 => ((pylonref04_Check.f k a0_0 a0_1 a0_2 a0_3 a0_4 a0_5 a0_6 a0_7 a0_8 a0_9).bind fun t190 => (if t190 = 0 then (if a0_1 = 0 then (if bt187.2.2 = 7 then (if bt187.1 = 0 then (pylonlaw04_ZoneTurns.j1 k (bt187.2.1 == 0)) else (pylonlaw04_ZoneTurns.j1 k false)) else (pylonlaw04_ZoneTurns.j1 k false)) else (if bt187.2.2 = 0 then (pylonlaw04_ZoneTurns.j2 k bt187.1 bt187.2.1 (bt187.1 == bt187.2.1) a0_0 a0_1 a0_2 a0_3 a0_4 a0_5 a0_6 a0_7 a0_8 a0_9) else (pylonlaw04_ZoneTurns.j2 k bt187.1 bt187.2.1 true a0_0 a0_1 a0_2 a0_3 a0_4 a0_5 a0_6 a0_7 a0_8 a0_9))) else (if bt187.2.2 = 8 then (if bt187.1 = 0 then (pylonlaw04_ZoneTurns.j0 k (bt187.2.1 == 0)) else (pylonlaw04_ZoneTurns.j0 k false)) else (pylonlaw04_ZoneTurns.j0 k false))))) else (some false))) = some r := h
 clear h
 replace H := Option.bind_eq_some_iff.mp H
 obtain ⟨t186, A30, H⟩ := H
 replace H : (if t186 = true then ((zone_Turns.f k a0_0 a0_1 a0_2 a0_3 a0_4 a0_5 a0_6 a0_7 a0_8 a0_9 (wrap64 (2 + (wrap64 (Int.tmod (IntKind.u64.wrap (a1)) 9990))))).bind fun bt187 => ((pylonref04_Check.f k a0_0 a0_1 a0_2 a0_3 a0_4 a0_5 a0_6 a0_7 a0_8 a0_9).bind fun t190 => (if t190 = 0 then (if a0_1 = 0 then (if bt187.2.2 = 7 then (if bt187.1 = 0 then (pylonlaw04_ZoneTurns.j1 k (bt187.2.1 == 0)) else (pylonlaw04_ZoneTurns.j1 k false)) else (pylonlaw04_ZoneTurns.j1 k false)) else (if bt187.2.2 = 0 then (pylonlaw04_ZoneTurns.j2 k bt187.1 bt187.2.1 (bt187.1 == bt187.2.1) a0_0 a0_1 a0_2 a0_3 a0_4 a0_5 a0_6 a0_7 a0_8 a0_9) else (pylonlaw04_ZoneTurns.j2 k bt187.1 bt187.2.1 true a0_0 a0_1 a0_2 a0_3 a0_4 a0_5 a0_6 a0_7 a0_8 a0_9))) else (if bt187.2.2 = 8 then (if bt187.1 = 0 then (pylonlaw04_ZoneTurns.j0 k (bt187.2.1 == 0)) else (pylonlaw04_ZoneTurns.j0 k false)) else (pylonlaw04_ZoneTurns.j0 k false))))) else (some false)) = some r := H
 have A3 := Aside0.mk A30
 clear A30
 by_cases c4 : t186 = true
 ·subst c4
  have H1 : ((zone_Turns.f k a0_0 a0_1 a0_2 a0_3 a0_4 a0_5 a0_6 a0_7 a0_8 a0_9 (wrap64 (2 + (wrap64 (Int.tmod (IntKind.u64.wrap (a1)) 9990))))).bind fun bt187 => ((pylonref04_Check.f k a0_0 a0_1 a0_2 a0_3 a0_4 a0_5 a0_6 a0_7 a0_8 a0_9).bind fun t190 => (if t190 = 0 then (if a0_1 = 0 then (if bt187.2.2 = 7 then (if bt187.1 = 0 then (pylonlaw04_ZoneTurns.j1 k (bt187.2.1 == 0)) else (pylonlaw04_ZoneTurns.j1 k false)) else (pylonlaw04_ZoneTurns.j1 k false)) else (if bt187.2.2 = 0 then (pylonlaw04_ZoneTurns.j2 k bt187.1 bt187.2.1 (bt187.1 == bt187.2.1) a0_0 a0_1 a0_2 a0_3 a0_4 a0_5 a0_6 a0_7 a0_8 a0_9) else (pylonlaw04_ZoneTurns.j2 k bt187.1 bt187.2.1 true a0_0 a0_1 a0_2 a0_3 a0_4 a0_5 a0_6 a0_7 a0_8 a0_9))) else (if bt187.2.2 = 8 then (if bt187.1 = 0 then (pylonlaw04_ZoneTurns.j0 k (bt187.2.1 == 0)) else (pylonlaw04_ZoneTurns.j0 k false)) else (pylonlaw04_ZoneTurns.j0 k false))))) = some r := by rw [if_pos rfl] at H; exact H
  clear H
  have H := H1
  clear H1
  replace H := Option.bind_eq_some_iff.mp H
  obtain ⟨⟨t187, t188, t189⟩, A50, H⟩ := H
  replace H : ((pylonref04_Check.f k a0_0 a0_1 a0_2 a0_3 a0_4 a0_5 a0_6 a0_7 a0_8 a0_9).bind fun t190 => (if t190 = 0 then (if a0_1 = 0 then (if t189 = 7 then (if t187 = 0 then (pylonlaw04_ZoneTurns.j1 k (t188 == 0)) else (pylonlaw04_ZoneTurns.j1 k false)) else (pylonlaw04_ZoneTurns.j1 k false)) else (if t189 = 0 then (pylonlaw04_ZoneTurns.j2 k t187 t188 (t187 == t188) a0_0 a0_1 a0_2 a0_3 a0_4 a0_5 a0_6 a0_7 a0_8 a0_9) else (pylonlaw04_ZoneTurns.j2 k t187 t188 true a0_0 a0_1 a0_2 a0_3 a0_4 a0_5 a0_6 a0_7 a0_8 a0_9))) else (if t189 = 8 then (if t187 = 0 then (pylonlaw04_ZoneTurns.j0 k (t188 == 0)) else (pylonlaw04_ZoneTurns.j0 k false)) else (pylonlaw04_ZoneTurns.j0 k false)))) = some r := H
  have A5 := Aside0.mk A50
  clear A50
  replace H := Option.bind_eq_some_iff.mp H
  obtain ⟨t190, A60, H⟩ := H
  replace H : (if t190 = 0 then (if a0_1 = 0 then (if t189 = 7 then (if t187 = 0 then (pylonlaw04_ZoneTurns.j1 k (t188 == 0)) else (pylonlaw04_ZoneTurns.j1 k false)) else (pylonlaw04_ZoneTurns.j1 k false)) else (if t189 = 0 then (pylonlaw04_ZoneTurns.j2 k t187 t188 (t187 == t188) a0_0 a0_1 a0_2 a0_3 a0_4 a0_5 a0_6 a0_7 a0_8 a0_9) else (pylonlaw04_ZoneTurns.j2 k t187 t188 true a0_0 a0_1 a0_2 a0_3 a0_4 a0_5 a0_6 a0_7 a0_8 a0_9))) else (if t189 = 8 then (if t187 = 0 then (pylonlaw04_ZoneTurns.j0 k (t188 == 0)) else (pylonlaw04_ZoneTurns.j0 k false)) else (pylonlaw04_ZoneTurns.j0 k false))) = some r := H
  have A6 := Aside0.mk A60
  clear A60
  by_cases c7 : t190 = 0
  ·rw [if_pos c7] at H
   have c7b0 : (t190 == 0) = true := beq_iff_eq.mpr c7
   have c7b1 : (t190 != 0) = false := bne_eq_false_iff_eq.mpr c7
   clear c7
   by_cases c8 : a0_1 = 0
   ·rw [if_pos c8] at H
    have c8b0 : (a0_1 == 0) = true := beq_iff_eq.mpr c8
    have c8b1 : (a0_1 != 0) = false := bne_eq_false_iff_eq.mpr c8
    clear c8
    have HC9 := Aside0.mk H
    clear H
    go_enter Try.func3, Try.ntmps3
    go_upto_region 8 with (first | ((with_reducible refine gate_dst (N := 2) rfl ?_); refine box_event ?hg (N := 2) ?hd (cs := #[.int .i64 a0_0, .int .i64 a0_1, .int .i64 a0_2, .int .i64 a0_3, .int .i64 a0_4, .int .i64 a0_5, .int .i64 a0_6, .int .i64 a0_7, .int .i64 a0_8, .int .i64 a0_9]) (t := 25) ?hr ?_; (case hd => rfl); (case hg => rfl); (case hr => first | (go_simp; done) | (go_simp; rfl)); intro gb185 hg w10 hbox hb; have n0_ := Aside0.mk (below_step (by repeat (first | (with_reducible first | exact HB.out | apply below_alloc | apply pw_below_drewN | apply below_drew1) | exact HB.out)) hb); have n1_ := Aside0.mk (hbox); have n2_ := Aside0.mk ((by rw [hg]; exact (below_size (by repeat (first | (with_reducible first | exact HB.out | apply below_alloc | apply pw_below_drewN | apply below_drew1) | exact HB.out))) : w.heap.size ≤ gb185)); have n3_ := Aside0.mk ((by rw [hg]; exact (below_size (by repeat (first | (with_reducible first | exact HB.out | apply below_alloc | apply pw_below_drewN | apply below_drew1) | exact HB.out))) : w.heap.size ≤ gb185)); clear HB; have HB := n0_; have BK185 := n1_; have GW185 := n2_; have GE185 := n3_; clear n0_ n1_ n2_ n3_; clear hb hbox hg) | ((with_reducible refine gate_callee (f := 14) rfl ?_); refine goesL_ (some 16) rfl rfl Try.func14 (by kernel_rfl) rfl #[] rfl (by (try simp only [List.map_toArray, List.map_cons, List.map_nil]); first | done | rfl | (simp only [List.length_drop, List.length_take]; rfl)) ?_; (with_reducible refine (pylonlaw04_awake.calls k  true _ A3.out).mono ?_); rintro e w11 ⟨rfl, hb⟩; refine ⟨_, rfl, ?_⟩; have n0_ := Aside0.mk (blk_below (g := gb185) (o := .cells #[.int .i64 a0_0, .int .i64 a0_1, .int .i64 a0_2, .int .i64 a0_3, .int .i64 a0_4, .int .i64 a0_5, .int .i64 a0_6, .int .i64 a0_7, .int .i64 a0_8, .int .i64 a0_9] 25 (0, 0)) (by (with_reducible repeat first|refine blk_drewN ?_ _|refine blk_drew ?_|refine blk_alloc ?_ _); exact BK185.out) hb); have n1_ := Aside0.mk (below_step (by repeat (first | (with_reducible first | exact HB.out | apply below_alloc | apply pw_below_drewN | apply below_drew1 | refine below_set ?_ GE185.out) | exact HB.out)) hb); clear BK185; clear HB; have BK185 := n0_; have HB := n1_; clear n0_ n1_; (try clear hb); (try clear hb2); (try clear hk); (try clear hi); have hcz12_0 : w11.cell? ⟨gb185, 0, none⟩ = some (.int .i64 a0_0) := (blk_cell BK185.out 0).trans rfl; have hcz12_1 : w11.cell? ⟨gb185, 1, none⟩ = some (.int .i64 a0_1) := (blk_cell BK185.out 1).trans rfl; have hcz12_2 : w11.cell? ⟨gb185, 2, none⟩ = some (.int .i64 a0_2) := (blk_cell BK185.out 2).trans rfl; have hcz12_3 : w11.cell? ⟨gb185, 3, none⟩ = some (.int .i64 a0_3) := (blk_cell BK185.out 3).trans rfl; have hcz12_4 : w11.cell? ⟨gb185, 4, none⟩ = some (.int .i64 a0_4) := (blk_cell BK185.out 4).trans rfl; have hcz12_5 : w11.cell? ⟨gb185, 5, none⟩ = some (.int .i64 a0_5) := (blk_cell BK185.out 5).trans rfl; have hcz12_6 : w11.cell? ⟨gb185, 6, none⟩ = some (.int .i64 a0_6) := (blk_cell BK185.out 6).trans rfl; have hcz12_7 : w11.cell? ⟨gb185, 7, none⟩ = some (.int .i64 a0_7) := (blk_cell BK185.out 7).trans rfl; have hcz12_8 : w11.cell? ⟨gb185, 8, none⟩ = some (.int .i64 a0_8) := (blk_cell BK185.out 8).trans rfl; have hcz12_9 : w11.cell? ⟨gb185, 9, none⟩ = some (.int .i64 a0_9) := (blk_cell BK185.out 9).trans rfl; have hfz12_0 := blk_frozen BK185.out 0; have hfz12_1 := blk_frozen BK185.out 1; have hfz12_2 := blk_frozen BK185.out 2; have hfz12_3 := blk_frozen BK185.out 3; have hfz12_4 := blk_frozen BK185.out 4; have hfz12_5 := blk_frozen BK185.out 5; have hfz12_6 := blk_frozen BK185.out 6; have hfz12_7 := blk_frozen BK185.out 7; have hfz12_8 := blk_frozen BK185.out 8; have hfz12_9 := blk_frozen BK185.out 9) | ((with_reducible refine gate_callee (f := 15) rfl ?_); refine goesL_ (some 26) rfl rfl Try.func15 (by kernel_rfl) rfl #[.agg #[.int .i64 a0_0, .int .i64 a0_1, .int .i64 a0_2, .int .i64 a0_3, .int .i64 a0_4, .int .i64 a0_5, .int .i64 a0_6, .int .i64 a0_7, .int .i64 a0_8, .int .i64 a0_9], .int .i64 (wrap64 (2 + (wrap64 (Int.tmod (IntKind.u64.wrap (a1)) 9990))))] rfl (by (try simp only [List.map_toArray, List.map_cons, List.map_nil]); first | done | rfl | (simp only [List.length_drop, List.length_take]; rfl)) ?_; (with_reducible refine (zone_Turns.calls k a0_0 a0_1 a0_2 a0_3 a0_4 a0_5 a0_6 a0_7 a0_8 a0_9 (wrap64 (2 + (wrap64 (Int.tmod (IntKind.u64.wrap (a1)) 9990)))) t187 t188 t189 _ A5.out).mono ?_); rintro e w13 ⟨rfl, hb⟩; refine ⟨_, rfl, ?_⟩; have n0_ := Aside0.mk (blk_below (g := gb185) (o := .cells #[.int .i64 a0_0, .int .i64 a0_1, .int .i64 a0_2, .int .i64 a0_3, .int .i64 a0_4, .int .i64 a0_5, .int .i64 a0_6, .int .i64 a0_7, .int .i64 a0_8, .int .i64 a0_9] 25 (0, 0)) (by (with_reducible repeat first|refine blk_drewN ?_ _|refine blk_drew ?_|refine blk_alloc ?_ _); exact BK185.out) hb); have n1_ := Aside0.mk (below_step (by repeat (first | (with_reducible first | exact HB.out | apply below_alloc | apply pw_below_drewN | apply below_drew1 | refine below_set ?_ GE185.out) | exact HB.out)) hb); clear BK185; clear HB; have BK185 := n0_; have HB := n1_; clear n0_ n1_; (try clear hb); (try clear hb2); (try clear hk); (try clear hi); have hcz14_0 : w13.cell? ⟨gb185, 0, none⟩ = some (.int .i64 a0_0) := (blk_cell BK185.out 0).trans rfl; have hcz14_1 : w13.cell? ⟨gb185, 1, none⟩ = some (.int .i64 a0_1) := (blk_cell BK185.out 1).trans rfl; have hcz14_2 : w13.cell? ⟨gb185, 2, none⟩ = some (.int .i64 a0_2) := (blk_cell BK185.out 2).trans rfl; have hcz14_3 : w13.cell? ⟨gb185, 3, none⟩ = some (.int .i64 a0_3) := (blk_cell BK185.out 3).trans rfl; have hcz14_4 : w13.cell? ⟨gb185, 4, none⟩ = some (.int .i64 a0_4) := (blk_cell BK185.out 4).trans rfl; have hcz14_5 : w13.cell? ⟨gb185, 5, none⟩ = some (.int .i64 a0_5) := (blk_cell BK185.out 5).trans rfl; have hcz14_6 : w13.cell? ⟨gb185, 6, none⟩ = some (.int .i64 a0_6) := (blk_cell BK185.out 6).trans rfl; have hcz14_7 : w13.cell? ⟨gb185, 7, none⟩ = some (.int .i64 a0_7) := (blk_cell BK185.out 7).trans rfl; have hcz14_8 : w13.cell? ⟨gb185, 8, none⟩ = some (.int .i64 a0_8) := (blk_cell BK185.out 8).trans rfl; have hcz14_9 : w13.cell? ⟨gb185, 9, none⟩ = some (.int .i64 a0_9) := (blk_cell BK185.out 9).trans rfl; have hfz14_0 := blk_frozen BK185.out 0; have hfz14_1 := blk_frozen BK185.out 1; have hfz14_2 := blk_frozen BK185.out 2; have hfz14_3 := blk_frozen BK185.out 3; have hfz14_4 := blk_frozen BK185.out 4; have hfz14_5 := blk_frozen BK185.out 5; have hfz14_6 := blk_frozen BK185.out 6; have hfz14_7 := blk_frozen BK185.out 7; have hfz14_8 := blk_frozen BK185.out 8; have hfz14_9 := blk_frozen BK185.out 9) | ((with_reducible refine gate_callee (f := 16) rfl ?_); refine goesL_ (some 31) rfl rfl Try.func16 (by kernel_rfl) rfl #[.agg #[.int .i64 a0_0, .int .i64 a0_1, .int .i64 a0_2, .int .i64 a0_3, .int .i64 a0_4, .int .i64 a0_5, .int .i64 a0_6, .int .i64 a0_7, .int .i64 a0_8, .int .i64 a0_9]] rfl (by (try simp only [List.map_toArray, List.map_cons, List.map_nil]); first | done | rfl | (simp only [List.length_drop, List.length_take]; rfl)) ?_; (with_reducible refine (pylonref04_Check.calls k a0_0 a0_1 a0_2 a0_3 a0_4 a0_5 a0_6 a0_7 a0_8 a0_9 t190 _ A6.out).mono ?_); rintro e w15 ⟨rfl, hb⟩; refine ⟨_, rfl, ?_⟩; have n0_ := Aside0.mk (blk_below (g := gb185) (o := .cells #[.int .i64 a0_0, .int .i64 a0_1, .int .i64 a0_2, .int .i64 a0_3, .int .i64 a0_4, .int .i64 a0_5, .int .i64 a0_6, .int .i64 a0_7, .int .i64 a0_8, .int .i64 a0_9] 25 (0, 0)) (by (with_reducible repeat first|refine blk_drewN ?_ _|refine blk_drew ?_|refine blk_alloc ?_ _); exact BK185.out) hb); have n1_ := Aside0.mk (below_step (by repeat (first | (with_reducible first | exact HB.out | apply below_alloc | apply pw_below_drewN | apply below_drew1 | refine below_set ?_ GE185.out) | exact HB.out)) hb); clear BK185; clear HB; have BK185 := n0_; have HB := n1_; clear n0_ n1_; (try clear hb); (try clear hb2); (try clear hk); (try clear hi); have hcz16_0 : w15.cell? ⟨gb185, 0, none⟩ = some (.int .i64 a0_0) := (blk_cell BK185.out 0).trans rfl; have hcz16_1 : w15.cell? ⟨gb185, 1, none⟩ = some (.int .i64 a0_1) := (blk_cell BK185.out 1).trans rfl; have hcz16_2 : w15.cell? ⟨gb185, 2, none⟩ = some (.int .i64 a0_2) := (blk_cell BK185.out 2).trans rfl; have hcz16_3 : w15.cell? ⟨gb185, 3, none⟩ = some (.int .i64 a0_3) := (blk_cell BK185.out 3).trans rfl; have hcz16_4 : w15.cell? ⟨gb185, 4, none⟩ = some (.int .i64 a0_4) := (blk_cell BK185.out 4).trans rfl; have hcz16_5 : w15.cell? ⟨gb185, 5, none⟩ = some (.int .i64 a0_5) := (blk_cell BK185.out 5).trans rfl; have hcz16_6 : w15.cell? ⟨gb185, 6, none⟩ = some (.int .i64 a0_6) := (blk_cell BK185.out 6).trans rfl; have hcz16_7 : w15.cell? ⟨gb185, 7, none⟩ = some (.int .i64 a0_7) := (blk_cell BK185.out 7).trans rfl; have hcz16_8 : w15.cell? ⟨gb185, 8, none⟩ = some (.int .i64 a0_8) := (blk_cell BK185.out 8).trans rfl; have hcz16_9 : w15.cell? ⟨gb185, 9, none⟩ = some (.int .i64 a0_9) := (blk_cell BK185.out 9).trans rfl; have hfz16_0 := blk_frozen BK185.out 0; have hfz16_1 := blk_frozen BK185.out 1; have hfz16_2 := blk_frozen BK185.out 2; have hfz16_3 := blk_frozen BK185.out 3; have hfz16_4 := blk_frozen BK185.out 4; have hfz16_5 := blk_frozen BK185.out 5; have hfz16_6 := blk_frozen BK185.out 6; have hfz16_7 := blk_frozen BK185.out 7; have hfz16_8 := blk_frozen BK185.out 8; have hfz16_9 := blk_frozen BK185.out 9))
    (try simp only [Act.put, List.setIfInBounds_toArray, List.set_cons_zero, List.set_cons_succ])
    go_cut [4] (fun v4 wc => ∃ (kq : Nat) (x4_8 : Bool), v4 = .bool x4_8 ∧ Aside0 (pylonlaw04_ZoneTurns.j1 kq x4_8 = some r) ∧ Aside0 (kq ≤ k) ∧ Aside0 (wc.heap[gb185]? = some (.cells #[.int .i64 a0_0, .int .i64 a0_1, .int .i64 a0_2, .int .i64 a0_3, .int .i64 a0_4, .int .i64 a0_5, .int .i64 a0_6, .int .i64 a0_7, .int .i64 a0_8, .int .i64 a0_9] 25 (0, 0))) ∧ Aside0 (Below w.heap.size w wc))
    case first =>
     have H := HC9.out
     clear HC9
     by_cases c17 : t189 = 7
     ·rw [if_pos c17] at H
      have c17b0 : (t189 == 7) = true := beq_iff_eq.mpr c17
      have c17b1 : (t189 != 7) = false := bne_eq_false_iff_eq.mpr c17
      clear c17
      (first | rw [c17b0] | (simp only [i64_w, i32_w]; rw [c17b0]) | skip)
      by_cases c18 : t187 = 0
      ·rw [if_pos c18] at H
       have c18b0 : (t187 == 0) = true := beq_iff_eq.mpr c18
       have c18b1 : (t187 != 0) = false := bne_eq_false_iff_eq.mpr c18
       clear c18
       have H' := Aside0.mk H
       clear H
       go_wp2
       go_meet
       case rel => exact ⟨_, ((t188 == 0)), (by first | rfl | (simp; done) | (simp [*]; done)), H', ⟨by first | omega | exact Nat.le_refl _⟩, ⟨by (with_reducible repeat first|refine blk_drewN ?_ _|refine blk_drew ?_|refine blk_alloc ?_ _); exact BK185.out⟩, ⟨by repeat (first | (with_reducible first | exact HB.out | apply below_alloc | apply pw_below_drewN | apply below_drew1 | refine below_set ?_ GE185.out) | exact HB.out)⟩⟩
      ·rw [if_neg c18] at H
       have c18b0 : (t187 == 0) = false := beq_eq_false_iff_ne.mpr c18
       have c18b1 : (t187 != 0) = true := bne_iff_ne.mpr c18
       have H' := Aside0.mk H
       clear H
       go_wp2
       go_meet
       case rel => exact ⟨_, (false), (by first | rfl | (simp; done) | (simp [*]; done)), H', ⟨by first | omega | exact Nat.le_refl _⟩, ⟨by (with_reducible repeat first|refine blk_drewN ?_ _|refine blk_drew ?_|refine blk_alloc ?_ _); exact BK185.out⟩, ⟨by repeat (first | (with_reducible first | exact HB.out | apply below_alloc | apply pw_below_drewN | apply below_drew1 | refine below_set ?_ GE185.out) | exact HB.out)⟩⟩
     ·rw [if_neg c17] at H
      have c17b0 : (t189 == 7) = false := beq_eq_false_iff_ne.mpr c17
      have c17b1 : (t189 != 7) = true := bne_iff_ne.mpr c17
      (first | rw [c17b0] | (simp only [i64_w, i32_w]; rw [c17b0]) | skip)
      have H' := Aside0.mk H
      clear H
      go_wp2
      go_meet
      case rel => exact ⟨_, (false), (by first | rfl | (simp; done) | (simp [*]; done)), H', ⟨by first | omega | exact Nat.le_refl _⟩, ⟨by (with_reducible repeat first|refine blk_drewN ?_ _|refine blk_drew ?_|refine blk_alloc ?_ _); exact BK185.out⟩, ⟨by repeat (first | (with_reducible first | exact HB.out | apply below_alloc | apply pw_below_drewN | apply below_drew1 | refine below_set ?_ GE185.out) | exact HB.out)⟩⟩
    case rest =>
     clear HC9
     try clear c1
     try clear p2
     try clear c3
     try clear c4
     try clear p6
     try clear c7
     try clear c7b0
     try clear c7b1
     try clear c8
     try clear c8b0
     try clear c8b1
     try clear c14
     try clear c15
     try clear c16
     try clear c17
     try clear c17b0
     try clear c17b1
     try clear c18
     try clear c18b0
     try clear c18b1
     try clear hcz12_0
     try clear hcz12_1
     try clear hcz12_2
     try clear hcz12_3
     try clear hcz12_4
     try clear hcz12_5
     try clear hcz12_6
     try clear hcz12_7
     try clear hcz12_8
     try clear hcz12_9
     try clear hcz14_0
     try clear hcz14_1
     try clear hcz14_2
     try clear hcz14_3
     try clear hcz14_4
     try clear hcz14_5
     try clear hcz14_6
     try clear hcz14_7
     try clear hcz14_8
     try clear hcz14_9
     try clear hcz16_0
     try clear hcz16_1
     try clear hcz16_2
     try clear hcz16_3
     try clear hcz16_4
     try clear hcz16_5
     try clear hcz16_6
     try clear hcz16_7
     try clear hcz16_8
     try clear hcz16_9
     try clear hfz12_0
     try clear hfz12_1
     try clear hfz12_2
     try clear hfz12_3
     try clear hfz12_4
     try clear hfz12_5
     try clear hfz12_6
     try clear hfz12_7
     try clear hfz12_8
     try clear hfz12_9
     try clear hfz14_0
     try clear hfz14_1
     try clear hfz14_2
     try clear hfz14_3
     try clear hfz14_4
     try clear hfz14_5
     try clear hfz14_6
     try clear hfz14_7
     try clear hfz14_8
     try clear hfz14_9
     try clear hfz16_0
     try clear hfz16_1
     try clear hfz16_2
     try clear hfz16_3
     try clear hfz16_4
     try clear hfz16_5
     try clear hfz16_6
     try clear hfz16_7
     try clear hfz16_8
     try clear hfz16_9
     obtain ⟨kq, x4_8, rfl, HA, HJ8, BK185, HB⟩ := hcut
     cases kq with
     | zero => exact absurd HA.out (by simp [pylonlaw04_ZoneTurns.j1])
     | succ kj8 =>
      have H := HA.out
      clear HA
      simp only [pylonlaw04_ZoneTurns.j1] at H
      obtain rfl := Option.some.inj H
      go_wp2
      go_ret
      exact ⟨by first | rfl | (simp [errW_none, errW_some] <;> rfl) | (simp [*, errW_none, errW_some] <;> rfl), by repeat (first | (with_reducible first | exact HB.out | apply below_alloc | apply pw_below_drewN | apply below_drew1 | refine below_set ?_ GE185.out) | exact HB.out)⟩
   ·rw [if_neg c8] at H
    have c8b0 : (a0_1 == 0) = false := beq_eq_false_iff_ne.mpr c8
    have c8b1 : (a0_1 != 0) = true := bne_iff_ne.mpr c8
    have HC19 := Aside0.mk H
    clear H
    go_enter Try.func3, Try.ntmps3
    go_upto_region 9 with (first | ((with_reducible refine gate_dst (N := 2) rfl ?_); refine box_event ?hg (N := 2) ?hd (cs := #[.int .i64 a0_0, .int .i64 a0_1, .int .i64 a0_2, .int .i64 a0_3, .int .i64 a0_4, .int .i64 a0_5, .int .i64 a0_6, .int .i64 a0_7, .int .i64 a0_8, .int .i64 a0_9]) (t := 25) ?hr ?_; (case hd => rfl); (case hg => rfl); (case hr => first | (go_simp; done) | (go_simp; rfl)); intro gb185 hg w20 hbox hb; have n0_ := Aside0.mk (below_step (by repeat (first | (with_reducible first | exact HB.out | apply below_alloc | apply pw_below_drewN | apply below_drew1) | exact HB.out)) hb); have n1_ := Aside0.mk (hbox); have n2_ := Aside0.mk ((by rw [hg]; exact (below_size (by repeat (first | (with_reducible first | exact HB.out | apply below_alloc | apply pw_below_drewN | apply below_drew1) | exact HB.out))) : w.heap.size ≤ gb185)); have n3_ := Aside0.mk ((by rw [hg]; exact (below_size (by repeat (first | (with_reducible first | exact HB.out | apply below_alloc | apply pw_below_drewN | apply below_drew1) | exact HB.out))) : w.heap.size ≤ gb185)); clear HB; have HB := n0_; have BK185 := n1_; have GW185 := n2_; have GE185 := n3_; clear n0_ n1_ n2_ n3_; clear hb hbox hg) | ((with_reducible refine gate_callee (f := 14) rfl ?_); refine goesL_ (some 16) rfl rfl Try.func14 (by kernel_rfl) rfl #[] rfl (by (try simp only [List.map_toArray, List.map_cons, List.map_nil]); first | done | rfl | (simp only [List.length_drop, List.length_take]; rfl)) ?_; (with_reducible refine (pylonlaw04_awake.calls k  true _ A3.out).mono ?_); rintro e w21 ⟨rfl, hb⟩; refine ⟨_, rfl, ?_⟩; have n0_ := Aside0.mk (blk_below (g := gb185) (o := .cells #[.int .i64 a0_0, .int .i64 a0_1, .int .i64 a0_2, .int .i64 a0_3, .int .i64 a0_4, .int .i64 a0_5, .int .i64 a0_6, .int .i64 a0_7, .int .i64 a0_8, .int .i64 a0_9] 25 (0, 0)) (by (with_reducible repeat first|refine blk_drewN ?_ _|refine blk_drew ?_|refine blk_alloc ?_ _); exact BK185.out) hb); have n1_ := Aside0.mk (below_step (by repeat (first | (with_reducible first | exact HB.out | apply below_alloc | apply pw_below_drewN | apply below_drew1 | refine below_set ?_ GE185.out) | exact HB.out)) hb); clear BK185; clear HB; have BK185 := n0_; have HB := n1_; clear n0_ n1_; (try clear hb); (try clear hb2); (try clear hk); (try clear hi); have hcz22_0 : w21.cell? ⟨gb185, 0, none⟩ = some (.int .i64 a0_0) := (blk_cell BK185.out 0).trans rfl; have hcz22_1 : w21.cell? ⟨gb185, 1, none⟩ = some (.int .i64 a0_1) := (blk_cell BK185.out 1).trans rfl; have hcz22_2 : w21.cell? ⟨gb185, 2, none⟩ = some (.int .i64 a0_2) := (blk_cell BK185.out 2).trans rfl; have hcz22_3 : w21.cell? ⟨gb185, 3, none⟩ = some (.int .i64 a0_3) := (blk_cell BK185.out 3).trans rfl; have hcz22_4 : w21.cell? ⟨gb185, 4, none⟩ = some (.int .i64 a0_4) := (blk_cell BK185.out 4).trans rfl; have hcz22_5 : w21.cell? ⟨gb185, 5, none⟩ = some (.int .i64 a0_5) := (blk_cell BK185.out 5).trans rfl; have hcz22_6 : w21.cell? ⟨gb185, 6, none⟩ = some (.int .i64 a0_6) := (blk_cell BK185.out 6).trans rfl; have hcz22_7 : w21.cell? ⟨gb185, 7, none⟩ = some (.int .i64 a0_7) := (blk_cell BK185.out 7).trans rfl; have hcz22_8 : w21.cell? ⟨gb185, 8, none⟩ = some (.int .i64 a0_8) := (blk_cell BK185.out 8).trans rfl; have hcz22_9 : w21.cell? ⟨gb185, 9, none⟩ = some (.int .i64 a0_9) := (blk_cell BK185.out 9).trans rfl; have hfz22_0 := blk_frozen BK185.out 0; have hfz22_1 := blk_frozen BK185.out 1; have hfz22_2 := blk_frozen BK185.out 2; have hfz22_3 := blk_frozen BK185.out 3; have hfz22_4 := blk_frozen BK185.out 4; have hfz22_5 := blk_frozen BK185.out 5; have hfz22_6 := blk_frozen BK185.out 6; have hfz22_7 := blk_frozen BK185.out 7; have hfz22_8 := blk_frozen BK185.out 8; have hfz22_9 := blk_frozen BK185.out 9) | ((with_reducible refine gate_callee (f := 15) rfl ?_); refine goesL_ (some 26) rfl rfl Try.func15 (by kernel_rfl) rfl #[.agg #[.int .i64 a0_0, .int .i64 a0_1, .int .i64 a0_2, .int .i64 a0_3, .int .i64 a0_4, .int .i64 a0_5, .int .i64 a0_6, .int .i64 a0_7, .int .i64 a0_8, .int .i64 a0_9], .int .i64 (wrap64 (2 + (wrap64 (Int.tmod (IntKind.u64.wrap (a1)) 9990))))] rfl (by (try simp only [List.map_toArray, List.map_cons, List.map_nil]); first | done | rfl | (simp only [List.length_drop, List.length_take]; rfl)) ?_; (with_reducible refine (zone_Turns.calls k a0_0 a0_1 a0_2 a0_3 a0_4 a0_5 a0_6 a0_7 a0_8 a0_9 (wrap64 (2 + (wrap64 (Int.tmod (IntKind.u64.wrap (a1)) 9990)))) t187 t188 t189 _ A5.out).mono ?_); rintro e w23 ⟨rfl, hb⟩; refine ⟨_, rfl, ?_⟩; have n0_ := Aside0.mk (blk_below (g := gb185) (o := .cells #[.int .i64 a0_0, .int .i64 a0_1, .int .i64 a0_2, .int .i64 a0_3, .int .i64 a0_4, .int .i64 a0_5, .int .i64 a0_6, .int .i64 a0_7, .int .i64 a0_8, .int .i64 a0_9] 25 (0, 0)) (by (with_reducible repeat first|refine blk_drewN ?_ _|refine blk_drew ?_|refine blk_alloc ?_ _); exact BK185.out) hb); have n1_ := Aside0.mk (below_step (by repeat (first | (with_reducible first | exact HB.out | apply below_alloc | apply pw_below_drewN | apply below_drew1 | refine below_set ?_ GE185.out) | exact HB.out)) hb); clear BK185; clear HB; have BK185 := n0_; have HB := n1_; clear n0_ n1_; (try clear hb); (try clear hb2); (try clear hk); (try clear hi); have hcz24_0 : w23.cell? ⟨gb185, 0, none⟩ = some (.int .i64 a0_0) := (blk_cell BK185.out 0).trans rfl; have hcz24_1 : w23.cell? ⟨gb185, 1, none⟩ = some (.int .i64 a0_1) := (blk_cell BK185.out 1).trans rfl; have hcz24_2 : w23.cell? ⟨gb185, 2, none⟩ = some (.int .i64 a0_2) := (blk_cell BK185.out 2).trans rfl; have hcz24_3 : w23.cell? ⟨gb185, 3, none⟩ = some (.int .i64 a0_3) := (blk_cell BK185.out 3).trans rfl; have hcz24_4 : w23.cell? ⟨gb185, 4, none⟩ = some (.int .i64 a0_4) := (blk_cell BK185.out 4).trans rfl; have hcz24_5 : w23.cell? ⟨gb185, 5, none⟩ = some (.int .i64 a0_5) := (blk_cell BK185.out 5).trans rfl; have hcz24_6 : w23.cell? ⟨gb185, 6, none⟩ = some (.int .i64 a0_6) := (blk_cell BK185.out 6).trans rfl; have hcz24_7 : w23.cell? ⟨gb185, 7, none⟩ = some (.int .i64 a0_7) := (blk_cell BK185.out 7).trans rfl; have hcz24_8 : w23.cell? ⟨gb185, 8, none⟩ = some (.int .i64 a0_8) := (blk_cell BK185.out 8).trans rfl; have hcz24_9 : w23.cell? ⟨gb185, 9, none⟩ = some (.int .i64 a0_9) := (blk_cell BK185.out 9).trans rfl; have hfz24_0 := blk_frozen BK185.out 0; have hfz24_1 := blk_frozen BK185.out 1; have hfz24_2 := blk_frozen BK185.out 2; have hfz24_3 := blk_frozen BK185.out 3; have hfz24_4 := blk_frozen BK185.out 4; have hfz24_5 := blk_frozen BK185.out 5; have hfz24_6 := blk_frozen BK185.out 6; have hfz24_7 := blk_frozen BK185.out 7; have hfz24_8 := blk_frozen BK185.out 8; have hfz24_9 := blk_frozen BK185.out 9) | ((with_reducible refine gate_callee (f := 16) rfl ?_); refine goesL_ (some 31) rfl rfl Try.func16 (by kernel_rfl) rfl #[.agg #[.int .i64 a0_0, .int .i64 a0_1, .int .i64 a0_2, .int .i64 a0_3, .int .i64 a0_4, .int .i64 a0_5, .int .i64 a0_6, .int .i64 a0_7, .int .i64 a0_8, .int .i64 a0_9]] rfl (by (try simp only [List.map_toArray, List.map_cons, List.map_nil]); first | done | rfl | (simp only [List.length_drop, List.length_take]; rfl)) ?_; (with_reducible refine (pylonref04_Check.calls k a0_0 a0_1 a0_2 a0_3 a0_4 a0_5 a0_6 a0_7 a0_8 a0_9 t190 _ A6.out).mono ?_); rintro e w25 ⟨rfl, hb⟩; refine ⟨_, rfl, ?_⟩; have n0_ := Aside0.mk (blk_below (g := gb185) (o := .cells #[.int .i64 a0_0, .int .i64 a0_1, .int .i64 a0_2, .int .i64 a0_3, .int .i64 a0_4, .int .i64 a0_5, .int .i64 a0_6, .int .i64 a0_7, .int .i64 a0_8, .int .i64 a0_9] 25 (0, 0)) (by (with_reducible repeat first|refine blk_drewN ?_ _|refine blk_drew ?_|refine blk_alloc ?_ _); exact BK185.out) hb); have n1_ := Aside0.mk (below_step (by repeat (first | (with_reducible first | exact HB.out | apply below_alloc | apply pw_below_drewN | apply below_drew1 | refine below_set ?_ GE185.out) | exact HB.out)) hb); clear BK185; clear HB; have BK185 := n0_; have HB := n1_; clear n0_ n1_; (try clear hb); (try clear hb2); (try clear hk); (try clear hi); have hcz26_0 : w25.cell? ⟨gb185, 0, none⟩ = some (.int .i64 a0_0) := (blk_cell BK185.out 0).trans rfl; have hcz26_1 : w25.cell? ⟨gb185, 1, none⟩ = some (.int .i64 a0_1) := (blk_cell BK185.out 1).trans rfl; have hcz26_2 : w25.cell? ⟨gb185, 2, none⟩ = some (.int .i64 a0_2) := (blk_cell BK185.out 2).trans rfl; have hcz26_3 : w25.cell? ⟨gb185, 3, none⟩ = some (.int .i64 a0_3) := (blk_cell BK185.out 3).trans rfl; have hcz26_4 : w25.cell? ⟨gb185, 4, none⟩ = some (.int .i64 a0_4) := (blk_cell BK185.out 4).trans rfl; have hcz26_5 : w25.cell? ⟨gb185, 5, none⟩ = some (.int .i64 a0_5) := (blk_cell BK185.out 5).trans rfl; have hcz26_6 : w25.cell? ⟨gb185, 6, none⟩ = some (.int .i64 a0_6) := (blk_cell BK185.out 6).trans rfl; have hcz26_7 : w25.cell? ⟨gb185, 7, none⟩ = some (.int .i64 a0_7) := (blk_cell BK185.out 7).trans rfl; have hcz26_8 : w25.cell? ⟨gb185, 8, none⟩ = some (.int .i64 a0_8) := (blk_cell BK185.out 8).trans rfl; have hcz26_9 : w25.cell? ⟨gb185, 9, none⟩ = some (.int .i64 a0_9) := (blk_cell BK185.out 9).trans rfl; have hfz26_0 := blk_frozen BK185.out 0; have hfz26_1 := blk_frozen BK185.out 1; have hfz26_2 := blk_frozen BK185.out 2; have hfz26_3 := blk_frozen BK185.out 3; have hfz26_4 := blk_frozen BK185.out 4; have hfz26_5 := blk_frozen BK185.out 5; have hfz26_6 := blk_frozen BK185.out 6; have hfz26_7 := blk_frozen BK185.out 7; have hfz26_8 := blk_frozen BK185.out 8; have hfz26_9 := blk_frozen BK185.out 9))
    (try simp only [Act.put, List.setIfInBounds_toArray, List.set_cons_zero, List.set_cons_succ])
    go_cut [62] (fun v62 wc => ∃ (kq : Nat) (x62_18 : Bool), v62 = .bool x62_18 ∧ Aside0 (pylonlaw04_ZoneTurns.j2 kq t187 t188 x62_18 a0_0 a0_1 a0_2 a0_3 a0_4 a0_5 a0_6 a0_7 a0_8 a0_9 = some r) ∧ Aside0 (kq ≤ k) ∧ Aside0 (wc.heap[gb185]? = some (.cells #[.int .i64 a0_0, .int .i64 a0_1, .int .i64 a0_2, .int .i64 a0_3, .int .i64 a0_4, .int .i64 a0_5, .int .i64 a0_6, .int .i64 a0_7, .int .i64 a0_8, .int .i64 a0_9] 25 (0, 0))) ∧ Aside0 (Below w.heap.size w wc))
    case first =>
     have H := HC19.out
     clear HC19
     by_cases c27 : t189 = 0
     ·rw [if_pos c27] at H
      have c27b0 : (t189 == 0) = true := beq_iff_eq.mpr c27
      have c27b1 : (t189 != 0) = false := bne_eq_false_iff_eq.mpr c27
      clear c27
      (first | rw [c27b0] | (simp only [i64_w, i32_w]; rw [c27b0]) | skip)
      have H' := Aside0.mk H
      clear H
      go_wp2
      go_meet
      case rel => exact ⟨_, ((t187 == t188)), (by first | rfl | (simp; done) | (simp [*]; done)), H', ⟨by first | omega | exact Nat.le_refl _⟩, ⟨by (with_reducible repeat first|refine blk_drewN ?_ _|refine blk_drew ?_|refine blk_alloc ?_ _); exact BK185.out⟩, ⟨by repeat (first | (with_reducible first | exact HB.out | apply below_alloc | apply pw_below_drewN | apply below_drew1 | refine below_set ?_ GE185.out) | exact HB.out)⟩⟩
     ·rw [if_neg c27] at H
      have c27b0 : (t189 == 0) = false := beq_eq_false_iff_ne.mpr c27
      have c27b1 : (t189 != 0) = true := bne_iff_ne.mpr c27
      (first | rw [c27b0] | (simp only [i64_w, i32_w]; rw [c27b0]) | skip)
      have H' := Aside0.mk H
      clear H
      go_wp2
      go_meet
      case rel => exact ⟨_, (true), (by first | rfl | (simp; done) | (simp [*]; done)), H', ⟨by first | omega | exact Nat.le_refl _⟩, ⟨by (with_reducible repeat first|refine blk_drewN ?_ _|refine blk_drew ?_|refine blk_alloc ?_ _); exact BK185.out⟩, ⟨by repeat (first | (with_reducible first | exact HB.out | apply below_alloc | apply pw_below_drewN | apply below_drew1 | refine below_set ?_ GE185.out) | exact HB.out)⟩⟩
    case rest =>
     clear HC19
     try clear c1
     try clear c2
     try clear p2
     try clear c3
     try clear c4
     try clear p6
     try clear c7
     try clear c7b0
     try clear c7b1
     try clear c8
     try clear c8b0
     try clear c8b1
     try clear c14
     try clear c15
     try clear c16
     try clear c17
     try clear c17b0
     try clear c17b1
     try clear c18
     try clear c18b0
     try clear c18b1
     try clear c27
     try clear c27b0
     try clear c27b1
     try clear hcz12_0
     try clear hcz12_1
     try clear hcz12_2
     try clear hcz12_3
     try clear hcz12_4
     try clear hcz12_5
     try clear hcz12_6
     try clear hcz12_7
     try clear hcz12_8
     try clear hcz12_9
     try clear hcz14_0
     try clear hcz14_1
     try clear hcz14_2
     try clear hcz14_3
     try clear hcz14_4
     try clear hcz14_5
     try clear hcz14_6
     try clear hcz14_7
     try clear hcz14_8
     try clear hcz14_9
     try clear hcz16_0
     try clear hcz16_1
     try clear hcz16_2
     try clear hcz16_3
     try clear hcz16_4
     try clear hcz16_5
     try clear hcz16_6
     try clear hcz16_7
     try clear hcz16_8
     try clear hcz16_9
     try clear hcz22_0
     try clear hcz22_1
     try clear hcz22_2
     try clear hcz22_3
     try clear hcz22_4
     try clear hcz22_5
     try clear hcz22_6
     try clear hcz22_7
     try clear hcz22_8
     try clear hcz22_9
     try clear hcz24_0
     try clear hcz24_1
     try clear hcz24_2
     try clear hcz24_3
     try clear hcz24_4
     try clear hcz24_5
     try clear hcz24_6
     try clear hcz24_7
     try clear hcz24_8
     try clear hcz24_9
     try clear hcz26_0
     try clear hcz26_1
     try clear hcz26_2
     try clear hcz26_3
     try clear hcz26_4
     try clear hcz26_5
     try clear hcz26_6
     try clear hcz26_7
     try clear hcz26_8
     try clear hcz26_9
     try clear hfz12_0
     try clear hfz12_1
     try clear hfz12_2
     try clear hfz12_3
     try clear hfz12_4
     try clear hfz12_5
     try clear hfz12_6
     try clear hfz12_7
     try clear hfz12_8
     try clear hfz12_9
     try clear hfz14_0
     try clear hfz14_1
     try clear hfz14_2
     try clear hfz14_3
     try clear hfz14_4
     try clear hfz14_5
     try clear hfz14_6
     try clear hfz14_7
     try clear hfz14_8
     try clear hfz14_9
     try clear hfz16_0
     try clear hfz16_1
     try clear hfz16_2
     try clear hfz16_3
     try clear hfz16_4
     try clear hfz16_5
     try clear hfz16_6
     try clear hfz16_7
     try clear hfz16_8
     try clear hfz16_9
     try clear hfz22_0
     try clear hfz22_1
     try clear hfz22_2
     try clear hfz22_3
     try clear hfz22_4
     try clear hfz22_5
     try clear hfz22_6
     try clear hfz22_7
     try clear hfz22_8
     try clear hfz22_9
     try clear hfz24_0
     try clear hfz24_1
     try clear hfz24_2
     try clear hfz24_3
     try clear hfz24_4
     try clear hfz24_5
     try clear hfz24_6
     try clear hfz24_7
     try clear hfz24_8
     try clear hfz24_9
     try clear hfz26_0
     try clear hfz26_1
     try clear hfz26_2
     try clear hfz26_3
     try clear hfz26_4
     try clear hfz26_5
     try clear hfz26_6
     try clear hfz26_7
     try clear hfz26_8
     try clear hfz26_9
     try clear p2
     try clear p6
     obtain ⟨kq, x62_18, rfl, HA, HJ18, BK185, HB⟩ := hcut
     cases kq with
     | zero => exact absurd HA.out (by simp [pylonlaw04_ZoneTurns.j2])
     | succ kj18 =>
      have H := HA.out
      clear HA
      simp only [pylonlaw04_ZoneTurns.j2] at H
      by_cases c28 : x62_18 = true
      ·subst c28
       have H1 : (some false) = some r := by rw [if_pos rfl] at H; exact H
       clear H
       have H := H1
       clear H1
       obtain rfl := Option.some.inj H
       go_wp2
       go_ret
       exact ⟨by first | rfl | (simp [errW_none, errW_some] <;> rfl) | (simp [*, errW_none, errW_some] <;> rfl), by repeat (first | (with_reducible first | exact HB.out | apply below_alloc | apply pw_below_drewN | apply below_drew1 | refine below_set ?_ GE185.out) | exact HB.out)⟩
      ·replace c28 := Bool.eq_false_iff.mpr c28
       subst c28
       have H1 : ((zone_At.f kj18 a0_0 a0_1 a0_2 a0_3 a0_4 a0_5 a0_6 a0_7 a0_8 a0_9 (wrap64 (t187 - 1))).bind fun bt191 => ((zone_At.f kj18 a0_0 a0_1 a0_2 a0_3 a0_4 a0_5 a0_6 a0_7 a0_8 a0_9 t187).bind fun bt198 => ((zone_At.f kj18 a0_0 a0_1 a0_2 a0_3 a0_4 a0_5 a0_6 a0_7 a0_8 a0_9 (wrap64 (t188 - 1))).bind fun bt205 => ((zone_At.f kj18 a0_0 a0_1 a0_2 a0_3 a0_4 a0_5 a0_6 a0_7 a0_8 a0_9 t188).bind fun bt212 => (if bt191.2.2.2.2.2 = 0 then (if bt198.2.2.2.2.2 = 0 then (if bt205.2.2.2.2.2 = 0 then (pylonlaw04_ZoneTurns.j3 kj18 (bt212.2.2.2.2.2 != 0) a0_0 a0_1 a0_2 a0_3 a0_4 a0_5 a0_6 a0_7 a0_8 a0_9 bt191.1 bt191.2.1 bt191.2.2.1 bt191.2.2.2.1 bt191.2.2.2.2.1 bt198.1 bt198.2.1 bt198.2.2.1 bt198.2.2.2.1 bt198.2.2.2.2.1 bt205.1 bt205.2.1 bt205.2.2.1 bt205.2.2.2.1 bt205.2.2.2.2.1 bt212.1 bt212.2.1 bt212.2.2.1 bt212.2.2.2.1 bt212.2.2.2.2.1) else (pylonlaw04_ZoneTurns.j3 kj18 true a0_0 a0_1 a0_2 a0_3 a0_4 a0_5 a0_6 a0_7 a0_8 a0_9 bt191.1 bt191.2.1 bt191.2.2.1 bt191.2.2.2.1 bt191.2.2.2.2.1 bt198.1 bt198.2.1 bt198.2.2.1 bt198.2.2.2.1 bt198.2.2.2.2.1 bt205.1 bt205.2.1 bt205.2.2.1 bt205.2.2.2.1 bt205.2.2.2.2.1 bt212.1 bt212.2.1 bt212.2.2.1 bt212.2.2.2.1 bt212.2.2.2.2.1)) else (pylonlaw04_ZoneTurns.j3 kj18 true a0_0 a0_1 a0_2 a0_3 a0_4 a0_5 a0_6 a0_7 a0_8 a0_9 bt191.1 bt191.2.1 bt191.2.2.1 bt191.2.2.2.1 bt191.2.2.2.2.1 bt198.1 bt198.2.1 bt198.2.2.1 bt198.2.2.2.1 bt198.2.2.2.2.1 bt205.1 bt205.2.1 bt205.2.2.1 bt205.2.2.2.1 bt205.2.2.2.2.1 bt212.1 bt212.2.1 bt212.2.2.1 bt212.2.2.2.1 bt212.2.2.2.2.1)) else (pylonlaw04_ZoneTurns.j3 kj18 true a0_0 a0_1 a0_2 a0_3 a0_4 a0_5 a0_6 a0_7 a0_8 a0_9 bt191.1 bt191.2.1 bt191.2.2.1 bt191.2.2.2.1 bt191.2.2.2.2.1 bt198.1 bt198.2.1 bt198.2.2.1 bt198.2.2.2.1 bt198.2.2.2.2.1 bt205.1 bt205.2.1 bt205.2.2.1 bt205.2.2.2.1 bt205.2.2.2.2.1 bt212.1 bt212.2.1 bt212.2.2.1 bt212.2.2.2.1 bt212.2.2.2.2.1)))))) = some r := by rw [if_neg (show ¬ (false = true) by decide)] at H; exact H
       clear H
       have H := H1
       clear H1
       replace H := Option.bind_eq_some_iff.mp H
       obtain ⟨⟨t191, t192, t193, t194, t195, t196⟩, A290, H⟩ := H
       replace H : ((zone_At.f kj18 a0_0 a0_1 a0_2 a0_3 a0_4 a0_5 a0_6 a0_7 a0_8 a0_9 t187).bind fun bt198 => ((zone_At.f kj18 a0_0 a0_1 a0_2 a0_3 a0_4 a0_5 a0_6 a0_7 a0_8 a0_9 (wrap64 (t188 - 1))).bind fun bt205 => ((zone_At.f kj18 a0_0 a0_1 a0_2 a0_3 a0_4 a0_5 a0_6 a0_7 a0_8 a0_9 t188).bind fun bt212 => (if t196 = 0 then (if bt198.2.2.2.2.2 = 0 then (if bt205.2.2.2.2.2 = 0 then (pylonlaw04_ZoneTurns.j3 kj18 (bt212.2.2.2.2.2 != 0) a0_0 a0_1 a0_2 a0_3 a0_4 a0_5 a0_6 a0_7 a0_8 a0_9 t191 t192 t193 t194 t195 bt198.1 bt198.2.1 bt198.2.2.1 bt198.2.2.2.1 bt198.2.2.2.2.1 bt205.1 bt205.2.1 bt205.2.2.1 bt205.2.2.2.1 bt205.2.2.2.2.1 bt212.1 bt212.2.1 bt212.2.2.1 bt212.2.2.2.1 bt212.2.2.2.2.1) else (pylonlaw04_ZoneTurns.j3 kj18 true a0_0 a0_1 a0_2 a0_3 a0_4 a0_5 a0_6 a0_7 a0_8 a0_9 t191 t192 t193 t194 t195 bt198.1 bt198.2.1 bt198.2.2.1 bt198.2.2.2.1 bt198.2.2.2.2.1 bt205.1 bt205.2.1 bt205.2.2.1 bt205.2.2.2.1 bt205.2.2.2.2.1 bt212.1 bt212.2.1 bt212.2.2.1 bt212.2.2.2.1 bt212.2.2.2.2.1)) else (pylonlaw04_ZoneTurns.j3 kj18 true a0_0 a0_1 a0_2 a0_3 a0_4 a0_5 a0_6 a0_7 a0_8 a0_9 t191 t192 t193 t194 t195 bt198.1 bt198.2.1 bt198.2.2.1 bt198.2.2.2.1 bt198.2.2.2.2.1 bt205.1 bt205.2.1 bt205.2.2.1 bt205.2.2.2.1 bt205.2.2.2.2.1 bt212.1 bt212.2.1 bt212.2.2.1 bt212.2.2.2.1 bt212.2.2.2.2.1)) else (pylonlaw04_ZoneTurns.j3 kj18 true a0_0 a0_1 a0_2 a0_3 a0_4 a0_5 a0_6 a0_7 a0_8 a0_9 t191 t192 t193 t194 t195 bt198.1 bt198.2.1 bt198.2.2.1 bt198.2.2.2.1 bt198.2.2.2.2.1 bt205.1 bt205.2.1 bt205.2.2.1 bt205.2.2.2.1 bt205.2.2.2.2.1 bt212.1 bt212.2.1 bt212.2.2.1 bt212.2.2.2.1 bt212.2.2.2.2.1))))) = some r := H
       have A29 := Aside0.mk A290
       clear A290
       replace H := Option.bind_eq_some_iff.mp H
       obtain ⟨⟨t198, t199, t200, t201, t202, t203⟩, A300, H⟩ := H
       replace H : ((zone_At.f kj18 a0_0 a0_1 a0_2 a0_3 a0_4 a0_5 a0_6 a0_7 a0_8 a0_9 (wrap64 (t188 - 1))).bind fun bt205 => ((zone_At.f kj18 a0_0 a0_1 a0_2 a0_3 a0_4 a0_5 a0_6 a0_7 a0_8 a0_9 t188).bind fun bt212 => (if t196 = 0 then (if t203 = 0 then (if bt205.2.2.2.2.2 = 0 then (pylonlaw04_ZoneTurns.j3 kj18 (bt212.2.2.2.2.2 != 0) a0_0 a0_1 a0_2 a0_3 a0_4 a0_5 a0_6 a0_7 a0_8 a0_9 t191 t192 t193 t194 t195 t198 t199 t200 t201 t202 bt205.1 bt205.2.1 bt205.2.2.1 bt205.2.2.2.1 bt205.2.2.2.2.1 bt212.1 bt212.2.1 bt212.2.2.1 bt212.2.2.2.1 bt212.2.2.2.2.1) else (pylonlaw04_ZoneTurns.j3 kj18 true a0_0 a0_1 a0_2 a0_3 a0_4 a0_5 a0_6 a0_7 a0_8 a0_9 t191 t192 t193 t194 t195 t198 t199 t200 t201 t202 bt205.1 bt205.2.1 bt205.2.2.1 bt205.2.2.2.1 bt205.2.2.2.2.1 bt212.1 bt212.2.1 bt212.2.2.1 bt212.2.2.2.1 bt212.2.2.2.2.1)) else (pylonlaw04_ZoneTurns.j3 kj18 true a0_0 a0_1 a0_2 a0_3 a0_4 a0_5 a0_6 a0_7 a0_8 a0_9 t191 t192 t193 t194 t195 t198 t199 t200 t201 t202 bt205.1 bt205.2.1 bt205.2.2.1 bt205.2.2.2.1 bt205.2.2.2.2.1 bt212.1 bt212.2.1 bt212.2.2.1 bt212.2.2.2.1 bt212.2.2.2.2.1)) else (pylonlaw04_ZoneTurns.j3 kj18 true a0_0 a0_1 a0_2 a0_3 a0_4 a0_5 a0_6 a0_7 a0_8 a0_9 t191 t192 t193 t194 t195 t198 t199 t200 t201 t202 bt205.1 bt205.2.1 bt205.2.2.1 bt205.2.2.2.1 bt205.2.2.2.2.1 bt212.1 bt212.2.1 bt212.2.2.1 bt212.2.2.2.1 bt212.2.2.2.2.1)))) = some r := H
       have A30 := Aside0.mk A300
       clear A300
       replace H := Option.bind_eq_some_iff.mp H
       obtain ⟨⟨t205, t206, t207, t208, t209, t210⟩, A310, H⟩ := H
       replace H : ((zone_At.f kj18 a0_0 a0_1 a0_2 a0_3 a0_4 a0_5 a0_6 a0_7 a0_8 a0_9 t188).bind fun bt212 => (if t196 = 0 then (if t203 = 0 then (if t210 = 0 then (pylonlaw04_ZoneTurns.j3 kj18 (bt212.2.2.2.2.2 != 0) a0_0 a0_1 a0_2 a0_3 a0_4 a0_5 a0_6 a0_7 a0_8 a0_9 t191 t192 t193 t194 t195 t198 t199 t200 t201 t202 t205 t206 t207 t208 t209 bt212.1 bt212.2.1 bt212.2.2.1 bt212.2.2.2.1 bt212.2.2.2.2.1) else (pylonlaw04_ZoneTurns.j3 kj18 true a0_0 a0_1 a0_2 a0_3 a0_4 a0_5 a0_6 a0_7 a0_8 a0_9 t191 t192 t193 t194 t195 t198 t199 t200 t201 t202 t205 t206 t207 t208 t209 bt212.1 bt212.2.1 bt212.2.2.1 bt212.2.2.2.1 bt212.2.2.2.2.1)) else (pylonlaw04_ZoneTurns.j3 kj18 true a0_0 a0_1 a0_2 a0_3 a0_4 a0_5 a0_6 a0_7 a0_8 a0_9 t191 t192 t193 t194 t195 t198 t199 t200 t201 t202 t205 t206 t207 t208 t209 bt212.1 bt212.2.1 bt212.2.2.1 bt212.2.2.2.1 bt212.2.2.2.2.1)) else (pylonlaw04_ZoneTurns.j3 kj18 true a0_0 a0_1 a0_2 a0_3 a0_4 a0_5 a0_6 a0_7 a0_8 a0_9 t191 t192 t193 t194 t195 t198 t199 t200 t201 t202 t205 t206 t207 t208 t209 bt212.1 bt212.2.1 bt212.2.2.1 bt212.2.2.2.1 bt212.2.2.2.2.1))) = some r := H
       have A31 := Aside0.mk A310
       clear A310
       replace H := Option.bind_eq_some_iff.mp H
       obtain ⟨⟨t212, t213, t214, t215, t216, t217⟩, A320, H⟩ := H
       replace H : (if t196 = 0 then (if t203 = 0 then (if t210 = 0 then (pylonlaw04_ZoneTurns.j3 kj18 (t217 != 0) a0_0 a0_1 a0_2 a0_3 a0_4 a0_5 a0_6 a0_7 a0_8 a0_9 t191 t192 t193 t194 t195 t198 t199 t200 t201 t202 t205 t206 t207 t208 t209 t212 t213 t214 t215 t216) else (pylonlaw04_ZoneTurns.j3 kj18 true a0_0 a0_1 a0_2 a0_3 a0_4 a0_5 a0_6 a0_7 a0_8 a0_9 t191 t192 t193 t194 t195 t198 t199 t200 t201 t202 t205 t206 t207 t208 t209 t212 t213 t214 t215 t216)) else (pylonlaw04_ZoneTurns.j3 kj18 true a0_0 a0_1 a0_2 a0_3 a0_4 a0_5 a0_6 a0_7 a0_8 a0_9 t191 t192 t193 t194 t195 t198 t199 t200 t201 t202 t205 t206 t207 t208 t209 t212 t213 t214 t215 t216)) else (pylonlaw04_ZoneTurns.j3 kj18 true a0_0 a0_1 a0_2 a0_3 a0_4 a0_5 a0_6 a0_7 a0_8 a0_9 t191 t192 t193 t194 t195 t198 t199 t200 t201 t202 t205 t206 t207 t208 t209 t212 t213 t214 t215 t216)) = some r := H
       have A32 := Aside0.mk A320
       clear A320
       have HC33 := Aside0.mk H
       clear H
       have hcz34_0 : wc.cell? ⟨gb185, 0, none⟩ = some (.int .i64 a0_0) := (blk_cell BK185.out 0).trans rfl
       have hcz34_1 : wc.cell? ⟨gb185, 1, none⟩ = some (.int .i64 a0_1) := (blk_cell BK185.out 1).trans rfl
       have hcz34_2 : wc.cell? ⟨gb185, 2, none⟩ = some (.int .i64 a0_2) := (blk_cell BK185.out 2).trans rfl
       have hcz34_3 : wc.cell? ⟨gb185, 3, none⟩ = some (.int .i64 a0_3) := (blk_cell BK185.out 3).trans rfl
       have hcz34_4 : wc.cell? ⟨gb185, 4, none⟩ = some (.int .i64 a0_4) := (blk_cell BK185.out 4).trans rfl
       have hcz34_5 : wc.cell? ⟨gb185, 5, none⟩ = some (.int .i64 a0_5) := (blk_cell BK185.out 5).trans rfl
       have hcz34_6 : wc.cell? ⟨gb185, 6, none⟩ = some (.int .i64 a0_6) := (blk_cell BK185.out 6).trans rfl
       have hcz34_7 : wc.cell? ⟨gb185, 7, none⟩ = some (.int .i64 a0_7) := (blk_cell BK185.out 7).trans rfl
       have hcz34_8 : wc.cell? ⟨gb185, 8, none⟩ = some (.int .i64 a0_8) := (blk_cell BK185.out 8).trans rfl
       have hcz34_9 : wc.cell? ⟨gb185, 9, none⟩ = some (.int .i64 a0_9) := (blk_cell BK185.out 9).trans rfl
       have hfz34_0 := blk_frozen BK185.out 0
       have hfz34_1 := blk_frozen BK185.out 1
       have hfz34_2 := blk_frozen BK185.out 2
       have hfz34_3 := blk_frozen BK185.out 3
       have hfz34_4 := blk_frozen BK185.out 4
       have hfz34_5 := blk_frozen BK185.out 5
       have hfz34_6 := blk_frozen BK185.out 6
       have hfz34_7 := blk_frozen BK185.out 7
       have hfz34_8 := blk_frozen BK185.out 8
       have hfz34_9 := blk_frozen BK185.out 9
       go_upto_region 15 with (first | ((with_reducible refine gate_callee (f := 17) rfl ?_); refine goesL_ (some 67) rfl rfl Try.func17 (by kernel_rfl) rfl #[.agg #[.int .i64 a0_0, .int .i64 a0_1, .int .i64 a0_2, .int .i64 a0_3, .int .i64 a0_4, .int .i64 a0_5, .int .i64 a0_6, .int .i64 a0_7, .int .i64 a0_8, .int .i64 a0_9], .int .i64 (wrap64 (t187 - 1))] rfl (by (try simp only [List.map_toArray, List.map_cons, List.map_nil]); first | done | rfl | (simp only [List.length_drop, List.length_take]; rfl)) ?_; (with_reducible refine (zone_At.calls kj18 a0_0 a0_1 a0_2 a0_3 a0_4 a0_5 a0_6 a0_7 a0_8 a0_9 (wrap64 (t187 - 1)) t191 t192 t193 t194 t195 t196 _ A29.out).mono ?_); rintro e w35 ⟨rfl, hb⟩; refine ⟨_, rfl, ?_⟩; have n0_ := Aside0.mk (blk_below (g := gb185) (o := .cells #[.int .i64 a0_0, .int .i64 a0_1, .int .i64 a0_2, .int .i64 a0_3, .int .i64 a0_4, .int .i64 a0_5, .int .i64 a0_6, .int .i64 a0_7, .int .i64 a0_8, .int .i64 a0_9] 25 (0, 0)) (by (with_reducible repeat first|refine blk_drewN ?_ _|refine blk_drew ?_|refine blk_alloc ?_ _); exact BK185.out) hb); have n1_ := Aside0.mk (below_step (by repeat (first | (with_reducible first | exact HB.out | apply below_alloc | apply pw_below_drewN | apply below_drew1 | refine below_set ?_ GE185.out) | exact HB.out)) hb); clear BK185; clear HB; have BK185 := n0_; have HB := n1_; clear n0_ n1_; (try clear hb); (try clear hb2); (try clear hk); (try clear hi)) | ((with_reducible refine gate_dst (N := 8) rfl ?_); refine box_event ?hg (N := 8) ?hd (cs := #[.int .i64 0, .int .i64 0, .int .i64 0, .int .i64 0, .int .i64 0]) (t := 35) ?hr ?_; (case hd => rfl); (case hg => rfl); (case hr => first | (go_simp; done) | (go_simp; rfl)); intro gb197 hg w36 hbox hb; have n0_ := Aside0.mk (blk_below (g := gb185) (o := .cells #[.int .i64 a0_0, .int .i64 a0_1, .int .i64 a0_2, .int .i64 a0_3, .int .i64 a0_4, .int .i64 a0_5, .int .i64 a0_6, .int .i64 a0_7, .int .i64 a0_8, .int .i64 a0_9] 25 (0, 0)) (by (with_reducible repeat first|refine blk_drewN ?_ _|refine blk_drew ?_|refine blk_alloc ?_ _); exact BK185.out) hb); have n1_ := Aside0.mk (below_step (by repeat (first | (with_reducible first | exact HB.out | apply below_alloc | apply pw_below_drewN | apply below_drew1 | refine below_set ?_ GE185.out) | exact HB.out)) hb); have n2_ := Aside0.mk (hbox); have n3_ := Aside0.mk ((by rw [hg]; exact (below_size (by repeat (first | (with_reducible first | exact HB.out | apply below_alloc | apply pw_below_drewN | apply below_drew1 | refine below_set ?_ GE185.out) | exact HB.out))) : w.heap.size ≤ gb197)); have n4_ := Aside0.mk ((by rw [hg]; exact (below_size (by repeat (first | (with_reducible first | exact HB.out | apply below_alloc | apply pw_below_drewN | apply below_drew1 | refine below_set ?_ GE185.out) | exact HB.out))) : w.heap.size ≤ gb197)); have n5_ := Aside0.mk ((by rw [hg]; exact Nat.ne_of_lt (blk_lt (g := gb185) (o := .cells #[.int .i64 a0_0, .int .i64 a0_1, .int .i64 a0_2, .int .i64 a0_3, .int .i64 a0_4, .int .i64 a0_5, .int .i64 a0_6, .int .i64 a0_7, .int .i64 a0_8, .int .i64 a0_9] 25 (0, 0)) (by (with_reducible repeat first|refine blk_drewN ?_ _|refine blk_drew ?_|refine blk_alloc ?_ _); exact BK185.out)) : gb185 ≠ gb197)); have n6_ := Aside0.mk ((by rw [hg]; exact Nat.ne_of_gt (blk_lt (g := gb185) (o := .cells #[.int .i64 a0_0, .int .i64 a0_1, .int .i64 a0_2, .int .i64 a0_3, .int .i64 a0_4, .int .i64 a0_5, .int .i64 a0_6, .int .i64 a0_7, .int .i64 a0_8, .int .i64 a0_9] 25 (0, 0)) (by (with_reducible repeat first|refine blk_drewN ?_ _|refine blk_drew ?_|refine blk_alloc ?_ _); exact BK185.out)) : gb197 ≠ gb185)); clear BK185; clear HB; have BK185 := n0_; have HB := n1_; have BK197 := n2_; have GW197 := n3_; have GE197 := n4_; have NB185_197 := n5_; have NB197_185 := n6_; clear n0_ n1_ n2_ n3_ n4_ n5_ n6_; clear hb hbox hg; have hnb37 := NB197_185.out; have hnc37 := NB185_197.out; have hcz38_0 : w36.cell? ⟨gb197, 0, none⟩ = some (.int .i64 0) := (blk_cell BK197.out 0).trans rfl; have hcz38_1 : w36.cell? ⟨gb197, 1, none⟩ = some (.int .i64 0) := (blk_cell BK197.out 1).trans rfl; have hcz38_2 : w36.cell? ⟨gb197, 2, none⟩ = some (.int .i64 0) := (blk_cell BK197.out 2).trans rfl; have hcz38_3 : w36.cell? ⟨gb197, 3, none⟩ = some (.int .i64 0) := (blk_cell BK197.out 3).trans rfl; have hcz38_4 : w36.cell? ⟨gb197, 4, none⟩ = some (.int .i64 0) := (blk_cell BK197.out 4).trans rfl; have hfz38_0 := blk_frozen BK197.out 0; have hfz38_1 := blk_frozen BK197.out 1; have hfz38_2 := blk_frozen BK197.out 2; have hfz38_3 := blk_frozen BK197.out 3; have hfz38_4 := blk_frozen BK197.out 4; have hcz39_0 : w36.cell? ⟨gb185, 0, none⟩ = some (.int .i64 a0_0) := (blk_cell BK185.out 0).trans rfl; have hcz39_1 : w36.cell? ⟨gb185, 1, none⟩ = some (.int .i64 a0_1) := (blk_cell BK185.out 1).trans rfl; have hcz39_2 : w36.cell? ⟨gb185, 2, none⟩ = some (.int .i64 a0_2) := (blk_cell BK185.out 2).trans rfl; have hcz39_3 : w36.cell? ⟨gb185, 3, none⟩ = some (.int .i64 a0_3) := (blk_cell BK185.out 3).trans rfl; have hcz39_4 : w36.cell? ⟨gb185, 4, none⟩ = some (.int .i64 a0_4) := (blk_cell BK185.out 4).trans rfl; have hcz39_5 : w36.cell? ⟨gb185, 5, none⟩ = some (.int .i64 a0_5) := (blk_cell BK185.out 5).trans rfl; have hcz39_6 : w36.cell? ⟨gb185, 6, none⟩ = some (.int .i64 a0_6) := (blk_cell BK185.out 6).trans rfl; have hcz39_7 : w36.cell? ⟨gb185, 7, none⟩ = some (.int .i64 a0_7) := (blk_cell BK185.out 7).trans rfl; have hcz39_8 : w36.cell? ⟨gb185, 8, none⟩ = some (.int .i64 a0_8) := (blk_cell BK185.out 8).trans rfl; have hcz39_9 : w36.cell? ⟨gb185, 9, none⟩ = some (.int .i64 a0_9) := (blk_cell BK185.out 9).trans rfl; have hfz39_0 := blk_frozen BK185.out 0; have hfz39_1 := blk_frozen BK185.out 1; have hfz39_2 := blk_frozen BK185.out 2; have hfz39_3 := blk_frozen BK185.out 3; have hfz39_4 := blk_frozen BK185.out 4; have hfz39_5 := blk_frozen BK185.out 5; have hfz39_6 := blk_frozen BK185.out 6; have hfz39_7 := blk_frozen BK185.out 7; have hfz39_8 := blk_frozen BK185.out 8; have hfz39_9 := blk_frozen BK185.out 9) | ((with_reducible refine gate_callee (f := 17) rfl ?_); refine goesL_ (some 73) rfl rfl Try.func17 (by kernel_rfl) rfl #[.agg #[.int .i64 a0_0, .int .i64 a0_1, .int .i64 a0_2, .int .i64 a0_3, .int .i64 a0_4, .int .i64 a0_5, .int .i64 a0_6, .int .i64 a0_7, .int .i64 a0_8, .int .i64 a0_9], .int .i64 t187] rfl (by (try simp only [List.map_toArray, List.map_cons, List.map_nil]); first | done | rfl | (simp only [List.length_drop, List.length_take]; rfl)) ?_; (with_reducible refine (zone_At.calls kj18 a0_0 a0_1 a0_2 a0_3 a0_4 a0_5 a0_6 a0_7 a0_8 a0_9 t187 t198 t199 t200 t201 t202 t203 _ A30.out).mono ?_); rintro e w40 ⟨rfl, hb⟩; refine ⟨_, rfl, ?_⟩; have n0_ := Aside0.mk (blk_below (g := gb185) (o := .cells #[.int .i64 a0_0, .int .i64 a0_1, .int .i64 a0_2, .int .i64 a0_3, .int .i64 a0_4, .int .i64 a0_5, .int .i64 a0_6, .int .i64 a0_7, .int .i64 a0_8, .int .i64 a0_9] 25 (0, 0)) (by (with_reducible repeat first|refine blk_drewN ?_ _|refine blk_drew ?_|refine blk_alloc ?_ _); refine blk_far ?_ NB185_197.out _; (with_reducible repeat first|refine blk_drewN ?_ _|refine blk_drew ?_|refine blk_alloc ?_ _); refine blk_far ?_ NB185_197.out _; (with_reducible repeat first|refine blk_drewN ?_ _|refine blk_drew ?_|refine blk_alloc ?_ _); refine blk_far ?_ NB185_197.out _; (with_reducible repeat first|refine blk_drewN ?_ _|refine blk_drew ?_|refine blk_alloc ?_ _); refine blk_far ?_ NB185_197.out _; (with_reducible repeat first|refine blk_drewN ?_ _|refine blk_drew ?_|refine blk_alloc ?_ _); refine blk_far ?_ NB185_197.out _; (with_reducible repeat first|refine blk_drewN ?_ _|refine blk_drew ?_|refine blk_alloc ?_ _); exact BK185.out) hb); have n1_ := Aside0.mk (blk_below (g := gb197) (o := .cells #[.int .i64 t191, .int .i64 t192, .int .i64 t193, .int .i64 t194, .int .i64 t195] 35 (0, 0)) (by (with_reducible repeat first|refine blk_drewN ?_ _|refine blk_drew ?_|refine blk_alloc ?_ _); refine blk_put (cs := #[.int .i64 t191, .int .i64 t192, .int .i64 t193, .int .i64 t194, .int .i64 0]) ?_ 4 _ rfl; (with_reducible repeat first|refine blk_drewN ?_ _|refine blk_drew ?_|refine blk_alloc ?_ _); refine blk_put (cs := #[.int .i64 t191, .int .i64 t192, .int .i64 t193, .int .i64 0, .int .i64 0]) ?_ 3 _ rfl; (with_reducible repeat first|refine blk_drewN ?_ _|refine blk_drew ?_|refine blk_alloc ?_ _); refine blk_put (cs := #[.int .i64 t191, .int .i64 t192, .int .i64 0, .int .i64 0, .int .i64 0]) ?_ 2 _ rfl; (with_reducible repeat first|refine blk_drewN ?_ _|refine blk_drew ?_|refine blk_alloc ?_ _); refine blk_put (cs := #[.int .i64 t191, .int .i64 0, .int .i64 0, .int .i64 0, .int .i64 0]) ?_ 1 _ rfl; (with_reducible repeat first|refine blk_drewN ?_ _|refine blk_drew ?_|refine blk_alloc ?_ _); refine blk_put (cs := #[.int .i64 0, .int .i64 0, .int .i64 0, .int .i64 0, .int .i64 0]) ?_ 0 _ rfl; (with_reducible repeat first|refine blk_drewN ?_ _|refine blk_drew ?_|refine blk_alloc ?_ _); exact BK197.out) hb); have n2_ := Aside0.mk (below_step (by repeat (first | (with_reducible first | exact HB.out | apply below_alloc | apply pw_below_drewN | apply below_drew1 | refine below_set ?_ GE185.out | refine below_set ?_ GE197.out) | exact HB.out)) hb); clear BK185; clear BK197; clear HB; have BK185 := n0_; have BK197 := n1_; have HB := n2_; clear n0_ n1_ n2_; (try clear hb); (try clear hb2); (try clear hk); (try clear hi)) | ((with_reducible refine gate_dst (N := 10) rfl ?_); refine box_event ?hg (N := 10) ?hd (cs := #[.int .i64 0, .int .i64 0, .int .i64 0, .int .i64 0, .int .i64 0]) (t := 35) ?hr ?_; (case hd => rfl); (case hg => rfl); (case hr => first | (go_simp; done) | (go_simp; rfl)); intro gb204 hg w41 hbox hb; have n0_ := Aside0.mk (blk_below (g := gb185) (o := .cells #[.int .i64 a0_0, .int .i64 a0_1, .int .i64 a0_2, .int .i64 a0_3, .int .i64 a0_4, .int .i64 a0_5, .int .i64 a0_6, .int .i64 a0_7, .int .i64 a0_8, .int .i64 a0_9] 25 (0, 0)) (by (with_reducible repeat first|refine blk_drewN ?_ _|refine blk_drew ?_|refine blk_alloc ?_ _); exact BK185.out) hb); have n1_ := Aside0.mk (blk_below (g := gb197) (o := .cells #[.int .i64 t191, .int .i64 t192, .int .i64 t193, .int .i64 t194, .int .i64 t195] 35 (0, 0)) (by (with_reducible repeat first|refine blk_drewN ?_ _|refine blk_drew ?_|refine blk_alloc ?_ _); exact BK197.out) hb); have n2_ := Aside0.mk (below_step (by repeat (first | (with_reducible first | exact HB.out | apply below_alloc | apply pw_below_drewN | apply below_drew1 | refine below_set ?_ GE185.out | refine below_set ?_ GE197.out) | exact HB.out)) hb); have n3_ := Aside0.mk (hbox); have n4_ := Aside0.mk ((by rw [hg]; exact (below_size (by repeat (first | (with_reducible first | exact HB.out | apply below_alloc | apply pw_below_drewN | apply below_drew1 | refine below_set ?_ GE185.out | refine below_set ?_ GE197.out) | exact HB.out))) : w.heap.size ≤ gb204)); have n5_ := Aside0.mk ((by rw [hg]; exact (below_size (by repeat (first | (with_reducible first | exact HB.out | apply below_alloc | apply pw_below_drewN | apply below_drew1 | refine below_set ?_ GE185.out | refine below_set ?_ GE197.out) | exact HB.out))) : w.heap.size ≤ gb204)); have n6_ := Aside0.mk ((by rw [hg]; exact Nat.ne_of_lt (blk_lt (g := gb185) (o := .cells #[.int .i64 a0_0, .int .i64 a0_1, .int .i64 a0_2, .int .i64 a0_3, .int .i64 a0_4, .int .i64 a0_5, .int .i64 a0_6, .int .i64 a0_7, .int .i64 a0_8, .int .i64 a0_9] 25 (0, 0)) (by (with_reducible repeat first|refine blk_drewN ?_ _|refine blk_drew ?_|refine blk_alloc ?_ _); exact BK185.out)) : gb185 ≠ gb204)); have n7_ := Aside0.mk ((by rw [hg]; exact Nat.ne_of_gt (blk_lt (g := gb185) (o := .cells #[.int .i64 a0_0, .int .i64 a0_1, .int .i64 a0_2, .int .i64 a0_3, .int .i64 a0_4, .int .i64 a0_5, .int .i64 a0_6, .int .i64 a0_7, .int .i64 a0_8, .int .i64 a0_9] 25 (0, 0)) (by (with_reducible repeat first|refine blk_drewN ?_ _|refine blk_drew ?_|refine blk_alloc ?_ _); exact BK185.out)) : gb204 ≠ gb185)); have n8_ := Aside0.mk ((by rw [hg]; exact Nat.ne_of_lt (blk_lt (g := gb197) (o := .cells #[.int .i64 t191, .int .i64 t192, .int .i64 t193, .int .i64 t194, .int .i64 t195] 35 (0, 0)) (by (with_reducible repeat first|refine blk_drewN ?_ _|refine blk_drew ?_|refine blk_alloc ?_ _); exact BK197.out)) : gb197 ≠ gb204)); have n9_ := Aside0.mk ((by rw [hg]; exact Nat.ne_of_gt (blk_lt (g := gb197) (o := .cells #[.int .i64 t191, .int .i64 t192, .int .i64 t193, .int .i64 t194, .int .i64 t195] 35 (0, 0)) (by (with_reducible repeat first|refine blk_drewN ?_ _|refine blk_drew ?_|refine blk_alloc ?_ _); exact BK197.out)) : gb204 ≠ gb197)); clear BK185; clear BK197; clear HB; have BK185 := n0_; have BK197 := n1_; have HB := n2_; have BK204 := n3_; have GW204 := n4_; have GE204 := n5_; have NB185_204 := n6_; have NB204_185 := n7_; have NB197_204 := n8_; have NB204_197 := n9_; clear n0_ n1_ n2_ n3_ n4_ n5_ n6_ n7_ n8_ n9_; clear hb hbox hg; have hnb42 := NB204_185.out; have hnc42 := NB185_204.out; have hnb43 := NB204_197.out; have hnc43 := NB197_204.out; have hcz44_0 : w41.cell? ⟨gb204, 0, none⟩ = some (.int .i64 0) := (blk_cell BK204.out 0).trans rfl; have hcz44_1 : w41.cell? ⟨gb204, 1, none⟩ = some (.int .i64 0) := (blk_cell BK204.out 1).trans rfl; have hcz44_2 : w41.cell? ⟨gb204, 2, none⟩ = some (.int .i64 0) := (blk_cell BK204.out 2).trans rfl; have hcz44_3 : w41.cell? ⟨gb204, 3, none⟩ = some (.int .i64 0) := (blk_cell BK204.out 3).trans rfl; have hcz44_4 : w41.cell? ⟨gb204, 4, none⟩ = some (.int .i64 0) := (blk_cell BK204.out 4).trans rfl; have hfz44_0 := blk_frozen BK204.out 0; have hfz44_1 := blk_frozen BK204.out 1; have hfz44_2 := blk_frozen BK204.out 2; have hfz44_3 := blk_frozen BK204.out 3; have hfz44_4 := blk_frozen BK204.out 4; have hcz45_0 : w41.cell? ⟨gb185, 0, none⟩ = some (.int .i64 a0_0) := (blk_cell BK185.out 0).trans rfl; have hcz45_1 : w41.cell? ⟨gb185, 1, none⟩ = some (.int .i64 a0_1) := (blk_cell BK185.out 1).trans rfl; have hcz45_2 : w41.cell? ⟨gb185, 2, none⟩ = some (.int .i64 a0_2) := (blk_cell BK185.out 2).trans rfl; have hcz45_3 : w41.cell? ⟨gb185, 3, none⟩ = some (.int .i64 a0_3) := (blk_cell BK185.out 3).trans rfl; have hcz45_4 : w41.cell? ⟨gb185, 4, none⟩ = some (.int .i64 a0_4) := (blk_cell BK185.out 4).trans rfl; have hcz45_5 : w41.cell? ⟨gb185, 5, none⟩ = some (.int .i64 a0_5) := (blk_cell BK185.out 5).trans rfl; have hcz45_6 : w41.cell? ⟨gb185, 6, none⟩ = some (.int .i64 a0_6) := (blk_cell BK185.out 6).trans rfl; have hcz45_7 : w41.cell? ⟨gb185, 7, none⟩ = some (.int .i64 a0_7) := (blk_cell BK185.out 7).trans rfl; have hcz45_8 : w41.cell? ⟨gb185, 8, none⟩ = some (.int .i64 a0_8) := (blk_cell BK185.out 8).trans rfl; have hcz45_9 : w41.cell? ⟨gb185, 9, none⟩ = some (.int .i64 a0_9) := (blk_cell BK185.out 9).trans rfl; have hfz45_0 := blk_frozen BK185.out 0; have hfz45_1 := blk_frozen BK185.out 1; have hfz45_2 := blk_frozen BK185.out 2; have hfz45_3 := blk_frozen BK185.out 3; have hfz45_4 := blk_frozen BK185.out 4; have hfz45_5 := blk_frozen BK185.out 5; have hfz45_6 := blk_frozen BK185.out 6; have hfz45_7 := blk_frozen BK185.out 7; have hfz45_8 := blk_frozen BK185.out 8; have hfz45_9 := blk_frozen BK185.out 9) | ((with_reducible refine gate_callee (f := 17) rfl ?_); refine goesL_ (some 80) rfl rfl Try.func17 (by kernel_rfl) rfl #[.agg #[.int .i64 a0_0, .int .i64 a0_1, .int .i64 a0_2, .int .i64 a0_3, .int .i64 a0_4, .int .i64 a0_5, .int .i64 a0_6, .int .i64 a0_7, .int .i64 a0_8, .int .i64 a0_9], .int .i64 (wrap64 (t188 - 1))] rfl (by (try simp only [List.map_toArray, List.map_cons, List.map_nil]); first | done | rfl | (simp only [List.length_drop, List.length_take]; rfl)) ?_; (with_reducible refine (zone_At.calls kj18 a0_0 a0_1 a0_2 a0_3 a0_4 a0_5 a0_6 a0_7 a0_8 a0_9 (wrap64 (t188 - 1)) t205 t206 t207 t208 t209 t210 _ A31.out).mono ?_); rintro e w46 ⟨rfl, hb⟩; refine ⟨_, rfl, ?_⟩; have n0_ := Aside0.mk (blk_below (g := gb185) (o := .cells #[.int .i64 a0_0, .int .i64 a0_1, .int .i64 a0_2, .int .i64 a0_3, .int .i64 a0_4, .int .i64 a0_5, .int .i64 a0_6, .int .i64 a0_7, .int .i64 a0_8, .int .i64 a0_9] 25 (0, 0)) (by (with_reducible repeat first|refine blk_drewN ?_ _|refine blk_drew ?_|refine blk_alloc ?_ _); refine blk_far ?_ NB185_204.out _; (with_reducible repeat first|refine blk_drewN ?_ _|refine blk_drew ?_|refine blk_alloc ?_ _); refine blk_far ?_ NB185_204.out _; (with_reducible repeat first|refine blk_drewN ?_ _|refine blk_drew ?_|refine blk_alloc ?_ _); refine blk_far ?_ NB185_204.out _; (with_reducible repeat first|refine blk_drewN ?_ _|refine blk_drew ?_|refine blk_alloc ?_ _); refine blk_far ?_ NB185_204.out _; (with_reducible repeat first|refine blk_drewN ?_ _|refine blk_drew ?_|refine blk_alloc ?_ _); refine blk_far ?_ NB185_204.out _; (with_reducible repeat first|refine blk_drewN ?_ _|refine blk_drew ?_|refine blk_alloc ?_ _); exact BK185.out) hb); have n1_ := Aside0.mk (blk_below (g := gb197) (o := .cells #[.int .i64 t191, .int .i64 t192, .int .i64 t193, .int .i64 t194, .int .i64 t195] 35 (0, 0)) (by (with_reducible repeat first|refine blk_drewN ?_ _|refine blk_drew ?_|refine blk_alloc ?_ _); refine blk_far ?_ NB197_204.out _; (with_reducible repeat first|refine blk_drewN ?_ _|refine blk_drew ?_|refine blk_alloc ?_ _); refine blk_far ?_ NB197_204.out _; (with_reducible repeat first|refine blk_drewN ?_ _|refine blk_drew ?_|refine blk_alloc ?_ _); refine blk_far ?_ NB197_204.out _; (with_reducible repeat first|refine blk_drewN ?_ _|refine blk_drew ?_|refine blk_alloc ?_ _); refine blk_far ?_ NB197_204.out _; (with_reducible repeat first|refine blk_drewN ?_ _|refine blk_drew ?_|refine blk_alloc ?_ _); refine blk_far ?_ NB197_204.out _; (with_reducible repeat first|refine blk_drewN ?_ _|refine blk_drew ?_|refine blk_alloc ?_ _); exact BK197.out) hb); have n2_ := Aside0.mk (blk_below (g := gb204) (o := .cells #[.int .i64 t198, .int .i64 t199, .int .i64 t200, .int .i64 t201, .int .i64 t202] 35 (0, 0)) (by (with_reducible repeat first|refine blk_drewN ?_ _|refine blk_drew ?_|refine blk_alloc ?_ _); refine blk_put (cs := #[.int .i64 t198, .int .i64 t199, .int .i64 t200, .int .i64 t201, .int .i64 0]) ?_ 4 _ rfl; (with_reducible repeat first|refine blk_drewN ?_ _|refine blk_drew ?_|refine blk_alloc ?_ _); refine blk_put (cs := #[.int .i64 t198, .int .i64 t199, .int .i64 t200, .int .i64 0, .int .i64 0]) ?_ 3 _ rfl; (with_reducible repeat first|refine blk_drewN ?_ _|refine blk_drew ?_|refine blk_alloc ?_ _); refine blk_put (cs := #[.int .i64 t198, .int .i64 t199, .int .i64 0, .int .i64 0, .int .i64 0]) ?_ 2 _ rfl; (with_reducible repeat first|refine blk_drewN ?_ _|refine blk_drew ?_|refine blk_alloc ?_ _); refine blk_put (cs := #[.int .i64 t198, .int .i64 0, .int .i64 0, .int .i64 0, .int .i64 0]) ?_ 1 _ rfl; (with_reducible repeat first|refine blk_drewN ?_ _|refine blk_drew ?_|refine blk_alloc ?_ _); refine blk_put (cs := #[.int .i64 0, .int .i64 0, .int .i64 0, .int .i64 0, .int .i64 0]) ?_ 0 _ rfl; (with_reducible repeat first|refine blk_drewN ?_ _|refine blk_drew ?_|refine blk_alloc ?_ _); exact BK204.out) hb); have n3_ := Aside0.mk (below_step (by repeat (first | (with_reducible first | exact HB.out | apply below_alloc | apply pw_below_drewN | apply below_drew1 | refine below_set ?_ GE185.out | refine below_set ?_ GE197.out | refine below_set ?_ GE204.out) | exact HB.out)) hb); clear BK185; clear BK197; clear BK204; clear HB; have BK185 := n0_; have BK197 := n1_; have BK204 := n2_; have HB := n3_; clear n0_ n1_ n2_ n3_; (try clear hb); (try clear hb2); (try clear hk); (try clear hi)) | ((with_reducible refine gate_dst (N := 12) rfl ?_); refine box_event ?hg (N := 12) ?hd (cs := #[.int .i64 0, .int .i64 0, .int .i64 0, .int .i64 0, .int .i64 0]) (t := 35) ?hr ?_; (case hd => rfl); (case hg => rfl); (case hr => first | (go_simp; done) | (go_simp; rfl)); intro gb211 hg w47 hbox hb; have n0_ := Aside0.mk (blk_below (g := gb185) (o := .cells #[.int .i64 a0_0, .int .i64 a0_1, .int .i64 a0_2, .int .i64 a0_3, .int .i64 a0_4, .int .i64 a0_5, .int .i64 a0_6, .int .i64 a0_7, .int .i64 a0_8, .int .i64 a0_9] 25 (0, 0)) (by (with_reducible repeat first|refine blk_drewN ?_ _|refine blk_drew ?_|refine blk_alloc ?_ _); exact BK185.out) hb); have n1_ := Aside0.mk (blk_below (g := gb197) (o := .cells #[.int .i64 t191, .int .i64 t192, .int .i64 t193, .int .i64 t194, .int .i64 t195] 35 (0, 0)) (by (with_reducible repeat first|refine blk_drewN ?_ _|refine blk_drew ?_|refine blk_alloc ?_ _); exact BK197.out) hb); have n2_ := Aside0.mk (blk_below (g := gb204) (o := .cells #[.int .i64 t198, .int .i64 t199, .int .i64 t200, .int .i64 t201, .int .i64 t202] 35 (0, 0)) (by (with_reducible repeat first|refine blk_drewN ?_ _|refine blk_drew ?_|refine blk_alloc ?_ _); exact BK204.out) hb); have n3_ := Aside0.mk (below_step (by repeat (first | (with_reducible first | exact HB.out | apply below_alloc | apply pw_below_drewN | apply below_drew1 | refine below_set ?_ GE185.out | refine below_set ?_ GE197.out | refine below_set ?_ GE204.out) | exact HB.out)) hb); have n4_ := Aside0.mk (hbox); have n5_ := Aside0.mk ((by rw [hg]; exact (below_size (by repeat (first | (with_reducible first | exact HB.out | apply below_alloc | apply pw_below_drewN | apply below_drew1 | refine below_set ?_ GE185.out | refine below_set ?_ GE197.out | refine below_set ?_ GE204.out) | exact HB.out))) : w.heap.size ≤ gb211)); have n6_ := Aside0.mk ((by rw [hg]; exact (below_size (by repeat (first | (with_reducible first | exact HB.out | apply below_alloc | apply pw_below_drewN | apply below_drew1 | refine below_set ?_ GE185.out | refine below_set ?_ GE197.out | refine below_set ?_ GE204.out) | exact HB.out))) : w.heap.size ≤ gb211)); have n7_ := Aside0.mk ((by rw [hg]; exact Nat.ne_of_lt (blk_lt (g := gb185) (o := .cells #[.int .i64 a0_0, .int .i64 a0_1, .int .i64 a0_2, .int .i64 a0_3, .int .i64 a0_4, .int .i64 a0_5, .int .i64 a0_6, .int .i64 a0_7, .int .i64 a0_8, .int .i64 a0_9] 25 (0, 0)) (by (with_reducible repeat first|refine blk_drewN ?_ _|refine blk_drew ?_|refine blk_alloc ?_ _); exact BK185.out)) : gb185 ≠ gb211)); have n8_ := Aside0.mk ((by rw [hg]; exact Nat.ne_of_gt (blk_lt (g := gb185) (o := .cells #[.int .i64 a0_0, .int .i64 a0_1, .int .i64 a0_2, .int .i64 a0_3, .int .i64 a0_4, .int .i64 a0_5, .int .i64 a0_6, .int .i64 a0_7, .int .i64 a0_8, .int .i64 a0_9] 25 (0, 0)) (by (with_reducible repeat first|refine blk_drewN ?_ _|refine blk_drew ?_|refine blk_alloc ?_ _); exact BK185.out)) : gb211 ≠ gb185)); have n9_ := Aside0.mk ((by rw [hg]; exact Nat.ne_of_lt (blk_lt (g := gb197) (o := .cells #[.int .i64 t191, .int .i64 t192, .int .i64 t193, .int .i64 t194, .int .i64 t195] 35 (0, 0)) (by (with_reducible repeat first|refine blk_drewN ?_ _|refine blk_drew ?_|refine blk_alloc ?_ _); exact BK197.out)) : gb197 ≠ gb211)); have n10_ := Aside0.mk ((by rw [hg]; exact Nat.ne_of_gt (blk_lt (g := gb197) (o := .cells #[.int .i64 t191, .int .i64 t192, .int .i64 t193, .int .i64 t194, .int .i64 t195] 35 (0, 0)) (by (with_reducible repeat first|refine blk_drewN ?_ _|refine blk_drew ?_|refine blk_alloc ?_ _); exact BK197.out)) : gb211 ≠ gb197)); have n11_ := Aside0.mk ((by rw [hg]; exact Nat.ne_of_lt (blk_lt (g := gb204) (o := .cells #[.int .i64 t198, .int .i64 t199, .int .i64 t200, .int .i64 t201, .int .i64 t202] 35 (0, 0)) (by (with_reducible repeat first|refine blk_drewN ?_ _|refine blk_drew ?_|refine blk_alloc ?_ _); exact BK204.out)) : gb204 ≠ gb211)); have n12_ := Aside0.mk ((by rw [hg]; exact Nat.ne_of_gt (blk_lt (g := gb204) (o := .cells #[.int .i64 t198, .int .i64 t199, .int .i64 t200, .int .i64 t201, .int .i64 t202] 35 (0, 0)) (by (with_reducible repeat first|refine blk_drewN ?_ _|refine blk_drew ?_|refine blk_alloc ?_ _); exact BK204.out)) : gb211 ≠ gb204)); clear BK185; clear BK197; clear BK204; clear HB; have BK185 := n0_; have BK197 := n1_; have BK204 := n2_; have HB := n3_; have BK211 := n4_; have GW211 := n5_; have GE211 := n6_; have NB185_211 := n7_; have NB211_185 := n8_; have NB197_211 := n9_; have NB211_197 := n10_; have NB204_211 := n11_; have NB211_204 := n12_; clear n0_ n1_ n2_ n3_ n4_ n5_ n6_ n7_ n8_ n9_ n10_ n11_ n12_; clear hb hbox hg; have hnb48 := NB211_185.out; have hnc48 := NB185_211.out; have hnb49 := NB211_197.out; have hnc49 := NB197_211.out; have hnb50 := NB211_204.out; have hnc50 := NB204_211.out; have hcz51_0 : w47.cell? ⟨gb211, 0, none⟩ = some (.int .i64 0) := (blk_cell BK211.out 0).trans rfl; have hcz51_1 : w47.cell? ⟨gb211, 1, none⟩ = some (.int .i64 0) := (blk_cell BK211.out 1).trans rfl; have hcz51_2 : w47.cell? ⟨gb211, 2, none⟩ = some (.int .i64 0) := (blk_cell BK211.out 2).trans rfl; have hcz51_3 : w47.cell? ⟨gb211, 3, none⟩ = some (.int .i64 0) := (blk_cell BK211.out 3).trans rfl; have hcz51_4 : w47.cell? ⟨gb211, 4, none⟩ = some (.int .i64 0) := (blk_cell BK211.out 4).trans rfl; have hfz51_0 := blk_frozen BK211.out 0; have hfz51_1 := blk_frozen BK211.out 1; have hfz51_2 := blk_frozen BK211.out 2; have hfz51_3 := blk_frozen BK211.out 3; have hfz51_4 := blk_frozen BK211.out 4; have hcz52_0 : w47.cell? ⟨gb185, 0, none⟩ = some (.int .i64 a0_0) := (blk_cell BK185.out 0).trans rfl; have hcz52_1 : w47.cell? ⟨gb185, 1, none⟩ = some (.int .i64 a0_1) := (blk_cell BK185.out 1).trans rfl; have hcz52_2 : w47.cell? ⟨gb185, 2, none⟩ = some (.int .i64 a0_2) := (blk_cell BK185.out 2).trans rfl; have hcz52_3 : w47.cell? ⟨gb185, 3, none⟩ = some (.int .i64 a0_3) := (blk_cell BK185.out 3).trans rfl; have hcz52_4 : w47.cell? ⟨gb185, 4, none⟩ = some (.int .i64 a0_4) := (blk_cell BK185.out 4).trans rfl; have hcz52_5 : w47.cell? ⟨gb185, 5, none⟩ = some (.int .i64 a0_5) := (blk_cell BK185.out 5).trans rfl; have hcz52_6 : w47.cell? ⟨gb185, 6, none⟩ = some (.int .i64 a0_6) := (blk_cell BK185.out 6).trans rfl; have hcz52_7 : w47.cell? ⟨gb185, 7, none⟩ = some (.int .i64 a0_7) := (blk_cell BK185.out 7).trans rfl; have hcz52_8 : w47.cell? ⟨gb185, 8, none⟩ = some (.int .i64 a0_8) := (blk_cell BK185.out 8).trans rfl; have hcz52_9 : w47.cell? ⟨gb185, 9, none⟩ = some (.int .i64 a0_9) := (blk_cell BK185.out 9).trans rfl; have hfz52_0 := blk_frozen BK185.out 0; have hfz52_1 := blk_frozen BK185.out 1; have hfz52_2 := blk_frozen BK185.out 2; have hfz52_3 := blk_frozen BK185.out 3; have hfz52_4 := blk_frozen BK185.out 4; have hfz52_5 := blk_frozen BK185.out 5; have hfz52_6 := blk_frozen BK185.out 6; have hfz52_7 := blk_frozen BK185.out 7; have hfz52_8 := blk_frozen BK185.out 8; have hfz52_9 := blk_frozen BK185.out 9) | ((with_reducible refine gate_callee (f := 17) rfl ?_); refine goesL_ (some 86) rfl rfl Try.func17 (by kernel_rfl) rfl #[.agg #[.int .i64 a0_0, .int .i64 a0_1, .int .i64 a0_2, .int .i64 a0_3, .int .i64 a0_4, .int .i64 a0_5, .int .i64 a0_6, .int .i64 a0_7, .int .i64 a0_8, .int .i64 a0_9], .int .i64 t188] rfl (by (try simp only [List.map_toArray, List.map_cons, List.map_nil]); first | done | rfl | (simp only [List.length_drop, List.length_take]; rfl)) ?_; (with_reducible refine (zone_At.calls kj18 a0_0 a0_1 a0_2 a0_3 a0_4 a0_5 a0_6 a0_7 a0_8 a0_9 t188 t212 t213 t214 t215 t216 t217 _ A32.out).mono ?_); rintro e w53 ⟨rfl, hb⟩; refine ⟨_, rfl, ?_⟩; have n0_ := Aside0.mk (blk_below (g := gb185) (o := .cells #[.int .i64 a0_0, .int .i64 a0_1, .int .i64 a0_2, .int .i64 a0_3, .int .i64 a0_4, .int .i64 a0_5, .int .i64 a0_6, .int .i64 a0_7, .int .i64 a0_8, .int .i64 a0_9] 25 (0, 0)) (by (with_reducible repeat first|refine blk_drewN ?_ _|refine blk_drew ?_|refine blk_alloc ?_ _); refine blk_far ?_ NB185_211.out _; (with_reducible repeat first|refine blk_drewN ?_ _|refine blk_drew ?_|refine blk_alloc ?_ _); refine blk_far ?_ NB185_211.out _; (with_reducible repeat first|refine blk_drewN ?_ _|refine blk_drew ?_|refine blk_alloc ?_ _); refine blk_far ?_ NB185_211.out _; (with_reducible repeat first|refine blk_drewN ?_ _|refine blk_drew ?_|refine blk_alloc ?_ _); refine blk_far ?_ NB185_211.out _; (with_reducible repeat first|refine blk_drewN ?_ _|refine blk_drew ?_|refine blk_alloc ?_ _); refine blk_far ?_ NB185_211.out _; (with_reducible repeat first|refine blk_drewN ?_ _|refine blk_drew ?_|refine blk_alloc ?_ _); exact BK185.out) hb); have n1_ := Aside0.mk (blk_below (g := gb197) (o := .cells #[.int .i64 t191, .int .i64 t192, .int .i64 t193, .int .i64 t194, .int .i64 t195] 35 (0, 0)) (by (with_reducible repeat first|refine blk_drewN ?_ _|refine blk_drew ?_|refine blk_alloc ?_ _); refine blk_far ?_ NB197_211.out _; (with_reducible repeat first|refine blk_drewN ?_ _|refine blk_drew ?_|refine blk_alloc ?_ _); refine blk_far ?_ NB197_211.out _; (with_reducible repeat first|refine blk_drewN ?_ _|refine blk_drew ?_|refine blk_alloc ?_ _); refine blk_far ?_ NB197_211.out _; (with_reducible repeat first|refine blk_drewN ?_ _|refine blk_drew ?_|refine blk_alloc ?_ _); refine blk_far ?_ NB197_211.out _; (with_reducible repeat first|refine blk_drewN ?_ _|refine blk_drew ?_|refine blk_alloc ?_ _); refine blk_far ?_ NB197_211.out _; (with_reducible repeat first|refine blk_drewN ?_ _|refine blk_drew ?_|refine blk_alloc ?_ _); exact BK197.out) hb); have n2_ := Aside0.mk (blk_below (g := gb204) (o := .cells #[.int .i64 t198, .int .i64 t199, .int .i64 t200, .int .i64 t201, .int .i64 t202] 35 (0, 0)) (by (with_reducible repeat first|refine blk_drewN ?_ _|refine blk_drew ?_|refine blk_alloc ?_ _); refine blk_far ?_ NB204_211.out _; (with_reducible repeat first|refine blk_drewN ?_ _|refine blk_drew ?_|refine blk_alloc ?_ _); refine blk_far ?_ NB204_211.out _; (with_reducible repeat first|refine blk_drewN ?_ _|refine blk_drew ?_|refine blk_alloc ?_ _); refine blk_far ?_ NB204_211.out _; (with_reducible repeat first|refine blk_drewN ?_ _|refine blk_drew ?_|refine blk_alloc ?_ _); refine blk_far ?_ NB204_211.out _; (with_reducible repeat first|refine blk_drewN ?_ _|refine blk_drew ?_|refine blk_alloc ?_ _); refine blk_far ?_ NB204_211.out _; (with_reducible repeat first|refine blk_drewN ?_ _|refine blk_drew ?_|refine blk_alloc ?_ _); exact BK204.out) hb); have n3_ := Aside0.mk (blk_below (g := gb211) (o := .cells #[.int .i64 t205, .int .i64 t206, .int .i64 t207, .int .i64 t208, .int .i64 t209] 35 (0, 0)) (by (with_reducible repeat first|refine blk_drewN ?_ _|refine blk_drew ?_|refine blk_alloc ?_ _); refine blk_put (cs := #[.int .i64 t205, .int .i64 t206, .int .i64 t207, .int .i64 t208, .int .i64 0]) ?_ 4 _ rfl; (with_reducible repeat first|refine blk_drewN ?_ _|refine blk_drew ?_|refine blk_alloc ?_ _); refine blk_put (cs := #[.int .i64 t205, .int .i64 t206, .int .i64 t207, .int .i64 0, .int .i64 0]) ?_ 3 _ rfl; (with_reducible repeat first|refine blk_drewN ?_ _|refine blk_drew ?_|refine blk_alloc ?_ _); refine blk_put (cs := #[.int .i64 t205, .int .i64 t206, .int .i64 0, .int .i64 0, .int .i64 0]) ?_ 2 _ rfl; (with_reducible repeat first|refine blk_drewN ?_ _|refine blk_drew ?_|refine blk_alloc ?_ _); refine blk_put (cs := #[.int .i64 t205, .int .i64 0, .int .i64 0, .int .i64 0, .int .i64 0]) ?_ 1 _ rfl; (with_reducible repeat first|refine blk_drewN ?_ _|refine blk_drew ?_|refine blk_alloc ?_ _); refine blk_put (cs := #[.int .i64 0, .int .i64 0, .int .i64 0, .int .i64 0, .int .i64 0]) ?_ 0 _ rfl; (with_reducible repeat first|refine blk_drewN ?_ _|refine blk_drew ?_|refine blk_alloc ?_ _); exact BK211.out) hb); have n4_ := Aside0.mk (below_step (by repeat (first | (with_reducible first | exact HB.out | apply below_alloc | apply pw_below_drewN | apply below_drew1 | refine below_set ?_ GE185.out | refine below_set ?_ GE197.out | refine below_set ?_ GE204.out | refine below_set ?_ GE211.out) | exact HB.out)) hb); clear BK185; clear BK197; clear BK204; clear BK211; clear HB; have BK185 := n0_; have BK197 := n1_; have BK204 := n2_; have BK211 := n3_; have HB := n4_; clear n0_ n1_ n2_ n3_ n4_; (try clear hb); (try clear hb2); (try clear hk); (try clear hi)) | ((with_reducible refine gate_dst (N := 14) rfl ?_); refine box_event ?hg (N := 14) ?hd (cs := #[.int .i64 0, .int .i64 0, .int .i64 0, .int .i64 0, .int .i64 0]) (t := 35) ?hr ?_; (case hd => rfl); (case hg => rfl); (case hr => first | (go_simp; done) | (go_simp; rfl)); intro gb218 hg w54 hbox hb; have n0_ := Aside0.mk (blk_below (g := gb185) (o := .cells #[.int .i64 a0_0, .int .i64 a0_1, .int .i64 a0_2, .int .i64 a0_3, .int .i64 a0_4, .int .i64 a0_5, .int .i64 a0_6, .int .i64 a0_7, .int .i64 a0_8, .int .i64 a0_9] 25 (0, 0)) (by (with_reducible repeat first|refine blk_drewN ?_ _|refine blk_drew ?_|refine blk_alloc ?_ _); exact BK185.out) hb); have n1_ := Aside0.mk (blk_below (g := gb197) (o := .cells #[.int .i64 t191, .int .i64 t192, .int .i64 t193, .int .i64 t194, .int .i64 t195] 35 (0, 0)) (by (with_reducible repeat first|refine blk_drewN ?_ _|refine blk_drew ?_|refine blk_alloc ?_ _); exact BK197.out) hb); have n2_ := Aside0.mk (blk_below (g := gb204) (o := .cells #[.int .i64 t198, .int .i64 t199, .int .i64 t200, .int .i64 t201, .int .i64 t202] 35 (0, 0)) (by (with_reducible repeat first|refine blk_drewN ?_ _|refine blk_drew ?_|refine blk_alloc ?_ _); exact BK204.out) hb); have n3_ := Aside0.mk (blk_below (g := gb211) (o := .cells #[.int .i64 t205, .int .i64 t206, .int .i64 t207, .int .i64 t208, .int .i64 t209] 35 (0, 0)) (by (with_reducible repeat first|refine blk_drewN ?_ _|refine blk_drew ?_|refine blk_alloc ?_ _); exact BK211.out) hb); have n4_ := Aside0.mk (below_step (by repeat (first | (with_reducible first | exact HB.out | apply below_alloc | apply pw_below_drewN | apply below_drew1 | refine below_set ?_ GE185.out | refine below_set ?_ GE197.out | refine below_set ?_ GE204.out | refine below_set ?_ GE211.out) | exact HB.out)) hb); have n5_ := Aside0.mk (hbox); have n6_ := Aside0.mk ((by rw [hg]; exact (below_size (by repeat (first | (with_reducible first | exact HB.out | apply below_alloc | apply pw_below_drewN | apply below_drew1 | refine below_set ?_ GE185.out | refine below_set ?_ GE197.out | refine below_set ?_ GE204.out | refine below_set ?_ GE211.out) | exact HB.out))) : w.heap.size ≤ gb218)); have n7_ := Aside0.mk ((by rw [hg]; exact (below_size (by repeat (first | (with_reducible first | exact HB.out | apply below_alloc | apply pw_below_drewN | apply below_drew1 | refine below_set ?_ GE185.out | refine below_set ?_ GE197.out | refine below_set ?_ GE204.out | refine below_set ?_ GE211.out) | exact HB.out))) : w.heap.size ≤ gb218)); have n8_ := Aside0.mk ((by rw [hg]; exact Nat.ne_of_lt (blk_lt (g := gb185) (o := .cells #[.int .i64 a0_0, .int .i64 a0_1, .int .i64 a0_2, .int .i64 a0_3, .int .i64 a0_4, .int .i64 a0_5, .int .i64 a0_6, .int .i64 a0_7, .int .i64 a0_8, .int .i64 a0_9] 25 (0, 0)) (by (with_reducible repeat first|refine blk_drewN ?_ _|refine blk_drew ?_|refine blk_alloc ?_ _); exact BK185.out)) : gb185 ≠ gb218)); have n9_ := Aside0.mk ((by rw [hg]; exact Nat.ne_of_gt (blk_lt (g := gb185) (o := .cells #[.int .i64 a0_0, .int .i64 a0_1, .int .i64 a0_2, .int .i64 a0_3, .int .i64 a0_4, .int .i64 a0_5, .int .i64 a0_6, .int .i64 a0_7, .int .i64 a0_8, .int .i64 a0_9] 25 (0, 0)) (by (with_reducible repeat first|refine blk_drewN ?_ _|refine blk_drew ?_|refine blk_alloc ?_ _); exact BK185.out)) : gb218 ≠ gb185)); have n10_ := Aside0.mk ((by rw [hg]; exact Nat.ne_of_lt (blk_lt (g := gb197) (o := .cells #[.int .i64 t191, .int .i64 t192, .int .i64 t193, .int .i64 t194, .int .i64 t195] 35 (0, 0)) (by (with_reducible repeat first|refine blk_drewN ?_ _|refine blk_drew ?_|refine blk_alloc ?_ _); exact BK197.out)) : gb197 ≠ gb218)); have n11_ := Aside0.mk ((by rw [hg]; exact Nat.ne_of_gt (blk_lt (g := gb197) (o := .cells #[.int .i64 t191, .int .i64 t192, .int .i64 t193, .int .i64 t194, .int .i64 t195] 35 (0, 0)) (by (with_reducible repeat first|refine blk_drewN ?_ _|refine blk_drew ?_|refine blk_alloc ?_ _); exact BK197.out)) : gb218 ≠ gb197)); have n12_ := Aside0.mk ((by rw [hg]; exact Nat.ne_of_lt (blk_lt (g := gb204) (o := .cells #[.int .i64 t198, .int .i64 t199, .int .i64 t200, .int .i64 t201, .int .i64 t202] 35 (0, 0)) (by (with_reducible repeat first|refine blk_drewN ?_ _|refine blk_drew ?_|refine blk_alloc ?_ _); exact BK204.out)) : gb204 ≠ gb218)); have n13_ := Aside0.mk ((by rw [hg]; exact Nat.ne_of_gt (blk_lt (g := gb204) (o := .cells #[.int .i64 t198, .int .i64 t199, .int .i64 t200, .int .i64 t201, .int .i64 t202] 35 (0, 0)) (by (with_reducible repeat first|refine blk_drewN ?_ _|refine blk_drew ?_|refine blk_alloc ?_ _); exact BK204.out)) : gb218 ≠ gb204)); have n14_ := Aside0.mk ((by rw [hg]; exact Nat.ne_of_lt (blk_lt (g := gb211) (o := .cells #[.int .i64 t205, .int .i64 t206, .int .i64 t207, .int .i64 t208, .int .i64 t209] 35 (0, 0)) (by (with_reducible repeat first|refine blk_drewN ?_ _|refine blk_drew ?_|refine blk_alloc ?_ _); exact BK211.out)) : gb211 ≠ gb218)); have n15_ := Aside0.mk ((by rw [hg]; exact Nat.ne_of_gt (blk_lt (g := gb211) (o := .cells #[.int .i64 t205, .int .i64 t206, .int .i64 t207, .int .i64 t208, .int .i64 t209] 35 (0, 0)) (by (with_reducible repeat first|refine blk_drewN ?_ _|refine blk_drew ?_|refine blk_alloc ?_ _); exact BK211.out)) : gb218 ≠ gb211)); clear BK185; clear BK197; clear BK204; clear BK211; clear HB; have BK185 := n0_; have BK197 := n1_; have BK204 := n2_; have BK211 := n3_; have HB := n4_; have BK218 := n5_; have GW218 := n6_; have GE218 := n7_; have NB185_218 := n8_; have NB218_185 := n9_; have NB197_218 := n10_; have NB218_197 := n11_; have NB204_218 := n12_; have NB218_204 := n13_; have NB211_218 := n14_; have NB218_211 := n15_; clear n0_ n1_ n2_ n3_ n4_ n5_ n6_ n7_ n8_ n9_ n10_ n11_ n12_ n13_ n14_ n15_; clear hb hbox hg; have hnb55 := NB218_185.out; have hnc55 := NB185_218.out; have hnb56 := NB218_197.out; have hnc56 := NB197_218.out; have hnb57 := NB218_204.out; have hnc57 := NB204_218.out; have hnb58 := NB218_211.out; have hnc58 := NB211_218.out; have hcz59_0 : w54.cell? ⟨gb218, 0, none⟩ = some (.int .i64 0) := (blk_cell BK218.out 0).trans rfl; have hcz59_1 : w54.cell? ⟨gb218, 1, none⟩ = some (.int .i64 0) := (blk_cell BK218.out 1).trans rfl; have hcz59_2 : w54.cell? ⟨gb218, 2, none⟩ = some (.int .i64 0) := (blk_cell BK218.out 2).trans rfl; have hcz59_3 : w54.cell? ⟨gb218, 3, none⟩ = some (.int .i64 0) := (blk_cell BK218.out 3).trans rfl; have hcz59_4 : w54.cell? ⟨gb218, 4, none⟩ = some (.int .i64 0) := (blk_cell BK218.out 4).trans rfl; have hfz59_0 := blk_frozen BK218.out 0; have hfz59_1 := blk_frozen BK218.out 1; have hfz59_2 := blk_frozen BK218.out 2; have hfz59_3 := blk_frozen BK218.out 3; have hfz59_4 := blk_frozen BK218.out 4))
       (try simp only [Act.put, List.setIfInBounds_toArray, List.set_cons_zero, List.set_cons_succ])
       go_cut [102] (fun v102 wc => ∃ (kq : Nat) (x102_32 : Bool), v102 = .bool x102_32 ∧ Aside0 (pylonlaw04_ZoneTurns.j3 kq x102_32 a0_0 a0_1 a0_2 a0_3 a0_4 a0_5 a0_6 a0_7 a0_8 a0_9 t191 t192 t193 t194 t195 t198 t199 t200 t201 t202 t205 t206 t207 t208 t209 t212 t213 t214 t215 t216 = some r) ∧ Aside0 (kq ≤ kj18) ∧ Aside0 (wc.heap[gb185]? = some (.cells #[.int .i64 a0_0, .int .i64 a0_1, .int .i64 a0_2, .int .i64 a0_3, .int .i64 a0_4, .int .i64 a0_5, .int .i64 a0_6, .int .i64 a0_7, .int .i64 a0_8, .int .i64 a0_9] 25 (0, 0))) ∧ Aside0 (wc.heap[gb197]? = some (.cells #[.int .i64 t191, .int .i64 t192, .int .i64 t193, .int .i64 t194, .int .i64 t195] 35 (0, 0))) ∧ Aside0 (wc.heap[gb204]? = some (.cells #[.int .i64 t198, .int .i64 t199, .int .i64 t200, .int .i64 t201, .int .i64 t202] 35 (0, 0))) ∧ Aside0 (wc.heap[gb211]? = some (.cells #[.int .i64 t205, .int .i64 t206, .int .i64 t207, .int .i64 t208, .int .i64 t209] 35 (0, 0))) ∧ Aside0 (wc.heap[gb218]? = some (.cells #[.int .i64 t212, .int .i64 t213, .int .i64 t214, .int .i64 t215, .int .i64 t216] 35 (0, 0))) ∧ Aside0 (Below w.heap.size w wc))
       case first =>
        have H := HC33.out
        clear HC33
        by_cases c60 : t196 = 0
        ·rw [if_pos c60] at H
         have c60b0 : (t196 == 0) = true := beq_iff_eq.mpr c60
         have c60b1 : (t196 != 0) = false := bne_eq_false_iff_eq.mpr c60
         clear c60
         (first | rw [c60b0] | (simp only [i64_w, i32_w]; rw [c60b0]) | skip)
         by_cases c61 : t203 = 0
         ·rw [if_pos c61] at H
          have c61b0 : (t203 == 0) = true := beq_iff_eq.mpr c61
          have c61b1 : (t203 != 0) = false := bne_eq_false_iff_eq.mpr c61
          clear c61
          by_cases c62 : t210 = 0
          ·rw [if_pos c62] at H
           have c62b0 : (t210 == 0) = true := beq_iff_eq.mpr c62
           have c62b1 : (t210 != 0) = false := bne_eq_false_iff_eq.mpr c62
           clear c62
           have H' := Aside0.mk H
           clear H
           go_wp2
           go_meet
           case rel => exact ⟨_, ((t217 != 0)), (by first | rfl | (simp; done) | (simp [*]; done)), H', ⟨by have := HJ18.out; first | omega | exact Nat.le_refl _⟩, ⟨by (with_reducible repeat first|refine blk_drewN ?_ _|refine blk_drew ?_|refine blk_alloc ?_ _); refine blk_far ?_ NB185_218.out _; (with_reducible repeat first|refine blk_drewN ?_ _|refine blk_drew ?_|refine blk_alloc ?_ _); refine blk_far ?_ NB185_218.out _; (with_reducible repeat first|refine blk_drewN ?_ _|refine blk_drew ?_|refine blk_alloc ?_ _); refine blk_far ?_ NB185_218.out _; (with_reducible repeat first|refine blk_drewN ?_ _|refine blk_drew ?_|refine blk_alloc ?_ _); refine blk_far ?_ NB185_218.out _; (with_reducible repeat first|refine blk_drewN ?_ _|refine blk_drew ?_|refine blk_alloc ?_ _); refine blk_far ?_ NB185_218.out _; (with_reducible repeat first|refine blk_drewN ?_ _|refine blk_drew ?_|refine blk_alloc ?_ _); exact BK185.out⟩, ⟨by (with_reducible repeat first|refine blk_drewN ?_ _|refine blk_drew ?_|refine blk_alloc ?_ _); refine blk_far ?_ NB197_218.out _; (with_reducible repeat first|refine blk_drewN ?_ _|refine blk_drew ?_|refine blk_alloc ?_ _); refine blk_far ?_ NB197_218.out _; (with_reducible repeat first|refine blk_drewN ?_ _|refine blk_drew ?_|refine blk_alloc ?_ _); refine blk_far ?_ NB197_218.out _; (with_reducible repeat first|refine blk_drewN ?_ _|refine blk_drew ?_|refine blk_alloc ?_ _); refine blk_far ?_ NB197_218.out _; (with_reducible repeat first|refine blk_drewN ?_ _|refine blk_drew ?_|refine blk_alloc ?_ _); refine blk_far ?_ NB197_218.out _; (with_reducible repeat first|refine blk_drewN ?_ _|refine blk_drew ?_|refine blk_alloc ?_ _); exact BK197.out⟩, ⟨by (with_reducible repeat first|refine blk_drewN ?_ _|refine blk_drew ?_|refine blk_alloc ?_ _); refine blk_far ?_ NB204_218.out _; (with_reducible repeat first|refine blk_drewN ?_ _|refine blk_drew ?_|refine blk_alloc ?_ _); refine blk_far ?_ NB204_218.out _; (with_reducible repeat first|refine blk_drewN ?_ _|refine blk_drew ?_|refine blk_alloc ?_ _); refine blk_far ?_ NB204_218.out _; (with_reducible repeat first|refine blk_drewN ?_ _|refine blk_drew ?_|refine blk_alloc ?_ _); refine blk_far ?_ NB204_218.out _; (with_reducible repeat first|refine blk_drewN ?_ _|refine blk_drew ?_|refine blk_alloc ?_ _); refine blk_far ?_ NB204_218.out _; (with_reducible repeat first|refine blk_drewN ?_ _|refine blk_drew ?_|refine blk_alloc ?_ _); exact BK204.out⟩, ⟨by (with_reducible repeat first|refine blk_drewN ?_ _|refine blk_drew ?_|refine blk_alloc ?_ _); refine blk_far ?_ NB211_218.out _; (with_reducible repeat first|refine blk_drewN ?_ _|refine blk_drew ?_|refine blk_alloc ?_ _); refine blk_far ?_ NB211_218.out _; (with_reducible repeat first|refine blk_drewN ?_ _|refine blk_drew ?_|refine blk_alloc ?_ _); refine blk_far ?_ NB211_218.out _; (with_reducible repeat first|refine blk_drewN ?_ _|refine blk_drew ?_|refine blk_alloc ?_ _); refine blk_far ?_ NB211_218.out _; (with_reducible repeat first|refine blk_drewN ?_ _|refine blk_drew ?_|refine blk_alloc ?_ _); refine blk_far ?_ NB211_218.out _; (with_reducible repeat first|refine blk_drewN ?_ _|refine blk_drew ?_|refine blk_alloc ?_ _); exact BK211.out⟩, ⟨by (with_reducible repeat first|refine blk_drewN ?_ _|refine blk_drew ?_|refine blk_alloc ?_ _); refine blk_put (cs := #[.int .i64 t212, .int .i64 t213, .int .i64 t214, .int .i64 t215, .int .i64 0]) ?_ 4 _ rfl; (with_reducible repeat first|refine blk_drewN ?_ _|refine blk_drew ?_|refine blk_alloc ?_ _); refine blk_put (cs := #[.int .i64 t212, .int .i64 t213, .int .i64 t214, .int .i64 0, .int .i64 0]) ?_ 3 _ rfl; (with_reducible repeat first|refine blk_drewN ?_ _|refine blk_drew ?_|refine blk_alloc ?_ _); refine blk_put (cs := #[.int .i64 t212, .int .i64 t213, .int .i64 0, .int .i64 0, .int .i64 0]) ?_ 2 _ rfl; (with_reducible repeat first|refine blk_drewN ?_ _|refine blk_drew ?_|refine blk_alloc ?_ _); refine blk_put (cs := #[.int .i64 t212, .int .i64 0, .int .i64 0, .int .i64 0, .int .i64 0]) ?_ 1 _ rfl; (with_reducible repeat first|refine blk_drewN ?_ _|refine blk_drew ?_|refine blk_alloc ?_ _); refine blk_put (cs := #[.int .i64 0, .int .i64 0, .int .i64 0, .int .i64 0, .int .i64 0]) ?_ 0 _ rfl; (with_reducible repeat first|refine blk_drewN ?_ _|refine blk_drew ?_|refine blk_alloc ?_ _); exact BK218.out⟩, ⟨by repeat (first | (with_reducible first | exact HB.out | apply below_alloc | apply pw_below_drewN | apply below_drew1 | refine below_set ?_ GE185.out | refine below_set ?_ GE197.out | refine below_set ?_ GE204.out | refine below_set ?_ GE211.out | refine below_set ?_ GE218.out) | exact HB.out)⟩⟩
          ·rw [if_neg c62] at H
           have c62b0 : (t210 == 0) = false := beq_eq_false_iff_ne.mpr c62
           have c62b1 : (t210 != 0) = true := bne_iff_ne.mpr c62
           have H' := Aside0.mk H
           clear H
           go_wp2
           go_meet
           case rel => exact ⟨_, (true), (by first | rfl | (simp; done) | (simp [*]; done)), H', ⟨by have := HJ18.out; first | omega | exact Nat.le_refl _⟩, ⟨by (with_reducible repeat first|refine blk_drewN ?_ _|refine blk_drew ?_|refine blk_alloc ?_ _); refine blk_far ?_ NB185_218.out _; (with_reducible repeat first|refine blk_drewN ?_ _|refine blk_drew ?_|refine blk_alloc ?_ _); refine blk_far ?_ NB185_218.out _; (with_reducible repeat first|refine blk_drewN ?_ _|refine blk_drew ?_|refine blk_alloc ?_ _); refine blk_far ?_ NB185_218.out _; (with_reducible repeat first|refine blk_drewN ?_ _|refine blk_drew ?_|refine blk_alloc ?_ _); refine blk_far ?_ NB185_218.out _; (with_reducible repeat first|refine blk_drewN ?_ _|refine blk_drew ?_|refine blk_alloc ?_ _); refine blk_far ?_ NB185_218.out _; (with_reducible repeat first|refine blk_drewN ?_ _|refine blk_drew ?_|refine blk_alloc ?_ _); exact BK185.out⟩, ⟨by (with_reducible repeat first|refine blk_drewN ?_ _|refine blk_drew ?_|refine blk_alloc ?_ _); refine blk_far ?_ NB197_218.out _; (with_reducible repeat first|refine blk_drewN ?_ _|refine blk_drew ?_|refine blk_alloc ?_ _); refine blk_far ?_ NB197_218.out _; (with_reducible repeat first|refine blk_drewN ?_ _|refine blk_drew ?_|refine blk_alloc ?_ _); refine blk_far ?_ NB197_218.out _; (with_reducible repeat first|refine blk_drewN ?_ _|refine blk_drew ?_|refine blk_alloc ?_ _); refine blk_far ?_ NB197_218.out _; (with_reducible repeat first|refine blk_drewN ?_ _|refine blk_drew ?_|refine blk_alloc ?_ _); refine blk_far ?_ NB197_218.out _; (with_reducible repeat first|refine blk_drewN ?_ _|refine blk_drew ?_|refine blk_alloc ?_ _); exact BK197.out⟩, ⟨by (with_reducible repeat first|refine blk_drewN ?_ _|refine blk_drew ?_|refine blk_alloc ?_ _); refine blk_far ?_ NB204_218.out _; (with_reducible repeat first|refine blk_drewN ?_ _|refine blk_drew ?_|refine blk_alloc ?_ _); refine blk_far ?_ NB204_218.out _; (with_reducible repeat first|refine blk_drewN ?_ _|refine blk_drew ?_|refine blk_alloc ?_ _); refine blk_far ?_ NB204_218.out _; (with_reducible repeat first|refine blk_drewN ?_ _|refine blk_drew ?_|refine blk_alloc ?_ _); refine blk_far ?_ NB204_218.out _; (with_reducible repeat first|refine blk_drewN ?_ _|refine blk_drew ?_|refine blk_alloc ?_ _); refine blk_far ?_ NB204_218.out _; (with_reducible repeat first|refine blk_drewN ?_ _|refine blk_drew ?_|refine blk_alloc ?_ _); exact BK204.out⟩, ⟨by (with_reducible repeat first|refine blk_drewN ?_ _|refine blk_drew ?_|refine blk_alloc ?_ _); refine blk_far ?_ NB211_218.out _; (with_reducible repeat first|refine blk_drewN ?_ _|refine blk_drew ?_|refine blk_alloc ?_ _); refine blk_far ?_ NB211_218.out _; (with_reducible repeat first|refine blk_drewN ?_ _|refine blk_drew ?_|refine blk_alloc ?_ _); refine blk_far ?_ NB211_218.out _; (with_reducible repeat first|refine blk_drewN ?_ _|refine blk_drew ?_|refine blk_alloc ?_ _); refine blk_far ?_ NB211_218.out _; (with_reducible repeat first|refine blk_drewN ?_ _|refine blk_drew ?_|refine blk_alloc ?_ _); refine blk_far ?_ NB211_218.out _; (with_reducible repeat first|refine blk_drewN ?_ _|refine blk_drew ?_|refine blk_alloc ?_ _); exact BK211.out⟩, ⟨by (with_reducible repeat first|refine blk_drewN ?_ _|refine blk_drew ?_|refine blk_alloc ?_ _); refine blk_put (cs := #[.int .i64 t212, .int .i64 t213, .int .i64 t214, .int .i64 t215, .int .i64 0]) ?_ 4 _ rfl; (with_reducible repeat first|refine blk_drewN ?_ _|refine blk_drew ?_|refine blk_alloc ?_ _); refine blk_put (cs := #[.int .i64 t212, .int .i64 t213, .int .i64 t214, .int .i64 0, .int .i64 0]) ?_ 3 _ rfl; (with_reducible repeat first|refine blk_drewN ?_ _|refine blk_drew ?_|refine blk_alloc ?_ _); refine blk_put (cs := #[.int .i64 t212, .int .i64 t213, .int .i64 0, .int .i64 0, .int .i64 0]) ?_ 2 _ rfl; (with_reducible repeat first|refine blk_drewN ?_ _|refine blk_drew ?_|refine blk_alloc ?_ _); refine blk_put (cs := #[.int .i64 t212, .int .i64 0, .int .i64 0, .int .i64 0, .int .i64 0]) ?_ 1 _ rfl; (with_reducible repeat first|refine blk_drewN ?_ _|refine blk_drew ?_|refine blk_alloc ?_ _); refine blk_put (cs := #[.int .i64 0, .int .i64 0, .int .i64 0, .int .i64 0, .int .i64 0]) ?_ 0 _ rfl; (with_reducible repeat first|refine blk_drewN ?_ _|refine blk_drew ?_|refine blk_alloc ?_ _); exact BK218.out⟩, ⟨by repeat (first | (with_reducible first | exact HB.out | apply below_alloc | apply pw_below_drewN | apply below_drew1 | refine below_set ?_ GE185.out | refine below_set ?_ GE197.out | refine below_set ?_ GE204.out | refine below_set ?_ GE211.out | refine below_set ?_ GE218.out) | exact HB.out)⟩⟩
         ·rw [if_neg c61] at H
          have c61b0 : (t203 == 0) = false := beq_eq_false_iff_ne.mpr c61
          have c61b1 : (t203 != 0) = true := bne_iff_ne.mpr c61
          have H' := Aside0.mk H
          clear H
          go_wp2
          go_meet
          case rel => exact ⟨_, (true), (by first | rfl | (simp; done) | (simp [*]; done)), H', ⟨by have := HJ18.out; first | omega | exact Nat.le_refl _⟩, ⟨by (with_reducible repeat first|refine blk_drewN ?_ _|refine blk_drew ?_|refine blk_alloc ?_ _); refine blk_far ?_ NB185_218.out _; (with_reducible repeat first|refine blk_drewN ?_ _|refine blk_drew ?_|refine blk_alloc ?_ _); refine blk_far ?_ NB185_218.out _; (with_reducible repeat first|refine blk_drewN ?_ _|refine blk_drew ?_|refine blk_alloc ?_ _); refine blk_far ?_ NB185_218.out _; (with_reducible repeat first|refine blk_drewN ?_ _|refine blk_drew ?_|refine blk_alloc ?_ _); refine blk_far ?_ NB185_218.out _; (with_reducible repeat first|refine blk_drewN ?_ _|refine blk_drew ?_|refine blk_alloc ?_ _); refine blk_far ?_ NB185_218.out _; (with_reducible repeat first|refine blk_drewN ?_ _|refine blk_drew ?_|refine blk_alloc ?_ _); exact BK185.out⟩, ⟨by (with_reducible repeat first|refine blk_drewN ?_ _|refine blk_drew ?_|refine blk_alloc ?_ _); refine blk_far ?_ NB197_218.out _; (with_reducible repeat first|refine blk_drewN ?_ _|refine blk_drew ?_|refine blk_alloc ?_ _); refine blk_far ?_ NB197_218.out _; (with_reducible repeat first|refine blk_drewN ?_ _|refine blk_drew ?_|refine blk_alloc ?_ _); refine blk_far ?_ NB197_218.out _; (with_reducible repeat first|refine blk_drewN ?_ _|refine blk_drew ?_|refine blk_alloc ?_ _); refine blk_far ?_ NB197_218.out _; (with_reducible repeat first|refine blk_drewN ?_ _|refine blk_drew ?_|refine blk_alloc ?_ _); refine blk_far ?_ NB197_218.out _; (with_reducible repeat first|refine blk_drewN ?_ _|refine blk_drew ?_|refine blk_alloc ?_ _); exact BK197.out⟩, ⟨by (with_reducible repeat first|refine blk_drewN ?_ _|refine blk_drew ?_|refine blk_alloc ?_ _); refine blk_far ?_ NB204_218.out _; (with_reducible repeat first|refine blk_drewN ?_ _|refine blk_drew ?_|refine blk_alloc ?_ _); refine blk_far ?_ NB204_218.out _; (with_reducible repeat first|refine blk_drewN ?_ _|refine blk_drew ?_|refine blk_alloc ?_ _); refine blk_far ?_ NB204_218.out _; (with_reducible repeat first|refine blk_drewN ?_ _|refine blk_drew ?_|refine blk_alloc ?_ _); refine blk_far ?_ NB204_218.out _; (with_reducible repeat first|refine blk_drewN ?_ _|refine blk_drew ?_|refine blk_alloc ?_ _); refine blk_far ?_ NB204_218.out _; (with_reducible repeat first|refine blk_drewN ?_ _|refine blk_drew ?_|refine blk_alloc ?_ _); exact BK204.out⟩, ⟨by (with_reducible repeat first|refine blk_drewN ?_ _|refine blk_drew ?_|refine blk_alloc ?_ _); refine blk_far ?_ NB211_218.out _; (with_reducible repeat first|refine blk_drewN ?_ _|refine blk_drew ?_|refine blk_alloc ?_ _); refine blk_far ?_ NB211_218.out _; (with_reducible repeat first|refine blk_drewN ?_ _|refine blk_drew ?_|refine blk_alloc ?_ _); refine blk_far ?_ NB211_218.out _; (with_reducible repeat first|refine blk_drewN ?_ _|refine blk_drew ?_|refine blk_alloc ?_ _); refine blk_far ?_ NB211_218.out _; (with_reducible repeat first|refine blk_drewN ?_ _|refine blk_drew ?_|refine blk_alloc ?_ _); refine blk_far ?_ NB211_218.out _; (with_reducible repeat first|refine blk_drewN ?_ _|refine blk_drew ?_|refine blk_alloc ?_ _); exact BK211.out⟩, ⟨by (with_reducible repeat first|refine blk_drewN ?_ _|refine blk_drew ?_|refine blk_alloc ?_ _); refine blk_put (cs := #[.int .i64 t212, .int .i64 t213, .int .i64 t214, .int .i64 t215, .int .i64 0]) ?_ 4 _ rfl; (with_reducible repeat first|refine blk_drewN ?_ _|refine blk_drew ?_|refine blk_alloc ?_ _); refine blk_put (cs := #[.int .i64 t212, .int .i64 t213, .int .i64 t214, .int .i64 0, .int .i64 0]) ?_ 3 _ rfl; (with_reducible repeat first|refine blk_drewN ?_ _|refine blk_drew ?_|refine blk_alloc ?_ _); refine blk_put (cs := #[.int .i64 t212, .int .i64 t213, .int .i64 0, .int .i64 0, .int .i64 0]) ?_ 2 _ rfl; (with_reducible repeat first|refine blk_drewN ?_ _|refine blk_drew ?_|refine blk_alloc ?_ _); refine blk_put (cs := #[.int .i64 t212, .int .i64 0, .int .i64 0, .int .i64 0, .int .i64 0]) ?_ 1 _ rfl; (with_reducible repeat first|refine blk_drewN ?_ _|refine blk_drew ?_|refine blk_alloc ?_ _); refine blk_put (cs := #[.int .i64 0, .int .i64 0, .int .i64 0, .int .i64 0, .int .i64 0]) ?_ 0 _ rfl; (with_reducible repeat first|refine blk_drewN ?_ _|refine blk_drew ?_|refine blk_alloc ?_ _); exact BK218.out⟩, ⟨by repeat (first | (with_reducible first | exact HB.out | apply below_alloc | apply pw_below_drewN | apply below_drew1 | refine below_set ?_ GE185.out | refine below_set ?_ GE197.out | refine below_set ?_ GE204.out | refine below_set ?_ GE211.out | refine below_set ?_ GE218.out) | exact HB.out)⟩⟩
        ·rw [if_neg c60] at H
         have c60b0 : (t196 == 0) = false := beq_eq_false_iff_ne.mpr c60
         have c60b1 : (t196 != 0) = true := bne_iff_ne.mpr c60
         (first | rw [c60b0] | (simp only [i64_w, i32_w]; rw [c60b0]) | skip)
         have H' := Aside0.mk H
         clear H
         go_wp2
         go_meet
         case rel => exact ⟨_, (true), (by first | rfl | (simp; done) | (simp [*]; done)), H', ⟨by have := HJ18.out; first | omega | exact Nat.le_refl _⟩, ⟨by (with_reducible repeat first|refine blk_drewN ?_ _|refine blk_drew ?_|refine blk_alloc ?_ _); refine blk_far ?_ NB185_218.out _; (with_reducible repeat first|refine blk_drewN ?_ _|refine blk_drew ?_|refine blk_alloc ?_ _); refine blk_far ?_ NB185_218.out _; (with_reducible repeat first|refine blk_drewN ?_ _|refine blk_drew ?_|refine blk_alloc ?_ _); refine blk_far ?_ NB185_218.out _; (with_reducible repeat first|refine blk_drewN ?_ _|refine blk_drew ?_|refine blk_alloc ?_ _); refine blk_far ?_ NB185_218.out _; (with_reducible repeat first|refine blk_drewN ?_ _|refine blk_drew ?_|refine blk_alloc ?_ _); refine blk_far ?_ NB185_218.out _; (with_reducible repeat first|refine blk_drewN ?_ _|refine blk_drew ?_|refine blk_alloc ?_ _); exact BK185.out⟩, ⟨by (with_reducible repeat first|refine blk_drewN ?_ _|refine blk_drew ?_|refine blk_alloc ?_ _); refine blk_far ?_ NB197_218.out _; (with_reducible repeat first|refine blk_drewN ?_ _|refine blk_drew ?_|refine blk_alloc ?_ _); refine blk_far ?_ NB197_218.out _; (with_reducible repeat first|refine blk_drewN ?_ _|refine blk_drew ?_|refine blk_alloc ?_ _); refine blk_far ?_ NB197_218.out _; (with_reducible repeat first|refine blk_drewN ?_ _|refine blk_drew ?_|refine blk_alloc ?_ _); refine blk_far ?_ NB197_218.out _; (with_reducible repeat first|refine blk_drewN ?_ _|refine blk_drew ?_|refine blk_alloc ?_ _); refine blk_far ?_ NB197_218.out _; (with_reducible repeat first|refine blk_drewN ?_ _|refine blk_drew ?_|refine blk_alloc ?_ _); exact BK197.out⟩, ⟨by (with_reducible repeat first|refine blk_drewN ?_ _|refine blk_drew ?_|refine blk_alloc ?_ _); refine blk_far ?_ NB204_218.out _; (with_reducible repeat first|refine blk_drewN ?_ _|refine blk_drew ?_|refine blk_alloc ?_ _); refine blk_far ?_ NB204_218.out _; (with_reducible repeat first|refine blk_drewN ?_ _|refine blk_drew ?_|refine blk_alloc ?_ _); refine blk_far ?_ NB204_218.out _; (with_reducible repeat first|refine blk_drewN ?_ _|refine blk_drew ?_|refine blk_alloc ?_ _); refine blk_far ?_ NB204_218.out _; (with_reducible repeat first|refine blk_drewN ?_ _|refine blk_drew ?_|refine blk_alloc ?_ _); refine blk_far ?_ NB204_218.out _; (with_reducible repeat first|refine blk_drewN ?_ _|refine blk_drew ?_|refine blk_alloc ?_ _); exact BK204.out⟩, ⟨by (with_reducible repeat first|refine blk_drewN ?_ _|refine blk_drew ?_|refine blk_alloc ?_ _); refine blk_far ?_ NB211_218.out _; (with_reducible repeat first|refine blk_drewN ?_ _|refine blk_drew ?_|refine blk_alloc ?_ _); refine blk_far ?_ NB211_218.out _; (with_reducible repeat first|refine blk_drewN ?_ _|refine blk_drew ?_|refine blk_alloc ?_ _); refine blk_far ?_ NB211_218.out _; (with_reducible repeat first|refine blk_drewN ?_ _|refine blk_drew ?_|refine blk_alloc ?_ _); refine blk_far ?_ NB211_218.out _; (with_reducible repeat first|refine blk_drewN ?_ _|refine blk_drew ?_|refine blk_alloc ?_ _); refine blk_far ?_ NB211_218.out _; (with_reducible repeat first|refine blk_drewN ?_ _|refine blk_drew ?_|refine blk_alloc ?_ _); exact BK211.out⟩, ⟨by (with_reducible repeat first|refine blk_drewN ?_ _|refine blk_drew ?_|refine blk_alloc ?_ _); refine blk_put (cs := #[.int .i64 t212, .int .i64 t213, .int .i64 t214, .int .i64 t215, .int .i64 0]) ?_ 4 _ rfl; (with_reducible repeat first|refine blk_drewN ?_ _|refine blk_drew ?_|refine blk_alloc ?_ _); refine blk_put (cs := #[.int .i64 t212, .int .i64 t213, .int .i64 t214, .int .i64 0, .int .i64 0]) ?_ 3 _ rfl; (with_reducible repeat first|refine blk_drewN ?_ _|refine blk_drew ?_|refine blk_alloc ?_ _); refine blk_put (cs := #[.int .i64 t212, .int .i64 t213, .int .i64 0, .int .i64 0, .int .i64 0]) ?_ 2 _ rfl; (with_reducible repeat first|refine blk_drewN ?_ _|refine blk_drew ?_|refine blk_alloc ?_ _); refine blk_put (cs := #[.int .i64 t212, .int .i64 0, .int .i64 0, .int .i64 0, .int .i64 0]) ?_ 1 _ rfl; (with_reducible repeat first|refine blk_drewN ?_ _|refine blk_drew ?_|refine blk_alloc ?_ _); refine blk_put (cs := #[.int .i64 0, .int .i64 0, .int .i64 0, .int .i64 0, .int .i64 0]) ?_ 0 _ rfl; (with_reducible repeat first|refine blk_drewN ?_ _|refine blk_drew ?_|refine blk_alloc ?_ _); exact BK218.out⟩, ⟨by repeat (first | (with_reducible first | exact HB.out | apply below_alloc | apply pw_below_drewN | apply below_drew1 | refine below_set ?_ GE185.out | refine below_set ?_ GE197.out | refine below_set ?_ GE204.out | refine below_set ?_ GE211.out | refine below_set ?_ GE218.out) | exact HB.out)⟩⟩
       case rest =>
        clear HC33
        try clear c1
        try clear c2
        try clear p2
        try clear c3
        try clear c4
        try clear c5
        try clear c6
        try clear p6
        try clear c7
        try clear c7b0
        try clear c7b1
        try clear c8
        try clear c8b0
        try clear c8b1
        try clear c14
        try clear c15
        try clear c16
        try clear c17
        try clear c17b0
        try clear c17b1
        try clear c18
        try clear c18b0
        try clear c18b1
        try clear c27
        try clear c27b0
        try clear c27b1
        try clear c28
        try clear c37
        try clear c42
        try clear c43
        try clear c48
        try clear c49
        try clear c50
        try clear c55
        try clear c56
        try clear c57
        try clear c58
        try clear c60
        try clear c60b0
        try clear c60b1
        try clear c61
        try clear c61b0
        try clear c61b1
        try clear c62
        try clear c62b0
        try clear c62b1
        try clear hcz12_0
        try clear hcz12_1
        try clear hcz12_2
        try clear hcz12_3
        try clear hcz12_4
        try clear hcz12_5
        try clear hcz12_6
        try clear hcz12_7
        try clear hcz12_8
        try clear hcz12_9
        try clear hcz14_0
        try clear hcz14_1
        try clear hcz14_2
        try clear hcz14_3
        try clear hcz14_4
        try clear hcz14_5
        try clear hcz14_6
        try clear hcz14_7
        try clear hcz14_8
        try clear hcz14_9
        try clear hcz16_0
        try clear hcz16_1
        try clear hcz16_2
        try clear hcz16_3
        try clear hcz16_4
        try clear hcz16_5
        try clear hcz16_6
        try clear hcz16_7
        try clear hcz16_8
        try clear hcz16_9
        try clear hcz22_0
        try clear hcz22_1
        try clear hcz22_2
        try clear hcz22_3
        try clear hcz22_4
        try clear hcz22_5
        try clear hcz22_6
        try clear hcz22_7
        try clear hcz22_8
        try clear hcz22_9
        try clear hcz24_0
        try clear hcz24_1
        try clear hcz24_2
        try clear hcz24_3
        try clear hcz24_4
        try clear hcz24_5
        try clear hcz24_6
        try clear hcz24_7
        try clear hcz24_8
        try clear hcz24_9
        try clear hcz26_0
        try clear hcz26_1
        try clear hcz26_2
        try clear hcz26_3
        try clear hcz26_4
        try clear hcz26_5
        try clear hcz26_6
        try clear hcz26_7
        try clear hcz26_8
        try clear hcz26_9
        try clear hcz34_0
        try clear hcz34_1
        try clear hcz34_2
        try clear hcz34_3
        try clear hcz34_4
        try clear hcz34_5
        try clear hcz34_6
        try clear hcz34_7
        try clear hcz34_8
        try clear hcz34_9
        try clear hcz38_0
        try clear hcz38_1
        try clear hcz38_2
        try clear hcz38_3
        try clear hcz38_4
        try clear hcz39_0
        try clear hcz39_1
        try clear hcz39_2
        try clear hcz39_3
        try clear hcz39_4
        try clear hcz39_5
        try clear hcz39_6
        try clear hcz39_7
        try clear hcz39_8
        try clear hcz39_9
        try clear hcz44_0
        try clear hcz44_1
        try clear hcz44_2
        try clear hcz44_3
        try clear hcz44_4
        try clear hcz45_0
        try clear hcz45_1
        try clear hcz45_2
        try clear hcz45_3
        try clear hcz45_4
        try clear hcz45_5
        try clear hcz45_6
        try clear hcz45_7
        try clear hcz45_8
        try clear hcz45_9
        try clear hcz51_0
        try clear hcz51_1
        try clear hcz51_2
        try clear hcz51_3
        try clear hcz51_4
        try clear hcz52_0
        try clear hcz52_1
        try clear hcz52_2
        try clear hcz52_3
        try clear hcz52_4
        try clear hcz52_5
        try clear hcz52_6
        try clear hcz52_7
        try clear hcz52_8
        try clear hcz52_9
        try clear hcz59_0
        try clear hcz59_1
        try clear hcz59_2
        try clear hcz59_3
        try clear hcz59_4
        try clear hfz12_0
        try clear hfz12_1
        try clear hfz12_2
        try clear hfz12_3
        try clear hfz12_4
        try clear hfz12_5
        try clear hfz12_6
        try clear hfz12_7
        try clear hfz12_8
        try clear hfz12_9
        try clear hfz14_0
        try clear hfz14_1
        try clear hfz14_2
        try clear hfz14_3
        try clear hfz14_4
        try clear hfz14_5
        try clear hfz14_6
        try clear hfz14_7
        try clear hfz14_8
        try clear hfz14_9
        try clear hfz16_0
        try clear hfz16_1
        try clear hfz16_2
        try clear hfz16_3
        try clear hfz16_4
        try clear hfz16_5
        try clear hfz16_6
        try clear hfz16_7
        try clear hfz16_8
        try clear hfz16_9
        try clear hfz22_0
        try clear hfz22_1
        try clear hfz22_2
        try clear hfz22_3
        try clear hfz22_4
        try clear hfz22_5
        try clear hfz22_6
        try clear hfz22_7
        try clear hfz22_8
        try clear hfz22_9
        try clear hfz24_0
        try clear hfz24_1
        try clear hfz24_2
        try clear hfz24_3
        try clear hfz24_4
        try clear hfz24_5
        try clear hfz24_6
        try clear hfz24_7
        try clear hfz24_8
        try clear hfz24_9
        try clear hfz26_0
        try clear hfz26_1
        try clear hfz26_2
        try clear hfz26_3
        try clear hfz26_4
        try clear hfz26_5
        try clear hfz26_6
        try clear hfz26_7
        try clear hfz26_8
        try clear hfz26_9
        try clear hfz34_0
        try clear hfz34_1
        try clear hfz34_2
        try clear hfz34_3
        try clear hfz34_4
        try clear hfz34_5
        try clear hfz34_6
        try clear hfz34_7
        try clear hfz34_8
        try clear hfz34_9
        try clear hfz38_0
        try clear hfz38_1
        try clear hfz38_2
        try clear hfz38_3
        try clear hfz38_4
        try clear hfz39_0
        try clear hfz39_1
        try clear hfz39_2
        try clear hfz39_3
        try clear hfz39_4
        try clear hfz39_5
        try clear hfz39_6
        try clear hfz39_7
        try clear hfz39_8
        try clear hfz39_9
        try clear hfz44_0
        try clear hfz44_1
        try clear hfz44_2
        try clear hfz44_3
        try clear hfz44_4
        try clear hfz45_0
        try clear hfz45_1
        try clear hfz45_2
        try clear hfz45_3
        try clear hfz45_4
        try clear hfz45_5
        try clear hfz45_6
        try clear hfz45_7
        try clear hfz45_8
        try clear hfz45_9
        try clear hfz51_0
        try clear hfz51_1
        try clear hfz51_2
        try clear hfz51_3
        try clear hfz51_4
        try clear hfz52_0
        try clear hfz52_1
        try clear hfz52_2
        try clear hfz52_3
        try clear hfz52_4
        try clear hfz52_5
        try clear hfz52_6
        try clear hfz52_7
        try clear hfz52_8
        try clear hfz52_9
        try clear hfz59_0
        try clear hfz59_1
        try clear hfz59_2
        try clear hfz59_3
        try clear hfz59_4
        try clear p2
        try clear p6
        obtain ⟨kq, x102_32, rfl, HA, HJ32, BK185, BK197, BK204, BK211, BK218, HB⟩ := hcut
        cases kq with
        | zero => exact absurd HA.out (by simp [pylonlaw04_ZoneTurns.j3])
        | succ kj32 =>
         have H := HA.out
         clear HA
         simp only [pylonlaw04_ZoneTurns.j3] at H
         by_cases c63 : x102_32 = true
         ·subst c63
          have H1 : (some false) = some r := by rw [if_pos rfl] at H; exact H
          clear H
          have H := H1
          clear H1
          obtain rfl := Option.some.inj H
          go_wp2
          go_ret
          exact ⟨by first | rfl | (simp [errW_none, errW_some] <;> rfl) | (simp [*, errW_none, errW_some] <;> rfl), by repeat (first | (with_reducible first | exact HB.out | apply below_alloc | apply pw_below_drewN | apply below_drew1 | refine below_set ?_ GE185.out | refine below_set ?_ GE197.out | refine below_set ?_ GE204.out | refine below_set ?_ GE211.out | refine below_set ?_ GE218.out) | exact HB.out)⟩
         ·replace c63 := Bool.eq_false_iff.mpr c63
          subst c63
          have H1 : (if t195 = a0_0 then (if t202 = (wrap64 (a0_0 + a0_1)) then (if t209 = (wrap64 (a0_0 + a0_1)) then (if t216 = a0_0 then (if t194 = (wrap64 (a0_5 - 1)) then (pylonlaw04_ZoneTurns.j4 kj32 (t208 == (wrap64 (a0_9 - 1)))) else (pylonlaw04_ZoneTurns.j4 kj32 false)) else (pylonlaw04_ZoneTurns.j4 kj32 false)) else (pylonlaw04_ZoneTurns.j4 kj32 false)) else (pylonlaw04_ZoneTurns.j4 kj32 false)) else (pylonlaw04_ZoneTurns.j4 kj32 false)) = some r := by rw [if_neg (show ¬ (false = true) by decide)] at H; exact H
          clear H
          have H := H1
          clear H1
          have HC64 := Aside0.mk H
          clear H
          go_upto_region 17 with (fail)
          go_cut [4] (fun v4 wc => ∃ (kq : Nat) (x4_63 : Bool), v4 = .bool x4_63 ∧ Aside0 (pylonlaw04_ZoneTurns.j4 kq x4_63 = some r) ∧ Aside0 (kq ≤ kj32) ∧ Aside0 (wc.heap[gb185]? = some (.cells #[.int .i64 a0_0, .int .i64 a0_1, .int .i64 a0_2, .int .i64 a0_3, .int .i64 a0_4, .int .i64 a0_5, .int .i64 a0_6, .int .i64 a0_7, .int .i64 a0_8, .int .i64 a0_9] 25 (0, 0))) ∧ Aside0 (wc.heap[gb197]? = some (.cells #[.int .i64 t191, .int .i64 t192, .int .i64 t193, .int .i64 t194, .int .i64 t195] 35 (0, 0))) ∧ Aside0 (wc.heap[gb204]? = some (.cells #[.int .i64 t198, .int .i64 t199, .int .i64 t200, .int .i64 t201, .int .i64 t202] 35 (0, 0))) ∧ Aside0 (wc.heap[gb211]? = some (.cells #[.int .i64 t205, .int .i64 t206, .int .i64 t207, .int .i64 t208, .int .i64 t209] 35 (0, 0))) ∧ Aside0 (wc.heap[gb218]? = some (.cells #[.int .i64 t212, .int .i64 t213, .int .i64 t214, .int .i64 t215, .int .i64 t216] 35 (0, 0))) ∧ Aside0 (Below w.heap.size w wc))
          case first =>
           have H := HC64.out
           clear HC64
           by_cases c65 : t195 = a0_0
           ·rw [if_pos c65] at H
            have c65b0 : (t195 == a0_0) = true := beq_iff_eq.mpr c65
            have c65b1 : (t195 != a0_0) = false := bne_eq_false_iff_eq.mpr c65
            clear c65
            (first | rw [c65b0] | (simp only [i64_w, i32_w]; rw [c65b0]) | skip)
            by_cases c66 : t202 = (wrap64 (a0_0 + a0_1))
            ·rw [if_pos c66] at H
             have c66b0 : (t202 == (wrap64 (a0_0 + a0_1))) = true := beq_iff_eq.mpr c66
             have c66b1 : (t202 != (wrap64 (a0_0 + a0_1))) = false := bne_eq_false_iff_eq.mpr c66
             clear c66
             by_cases c67 : t209 = (wrap64 (a0_0 + a0_1))
             ·rw [if_pos c67] at H
              have c67b0 : (t209 == (wrap64 (a0_0 + a0_1))) = true := beq_iff_eq.mpr c67
              have c67b1 : (t209 != (wrap64 (a0_0 + a0_1))) = false := bne_eq_false_iff_eq.mpr c67
              clear c67
              by_cases c68 : t216 = a0_0
              ·rw [if_pos c68] at H
               have c68b0 : (t216 == a0_0) = true := beq_iff_eq.mpr c68
               have c68b1 : (t216 != a0_0) = false := bne_eq_false_iff_eq.mpr c68
               clear c68
               by_cases c69 : t194 = (wrap64 (a0_5 - 1))
               ·rw [if_pos c69] at H
                have c69b0 : (t194 == (wrap64 (a0_5 - 1))) = true := beq_iff_eq.mpr c69
                have c69b1 : (t194 != (wrap64 (a0_5 - 1))) = false := bne_eq_false_iff_eq.mpr c69
                clear c69
                have H' := Aside0.mk H
                clear H
                have hnb70 := NB197_185.out
                have hnc70 := NB185_197.out
                have hnb71 := NB197_204.out
                have hnc71 := NB204_197.out
                have hnb72 := NB197_211.out
                have hnc72 := NB211_197.out
                have hnb73 := NB197_218.out
                have hnc73 := NB218_197.out
                have hcz74_0 : wc.cell? ⟨gb197, 0, none⟩ = some (.int .i64 t191) := (blk_cell BK197.out 0).trans rfl
                have hcz74_1 : wc.cell? ⟨gb197, 1, none⟩ = some (.int .i64 t192) := (blk_cell BK197.out 1).trans rfl
                have hcz74_2 : wc.cell? ⟨gb197, 2, none⟩ = some (.int .i64 t193) := (blk_cell BK197.out 2).trans rfl
                have hcz74_3 : wc.cell? ⟨gb197, 3, none⟩ = some (.int .i64 t194) := (blk_cell BK197.out 3).trans rfl
                have hcz74_4 : wc.cell? ⟨gb197, 4, none⟩ = some (.int .i64 t195) := (blk_cell BK197.out 4).trans rfl
                have hfz74_0 := blk_frozen BK197.out 0
                have hfz74_1 := blk_frozen BK197.out 1
                have hfz74_2 := blk_frozen BK197.out 2
                have hfz74_3 := blk_frozen BK197.out 3
                have hfz74_4 := blk_frozen BK197.out 4
                have hnb75 := NB185_204.out
                have hnc75 := NB204_185.out
                have hnb76 := NB185_211.out
                have hnc76 := NB211_185.out
                have hnb77 := NB185_218.out
                have hnc77 := NB218_185.out
                have hcz78_0 : wc.cell? ⟨gb185, 0, none⟩ = some (.int .i64 a0_0) := (blk_cell BK185.out 0).trans rfl
                have hcz78_1 : wc.cell? ⟨gb185, 1, none⟩ = some (.int .i64 a0_1) := (blk_cell BK185.out 1).trans rfl
                have hcz78_2 : wc.cell? ⟨gb185, 2, none⟩ = some (.int .i64 a0_2) := (blk_cell BK185.out 2).trans rfl
                have hcz78_3 : wc.cell? ⟨gb185, 3, none⟩ = some (.int .i64 a0_3) := (blk_cell BK185.out 3).trans rfl
                have hcz78_4 : wc.cell? ⟨gb185, 4, none⟩ = some (.int .i64 a0_4) := (blk_cell BK185.out 4).trans rfl
                have hcz78_5 : wc.cell? ⟨gb185, 5, none⟩ = some (.int .i64 a0_5) := (blk_cell BK185.out 5).trans rfl
                have hcz78_6 : wc.cell? ⟨gb185, 6, none⟩ = some (.int .i64 a0_6) := (blk_cell BK185.out 6).trans rfl
                have hcz78_7 : wc.cell? ⟨gb185, 7, none⟩ = some (.int .i64 a0_7) := (blk_cell BK185.out 7).trans rfl
                have hcz78_8 : wc.cell? ⟨gb185, 8, none⟩ = some (.int .i64 a0_8) := (blk_cell BK185.out 8).trans rfl
                have hcz78_9 : wc.cell? ⟨gb185, 9, none⟩ = some (.int .i64 a0_9) := (blk_cell BK185.out 9).trans rfl
                have hfz78_0 := blk_frozen BK185.out 0
                have hfz78_1 := blk_frozen BK185.out 1
                have hfz78_2 := blk_frozen BK185.out 2
                have hfz78_3 := blk_frozen BK185.out 3
                have hfz78_4 := blk_frozen BK185.out 4
                have hfz78_5 := blk_frozen BK185.out 5
                have hfz78_6 := blk_frozen BK185.out 6
                have hfz78_7 := blk_frozen BK185.out 7
                have hfz78_8 := blk_frozen BK185.out 8
                have hfz78_9 := blk_frozen BK185.out 9
                have hnb79 := NB204_211.out
                have hnc79 := NB211_204.out
                have hnb80 := NB204_218.out
                have hnc80 := NB218_204.out
                have hcz81_0 : wc.cell? ⟨gb204, 0, none⟩ = some (.int .i64 t198) := (blk_cell BK204.out 0).trans rfl
                have hcz81_1 : wc.cell? ⟨gb204, 1, none⟩ = some (.int .i64 t199) := (blk_cell BK204.out 1).trans rfl
                have hcz81_2 : wc.cell? ⟨gb204, 2, none⟩ = some (.int .i64 t200) := (blk_cell BK204.out 2).trans rfl
                have hcz81_3 : wc.cell? ⟨gb204, 3, none⟩ = some (.int .i64 t201) := (blk_cell BK204.out 3).trans rfl
                have hcz81_4 : wc.cell? ⟨gb204, 4, none⟩ = some (.int .i64 t202) := (blk_cell BK204.out 4).trans rfl
                have hfz81_0 := blk_frozen BK204.out 0
                have hfz81_1 := blk_frozen BK204.out 1
                have hfz81_2 := blk_frozen BK204.out 2
                have hfz81_3 := blk_frozen BK204.out 3
                have hfz81_4 := blk_frozen BK204.out 4
                have hnb82 := NB211_218.out
                have hnc82 := NB218_211.out
                have hcz83_0 : wc.cell? ⟨gb211, 0, none⟩ = some (.int .i64 t205) := (blk_cell BK211.out 0).trans rfl
                have hcz83_1 : wc.cell? ⟨gb211, 1, none⟩ = some (.int .i64 t206) := (blk_cell BK211.out 1).trans rfl
                have hcz83_2 : wc.cell? ⟨gb211, 2, none⟩ = some (.int .i64 t207) := (blk_cell BK211.out 2).trans rfl
                have hcz83_3 : wc.cell? ⟨gb211, 3, none⟩ = some (.int .i64 t208) := (blk_cell BK211.out 3).trans rfl
                have hcz83_4 : wc.cell? ⟨gb211, 4, none⟩ = some (.int .i64 t209) := (blk_cell BK211.out 4).trans rfl
                have hfz83_0 := blk_frozen BK211.out 0
                have hfz83_1 := blk_frozen BK211.out 1
                have hfz83_2 := blk_frozen BK211.out 2
                have hfz83_3 := blk_frozen BK211.out 3
                have hfz83_4 := blk_frozen BK211.out 4
                have hcz84_0 : wc.cell? ⟨gb218, 0, none⟩ = some (.int .i64 t212) := (blk_cell BK218.out 0).trans rfl
                have hcz84_1 : wc.cell? ⟨gb218, 1, none⟩ = some (.int .i64 t213) := (blk_cell BK218.out 1).trans rfl
                have hcz84_2 : wc.cell? ⟨gb218, 2, none⟩ = some (.int .i64 t214) := (blk_cell BK218.out 2).trans rfl
                have hcz84_3 : wc.cell? ⟨gb218, 3, none⟩ = some (.int .i64 t215) := (blk_cell BK218.out 3).trans rfl
                have hcz84_4 : wc.cell? ⟨gb218, 4, none⟩ = some (.int .i64 t216) := (blk_cell BK218.out 4).trans rfl
                have hfz84_0 := blk_frozen BK218.out 0
                have hfz84_1 := blk_frozen BK218.out 1
                have hfz84_2 := blk_frozen BK218.out 2
                have hfz84_3 := blk_frozen BK218.out 3
                have hfz84_4 := blk_frozen BK218.out 4
                go_wp2
                go_meet
                case rel => exact ⟨_, ((t208 == (wrap64 (a0_9 - 1)))), (by first | rfl | (simp; done) | (simp [*]; done)), H', ⟨by have := HJ18.out; have := HJ32.out; first | omega | exact Nat.le_refl _⟩, ⟨by (with_reducible repeat first|refine blk_drewN ?_ _|refine blk_drew ?_|refine blk_alloc ?_ _); exact BK185.out⟩, ⟨by (with_reducible repeat first|refine blk_drewN ?_ _|refine blk_drew ?_|refine blk_alloc ?_ _); exact BK197.out⟩, ⟨by (with_reducible repeat first|refine blk_drewN ?_ _|refine blk_drew ?_|refine blk_alloc ?_ _); exact BK204.out⟩, ⟨by (with_reducible repeat first|refine blk_drewN ?_ _|refine blk_drew ?_|refine blk_alloc ?_ _); exact BK211.out⟩, ⟨by (with_reducible repeat first|refine blk_drewN ?_ _|refine blk_drew ?_|refine blk_alloc ?_ _); exact BK218.out⟩, ⟨by repeat (first | (with_reducible first | exact HB.out | apply below_alloc | apply pw_below_drewN | apply below_drew1 | refine below_set ?_ GE185.out | refine below_set ?_ GE197.out | refine below_set ?_ GE204.out | refine below_set ?_ GE211.out | refine below_set ?_ GE218.out) | exact HB.out)⟩⟩
               ·rw [if_neg c69] at H
                have c69b0 : (t194 == (wrap64 (a0_5 - 1))) = false := beq_eq_false_iff_ne.mpr c69
                have c69b1 : (t194 != (wrap64 (a0_5 - 1))) = true := bne_iff_ne.mpr c69
                have H' := Aside0.mk H
                clear H
                have hnb85 := NB197_185.out
                have hnc85 := NB185_197.out
                have hnb86 := NB197_204.out
                have hnc86 := NB204_197.out
                have hnb87 := NB197_211.out
                have hnc87 := NB211_197.out
                have hnb88 := NB197_218.out
                have hnc88 := NB218_197.out
                have hcz89_0 : wc.cell? ⟨gb197, 0, none⟩ = some (.int .i64 t191) := (blk_cell BK197.out 0).trans rfl
                have hcz89_1 : wc.cell? ⟨gb197, 1, none⟩ = some (.int .i64 t192) := (blk_cell BK197.out 1).trans rfl
                have hcz89_2 : wc.cell? ⟨gb197, 2, none⟩ = some (.int .i64 t193) := (blk_cell BK197.out 2).trans rfl
                have hcz89_3 : wc.cell? ⟨gb197, 3, none⟩ = some (.int .i64 t194) := (blk_cell BK197.out 3).trans rfl
                have hcz89_4 : wc.cell? ⟨gb197, 4, none⟩ = some (.int .i64 t195) := (blk_cell BK197.out 4).trans rfl
                have hfz89_0 := blk_frozen BK197.out 0
                have hfz89_1 := blk_frozen BK197.out 1
                have hfz89_2 := blk_frozen BK197.out 2
                have hfz89_3 := blk_frozen BK197.out 3
                have hfz89_4 := blk_frozen BK197.out 4
                have hnb90 := NB185_204.out
                have hnc90 := NB204_185.out
                have hnb91 := NB185_211.out
                have hnc91 := NB211_185.out
                have hnb92 := NB185_218.out
                have hnc92 := NB218_185.out
                have hcz93_0 : wc.cell? ⟨gb185, 0, none⟩ = some (.int .i64 a0_0) := (blk_cell BK185.out 0).trans rfl
                have hcz93_1 : wc.cell? ⟨gb185, 1, none⟩ = some (.int .i64 a0_1) := (blk_cell BK185.out 1).trans rfl
                have hcz93_2 : wc.cell? ⟨gb185, 2, none⟩ = some (.int .i64 a0_2) := (blk_cell BK185.out 2).trans rfl
                have hcz93_3 : wc.cell? ⟨gb185, 3, none⟩ = some (.int .i64 a0_3) := (blk_cell BK185.out 3).trans rfl
                have hcz93_4 : wc.cell? ⟨gb185, 4, none⟩ = some (.int .i64 a0_4) := (blk_cell BK185.out 4).trans rfl
                have hcz93_5 : wc.cell? ⟨gb185, 5, none⟩ = some (.int .i64 a0_5) := (blk_cell BK185.out 5).trans rfl
                have hcz93_6 : wc.cell? ⟨gb185, 6, none⟩ = some (.int .i64 a0_6) := (blk_cell BK185.out 6).trans rfl
                have hcz93_7 : wc.cell? ⟨gb185, 7, none⟩ = some (.int .i64 a0_7) := (blk_cell BK185.out 7).trans rfl
                have hcz93_8 : wc.cell? ⟨gb185, 8, none⟩ = some (.int .i64 a0_8) := (blk_cell BK185.out 8).trans rfl
                have hcz93_9 : wc.cell? ⟨gb185, 9, none⟩ = some (.int .i64 a0_9) := (blk_cell BK185.out 9).trans rfl
                have hfz93_0 := blk_frozen BK185.out 0
                have hfz93_1 := blk_frozen BK185.out 1
                have hfz93_2 := blk_frozen BK185.out 2
                have hfz93_3 := blk_frozen BK185.out 3
                have hfz93_4 := blk_frozen BK185.out 4
                have hfz93_5 := blk_frozen BK185.out 5
                have hfz93_6 := blk_frozen BK185.out 6
                have hfz93_7 := blk_frozen BK185.out 7
                have hfz93_8 := blk_frozen BK185.out 8
                have hfz93_9 := blk_frozen BK185.out 9
                have hnb94 := NB204_211.out
                have hnc94 := NB211_204.out
                have hnb95 := NB204_218.out
                have hnc95 := NB218_204.out
                have hcz96_0 : wc.cell? ⟨gb204, 0, none⟩ = some (.int .i64 t198) := (blk_cell BK204.out 0).trans rfl
                have hcz96_1 : wc.cell? ⟨gb204, 1, none⟩ = some (.int .i64 t199) := (blk_cell BK204.out 1).trans rfl
                have hcz96_2 : wc.cell? ⟨gb204, 2, none⟩ = some (.int .i64 t200) := (blk_cell BK204.out 2).trans rfl
                have hcz96_3 : wc.cell? ⟨gb204, 3, none⟩ = some (.int .i64 t201) := (blk_cell BK204.out 3).trans rfl
                have hcz96_4 : wc.cell? ⟨gb204, 4, none⟩ = some (.int .i64 t202) := (blk_cell BK204.out 4).trans rfl
                have hfz96_0 := blk_frozen BK204.out 0
                have hfz96_1 := blk_frozen BK204.out 1
                have hfz96_2 := blk_frozen BK204.out 2
                have hfz96_3 := blk_frozen BK204.out 3
                have hfz96_4 := blk_frozen BK204.out 4
                have hnb97 := NB211_218.out
                have hnc97 := NB218_211.out
                have hcz98_0 : wc.cell? ⟨gb211, 0, none⟩ = some (.int .i64 t205) := (blk_cell BK211.out 0).trans rfl
                have hcz98_1 : wc.cell? ⟨gb211, 1, none⟩ = some (.int .i64 t206) := (blk_cell BK211.out 1).trans rfl
                have hcz98_2 : wc.cell? ⟨gb211, 2, none⟩ = some (.int .i64 t207) := (blk_cell BK211.out 2).trans rfl
                have hcz98_3 : wc.cell? ⟨gb211, 3, none⟩ = some (.int .i64 t208) := (blk_cell BK211.out 3).trans rfl
                have hcz98_4 : wc.cell? ⟨gb211, 4, none⟩ = some (.int .i64 t209) := (blk_cell BK211.out 4).trans rfl
                have hfz98_0 := blk_frozen BK211.out 0
                have hfz98_1 := blk_frozen BK211.out 1
                have hfz98_2 := blk_frozen BK211.out 2
                have hfz98_3 := blk_frozen BK211.out 3
                have hfz98_4 := blk_frozen BK211.out 4
                have hcz99_0 : wc.cell? ⟨gb218, 0, none⟩ = some (.int .i64 t212) := (blk_cell BK218.out 0).trans rfl
                have hcz99_1 : wc.cell? ⟨gb218, 1, none⟩ = some (.int .i64 t213) := (blk_cell BK218.out 1).trans rfl
                have hcz99_2 : wc.cell? ⟨gb218, 2, none⟩ = some (.int .i64 t214) := (blk_cell BK218.out 2).trans rfl
                have hcz99_3 : wc.cell? ⟨gb218, 3, none⟩ = some (.int .i64 t215) := (blk_cell BK218.out 3).trans rfl
                have hcz99_4 : wc.cell? ⟨gb218, 4, none⟩ = some (.int .i64 t216) := (blk_cell BK218.out 4).trans rfl
                have hfz99_0 := blk_frozen BK218.out 0
                have hfz99_1 := blk_frozen BK218.out 1
                have hfz99_2 := blk_frozen BK218.out 2
                have hfz99_3 := blk_frozen BK218.out 3
                have hfz99_4 := blk_frozen BK218.out 4
                go_wp2
                go_meet
                case rel => exact ⟨_, (false), (by first | rfl | (simp; done) | (simp [*]; done)), H', ⟨by have := HJ18.out; have := HJ32.out; first | omega | exact Nat.le_refl _⟩, ⟨by (with_reducible repeat first|refine blk_drewN ?_ _|refine blk_drew ?_|refine blk_alloc ?_ _); exact BK185.out⟩, ⟨by (with_reducible repeat first|refine blk_drewN ?_ _|refine blk_drew ?_|refine blk_alloc ?_ _); exact BK197.out⟩, ⟨by (with_reducible repeat first|refine blk_drewN ?_ _|refine blk_drew ?_|refine blk_alloc ?_ _); exact BK204.out⟩, ⟨by (with_reducible repeat first|refine blk_drewN ?_ _|refine blk_drew ?_|refine blk_alloc ?_ _); exact BK211.out⟩, ⟨by (with_reducible repeat first|refine blk_drewN ?_ _|refine blk_drew ?_|refine blk_alloc ?_ _); exact BK218.out⟩, ⟨by repeat (first | (with_reducible first | exact HB.out | apply below_alloc | apply pw_below_drewN | apply below_drew1 | refine below_set ?_ GE185.out | refine below_set ?_ GE197.out | refine below_set ?_ GE204.out | refine below_set ?_ GE211.out | refine below_set ?_ GE218.out) | exact HB.out)⟩⟩
              ·rw [if_neg c68] at H
               have c68b0 : (t216 == a0_0) = false := beq_eq_false_iff_ne.mpr c68
               have c68b1 : (t216 != a0_0) = true := bne_iff_ne.mpr c68
               have H' := Aside0.mk H
               clear H
               have hnb100 := NB197_185.out
               have hnc100 := NB185_197.out
               have hnb101 := NB197_204.out
               have hnc101 := NB204_197.out
               have hnb102 := NB197_211.out
               have hnc102 := NB211_197.out
               have hnb103 := NB197_218.out
               have hnc103 := NB218_197.out
               have hcz104_0 : wc.cell? ⟨gb197, 0, none⟩ = some (.int .i64 t191) := (blk_cell BK197.out 0).trans rfl
               have hcz104_1 : wc.cell? ⟨gb197, 1, none⟩ = some (.int .i64 t192) := (blk_cell BK197.out 1).trans rfl
               have hcz104_2 : wc.cell? ⟨gb197, 2, none⟩ = some (.int .i64 t193) := (blk_cell BK197.out 2).trans rfl
               have hcz104_3 : wc.cell? ⟨gb197, 3, none⟩ = some (.int .i64 t194) := (blk_cell BK197.out 3).trans rfl
               have hcz104_4 : wc.cell? ⟨gb197, 4, none⟩ = some (.int .i64 t195) := (blk_cell BK197.out 4).trans rfl
               have hfz104_0 := blk_frozen BK197.out 0
               have hfz104_1 := blk_frozen BK197.out 1
               have hfz104_2 := blk_frozen BK197.out 2
               have hfz104_3 := blk_frozen BK197.out 3
               have hfz104_4 := blk_frozen BK197.out 4
               have hnb105 := NB185_204.out
               have hnc105 := NB204_185.out
               have hnb106 := NB185_211.out
               have hnc106 := NB211_185.out
               have hnb107 := NB185_218.out
               have hnc107 := NB218_185.out
               have hcz108_0 : wc.cell? ⟨gb185, 0, none⟩ = some (.int .i64 a0_0) := (blk_cell BK185.out 0).trans rfl
               have hcz108_1 : wc.cell? ⟨gb185, 1, none⟩ = some (.int .i64 a0_1) := (blk_cell BK185.out 1).trans rfl
               have hcz108_2 : wc.cell? ⟨gb185, 2, none⟩ = some (.int .i64 a0_2) := (blk_cell BK185.out 2).trans rfl
               have hcz108_3 : wc.cell? ⟨gb185, 3, none⟩ = some (.int .i64 a0_3) := (blk_cell BK185.out 3).trans rfl
               have hcz108_4 : wc.cell? ⟨gb185, 4, none⟩ = some (.int .i64 a0_4) := (blk_cell BK185.out 4).trans rfl
               have hcz108_5 : wc.cell? ⟨gb185, 5, none⟩ = some (.int .i64 a0_5) := (blk_cell BK185.out 5).trans rfl
               have hcz108_6 : wc.cell? ⟨gb185, 6, none⟩ = some (.int .i64 a0_6) := (blk_cell BK185.out 6).trans rfl
               have hcz108_7 : wc.cell? ⟨gb185, 7, none⟩ = some (.int .i64 a0_7) := (blk_cell BK185.out 7).trans rfl
               have hcz108_8 : wc.cell? ⟨gb185, 8, none⟩ = some (.int .i64 a0_8) := (blk_cell BK185.out 8).trans rfl
               have hcz108_9 : wc.cell? ⟨gb185, 9, none⟩ = some (.int .i64 a0_9) := (blk_cell BK185.out 9).trans rfl
               have hfz108_0 := blk_frozen BK185.out 0
               have hfz108_1 := blk_frozen BK185.out 1
               have hfz108_2 := blk_frozen BK185.out 2
               have hfz108_3 := blk_frozen BK185.out 3
               have hfz108_4 := blk_frozen BK185.out 4
               have hfz108_5 := blk_frozen BK185.out 5
               have hfz108_6 := blk_frozen BK185.out 6
               have hfz108_7 := blk_frozen BK185.out 7
               have hfz108_8 := blk_frozen BK185.out 8
               have hfz108_9 := blk_frozen BK185.out 9
               have hnb109 := NB204_211.out
               have hnc109 := NB211_204.out
               have hnb110 := NB204_218.out
               have hnc110 := NB218_204.out
               have hcz111_0 : wc.cell? ⟨gb204, 0, none⟩ = some (.int .i64 t198) := (blk_cell BK204.out 0).trans rfl
               have hcz111_1 : wc.cell? ⟨gb204, 1, none⟩ = some (.int .i64 t199) := (blk_cell BK204.out 1).trans rfl
               have hcz111_2 : wc.cell? ⟨gb204, 2, none⟩ = some (.int .i64 t200) := (blk_cell BK204.out 2).trans rfl
               have hcz111_3 : wc.cell? ⟨gb204, 3, none⟩ = some (.int .i64 t201) := (blk_cell BK204.out 3).trans rfl
               have hcz111_4 : wc.cell? ⟨gb204, 4, none⟩ = some (.int .i64 t202) := (blk_cell BK204.out 4).trans rfl
               have hfz111_0 := blk_frozen BK204.out 0
               have hfz111_1 := blk_frozen BK204.out 1
               have hfz111_2 := blk_frozen BK204.out 2
               have hfz111_3 := blk_frozen BK204.out 3
               have hfz111_4 := blk_frozen BK204.out 4
               have hnb112 := NB211_218.out
               have hnc112 := NB218_211.out
               have hcz113_0 : wc.cell? ⟨gb211, 0, none⟩ = some (.int .i64 t205) := (blk_cell BK211.out 0).trans rfl
               have hcz113_1 : wc.cell? ⟨gb211, 1, none⟩ = some (.int .i64 t206) := (blk_cell BK211.out 1).trans rfl
               have hcz113_2 : wc.cell? ⟨gb211, 2, none⟩ = some (.int .i64 t207) := (blk_cell BK211.out 2).trans rfl
               have hcz113_3 : wc.cell? ⟨gb211, 3, none⟩ = some (.int .i64 t208) := (blk_cell BK211.out 3).trans rfl
               have hcz113_4 : wc.cell? ⟨gb211, 4, none⟩ = some (.int .i64 t209) := (blk_cell BK211.out 4).trans rfl
               have hfz113_0 := blk_frozen BK211.out 0
               have hfz113_1 := blk_frozen BK211.out 1
               have hfz113_2 := blk_frozen BK211.out 2
               have hfz113_3 := blk_frozen BK211.out 3
               have hfz113_4 := blk_frozen BK211.out 4
               have hcz114_0 : wc.cell? ⟨gb218, 0, none⟩ = some (.int .i64 t212) := (blk_cell BK218.out 0).trans rfl
               have hcz114_1 : wc.cell? ⟨gb218, 1, none⟩ = some (.int .i64 t213) := (blk_cell BK218.out 1).trans rfl
               have hcz114_2 : wc.cell? ⟨gb218, 2, none⟩ = some (.int .i64 t214) := (blk_cell BK218.out 2).trans rfl
               have hcz114_3 : wc.cell? ⟨gb218, 3, none⟩ = some (.int .i64 t215) := (blk_cell BK218.out 3).trans rfl
               have hcz114_4 : wc.cell? ⟨gb218, 4, none⟩ = some (.int .i64 t216) := (blk_cell BK218.out 4).trans rfl
               have hfz114_0 := blk_frozen BK218.out 0
               have hfz114_1 := blk_frozen BK218.out 1
               have hfz114_2 := blk_frozen BK218.out 2
               have hfz114_3 := blk_frozen BK218.out 3
               have hfz114_4 := blk_frozen BK218.out 4
               go_wp2
               go_meet
               case rel => exact ⟨_, (false), (by first | rfl | (simp; done) | (simp [*]; done)), H', ⟨by have := HJ18.out; have := HJ32.out; first | omega | exact Nat.le_refl _⟩, ⟨by (with_reducible repeat first|refine blk_drewN ?_ _|refine blk_drew ?_|refine blk_alloc ?_ _); exact BK185.out⟩, ⟨by (with_reducible repeat first|refine blk_drewN ?_ _|refine blk_drew ?_|refine blk_alloc ?_ _); exact BK197.out⟩, ⟨by (with_reducible repeat first|refine blk_drewN ?_ _|refine blk_drew ?_|refine blk_alloc ?_ _); exact BK204.out⟩, ⟨by (with_reducible repeat first|refine blk_drewN ?_ _|refine blk_drew ?_|refine blk_alloc ?_ _); exact BK211.out⟩, ⟨by (with_reducible repeat first|refine blk_drewN ?_ _|refine blk_drew ?_|refine blk_alloc ?_ _); exact BK218.out⟩, ⟨by repeat (first | (with_reducible first | exact HB.out | apply below_alloc | apply pw_below_drewN | apply below_drew1 | refine below_set ?_ GE185.out | refine below_set ?_ GE197.out | refine below_set ?_ GE204.out | refine below_set ?_ GE211.out | refine below_set ?_ GE218.out) | exact HB.out)⟩⟩
             ·rw [if_neg c67] at H
              have c67b0 : (t209 == (wrap64 (a0_0 + a0_1))) = false := beq_eq_false_iff_ne.mpr c67
              have c67b1 : (t209 != (wrap64 (a0_0 + a0_1))) = true := bne_iff_ne.mpr c67
              have H' := Aside0.mk H
              clear H
              have hnb115 := NB197_185.out
              have hnc115 := NB185_197.out
              have hnb116 := NB197_204.out
              have hnc116 := NB204_197.out
              have hnb117 := NB197_211.out
              have hnc117 := NB211_197.out
              have hnb118 := NB197_218.out
              have hnc118 := NB218_197.out
              have hcz119_0 : wc.cell? ⟨gb197, 0, none⟩ = some (.int .i64 t191) := (blk_cell BK197.out 0).trans rfl
              have hcz119_1 : wc.cell? ⟨gb197, 1, none⟩ = some (.int .i64 t192) := (blk_cell BK197.out 1).trans rfl
              have hcz119_2 : wc.cell? ⟨gb197, 2, none⟩ = some (.int .i64 t193) := (blk_cell BK197.out 2).trans rfl
              have hcz119_3 : wc.cell? ⟨gb197, 3, none⟩ = some (.int .i64 t194) := (blk_cell BK197.out 3).trans rfl
              have hcz119_4 : wc.cell? ⟨gb197, 4, none⟩ = some (.int .i64 t195) := (blk_cell BK197.out 4).trans rfl
              have hfz119_0 := blk_frozen BK197.out 0
              have hfz119_1 := blk_frozen BK197.out 1
              have hfz119_2 := blk_frozen BK197.out 2
              have hfz119_3 := blk_frozen BK197.out 3
              have hfz119_4 := blk_frozen BK197.out 4
              have hnb120 := NB185_204.out
              have hnc120 := NB204_185.out
              have hnb121 := NB185_211.out
              have hnc121 := NB211_185.out
              have hnb122 := NB185_218.out
              have hnc122 := NB218_185.out
              have hcz123_0 : wc.cell? ⟨gb185, 0, none⟩ = some (.int .i64 a0_0) := (blk_cell BK185.out 0).trans rfl
              have hcz123_1 : wc.cell? ⟨gb185, 1, none⟩ = some (.int .i64 a0_1) := (blk_cell BK185.out 1).trans rfl
              have hcz123_2 : wc.cell? ⟨gb185, 2, none⟩ = some (.int .i64 a0_2) := (blk_cell BK185.out 2).trans rfl
              have hcz123_3 : wc.cell? ⟨gb185, 3, none⟩ = some (.int .i64 a0_3) := (blk_cell BK185.out 3).trans rfl
              have hcz123_4 : wc.cell? ⟨gb185, 4, none⟩ = some (.int .i64 a0_4) := (blk_cell BK185.out 4).trans rfl
              have hcz123_5 : wc.cell? ⟨gb185, 5, none⟩ = some (.int .i64 a0_5) := (blk_cell BK185.out 5).trans rfl
              have hcz123_6 : wc.cell? ⟨gb185, 6, none⟩ = some (.int .i64 a0_6) := (blk_cell BK185.out 6).trans rfl
              have hcz123_7 : wc.cell? ⟨gb185, 7, none⟩ = some (.int .i64 a0_7) := (blk_cell BK185.out 7).trans rfl
              have hcz123_8 : wc.cell? ⟨gb185, 8, none⟩ = some (.int .i64 a0_8) := (blk_cell BK185.out 8).trans rfl
              have hcz123_9 : wc.cell? ⟨gb185, 9, none⟩ = some (.int .i64 a0_9) := (blk_cell BK185.out 9).trans rfl
              have hfz123_0 := blk_frozen BK185.out 0
              have hfz123_1 := blk_frozen BK185.out 1
              have hfz123_2 := blk_frozen BK185.out 2
              have hfz123_3 := blk_frozen BK185.out 3
              have hfz123_4 := blk_frozen BK185.out 4
              have hfz123_5 := blk_frozen BK185.out 5
              have hfz123_6 := blk_frozen BK185.out 6
              have hfz123_7 := blk_frozen BK185.out 7
              have hfz123_8 := blk_frozen BK185.out 8
              have hfz123_9 := blk_frozen BK185.out 9
              have hnb124 := NB204_211.out
              have hnc124 := NB211_204.out
              have hnb125 := NB204_218.out
              have hnc125 := NB218_204.out
              have hcz126_0 : wc.cell? ⟨gb204, 0, none⟩ = some (.int .i64 t198) := (blk_cell BK204.out 0).trans rfl
              have hcz126_1 : wc.cell? ⟨gb204, 1, none⟩ = some (.int .i64 t199) := (blk_cell BK204.out 1).trans rfl
              have hcz126_2 : wc.cell? ⟨gb204, 2, none⟩ = some (.int .i64 t200) := (blk_cell BK204.out 2).trans rfl
              have hcz126_3 : wc.cell? ⟨gb204, 3, none⟩ = some (.int .i64 t201) := (blk_cell BK204.out 3).trans rfl
              have hcz126_4 : wc.cell? ⟨gb204, 4, none⟩ = some (.int .i64 t202) := (blk_cell BK204.out 4).trans rfl
              have hfz126_0 := blk_frozen BK204.out 0
              have hfz126_1 := blk_frozen BK204.out 1
              have hfz126_2 := blk_frozen BK204.out 2
              have hfz126_3 := blk_frozen BK204.out 3
              have hfz126_4 := blk_frozen BK204.out 4
              have hnb127 := NB211_218.out
              have hnc127 := NB218_211.out
              have hcz128_0 : wc.cell? ⟨gb211, 0, none⟩ = some (.int .i64 t205) := (blk_cell BK211.out 0).trans rfl
              have hcz128_1 : wc.cell? ⟨gb211, 1, none⟩ = some (.int .i64 t206) := (blk_cell BK211.out 1).trans rfl
              have hcz128_2 : wc.cell? ⟨gb211, 2, none⟩ = some (.int .i64 t207) := (blk_cell BK211.out 2).trans rfl
              have hcz128_3 : wc.cell? ⟨gb211, 3, none⟩ = some (.int .i64 t208) := (blk_cell BK211.out 3).trans rfl
              have hcz128_4 : wc.cell? ⟨gb211, 4, none⟩ = some (.int .i64 t209) := (blk_cell BK211.out 4).trans rfl
              have hfz128_0 := blk_frozen BK211.out 0
              have hfz128_1 := blk_frozen BK211.out 1
              have hfz128_2 := blk_frozen BK211.out 2
              have hfz128_3 := blk_frozen BK211.out 3
              have hfz128_4 := blk_frozen BK211.out 4
              go_wp2
              go_meet
              case rel => exact ⟨_, (false), (by first | rfl | (simp; done) | (simp [*]; done)), H', ⟨by have := HJ18.out; have := HJ32.out; first | omega | exact Nat.le_refl _⟩, ⟨by (with_reducible repeat first|refine blk_drewN ?_ _|refine blk_drew ?_|refine blk_alloc ?_ _); exact BK185.out⟩, ⟨by (with_reducible repeat first|refine blk_drewN ?_ _|refine blk_drew ?_|refine blk_alloc ?_ _); exact BK197.out⟩, ⟨by (with_reducible repeat first|refine blk_drewN ?_ _|refine blk_drew ?_|refine blk_alloc ?_ _); exact BK204.out⟩, ⟨by (with_reducible repeat first|refine blk_drewN ?_ _|refine blk_drew ?_|refine blk_alloc ?_ _); exact BK211.out⟩, ⟨by (with_reducible repeat first|refine blk_drewN ?_ _|refine blk_drew ?_|refine blk_alloc ?_ _); exact BK218.out⟩, ⟨by repeat (first | (with_reducible first | exact HB.out | apply below_alloc | apply pw_below_drewN | apply below_drew1 | refine below_set ?_ GE185.out | refine below_set ?_ GE197.out | refine below_set ?_ GE204.out | refine below_set ?_ GE211.out | refine below_set ?_ GE218.out) | exact HB.out)⟩⟩
            ·rw [if_neg c66] at H
             have c66b0 : (t202 == (wrap64 (a0_0 + a0_1))) = false := beq_eq_false_iff_ne.mpr c66
             have c66b1 : (t202 != (wrap64 (a0_0 + a0_1))) = true := bne_iff_ne.mpr c66
             have H' := Aside0.mk H
             clear H
             have hnb129 := NB197_185.out
             have hnc129 := NB185_197.out
             have hnb130 := NB197_204.out
             have hnc130 := NB204_197.out
             have hnb131 := NB197_211.out
             have hnc131 := NB211_197.out
             have hnb132 := NB197_218.out
             have hnc132 := NB218_197.out
             have hcz133_0 : wc.cell? ⟨gb197, 0, none⟩ = some (.int .i64 t191) := (blk_cell BK197.out 0).trans rfl
             have hcz133_1 : wc.cell? ⟨gb197, 1, none⟩ = some (.int .i64 t192) := (blk_cell BK197.out 1).trans rfl
             have hcz133_2 : wc.cell? ⟨gb197, 2, none⟩ = some (.int .i64 t193) := (blk_cell BK197.out 2).trans rfl
             have hcz133_3 : wc.cell? ⟨gb197, 3, none⟩ = some (.int .i64 t194) := (blk_cell BK197.out 3).trans rfl
             have hcz133_4 : wc.cell? ⟨gb197, 4, none⟩ = some (.int .i64 t195) := (blk_cell BK197.out 4).trans rfl
             have hfz133_0 := blk_frozen BK197.out 0
             have hfz133_1 := blk_frozen BK197.out 1
             have hfz133_2 := blk_frozen BK197.out 2
             have hfz133_3 := blk_frozen BK197.out 3
             have hfz133_4 := blk_frozen BK197.out 4
             have hnb134 := NB185_204.out
             have hnc134 := NB204_185.out
             have hnb135 := NB185_211.out
             have hnc135 := NB211_185.out
             have hnb136 := NB185_218.out
             have hnc136 := NB218_185.out
             have hcz137_0 : wc.cell? ⟨gb185, 0, none⟩ = some (.int .i64 a0_0) := (blk_cell BK185.out 0).trans rfl
             have hcz137_1 : wc.cell? ⟨gb185, 1, none⟩ = some (.int .i64 a0_1) := (blk_cell BK185.out 1).trans rfl
             have hcz137_2 : wc.cell? ⟨gb185, 2, none⟩ = some (.int .i64 a0_2) := (blk_cell BK185.out 2).trans rfl
             have hcz137_3 : wc.cell? ⟨gb185, 3, none⟩ = some (.int .i64 a0_3) := (blk_cell BK185.out 3).trans rfl
             have hcz137_4 : wc.cell? ⟨gb185, 4, none⟩ = some (.int .i64 a0_4) := (blk_cell BK185.out 4).trans rfl
             have hcz137_5 : wc.cell? ⟨gb185, 5, none⟩ = some (.int .i64 a0_5) := (blk_cell BK185.out 5).trans rfl
             have hcz137_6 : wc.cell? ⟨gb185, 6, none⟩ = some (.int .i64 a0_6) := (blk_cell BK185.out 6).trans rfl
             have hcz137_7 : wc.cell? ⟨gb185, 7, none⟩ = some (.int .i64 a0_7) := (blk_cell BK185.out 7).trans rfl
             have hcz137_8 : wc.cell? ⟨gb185, 8, none⟩ = some (.int .i64 a0_8) := (blk_cell BK185.out 8).trans rfl
             have hcz137_9 : wc.cell? ⟨gb185, 9, none⟩ = some (.int .i64 a0_9) := (blk_cell BK185.out 9).trans rfl
             have hfz137_0 := blk_frozen BK185.out 0
             have hfz137_1 := blk_frozen BK185.out 1
             have hfz137_2 := blk_frozen BK185.out 2
             have hfz137_3 := blk_frozen BK185.out 3
             have hfz137_4 := blk_frozen BK185.out 4
             have hfz137_5 := blk_frozen BK185.out 5
             have hfz137_6 := blk_frozen BK185.out 6
             have hfz137_7 := blk_frozen BK185.out 7
             have hfz137_8 := blk_frozen BK185.out 8
             have hfz137_9 := blk_frozen BK185.out 9
             have hnb138 := NB204_211.out
             have hnc138 := NB211_204.out
             have hnb139 := NB204_218.out
             have hnc139 := NB218_204.out
             have hcz140_0 : wc.cell? ⟨gb204, 0, none⟩ = some (.int .i64 t198) := (blk_cell BK204.out 0).trans rfl
             have hcz140_1 : wc.cell? ⟨gb204, 1, none⟩ = some (.int .i64 t199) := (blk_cell BK204.out 1).trans rfl
             have hcz140_2 : wc.cell? ⟨gb204, 2, none⟩ = some (.int .i64 t200) := (blk_cell BK204.out 2).trans rfl
             have hcz140_3 : wc.cell? ⟨gb204, 3, none⟩ = some (.int .i64 t201) := (blk_cell BK204.out 3).trans rfl
             have hcz140_4 : wc.cell? ⟨gb204, 4, none⟩ = some (.int .i64 t202) := (blk_cell BK204.out 4).trans rfl
             have hfz140_0 := blk_frozen BK204.out 0
             have hfz140_1 := blk_frozen BK204.out 1
             have hfz140_2 := blk_frozen BK204.out 2
             have hfz140_3 := blk_frozen BK204.out 3
             have hfz140_4 := blk_frozen BK204.out 4
             go_wp2
             go_meet
             case rel => exact ⟨_, (false), (by first | rfl | (simp; done) | (simp [*]; done)), H', ⟨by have := HJ18.out; have := HJ32.out; first | omega | exact Nat.le_refl _⟩, ⟨by (with_reducible repeat first|refine blk_drewN ?_ _|refine blk_drew ?_|refine blk_alloc ?_ _); exact BK185.out⟩, ⟨by (with_reducible repeat first|refine blk_drewN ?_ _|refine blk_drew ?_|refine blk_alloc ?_ _); exact BK197.out⟩, ⟨by (with_reducible repeat first|refine blk_drewN ?_ _|refine blk_drew ?_|refine blk_alloc ?_ _); exact BK204.out⟩, ⟨by (with_reducible repeat first|refine blk_drewN ?_ _|refine blk_drew ?_|refine blk_alloc ?_ _); exact BK211.out⟩, ⟨by (with_reducible repeat first|refine blk_drewN ?_ _|refine blk_drew ?_|refine blk_alloc ?_ _); exact BK218.out⟩, ⟨by repeat (first | (with_reducible first | exact HB.out | apply below_alloc | apply pw_below_drewN | apply below_drew1 | refine below_set ?_ GE185.out | refine below_set ?_ GE197.out | refine below_set ?_ GE204.out | refine below_set ?_ GE211.out | refine below_set ?_ GE218.out) | exact HB.out)⟩⟩
           ·rw [if_neg c65] at H
            have c65b0 : (t195 == a0_0) = false := beq_eq_false_iff_ne.mpr c65
            have c65b1 : (t195 != a0_0) = true := bne_iff_ne.mpr c65
            (first | rw [c65b0] | (simp only [i64_w, i32_w]; rw [c65b0]) | skip)
            have H' := Aside0.mk H
            clear H
            have hnb141 := NB197_185.out
            have hnc141 := NB185_197.out
            have hnb142 := NB197_204.out
            have hnc142 := NB204_197.out
            have hnb143 := NB197_211.out
            have hnc143 := NB211_197.out
            have hnb144 := NB197_218.out
            have hnc144 := NB218_197.out
            have hcz145_0 : wc.cell? ⟨gb197, 0, none⟩ = some (.int .i64 t191) := (blk_cell BK197.out 0).trans rfl
            have hcz145_1 : wc.cell? ⟨gb197, 1, none⟩ = some (.int .i64 t192) := (blk_cell BK197.out 1).trans rfl
            have hcz145_2 : wc.cell? ⟨gb197, 2, none⟩ = some (.int .i64 t193) := (blk_cell BK197.out 2).trans rfl
            have hcz145_3 : wc.cell? ⟨gb197, 3, none⟩ = some (.int .i64 t194) := (blk_cell BK197.out 3).trans rfl
            have hcz145_4 : wc.cell? ⟨gb197, 4, none⟩ = some (.int .i64 t195) := (blk_cell BK197.out 4).trans rfl
            have hfz145_0 := blk_frozen BK197.out 0
            have hfz145_1 := blk_frozen BK197.out 1
            have hfz145_2 := blk_frozen BK197.out 2
            have hfz145_3 := blk_frozen BK197.out 3
            have hfz145_4 := blk_frozen BK197.out 4
            have hnb146 := NB185_204.out
            have hnc146 := NB204_185.out
            have hnb147 := NB185_211.out
            have hnc147 := NB211_185.out
            have hnb148 := NB185_218.out
            have hnc148 := NB218_185.out
            have hcz149_0 : wc.cell? ⟨gb185, 0, none⟩ = some (.int .i64 a0_0) := (blk_cell BK185.out 0).trans rfl
            have hcz149_1 : wc.cell? ⟨gb185, 1, none⟩ = some (.int .i64 a0_1) := (blk_cell BK185.out 1).trans rfl
            have hcz149_2 : wc.cell? ⟨gb185, 2, none⟩ = some (.int .i64 a0_2) := (blk_cell BK185.out 2).trans rfl
            have hcz149_3 : wc.cell? ⟨gb185, 3, none⟩ = some (.int .i64 a0_3) := (blk_cell BK185.out 3).trans rfl
            have hcz149_4 : wc.cell? ⟨gb185, 4, none⟩ = some (.int .i64 a0_4) := (blk_cell BK185.out 4).trans rfl
            have hcz149_5 : wc.cell? ⟨gb185, 5, none⟩ = some (.int .i64 a0_5) := (blk_cell BK185.out 5).trans rfl
            have hcz149_6 : wc.cell? ⟨gb185, 6, none⟩ = some (.int .i64 a0_6) := (blk_cell BK185.out 6).trans rfl
            have hcz149_7 : wc.cell? ⟨gb185, 7, none⟩ = some (.int .i64 a0_7) := (blk_cell BK185.out 7).trans rfl
            have hcz149_8 : wc.cell? ⟨gb185, 8, none⟩ = some (.int .i64 a0_8) := (blk_cell BK185.out 8).trans rfl
            have hcz149_9 : wc.cell? ⟨gb185, 9, none⟩ = some (.int .i64 a0_9) := (blk_cell BK185.out 9).trans rfl
            have hfz149_0 := blk_frozen BK185.out 0
            have hfz149_1 := blk_frozen BK185.out 1
            have hfz149_2 := blk_frozen BK185.out 2
            have hfz149_3 := blk_frozen BK185.out 3
            have hfz149_4 := blk_frozen BK185.out 4
            have hfz149_5 := blk_frozen BK185.out 5
            have hfz149_6 := blk_frozen BK185.out 6
            have hfz149_7 := blk_frozen BK185.out 7
            have hfz149_8 := blk_frozen BK185.out 8
            have hfz149_9 := blk_frozen BK185.out 9
            go_wp2
            go_meet
            case rel => exact ⟨_, (false), (by first | rfl | (simp; done) | (simp [*]; done)), H', ⟨by have := HJ18.out; have := HJ32.out; first | omega | exact Nat.le_refl _⟩, ⟨by (with_reducible repeat first|refine blk_drewN ?_ _|refine blk_drew ?_|refine blk_alloc ?_ _); exact BK185.out⟩, ⟨by (with_reducible repeat first|refine blk_drewN ?_ _|refine blk_drew ?_|refine blk_alloc ?_ _); exact BK197.out⟩, ⟨by (with_reducible repeat first|refine blk_drewN ?_ _|refine blk_drew ?_|refine blk_alloc ?_ _); exact BK204.out⟩, ⟨by (with_reducible repeat first|refine blk_drewN ?_ _|refine blk_drew ?_|refine blk_alloc ?_ _); exact BK211.out⟩, ⟨by (with_reducible repeat first|refine blk_drewN ?_ _|refine blk_drew ?_|refine blk_alloc ?_ _); exact BK218.out⟩, ⟨by repeat (first | (with_reducible first | exact HB.out | apply below_alloc | apply pw_below_drewN | apply below_drew1 | refine below_set ?_ GE185.out | refine below_set ?_ GE197.out | refine below_set ?_ GE204.out | refine below_set ?_ GE211.out | refine below_set ?_ GE218.out) | exact HB.out)⟩⟩
          case rest =>
           clear HC64
           try clear c1
           try clear p2
           try clear c6
           try clear p6
           try clear c7
           try clear c8
           try clear c9
           try clear c10
           try clear c11
           try clear c12
           try clear c13
           try clear c14
           try clear c63
           try clear p64
           try clear c65
           try clear c65b0
           try clear c65b1
           try clear c66
           try clear c66b0
           try clear c66b1
           try clear c67
           try clear c67b0
           try clear c67b1
           try clear c68
           try clear c68b0
           try clear c68b1
           try clear c69
           try clear c69b0
           try clear c69b1
           try clear c70
           try clear c71
           try clear c72
           try clear c73
           try clear c75
           try clear c76
           try clear c77
           try clear c79
           try clear c80
           try clear c82
           try clear c85
           try clear c86
           try clear c87
           try clear c88
           try clear c90
           try clear c91
           try clear c92
           try clear c94
           try clear c95
           try clear c97
           try clear c100
           try clear c101
           try clear c102
           try clear c103
           try clear c105
           try clear c106
           try clear c107
           try clear c109
           try clear c110
           try clear c112
           try clear c115
           try clear c116
           try clear c117
           try clear c118
           try clear c120
           try clear c121
           try clear c122
           try clear c124
           try clear c125
           try clear c127
           try clear c129
           try clear c130
           try clear c131
           try clear c132
           try clear c134
           try clear c135
           try clear c136
           try clear c138
           try clear c139
           try clear c141
           try clear c142
           try clear c143
           try clear c144
           try clear c146
           try clear c147
           try clear c148
           try clear hcz104_0
           try clear hcz104_1
           try clear hcz104_2
           try clear hcz104_3
           try clear hcz104_4
           try clear hcz108_0
           try clear hcz108_1
           try clear hcz108_2
           try clear hcz108_3
           try clear hcz108_4
           try clear hcz108_5
           try clear hcz108_6
           try clear hcz108_7
           try clear hcz108_8
           try clear hcz108_9
           try clear hcz111_0
           try clear hcz111_1
           try clear hcz111_2
           try clear hcz111_3
           try clear hcz111_4
           try clear hcz113_0
           try clear hcz113_1
           try clear hcz113_2
           try clear hcz113_3
           try clear hcz113_4
           try clear hcz114_0
           try clear hcz114_1
           try clear hcz114_2
           try clear hcz114_3
           try clear hcz114_4
           try clear hcz119_0
           try clear hcz119_1
           try clear hcz119_2
           try clear hcz119_3
           try clear hcz119_4
           try clear hcz123_0
           try clear hcz123_1
           try clear hcz123_2
           try clear hcz123_3
           try clear hcz123_4
           try clear hcz123_5
           try clear hcz123_6
           try clear hcz123_7
           try clear hcz123_8
           try clear hcz123_9
           try clear hcz126_0
           try clear hcz126_1
           try clear hcz126_2
           try clear hcz126_3
           try clear hcz126_4
           try clear hcz128_0
           try clear hcz128_1
           try clear hcz128_2
           try clear hcz128_3
           try clear hcz128_4
           try clear hcz133_0
           try clear hcz133_1
           try clear hcz133_2
           try clear hcz133_3
           try clear hcz133_4
           try clear hcz137_0
           try clear hcz137_1
           try clear hcz137_2
           try clear hcz137_3
           try clear hcz137_4
           try clear hcz137_5
           try clear hcz137_6
           try clear hcz137_7
           try clear hcz137_8
           try clear hcz137_9
           try clear hcz140_0
           try clear hcz140_1
           try clear hcz140_2
           try clear hcz140_3
           try clear hcz140_4
           try clear hcz145_0
           try clear hcz145_1
           try clear hcz145_2
           try clear hcz145_3
           try clear hcz145_4
           try clear hcz149_0
           try clear hcz149_1
           try clear hcz149_2
           try clear hcz149_3
           try clear hcz149_4
           try clear hcz149_5
           try clear hcz149_6
           try clear hcz149_7
           try clear hcz149_8
           try clear hcz149_9
           try clear hcz74_0
           try clear hcz74_1
           try clear hcz74_2
           try clear hcz74_3
           try clear hcz74_4
           try clear hcz78_0
           try clear hcz78_1
           try clear hcz78_2
           try clear hcz78_3
           try clear hcz78_4
           try clear hcz78_5
           try clear hcz78_6
           try clear hcz78_7
           try clear hcz78_8
           try clear hcz78_9
           try clear hcz81_0
           try clear hcz81_1
           try clear hcz81_2
           try clear hcz81_3
           try clear hcz81_4
           try clear hcz83_0
           try clear hcz83_1
           try clear hcz83_2
           try clear hcz83_3
           try clear hcz83_4
           try clear hcz84_0
           try clear hcz84_1
           try clear hcz84_2
           try clear hcz84_3
           try clear hcz84_4
           try clear hcz89_0
           try clear hcz89_1
           try clear hcz89_2
           try clear hcz89_3
           try clear hcz89_4
           try clear hcz93_0
           try clear hcz93_1
           try clear hcz93_2
           try clear hcz93_3
           try clear hcz93_4
           try clear hcz93_5
           try clear hcz93_6
           try clear hcz93_7
           try clear hcz93_8
           try clear hcz93_9
           try clear hcz96_0
           try clear hcz96_1
           try clear hcz96_2
           try clear hcz96_3
           try clear hcz96_4
           try clear hcz98_0
           try clear hcz98_1
           try clear hcz98_2
           try clear hcz98_3
           try clear hcz98_4
           try clear hcz99_0
           try clear hcz99_1
           try clear hcz99_2
           try clear hcz99_3
           try clear hcz99_4
           try clear hfz104_0
           try clear hfz104_1
           try clear hfz104_2
           try clear hfz104_3
           try clear hfz104_4
           try clear hfz108_0
           try clear hfz108_1
           try clear hfz108_2
           try clear hfz108_3
           try clear hfz108_4
           try clear hfz108_5
           try clear hfz108_6
           try clear hfz108_7
           try clear hfz108_8
           try clear hfz108_9
           try clear hfz111_0
           try clear hfz111_1
           try clear hfz111_2
           try clear hfz111_3
           try clear hfz111_4
           try clear hfz113_0
           try clear hfz113_1
           try clear hfz113_2
           try clear hfz113_3
           try clear hfz113_4
           try clear hfz114_0
           try clear hfz114_1
           try clear hfz114_2
           try clear hfz114_3
           try clear hfz114_4
           try clear hfz119_0
           try clear hfz119_1
           try clear hfz119_2
           try clear hfz119_3
           try clear hfz119_4
           try clear hfz123_0
           try clear hfz123_1
           try clear hfz123_2
           try clear hfz123_3
           try clear hfz123_4
           try clear hfz123_5
           try clear hfz123_6
           try clear hfz123_7
           try clear hfz123_8
           try clear hfz123_9
           try clear hfz126_0
           try clear hfz126_1
           try clear hfz126_2
           try clear hfz126_3
           try clear hfz126_4
           try clear hfz128_0
           try clear hfz128_1
           try clear hfz128_2
           try clear hfz128_3
           try clear hfz128_4
           try clear hfz133_0
           try clear hfz133_1
           try clear hfz133_2
           try clear hfz133_3
           try clear hfz133_4
           try clear hfz137_0
           try clear hfz137_1
           try clear hfz137_2
           try clear hfz137_3
           try clear hfz137_4
           try clear hfz137_5
           try clear hfz137_6
           try clear hfz137_7
           try clear hfz137_8
           try clear hfz137_9
           try clear hfz140_0
           try clear hfz140_1
           try clear hfz140_2
           try clear hfz140_3
           try clear hfz140_4
           try clear hfz145_0
           try clear hfz145_1
           try clear hfz145_2
           try clear hfz145_3
           try clear hfz145_4
           try clear hfz149_0
           try clear hfz149_1
           try clear hfz149_2
           try clear hfz149_3
           try clear hfz149_4
           try clear hfz149_5
           try clear hfz149_6
           try clear hfz149_7
           try clear hfz149_8
           try clear hfz149_9
           try clear hfz22_8
           try clear hfz22_9
           try clear hfz24_0
           try clear hfz24_1
           try clear hfz24_2
           try clear hfz24_3
           try clear hfz24_4
           try clear hfz24_5
           try clear hfz24_6
           try clear hfz24_7
           try clear hfz24_8
           try clear hfz24_9
           try clear hfz26_0
           try clear hfz26_1
           try clear hfz26_2
           try clear hfz26_3
           try clear hfz26_4
           try clear hfz26_5
           try clear hfz26_6
           try clear hfz26_7
           try clear hfz26_8
           try clear hfz26_9
           try clear hfz34_0
           try clear hfz34_1
           try clear hfz34_2
           try clear hfz34_3
           try clear hfz34_4
           try clear hfz34_5
           try clear hfz34_6
           try clear hfz34_7
           try clear hfz34_8
           try clear hfz34_9
           try clear hfz38_0
           try clear hfz38_1
           try clear hfz38_2
           try clear hfz38_3
           try clear hfz38_4
           try clear hfz39_0
           try clear hfz39_1
           try clear hfz39_2
           try clear hfz39_3
           try clear hfz39_4
           try clear hfz39_5
           try clear hfz39_6
           try clear hfz39_7
           try clear hfz39_8
           try clear hfz39_9
           try clear hfz44_0
           try clear hfz44_1
           try clear hfz44_2
           try clear hfz44_3
           try clear hfz44_4
           try clear hfz45_0
           try clear hfz45_1
           try clear hfz45_2
           try clear hfz45_3
           try clear hfz45_4
           try clear hfz45_5
           try clear hfz45_6
           try clear hfz45_7
           try clear hfz45_8
           try clear hfz45_9
           try clear hfz51_0
           try clear hfz51_1
           try clear hfz51_2
           try clear hfz51_3
           try clear hfz51_4
           try clear hfz52_0
           try clear hfz52_1
           try clear hfz52_2
           try clear hfz52_3
           try clear hfz52_4
           try clear hfz52_5
           try clear hfz52_6
           try clear hfz52_7
           try clear hfz52_8
           try clear hfz52_9
           try clear hfz59_0
           try clear hfz59_1
           try clear hfz59_2
           try clear hfz59_3
           try clear hfz59_4
           try clear hfz74_0
           try clear hfz74_1
           try clear hfz74_2
           try clear hfz74_3
           try clear hfz74_4
           try clear hfz78_0
           try clear hfz78_1
           try clear hfz78_2
           try clear hfz78_3
           try clear hfz78_4
           try clear hfz78_5
           try clear hfz78_6
           try clear hfz78_7
           try clear hfz78_8
           try clear hfz78_9
           try clear hfz81_0
           try clear hfz81_1
           try clear hfz81_2
           try clear hfz81_3
           try clear hfz81_4
           try clear hfz83_0
           try clear hfz83_1
           try clear hfz83_2
           try clear hfz83_3
           try clear hfz83_4
           try clear hfz84_0
           try clear hfz84_1
           try clear hfz84_2
           try clear hfz84_3
           try clear hfz84_4
           try clear hfz89_0
           try clear hfz89_1
           try clear hfz89_2
           try clear hfz89_3
           try clear hfz89_4
           try clear hfz93_0
           try clear hfz93_1
           try clear hfz93_2
           try clear hfz93_3
           try clear hfz93_4
           try clear hfz93_5
           try clear hfz93_6
           try clear hfz93_7
           try clear hfz93_8
           try clear hfz93_9
           try clear hfz96_0
           try clear hfz96_1
           try clear hfz96_2
           try clear hfz96_3
           try clear hfz96_4
           try clear hfz98_0
           try clear hfz98_1
           try clear hfz98_2
           try clear hfz98_3
           try clear hfz98_4
           try clear hfz99_0
           try clear hfz99_1
           try clear hfz99_2
           try clear hfz99_3
           try clear hfz99_4
           try clear p2
           try clear p6
           obtain ⟨kq, x4_63, rfl, HA, HJ63, BK185, BK197, BK204, BK211, BK218, HB⟩ := hcut
           cases kq with
           | zero => exact absurd HA.out (by simp [pylonlaw04_ZoneTurns.j4])
           | succ kj63 =>
            have H := HA.out
            clear HA
            simp only [pylonlaw04_ZoneTurns.j4] at H
            obtain rfl := Option.some.inj H
            go_wp2
            go_ret
            exact ⟨by first | rfl | (simp [errW_none, errW_some] <;> rfl) | (simp [*, errW_none, errW_some] <;> rfl), by repeat (first | (with_reducible first | exact HB.out | apply below_alloc | apply pw_below_drewN | apply below_drew1 | refine below_set ?_ GE185.out | refine below_set ?_ GE197.out | refine below_set ?_ GE204.out | refine below_set ?_ GE211.out | refine below_set ?_ GE218.out) | exact HB.out)⟩
  ·rw [if_neg c7] at H
   have c7b0 : (t190 == 0) = false := beq_eq_false_iff_ne.mpr c7
   have c7b1 : (t190 != 0) = true := bne_iff_ne.mpr c7
   have HC150 := Aside0.mk H
   clear H
   go_enter Try.func3, Try.ntmps3
   go_upto_region 6 with (first | ((with_reducible refine gate_dst (N := 2) rfl ?_); refine box_event ?hg (N := 2) ?hd (cs := #[.int .i64 a0_0, .int .i64 a0_1, .int .i64 a0_2, .int .i64 a0_3, .int .i64 a0_4, .int .i64 a0_5, .int .i64 a0_6, .int .i64 a0_7, .int .i64 a0_8, .int .i64 a0_9]) (t := 25) ?hr ?_; (case hd => rfl); (case hg => rfl); (case hr => first | (go_simp; done) | (go_simp; rfl)); intro gb185 hg w151 hbox hb; have n0_ := Aside0.mk (below_step (by repeat (first | (with_reducible first | exact HB.out | apply below_alloc | apply pw_below_drewN | apply below_drew1) | exact HB.out)) hb); have n1_ := Aside0.mk (hbox); have n2_ := Aside0.mk ((by rw [hg]; exact (below_size (by repeat (first | (with_reducible first | exact HB.out | apply below_alloc | apply pw_below_drewN | apply below_drew1) | exact HB.out))) : w.heap.size ≤ gb185)); have n3_ := Aside0.mk ((by rw [hg]; exact (below_size (by repeat (first | (with_reducible first | exact HB.out | apply below_alloc | apply pw_below_drewN | apply below_drew1) | exact HB.out))) : w.heap.size ≤ gb185)); clear HB; have HB := n0_; have BK185 := n1_; have GW185 := n2_; have GE185 := n3_; clear n0_ n1_ n2_ n3_; clear hb hbox hg) | ((with_reducible refine gate_callee (f := 14) rfl ?_); refine goesL_ (some 16) rfl rfl Try.func14 (by kernel_rfl) rfl #[] rfl (by (try simp only [List.map_toArray, List.map_cons, List.map_nil]); first | done | rfl | (simp only [List.length_drop, List.length_take]; rfl)) ?_; (with_reducible refine (pylonlaw04_awake.calls k  true _ A3.out).mono ?_); rintro e w152 ⟨rfl, hb⟩; refine ⟨_, rfl, ?_⟩; have n0_ := Aside0.mk (blk_below (g := gb185) (o := .cells #[.int .i64 a0_0, .int .i64 a0_1, .int .i64 a0_2, .int .i64 a0_3, .int .i64 a0_4, .int .i64 a0_5, .int .i64 a0_6, .int .i64 a0_7, .int .i64 a0_8, .int .i64 a0_9] 25 (0, 0)) (by (with_reducible repeat first|refine blk_drewN ?_ _|refine blk_drew ?_|refine blk_alloc ?_ _); exact BK185.out) hb); have n1_ := Aside0.mk (below_step (by repeat (first | (with_reducible first | exact HB.out | apply below_alloc | apply pw_below_drewN | apply below_drew1 | refine below_set ?_ GE185.out) | exact HB.out)) hb); clear BK185; clear HB; have BK185 := n0_; have HB := n1_; clear n0_ n1_; (try clear hb); (try clear hb2); (try clear hk); (try clear hi); have hcz153_0 : w152.cell? ⟨gb185, 0, none⟩ = some (.int .i64 a0_0) := (blk_cell BK185.out 0).trans rfl; have hcz153_1 : w152.cell? ⟨gb185, 1, none⟩ = some (.int .i64 a0_1) := (blk_cell BK185.out 1).trans rfl; have hcz153_2 : w152.cell? ⟨gb185, 2, none⟩ = some (.int .i64 a0_2) := (blk_cell BK185.out 2).trans rfl; have hcz153_3 : w152.cell? ⟨gb185, 3, none⟩ = some (.int .i64 a0_3) := (blk_cell BK185.out 3).trans rfl; have hcz153_4 : w152.cell? ⟨gb185, 4, none⟩ = some (.int .i64 a0_4) := (blk_cell BK185.out 4).trans rfl; have hcz153_5 : w152.cell? ⟨gb185, 5, none⟩ = some (.int .i64 a0_5) := (blk_cell BK185.out 5).trans rfl; have hcz153_6 : w152.cell? ⟨gb185, 6, none⟩ = some (.int .i64 a0_6) := (blk_cell BK185.out 6).trans rfl; have hcz153_7 : w152.cell? ⟨gb185, 7, none⟩ = some (.int .i64 a0_7) := (blk_cell BK185.out 7).trans rfl; have hcz153_8 : w152.cell? ⟨gb185, 8, none⟩ = some (.int .i64 a0_8) := (blk_cell BK185.out 8).trans rfl; have hcz153_9 : w152.cell? ⟨gb185, 9, none⟩ = some (.int .i64 a0_9) := (blk_cell BK185.out 9).trans rfl; have hfz153_0 := blk_frozen BK185.out 0; have hfz153_1 := blk_frozen BK185.out 1; have hfz153_2 := blk_frozen BK185.out 2; have hfz153_3 := blk_frozen BK185.out 3; have hfz153_4 := blk_frozen BK185.out 4; have hfz153_5 := blk_frozen BK185.out 5; have hfz153_6 := blk_frozen BK185.out 6; have hfz153_7 := blk_frozen BK185.out 7; have hfz153_8 := blk_frozen BK185.out 8; have hfz153_9 := blk_frozen BK185.out 9) | ((with_reducible refine gate_callee (f := 15) rfl ?_); refine goesL_ (some 26) rfl rfl Try.func15 (by kernel_rfl) rfl #[.agg #[.int .i64 a0_0, .int .i64 a0_1, .int .i64 a0_2, .int .i64 a0_3, .int .i64 a0_4, .int .i64 a0_5, .int .i64 a0_6, .int .i64 a0_7, .int .i64 a0_8, .int .i64 a0_9], .int .i64 (wrap64 (2 + (wrap64 (Int.tmod (IntKind.u64.wrap (a1)) 9990))))] rfl (by (try simp only [List.map_toArray, List.map_cons, List.map_nil]); first | done | rfl | (simp only [List.length_drop, List.length_take]; rfl)) ?_; (with_reducible refine (zone_Turns.calls k a0_0 a0_1 a0_2 a0_3 a0_4 a0_5 a0_6 a0_7 a0_8 a0_9 (wrap64 (2 + (wrap64 (Int.tmod (IntKind.u64.wrap (a1)) 9990)))) t187 t188 t189 _ A5.out).mono ?_); rintro e w154 ⟨rfl, hb⟩; refine ⟨_, rfl, ?_⟩; have n0_ := Aside0.mk (blk_below (g := gb185) (o := .cells #[.int .i64 a0_0, .int .i64 a0_1, .int .i64 a0_2, .int .i64 a0_3, .int .i64 a0_4, .int .i64 a0_5, .int .i64 a0_6, .int .i64 a0_7, .int .i64 a0_8, .int .i64 a0_9] 25 (0, 0)) (by (with_reducible repeat first|refine blk_drewN ?_ _|refine blk_drew ?_|refine blk_alloc ?_ _); exact BK185.out) hb); have n1_ := Aside0.mk (below_step (by repeat (first | (with_reducible first | exact HB.out | apply below_alloc | apply pw_below_drewN | apply below_drew1 | refine below_set ?_ GE185.out) | exact HB.out)) hb); clear BK185; clear HB; have BK185 := n0_; have HB := n1_; clear n0_ n1_; (try clear hb); (try clear hb2); (try clear hk); (try clear hi); have hcz155_0 : w154.cell? ⟨gb185, 0, none⟩ = some (.int .i64 a0_0) := (blk_cell BK185.out 0).trans rfl; have hcz155_1 : w154.cell? ⟨gb185, 1, none⟩ = some (.int .i64 a0_1) := (blk_cell BK185.out 1).trans rfl; have hcz155_2 : w154.cell? ⟨gb185, 2, none⟩ = some (.int .i64 a0_2) := (blk_cell BK185.out 2).trans rfl; have hcz155_3 : w154.cell? ⟨gb185, 3, none⟩ = some (.int .i64 a0_3) := (blk_cell BK185.out 3).trans rfl; have hcz155_4 : w154.cell? ⟨gb185, 4, none⟩ = some (.int .i64 a0_4) := (blk_cell BK185.out 4).trans rfl; have hcz155_5 : w154.cell? ⟨gb185, 5, none⟩ = some (.int .i64 a0_5) := (blk_cell BK185.out 5).trans rfl; have hcz155_6 : w154.cell? ⟨gb185, 6, none⟩ = some (.int .i64 a0_6) := (blk_cell BK185.out 6).trans rfl; have hcz155_7 : w154.cell? ⟨gb185, 7, none⟩ = some (.int .i64 a0_7) := (blk_cell BK185.out 7).trans rfl; have hcz155_8 : w154.cell? ⟨gb185, 8, none⟩ = some (.int .i64 a0_8) := (blk_cell BK185.out 8).trans rfl; have hcz155_9 : w154.cell? ⟨gb185, 9, none⟩ = some (.int .i64 a0_9) := (blk_cell BK185.out 9).trans rfl; have hfz155_0 := blk_frozen BK185.out 0; have hfz155_1 := blk_frozen BK185.out 1; have hfz155_2 := blk_frozen BK185.out 2; have hfz155_3 := blk_frozen BK185.out 3; have hfz155_4 := blk_frozen BK185.out 4; have hfz155_5 := blk_frozen BK185.out 5; have hfz155_6 := blk_frozen BK185.out 6; have hfz155_7 := blk_frozen BK185.out 7; have hfz155_8 := blk_frozen BK185.out 8; have hfz155_9 := blk_frozen BK185.out 9) | ((with_reducible refine gate_callee (f := 16) rfl ?_); refine goesL_ (some 31) rfl rfl Try.func16 (by kernel_rfl) rfl #[.agg #[.int .i64 a0_0, .int .i64 a0_1, .int .i64 a0_2, .int .i64 a0_3, .int .i64 a0_4, .int .i64 a0_5, .int .i64 a0_6, .int .i64 a0_7, .int .i64 a0_8, .int .i64 a0_9]] rfl (by (try simp only [List.map_toArray, List.map_cons, List.map_nil]); first | done | rfl | (simp only [List.length_drop, List.length_take]; rfl)) ?_; (with_reducible refine (pylonref04_Check.calls k a0_0 a0_1 a0_2 a0_3 a0_4 a0_5 a0_6 a0_7 a0_8 a0_9 t190 _ A6.out).mono ?_); rintro e w156 ⟨rfl, hb⟩; refine ⟨_, rfl, ?_⟩; have n0_ := Aside0.mk (blk_below (g := gb185) (o := .cells #[.int .i64 a0_0, .int .i64 a0_1, .int .i64 a0_2, .int .i64 a0_3, .int .i64 a0_4, .int .i64 a0_5, .int .i64 a0_6, .int .i64 a0_7, .int .i64 a0_8, .int .i64 a0_9] 25 (0, 0)) (by (with_reducible repeat first|refine blk_drewN ?_ _|refine blk_drew ?_|refine blk_alloc ?_ _); exact BK185.out) hb); have n1_ := Aside0.mk (below_step (by repeat (first | (with_reducible first | exact HB.out | apply below_alloc | apply pw_below_drewN | apply below_drew1 | refine below_set ?_ GE185.out) | exact HB.out)) hb); clear BK185; clear HB; have BK185 := n0_; have HB := n1_; clear n0_ n1_; (try clear hb); (try clear hb2); (try clear hk); (try clear hi)))
   (try simp only [Act.put, List.setIfInBounds_toArray, List.set_cons_zero, List.set_cons_succ])
   go_cut [4] (fun v4 wc => ∃ (kq : Nat) (x4_149 : Bool), v4 = .bool x4_149 ∧ Aside0 (pylonlaw04_ZoneTurns.j0 kq x4_149 = some r) ∧ Aside0 (kq ≤ k) ∧ Aside0 (wc.heap[gb185]? = some (.cells #[.int .i64 a0_0, .int .i64 a0_1, .int .i64 a0_2, .int .i64 a0_3, .int .i64 a0_4, .int .i64 a0_5, .int .i64 a0_6, .int .i64 a0_7, .int .i64 a0_8, .int .i64 a0_9] 25 (0, 0))) ∧ Aside0 (Below w.heap.size w wc))
   case first =>
    have H := HC150.out
    clear HC150
    by_cases c157 : t189 = 8
    ·rw [if_pos c157] at H
     have c157b0 : (t189 == 8) = true := beq_iff_eq.mpr c157
     have c157b1 : (t189 != 8) = false := bne_eq_false_iff_eq.mpr c157
     clear c157
     (first | rw [c157b0] | (simp only [i64_w, i32_w]; rw [c157b0]) | skip)
     by_cases c158 : t187 = 0
     ·rw [if_pos c158] at H
      have c158b0 : (t187 == 0) = true := beq_iff_eq.mpr c158
      have c158b1 : (t187 != 0) = false := bne_eq_false_iff_eq.mpr c158
      clear c158
      have H' := Aside0.mk H
      clear H
      go_wp2
      go_meet
      case rel => exact ⟨_, ((t188 == 0)), (by first | rfl | (simp; done) | (simp [*]; done)), H', ⟨by first | omega | exact Nat.le_refl _⟩, ⟨by (with_reducible repeat first|refine blk_drewN ?_ _|refine blk_drew ?_|refine blk_alloc ?_ _); exact BK185.out⟩, ⟨by repeat (first | (with_reducible first | exact HB.out | apply below_alloc | apply pw_below_drewN | apply below_drew1 | refine below_set ?_ GE185.out) | exact HB.out)⟩⟩
     ·rw [if_neg c158] at H
      have c158b0 : (t187 == 0) = false := beq_eq_false_iff_ne.mpr c158
      have c158b1 : (t187 != 0) = true := bne_iff_ne.mpr c158
      have H' := Aside0.mk H
      clear H
      go_wp2
      go_meet
      case rel => exact ⟨_, (false), (by first | rfl | (simp; done) | (simp [*]; done)), H', ⟨by first | omega | exact Nat.le_refl _⟩, ⟨by (with_reducible repeat first|refine blk_drewN ?_ _|refine blk_drew ?_|refine blk_alloc ?_ _); exact BK185.out⟩, ⟨by repeat (first | (with_reducible first | exact HB.out | apply below_alloc | apply pw_below_drewN | apply below_drew1 | refine below_set ?_ GE185.out) | exact HB.out)⟩⟩
    ·rw [if_neg c157] at H
     have c157b0 : (t189 == 8) = false := beq_eq_false_iff_ne.mpr c157
     have c157b1 : (t189 != 8) = true := bne_iff_ne.mpr c157
     (first | rw [c157b0] | (simp only [i64_w, i32_w]; rw [c157b0]) | skip)
     have H' := Aside0.mk H
     clear H
     go_wp2
     go_meet
     case rel => exact ⟨_, (false), (by first | rfl | (simp; done) | (simp [*]; done)), H', ⟨by first | omega | exact Nat.le_refl _⟩, ⟨by (with_reducible repeat first|refine blk_drewN ?_ _|refine blk_drew ?_|refine blk_alloc ?_ _); exact BK185.out⟩, ⟨by repeat (first | (with_reducible first | exact HB.out | apply below_alloc | apply pw_below_drewN | apply below_drew1 | refine below_set ?_ GE185.out) | exact HB.out)⟩⟩
   case rest =>
    clear HC150
    try clear c1
    try clear p2
    try clear c3
    try clear c6
    try clear p6
    try clear c7
    try clear c7b0
    try clear c7b1
    try clear c8
    try clear c9
    try clear c10
    try clear c11
    try clear c12
    try clear c13
    try clear c14
    try clear c15
    try clear c16
    try clear c63
    try clear p64
    try clear c65
    try clear c65b0
    try clear c65b1
    try clear c66
    try clear c66b0
    try clear c66b1
    try clear c67
    try clear c67b0
    try clear c67b1
    try clear c68
    try clear c68b0
    try clear c68b1
    try clear c69
    try clear c69b0
    try clear c69b1
    try clear c70
    try clear c71
    try clear c72
    try clear c73
    try clear c75
    try clear c76
    try clear c77
    try clear c79
    try clear c80
    try clear c82
    try clear c85
    try clear c86
    try clear c87
    try clear c88
    try clear c90
    try clear c91
    try clear c92
    try clear c94
    try clear c95
    try clear c97
    try clear c100
    try clear c101
    try clear c102
    try clear c103
    try clear c105
    try clear c106
    try clear c107
    try clear c109
    try clear c110
    try clear c112
    try clear c115
    try clear c116
    try clear c117
    try clear c118
    try clear c120
    try clear c121
    try clear c122
    try clear c124
    try clear c125
    try clear c127
    try clear c129
    try clear c130
    try clear c131
    try clear c132
    try clear c134
    try clear c135
    try clear c136
    try clear c138
    try clear c139
    try clear c141
    try clear c142
    try clear c143
    try clear c144
    try clear c146
    try clear c147
    try clear c148
    try clear c157
    try clear c157b0
    try clear c157b1
    try clear c158
    try clear c158b0
    try clear c158b1
    try clear hcz104_0
    try clear hcz104_1
    try clear hcz104_2
    try clear hcz104_3
    try clear hcz104_4
    try clear hcz108_0
    try clear hcz108_1
    try clear hcz108_2
    try clear hcz108_3
    try clear hcz108_4
    try clear hcz108_5
    try clear hcz108_6
    try clear hcz108_7
    try clear hcz108_8
    try clear hcz108_9
    try clear hcz111_0
    try clear hcz111_1
    try clear hcz111_2
    try clear hcz111_3
    try clear hcz111_4
    try clear hcz113_0
    try clear hcz113_1
    try clear hcz113_2
    try clear hcz113_3
    try clear hcz113_4
    try clear hcz114_0
    try clear hcz114_1
    try clear hcz114_2
    try clear hcz114_3
    try clear hcz114_4
    try clear hcz119_0
    try clear hcz119_1
    try clear hcz119_2
    try clear hcz119_3
    try clear hcz119_4
    try clear hcz123_0
    try clear hcz123_1
    try clear hcz123_2
    try clear hcz123_3
    try clear hcz123_4
    try clear hcz123_5
    try clear hcz123_6
    try clear hcz123_7
    try clear hcz123_8
    try clear hcz123_9
    try clear hcz126_0
    try clear hcz126_1
    try clear hcz126_2
    try clear hcz126_3
    try clear hcz126_4
    try clear hcz128_0
    try clear hcz128_1
    try clear hcz128_2
    try clear hcz128_3
    try clear hcz128_4
    try clear hcz133_0
    try clear hcz133_1
    try clear hcz133_2
    try clear hcz133_3
    try clear hcz133_4
    try clear hcz137_0
    try clear hcz137_1
    try clear hcz137_2
    try clear hcz137_3
    try clear hcz137_4
    try clear hcz137_5
    try clear hcz137_6
    try clear hcz137_7
    try clear hcz137_8
    try clear hcz137_9
    try clear hcz140_0
    try clear hcz140_1
    try clear hcz140_2
    try clear hcz140_3
    try clear hcz140_4
    try clear hcz145_0
    try clear hcz145_1
    try clear hcz145_2
    try clear hcz145_3
    try clear hcz145_4
    try clear hcz149_0
    try clear hcz149_1
    try clear hcz149_2
    try clear hcz149_3
    try clear hcz149_4
    try clear hcz149_5
    try clear hcz149_6
    try clear hcz149_7
    try clear hcz149_8
    try clear hcz149_9
    try clear hcz153_0
    try clear hcz153_1
    try clear hcz153_2
    try clear hcz153_3
    try clear hcz153_4
    try clear hcz153_5
    try clear hcz153_6
    try clear hcz153_7
    try clear hcz153_8
    try clear hcz153_9
    try clear hcz155_0
    try clear hcz155_1
    try clear hcz155_2
    try clear hcz155_3
    try clear hcz155_4
    try clear hcz155_5
    try clear hcz155_6
    try clear hcz155_7
    try clear hcz155_8
    try clear hcz155_9
    try clear hcz74_0
    try clear hcz74_1
    try clear hcz74_2
    try clear hcz74_3
    try clear hcz74_4
    try clear hcz78_0
    try clear hcz78_1
    try clear hcz78_2
    try clear hcz78_3
    try clear hcz78_4
    try clear hcz78_5
    try clear hcz78_6
    try clear hcz78_7
    try clear hcz78_8
    try clear hcz78_9
    try clear hcz81_0
    try clear hcz81_1
    try clear hcz81_2
    try clear hcz81_3
    try clear hcz81_4
    try clear hcz83_0
    try clear hcz83_1
    try clear hcz83_2
    try clear hcz83_3
    try clear hcz83_4
    try clear hcz84_0
    try clear hcz84_1
    try clear hcz84_2
    try clear hcz84_3
    try clear hcz84_4
    try clear hcz89_0
    try clear hcz89_1
    try clear hcz89_2
    try clear hcz89_3
    try clear hcz89_4
    try clear hcz93_0
    try clear hcz93_1
    try clear hcz93_2
    try clear hcz93_3
    try clear hcz93_4
    try clear hcz93_5
    try clear hcz93_6
    try clear hcz93_7
    try clear hcz93_8
    try clear hcz93_9
    try clear hcz96_0
    try clear hcz96_1
    try clear hcz96_2
    try clear hcz96_3
    try clear hcz96_4
    try clear hcz98_0
    try clear hcz98_1
    try clear hcz98_2
    try clear hcz98_3
    try clear hcz98_4
    try clear hcz99_0
    try clear hcz99_1
    try clear hcz99_2
    try clear hcz99_3
    try clear hcz99_4
    try clear hfz104_0
    try clear hfz104_1
    try clear hfz104_2
    try clear hfz104_3
    try clear hfz104_4
    try clear hfz108_0
    try clear hfz108_1
    try clear hfz108_2
    try clear hfz108_3
    try clear hfz108_4
    try clear hfz108_5
    try clear hfz108_6
    try clear hfz108_7
    try clear hfz108_8
    try clear hfz108_9
    try clear hfz111_0
    try clear hfz111_1
    try clear hfz111_2
    try clear hfz111_3
    try clear hfz111_4
    try clear hfz113_0
    try clear hfz113_1
    try clear hfz113_2
    try clear hfz113_3
    try clear hfz113_4
    try clear hfz114_0
    try clear hfz114_1
    try clear hfz114_2
    try clear hfz114_3
    try clear hfz114_4
    try clear hfz119_0
    try clear hfz119_1
    try clear hfz119_2
    try clear hfz119_3
    try clear hfz119_4
    try clear hfz123_0
    try clear hfz123_1
    try clear hfz123_2
    try clear hfz123_3
    try clear hfz123_4
    try clear hfz123_5
    try clear hfz123_6
    try clear hfz123_7
    try clear hfz123_8
    try clear hfz123_9
    try clear hfz126_0
    try clear hfz126_1
    try clear hfz126_2
    try clear hfz126_3
    try clear hfz126_4
    try clear hfz128_0
    try clear hfz128_1
    try clear hfz128_2
    try clear hfz128_3
    try clear hfz128_4
    try clear hfz133_0
    try clear hfz133_1
    try clear hfz133_2
    try clear hfz133_3
    try clear hfz133_4
    try clear hfz137_0
    try clear hfz137_1
    try clear hfz137_2
    try clear hfz137_3
    try clear hfz137_4
    try clear hfz137_5
    try clear hfz137_6
    try clear hfz137_7
    try clear hfz137_8
    try clear hfz137_9
    try clear hfz140_0
    try clear hfz140_1
    try clear hfz140_2
    try clear hfz140_3
    try clear hfz140_4
    try clear hfz145_0
    try clear hfz145_1
    try clear hfz145_2
    try clear hfz145_3
    try clear hfz145_4
    try clear hfz149_0
    try clear hfz149_1
    try clear hfz149_2
    try clear hfz149_3
    try clear hfz149_4
    try clear hfz149_5
    try clear hfz149_6
    try clear hfz149_7
    try clear hfz149_8
    try clear hfz149_9
    try clear hfz153_0
    try clear hfz153_1
    try clear hfz153_2
    try clear hfz153_3
    try clear hfz153_4
    try clear hfz153_5
    try clear hfz153_6
    try clear hfz153_7
    try clear hfz153_8
    try clear hfz153_9
    try clear hfz155_0
    try clear hfz155_1
    try clear hfz155_2
    try clear hfz155_3
    try clear hfz155_4
    try clear hfz155_5
    try clear hfz155_6
    try clear hfz155_7
    try clear hfz155_8
    try clear hfz155_9
    try clear hfz22_8
    try clear hfz22_9
    try clear hfz24_0
    try clear hfz24_1
    try clear hfz24_2
    try clear hfz24_3
    try clear hfz24_4
    try clear hfz24_5
    try clear hfz24_6
    try clear hfz24_7
    try clear hfz24_8
    try clear hfz24_9
    try clear hfz26_0
    try clear hfz26_1
    try clear hfz26_2
    try clear hfz26_3
    try clear hfz26_4
    try clear hfz26_5
    try clear hfz26_6
    try clear hfz26_7
    try clear hfz26_8
    try clear hfz26_9
    try clear hfz34_0
    try clear hfz34_1
    try clear hfz34_2
    try clear hfz34_3
    try clear hfz34_4
    try clear hfz34_5
    try clear hfz34_6
    try clear hfz34_7
    try clear hfz34_8
    try clear hfz34_9
    try clear hfz38_0
    try clear hfz38_1
    try clear hfz38_2
    try clear hfz38_3
    try clear hfz38_4
    try clear hfz39_0
    try clear hfz39_1
    try clear hfz39_2
    try clear hfz39_3
    try clear hfz39_4
    try clear hfz39_5
    try clear hfz39_6
    try clear hfz39_7
    try clear hfz39_8
    try clear hfz39_9
    try clear hfz44_0
    try clear hfz44_1
    try clear hfz44_2
    try clear hfz44_3
    try clear hfz44_4
    try clear hfz45_0
    try clear hfz45_1
    try clear hfz45_2
    try clear hfz45_3
    try clear hfz45_4
    try clear hfz45_5
    try clear hfz45_6
    try clear hfz45_7
    try clear hfz45_8
    try clear hfz45_9
    try clear hfz51_0
    try clear hfz51_1
    try clear hfz51_2
    try clear hfz51_3
    try clear hfz51_4
    try clear hfz52_0
    try clear hfz52_1
    try clear hfz52_2
    try clear hfz52_3
    try clear hfz52_4
    try clear hfz52_5
    try clear hfz52_6
    try clear hfz52_7
    try clear hfz52_8
    try clear hfz52_9
    try clear hfz59_0
    try clear hfz59_1
    try clear hfz59_2
    try clear hfz59_3
    try clear hfz59_4
    try clear hfz74_0
    try clear hfz74_1
    try clear hfz74_2
    try clear hfz74_3
    try clear hfz74_4
    try clear hfz78_0
    try clear hfz78_1
    try clear hfz78_2
    try clear hfz78_3
    try clear hfz78_4
    try clear hfz78_5
    try clear hfz78_6
    try clear hfz78_7
    try clear hfz78_8
    try clear hfz78_9
    try clear hfz81_0
    try clear hfz81_1
    try clear hfz81_2
    try clear hfz81_3
    try clear hfz81_4
    try clear hfz83_0
    try clear hfz83_1
    try clear hfz83_2
    try clear hfz83_3
    try clear hfz83_4
    try clear hfz84_0
    try clear hfz84_1
    try clear hfz84_2
    try clear hfz84_3
    try clear hfz84_4
    try clear hfz89_0
    try clear hfz89_1
    try clear hfz89_2
    try clear hfz89_3
    try clear hfz89_4
    try clear hfz93_0
    try clear hfz93_1
    try clear hfz93_2
    try clear hfz93_3
    try clear hfz93_4
    try clear hfz93_5
    try clear hfz93_6
    try clear hfz93_7
    try clear hfz93_8
    try clear hfz93_9
    try clear hfz96_0
    try clear hfz96_1
    try clear hfz96_2
    try clear hfz96_3
    try clear hfz96_4
    try clear hfz98_0
    try clear hfz98_1
    try clear hfz98_2
    try clear hfz98_3
    try clear hfz98_4
    try clear hfz99_0
    try clear hfz99_1
    try clear hfz99_2
    try clear hfz99_3
    try clear hfz99_4
    try clear p2
    try clear p6
    try clear p64
    obtain ⟨kq, x4_149, rfl, HA, HJ149, BK185, HB⟩ := hcut
    cases kq with
    | zero => exact absurd HA.out (by simp [pylonlaw04_ZoneTurns.j0])
    | succ kj149 =>
     have H := HA.out
     clear HA
     simp only [pylonlaw04_ZoneTurns.j0] at H
     obtain rfl := Option.some.inj H
     go_wp2
     go_ret
     exact ⟨by first | rfl | (simp [errW_none, errW_some] <;> rfl) | (simp [*, errW_none, errW_some] <;> rfl), by repeat (first | (with_reducible first | exact HB.out | apply below_alloc | apply pw_below_drewN | apply below_drew1 | refine below_set ?_ GE185.out) | exact HB.out)⟩
 ·replace c4 := Bool.eq_false_iff.mpr c4
  subst c4
  have H1 : (some false) = some r := by rw [if_neg (show ¬ (false = true) by decide)] at H; exact H
  clear H
  have H := H1
  clear H1
  obtain rfl := Option.some.inj H
  go_enter Try.func3, Try.ntmps3
  go_wp2_with (first | ((with_reducible refine gate_dst (N := 2) rfl ?_); refine box_event ?hg (N := 2) ?hd (cs := #[.int .i64 a0_0, .int .i64 a0_1, .int .i64 a0_2, .int .i64 a0_3, .int .i64 a0_4, .int .i64 a0_5, .int .i64 a0_6, .int .i64 a0_7, .int .i64 a0_8, .int .i64 a0_9]) (t := 25) ?hr ?_; (case hd => rfl); (case hg => rfl); (case hr => first | (go_simp; done) | (go_simp; rfl)); intro gb185 hg w159 hbox hb; have n0_ := Aside0.mk (below_step (by repeat (first | (with_reducible first | exact HB.out | apply below_alloc | apply pw_below_drewN | apply below_drew1) | exact HB.out)) hb); have n1_ := Aside0.mk (hbox); have n2_ := Aside0.mk ((by rw [hg]; exact (below_size (by repeat (first | (with_reducible first | exact HB.out | apply below_alloc | apply pw_below_drewN | apply below_drew1) | exact HB.out))) : w.heap.size ≤ gb185)); have n3_ := Aside0.mk ((by rw [hg]; exact (below_size (by repeat (first | (with_reducible first | exact HB.out | apply below_alloc | apply pw_below_drewN | apply below_drew1) | exact HB.out))) : w.heap.size ≤ gb185)); clear HB; have HB := n0_; have BK185 := n1_; have GW185 := n2_; have GE185 := n3_; clear n0_ n1_ n2_ n3_; clear hb hbox hg) | ((with_reducible refine gate_callee (f := 14) rfl ?_); refine goesL_ (some 16) rfl rfl Try.func14 (by kernel_rfl) rfl #[] rfl (by (try simp only [List.map_toArray, List.map_cons, List.map_nil]); first | done | rfl | (simp only [List.length_drop, List.length_take]; rfl)) ?_; (with_reducible refine (pylonlaw04_awake.calls k  false _ A3.out).mono ?_); rintro e w160 ⟨rfl, hb⟩; refine ⟨_, rfl, ?_⟩; have n0_ := Aside0.mk (blk_below (g := gb185) (o := .cells #[.int .i64 a0_0, .int .i64 a0_1, .int .i64 a0_2, .int .i64 a0_3, .int .i64 a0_4, .int .i64 a0_5, .int .i64 a0_6, .int .i64 a0_7, .int .i64 a0_8, .int .i64 a0_9] 25 (0, 0)) (by (with_reducible repeat first|refine blk_drewN ?_ _|refine blk_drew ?_|refine blk_alloc ?_ _); exact BK185.out) hb); have n1_ := Aside0.mk (below_step (by repeat (first | (with_reducible first | exact HB.out | apply below_alloc | apply pw_below_drewN | apply below_drew1 | refine below_set ?_ GE185.out) | exact HB.out)) hb); clear BK185; clear HB; have BK185 := n0_; have HB := n1_; clear n0_ n1_; (try clear hb); (try clear hb2); (try clear hk); (try clear hi)))
  go_ret
  exact ⟨by first | rfl | (simp [errW_none, errW_some] <;> rfl) | (simp [*, errW_none, errW_some] <;> rfl), by repeat (first | (with_reducible first | exact HB.out | apply below_alloc | apply pw_below_drewN | apply below_drew1 | refine below_set ?_ GE185.out) | exact HB.out)⟩

end Go.Proofs.Ytddkckpfmleffaa.PX
