/- Functions of the program as plain Lean functions, each with a proof that the call in the machine answers just what the plain function says; condition: the plain function answers at all. -/
import Derived.Test.YthhifeefkmaeiaaPXx0
import Derived.Test.YthhifeefkmaeiaaPXx2
import Derived.Test.YthhifeefkmaeiaaPXx3
import Derived.Test.YthhifeefkmaeiaaPXx5
import Derived.Test.YthhifeefkmaeiaaPXx8
import Derived.Test.YthhifeefkmaeiaaPXx10
namespace Go.Proofs.Ythhifeefkmaeiaa.PX
open Go.RowKit Go.Proofs.YthhifeefkmaeiaaW.PrintWords Go.Proofs.YthhifeefkmaeiaaW.PrintLast Go.Proofs.YthhifeefkmaeiaaW.PrintMore
attribute [local go_sem] max2_int min2_int max_two min_two max_three min_three max_four min_four   -- for this text's walks alone
set_option linter.unusedVariables false
set_option linter.unusedSimpArgs false

attribute [local go_sem high] eqA45
/-! ### pylonlaw11_FillHolds: function 7 -/
mutual
def pylonlaw11_FillHolds.l0 : Nat → Int → List (S43) → List (S45) → Int → Int → Int → Int → Int → ByteArray → Int → Int → Int → Int → Int → List (S45) → Option (Bool)
 | 0, _, _, _, _, _, _, _, _, _, _, _, _, _, _, _ => none
 | k + 1, x1, x5, x7, x8, x9, x10, x44, x45, x295000, x295001, x295002, x295003, x295004, x295005, x295006 => if x45 < x44 then (if 0 ≤ x45 then (if x45 < (x5.length : Int) then (if ((rd_T43 x5 x45).f0) < 0 then (pylonlaw11_FillHolds.j1 k x1 x5 x7 x8 x9 x10 x45 x44 x45 true x295000 x295001 x295002 x295003 x295004 x295005 x295006) else (if ((rd_T43 x5 x45).f1) > x295003 then (pylonlaw11_FillHolds.j1 k x1 x5 x7 x8 x9 x10 x45 x44 x45 true x295000 x295001 x295002 x295003 x295004 x295005 x295006) else (if ((rd_T43 x5 x45).f0) ≥ ((rd_T43 x5 x45).f1) then (pylonlaw11_FillHolds.j1 k x1 x5 x7 x8 x9 x10 x45 x44 x45 true x295000 x295001 x295002 x295003 x295004 x295005 x295006) else (if x45 > 0 then (if 0 ≤ (wrap64 (x45 - 1)) then (if (wrap64 (x45 - 1)) < (x5.length : Int) then (pylonlaw11_FillHolds.j1 k x1 x5 x7 x8 x9 x10 x45 x44 x45 (decide (((rd_T43 x5 x45).f0) ≤ ((rd_T43 x5 (wrap64 (x45 - 1))).f1))) x295000 x295001 x295002 x295003 x295004 x295005 x295006) else (none)) else (none)) else (pylonlaw11_FillHolds.j1 k x1 x5 x7 x8 x9 x10 x45 x44 x45 false x295000 x295001 x295002 x295003 x295004 x295005 x295006))))) else (none)) else (none)) else (if x10 = x295003 then (if x8 = 3 then (some ((x7.length : Int) == 0)) else (some false)) else (if (x5.length : Int) > 0 then (pylonlaw11_FillHolds.j2 k x7 x8 x10 (decide (x9 > x1)) x295000 x295001 x295002 x295003 x295004 x295005 x295006) else (pylonlaw11_FillHolds.j2 k x7 x8 x10 false x295000 x295001 x295002 x295003 x295004 x295005 x295006)))
def pylonlaw11_FillHolds.j1 : Nat → Int → List (S43) → List (S45) → Int → Int → Int → Int → Int → Int → Bool → ByteArray → Int → Int → Int → Int → Int → List (S45) → Option (Bool)
 | 0, _, _, _, _, _, _, _, _, _, _, _, _, _, _, _, _, _ => none
 | k + 1, x1, x5, x7, x8, x9, x10, x11, x44, x45, x94, x295000, x295001, x295002, x295003, x295004, x295005, x295006 => if x94 = true then (some false) else (if 0 ≤ x11 then (if x11 < (x5.length : Int) then (pylonlaw11_FillHolds.l0 k x1 x5 x7 x8 (mx x9 (wrap64 (((rd_T43 x5 x11).f1) - ((rd_T43 x5 x11).f0)))) (wrap64 ((wrap64 (x10 + ((rd_T43 x5 x11).f1))) - ((rd_T43 x5 x11).f0))) x44 (wrap64 (x45 + 1)) x295000 x295001 x295002 x295003 x295004 x295005 x295006) else (none)) else (none))
def pylonlaw11_FillHolds.j2 : Nat → List (S45) → Int → Int → Bool → ByteArray → Int → Int → Int → Int → Int → List (S45) → Option (Bool)
 | 0, _, _, _, _, _, _, _, _, _, _, _ => none
 | k + 1, x7, x8, x10, x140, x295000, x295001, x295002, x295003, x295004, x295005, x295006 => if x140 = true then (if x8 = 4 then (some ((x7.length : Int) == 0)) else (some false)) else (if x8 = 0 then (pylonlaw11_FillHolds.j3 k x7 x10 ((x7.length : Int) != x295003) x295000 x295001 x295002 x295003 x295004 x295005 x295006) else (pylonlaw11_FillHolds.j3 k x7 x10 true x295000 x295001 x295002 x295003 x295004 x295005 x295006))
def pylonlaw11_FillHolds.j3 : Nat → List (S45) → Int → Bool → ByteArray → Int → Int → Int → Int → Int → List (S45) → Option (Bool)
 | 0, _, _, _, _, _, _, _, _, _, _ => none
 | k + 1, x7, x10, x156, x295000, x295001, x295002, x295003, x295004, x295005, x295006 => if x156 = true then (some false) else (pylonlaw11_FillHolds.l1 k x7 x10 0 (x7.length : Int) 0 x295000 x295001 x295002 x295003 x295004 x295005 x295006)
def pylonlaw11_FillHolds.l1 : Nat → List (S45) → Int → Int → Int → Int → ByteArray → Int → Int → Int → Int → Int → List (S45) → Option (Bool)
 | 0, _, _, _, _, _, _, _, _, _, _, _, _ => none
 | k + 1, x7, x10, x12, x158, x159, x295000, x295001, x295002, x295003, x295004, x295005, x295006 => if x159 < x158 then (if 0 ≤ x159 then (if x159 < (x7.length : Int) then (if ((rd_T45 x7 x159).f0) = x159 then (if ((rd_T45 x7 x159).f4) = 70 then (pylonlaw11_FillHolds.l1 k x7 x10 (wrap64 (x12 + 1)) x158 (wrap64 (x159 + 1)) x295000 x295001 x295002 x295003 x295004 x295005 x295006) else (pylonlaw11_FillHolds.l1 k x7 x10 x12 x158 (wrap64 (x159 + 1)) x295000 x295001 x295002 x295003 x295004 x295005 x295006)) else (some false)) else (none)) else (none)) else (pylonlaw11_FillHolds.l2 k x7 x10 x12 (x295006.length : Int) 0 x295000 x295001 x295002 x295003 x295004 x295005 x295006)
def pylonlaw11_FillHolds.l2 : Nat → List (S45) → Int → Int → Int → Int → ByteArray → Int → Int → Int → Int → Int → List (S45) → Option (Bool)
 | 0, _, _, _, _, _, _, _, _, _, _, _, _ => none
 | k + 1, x7, x10, x12, x180, x181, x295000, x295001, x295002, x295003, x295004, x295005, x295006 => if x181 < x180 then (if 0 ≤ x181 then (if x181 < (x295006.length : Int) then ((pylonref10_Good.f ((rd_T45 x295006 x181).f0) ((rd_T45 x295006 x181).f1) ((rd_T45 x295006 x181).f2) ((rd_T45 x295006 x181).f3) ((rd_T45 x295006 x181).f4)).bind fun t335 => (if t335 = true then (if 0 ≤ ((rd_T45 x295006 x181).f0) then (if ((rd_T45 x295006 x181).f0) < (x7.length : Int) then (pylonlaw11_FillHolds.j6 k x7 x10 x12 x180 x181 (!(((rd_T45 x7 ((rd_T45 x295006 x181).f0)).f0) == ((rd_T45 x295006 x181).f0)) || (!(((rd_T45 x7 ((rd_T45 x295006 x181).f0)).f1) == ((rd_T45 x295006 x181).f1)) || (!(((rd_T45 x7 ((rd_T45 x295006 x181).f0)).f2) == ((rd_T45 x295006 x181).f2)) || (!(((rd_T45 x7 ((rd_T45 x295006 x181).f0)).f3) == ((rd_T45 x295006 x181).f3)) || (!(((rd_T45 x7 ((rd_T45 x295006 x181).f0)).f4) == ((rd_T45 x295006 x181).f4))))))) x295000 x295001 x295002 x295003 x295004 x295005 x295006) else (none)) else (none)) else (pylonlaw11_FillHolds.j6 k x7 x10 x12 x180 x181 false x295000 x295001 x295002 x295003 x295004 x295005 x295006))) else (none)) else (none)) else (some (x12 == x10))
def pylonlaw11_FillHolds.j6 : Nat → List (S45) → Int → Int → Int → Int → Bool → ByteArray → Int → Int → Int → Int → Int → List (S45) → Option (Bool)
 | 0, _, _, _, _, _, _, _, _, _, _, _, _, _ => none
 | k + 1, x7, x10, x12, x180, x181, x206, x295000, x295001, x295002, x295003, x295004, x295005, x295006 => if x206 = true then (some false) else (pylonlaw11_FillHolds.l2 k x7 x10 x12 x180 (wrap64 (x181 + 1)) x295000 x295001 x295002 x295003 x295004 x295005 x295006)
end
def pylonlaw11_FillHolds.f (k : Nat) (a0_0 : ByteArray) (a0_1 : Int) (a0_2 : Int) (a0_3 : Int) (a0_4 : Int) (a0_5 : Int) (l0_6 : List (S45)) (a1 : Int) : Option (Bool) := (pylonlaw11_awake.f k).bind fun t295 => (if t295 = true then ((pylonlaw11_copyFile.f a0_0 a0_1 a0_2 a0_3 a0_4 a0_5 l0_6).bind fun bt296 => ((fill_Gaps.f bt296.1 bt296.2.1 bt296.2.2.1 bt296.2.2.2.1 bt296.2.2.2.2.1 bt296.2.2.2.2.2.1 bt296.2.2.2.2.2.2).bind fun bt305 => ((pylonlaw11_copyFile.f a0_0 a0_1 a0_2 a0_3 a0_4 a0_5 l0_6).bind fun bt309 => ((fill_Fill.f bt309.1 bt309.2.1 bt309.2.2.1 bt309.2.2.2.1 bt309.2.2.2.2.1 bt309.2.2.2.2.2.1 bt309.2.2.2.2.2.2 a1).bind fun bt318 => (if bt305.2 = 0 then (pylonlaw11_FillHolds.l0 k a1 bt305.1 bt318.1 bt318.2 0 0 (bt305.1.length : Int) 0 a0_0 a0_1 a0_2 a0_3 a0_4 a0_5 l0_6) else (if bt305.2 = 8 then (if bt318.2 = 8 then (some ((bt318.1.length : Int) == 0)) else (some false)) else (some false))))))) else (some false))
theorem pylonlaw11_FillHolds.mono_l : ∀ k, (∀ y0 y1 y2 y3 y4 y5 y6 y7 y8 y9 y10 y11 y12 y13 y14, LeO (pylonlaw11_FillHolds.l0 k y0 y1 y2 y3 y4 y5 y6 y7 y8 y9 y10 y11 y12 y13 y14) (pylonlaw11_FillHolds.l0 (k + 1) y0 y1 y2 y3 y4 y5 y6 y7 y8 y9 y10 y11 y12 y13 y14)) ∧ (∀ y0 y1 y2 y3 y4 y5 y6 y7 y8 y9 y10 y11 y12 y13 y14 y15 y16, LeO (pylonlaw11_FillHolds.j1 k y0 y1 y2 y3 y4 y5 y6 y7 y8 y9 y10 y11 y12 y13 y14 y15 y16) (pylonlaw11_FillHolds.j1 (k + 1) y0 y1 y2 y3 y4 y5 y6 y7 y8 y9 y10 y11 y12 y13 y14 y15 y16)) ∧ (∀ y0 y1 y2 y3 y4 y5 y6 y7 y8 y9 y10, LeO (pylonlaw11_FillHolds.j2 k y0 y1 y2 y3 y4 y5 y6 y7 y8 y9 y10) (pylonlaw11_FillHolds.j2 (k + 1) y0 y1 y2 y3 y4 y5 y6 y7 y8 y9 y10)) ∧ (∀ y0 y1 y2 y3 y4 y5 y6 y7 y8 y9, LeO (pylonlaw11_FillHolds.j3 k y0 y1 y2 y3 y4 y5 y6 y7 y8 y9) (pylonlaw11_FillHolds.j3 (k + 1) y0 y1 y2 y3 y4 y5 y6 y7 y8 y9)) ∧ (∀ y0 y1 y2 y3 y4 y5 y6 y7 y8 y9 y10 y11, LeO (pylonlaw11_FillHolds.l1 k y0 y1 y2 y3 y4 y5 y6 y7 y8 y9 y10 y11) (pylonlaw11_FillHolds.l1 (k + 1) y0 y1 y2 y3 y4 y5 y6 y7 y8 y9 y10 y11)) ∧ (∀ y0 y1 y2 y3 y4 y5 y6 y7 y8 y9 y10 y11, LeO (pylonlaw11_FillHolds.l2 k y0 y1 y2 y3 y4 y5 y6 y7 y8 y9 y10 y11) (pylonlaw11_FillHolds.l2 (k + 1) y0 y1 y2 y3 y4 y5 y6 y7 y8 y9 y10 y11)) ∧ (∀ y0 y1 y2 y3 y4 y5 y6 y7 y8 y9 y10 y11 y12, LeO (pylonlaw11_FillHolds.j6 k y0 y1 y2 y3 y4 y5 y6 y7 y8 y9 y10 y11 y12) (pylonlaw11_FillHolds.j6 (k + 1) y0 y1 y2 y3 y4 y5 y6 y7 y8 y9 y10 y11 y12))
 | 0 => ⟨fun _ _ _ _ _ _ _ _ _ _ _ _ _ _ _ r h => by simp [pylonlaw11_FillHolds.l0] at h, fun _ _ _ _ _ _ _ _ _ _ _ _ _ _ _ _ _ r h => by simp [pylonlaw11_FillHolds.j1] at h, fun _ _ _ _ _ _ _ _ _ _ _ r h => by simp [pylonlaw11_FillHolds.j2] at h, fun _ _ _ _ _ _ _ _ _ _ r h => by simp [pylonlaw11_FillHolds.j3] at h, fun _ _ _ _ _ _ _ _ _ _ _ _ r h => by simp [pylonlaw11_FillHolds.l1] at h, fun _ _ _ _ _ _ _ _ _ _ _ _ r h => by simp [pylonlaw11_FillHolds.l2] at h, fun _ _ _ _ _ _ _ _ _ _ _ _ _ r h => by simp [pylonlaw11_FillHolds.j6] at h⟩
 | k + 1 => by
  obtain ⟨ih0, ih1, ih2, ih3, ih4, ih5, ih6⟩ := pylonlaw11_FillHolds.mono_l k
  refine ⟨?_, ?_, ?_, ?_, ?_, ?_, ?_⟩
  ·intro y0 y1 y2 y3 y4 y5 y6 y7 y8 y9 y10 y11 y12 y13 y14
   unfold pylonlaw11_FillHolds.l0
   repeat' first
   | (with_reducible exact ih0 _ _ _ _ _ _ _ _ _ _ _ _ _ _ _)
   | (with_reducible exact ih1 _ _ _ _ _ _ _ _ _ _ _ _ _ _ _ _ _)
   | (with_reducible exact ih2 _ _ _ _ _ _ _ _ _ _ _)
   | (with_reducible exact ih3 _ _ _ _ _ _ _ _ _ _)
   | (with_reducible exact ih4 _ _ _ _ _ _ _ _ _ _ _ _)
   | (with_reducible exact ih5 _ _ _ _ _ _ _ _ _ _ _ _)
   | (with_reducible exact ih6 _ _ _ _ _ _ _ _ _ _ _ _ _)
   | (with_reducible exact pylonlaw11_awake.mono _)
   | (with_reducible exact LeO.refl _)
   | (with_reducible exact LeO.none _)
   | (with_reducible refine LeO.ite ?_ ?_)
   | (with_reducible refine LeO.bind ?_ (fun _ => ?_))
  ·intro y0 y1 y2 y3 y4 y5 y6 y7 y8 y9 y10 y11 y12 y13 y14 y15 y16
   unfold pylonlaw11_FillHolds.j1
   repeat' first
   | (with_reducible exact ih0 _ _ _ _ _ _ _ _ _ _ _ _ _ _ _)
   | (with_reducible exact ih1 _ _ _ _ _ _ _ _ _ _ _ _ _ _ _ _ _)
   | (with_reducible exact ih2 _ _ _ _ _ _ _ _ _ _ _)
   | (with_reducible exact ih3 _ _ _ _ _ _ _ _ _ _)
   | (with_reducible exact ih4 _ _ _ _ _ _ _ _ _ _ _ _)
   | (with_reducible exact ih5 _ _ _ _ _ _ _ _ _ _ _ _)
   | (with_reducible exact ih6 _ _ _ _ _ _ _ _ _ _ _ _ _)
   | (with_reducible exact pylonlaw11_awake.mono _)
   | (with_reducible exact LeO.refl _)
   | (with_reducible exact LeO.none _)
   | (with_reducible refine LeO.ite ?_ ?_)
   | (with_reducible refine LeO.bind ?_ (fun _ => ?_))
  ·intro y0 y1 y2 y3 y4 y5 y6 y7 y8 y9 y10
   unfold pylonlaw11_FillHolds.j2
   repeat' first
   | (with_reducible exact ih0 _ _ _ _ _ _ _ _ _ _ _ _ _ _ _)
   | (with_reducible exact ih1 _ _ _ _ _ _ _ _ _ _ _ _ _ _ _ _ _)
   | (with_reducible exact ih2 _ _ _ _ _ _ _ _ _ _ _)
   | (with_reducible exact ih3 _ _ _ _ _ _ _ _ _ _)
   | (with_reducible exact ih4 _ _ _ _ _ _ _ _ _ _ _ _)
   | (with_reducible exact ih5 _ _ _ _ _ _ _ _ _ _ _ _)
   | (with_reducible exact ih6 _ _ _ _ _ _ _ _ _ _ _ _ _)
   | (with_reducible exact pylonlaw11_awake.mono _)
   | (with_reducible exact LeO.refl _)
   | (with_reducible exact LeO.none _)
   | (with_reducible refine LeO.ite ?_ ?_)
   | (with_reducible refine LeO.bind ?_ (fun _ => ?_))
  ·intro y0 y1 y2 y3 y4 y5 y6 y7 y8 y9
   unfold pylonlaw11_FillHolds.j3
   repeat' first
   | (with_reducible exact ih0 _ _ _ _ _ _ _ _ _ _ _ _ _ _ _)
   | (with_reducible exact ih1 _ _ _ _ _ _ _ _ _ _ _ _ _ _ _ _ _)
   | (with_reducible exact ih2 _ _ _ _ _ _ _ _ _ _ _)
   | (with_reducible exact ih3 _ _ _ _ _ _ _ _ _ _)
   | (with_reducible exact ih4 _ _ _ _ _ _ _ _ _ _ _ _)
   | (with_reducible exact ih5 _ _ _ _ _ _ _ _ _ _ _ _)
   | (with_reducible exact ih6 _ _ _ _ _ _ _ _ _ _ _ _ _)
   | (with_reducible exact pylonlaw11_awake.mono _)
   | (with_reducible exact LeO.refl _)
   | (with_reducible exact LeO.none _)
   | (with_reducible refine LeO.ite ?_ ?_)
   | (with_reducible refine LeO.bind ?_ (fun _ => ?_))
  ·intro y0 y1 y2 y3 y4 y5 y6 y7 y8 y9 y10 y11
   unfold pylonlaw11_FillHolds.l1
   repeat' first
   | (with_reducible exact ih0 _ _ _ _ _ _ _ _ _ _ _ _ _ _ _)
   | (with_reducible exact ih1 _ _ _ _ _ _ _ _ _ _ _ _ _ _ _ _ _)
   | (with_reducible exact ih2 _ _ _ _ _ _ _ _ _ _ _)
   | (with_reducible exact ih3 _ _ _ _ _ _ _ _ _ _)
   | (with_reducible exact ih4 _ _ _ _ _ _ _ _ _ _ _ _)
   | (with_reducible exact ih5 _ _ _ _ _ _ _ _ _ _ _ _)
   | (with_reducible exact ih6 _ _ _ _ _ _ _ _ _ _ _ _ _)
   | (with_reducible exact pylonlaw11_awake.mono _)
   | (with_reducible exact LeO.refl _)
   | (with_reducible exact LeO.none _)
   | (with_reducible refine LeO.ite ?_ ?_)
   | (with_reducible refine LeO.bind ?_ (fun _ => ?_))
  ·intro y0 y1 y2 y3 y4 y5 y6 y7 y8 y9 y10 y11
   unfold pylonlaw11_FillHolds.l2
   repeat' first
   | (with_reducible exact ih0 _ _ _ _ _ _ _ _ _ _ _ _ _ _ _)
   | (with_reducible exact ih1 _ _ _ _ _ _ _ _ _ _ _ _ _ _ _ _ _)
   | (with_reducible exact ih2 _ _ _ _ _ _ _ _ _ _ _)
   | (with_reducible exact ih3 _ _ _ _ _ _ _ _ _ _)
   | (with_reducible exact ih4 _ _ _ _ _ _ _ _ _ _ _ _)
   | (with_reducible exact ih5 _ _ _ _ _ _ _ _ _ _ _ _)
   | (with_reducible exact ih6 _ _ _ _ _ _ _ _ _ _ _ _ _)
   | (with_reducible exact pylonlaw11_awake.mono _)
   | (with_reducible exact LeO.refl _)
   | (with_reducible exact LeO.none _)
   | (with_reducible refine LeO.ite ?_ ?_)
   | (with_reducible refine LeO.bind ?_ (fun _ => ?_))
  ·intro y0 y1 y2 y3 y4 y5 y6 y7 y8 y9 y10 y11 y12
   unfold pylonlaw11_FillHolds.j6
   repeat' first
   | (with_reducible exact ih0 _ _ _ _ _ _ _ _ _ _ _ _ _ _ _)
   | (with_reducible exact ih1 _ _ _ _ _ _ _ _ _ _ _ _ _ _ _ _ _)
   | (with_reducible exact ih2 _ _ _ _ _ _ _ _ _ _ _)
   | (with_reducible exact ih3 _ _ _ _ _ _ _ _ _ _)
   | (with_reducible exact ih4 _ _ _ _ _ _ _ _ _ _ _ _)
   | (with_reducible exact ih5 _ _ _ _ _ _ _ _ _ _ _ _)
   | (with_reducible exact ih6 _ _ _ _ _ _ _ _ _ _ _ _ _)
   | (with_reducible exact pylonlaw11_awake.mono _)
   | (with_reducible exact LeO.refl _)
   | (with_reducible exact LeO.none _)
   | (with_reducible refine LeO.ite ?_ ?_)
   | (with_reducible refine LeO.bind ?_ (fun _ => ?_))
theorem pylonlaw11_FillHolds.mono : ∀ a0 a1 a2 a3 a4 a5 a6 a7 k, LeO (pylonlaw11_FillHolds.f k a0 a1 a2 a3 a4 a5 a6 a7) (pylonlaw11_FillHolds.f (k + 1) a0 a1 a2 a3 a4 a5 a6 a7) := by
 intro a0 a1 a2 a3 a4 a5 a6 a7 k
 obtain ⟨ih0, ih1, ih2, ih3, ih4, ih5, ih6⟩ := pylonlaw11_FillHolds.mono_l k
 unfold pylonlaw11_FillHolds.f
 repeat' first
   | (with_reducible exact ih0 _ _ _ _ _ _ _ _ _ _ _ _ _ _ _)
   | (with_reducible exact ih1 _ _ _ _ _ _ _ _ _ _ _ _ _ _ _ _ _)
   | (with_reducible exact ih2 _ _ _ _ _ _ _ _ _ _ _)
   | (with_reducible exact ih3 _ _ _ _ _ _ _ _ _ _)
   | (with_reducible exact ih4 _ _ _ _ _ _ _ _ _ _ _ _)
   | (with_reducible exact ih5 _ _ _ _ _ _ _ _ _ _ _ _)
   | (with_reducible exact ih6 _ _ _ _ _ _ _ _ _ _ _ _ _)
   | (with_reducible exact pylonlaw11_awake.mono _)
   | (with_reducible exact LeO.refl _)
   | (with_reducible exact LeO.none _)
   | (with_reducible refine LeO.ite ?_ ?_)
   | (with_reducible refine LeO.bind ?_ (fun _ => ?_))
def pylonlaw11_FillHolds.T11 : Bool × List (List Nat × List Nat) := (true, [([], []), ([], []), ([0, 1], [0, 1]), ([2], [2]), ([3], [3]), ([4], [4]), ([5], [5]), ([6], [6]), ([6], [6]), ([7, 8, 6], [6, 7, 8]), ([9, 6], [6, 9]), ([10, 6], [6, 10]), ([6], [6]), ([12, 6], [6, 12]), ([11, 13, 6], [6, 11, 13]), ([6, 14], [6, 14]), ([15, 6], [15]), ([16], [16]), ([16], [16]), ([17, 18, 16], [16, 17, 18]), ([19, 16], [16, 19]), ([20, 16], [16, 20]), ([16], [16]), ([16], [16]), ([22, 23, 16], [16, 22, 23]), ([24, 16], [16, 24]), ([25, 16], [16, 25]), ([21, 26, 16], [16, 21, 26]), ([16, 27], [16, 27]), ([28, 16], [28]), ([29], [29]), ([30, 29], [29, 30]), ([31, 29, 29], [29, 31]), ([32], [32]), ([32], [32]), ([33, 34, 32], [32, 33, 34]), ([35, 32], [32, 35]), ([36, 32], [32, 36]), ([32], [32]), ([32], [32]), ([39, 32], [32, 39]), ([38, 40, 32], [32, 38, 40]), ([41, 32], [32, 41]), ([42, 32], [32, 42]), ([37, 43, 32], [32, 37, 43]), ([32, 44, 29], [29, 32, 44]), ([29, 45], [29, 45])])
def pylonlaw11_FillHolds.B11 : List Nat := [0, 0, 3, 7, 15, 31, 63, 127, 127, 511, 1023, 2047, 127, 4223, 16383, 32767, 65535, 131071, 131071, 524287, 1048575, 2097151, 131071, 131071, 12713983, 29491199, 63045631, 134217727, 268435455, 536870911, 1073741823, 2147483647, 4294967295, 8589934591, 8589934591, 34359738367, 68719476735, 137438953471, 8589934591, 8589934591, 558345748479, 1932735283199, 4131758538751, 8529805049855, 17592186044415, 35184372088831, 70368744177663]
theorem pylonlaw11_FillHolds.tab11 : rtab .any (opsOf Try.f7 11) = pylonlaw11_FillHolds.T11 := by kernel_rfl
theorem pylonlaw11_FillHolds.bits11 : waitsOk pylonlaw11_FillHolds.T11.2 pylonlaw11_FillHolds.B11 = true := by kernel_rfl
def pylonlaw11_FillHolds.T13 : Bool × List (List Nat × List Nat) := (true, [([], []), ([], []), ([], []), ([1, 2], [1, 2]), ([3], [3]), ([4], [4]), ([], []), ([], []), ([6, 7], [6, 7]), ([8], [8]), ([9], [9]), ([5, 10], [5, 10]), ([0, 11], [0, 11]), ([12, 0, 1, 2, 3, 4, 5, 6, 7, 8, 9, 10, 11, 12], [0, 12])])
def pylonlaw11_FillHolds.B13 : List Nat := [0, 0, 0, 6, 14, 30, 0, 0, 192, 448, 960, 2046, 4095, 8191]
theorem pylonlaw11_FillHolds.tab13 : rtab .any (opsOf Try.f7 13) = pylonlaw11_FillHolds.T13 := by kernel_rfl
theorem pylonlaw11_FillHolds.bits13 : waitsOk pylonlaw11_FillHolds.T13.2 pylonlaw11_FillHolds.B13 = true := by kernel_rfl
def pylonlaw11_FillHolds.T14 : Bool × List (List Nat × List Nat) := (true, [([], []), ([], []), ([], []), ([1, 2], [1, 2]), ([3], [3]), ([4], [4]), ([0, 5], [0, 5]), ([], []), ([], []), ([7, 8], [7, 8]), ([9], [9]), ([10], [10]), ([6, 11], [6, 11]), ([12, 0, 1, 2, 3, 4, 5, 6, 7, 8, 9, 10, 11, 12], [0, 12])])
def pylonlaw11_FillHolds.B14 : List Nat := [0, 0, 0, 6, 14, 30, 63, 0, 0, 384, 896, 1920, 4095, 8191]
theorem pylonlaw11_FillHolds.tab14 : rtab .any (opsOf Try.f7 14) = pylonlaw11_FillHolds.T14 := by kernel_rfl
theorem pylonlaw11_FillHolds.bits14 : waitsOk pylonlaw11_FillHolds.T14.2 pylonlaw11_FillHolds.B14 = true := by kernel_rfl
def pylonlaw11_FillHolds.T34 : Bool × List (List Nat × List Nat) := (true, [([], []), ([0], [0]), ([], []), ([1, 2], [1, 2]), ([3], [3]), ([4], [4]), ([5, 5], [5]), ([6], [6]), ([6], [6]), ([8, 6], [6, 8]), ([6], [6]), ([9, 10, 6], [6, 9, 10]), ([11, 6], [6, 11]), ([12, 6], [6, 12]), ([7, 13, 6], [6, 7, 13]), ([14, 6], [6, 14]), ([6], [6]), ([16, 6], [6, 16]), ([6], [6]), ([17, 18, 6], [6, 17, 18]), ([19, 6], [6, 19]), ([15, 20, 6], [6, 15, 20]), ([6, 21], [6, 21])])
def pylonlaw11_FillHolds.B34 : List Nat := [0, 1, 0, 7, 15, 31, 63, 127, 127, 383, 127, 1919, 3967, 8063, 16383, 32767, 127, 65663, 127, 458879, 983167, 2097151, 4194303]
theorem pylonlaw11_FillHolds.tab34 : rtab .any (opsOf Try.f7 34) = pylonlaw11_FillHolds.T34 := by kernel_rfl
theorem pylonlaw11_FillHolds.bits34 : waitsOk pylonlaw11_FillHolds.T34.2 pylonlaw11_FillHolds.B34 = true := by kernel_rfl
def pylonlaw11_FillHolds.q0 : Array Bool := #[false, false, false, false, false, false, false, false, false, false, false, false, false, false, false, false, false, false, false, false, false, false, false, false, false, false, false, false, false, false, false, false, false, false, false, false, false, false, false, false, false, false, false, false, false, false, false]
def pylonlaw11_FillHolds.q1 : Array Bool := #[true, false, false, false, false, false, false, false, false, false, false, false, false, false, false, false, false, false, false, false, false, false, false, false, false, false, false, false, false, false, false, false, false, false, false, false, false, false, false, false, false, false, false, false, false, false, false]
def pylonlaw11_FillHolds.q2 : Array Bool := #[true, true, false, false, false, false, false, false, false, false, false, false, false, false, false, false, false, false, false, false, false, false, false, false, false, false, false, false, false, false, false, false, false, false, false, false, false, false, false, false, false, false, false, false, false, false, false]
def pylonlaw11_FillHolds.q3 : Array Bool := #[true, true, true, false, false, false, false, false, false, false, false, false, false, false, false, false, false, false, false, false, false, false, false, false, false, false, false, false, false, false, false, false, false, false, false, false, false, false, false, false, false, false, false, false, false, false, false]
def pylonlaw11_FillHolds.q4 : Array Bool := #[true, true, true, true, false, false, false, false, false, false, false, false, false, false, false, false, false, false, false, false, false, false, false, false, false, false, false, false, false, false, false, false, false, false, false, false, false, false, false, false, false, false, false, false, false, false, false]
def pylonlaw11_FillHolds.q5 : Array Bool := #[true, true, true, true, true, false, false, false, false, false, false, false, false, false, false, false, false, false, false, false, false, false, false, false, false, false, false, false, false, false, false, false, false, false, false, false, false, false, false, false, false, false, false, false, false, false, false]
def pylonlaw11_FillHolds.q6 : Array Bool := #[true, true, true, true, true, true, false, false, false, false, false, false, false, false, false, false, false, false, false, false, false, false, false, false, false, false, false, false, false, false, false, false, false, false, false, false, false, false, false, false, false, false, false, false, false, false, false]
def pylonlaw11_FillHolds.q7 : Array Bool := #[true, true, true, true, true, true, true, false, false, false, false, false, false, false, false, false, false, false, false, false, false, false, false, false, false, false, false, false, false, false, false, false, false, false, false, false, false, false, false, false, false, false, false, false, false, false, false]
def pylonlaw11_FillHolds.q8 : Array Bool := #[true, true, true, true, true, true, true, true, false, false, false, false, false, false, false, false, false, false, false, false, false, false, false, false, false, false, false, false, false, false, false, false, false, false, false, false, false, false, false, false, false, false, false, false, false, false, false]
def pylonlaw11_FillHolds.q9 : Array Bool := #[true, true, true, true, true, true, true, true, true, false, false, false, false, false, false, false, false, false, false, false, false, false, false, false, false, false, false, false, false, false, false, false, false, false, false, false, false, false, false, false, false, false, false, false, false, false, false]
def pylonlaw11_FillHolds.q10 : Array Bool := #[true, true, true, true, true, true, true, true, true, true, false, false, false, false, false, false, false, false, false, false, false, false, false, false, false, false, false, false, false, false, false, false, false, false, false, false, false, false, false, false, false, false, false, false, false, false, false]
def pylonlaw11_FillHolds.q11 : Array Bool := #[true, true, true, true, true, true, true, true, true, true, true, false, false, false, false, false, false, false, false, false, false, false, false, false, false, false, false, false, false, false, false, false, false, false, false, false, false, false, false, false, false, false, false, false, false, false, false]
def pylonlaw11_FillHolds.q12 : Array Bool := #[true, true, true, true, true, true, true, true, true, true, true, true, true, false, false, false, false, false, false, false, false, false, false, false, false, false, false, false, false, false, false, false, false, false, false, false, false, false, false, false, false, false, false, false, false, false, false]
def pylonlaw11_FillHolds.q13 : Array Bool := #[true, true, true, true, true, true, true, true, true, true, true, true, true, true, false, false, false, false, false, false, false, false, false, false, false, false, false, false, false, false, false, false, false, false, false, false, false, false, false, false, false, false, false, false, false, false, false]
def pylonlaw11_FillHolds.q14 : Array Bool := #[true, true, true, true, true, true, true, true, true, true, true, true, true, true, true, false, false, false, false, false, false, false, false, false, false, false, false, false, false, false, false, false, false, false, false, false, false, false, false, false, false, false, false, false, false, false, false]
def pylonlaw11_FillHolds.q15 : Array Bool := #[true, true, true, true, true, true, true, true, true, true, true, true, true, true, true, true, false, false, false, false, false, false, false, false, false, false, false, false, false, false, false, false, false, false, false, false, false, false, false, false, false, false, false, false, false, false, false]
def pylonlaw11_FillHolds.q16 : Array Bool := #[true, true, true, true, true, true, true, true, true, true, true, true, true, true, true, true, true, false, false, false, false, false, false, false, false, false, false, false, false, false, false, false, false, false, false, false, false, false, false, false, false, false, false, false, false, false, false]
def pylonlaw11_FillHolds.q17 : Array Bool := #[true, true, true, true, true, true, true, true, true, true, true, true, true, true, true, true, true, true, false, false, false, false, false, false, false, false, false, false, false, false, false, false, false, false, false, false, false, false, false, false, false, false, false, false, false, false, false]
def pylonlaw11_FillHolds.q18 : Array Bool := #[true, true, true, true, true, true, true, true, true, true, true, true, true, true, true, true, true, true, true, false, false, false, false, false, false, false, false, false, false, false, false, false, false, false, false, false, false, false, false, false, false, false, false, false, false, false, false]
def pylonlaw11_FillHolds.q19 : Array Bool := #[true, true, true, true, true, true, true, true, true, true, true, true, true, true, true, true, true, true, true, true, false, false, false, false, false, false, false, false, false, false, false, false, false, false, false, false, false, false, false, false, false, false, false, false, false, false, false]
def pylonlaw11_FillHolds.q20 : Array Bool := #[true, true, true, true, true, true, true, true, true, true, true, true, true, true, true, true, true, true, true, true, true, false, false, false, false, false, false, false, false, false, false, false, false, false, false, false, false, false, false, false, false, false, false, false, false, false, false]
def pylonlaw11_FillHolds.q21 : Array Bool := #[true, true, true, true, true, true, true, true, true, true, true, true, true, true, true, true, true, true, true, true, true, true, false, false, false, false, false, false, false, false, false, false, false, false, false, false, false, false, false, false, false, false, false, false, false, false, false]
def pylonlaw11_FillHolds.q22 : Array Bool := #[true, true, true, true, true, true, true, true, true, true, true, true, true, true, true, true, true, true, true, true, true, true, true, false, false, false, false, false, false, false, false, false, false, false, false, false, false, false, false, false, false, false, false, false, false, false, false]
def pylonlaw11_FillHolds.q23 : Array Bool := #[true, true, true, true, true, true, true, true, true, true, true, true, true, true, true, true, true, true, true, true, true, true, true, true, false, false, false, false, false, false, false, false, false, false, false, false, false, false, false, false, false, false, false, false, false, false, false]
def pylonlaw11_FillHolds.q24 : Array Bool := #[true, true, true, true, true, true, true, true, true, true, true, true, true, true, true, true, true, true, true, true, true, true, true, true, true, false, false, false, false, false, false, false, false, false, false, false, false, false, false, false, false, false, false, false, false, false, false]
def pylonlaw11_FillHolds.q25 : Array Bool := #[true, true, true, true, true, true, true, true, true, true, true, true, true, true, true, true, true, true, true, true, true, true, true, true, true, true, false, false, false, false, false, false, false, false, false, false, false, false, false, false, false, false, false, false, false, false, false]
def pylonlaw11_FillHolds.q26 : Array Bool := #[true, true, true, true, true, true, true, true, true, true, true, true, true, true, true, true, true, true, true, true, true, true, true, true, true, true, true, false, false, false, false, false, false, false, false, false, false, false, false, false, false, false, false, false, false, false, false]
def pylonlaw11_FillHolds.q27 : Array Bool := #[true, true, true, true, true, true, true, true, true, true, true, true, true, true, true, true, true, true, true, true, true, true, true, true, true, true, true, true, false, false, false, false, false, false, false, false, false, false, false, false, false, false, false, false, false, false, false]
def pylonlaw11_FillHolds.q28 : Array Bool := #[true, true, true, true, true, true, true, true, true, true, true, true, true, true, true, true, true, true, true, true, true, true, true, true, true, true, true, true, true, false, false, false, false, false, false, false, false, false, false, false, false, false, false, false, false, false, false]
def pylonlaw11_FillHolds.q29 : Array Bool := #[true, true, true, true, true, true, true, true, true, true, true, true, true, true, true, true, true, true, true, true, true, true, true, true, true, true, true, true, true, true, false, false, false, false, false, false, false, false, false, false, false, false, false, false, false, false, false]
def pylonlaw11_FillHolds.q30 : Array Bool := #[true, true, true, true, true, true, true, true, true, true, true, true, true, true, true, true, true, true, true, true, true, true, true, true, true, true, true, true, true, true, true, false, false, false, false, false, false, false, false, false, false, false, false, false, false, false, false]
def pylonlaw11_FillHolds.q31 : Array Bool := #[true, true, true, true, true, true, true, true, true, true, true, true, true, true, true, true, true, true, true, true, true, true, true, true, true, true, true, true, true, true, true, true, false, false, false, false, false, false, false, false, false, false, false, false, false, false, false]
def pylonlaw11_FillHolds.q32 : Array Bool := #[true, true, true, true, true, true, true, true, true, true, true, true, true, true, true, true, true, true, true, true, true, true, true, true, true, true, true, true, true, true, true, true, true, false, false, false, false, false, false, false, false, false, false, false, false, false, false]
def pylonlaw11_FillHolds.q33 : Array Bool := #[true, true, true, true, true, true, true, true, true, true, true, true, true, true, true, true, true, true, true, true, true, true, true, true, true, true, true, true, true, true, true, true, true, true, false, false, false, false, false, false, false, false, false, false, false, false, false]
def pylonlaw11_FillHolds.q34 : Array Bool := #[true, true, true, true, true, true, true, true, true, true, true, true, true, true, true, true, true, true, true, true, true, true, true, true, true, true, true, true, true, true, true, true, true, true, true, false, false, false, false, false, false, false, false, false, false, false, false]
def pylonlaw11_FillHolds.q35 : Array Bool := #[true, true, true, true, true, true, true, true, true, true, true, true, true, true, true, true, true, true, true, true, true, true, true, true, true, true, true, true, true, true, true, true, true, true, true, true, false, false, false, false, false, false, false, false, false, false, false]
def pylonlaw11_FillHolds.q36 : Array Bool := #[true, true, true, true, true, true, true, true, true, true, true, true, true, true, true, true, true, true, true, true, true, true, true, true, true, true, true, true, true, true, true, true, true, true, true, true, true, false, false, false, false, false, false, false, false, false, false]
def pylonlaw11_FillHolds.q37 : Array Bool := #[true, true, true, true, true, true, true, true, true, true, true, true, true, true, true, true, true, true, true, true, true, true, true, true, true, true, true, true, true, true, true, true, true, true, true, true, true, true, false, false, false, false, false, false, false, false, false]
def pylonlaw11_FillHolds.q38 : Array Bool := #[true, true, true, true, true, true, true, true, true, true, true, true, true, true, true, true, true, true, true, true, true, true, true, true, true, true, true, true, true, true, true, true, true, true, true, true, true, true, true, false, false, false, false, false, false, false, false]
def pylonlaw11_FillHolds.q39 : Array Bool := #[true, true, true, true, true, true, true, true, true, true, true, true, true, true, true, true, true, true, true, true, true, true, true, true, true, true, true, true, true, true, true, true, true, true, true, true, true, true, true, true, false, false, false, false, false, false, false]
def pylonlaw11_FillHolds.q40 : Array Bool := #[true, true, true, true, true, true, true, true, true, true, true, true, true, true, true, true, true, true, true, true, true, true, true, true, true, true, true, true, true, true, true, true, true, true, true, true, true, true, true, true, true, false, false, false, false, false, false]
def pylonlaw11_FillHolds.q41 : Array Bool := #[true, true, true, true, true, true, true, true, true, true, true, true, true, true, true, true, true, true, true, true, true, true, true, true, true, true, true, true, true, true, true, true, true, true, true, true, true, true, true, true, true, true, false, false, false, false, false]
def pylonlaw11_FillHolds.q42 : Array Bool := #[true, true, true, true, true, true, true, true, true, true, true, true, true, true, true, true, true, true, true, true, true, true, true, true, true, true, true, true, true, true, true, true, true, true, true, true, true, true, true, true, true, true, true, false, false, false, false]
def pylonlaw11_FillHolds.q43 : Array Bool := #[true, true, true, true, true, true, true, true, true, true, true, true, true, true, true, true, true, true, true, true, true, true, true, true, true, true, true, true, true, true, true, true, true, true, true, true, true, true, true, true, true, true, true, true, false, false, false]
def pylonlaw11_FillHolds.q44 : Array Bool := #[true, true, true, true, true, true, true, true, true, true, true, true, true, true, true, true, true, true, true, true, true, true, true, true, true, true, true, true, true, true, true, true, true, true, true, true, true, true, true, true, true, true, true, true, true, false, false]
def pylonlaw11_FillHolds.q45 : Array Bool := #[true, true, true, true, true, true, true, true, true, true, true, true, true, true, true, true, true, true, true, true, true, true, true, true, true, true, true, true, true, true, true, true, true, true, true, true, true, true, true, true, true, true, true, true, true, true, false]
def pylonlaw11_FillHolds.q46 : Array Bool := #[true, true, true, true, true, true, true, true, true, true, true, true, true, true, true, true, true, true, true, true, true, true, true, true, true, true, true, true, true, true, true, true, true, true, true, true, true, true, true, true, true, true, true, true, true, true, true]
def pylonlaw11_FillHolds.q47 : Array Bool := #[true, true, true, true, true, true, true, true, true, true, true, false, true, false, false, false, false, false, false, false, false, false, false, false, false, false, false, false, false, false, false, false, false, false, false, false, false, false, false, false, false, false, false, false, false, false, false]
def pylonlaw11_FillHolds.q48 : Array Bool := #[true, true, true, true, true, true, true, true, true, true, true, true, true, true, true, true, true, true, true, true, true, false, true, false, false, false, false, false, false, false, false, false, false, false, false, false, false, false, false, false, false, false, false, false, false, false, false]
def pylonlaw11_FillHolds.q49 : Array Bool := #[true, true, true, true, true, true, true, true, true, true, true, true, true, true, true, true, true, true, true, true, true, false, true, true, false, false, false, false, false, false, false, false, false, false, false, false, false, false, false, false, false, false, false, false, false, false, false]
def pylonlaw11_FillHolds.q50 : Array Bool := #[true, true, true, true, true, true, true, true, true, true, true, true, true, true, true, true, true, true, true, true, true, false, true, true, true, false, false, false, false, false, false, false, false, false, false, false, false, false, false, false, false, false, false, false, false, false, false]
def pylonlaw11_FillHolds.q51 : Array Bool := #[true, true, true, true, true, true, true, true, true, true, true, true, true, true, true, true, true, true, true, true, true, false, true, true, true, true, false, false, false, false, false, false, false, false, false, false, false, false, false, false, false, false, false, false, false, false, false]
def pylonlaw11_FillHolds.q52 : Array Bool := #[false, false, false, false, false, false, false, false, false, false, false, false, false, false]
def pylonlaw11_FillHolds.q53 : Array Bool := #[true, false, false, false, false, false, false, false, false, false, false, false, false, false]
def pylonlaw11_FillHolds.q54 : Array Bool := #[true, true, false, false, false, false, false, false, false, false, false, false, false, false]
def pylonlaw11_FillHolds.q55 : Array Bool := #[true, true, true, false, false, false, false, false, false, false, false, false, false, false]
def pylonlaw11_FillHolds.q56 : Array Bool := #[true, true, true, true, false, false, false, false, false, false, false, false, false, false]
def pylonlaw11_FillHolds.q57 : Array Bool := #[true, true, true, true, true, false, false, false, false, false, false, false, false, false]
def pylonlaw11_FillHolds.q58 : Array Bool := #[true, true, true, true, true, true, true, true, true, true, true, false, false, false]
def pylonlaw11_FillHolds.q59 : Array Bool := #[true, true, true, true, true, true, true, true, true, true, true, true, false, false]
def pylonlaw11_FillHolds.q60 : Array Bool := #[true, true, true, true, true, true, true, true, true, true, true, true, true, false]
def pylonlaw11_FillHolds.q61 : Array Bool := #[true, true, true, true, true, true, true, true, true, true, true, true, true, true]
def pylonlaw11_FillHolds.q62 : Array Bool := #[false, false, false, false, false, false, false, false, false, false, false, false, false, false, false, false, false, false, false, false, false, false, false]
def pylonlaw11_FillHolds.q63 : Array Bool := #[true, false, false, false, false, false, false, false, false, false, false, false, false, false, false, false, false, false, false, false, false, false, false]
def pylonlaw11_FillHolds.q64 : Array Bool := #[true, false, true, false, false, false, false, false, false, false, false, false, false, false, false, false, false, false, false, false, false, false, false]
def pylonlaw11_FillHolds.q65 : Array Bool := #[true, true, true, false, false, false, false, false, false, false, false, false, false, false, false, false, false, false, false, false, false, false, false]
def pylonlaw11_FillHolds.q66 : Array Bool := #[true, true, true, true, false, false, false, false, false, false, false, false, false, false, false, false, false, false, false, false, false, false, false]
def pylonlaw11_FillHolds.q67 : Array Bool := #[true, true, true, true, true, false, false, false, false, false, false, false, false, false, false, false, false, false, false, false, false, false, false]
def pylonlaw11_FillHolds.q68 : Array Bool := #[true, true, true, true, true, true, false, false, false, false, false, false, false, false, false, false, false, false, false, false, false, false, false]
def pylonlaw11_FillHolds.q69 : Array Bool := #[true, true, true, true, true, true, true, false, false, false, false, false, false, false, false, false, false, false, false, false, false, false, false]
def pylonlaw11_FillHolds.q70 : Array Bool := #[true, true, true, true, true, true, true, true, false, false, false, false, false, false, false, false, false, false, false, false, false, false, false]
def pylonlaw11_FillHolds.q71 : Array Bool := #[true, true, true, true, true, true, true, true, true, false, false, false, false, false, false, false, false, false, false, false, false, false, false]
def pylonlaw11_FillHolds.q72 : Array Bool := #[true, true, true, true, true, true, true, true, true, true, true, true, true, true, true, true, true, true, true, false, false, false, false]
def pylonlaw11_FillHolds.q73 : Array Bool := #[true, true, true, true, true, true, true, true, true, true, true, true, true, true, true, true, true, true, true, true, false, false, false]
def pylonlaw11_FillHolds.q74 : Array Bool := #[true, true, true, true, true, true, true, true, true, true, true, true, true, true, true, true, true, true, true, true, true, false, false]
def pylonlaw11_FillHolds.q75 : Array Bool := #[true, true, true, true, true, true, true, true, true, true, true, true, true, true, true, true, true, true, true, true, true, true, false]
def pylonlaw11_FillHolds.q76 : Array Bool := #[true, true, true, true, true, true, true, true, true, true, true, true, true, true, true, true, true, true, true, true, true, true, true]
set_option maxHeartbeats 8000000 in
set_option maxRecDepth 100000 in
theorem pylonlaw11_FillHolds.calls (k : Nat) (a0_0 : ByteArray) (a0_1 : Int) (a0_2 : Int) (a0_3 : Int) (a0_4 : Int) (a0_5 : Int) (A0_6 : Option Addr) (c0_6 : Nat) (l0_6 : List (S45)) (a1 : Int) (r : Bool) (w : World) (hr0_6 : Kd.C k45 w A0_6 l0_6.length l0_6) (hc0_6 : l0_6.length ≤ c0_6) (h : pylonlaw11_FillHolds.f k a0_0 a0_1 a0_2 a0_3 a0_4 a0_5 l0_6 a1 = some r) :
  Calls Try.prog 7 #[.agg #[.string a0_0, .int .i64 a0_1, .int .i64 a0_2, .int .i64 a0_3, .int .i64 a0_4, .int .i64 a0_5, .slice A0_6 l0_6.length c0_6], .int .i64 a1] w fun e w' => e = .returned (.bool r) ∧ Below w.heap.size w w' := by
 have hu31 := Try.underlying31
 have hu45 := Try.underlying45
 have HR0_6 := AX hr0_6
 have HC0_6 := AX hc0_6
 clear hr0_6 hc0_6
 have HB := AX (Below.refl w.heap.size w)
 have H : ((pylonlaw11_awake.f k).bind fun t295 => (if t295 = true then ((pylonlaw11_copyFile.f a0_0 a0_1 a0_2 a0_3 a0_4 a0_5 l0_6).bind fun bt296 => ((fill_Gaps.f bt296.1 bt296.2.1 bt296.2.2.1 bt296.2.2.2.1 bt296.2.2.2.2.1 bt296.2.2.2.2.2.1 bt296.2.2.2.2.2.2).bind fun bt305 => ((pylonlaw11_copyFile.f a0_0 a0_1 a0_2 a0_3 a0_4 a0_5 l0_6).bind fun bt309 => ((fill_Fill.f bt309.1 bt309.2.1 bt309.2.2.1 bt309.2.2.2.1 bt309.2.2.2.2.1 bt309.2.2.2.2.2.1 bt309.2.2.2.2.2.2 a1).bind fun bt318 => (if bt305.2 = 0 then (pylonlaw11_FillHolds.l0 k a1 bt305.1 bt318.1 bt318.2 0 0 (bt305.1.length : Int) 0 a0_0 a0_1 a0_2 a0_3 a0_4 a0_5 l0_6) else (if bt305.2 = 8 then (if bt318.2 = 8 then (some ((bt318.1.length : Int) == 0)) else (some false)) else (some false))))))) else (some false))) = some r := h
 clear h
 replace H := Option.bind_eq_some_iff.mp H
 obtain ⟨t295, A30, H⟩ := H
 replace H : (if t295 = true then ((pylonlaw11_copyFile.f a0_0 a0_1 a0_2 a0_3 a0_4 a0_5 l0_6).bind fun bt296 => ((fill_Gaps.f bt296.1 bt296.2.1 bt296.2.2.1 bt296.2.2.2.1 bt296.2.2.2.2.1 bt296.2.2.2.2.2.1 bt296.2.2.2.2.2.2).bind fun bt305 => ((pylonlaw11_copyFile.f a0_0 a0_1 a0_2 a0_3 a0_4 a0_5 l0_6).bind fun bt309 => ((fill_Fill.f bt309.1 bt309.2.1 bt309.2.2.1 bt309.2.2.2.1 bt309.2.2.2.2.1 bt309.2.2.2.2.2.1 bt309.2.2.2.2.2.2 a1).bind fun bt318 => (if bt305.2 = 0 then (pylonlaw11_FillHolds.l0 k a1 bt305.1 bt318.1 bt318.2 0 0 (bt305.1.length : Int) 0 a0_0 a0_1 a0_2 a0_3 a0_4 a0_5 l0_6) else (if bt305.2 = 8 then (if bt318.2 = 8 then (some ((bt318.1.length : Int) == 0)) else (some false)) else (some false))))))) else (some false)) = some r := H
 have A3 := AX A30
 clear A30
 by_cases c4 : t295 = true
 ·subst c4
  have H1 : ((pylonlaw11_copyFile.f a0_0 a0_1 a0_2 a0_3 a0_4 a0_5 l0_6).bind fun bt296 => ((fill_Gaps.f bt296.1 bt296.2.1 bt296.2.2.1 bt296.2.2.2.1 bt296.2.2.2.2.1 bt296.2.2.2.2.2.1 bt296.2.2.2.2.2.2).bind fun bt305 => ((pylonlaw11_copyFile.f a0_0 a0_1 a0_2 a0_3 a0_4 a0_5 l0_6).bind fun bt309 => ((fill_Fill.f bt309.1 bt309.2.1 bt309.2.2.1 bt309.2.2.2.1 bt309.2.2.2.2.1 bt309.2.2.2.2.2.1 bt309.2.2.2.2.2.2 a1).bind fun bt318 => (if bt305.2 = 0 then (pylonlaw11_FillHolds.l0 k a1 bt305.1 bt318.1 bt318.2 0 0 (bt305.1.length : Int) 0 a0_0 a0_1 a0_2 a0_3 a0_4 a0_5 l0_6) else (if bt305.2 = 8 then (if bt318.2 = 8 then (some ((bt318.1.length : Int) == 0)) else (some false)) else (some false))))))) = some r := by rw [if_pos rfl] at H; exact H
  clear H
  have H := H1
  clear H1
  replace H := Option.bind_eq_some_iff.mp H
  obtain ⟨⟨t296, t297, t298, t299, t300, t301, t302⟩, A50, H⟩ := H
  replace H : ((fill_Gaps.f t296 t297 t298 t299 t300 t301 t302).bind fun bt305 => ((pylonlaw11_copyFile.f a0_0 a0_1 a0_2 a0_3 a0_4 a0_5 l0_6).bind fun bt309 => ((fill_Fill.f bt309.1 bt309.2.1 bt309.2.2.1 bt309.2.2.2.1 bt309.2.2.2.2.1 bt309.2.2.2.2.2.1 bt309.2.2.2.2.2.2 a1).bind fun bt318 => (if bt305.2 = 0 then (pylonlaw11_FillHolds.l0 k a1 bt305.1 bt318.1 bt318.2 0 0 (bt305.1.length : Int) 0 a0_0 a0_1 a0_2 a0_3 a0_4 a0_5 l0_6) else (if bt305.2 = 8 then (if bt318.2 = 8 then (some ((bt318.1.length : Int) == 0)) else (some false)) else (some false)))))) = some r := H
  have A5 := AX A50
  clear A50
  replace H := Option.bind_eq_some_iff.mp H
  obtain ⟨⟨t305, t308⟩, A60, H⟩ := H
  replace H : ((pylonlaw11_copyFile.f a0_0 a0_1 a0_2 a0_3 a0_4 a0_5 l0_6).bind fun bt309 => ((fill_Fill.f bt309.1 bt309.2.1 bt309.2.2.1 bt309.2.2.2.1 bt309.2.2.2.2.1 bt309.2.2.2.2.2.1 bt309.2.2.2.2.2.2 a1).bind fun bt318 => (if t308 = 0 then (pylonlaw11_FillHolds.l0 k a1 t305 bt318.1 bt318.2 0 0 (t305.length : Int) 0 a0_0 a0_1 a0_2 a0_3 a0_4 a0_5 l0_6) else (if t308 = 8 then (if bt318.2 = 8 then (some ((bt318.1.length : Int) == 0)) else (some false)) else (some false))))) = some r := H
  have A6 := AX A60
  clear A60
  replace H := Option.bind_eq_some_iff.mp H
  obtain ⟨⟨t309, t310, t311, t312, t313, t314, t315⟩, A70, H⟩ := H
  replace H : ((fill_Fill.f t309 t310 t311 t312 t313 t314 t315 a1).bind fun bt318 => (if t308 = 0 then (pylonlaw11_FillHolds.l0 k a1 t305 bt318.1 bt318.2 0 0 (t305.length : Int) 0 a0_0 a0_1 a0_2 a0_3 a0_4 a0_5 l0_6) else (if t308 = 8 then (if bt318.2 = 8 then (some ((bt318.1.length : Int) == 0)) else (some false)) else (some false)))) = some r := H
  have A7 := AX A70
  clear A70
  replace H := Option.bind_eq_some_iff.mp H
  obtain ⟨⟨t318, t321⟩, A80, H⟩ := H
  replace H : (if t308 = 0 then (pylonlaw11_FillHolds.l0 k a1 t305 t318 t321 0 0 (t305.length : Int) 0 a0_0 a0_1 a0_2 a0_3 a0_4 a0_5 l0_6) else (if t308 = 8 then (if t321 = 8 then (some ((t318.length : Int) == 0)) else (some false)) else (some false))) = some r := H
  have A8 := AX A80
  clear A80
  by_cases c9 : t308 = 0
  ·rw [if_pos c9] at H
   have c9b0 : (t308 == 0) = true := beq_iff_eq.mpr c9
   have c9b1 : (t308 != 0) = false := bne_eq_false_iff_eq.mpr c9
   clear c9
   have H' := AX H
   clear H
   go_enter Try.func7, Try.ntmps7
   go_wp2_with (first | ((with_reducible refine gate_dst (N := 2) rfl ?_); (try (refine gate_guard (by rfl) ?_; dsimp only)); refine bx 2 #[.string a0_0, .int .i64 a0_1, .int .i64 a0_2, .int .i64 a0_3, .int .i64 a0_4, .int .i64 a0_5, .slice A0_6 l0_6.length c0_6] 31 ?_; intro gb294 hg w10 hbox hb; have BK294 := AX (hbox); have GW294 := gwl (w := w) hg bw; have GE294 := GW294; replace HB := AX (below_step bw hb); clear hb hbox hg) | ((with_reducible refine gate_callee (f := 10) rfl ?_); refine gL (some 15) Try.func10 #[] ?_; (with_reducible refine (pylonlaw11_awake.calls k  true _ A3.out).mono ?_); rintro e w11 ⟨rfl, hb⟩; refine ⟨_, rfl, ?_⟩; replace BK294 := AX (bkb BK294 hb); replace HB := AX (below_step bw hb); (try clear hb); obtain ⟨hcz12_0, hcz12_1, hcz12_2, hcz12_3, hcz12_4, hcz12_5, hcz12_6⟩ := blkC7 (w := w11) BK294.out; obtain ⟨hfz12_0, hfz12_1, hfz12_2, hfz12_3, hfz12_4, hfz12_5, hfz12_6⟩ := blkF7 BK294.out) | ((with_reducible refine gate_callee (f := 16) rfl ?_); refine gL (some 19) Try.func16 #[.agg #[.string a0_0, .int .i64 a0_1, .int .i64 a0_2, .int .i64 a0_3, .int .i64 a0_4, .int .i64 a0_5, .slice A0_6 l0_6.length c0_6]] ?_; (with_reducible refine (pylonlaw11_copyFile.calls a0_0 a0_1 a0_2 a0_3 a0_4 a0_5 _ _ l0_6 t296 t297 t298 t299 t300 t301 t302 _ ?side1 ?side2 A5.out).mono ?_); (case side1 => repeat (first | exact (Kd.C_below HR0_6.out HB.out) | (with_reducible refine Kd.C_alloc ?_ _) | (with_reducible refine Kd.C_drewN ?_ _) | (with_reducible refine Kd.C_drew ?_))); (case side2 => exact HC0_6.out); rintro e w13 ⟨v303, rfl, ho0, hb⟩; refine ⟨_, rfl, ?_⟩; have HO304 := AX (Kd.R_lower ho0 (below_size bw)); replace BK294 := AX (bkb BK294 hb); replace HB := AX (below_step bw hb); (try clear hb); (try clear hb2); (try clear hk); (try clear hi); (try clear ho0); obtain ⟨Ao14, co14, eo14⟩ := Kd.R_slice HO304.out; subst eo14) | ((with_reducible refine gate_callee (f := 15) rfl ?_); refine gL (some 20) Try.func15 #[.agg #[.string t296, .int .i64 t297, .int .i64 t298, .int .i64 t299, .int .i64 t300, .int .i64 t301, .slice Ao14 t302.length co14]] ?_; (with_reducible refine (fill_Gaps.calls t296 t297 t298 t299 t300 t301 _ _ t302 t305 t308 _ ?side1 ?side2 A6.out).mono ?_); (case side1 => repeat (first | exact (Kd.R_reads' HO304.out).2.2 | (with_reducible refine Kd.C_alloc ?_ _) | (with_reducible refine Kd.C_drewN ?_ _) | (with_reducible refine Kd.C_drew ?_))); (case side2 => exact (Kd.R_reads' HO304.out).2.1); rintro e w15 ⟨v306, rfl, ho0, hb⟩; refine ⟨_, rfl, ?_⟩; have HO307 := AX (Kd.R_lower ho0 (below_size bw)); replace HO304 := AX (Kd.R_below (kr HO304) hb); replace BK294 := AX (bkb BK294 hb); replace HB := AX (below_step bw hb); (try clear hb); (try clear hb2); (try clear hk); (try clear hi); (try clear ho0); obtain ⟨hcz16_0, hcz16_1, hcz16_2, hcz16_3, hcz16_4, hcz16_5, hcz16_6⟩ := blkC7 (w := w15) BK294.out; obtain ⟨hfz16_0, hfz16_1, hfz16_2, hfz16_3, hfz16_4, hfz16_5, hfz16_6⟩ := blkF7 BK294.out) | ((with_reducible refine gate_callee (f := 16) rfl ?_); refine gL (some 25) Try.func16 #[.agg #[.string a0_0, .int .i64 a0_1, .int .i64 a0_2, .int .i64 a0_3, .int .i64 a0_4, .int .i64 a0_5, .slice A0_6 l0_6.length c0_6]] ?_; (with_reducible refine (pylonlaw11_copyFile.calls a0_0 a0_1 a0_2 a0_3 a0_4 a0_5 _ _ l0_6 t309 t310 t311 t312 t313 t314 t315 _ ?side1 ?side2 A7.out).mono ?_); (case side1 => repeat (first | exact (Kd.C_below HR0_6.out HB.out) | (with_reducible refine Kd.C_alloc ?_ _) | (with_reducible refine Kd.C_drewN ?_ _) | (with_reducible refine Kd.C_drew ?_))); (case side2 => exact HC0_6.out); rintro e w17 ⟨v316, rfl, ho0, hb⟩; refine ⟨_, rfl, ?_⟩; have HO317 := AX (Kd.R_lower (Kd.R_new' ho0 (Kd.R_lt (kr HO304))) (below_size bw)); replace HO304 := AX (Kd.R_elder' (kr HO304) (Kd.R_base ho0) hb); replace HO307 := AX (Kd.R_below (kr HO307) hb); replace BK294 := AX (bkb BK294 hb); replace HB := AX (below_step bw hb); (try clear hb); (try clear hb2); (try clear hk); (try clear hi); (try clear ho0); obtain ⟨Ao18, co18, eo18⟩ := Kd.R_slice HO317.out; subst eo18) | ((with_reducible refine gate_callee (f := 19) rfl ?_); refine gL (some 27) Try.func19 #[.agg #[.string t309, .int .i64 t310, .int .i64 t311, .int .i64 t312, .int .i64 t313, .int .i64 t314, .slice Ao18 t315.length co18], .int .i64 a1] ?_; (with_reducible refine (fill_Fill.calls t309 t310 t311 t312 t313 t314 _ _ t315 a1 t318 t321 _ ?side1 ?side2 A8.out).mono ?_); (case side1 => repeat (first | exact (Kd.R_reads' HO317.out).2.2 | (with_reducible refine Kd.C_alloc ?_ _) | (with_reducible refine Kd.C_drewN ?_ _) | (with_reducible refine Kd.C_drew ?_))); (case side2 => exact (Kd.R_reads' HO317.out).2.1); rintro e w19 ⟨v319, rfl, ho0, hb⟩; refine ⟨_, rfl, ?_⟩; have HO320 := AX (Kd.R_lower (Kd.R_new' (Kd.R_new' ho0 (Kd.R_lt (kr HO304))) (Kd.R_lt (kr HO317))) (below_size bw)); replace HO304 := AX (Kd.R_elder' (kr HO304) (Kd.R_base ho0) hb); replace HO307 := AX (Kd.R_below (kr HO307) hb); replace HO317 := AX (Kd.R_elder' (kr HO317) (Kd.R_base ho0) hb); replace BK294 := AX (bkb BK294 hb); replace HB := AX (below_step bw hb); (try clear hb); (try clear hb2); (try clear hk); (try clear hi); (try clear ho0); obtain ⟨Ao20, co20, eo20⟩ := Kd.R_slice HO307.out; subst eo20))
   go_loopg [9, 10, 45] k (fun kq v9 v10 v45 w' => ∃ (x9_1 : Int) (x10_1 : Int) (x45_1 : Int), v9 = .int .i64 x9_1 ∧ v10 = .int .i64 x10_1 ∧ v45 = .int .i64 x45_1 ∧ Aside0 (pylonlaw11_FillHolds.l0 kq a1 t305 t318 t321 x9_1 x10_1 (t305.length : Int) x45_1 a0_0 a0_1 a0_2 a0_3 a0_4 a0_5 l0_6 = some r) ∧ Aside0 (kq ≤ k) ∧ Aside0 (Kd.R k43 43 w' w.heap.size (fun _ => True) (.slice Ao20 t305.length co20) t305) ∧ Aside0 (Kd.R k45 45 w' w.heap.size (fun _ => True) v319 t318) ∧ Aside0 (w'.heap[gb294]? = some (.cells #[.string a0_0, .int .i64 a0_1, .int .i64 a0_2, .int .i64 a0_3, .int .i64 a0_4, .int .i64 a0_5, (.slice A0_6 l0_6.length c0_6)] 31 (0, 0))) ∧ Aside0 (Below w.heap.size w w'))
   case atStart => exact ⟨(0), (0), (0), (by first | rfl | (simp; done) | (simp [*]; done)), (by first | rfl | (simp; done) | (simp [*]; done)), (by first | rfl | (simp; done) | (simp [*]; done)), H', ⟨Nat.le_refl _⟩, ⟨kr HO307⟩, ⟨by (with_reducible repeat (first | apply Kd.R_alloc | apply Kd.R_drewN | apply Kd.R_drew)); exact Kd.R_mono HO320.out (fun _ hk => trivial)⟩, ⟨bkn BK294⟩, ⟨bw⟩⟩
   case round =>
    clear H'
    try clear c4
    try clear c9b0 c9b1
    try clear hcz12_0 hcz12_1 hcz12_2 hcz12_3 hcz12_4 hcz12_5 hcz12_6
    try clear hcz16_0 hcz16_1 hcz16_2 hcz16_3 hcz16_4 hcz16_5 hcz16_6
    try clear hfz12_0 hfz12_1 hfz12_2 hfz12_3 hfz12_4 hfz12_5 hfz12_6
    try clear hfz16_0 hfz16_1 hfz16_2 hfz16_3 hfz16_4 hfz16_5 hfz16_6
    obtain ⟨x9_1, x10_1, x45_1, rfl, rfl, rfl, HA, HK1, HO_5, HO_7, BK294, HB⟩ := hrel
    cases gk with
    | zero => exact absurd HA.out (by simp [pylonlaw11_FillHolds.l0])
    | succ k1 =>
     have H := HA.out
     clear HA
     simp only [pylonlaw11_FillHolds.l0] at H
     by_cases c21 : x45_1 < (t305.length : Int)
     ·rw [if_pos c21] at H
      have c21b0 : decide (x45_1 < (t305.length : Int)) = true := decide_eq_true c21
      clear c21
      have HC22 := AX H
      clear H
      go_upto_region 11 with (fail)
      go_cut [94] (fun v94 wc => ∃ (kq : Nat) (x94_21 : Bool), v94 = .bool x94_21 ∧ Aside0 (pylonlaw11_FillHolds.j1 kq a1 t305 t318 t321 x9_1 x10_1 x45_1 (t305.length : Int) x45_1 x94_21 a0_0 a0_1 a0_2 a0_3 a0_4 a0_5 l0_6 = some r) ∧ Aside0 (kq ≤ k1) ∧ Aside0 (Kd.R k43 43 wc w.heap.size (fun _ => True) (.slice Ao20 t305.length co20) t305) ∧ Aside0 (Kd.R k45 45 wc w.heap.size (fun _ => True) v319 t318) ∧ Aside0 (wc.heap[gb294]? = some (.cells #[.string a0_0, .int .i64 a0_1, .int .i64 a0_2, .int .i64 a0_3, .int .i64 a0_4, .int .i64 a0_5, (.slice A0_6 l0_6.length c0_6)] 31 (0, 0))) ∧ Aside0 (Below w.heap.size w wc))
      case first =>
       have H := HC22.out
       clear HC22
       by_cases c23 : 0 ≤ x45_1
       ·rw [if_pos c23] at H
        have c23b0 : decide (0 ≤ x45_1) = true := decide_eq_true c23
        clear c23
        (first | rw [c23b0] | (simp only [i64_w, i32_w]; rw [c23b0]) | skip)
        by_cases c24 : x45_1 < (t305.length : Int)
        ·rw [if_pos c24] at H
         have c24b0 : decide (x45_1 < (t305.length : Int)) = true := decide_eq_true c24
         clear c24
         by_cases c25 : ((rd_T43 t305 x45_1).f0) < 0
         ·rw [if_pos c25] at H
          have c25b0 : decide (((rd_T43 t305 x45_1).f0) < 0) = true := decide_eq_true c25
          clear c25
          have H' := AX H
          clear H
          try go_wp2
          have n0_ := AX (Kd.R_drew HO_5.out)
          have n1_ := AX (Kd.R_drew HO_7.out)
          have n2_ := AX (blk_drew BK294.out)
          have n3_ := AX (below_drew1 HB.out)
          clear HO_5
          clear HO_7
          clear BK294
          clear HB
          have HO_5 := n0_
          have HO_7 := n1_
          have BK294 := n2_
          have HB := n3_
          clear n0_ n1_ n2_ n3_
          have p322 : 0 ≤ (x45_1 : Int) := of_decide_eq_true (by first | (with_reducible assumption) | assumption)
          have q322 : x45_1 < (t305.length : Int) := of_decide_eq_true (by first | (with_reducible assumption) | assumption)
          obtain ⟨ad322, e322, hx322_0, hx322_1⟩ := at_T43 (Kd.R_reads' HO_5.out).2.2 x45_1 p322 q322
          cases e322
          replace p322 := eq_true p322
          replace q322 := eq_true q322
          refine start_ (n := 47) (S := fun w' => w'.cell? (ad322.add ((x45_1).toNat * 2)) = some (.int .i64 ((rd_T43 t305 x45_1).f0)) ∧ w'.cell? ⟨(ad322.add ((x45_1).toNat * 2)).block, (ad322.add ((x45_1).toNat * 2)).off + 1, none⟩ = some (.int .i64 ((rd_T43 t305 x45_1).f1))) (ds := []) pylonlaw11_FillHolds.q0 (by kernel_rfl) rfl rfl ⟨hx322_0, hx322_1⟩ (fun hHeld => ?_); refine with_tabW pylonlaw11_FillHolds.tab11 pylonlaw11_FillHolds.bits11 (fun HT_ HW_ => ?_)
          generalize wr.drew = w26 at HO_5 HO_7 BK294 HB hx322_0 hx322_1 hHeld ⊢
          refine pure_ (i := 0) (N := some 48) (v := ?_) (a' := ?_) pylonlaw11_FillHolds.q1 rfl rfl (any_of HT_.out (by kernel_rfl)) (fun _ _ _ h => h) (Or.inl ⟨by rfl, ?_⟩) ?_ ?_
          rotate_left
          ·intro w'
           go_simp
           with_reducible rfl
          rotate_left
          ·simp only [Act.put, List.setIfInBounds_toArray, List.set_cons_zero, List.set_cons_succ, i64_w, i32_w]
           rfl
          refine pure_ (i := 1) (N := some 49) (v := ?_) (a' := ?_) pylonlaw11_FillHolds.q2 rfl rfl (any_of HT_.out (by kernel_rfl)) (fun _ _ _ h => h) (Or.inl ⟨by rfl, ?_⟩) ?_ ?_
          rotate_left
          ·intro w'
           go_simp
           with_reducible rfl
          rotate_left
          ·simp only [Act.put, List.setIfInBounds_toArray, List.set_cons_zero, List.set_cons_succ, i64_w, i32_w]
           rfl
          refine pure_ (i := 2) (N := some 50) (v := ?_) (a' := ?_) pylonlaw11_FillHolds.q3 rfl rfl (any_of HT_.out (by kernel_rfl)) (fun _ _ _ h => h) (Or.inl ⟨by rfl, ?_⟩) ?_ ?_
          rotate_left
          ·intro w'
           go_simp
           with_reducible rfl
          rotate_left
          ·simp only [Act.put, List.setIfInBounds_toArray, List.set_cons_zero, List.set_cons_succ, i64_w, i32_w]
           rfl
          refine pure_ (i := 3) (N := some 51) (v := ?_) (a' := ?_) pylonlaw11_FillHolds.q4 rfl rfl (any_of HT_.out (by kernel_rfl)) (fun _ _ _ h => h) (Or.inl ⟨by rfl, ?_⟩) ?_ ?_
          rotate_left
          ·intro w'
           go_simp
           with_reducible rfl
          rotate_left
          ·simp only [Act.put, List.setIfInBounds_toArray, List.set_cons_zero, List.set_cons_succ, i64_w, i32_w]
           rfl
          refine take_ (i := 4) (N := some 52) (v := ?_) (a' := ?_) pylonlaw11_FillHolds.q5 rfl rfl (take_ofW HT_.out HW_.out (by kernel_rfl)) (fun _ _ _ h => h) (Or.inl ⟨by rfl, ?_⟩) hHeld ?_ ?_
          rotate_left
          ·rintro w' ⟨s0, s1⟩
           go_simp
           with_reducible rfl
          rotate_left
          ·simp only [Act.put, List.setIfInBounds_toArray, List.set_cons_zero, List.set_cons_succ, i64_w, i32_w]
           rfl
          refine pure_ (i := 5) (N := some 53) (v := ?_) (a' := ?_) pylonlaw11_FillHolds.q6 rfl rfl (any_of HT_.out (by kernel_rfl)) (fun _ _ _ h => h) (Or.inl ⟨by rfl, ?_⟩) ?_ ?_
          rotate_left
          ·intro w'
           go_simp
           with_reducible rfl
          rotate_left
          ·simp only [Act.put, List.setIfInBounds_toArray, List.set_cons_zero, List.set_cons_succ, i64_w, i32_w]
           rfl
          refine pure_ (i := 6) (N := some 54) (v := ?_) (a' := ?_) pylonlaw11_FillHolds.q7 rfl rfl (any_of HT_.out (by kernel_rfl)) (fun _ _ _ h => h) (Or.inl ⟨by rfl, ?_⟩) ?_ ?_
          rotate_left
          ·intro w'
           go_simp
           with_reducible rfl
          rotate_left
          ·simp only [Act.put, List.setIfInBounds_toArray, List.set_cons_zero, List.set_cons_succ, i64_w, i32_w]
           rfl
          refine pure_ (i := 7) (N := some 55) (v := undef) (a' := ?_) pylonlaw11_FillHolds.q8 rfl rfl (any_of HT_.out (by kernel_rfl)) (fun _ _ _ h => h) (Or.inr ⟨by rfl, rfl⟩) ?_ ?_
          rotate_left
          ·simp only [Act.put, List.setIfInBounds_toArray, List.set_cons_zero, List.set_cons_succ, i64_w, i32_w]
           rfl
          refine pure_ (i := 8) (N := some 56) (v := undef) (a' := ?_) pylonlaw11_FillHolds.q9 rfl rfl (any_of HT_.out (by kernel_rfl)) (fun _ _ _ h => h) (Or.inr ⟨by rfl, rfl⟩) ?_ ?_
          rotate_left
          ·simp only [Act.put, List.setIfInBounds_toArray, List.set_cons_zero, List.set_cons_succ, i64_w, i32_w]
           rfl
          refine pure_ (i := 9) (N := some 57) (v := undef) (a' := ?_) pylonlaw11_FillHolds.q10 rfl rfl (any_of HT_.out (by kernel_rfl)) (fun _ _ _ h => h) (Or.inr ⟨by rfl, rfl⟩) ?_ ?_
          rotate_left
          ·simp only [Act.put, List.setIfInBounds_toArray, List.set_cons_zero, List.set_cons_succ, i64_w, i32_w]
           rfl
          refine pure_ (i := 10) (N := some 58) (v := undef) (a' := ?_) pylonlaw11_FillHolds.q11 rfl rfl (any_of HT_.out (by kernel_rfl)) (fun _ _ _ h => h) (Or.inr ⟨by rfl, rfl⟩) ?_ ?_
          rotate_left
          ·simp only [Act.put, List.setIfInBounds_toArray, List.set_cons_zero, List.set_cons_succ, i64_w, i32_w]
           rfl
          refine pure_ (i := 11) (N := some 59) (v := undef) (a' := ?_) #[true, true, true, true, true, true, true, true, true, true, true, true, false, false, false, false, false, false, false, false, false, false, false, false, false, false, false, false, false, false, false, false, false, false, false, false, false, false, false, false, false, false, false, false, false, false, false] rfl rfl (any_of HT_.out (by kernel_rfl)) (fun _ _ _ h => h) (Or.inr ⟨by rfl, rfl⟩) ?_ ?_
          rotate_left
          ·simp only [Act.put, List.setIfInBounds_toArray, List.set_cons_zero, List.set_cons_succ, i64_w, i32_w]
           rfl
          refine pure_ (i := 12) (N := some 60) (v := undef) (a' := ?_) pylonlaw11_FillHolds.q12 rfl rfl (any_of HT_.out (by kernel_rfl)) (fun _ _ _ h => h) (Or.inr ⟨by rfl, rfl⟩) ?_ ?_
          rotate_left
          ·simp only [Act.put, List.setIfInBounds_toArray, List.set_cons_zero, List.set_cons_succ, i64_w, i32_w]
           rfl
          refine pure_ (i := 13) (N := some 61) (v := undef) (a' := ?_) pylonlaw11_FillHolds.q13 rfl rfl (any_of HT_.out (by kernel_rfl)) (fun _ _ _ h => h) (Or.inr ⟨by rfl, rfl⟩) ?_ ?_
          rotate_left
          ·simp only [Act.put, List.setIfInBounds_toArray, List.set_cons_zero, List.set_cons_succ, i64_w, i32_w]
           rfl
          refine pure_ (i := 14) (N := some 62) (v := undef) (a' := ?_) pylonlaw11_FillHolds.q14 rfl rfl (any_of HT_.out (by kernel_rfl)) (fun _ _ _ h => h) (Or.inr ⟨by rfl, rfl⟩) ?_ ?_
          rotate_left
          ·simp only [Act.put, List.setIfInBounds_toArray, List.set_cons_zero, List.set_cons_succ, i64_w, i32_w]
           rfl
          refine pure_ (i := 15) (N := some 63) (v := ?_) (a' := ?_) pylonlaw11_FillHolds.q15 rfl rfl (any_of HT_.out (by kernel_rfl)) (fun _ _ _ h => h) (Or.inl ⟨by rfl, ?_⟩) ?_ ?_
          rotate_left
          ·intro w'
           go_simp
           with_reducible rfl
          rotate_left
          ·simp only [Act.put, List.setIfInBounds_toArray, List.set_cons_zero, List.set_cons_succ, i64_w, i32_w]
           rfl
          refine pure_ (i := 16) (N := some 64) (v := ?_) (a' := ?_) pylonlaw11_FillHolds.q16 rfl rfl (any_of HT_.out (by kernel_rfl)) (fun _ _ _ h => h) (Or.inl ⟨by rfl, ?_⟩) ?_ ?_
          rotate_left
          ·intro w'
           go_simp
           with_reducible rfl
          rotate_left
          ·simp only [Act.put, List.setIfInBounds_toArray, List.set_cons_zero, List.set_cons_succ, i64_w, i32_w]
           rfl
          refine pure_ (i := 17) (N := some 65) (v := undef) (a' := ?_) pylonlaw11_FillHolds.q17 rfl rfl (any_of HT_.out (by kernel_rfl)) (fun _ _ _ h => h) (Or.inr ⟨by rfl, rfl⟩) ?_ ?_
          rotate_left
          ·simp only [Act.put, List.setIfInBounds_toArray, List.set_cons_zero, List.set_cons_succ, i64_w, i32_w]
           rfl
          refine pure_ (i := 18) (N := some 66) (v := undef) (a' := ?_) pylonlaw11_FillHolds.q18 rfl rfl (any_of HT_.out (by kernel_rfl)) (fun _ _ _ h => h) (Or.inr ⟨by rfl, rfl⟩) ?_ ?_
          rotate_left
          ·simp only [Act.put, List.setIfInBounds_toArray, List.set_cons_zero, List.set_cons_succ, i64_w, i32_w]
           rfl
          refine pure_ (i := 19) (N := some 67) (v := undef) (a' := ?_) pylonlaw11_FillHolds.q19 rfl rfl (any_of HT_.out (by kernel_rfl)) (fun _ _ _ h => h) (Or.inr ⟨by rfl, rfl⟩) ?_ ?_
          rotate_left
          ·simp only [Act.put, List.setIfInBounds_toArray, List.set_cons_zero, List.set_cons_succ, i64_w, i32_w]
           rfl
          refine pure_ (i := 20) (N := some 68) (v := undef) (a' := ?_) pylonlaw11_FillHolds.q20 rfl rfl (any_of HT_.out (by kernel_rfl)) (fun _ _ _ h => h) (Or.inr ⟨by rfl, rfl⟩) ?_ ?_
          rotate_left
          ·simp only [Act.put, List.setIfInBounds_toArray, List.set_cons_zero, List.set_cons_succ, i64_w, i32_w]
           rfl
          refine pure_ (i := 21) (N := some 69) (v := undef) (a' := ?_) pylonlaw11_FillHolds.q21 rfl rfl (any_of HT_.out (by kernel_rfl)) (fun _ _ _ h => h) (Or.inr ⟨by rfl, rfl⟩) ?_ ?_
          rotate_left
          ·simp only [Act.put, List.setIfInBounds_toArray, List.set_cons_zero, List.set_cons_succ, i64_w, i32_w]
           rfl
          refine pure_ (i := 22) (N := some 70) (v := undef) (a' := ?_) pylonlaw11_FillHolds.q22 rfl rfl (any_of HT_.out (by kernel_rfl)) (fun _ _ _ h => h) (Or.inr ⟨by rfl, rfl⟩) ?_ ?_
          rotate_left
          ·simp only [Act.put, List.setIfInBounds_toArray, List.set_cons_zero, List.set_cons_succ, i64_w, i32_w]
           rfl
          refine pure_ (i := 23) (N := some 71) (v := undef) (a' := ?_) pylonlaw11_FillHolds.q23 rfl rfl (any_of HT_.out (by kernel_rfl)) (fun _ _ _ h => h) (Or.inr ⟨by rfl, rfl⟩) ?_ ?_
          rotate_left
          ·simp only [Act.put, List.setIfInBounds_toArray, List.set_cons_zero, List.set_cons_succ, i64_w, i32_w]
           rfl
          refine pure_ (i := 24) (N := some 72) (v := undef) (a' := ?_) pylonlaw11_FillHolds.q24 rfl rfl (any_of HT_.out (by kernel_rfl)) (fun _ _ _ h => h) (Or.inr ⟨by rfl, rfl⟩) ?_ ?_
          rotate_left
          ·simp only [Act.put, List.setIfInBounds_toArray, List.set_cons_zero, List.set_cons_succ, i64_w, i32_w]
           rfl
          refine pure_ (i := 25) (N := some 73) (v := undef) (a' := ?_) pylonlaw11_FillHolds.q25 rfl rfl (any_of HT_.out (by kernel_rfl)) (fun _ _ _ h => h) (Or.inr ⟨by rfl, rfl⟩) ?_ ?_
          rotate_left
          ·simp only [Act.put, List.setIfInBounds_toArray, List.set_cons_zero, List.set_cons_succ, i64_w, i32_w]
           rfl
          refine pure_ (i := 26) (N := some 74) (v := undef) (a' := ?_) pylonlaw11_FillHolds.q26 rfl rfl (any_of HT_.out (by kernel_rfl)) (fun _ _ _ h => h) (Or.inr ⟨by rfl, rfl⟩) ?_ ?_
          rotate_left
          ·simp only [Act.put, List.setIfInBounds_toArray, List.set_cons_zero, List.set_cons_succ, i64_w, i32_w]
           rfl
          refine pure_ (i := 27) (N := some 75) (v := undef) (a' := ?_) pylonlaw11_FillHolds.q27 rfl rfl (any_of HT_.out (by kernel_rfl)) (fun _ _ _ h => h) (Or.inr ⟨by rfl, rfl⟩) ?_ ?_
          rotate_left
          ·simp only [Act.put, List.setIfInBounds_toArray, List.set_cons_zero, List.set_cons_succ, i64_w, i32_w]
           rfl
          refine pure_ (i := 28) (N := some 76) (v := ?_) (a' := ?_) pylonlaw11_FillHolds.q28 rfl rfl (any_of HT_.out (by kernel_rfl)) (fun _ _ _ h => h) (Or.inl ⟨by rfl, ?_⟩) ?_ ?_
          rotate_left
          ·intro w'
           go_simp
           with_reducible rfl
          rotate_left
          ·simp only [Act.put, List.setIfInBounds_toArray, List.set_cons_zero, List.set_cons_succ, i64_w, i32_w]
           rfl
          refine pure_ (i := 29) (N := some 77) (v := ?_) (a' := ?_) pylonlaw11_FillHolds.q29 rfl rfl (any_of HT_.out (by kernel_rfl)) (fun _ _ _ h => h) (Or.inl ⟨by rfl, ?_⟩) ?_ ?_
          rotate_left
          ·intro w'
           go_simp
           with_reducible rfl
          rotate_left
          ·simp only [Act.put, List.setIfInBounds_toArray, List.set_cons_zero, List.set_cons_succ, i64_w, i32_w]
           rfl
          refine pure_ (i := 30) (N := some 78) (v := undef) (a' := ?_) pylonlaw11_FillHolds.q30 rfl rfl (any_of HT_.out (by kernel_rfl)) (fun _ _ _ h => h) (Or.inr ⟨by rfl, rfl⟩) ?_ ?_
          rotate_left
          ·simp only [Act.put, List.setIfInBounds_toArray, List.set_cons_zero, List.set_cons_succ, i64_w, i32_w]
           rfl
          refine pure_ (i := 31) (N := some 79) (v := undef) (a' := ?_) pylonlaw11_FillHolds.q31 rfl rfl (any_of HT_.out (by kernel_rfl)) (fun _ _ _ h => h) (Or.inr ⟨by rfl, rfl⟩) ?_ ?_
          rotate_left
          ·simp only [Act.put, List.setIfInBounds_toArray, List.set_cons_zero, List.set_cons_succ, i64_w, i32_w]
           rfl
          refine pure_ (i := 32) (N := some 80) (v := undef) (a' := ?_) pylonlaw11_FillHolds.q32 rfl rfl (any_of HT_.out (by kernel_rfl)) (fun _ _ _ h => h) (Or.inr ⟨by rfl, rfl⟩) ?_ ?_
          rotate_left
          ·simp only [Act.put, List.setIfInBounds_toArray, List.set_cons_zero, List.set_cons_succ, i64_w, i32_w]
           rfl
          refine pure_ (i := 33) (N := some 81) (v := undef) (a' := ?_) pylonlaw11_FillHolds.q33 rfl rfl (any_of HT_.out (by kernel_rfl)) (fun _ _ _ h => h) (Or.inr ⟨by rfl, rfl⟩) ?_ ?_
          rotate_left
          ·simp only [Act.put, List.setIfInBounds_toArray, List.set_cons_zero, List.set_cons_succ, i64_w, i32_w]
           rfl
          refine pure_ (i := 34) (N := some 82) (v := undef) (a' := ?_) pylonlaw11_FillHolds.q34 rfl rfl (any_of HT_.out (by kernel_rfl)) (fun _ _ _ h => h) (Or.inr ⟨by rfl, rfl⟩) ?_ ?_
          rotate_left
          ·simp only [Act.put, List.setIfInBounds_toArray, List.set_cons_zero, List.set_cons_succ, i64_w, i32_w]
           rfl
          refine pure_ (i := 35) (N := some 83) (v := undef) (a' := ?_) pylonlaw11_FillHolds.q35 rfl rfl (any_of HT_.out (by kernel_rfl)) (fun _ _ _ h => h) (Or.inr ⟨by rfl, rfl⟩) ?_ ?_
          rotate_left
          ·simp only [Act.put, List.setIfInBounds_toArray, List.set_cons_zero, List.set_cons_succ, i64_w, i32_w]
           rfl
          refine pure_ (i := 36) (N := some 84) (v := undef) (a' := ?_) pylonlaw11_FillHolds.q36 rfl rfl (any_of HT_.out (by kernel_rfl)) (fun _ _ _ h => h) (Or.inr ⟨by rfl, rfl⟩) ?_ ?_
          rotate_left
          ·simp only [Act.put, List.setIfInBounds_toArray, List.set_cons_zero, List.set_cons_succ, i64_w, i32_w]
           rfl
          refine pure_ (i := 37) (N := some 85) (v := undef) (a' := ?_) pylonlaw11_FillHolds.q37 rfl rfl (any_of HT_.out (by kernel_rfl)) (fun _ _ _ h => h) (Or.inr ⟨by rfl, rfl⟩) ?_ ?_
          rotate_left
          ·simp only [Act.put, List.setIfInBounds_toArray, List.set_cons_zero, List.set_cons_succ, i64_w, i32_w]
           rfl
          refine pure_ (i := 38) (N := some 86) (v := undef) (a' := ?_) pylonlaw11_FillHolds.q38 rfl rfl (any_of HT_.out (by kernel_rfl)) (fun _ _ _ h => h) (Or.inr ⟨by rfl, rfl⟩) ?_ ?_
          rotate_left
          ·simp only [Act.put, List.setIfInBounds_toArray, List.set_cons_zero, List.set_cons_succ, i64_w, i32_w]
           rfl
          refine pure_ (i := 39) (N := some 87) (v := undef) (a' := ?_) pylonlaw11_FillHolds.q39 rfl rfl (any_of HT_.out (by kernel_rfl)) (fun _ _ _ h => h) (Or.inr ⟨by rfl, rfl⟩) ?_ ?_
          rotate_left
          ·simp only [Act.put, List.setIfInBounds_toArray, List.set_cons_zero, List.set_cons_succ, i64_w, i32_w]
           rfl
          refine pure_ (i := 40) (N := some 88) (v := undef) (a' := ?_) pylonlaw11_FillHolds.q40 rfl rfl (any_of HT_.out (by kernel_rfl)) (fun _ _ _ h => h) (Or.inr ⟨by rfl, rfl⟩) ?_ ?_
          rotate_left
          ·simp only [Act.put, List.setIfInBounds_toArray, List.set_cons_zero, List.set_cons_succ, i64_w, i32_w]
           rfl
          refine pure_ (i := 41) (N := some 89) (v := undef) (a' := ?_) pylonlaw11_FillHolds.q41 rfl rfl (any_of HT_.out (by kernel_rfl)) (fun _ _ _ h => h) (Or.inr ⟨by rfl, rfl⟩) ?_ ?_
          rotate_left
          ·simp only [Act.put, List.setIfInBounds_toArray, List.set_cons_zero, List.set_cons_succ, i64_w, i32_w]
           rfl
          refine pure_ (i := 42) (N := some 90) (v := undef) (a' := ?_) pylonlaw11_FillHolds.q42 rfl rfl (any_of HT_.out (by kernel_rfl)) (fun _ _ _ h => h) (Or.inr ⟨by rfl, rfl⟩) ?_ ?_
          rotate_left
          ·simp only [Act.put, List.setIfInBounds_toArray, List.set_cons_zero, List.set_cons_succ, i64_w, i32_w]
           rfl
          refine pure_ (i := 43) (N := some 91) (v := undef) (a' := ?_) pylonlaw11_FillHolds.q43 rfl rfl (any_of HT_.out (by kernel_rfl)) (fun _ _ _ h => h) (Or.inr ⟨by rfl, rfl⟩) ?_ ?_
          rotate_left
          ·simp only [Act.put, List.setIfInBounds_toArray, List.set_cons_zero, List.set_cons_succ, i64_w, i32_w]
           rfl
          refine pure_ (i := 44) (N := some 92) (v := undef) (a' := ?_) pylonlaw11_FillHolds.q44 rfl rfl (any_of HT_.out (by kernel_rfl)) (fun _ _ _ h => h) (Or.inr ⟨by rfl, rfl⟩) ?_ ?_
          rotate_left
          ·simp only [Act.put, List.setIfInBounds_toArray, List.set_cons_zero, List.set_cons_succ, i64_w, i32_w]
           rfl
          refine pure_ (i := 45) (N := some 93) (v := undef) (a' := ?_) pylonlaw11_FillHolds.q45 rfl rfl (any_of HT_.out (by kernel_rfl)) (fun _ _ _ h => h) (Or.inr ⟨by rfl, rfl⟩) ?_ ?_
          rotate_left
          ·simp only [Act.put, List.setIfInBounds_toArray, List.set_cons_zero, List.set_cons_succ, i64_w, i32_w]
           rfl
          refine pure_ (i := 46) (N := some 94) (v := ?_) (a' := ?_) pylonlaw11_FillHolds.q46 rfl rfl (any_of HT_.out (by kernel_rfl)) (fun _ _ _ h => h) (Or.inl ⟨by rfl, ?_⟩) ?_ ?_
          rotate_left
          ·intro w'
           go_simp
           with_reducible rfl
          rotate_left
          ·simp only [Act.put, List.setIfInBounds_toArray, List.set_cons_zero, List.set_cons_succ, i64_w, i32_w]
           rfl
          refine done_ (done_of HT_.out (by kernel_rfl)) ?_
          try go_wp2
          go_meet
          case rel => exact ⟨_, (true), (by first | rfl | (simp; done) | (simp [*]; done)), H', ⟨by have := HK1.out; first | omega | exact Nat.le_refl _⟩, ⟨kr HO_5⟩, ⟨kr HO_7⟩, ⟨bkn BK294⟩, ⟨bw⟩⟩
         ·rw [if_neg c25] at H
          have c25b0 : decide (((rd_T43 t305 x45_1).f0) < 0) = false := decide_eq_false c25
          clear c25
          by_cases c27 : ((rd_T43 t305 x45_1).f1) > a0_3
          ·rw [if_pos c27] at H
           have c27b0 : decide (a0_3 < ((rd_T43 t305 x45_1).f1)) = true := decide_eq_true c27
           clear c27
           have H' := AX H
           clear H
           try go_wp2
           have n0_ := AX (Kd.R_drew HO_5.out)
           have n1_ := AX (Kd.R_drew HO_7.out)
           have n2_ := AX (blk_drew BK294.out)
           have n3_ := AX (below_drew1 HB.out)
           clear HO_5
           clear HO_7
           clear BK294
           clear HB
           have HO_5 := n0_
           have HO_7 := n1_
           have BK294 := n2_
           have HB := n3_
           clear n0_ n1_ n2_ n3_
           have p322 : 0 ≤ (x45_1 : Int) := of_decide_eq_true (by first | (with_reducible assumption) | assumption)
           have q322 : x45_1 < (t305.length : Int) := of_decide_eq_true (by first | (with_reducible assumption) | assumption)
           obtain ⟨ad322, e322, hx322_0, hx322_1⟩ := at_T43 (Kd.R_reads' HO_5.out).2.2 x45_1 p322 q322
           cases e322
           replace p322 := eq_true p322
           replace q322 := eq_true q322
           have p323 : 0 ≤ (x45_1 : Int) := of_decide_eq_true (by first | (with_reducible assumption) | assumption)
           have q323 : x45_1 < (t305.length : Int) := of_decide_eq_true (by first | (with_reducible assumption) | assumption)
           obtain ⟨ad323, e323, hx323_0, hx323_1⟩ := at_T43 (Kd.R_reads' HO_5.out).2.2 x45_1 p323 q323
           obtain rfl : ad322 = ad323 := (by injection e323)
           replace p323 := eq_true p323
           replace q323 := eq_true q323
           refine start_ (n := 47) (S := fun w' => w'.cell? ⟨gb294, 0, none⟩ = some (.string a0_0) ∧ w'.cell? ⟨gb294, 1, none⟩ = some (.int .i64 a0_1) ∧ w'.cell? ⟨gb294, 2, none⟩ = some (.int .i64 a0_2) ∧ w'.cell? ⟨gb294, 3, none⟩ = some (.int .i64 a0_3) ∧ w'.cell? ⟨gb294, 4, none⟩ = some (.int .i64 a0_4) ∧ w'.cell? ⟨gb294, 5, none⟩ = some (.int .i64 a0_5) ∧ w'.cell? ⟨gb294, 6, none⟩ = some (.slice A0_6 l0_6.length c0_6) ∧ w'.cell? (ad322.add ((x45_1).toNat * 2)) = some (.int .i64 ((rd_T43 t305 x45_1).f0)) ∧ w'.cell? ⟨(ad322.add ((x45_1).toNat * 2)).block, (ad322.add ((x45_1).toNat * 2)).off + 1, none⟩ = some (.int .i64 ((rd_T43 t305 x45_1).f1)) ∧ w'.cell? (ad322.add ((x45_1).toNat * 2)) = some (.int .i64 ((rd_T43 t305 x45_1).f0)) ∧ w'.cell? ⟨(ad322.add ((x45_1).toNat * 2)).block, (ad322.add ((x45_1).toNat * 2)).off + 1, none⟩ = some (.int .i64 ((rd_T43 t305 x45_1).f1))) (ds := []) pylonlaw11_FillHolds.q0 (by kernel_rfl) rfl rfl ⟨(blk_cell BK294.out 0).trans rfl, (blk_cell BK294.out 1).trans rfl, (blk_cell BK294.out 2).trans rfl, (blk_cell BK294.out 3).trans rfl, (blk_cell BK294.out 4).trans rfl, (blk_cell BK294.out 5).trans rfl, (blk_cell BK294.out 6).trans rfl, hx322_0, hx322_1, hx323_0, hx323_1⟩ (fun hHeld => ?_); refine with_tabW pylonlaw11_FillHolds.tab11 pylonlaw11_FillHolds.bits11 (fun HT_ HW_ => ?_)
           generalize wr.drew = w28 at HO_5 HO_7 BK294 HB hx322_0 hx322_1 hx323_0 hx323_1 hHeld ⊢
           refine pure_ (i := 0) (N := some 48) (v := ?_) (a' := ?_) pylonlaw11_FillHolds.q1 rfl rfl (any_of HT_.out (by kernel_rfl)) (fun _ _ _ h => h) (Or.inl ⟨by rfl, ?_⟩) ?_ ?_
           rotate_left
           ·intro w'
            go_simp
            with_reducible rfl
           rotate_left
           ·simp only [Act.put, List.setIfInBounds_toArray, List.set_cons_zero, List.set_cons_succ, i64_w, i32_w]
            rfl
           refine pure_ (i := 1) (N := some 49) (v := ?_) (a' := ?_) pylonlaw11_FillHolds.q2 rfl rfl (any_of HT_.out (by kernel_rfl)) (fun _ _ _ h => h) (Or.inl ⟨by rfl, ?_⟩) ?_ ?_
           rotate_left
           ·intro w'
            go_simp
            with_reducible rfl
           rotate_left
           ·simp only [Act.put, List.setIfInBounds_toArray, List.set_cons_zero, List.set_cons_succ, i64_w, i32_w]
            rfl
           refine pure_ (i := 2) (N := some 50) (v := ?_) (a' := ?_) pylonlaw11_FillHolds.q3 rfl rfl (any_of HT_.out (by kernel_rfl)) (fun _ _ _ h => h) (Or.inl ⟨by rfl, ?_⟩) ?_ ?_
           rotate_left
           ·intro w'
            go_simp
            with_reducible rfl
           rotate_left
           ·simp only [Act.put, List.setIfInBounds_toArray, List.set_cons_zero, List.set_cons_succ, i64_w, i32_w]
            rfl
           refine pure_ (i := 3) (N := some 51) (v := ?_) (a' := ?_) pylonlaw11_FillHolds.q4 rfl rfl (any_of HT_.out (by kernel_rfl)) (fun _ _ _ h => h) (Or.inl ⟨by rfl, ?_⟩) ?_ ?_
           rotate_left
           ·intro w'
            go_simp
            with_reducible rfl
           rotate_left
           ·simp only [Act.put, List.setIfInBounds_toArray, List.set_cons_zero, List.set_cons_succ, i64_w, i32_w]
            rfl
           refine take_ (i := 4) (N := some 52) (v := ?_) (a' := ?_) pylonlaw11_FillHolds.q5 rfl rfl (take_ofW HT_.out HW_.out (by kernel_rfl)) (fun _ _ _ h => h) (Or.inl ⟨by rfl, ?_⟩) hHeld ?_ ?_
           rotate_left
           ·rintro w' ⟨s0, s1, s2, s3, s4, s5, s6, s7, s8, s9, s10⟩
            go_simp
            with_reducible rfl
           rotate_left
           ·simp only [Act.put, List.setIfInBounds_toArray, List.set_cons_zero, List.set_cons_succ, i64_w, i32_w]
            rfl
           refine pure_ (i := 5) (N := some 53) (v := ?_) (a' := ?_) pylonlaw11_FillHolds.q6 rfl rfl (any_of HT_.out (by kernel_rfl)) (fun _ _ _ h => h) (Or.inl ⟨by rfl, ?_⟩) ?_ ?_
           rotate_left
           ·intro w'
            go_simp
            with_reducible rfl
           rotate_left
           ·simp only [Act.put, List.setIfInBounds_toArray, List.set_cons_zero, List.set_cons_succ, i64_w, i32_w]
            rfl
           refine pure_ (i := 6) (N := some 54) (v := ?_) (a' := ?_) pylonlaw11_FillHolds.q7 rfl rfl (any_of HT_.out (by kernel_rfl)) (fun _ _ _ h => h) (Or.inl ⟨by rfl, ?_⟩) ?_ ?_
           rotate_left
           ·intro w'
            go_simp
            with_reducible rfl
           rotate_left
           ·simp only [Act.put, List.setIfInBounds_toArray, List.set_cons_zero, List.set_cons_succ, i64_w, i32_w]
            rfl
           refine pure_ (i := 7) (N := some 55) (v := ?_) (a' := ?_) pylonlaw11_FillHolds.q8 rfl rfl (any_of HT_.out (by kernel_rfl)) (fun _ _ _ h => h) (Or.inl ⟨by rfl, ?_⟩) ?_ ?_
           rotate_left
           ·intro w'
            go_simp
            with_reducible rfl
           rotate_left
           ·simp only [Act.put, List.setIfInBounds_toArray, List.set_cons_zero, List.set_cons_succ, i64_w, i32_w]
            rfl
           refine pure_ (i := 8) (N := some 56) (v := ?_) (a' := ?_) pylonlaw11_FillHolds.q9 rfl rfl (any_of HT_.out (by kernel_rfl)) (fun _ _ _ h => h) (Or.inl ⟨by rfl, ?_⟩) ?_ ?_
           rotate_left
           ·intro w'
            go_simp
            with_reducible rfl
           rotate_left
           ·simp only [Act.put, List.setIfInBounds_toArray, List.set_cons_zero, List.set_cons_succ, i64_w, i32_w]
            rfl
           refine pure_ (i := 9) (N := some 57) (v := ?_) (a' := ?_) pylonlaw11_FillHolds.q10 rfl rfl (any_of HT_.out (by kernel_rfl)) (fun _ _ _ h => h) (Or.inl ⟨by rfl, ?_⟩) ?_ ?_
           rotate_left
           ·intro w'
            go_simp
            with_reducible rfl
           rotate_left
           ·simp only [Act.put, List.setIfInBounds_toArray, List.set_cons_zero, List.set_cons_succ, i64_w, i32_w]
            rfl
           refine pure_ (i := 10) (N := some 58) (v := ?_) (a' := ?_) pylonlaw11_FillHolds.q11 rfl rfl (any_of HT_.out (by kernel_rfl)) (fun _ _ _ h => h) (Or.inl ⟨by rfl, ?_⟩) ?_ ?_
           rotate_left
           ·intro w'
            go_simp
            with_reducible rfl
           rotate_left
           ·simp only [Act.put, List.setIfInBounds_toArray, List.set_cons_zero, List.set_cons_succ, i64_w, i32_w]
            rfl
           refine pure_ (i := 12) (N := some 60) (v := ?_) (a' := ?_) pylonlaw11_FillHolds.q47 rfl rfl (any_of HT_.out (by kernel_rfl)) (fun _ _ _ h => h) (Or.inl ⟨by rfl, ?_⟩) ?_ ?_
           rotate_left
           ·intro w'
            go_simp
            with_reducible rfl
           rotate_left
           ·simp only [Act.put, List.setIfInBounds_toArray, List.set_cons_zero, List.set_cons_succ, i64_w, i32_w]
            rfl
           refine take_ (i := 11) (N := some 59) (v := ?_) (a' := ?_) pylonlaw11_FillHolds.q12 rfl rfl (take_ofW HT_.out HW_.out (by kernel_rfl)) (fun _ _ _ h => h) (Or.inl ⟨by rfl, ?_⟩) hHeld ?_ ?_
           rotate_left
           ·rintro w' ⟨s0, s1, s2, s3, s4, s5, s6, s7, s8, s9, s10⟩
            go_simp
            with_reducible rfl
           rotate_left
           ·simp only [Act.put, List.setIfInBounds_toArray, List.set_cons_zero, List.set_cons_succ, i64_w, i32_w]
            rfl
           refine take_ (i := 13) (N := some 61) (v := ?_) (a' := ?_) pylonlaw11_FillHolds.q13 rfl rfl (take_ofW HT_.out HW_.out (by kernel_rfl)) (fun _ _ _ h => h) (Or.inl ⟨by rfl, ?_⟩) hHeld ?_ ?_
           rotate_left
           ·rintro w' ⟨s0, s1, s2, s3, s4, s5, s6, s7, s8, s9, s10⟩
            go_simp
            with_reducible rfl
           rotate_left
           ·simp only [Act.put, List.setIfInBounds_toArray, List.set_cons_zero, List.set_cons_succ, i64_w, i32_w]
            rfl
           refine pure_ (i := 14) (N := some 62) (v := ?_) (a' := ?_) pylonlaw11_FillHolds.q14 rfl rfl (any_of HT_.out (by kernel_rfl)) (fun _ _ _ h => h) (Or.inl ⟨by rfl, ?_⟩) ?_ ?_
           rotate_left
           ·intro w'
            go_simp
            with_reducible rfl
           rotate_left
           ·simp only [Act.put, List.setIfInBounds_toArray, List.set_cons_zero, List.set_cons_succ, i64_w, i32_w]
            rfl
           refine pure_ (i := 15) (N := some 63) (v := ?_) (a' := ?_) pylonlaw11_FillHolds.q15 rfl rfl (any_of HT_.out (by kernel_rfl)) (fun _ _ _ h => h) (Or.inl ⟨by rfl, ?_⟩) ?_ ?_
           rotate_left
           ·intro w'
            go_simp
            with_reducible rfl
           rotate_left
           ·simp only [Act.put, List.setIfInBounds_toArray, List.set_cons_zero, List.set_cons_succ, i64_w, i32_w]
            rfl
           refine pure_ (i := 16) (N := some 64) (v := ?_) (a' := ?_) pylonlaw11_FillHolds.q16 rfl rfl (any_of HT_.out (by kernel_rfl)) (fun _ _ _ h => h) (Or.inl ⟨by rfl, ?_⟩) ?_ ?_
           rotate_left
           ·intro w'
            go_simp
            with_reducible rfl
           rotate_left
           ·simp only [Act.put, List.setIfInBounds_toArray, List.set_cons_zero, List.set_cons_succ, i64_w, i32_w]
            rfl
           refine pure_ (i := 17) (N := some 65) (v := undef) (a' := ?_) pylonlaw11_FillHolds.q17 rfl rfl (any_of HT_.out (by kernel_rfl)) (fun _ _ _ h => h) (Or.inr ⟨by rfl, rfl⟩) ?_ ?_
           rotate_left
           ·simp only [Act.put, List.setIfInBounds_toArray, List.set_cons_zero, List.set_cons_succ, i64_w, i32_w]
            rfl
           refine pure_ (i := 18) (N := some 66) (v := undef) (a' := ?_) pylonlaw11_FillHolds.q18 rfl rfl (any_of HT_.out (by kernel_rfl)) (fun _ _ _ h => h) (Or.inr ⟨by rfl, rfl⟩) ?_ ?_
           rotate_left
           ·simp only [Act.put, List.setIfInBounds_toArray, List.set_cons_zero, List.set_cons_succ, i64_w, i32_w]
            rfl
           refine pure_ (i := 19) (N := some 67) (v := undef) (a' := ?_) pylonlaw11_FillHolds.q19 rfl rfl (any_of HT_.out (by kernel_rfl)) (fun _ _ _ h => h) (Or.inr ⟨by rfl, rfl⟩) ?_ ?_
           rotate_left
           ·simp only [Act.put, List.setIfInBounds_toArray, List.set_cons_zero, List.set_cons_succ, i64_w, i32_w]
            rfl
           refine pure_ (i := 20) (N := some 68) (v := undef) (a' := ?_) pylonlaw11_FillHolds.q20 rfl rfl (any_of HT_.out (by kernel_rfl)) (fun _ _ _ h => h) (Or.inr ⟨by rfl, rfl⟩) ?_ ?_
           rotate_left
           ·simp only [Act.put, List.setIfInBounds_toArray, List.set_cons_zero, List.set_cons_succ, i64_w, i32_w]
            rfl
           refine pure_ (i := 21) (N := some 69) (v := undef) (a' := ?_) pylonlaw11_FillHolds.q21 rfl rfl (any_of HT_.out (by kernel_rfl)) (fun _ _ _ h => h) (Or.inr ⟨by rfl, rfl⟩) ?_ ?_
           rotate_left
           ·simp only [Act.put, List.setIfInBounds_toArray, List.set_cons_zero, List.set_cons_succ, i64_w, i32_w]
            rfl
           refine pure_ (i := 22) (N := some 70) (v := undef) (a' := ?_) pylonlaw11_FillHolds.q22 rfl rfl (any_of HT_.out (by kernel_rfl)) (fun _ _ _ h => h) (Or.inr ⟨by rfl, rfl⟩) ?_ ?_
           rotate_left
           ·simp only [Act.put, List.setIfInBounds_toArray, List.set_cons_zero, List.set_cons_succ, i64_w, i32_w]
            rfl
           refine pure_ (i := 23) (N := some 71) (v := undef) (a' := ?_) pylonlaw11_FillHolds.q23 rfl rfl (any_of HT_.out (by kernel_rfl)) (fun _ _ _ h => h) (Or.inr ⟨by rfl, rfl⟩) ?_ ?_
           rotate_left
           ·simp only [Act.put, List.setIfInBounds_toArray, List.set_cons_zero, List.set_cons_succ, i64_w, i32_w]
            rfl
           refine pure_ (i := 24) (N := some 72) (v := undef) (a' := ?_) pylonlaw11_FillHolds.q24 rfl rfl (any_of HT_.out (by kernel_rfl)) (fun _ _ _ h => h) (Or.inr ⟨by rfl, rfl⟩) ?_ ?_
           rotate_left
           ·simp only [Act.put, List.setIfInBounds_toArray, List.set_cons_zero, List.set_cons_succ, i64_w, i32_w]
            rfl
           refine pure_ (i := 25) (N := some 73) (v := undef) (a' := ?_) pylonlaw11_FillHolds.q25 rfl rfl (any_of HT_.out (by kernel_rfl)) (fun _ _ _ h => h) (Or.inr ⟨by rfl, rfl⟩) ?_ ?_
           rotate_left
           ·simp only [Act.put, List.setIfInBounds_toArray, List.set_cons_zero, List.set_cons_succ, i64_w, i32_w]
            rfl
           refine pure_ (i := 26) (N := some 74) (v := undef) (a' := ?_) pylonlaw11_FillHolds.q26 rfl rfl (any_of HT_.out (by kernel_rfl)) (fun _ _ _ h => h) (Or.inr ⟨by rfl, rfl⟩) ?_ ?_
           rotate_left
           ·simp only [Act.put, List.setIfInBounds_toArray, List.set_cons_zero, List.set_cons_succ, i64_w, i32_w]
            rfl
           refine pure_ (i := 27) (N := some 75) (v := undef) (a' := ?_) pylonlaw11_FillHolds.q27 rfl rfl (any_of HT_.out (by kernel_rfl)) (fun _ _ _ h => h) (Or.inr ⟨by rfl, rfl⟩) ?_ ?_
           rotate_left
           ·simp only [Act.put, List.setIfInBounds_toArray, List.set_cons_zero, List.set_cons_succ, i64_w, i32_w]
            rfl
           refine pure_ (i := 28) (N := some 76) (v := ?_) (a' := ?_) pylonlaw11_FillHolds.q28 rfl rfl (any_of HT_.out (by kernel_rfl)) (fun _ _ _ h => h) (Or.inl ⟨by rfl, ?_⟩) ?_ ?_
           rotate_left
           ·intro w'
            go_simp
            with_reducible rfl
           rotate_left
           ·simp only [Act.put, List.setIfInBounds_toArray, List.set_cons_zero, List.set_cons_succ, i64_w, i32_w]
            rfl
           refine pure_ (i := 29) (N := some 77) (v := ?_) (a' := ?_) pylonlaw11_FillHolds.q29 rfl rfl (any_of HT_.out (by kernel_rfl)) (fun _ _ _ h => h) (Or.inl ⟨by rfl, ?_⟩) ?_ ?_
           rotate_left
           ·intro w'
            go_simp
            with_reducible rfl
           rotate_left
           ·simp only [Act.put, List.setIfInBounds_toArray, List.set_cons_zero, List.set_cons_succ, i64_w, i32_w]
            rfl
           refine pure_ (i := 30) (N := some 78) (v := undef) (a' := ?_) pylonlaw11_FillHolds.q30 rfl rfl (any_of HT_.out (by kernel_rfl)) (fun _ _ _ h => h) (Or.inr ⟨by rfl, rfl⟩) ?_ ?_
           rotate_left
           ·simp only [Act.put, List.setIfInBounds_toArray, List.set_cons_zero, List.set_cons_succ, i64_w, i32_w]
            rfl
           refine pure_ (i := 31) (N := some 79) (v := undef) (a' := ?_) pylonlaw11_FillHolds.q31 rfl rfl (any_of HT_.out (by kernel_rfl)) (fun _ _ _ h => h) (Or.inr ⟨by rfl, rfl⟩) ?_ ?_
           rotate_left
           ·simp only [Act.put, List.setIfInBounds_toArray, List.set_cons_zero, List.set_cons_succ, i64_w, i32_w]
            rfl
           refine pure_ (i := 32) (N := some 80) (v := undef) (a' := ?_) pylonlaw11_FillHolds.q32 rfl rfl (any_of HT_.out (by kernel_rfl)) (fun _ _ _ h => h) (Or.inr ⟨by rfl, rfl⟩) ?_ ?_
           rotate_left
           ·simp only [Act.put, List.setIfInBounds_toArray, List.set_cons_zero, List.set_cons_succ, i64_w, i32_w]
            rfl
           refine pure_ (i := 33) (N := some 81) (v := undef) (a' := ?_) pylonlaw11_FillHolds.q33 rfl rfl (any_of HT_.out (by kernel_rfl)) (fun _ _ _ h => h) (Or.inr ⟨by rfl, rfl⟩) ?_ ?_
           rotate_left
           ·simp only [Act.put, List.setIfInBounds_toArray, List.set_cons_zero, List.set_cons_succ, i64_w, i32_w]
            rfl
           refine pure_ (i := 34) (N := some 82) (v := undef) (a' := ?_) pylonlaw11_FillHolds.q34 rfl rfl (any_of HT_.out (by kernel_rfl)) (fun _ _ _ h => h) (Or.inr ⟨by rfl, rfl⟩) ?_ ?_
           rotate_left
           ·simp only [Act.put, List.setIfInBounds_toArray, List.set_cons_zero, List.set_cons_succ, i64_w, i32_w]
            rfl
           refine pure_ (i := 35) (N := some 83) (v := undef) (a' := ?_) pylonlaw11_FillHolds.q35 rfl rfl (any_of HT_.out (by kernel_rfl)) (fun _ _ _ h => h) (Or.inr ⟨by rfl, rfl⟩) ?_ ?_
           rotate_left
           ·simp only [Act.put, List.setIfInBounds_toArray, List.set_cons_zero, List.set_cons_succ, i64_w, i32_w]
            rfl
           refine pure_ (i := 36) (N := some 84) (v := undef) (a' := ?_) pylonlaw11_FillHolds.q36 rfl rfl (any_of HT_.out (by kernel_rfl)) (fun _ _ _ h => h) (Or.inr ⟨by rfl, rfl⟩) ?_ ?_
           rotate_left
           ·simp only [Act.put, List.setIfInBounds_toArray, List.set_cons_zero, List.set_cons_succ, i64_w, i32_w]
            rfl
           refine pure_ (i := 37) (N := some 85) (v := undef) (a' := ?_) pylonlaw11_FillHolds.q37 rfl rfl (any_of HT_.out (by kernel_rfl)) (fun _ _ _ h => h) (Or.inr ⟨by rfl, rfl⟩) ?_ ?_
           rotate_left
           ·simp only [Act.put, List.setIfInBounds_toArray, List.set_cons_zero, List.set_cons_succ, i64_w, i32_w]
            rfl
           refine pure_ (i := 38) (N := some 86) (v := undef) (a' := ?_) pylonlaw11_FillHolds.q38 rfl rfl (any_of HT_.out (by kernel_rfl)) (fun _ _ _ h => h) (Or.inr ⟨by rfl, rfl⟩) ?_ ?_
           rotate_left
           ·simp only [Act.put, List.setIfInBounds_toArray, List.set_cons_zero, List.set_cons_succ, i64_w, i32_w]
            rfl
           refine pure_ (i := 39) (N := some 87) (v := undef) (a' := ?_) pylonlaw11_FillHolds.q39 rfl rfl (any_of HT_.out (by kernel_rfl)) (fun _ _ _ h => h) (Or.inr ⟨by rfl, rfl⟩) ?_ ?_
           rotate_left
           ·simp only [Act.put, List.setIfInBounds_toArray, List.set_cons_zero, List.set_cons_succ, i64_w, i32_w]
            rfl
           refine pure_ (i := 40) (N := some 88) (v := undef) (a' := ?_) pylonlaw11_FillHolds.q40 rfl rfl (any_of HT_.out (by kernel_rfl)) (fun _ _ _ h => h) (Or.inr ⟨by rfl, rfl⟩) ?_ ?_
           rotate_left
           ·simp only [Act.put, List.setIfInBounds_toArray, List.set_cons_zero, List.set_cons_succ, i64_w, i32_w]
            rfl
           refine pure_ (i := 41) (N := some 89) (v := undef) (a' := ?_) pylonlaw11_FillHolds.q41 rfl rfl (any_of HT_.out (by kernel_rfl)) (fun _ _ _ h => h) (Or.inr ⟨by rfl, rfl⟩) ?_ ?_
           rotate_left
           ·simp only [Act.put, List.setIfInBounds_toArray, List.set_cons_zero, List.set_cons_succ, i64_w, i32_w]
            rfl
           refine pure_ (i := 42) (N := some 90) (v := undef) (a' := ?_) pylonlaw11_FillHolds.q42 rfl rfl (any_of HT_.out (by kernel_rfl)) (fun _ _ _ h => h) (Or.inr ⟨by rfl, rfl⟩) ?_ ?_
           rotate_left
           ·simp only [Act.put, List.setIfInBounds_toArray, List.set_cons_zero, List.set_cons_succ, i64_w, i32_w]
            rfl
           refine pure_ (i := 43) (N := some 91) (v := undef) (a' := ?_) pylonlaw11_FillHolds.q43 rfl rfl (any_of HT_.out (by kernel_rfl)) (fun _ _ _ h => h) (Or.inr ⟨by rfl, rfl⟩) ?_ ?_
           rotate_left
           ·simp only [Act.put, List.setIfInBounds_toArray, List.set_cons_zero, List.set_cons_succ, i64_w, i32_w]
            rfl
           refine pure_ (i := 44) (N := some 92) (v := undef) (a' := ?_) pylonlaw11_FillHolds.q44 rfl rfl (any_of HT_.out (by kernel_rfl)) (fun _ _ _ h => h) (Or.inr ⟨by rfl, rfl⟩) ?_ ?_
           rotate_left
           ·simp only [Act.put, List.setIfInBounds_toArray, List.set_cons_zero, List.set_cons_succ, i64_w, i32_w]
            rfl
           refine pure_ (i := 45) (N := some 93) (v := undef) (a' := ?_) pylonlaw11_FillHolds.q45 rfl rfl (any_of HT_.out (by kernel_rfl)) (fun _ _ _ h => h) (Or.inr ⟨by rfl, rfl⟩) ?_ ?_
           rotate_left
           ·simp only [Act.put, List.setIfInBounds_toArray, List.set_cons_zero, List.set_cons_succ, i64_w, i32_w]
            rfl
           refine pure_ (i := 46) (N := some 94) (v := ?_) (a' := ?_) pylonlaw11_FillHolds.q46 rfl rfl (any_of HT_.out (by kernel_rfl)) (fun _ _ _ h => h) (Or.inl ⟨by rfl, ?_⟩) ?_ ?_
           rotate_left
           ·intro w'
            go_simp
            with_reducible rfl
           rotate_left
           ·simp only [Act.put, List.setIfInBounds_toArray, List.set_cons_zero, List.set_cons_succ, i64_w, i32_w]
            rfl
           refine done_ (done_of HT_.out (by kernel_rfl)) ?_
           try go_wp2
           go_meet
           case rel => exact ⟨_, (true), (by first | rfl | (simp; done) | (simp [*]; done)), H', ⟨by have := HK1.out; first | omega | exact Nat.le_refl _⟩, ⟨kr HO_5⟩, ⟨kr HO_7⟩, ⟨bkn BK294⟩, ⟨bw⟩⟩
          ·rw [if_neg c27] at H
           have c27b0 : decide (a0_3 < ((rd_T43 t305 x45_1).f1)) = false := decide_eq_false c27
           clear c27
           by_cases c29 : ((rd_T43 t305 x45_1).f0) ≥ ((rd_T43 t305 x45_1).f1)
           ·rw [if_pos c29] at H
            have c29b0 : decide (((rd_T43 t305 x45_1).f1) ≤ ((rd_T43 t305 x45_1).f0)) = true := decide_eq_true c29
            clear c29
            have H' := AX H
            clear H
            try go_wp2
            have n0_ := AX (Kd.R_drew HO_5.out)
            have n1_ := AX (Kd.R_drew HO_7.out)
            have n2_ := AX (blk_drew BK294.out)
            have n3_ := AX (below_drew1 HB.out)
            clear HO_5
            clear HO_7
            clear BK294
            clear HB
            have HO_5 := n0_
            have HO_7 := n1_
            have BK294 := n2_
            have HB := n3_
            clear n0_ n1_ n2_ n3_
            have p322 : 0 ≤ (x45_1 : Int) := of_decide_eq_true (by first | (with_reducible assumption) | assumption)
            have q322 : x45_1 < (t305.length : Int) := of_decide_eq_true (by first | (with_reducible assumption) | assumption)
            obtain ⟨ad322, e322, hx322_0, hx322_1⟩ := at_T43 (Kd.R_reads' HO_5.out).2.2 x45_1 p322 q322
            cases e322
            replace p322 := eq_true p322
            replace q322 := eq_true q322
            have p323 : 0 ≤ (x45_1 : Int) := of_decide_eq_true (by first | (with_reducible assumption) | assumption)
            have q323 : x45_1 < (t305.length : Int) := of_decide_eq_true (by first | (with_reducible assumption) | assumption)
            obtain ⟨ad323, e323, hx323_0, hx323_1⟩ := at_T43 (Kd.R_reads' HO_5.out).2.2 x45_1 p323 q323
            obtain rfl : ad322 = ad323 := (by injection e323)
            replace p323 := eq_true p323
            replace q323 := eq_true q323
            have p324 : 0 ≤ (x45_1 : Int) := of_decide_eq_true (by first | (with_reducible assumption) | assumption)
            have q324 : x45_1 < (t305.length : Int) := of_decide_eq_true (by first | (with_reducible assumption) | assumption)
            obtain ⟨ad324, e324, hx324_0, hx324_1⟩ := at_T43 (Kd.R_reads' HO_5.out).2.2 x45_1 p324 q324
            obtain rfl : ad322 = ad324 := (by injection e324)
            replace p324 := eq_true p324
            replace q324 := eq_true q324
            have p325 : 0 ≤ (x45_1 : Int) := of_decide_eq_true (by first | (with_reducible assumption) | assumption)
            have q325 : x45_1 < (t305.length : Int) := of_decide_eq_true (by first | (with_reducible assumption) | assumption)
            obtain ⟨ad325, e325, hx325_0, hx325_1⟩ := at_T43 (Kd.R_reads' HO_5.out).2.2 x45_1 p325 q325
            obtain rfl : ad322 = ad325 := (by injection e325)
            replace p325 := eq_true p325
            replace q325 := eq_true q325
            refine start_ (n := 47) (S := fun w' => w'.cell? ⟨gb294, 0, none⟩ = some (.string a0_0) ∧ w'.cell? ⟨gb294, 1, none⟩ = some (.int .i64 a0_1) ∧ w'.cell? ⟨gb294, 2, none⟩ = some (.int .i64 a0_2) ∧ w'.cell? ⟨gb294, 3, none⟩ = some (.int .i64 a0_3) ∧ w'.cell? ⟨gb294, 4, none⟩ = some (.int .i64 a0_4) ∧ w'.cell? ⟨gb294, 5, none⟩ = some (.int .i64 a0_5) ∧ w'.cell? ⟨gb294, 6, none⟩ = some (.slice A0_6 l0_6.length c0_6) ∧ w'.cell? (ad322.add ((x45_1).toNat * 2)) = some (.int .i64 ((rd_T43 t305 x45_1).f0)) ∧ w'.cell? ⟨(ad322.add ((x45_1).toNat * 2)).block, (ad322.add ((x45_1).toNat * 2)).off + 1, none⟩ = some (.int .i64 ((rd_T43 t305 x45_1).f1)) ∧ w'.cell? (ad322.add ((x45_1).toNat * 2)) = some (.int .i64 ((rd_T43 t305 x45_1).f0)) ∧ w'.cell? ⟨(ad322.add ((x45_1).toNat * 2)).block, (ad322.add ((x45_1).toNat * 2)).off + 1, none⟩ = some (.int .i64 ((rd_T43 t305 x45_1).f1)) ∧ w'.cell? (ad322.add ((x45_1).toNat * 2)) = some (.int .i64 ((rd_T43 t305 x45_1).f0)) ∧ w'.cell? ⟨(ad322.add ((x45_1).toNat * 2)).block, (ad322.add ((x45_1).toNat * 2)).off + 1, none⟩ = some (.int .i64 ((rd_T43 t305 x45_1).f1)) ∧ w'.cell? (ad322.add ((x45_1).toNat * 2)) = some (.int .i64 ((rd_T43 t305 x45_1).f0)) ∧ w'.cell? ⟨(ad322.add ((x45_1).toNat * 2)).block, (ad322.add ((x45_1).toNat * 2)).off + 1, none⟩ = some (.int .i64 ((rd_T43 t305 x45_1).f1))) (ds := []) pylonlaw11_FillHolds.q0 (by kernel_rfl) rfl rfl ⟨(blk_cell BK294.out 0).trans rfl, (blk_cell BK294.out 1).trans rfl, (blk_cell BK294.out 2).trans rfl, (blk_cell BK294.out 3).trans rfl, (blk_cell BK294.out 4).trans rfl, (blk_cell BK294.out 5).trans rfl, (blk_cell BK294.out 6).trans rfl, hx322_0, hx322_1, hx323_0, hx323_1, hx324_0, hx324_1, hx325_0, hx325_1⟩ (fun hHeld => ?_); refine with_tabW pylonlaw11_FillHolds.tab11 pylonlaw11_FillHolds.bits11 (fun HT_ HW_ => ?_)
            generalize wr.drew = w30 at HO_5 HO_7 BK294 HB hx322_0 hx322_1 hx323_0 hx323_1 hx324_0 hx324_1 hx325_0 hx325_1 hHeld ⊢
            refine pure_ (i := 0) (N := some 48) (v := ?_) (a' := ?_) pylonlaw11_FillHolds.q1 rfl rfl (any_of HT_.out (by kernel_rfl)) (fun _ _ _ h => h) (Or.inl ⟨by rfl, ?_⟩) ?_ ?_
            rotate_left
            ·intro w'
             go_simp
             with_reducible rfl
            rotate_left
            ·simp only [Act.put, List.setIfInBounds_toArray, List.set_cons_zero, List.set_cons_succ, i64_w, i32_w]
             rfl
            refine pure_ (i := 1) (N := some 49) (v := ?_) (a' := ?_) pylonlaw11_FillHolds.q2 rfl rfl (any_of HT_.out (by kernel_rfl)) (fun _ _ _ h => h) (Or.inl ⟨by rfl, ?_⟩) ?_ ?_
            rotate_left
            ·intro w'
             go_simp
             with_reducible rfl
            rotate_left
            ·simp only [Act.put, List.setIfInBounds_toArray, List.set_cons_zero, List.set_cons_succ, i64_w, i32_w]
             rfl
            refine pure_ (i := 2) (N := some 50) (v := ?_) (a' := ?_) pylonlaw11_FillHolds.q3 rfl rfl (any_of HT_.out (by kernel_rfl)) (fun _ _ _ h => h) (Or.inl ⟨by rfl, ?_⟩) ?_ ?_
            rotate_left
            ·intro w'
             go_simp
             with_reducible rfl
            rotate_left
            ·simp only [Act.put, List.setIfInBounds_toArray, List.set_cons_zero, List.set_cons_succ, i64_w, i32_w]
             rfl
            refine pure_ (i := 3) (N := some 51) (v := ?_) (a' := ?_) pylonlaw11_FillHolds.q4 rfl rfl (any_of HT_.out (by kernel_rfl)) (fun _ _ _ h => h) (Or.inl ⟨by rfl, ?_⟩) ?_ ?_
            rotate_left
            ·intro w'
             go_simp
             with_reducible rfl
            rotate_left
            ·simp only [Act.put, List.setIfInBounds_toArray, List.set_cons_zero, List.set_cons_succ, i64_w, i32_w]
             rfl
            refine take_ (i := 4) (N := some 52) (v := ?_) (a' := ?_) pylonlaw11_FillHolds.q5 rfl rfl (take_ofW HT_.out HW_.out (by kernel_rfl)) (fun _ _ _ h => h) (Or.inl ⟨by rfl, ?_⟩) hHeld ?_ ?_
            rotate_left
            ·rintro w' ⟨s0, s1, s2, s3, s4, s5, s6, s7, s8, s9, s10, s11, s12, s13, s14⟩
             go_simp
             with_reducible rfl
            rotate_left
            ·simp only [Act.put, List.setIfInBounds_toArray, List.set_cons_zero, List.set_cons_succ, i64_w, i32_w]
             rfl
            refine pure_ (i := 5) (N := some 53) (v := ?_) (a' := ?_) pylonlaw11_FillHolds.q6 rfl rfl (any_of HT_.out (by kernel_rfl)) (fun _ _ _ h => h) (Or.inl ⟨by rfl, ?_⟩) ?_ ?_
            rotate_left
            ·intro w'
             go_simp
             with_reducible rfl
            rotate_left
            ·simp only [Act.put, List.setIfInBounds_toArray, List.set_cons_zero, List.set_cons_succ, i64_w, i32_w]
             rfl
            refine pure_ (i := 6) (N := some 54) (v := ?_) (a' := ?_) pylonlaw11_FillHolds.q7 rfl rfl (any_of HT_.out (by kernel_rfl)) (fun _ _ _ h => h) (Or.inl ⟨by rfl, ?_⟩) ?_ ?_
            rotate_left
            ·intro w'
             go_simp
             with_reducible rfl
            rotate_left
            ·simp only [Act.put, List.setIfInBounds_toArray, List.set_cons_zero, List.set_cons_succ, i64_w, i32_w]
             rfl
            refine pure_ (i := 7) (N := some 55) (v := ?_) (a' := ?_) pylonlaw11_FillHolds.q8 rfl rfl (any_of HT_.out (by kernel_rfl)) (fun _ _ _ h => h) (Or.inl ⟨by rfl, ?_⟩) ?_ ?_
            rotate_left
            ·intro w'
             go_simp
             with_reducible rfl
            rotate_left
            ·simp only [Act.put, List.setIfInBounds_toArray, List.set_cons_zero, List.set_cons_succ, i64_w, i32_w]
             rfl
            refine pure_ (i := 8) (N := some 56) (v := ?_) (a' := ?_) pylonlaw11_FillHolds.q9 rfl rfl (any_of HT_.out (by kernel_rfl)) (fun _ _ _ h => h) (Or.inl ⟨by rfl, ?_⟩) ?_ ?_
            rotate_left
            ·intro w'
             go_simp
             with_reducible rfl
            rotate_left
            ·simp only [Act.put, List.setIfInBounds_toArray, List.set_cons_zero, List.set_cons_succ, i64_w, i32_w]
             rfl
            refine pure_ (i := 9) (N := some 57) (v := ?_) (a' := ?_) pylonlaw11_FillHolds.q10 rfl rfl (any_of HT_.out (by kernel_rfl)) (fun _ _ _ h => h) (Or.inl ⟨by rfl, ?_⟩) ?_ ?_
            rotate_left
            ·intro w'
             go_simp
             with_reducible rfl
            rotate_left
            ·simp only [Act.put, List.setIfInBounds_toArray, List.set_cons_zero, List.set_cons_succ, i64_w, i32_w]
             rfl
            refine pure_ (i := 10) (N := some 58) (v := ?_) (a' := ?_) pylonlaw11_FillHolds.q11 rfl rfl (any_of HT_.out (by kernel_rfl)) (fun _ _ _ h => h) (Or.inl ⟨by rfl, ?_⟩) ?_ ?_
            rotate_left
            ·intro w'
             go_simp
             with_reducible rfl
            rotate_left
            ·simp only [Act.put, List.setIfInBounds_toArray, List.set_cons_zero, List.set_cons_succ, i64_w, i32_w]
             rfl
            refine pure_ (i := 12) (N := some 60) (v := ?_) (a' := ?_) pylonlaw11_FillHolds.q47 rfl rfl (any_of HT_.out (by kernel_rfl)) (fun _ _ _ h => h) (Or.inl ⟨by rfl, ?_⟩) ?_ ?_
            rotate_left
            ·intro w'
             go_simp
             with_reducible rfl
            rotate_left
            ·simp only [Act.put, List.setIfInBounds_toArray, List.set_cons_zero, List.set_cons_succ, i64_w, i32_w]
             rfl
            refine take_ (i := 11) (N := some 59) (v := ?_) (a' := ?_) pylonlaw11_FillHolds.q12 rfl rfl (take_ofW HT_.out HW_.out (by kernel_rfl)) (fun _ _ _ h => h) (Or.inl ⟨by rfl, ?_⟩) hHeld ?_ ?_
            rotate_left
            ·rintro w' ⟨s0, s1, s2, s3, s4, s5, s6, s7, s8, s9, s10, s11, s12, s13, s14⟩
             go_simp
             with_reducible rfl
            rotate_left
            ·simp only [Act.put, List.setIfInBounds_toArray, List.set_cons_zero, List.set_cons_succ, i64_w, i32_w]
             rfl
            refine take_ (i := 13) (N := some 61) (v := ?_) (a' := ?_) pylonlaw11_FillHolds.q13 rfl rfl (take_ofW HT_.out HW_.out (by kernel_rfl)) (fun _ _ _ h => h) (Or.inl ⟨by rfl, ?_⟩) hHeld ?_ ?_
            rotate_left
            ·rintro w' ⟨s0, s1, s2, s3, s4, s5, s6, s7, s8, s9, s10, s11, s12, s13, s14⟩
             go_simp
             with_reducible rfl
            rotate_left
            ·simp only [Act.put, List.setIfInBounds_toArray, List.set_cons_zero, List.set_cons_succ, i64_w, i32_w]
             rfl
            refine pure_ (i := 14) (N := some 62) (v := ?_) (a' := ?_) pylonlaw11_FillHolds.q14 rfl rfl (any_of HT_.out (by kernel_rfl)) (fun _ _ _ h => h) (Or.inl ⟨by rfl, ?_⟩) ?_ ?_
            rotate_left
            ·intro w'
             go_simp
             with_reducible rfl
            rotate_left
            ·simp only [Act.put, List.setIfInBounds_toArray, List.set_cons_zero, List.set_cons_succ, i64_w, i32_w]
             rfl
            refine pure_ (i := 15) (N := some 63) (v := ?_) (a' := ?_) pylonlaw11_FillHolds.q15 rfl rfl (any_of HT_.out (by kernel_rfl)) (fun _ _ _ h => h) (Or.inl ⟨by rfl, ?_⟩) ?_ ?_
            rotate_left
            ·intro w'
             go_simp
             with_reducible rfl
            rotate_left
            ·simp only [Act.put, List.setIfInBounds_toArray, List.set_cons_zero, List.set_cons_succ, i64_w, i32_w]
             rfl
            refine pure_ (i := 16) (N := some 64) (v := ?_) (a' := ?_) pylonlaw11_FillHolds.q16 rfl rfl (any_of HT_.out (by kernel_rfl)) (fun _ _ _ h => h) (Or.inl ⟨by rfl, ?_⟩) ?_ ?_
            rotate_left
            ·intro w'
             go_simp
             with_reducible rfl
            rotate_left
            ·simp only [Act.put, List.setIfInBounds_toArray, List.set_cons_zero, List.set_cons_succ, i64_w, i32_w]
             rfl
            refine pure_ (i := 17) (N := some 65) (v := ?_) (a' := ?_) pylonlaw11_FillHolds.q17 rfl rfl (any_of HT_.out (by kernel_rfl)) (fun _ _ _ h => h) (Or.inl ⟨by rfl, ?_⟩) ?_ ?_
            rotate_left
            ·intro w'
             go_simp
             with_reducible rfl
            rotate_left
            ·simp only [Act.put, List.setIfInBounds_toArray, List.set_cons_zero, List.set_cons_succ, i64_w, i32_w]
             rfl
            refine pure_ (i := 18) (N := some 66) (v := ?_) (a' := ?_) pylonlaw11_FillHolds.q18 rfl rfl (any_of HT_.out (by kernel_rfl)) (fun _ _ _ h => h) (Or.inl ⟨by rfl, ?_⟩) ?_ ?_
            rotate_left
            ·intro w'
             go_simp
             with_reducible rfl
            rotate_left
            ·simp only [Act.put, List.setIfInBounds_toArray, List.set_cons_zero, List.set_cons_succ, i64_w, i32_w]
             rfl
            refine pure_ (i := 19) (N := some 67) (v := ?_) (a' := ?_) pylonlaw11_FillHolds.q19 rfl rfl (any_of HT_.out (by kernel_rfl)) (fun _ _ _ h => h) (Or.inl ⟨by rfl, ?_⟩) ?_ ?_
            rotate_left
            ·intro w'
             go_simp
             with_reducible rfl
            rotate_left
            ·simp only [Act.put, List.setIfInBounds_toArray, List.set_cons_zero, List.set_cons_succ, i64_w, i32_w]
             rfl
            refine pure_ (i := 20) (N := some 68) (v := ?_) (a' := ?_) pylonlaw11_FillHolds.q20 rfl rfl (any_of HT_.out (by kernel_rfl)) (fun _ _ _ h => h) (Or.inl ⟨by rfl, ?_⟩) ?_ ?_
            rotate_left
            ·intro w'
             go_simp
             with_reducible rfl
            rotate_left
            ·simp only [Act.put, List.setIfInBounds_toArray, List.set_cons_zero, List.set_cons_succ, i64_w, i32_w]
             rfl
            refine pure_ (i := 22) (N := some 70) (v := ?_) (a' := ?_) pylonlaw11_FillHolds.q48 rfl rfl (any_of HT_.out (by kernel_rfl)) (fun _ _ _ h => h) (Or.inl ⟨by rfl, ?_⟩) ?_ ?_
            rotate_left
            ·intro w'
             go_simp
             with_reducible rfl
            rotate_left
            ·simp only [Act.put, List.setIfInBounds_toArray, List.set_cons_zero, List.set_cons_succ, i64_w, i32_w]
             rfl
            refine pure_ (i := 23) (N := some 71) (v := ?_) (a' := ?_) pylonlaw11_FillHolds.q49 rfl rfl (any_of HT_.out (by kernel_rfl)) (fun _ _ _ h => h) (Or.inl ⟨by rfl, ?_⟩) ?_ ?_
            rotate_left
            ·intro w'
             go_simp
             with_reducible rfl
            rotate_left
            ·simp only [Act.put, List.setIfInBounds_toArray, List.set_cons_zero, List.set_cons_succ, i64_w, i32_w]
             rfl
            refine pure_ (i := 24) (N := some 72) (v := ?_) (a' := ?_) pylonlaw11_FillHolds.q50 rfl rfl (any_of HT_.out (by kernel_rfl)) (fun _ _ _ h => h) (Or.inl ⟨by rfl, ?_⟩) ?_ ?_
            rotate_left
            ·intro w'
             go_simp
             with_reducible rfl
            rotate_left
            ·simp only [Act.put, List.setIfInBounds_toArray, List.set_cons_zero, List.set_cons_succ, i64_w, i32_w]
             rfl
            refine pure_ (i := 25) (N := some 73) (v := ?_) (a' := ?_) pylonlaw11_FillHolds.q51 rfl rfl (any_of HT_.out (by kernel_rfl)) (fun _ _ _ h => h) (Or.inl ⟨by rfl, ?_⟩) ?_ ?_
            rotate_left
            ·intro w'
             go_simp
             with_reducible rfl
            rotate_left
            ·simp only [Act.put, List.setIfInBounds_toArray, List.set_cons_zero, List.set_cons_succ, i64_w, i32_w]
             rfl
            refine take_ (i := 21) (N := some 69) (v := ?_) (a' := ?_) pylonlaw11_FillHolds.q25 rfl rfl (take_ofW HT_.out HW_.out (by kernel_rfl)) (fun _ _ _ h => h) (Or.inl ⟨by rfl, ?_⟩) hHeld ?_ ?_
            rotate_left
            ·rintro w' ⟨s0, s1, s2, s3, s4, s5, s6, s7, s8, s9, s10, s11, s12, s13, s14⟩
             go_simp
             with_reducible rfl
            rotate_left
            ·simp only [Act.put, List.setIfInBounds_toArray, List.set_cons_zero, List.set_cons_succ, i64_w, i32_w]
             rfl
            refine take_ (i := 26) (N := some 74) (v := ?_) (a' := ?_) pylonlaw11_FillHolds.q26 rfl rfl (take_ofW HT_.out HW_.out (by kernel_rfl)) (fun _ _ _ h => h) (Or.inl ⟨by rfl, ?_⟩) hHeld ?_ ?_
            rotate_left
            ·rintro w' ⟨s0, s1, s2, s3, s4, s5, s6, s7, s8, s9, s10, s11, s12, s13, s14⟩
             go_simp
             with_reducible rfl
            rotate_left
            ·simp only [Act.put, List.setIfInBounds_toArray, List.set_cons_zero, List.set_cons_succ, i64_w, i32_w]
             rfl
            refine pure_ (i := 27) (N := some 75) (v := ?_) (a' := ?_) pylonlaw11_FillHolds.q27 rfl rfl (any_of HT_.out (by kernel_rfl)) (fun _ _ _ h => h) (Or.inl ⟨by rfl, ?_⟩) ?_ ?_
            rotate_left
            ·intro w'
             go_simp
             with_reducible rfl
            rotate_left
            ·simp only [Act.put, List.setIfInBounds_toArray, List.set_cons_zero, List.set_cons_succ, i64_w, i32_w]
             rfl
            refine pure_ (i := 28) (N := some 76) (v := ?_) (a' := ?_) pylonlaw11_FillHolds.q28 rfl rfl (any_of HT_.out (by kernel_rfl)) (fun _ _ _ h => h) (Or.inl ⟨by rfl, ?_⟩) ?_ ?_
            rotate_left
            ·intro w'
             go_simp
             with_reducible rfl
            rotate_left
            ·simp only [Act.put, List.setIfInBounds_toArray, List.set_cons_zero, List.set_cons_succ, i64_w, i32_w]
             rfl
            refine pure_ (i := 29) (N := some 77) (v := ?_) (a' := ?_) pylonlaw11_FillHolds.q29 rfl rfl (any_of HT_.out (by kernel_rfl)) (fun _ _ _ h => h) (Or.inl ⟨by rfl, ?_⟩) ?_ ?_
            rotate_left
            ·intro w'
             go_simp
             with_reducible rfl
            rotate_left
            ·simp only [Act.put, List.setIfInBounds_toArray, List.set_cons_zero, List.set_cons_succ, i64_w, i32_w]
             rfl
            refine pure_ (i := 30) (N := some 78) (v := undef) (a' := ?_) pylonlaw11_FillHolds.q30 rfl rfl (any_of HT_.out (by kernel_rfl)) (fun _ _ _ h => h) (Or.inr ⟨by rfl, rfl⟩) ?_ ?_
            rotate_left
            ·simp only [Act.put, List.setIfInBounds_toArray, List.set_cons_zero, List.set_cons_succ, i64_w, i32_w]
             rfl
            refine pure_ (i := 31) (N := some 79) (v := undef) (a' := ?_) pylonlaw11_FillHolds.q31 rfl rfl (any_of HT_.out (by kernel_rfl)) (fun _ _ _ h => h) (Or.inr ⟨by rfl, rfl⟩) ?_ ?_
            rotate_left
            ·simp only [Act.put, List.setIfInBounds_toArray, List.set_cons_zero, List.set_cons_succ, i64_w, i32_w]
             rfl
            refine pure_ (i := 32) (N := some 80) (v := undef) (a' := ?_) pylonlaw11_FillHolds.q32 rfl rfl (any_of HT_.out (by kernel_rfl)) (fun _ _ _ h => h) (Or.inr ⟨by rfl, rfl⟩) ?_ ?_
            rotate_left
            ·simp only [Act.put, List.setIfInBounds_toArray, List.set_cons_zero, List.set_cons_succ, i64_w, i32_w]
             rfl
            refine pure_ (i := 33) (N := some 81) (v := undef) (a' := ?_) pylonlaw11_FillHolds.q33 rfl rfl (any_of HT_.out (by kernel_rfl)) (fun _ _ _ h => h) (Or.inr ⟨by rfl, rfl⟩) ?_ ?_
            rotate_left
            ·simp only [Act.put, List.setIfInBounds_toArray, List.set_cons_zero, List.set_cons_succ, i64_w, i32_w]
             rfl
            refine pure_ (i := 34) (N := some 82) (v := undef) (a' := ?_) pylonlaw11_FillHolds.q34 rfl rfl (any_of HT_.out (by kernel_rfl)) (fun _ _ _ h => h) (Or.inr ⟨by rfl, rfl⟩) ?_ ?_
            rotate_left
            ·simp only [Act.put, List.setIfInBounds_toArray, List.set_cons_zero, List.set_cons_succ, i64_w, i32_w]
             rfl
            refine pure_ (i := 35) (N := some 83) (v := undef) (a' := ?_) pylonlaw11_FillHolds.q35 rfl rfl (any_of HT_.out (by kernel_rfl)) (fun _ _ _ h => h) (Or.inr ⟨by rfl, rfl⟩) ?_ ?_
            rotate_left
            ·simp only [Act.put, List.setIfInBounds_toArray, List.set_cons_zero, List.set_cons_succ, i64_w, i32_w]
             rfl
            refine pure_ (i := 36) (N := some 84) (v := undef) (a' := ?_) pylonlaw11_FillHolds.q36 rfl rfl (any_of HT_.out (by kernel_rfl)) (fun _ _ _ h => h) (Or.inr ⟨by rfl, rfl⟩) ?_ ?_
            rotate_left
            ·simp only [Act.put, List.setIfInBounds_toArray, List.set_cons_zero, List.set_cons_succ, i64_w, i32_w]
             rfl
            refine pure_ (i := 37) (N := some 85) (v := undef) (a' := ?_) pylonlaw11_FillHolds.q37 rfl rfl (any_of HT_.out (by kernel_rfl)) (fun _ _ _ h => h) (Or.inr ⟨by rfl, rfl⟩) ?_ ?_
            rotate_left
            ·simp only [Act.put, List.setIfInBounds_toArray, List.set_cons_zero, List.set_cons_succ, i64_w, i32_w]
             rfl
            refine pure_ (i := 38) (N := some 86) (v := undef) (a' := ?_) pylonlaw11_FillHolds.q38 rfl rfl (any_of HT_.out (by kernel_rfl)) (fun _ _ _ h => h) (Or.inr ⟨by rfl, rfl⟩) ?_ ?_
            rotate_left
            ·simp only [Act.put, List.setIfInBounds_toArray, List.set_cons_zero, List.set_cons_succ, i64_w, i32_w]
             rfl
            refine pure_ (i := 39) (N := some 87) (v := undef) (a' := ?_) pylonlaw11_FillHolds.q39 rfl rfl (any_of HT_.out (by kernel_rfl)) (fun _ _ _ h => h) (Or.inr ⟨by rfl, rfl⟩) ?_ ?_
            rotate_left
            ·simp only [Act.put, List.setIfInBounds_toArray, List.set_cons_zero, List.set_cons_succ, i64_w, i32_w]
             rfl
            refine pure_ (i := 40) (N := some 88) (v := undef) (a' := ?_) pylonlaw11_FillHolds.q40 rfl rfl (any_of HT_.out (by kernel_rfl)) (fun _ _ _ h => h) (Or.inr ⟨by rfl, rfl⟩) ?_ ?_
            rotate_left
            ·simp only [Act.put, List.setIfInBounds_toArray, List.set_cons_zero, List.set_cons_succ, i64_w, i32_w]
             rfl
            refine pure_ (i := 41) (N := some 89) (v := undef) (a' := ?_) pylonlaw11_FillHolds.q41 rfl rfl (any_of HT_.out (by kernel_rfl)) (fun _ _ _ h => h) (Or.inr ⟨by rfl, rfl⟩) ?_ ?_
            rotate_left
            ·simp only [Act.put, List.setIfInBounds_toArray, List.set_cons_zero, List.set_cons_succ, i64_w, i32_w]
             rfl
            refine pure_ (i := 42) (N := some 90) (v := undef) (a' := ?_) pylonlaw11_FillHolds.q42 rfl rfl (any_of HT_.out (by kernel_rfl)) (fun _ _ _ h => h) (Or.inr ⟨by rfl, rfl⟩) ?_ ?_
            rotate_left
            ·simp only [Act.put, List.setIfInBounds_toArray, List.set_cons_zero, List.set_cons_succ, i64_w, i32_w]
             rfl
            refine pure_ (i := 43) (N := some 91) (v := undef) (a' := ?_) pylonlaw11_FillHolds.q43 rfl rfl (any_of HT_.out (by kernel_rfl)) (fun _ _ _ h => h) (Or.inr ⟨by rfl, rfl⟩) ?_ ?_
            rotate_left
            ·simp only [Act.put, List.setIfInBounds_toArray, List.set_cons_zero, List.set_cons_succ, i64_w, i32_w]
             rfl
            refine pure_ (i := 44) (N := some 92) (v := undef) (a' := ?_) pylonlaw11_FillHolds.q44 rfl rfl (any_of HT_.out (by kernel_rfl)) (fun _ _ _ h => h) (Or.inr ⟨by rfl, rfl⟩) ?_ ?_
            rotate_left
            ·simp only [Act.put, List.setIfInBounds_toArray, List.set_cons_zero, List.set_cons_succ, i64_w, i32_w]
             rfl
            refine pure_ (i := 45) (N := some 93) (v := undef) (a' := ?_) pylonlaw11_FillHolds.q45 rfl rfl (any_of HT_.out (by kernel_rfl)) (fun _ _ _ h => h) (Or.inr ⟨by rfl, rfl⟩) ?_ ?_
            rotate_left
            ·simp only [Act.put, List.setIfInBounds_toArray, List.set_cons_zero, List.set_cons_succ, i64_w, i32_w]
             rfl
            refine pure_ (i := 46) (N := some 94) (v := ?_) (a' := ?_) pylonlaw11_FillHolds.q46 rfl rfl (any_of HT_.out (by kernel_rfl)) (fun _ _ _ h => h) (Or.inl ⟨by rfl, ?_⟩) ?_ ?_
            rotate_left
            ·intro w'
             go_simp
             with_reducible rfl
            rotate_left
            ·simp only [Act.put, List.setIfInBounds_toArray, List.set_cons_zero, List.set_cons_succ, i64_w, i32_w]
             rfl
            refine done_ (done_of HT_.out (by kernel_rfl)) ?_
            try go_wp2
            go_meet
            case rel => exact ⟨_, (true), (by first | rfl | (simp; done) | (simp [*]; done)), H', ⟨by have := HK1.out; first | omega | exact Nat.le_refl _⟩, ⟨kr HO_5⟩, ⟨kr HO_7⟩, ⟨bkn BK294⟩, ⟨bw⟩⟩
           ·rw [if_neg c29] at H
            have c29b0 : decide (((rd_T43 t305 x45_1).f1) ≤ ((rd_T43 t305 x45_1).f0)) = false := decide_eq_false c29
            clear c29
            by_cases c31 : x45_1 > 0
            ·rw [if_pos c31] at H
             have c31b0 : decide (0 < x45_1) = true := decide_eq_true c31
             clear c31
             obtain ⟨ji32, hji32⟩ : ∃ j_ : Int, (wrap64 (x45_1 - 1)) = j_ := ⟨_, rfl⟩
             replace H : (if 0 ≤ (ji32) then (if (ji32) < (t305.length : Int) then (pylonlaw11_FillHolds.j1 k1 a1 t305 t318 t321 x9_1 x10_1 x45_1 (t305.length : Int) x45_1 (decide (((rd_T43 t305 x45_1).f0) ≤ ((rd_T43 t305 (ji32)).f1))) a0_0 a0_1 a0_2 a0_3 a0_4 a0_5 l0_6) else (none)) else (none)) = some r := by first | (rw [hji32] at H; exact H) | (simp only [hji32] at H ⊢; exact H)
             have hji32w : (IntKind.i64.wrap (x45_1 - 1)) = ji32 := (i64_w _).trans hji32
             by_cases c33 : 0 ≤ (ji32)
             ·rw [if_pos c33] at H
              have c33b0 : decide (0 ≤ (ji32)) = true := decide_eq_true c33
              clear c33
              by_cases c34 : (ji32) < (t305.length : Int)
              ·rw [if_pos c34] at H
               have c34b0 : decide ((ji32) < (t305.length : Int)) = true := decide_eq_true c34
               clear c34
               have H' := AX H
               clear H
               try go_wp2
               have n0_ := AX (Kd.R_drew HO_5.out)
               have n1_ := AX (Kd.R_drew HO_7.out)
               have n2_ := AX (blk_drew BK294.out)
               have n3_ := AX (below_drew1 HB.out)
               clear HO_5
               clear HO_7
               clear BK294
               clear HB
               have HO_5 := n0_
               have HO_7 := n1_
               have BK294 := n2_
               have HB := n3_
               clear n0_ n1_ n2_ n3_
               have p322 : 0 ≤ (x45_1 : Int) := of_decide_eq_true (by first | (with_reducible assumption) | assumption)
               have q322 : x45_1 < (t305.length : Int) := of_decide_eq_true (by first | (with_reducible assumption) | assumption)
               obtain ⟨ad322, e322, hx322_0, hx322_1⟩ := at_T43 (Kd.R_reads' HO_5.out).2.2 x45_1 p322 q322
               cases e322
               replace p322 := eq_true p322
               replace q322 := eq_true q322
               have p323 : 0 ≤ (x45_1 : Int) := of_decide_eq_true (by first | (with_reducible assumption) | assumption)
               have q323 : x45_1 < (t305.length : Int) := of_decide_eq_true (by first | (with_reducible assumption) | assumption)
               obtain ⟨ad323, e323, hx323_0, hx323_1⟩ := at_T43 (Kd.R_reads' HO_5.out).2.2 x45_1 p323 q323
               obtain rfl : ad322 = ad323 := (by injection e323)
               replace p323 := eq_true p323
               replace q323 := eq_true q323
               have p324 : 0 ≤ (x45_1 : Int) := of_decide_eq_true (by first | (with_reducible assumption) | assumption)
               have q324 : x45_1 < (t305.length : Int) := of_decide_eq_true (by first | (with_reducible assumption) | assumption)
               obtain ⟨ad324, e324, hx324_0, hx324_1⟩ := at_T43 (Kd.R_reads' HO_5.out).2.2 x45_1 p324 q324
               obtain rfl : ad322 = ad324 := (by injection e324)
               replace p324 := eq_true p324
               replace q324 := eq_true q324
               have p325 : 0 ≤ (x45_1 : Int) := of_decide_eq_true (by first | (with_reducible assumption) | assumption)
               have q325 : x45_1 < (t305.length : Int) := of_decide_eq_true (by first | (with_reducible assumption) | assumption)
               obtain ⟨ad325, e325, hx325_0, hx325_1⟩ := at_T43 (Kd.R_reads' HO_5.out).2.2 x45_1 p325 q325
               obtain rfl : ad322 = ad325 := (by injection e325)
               replace p325 := eq_true p325
               replace q325 := eq_true q325
               have p326 : 0 ≤ (x45_1 : Int) := of_decide_eq_true (by first | (with_reducible assumption) | assumption)
               have q326 : x45_1 < (t305.length : Int) := of_decide_eq_true (by first | (with_reducible assumption) | assumption)
               obtain ⟨ad326, e326, hx326_0, hx326_1⟩ := at_T43 (Kd.R_reads' HO_5.out).2.2 x45_1 p326 q326
               obtain rfl : ad322 = ad326 := (by injection e326)
               replace p326 := eq_true p326
               replace q326 := eq_true q326
               have p327 : 0 ≤ ((ji32) : Int) := of_decide_eq_true (by first | (with_reducible assumption) | assumption)
               have q327 : (ji32) < (t305.length : Int) := of_decide_eq_true (by first | (with_reducible assumption) | assumption)
               obtain ⟨ad327, e327, hx327_0, hx327_1⟩ := at_T43 (Kd.R_reads' HO_5.out).2.2 (ji32) p327 q327
               obtain rfl : ad322 = ad327 := (by injection e327)
               replace p327 := eq_true p327
               replace q327 := eq_true q327
               refine start_ (n := 47) (S := fun w' => w'.cell? ⟨gb294, 0, none⟩ = some (.string a0_0) ∧ w'.cell? ⟨gb294, 1, none⟩ = some (.int .i64 a0_1) ∧ w'.cell? ⟨gb294, 2, none⟩ = some (.int .i64 a0_2) ∧ w'.cell? ⟨gb294, 3, none⟩ = some (.int .i64 a0_3) ∧ w'.cell? ⟨gb294, 4, none⟩ = some (.int .i64 a0_4) ∧ w'.cell? ⟨gb294, 5, none⟩ = some (.int .i64 a0_5) ∧ w'.cell? ⟨gb294, 6, none⟩ = some (.slice A0_6 l0_6.length c0_6) ∧ w'.cell? (ad322.add ((x45_1).toNat * 2)) = some (.int .i64 ((rd_T43 t305 x45_1).f0)) ∧ w'.cell? ⟨(ad322.add ((x45_1).toNat * 2)).block, (ad322.add ((x45_1).toNat * 2)).off + 1, none⟩ = some (.int .i64 ((rd_T43 t305 x45_1).f1)) ∧ w'.cell? (ad322.add ((x45_1).toNat * 2)) = some (.int .i64 ((rd_T43 t305 x45_1).f0)) ∧ w'.cell? ⟨(ad322.add ((x45_1).toNat * 2)).block, (ad322.add ((x45_1).toNat * 2)).off + 1, none⟩ = some (.int .i64 ((rd_T43 t305 x45_1).f1)) ∧ w'.cell? (ad322.add ((x45_1).toNat * 2)) = some (.int .i64 ((rd_T43 t305 x45_1).f0)) ∧ w'.cell? ⟨(ad322.add ((x45_1).toNat * 2)).block, (ad322.add ((x45_1).toNat * 2)).off + 1, none⟩ = some (.int .i64 ((rd_T43 t305 x45_1).f1)) ∧ w'.cell? (ad322.add ((x45_1).toNat * 2)) = some (.int .i64 ((rd_T43 t305 x45_1).f0)) ∧ w'.cell? ⟨(ad322.add ((x45_1).toNat * 2)).block, (ad322.add ((x45_1).toNat * 2)).off + 1, none⟩ = some (.int .i64 ((rd_T43 t305 x45_1).f1)) ∧ w'.cell? (ad322.add ((x45_1).toNat * 2)) = some (.int .i64 ((rd_T43 t305 x45_1).f0)) ∧ w'.cell? ⟨(ad322.add ((x45_1).toNat * 2)).block, (ad322.add ((x45_1).toNat * 2)).off + 1, none⟩ = some (.int .i64 ((rd_T43 t305 x45_1).f1)) ∧ w'.cell? (ad322.add (((ji32)).toNat * 2)) = some (.int .i64 ((rd_T43 t305 (ji32)).f0)) ∧ w'.cell? ⟨(ad322.add (((ji32)).toNat * 2)).block, (ad322.add (((ji32)).toNat * 2)).off + 1, none⟩ = some (.int .i64 ((rd_T43 t305 (ji32)).f1))) (ds := []) pylonlaw11_FillHolds.q0 (by kernel_rfl) rfl rfl ⟨(blk_cell BK294.out 0).trans rfl, (blk_cell BK294.out 1).trans rfl, (blk_cell BK294.out 2).trans rfl, (blk_cell BK294.out 3).trans rfl, (blk_cell BK294.out 4).trans rfl, (blk_cell BK294.out 5).trans rfl, (blk_cell BK294.out 6).trans rfl, hx322_0, hx322_1, hx323_0, hx323_1, hx324_0, hx324_1, hx325_0, hx325_1, hx326_0, hx326_1, hx327_0, hx327_1⟩ (fun hHeld => ?_); refine with_tabW pylonlaw11_FillHolds.tab11 pylonlaw11_FillHolds.bits11 (fun HT_ HW_ => ?_)
               generalize wr.drew = w35 at HO_5 HO_7 BK294 HB hx322_0 hx322_1 hx323_0 hx323_1 hx324_0 hx324_1 hx325_0 hx325_1 hx326_0 hx326_1 hx327_0 hx327_1 hHeld ⊢
               refine pure_ (i := 0) (N := some 48) (v := ?_) (a' := ?_) pylonlaw11_FillHolds.q1 rfl rfl (any_of HT_.out (by kernel_rfl)) (fun _ _ _ h => h) (Or.inl ⟨by rfl, ?_⟩) ?_ ?_
               rotate_left
               ·intro w'
                go_simp
                with_reducible rfl
               rotate_left
               ·simp only [Act.put, List.setIfInBounds_toArray, List.set_cons_zero, List.set_cons_succ, i64_w, i32_w]
                rfl
               refine pure_ (i := 1) (N := some 49) (v := ?_) (a' := ?_) pylonlaw11_FillHolds.q2 rfl rfl (any_of HT_.out (by kernel_rfl)) (fun _ _ _ h => h) (Or.inl ⟨by rfl, ?_⟩) ?_ ?_
               rotate_left
               ·intro w'
                go_simp
                with_reducible rfl
               rotate_left
               ·simp only [Act.put, List.setIfInBounds_toArray, List.set_cons_zero, List.set_cons_succ, i64_w, i32_w]
                rfl
               refine pure_ (i := 2) (N := some 50) (v := ?_) (a' := ?_) pylonlaw11_FillHolds.q3 rfl rfl (any_of HT_.out (by kernel_rfl)) (fun _ _ _ h => h) (Or.inl ⟨by rfl, ?_⟩) ?_ ?_
               rotate_left
               ·intro w'
                go_simp
                with_reducible rfl
               rotate_left
               ·simp only [Act.put, List.setIfInBounds_toArray, List.set_cons_zero, List.set_cons_succ, i64_w, i32_w]
                rfl
               refine pure_ (i := 3) (N := some 51) (v := ?_) (a' := ?_) pylonlaw11_FillHolds.q4 rfl rfl (any_of HT_.out (by kernel_rfl)) (fun _ _ _ h => h) (Or.inl ⟨by rfl, ?_⟩) ?_ ?_
               rotate_left
               ·intro w'
                go_simp
                with_reducible rfl
               rotate_left
               ·simp only [Act.put, List.setIfInBounds_toArray, List.set_cons_zero, List.set_cons_succ, i64_w, i32_w]
                rfl
               refine take_ (i := 4) (N := some 52) (v := ?_) (a' := ?_) pylonlaw11_FillHolds.q5 rfl rfl (take_ofW HT_.out HW_.out (by kernel_rfl)) (fun _ _ _ h => h) (Or.inl ⟨by rfl, ?_⟩) hHeld ?_ ?_
               rotate_left
               ·rintro w' ⟨s0, s1, s2, s3, s4, s5, s6, s7, s8, s9, s10, s11, s12, s13, s14, s15, s16, s17, s18⟩
                go_simp
                with_reducible rfl
               rotate_left
               ·simp only [Act.put, List.setIfInBounds_toArray, List.set_cons_zero, List.set_cons_succ, i64_w, i32_w]
                rfl
               refine pure_ (i := 5) (N := some 53) (v := ?_) (a' := ?_) pylonlaw11_FillHolds.q6 rfl rfl (any_of HT_.out (by kernel_rfl)) (fun _ _ _ h => h) (Or.inl ⟨by rfl, ?_⟩) ?_ ?_
               rotate_left
               ·intro w'
                go_simp
                with_reducible rfl
               rotate_left
               ·simp only [Act.put, List.setIfInBounds_toArray, List.set_cons_zero, List.set_cons_succ, i64_w, i32_w]
                rfl
               refine pure_ (i := 6) (N := some 54) (v := ?_) (a' := ?_) pylonlaw11_FillHolds.q7 rfl rfl (any_of HT_.out (by kernel_rfl)) (fun _ _ _ h => h) (Or.inl ⟨by rfl, ?_⟩) ?_ ?_
               rotate_left
               ·intro w'
                go_simp
                with_reducible rfl
               rotate_left
               ·simp only [Act.put, List.setIfInBounds_toArray, List.set_cons_zero, List.set_cons_succ, i64_w, i32_w]
                rfl
               refine pure_ (i := 7) (N := some 55) (v := ?_) (a' := ?_) pylonlaw11_FillHolds.q8 rfl rfl (any_of HT_.out (by kernel_rfl)) (fun _ _ _ h => h) (Or.inl ⟨by rfl, ?_⟩) ?_ ?_
               rotate_left
               ·intro w'
                go_simp
                with_reducible rfl
               rotate_left
               ·simp only [Act.put, List.setIfInBounds_toArray, List.set_cons_zero, List.set_cons_succ, i64_w, i32_w]
                rfl
               refine pure_ (i := 8) (N := some 56) (v := ?_) (a' := ?_) pylonlaw11_FillHolds.q9 rfl rfl (any_of HT_.out (by kernel_rfl)) (fun _ _ _ h => h) (Or.inl ⟨by rfl, ?_⟩) ?_ ?_
               rotate_left
               ·intro w'
                go_simp
                with_reducible rfl
               rotate_left
               ·simp only [Act.put, List.setIfInBounds_toArray, List.set_cons_zero, List.set_cons_succ, i64_w, i32_w]
                rfl
               refine pure_ (i := 9) (N := some 57) (v := ?_) (a' := ?_) pylonlaw11_FillHolds.q10 rfl rfl (any_of HT_.out (by kernel_rfl)) (fun _ _ _ h => h) (Or.inl ⟨by rfl, ?_⟩) ?_ ?_
               rotate_left
               ·intro w'
                go_simp
                with_reducible rfl
               rotate_left
               ·simp only [Act.put, List.setIfInBounds_toArray, List.set_cons_zero, List.set_cons_succ, i64_w, i32_w]
                rfl
               refine pure_ (i := 10) (N := some 58) (v := ?_) (a' := ?_) pylonlaw11_FillHolds.q11 rfl rfl (any_of HT_.out (by kernel_rfl)) (fun _ _ _ h => h) (Or.inl ⟨by rfl, ?_⟩) ?_ ?_
               rotate_left
               ·intro w'
                go_simp
                with_reducible rfl
               rotate_left
               ·simp only [Act.put, List.setIfInBounds_toArray, List.set_cons_zero, List.set_cons_succ, i64_w, i32_w]
                rfl
               refine pure_ (i := 12) (N := some 60) (v := ?_) (a' := ?_) pylonlaw11_FillHolds.q47 rfl rfl (any_of HT_.out (by kernel_rfl)) (fun _ _ _ h => h) (Or.inl ⟨by rfl, ?_⟩) ?_ ?_
               rotate_left
               ·intro w'
                go_simp
                with_reducible rfl
               rotate_left
               ·simp only [Act.put, List.setIfInBounds_toArray, List.set_cons_zero, List.set_cons_succ, i64_w, i32_w]
                rfl
               refine take_ (i := 11) (N := some 59) (v := ?_) (a' := ?_) pylonlaw11_FillHolds.q12 rfl rfl (take_ofW HT_.out HW_.out (by kernel_rfl)) (fun _ _ _ h => h) (Or.inl ⟨by rfl, ?_⟩) hHeld ?_ ?_
               rotate_left
               ·rintro w' ⟨s0, s1, s2, s3, s4, s5, s6, s7, s8, s9, s10, s11, s12, s13, s14, s15, s16, s17, s18⟩
                go_simp
                with_reducible rfl
               rotate_left
               ·simp only [Act.put, List.setIfInBounds_toArray, List.set_cons_zero, List.set_cons_succ, i64_w, i32_w]
                rfl
               refine take_ (i := 13) (N := some 61) (v := ?_) (a' := ?_) pylonlaw11_FillHolds.q13 rfl rfl (take_ofW HT_.out HW_.out (by kernel_rfl)) (fun _ _ _ h => h) (Or.inl ⟨by rfl, ?_⟩) hHeld ?_ ?_
               rotate_left
               ·rintro w' ⟨s0, s1, s2, s3, s4, s5, s6, s7, s8, s9, s10, s11, s12, s13, s14, s15, s16, s17, s18⟩
                go_simp
                with_reducible rfl
               rotate_left
               ·simp only [Act.put, List.setIfInBounds_toArray, List.set_cons_zero, List.set_cons_succ, i64_w, i32_w]
                rfl
               refine pure_ (i := 14) (N := some 62) (v := ?_) (a' := ?_) pylonlaw11_FillHolds.q14 rfl rfl (any_of HT_.out (by kernel_rfl)) (fun _ _ _ h => h) (Or.inl ⟨by rfl, ?_⟩) ?_ ?_
               rotate_left
               ·intro w'
                go_simp
                with_reducible rfl
               rotate_left
               ·simp only [Act.put, List.setIfInBounds_toArray, List.set_cons_zero, List.set_cons_succ, i64_w, i32_w]
                rfl
               refine pure_ (i := 15) (N := some 63) (v := ?_) (a' := ?_) pylonlaw11_FillHolds.q15 rfl rfl (any_of HT_.out (by kernel_rfl)) (fun _ _ _ h => h) (Or.inl ⟨by rfl, ?_⟩) ?_ ?_
               rotate_left
               ·intro w'
                go_simp
                with_reducible rfl
               rotate_left
               ·simp only [Act.put, List.setIfInBounds_toArray, List.set_cons_zero, List.set_cons_succ, i64_w, i32_w]
                rfl
               refine pure_ (i := 16) (N := some 64) (v := ?_) (a' := ?_) pylonlaw11_FillHolds.q16 rfl rfl (any_of HT_.out (by kernel_rfl)) (fun _ _ _ h => h) (Or.inl ⟨by rfl, ?_⟩) ?_ ?_
               rotate_left
               ·intro w'
                go_simp
                with_reducible rfl
               rotate_left
               ·simp only [Act.put, List.setIfInBounds_toArray, List.set_cons_zero, List.set_cons_succ, i64_w, i32_w]
                rfl
               refine pure_ (i := 17) (N := some 65) (v := ?_) (a' := ?_) pylonlaw11_FillHolds.q17 rfl rfl (any_of HT_.out (by kernel_rfl)) (fun _ _ _ h => h) (Or.inl ⟨by rfl, ?_⟩) ?_ ?_
               rotate_left
               ·intro w'
                go_simp
                with_reducible rfl
               rotate_left
               ·simp only [Act.put, List.setIfInBounds_toArray, List.set_cons_zero, List.set_cons_succ, i64_w, i32_w]
                rfl
               refine pure_ (i := 18) (N := some 66) (v := ?_) (a' := ?_) pylonlaw11_FillHolds.q18 rfl rfl (any_of HT_.out (by kernel_rfl)) (fun _ _ _ h => h) (Or.inl ⟨by rfl, ?_⟩) ?_ ?_
               rotate_left
               ·intro w'
                go_simp
                with_reducible rfl
               rotate_left
               ·simp only [Act.put, List.setIfInBounds_toArray, List.set_cons_zero, List.set_cons_succ, i64_w, i32_w]
                rfl
               refine pure_ (i := 19) (N := some 67) (v := ?_) (a' := ?_) pylonlaw11_FillHolds.q19 rfl rfl (any_of HT_.out (by kernel_rfl)) (fun _ _ _ h => h) (Or.inl ⟨by rfl, ?_⟩) ?_ ?_
               rotate_left
               ·intro w'
                go_simp
                with_reducible rfl
               rotate_left
               ·simp only [Act.put, List.setIfInBounds_toArray, List.set_cons_zero, List.set_cons_succ, i64_w, i32_w]
                rfl
               refine pure_ (i := 20) (N := some 68) (v := ?_) (a' := ?_) pylonlaw11_FillHolds.q20 rfl rfl (any_of HT_.out (by kernel_rfl)) (fun _ _ _ h => h) (Or.inl ⟨by rfl, ?_⟩) ?_ ?_
               rotate_left
               ·intro w'
                go_simp
                with_reducible rfl
               rotate_left
               ·simp only [Act.put, List.setIfInBounds_toArray, List.set_cons_zero, List.set_cons_succ, i64_w, i32_w]
                rfl
               refine pure_ (i := 22) (N := some 70) (v := ?_) (a' := ?_) pylonlaw11_FillHolds.q48 rfl rfl (any_of HT_.out (by kernel_rfl)) (fun _ _ _ h => h) (Or.inl ⟨by rfl, ?_⟩) ?_ ?_
               rotate_left
               ·intro w'
                go_simp
                with_reducible rfl
               rotate_left
               ·simp only [Act.put, List.setIfInBounds_toArray, List.set_cons_zero, List.set_cons_succ, i64_w, i32_w]
                rfl
               refine pure_ (i := 23) (N := some 71) (v := ?_) (a' := ?_) pylonlaw11_FillHolds.q49 rfl rfl (any_of HT_.out (by kernel_rfl)) (fun _ _ _ h => h) (Or.inl ⟨by rfl, ?_⟩) ?_ ?_
               rotate_left
               ·intro w'
                go_simp
                with_reducible rfl
               rotate_left
               ·simp only [Act.put, List.setIfInBounds_toArray, List.set_cons_zero, List.set_cons_succ, i64_w, i32_w]
                rfl
               refine pure_ (i := 24) (N := some 72) (v := ?_) (a' := ?_) pylonlaw11_FillHolds.q50 rfl rfl (any_of HT_.out (by kernel_rfl)) (fun _ _ _ h => h) (Or.inl ⟨by rfl, ?_⟩) ?_ ?_
               rotate_left
               ·intro w'
                go_simp
                with_reducible rfl
               rotate_left
               ·simp only [Act.put, List.setIfInBounds_toArray, List.set_cons_zero, List.set_cons_succ, i64_w, i32_w]
                rfl
               refine pure_ (i := 25) (N := some 73) (v := ?_) (a' := ?_) pylonlaw11_FillHolds.q51 rfl rfl (any_of HT_.out (by kernel_rfl)) (fun _ _ _ h => h) (Or.inl ⟨by rfl, ?_⟩) ?_ ?_
               rotate_left
               ·intro w'
                go_simp
                with_reducible rfl
               rotate_left
               ·simp only [Act.put, List.setIfInBounds_toArray, List.set_cons_zero, List.set_cons_succ, i64_w, i32_w]
                rfl
               refine take_ (i := 21) (N := some 69) (v := ?_) (a' := ?_) pylonlaw11_FillHolds.q25 rfl rfl (take_ofW HT_.out HW_.out (by kernel_rfl)) (fun _ _ _ h => h) (Or.inl ⟨by rfl, ?_⟩) hHeld ?_ ?_
               rotate_left
               ·rintro w' ⟨s0, s1, s2, s3, s4, s5, s6, s7, s8, s9, s10, s11, s12, s13, s14, s15, s16, s17, s18⟩
                go_simp
                with_reducible rfl
               rotate_left
               ·simp only [Act.put, List.setIfInBounds_toArray, List.set_cons_zero, List.set_cons_succ, i64_w, i32_w]
                rfl
               refine take_ (i := 26) (N := some 74) (v := ?_) (a' := ?_) pylonlaw11_FillHolds.q26 rfl rfl (take_ofW HT_.out HW_.out (by kernel_rfl)) (fun _ _ _ h => h) (Or.inl ⟨by rfl, ?_⟩) hHeld ?_ ?_
               rotate_left
               ·rintro w' ⟨s0, s1, s2, s3, s4, s5, s6, s7, s8, s9, s10, s11, s12, s13, s14, s15, s16, s17, s18⟩
                go_simp
                with_reducible rfl
               rotate_left
               ·simp only [Act.put, List.setIfInBounds_toArray, List.set_cons_zero, List.set_cons_succ, i64_w, i32_w]
                rfl
               refine pure_ (i := 27) (N := some 75) (v := ?_) (a' := ?_) pylonlaw11_FillHolds.q27 rfl rfl (any_of HT_.out (by kernel_rfl)) (fun _ _ _ h => h) (Or.inl ⟨by rfl, ?_⟩) ?_ ?_
               rotate_left
               ·intro w'
                go_simp
                with_reducible rfl
               rotate_left
               ·simp only [Act.put, List.setIfInBounds_toArray, List.set_cons_zero, List.set_cons_succ, i64_w, i32_w]
                rfl
               refine pure_ (i := 28) (N := some 76) (v := ?_) (a' := ?_) pylonlaw11_FillHolds.q28 rfl rfl (any_of HT_.out (by kernel_rfl)) (fun _ _ _ h => h) (Or.inl ⟨by rfl, ?_⟩) ?_ ?_
               rotate_left
               ·intro w'
                go_simp
                with_reducible rfl
               rotate_left
               ·simp only [Act.put, List.setIfInBounds_toArray, List.set_cons_zero, List.set_cons_succ, i64_w, i32_w]
                rfl
               refine pure_ (i := 29) (N := some 77) (v := ?_) (a' := ?_) pylonlaw11_FillHolds.q29 rfl rfl (any_of HT_.out (by kernel_rfl)) (fun _ _ _ h => h) (Or.inl ⟨by rfl, ?_⟩) ?_ ?_
               rotate_left
               ·intro w'
                go_simp
                with_reducible rfl
               rotate_left
               ·simp only [Act.put, List.setIfInBounds_toArray, List.set_cons_zero, List.set_cons_succ, i64_w, i32_w]
                rfl
               refine pure_ (i := 30) (N := some 78) (v := ?_) (a' := ?_) pylonlaw11_FillHolds.q30 rfl rfl (any_of HT_.out (by kernel_rfl)) (fun _ _ _ h => h) (Or.inl ⟨by rfl, ?_⟩) ?_ ?_
               rotate_left
               ·intro w'
                go_simp
                with_reducible rfl
               rotate_left
               ·simp only [Act.put, List.setIfInBounds_toArray, List.set_cons_zero, List.set_cons_succ, i64_w, i32_w]
                rfl
               refine pure_ (i := 31) (N := some 79) (v := ?_) (a' := ?_) pylonlaw11_FillHolds.q31 rfl rfl (any_of HT_.out (by kernel_rfl)) (fun _ _ _ h => h) (Or.inl ⟨by rfl, ?_⟩) ?_ ?_
               rotate_left
               ·intro w'
                go_simp
                with_reducible rfl
               rotate_left
               ·simp only [Act.put, List.setIfInBounds_toArray, List.set_cons_zero, List.set_cons_succ, i64_w, i32_w]
                rfl
               refine pure_ (i := 32) (N := some 80) (v := ?_) (a' := ?_) pylonlaw11_FillHolds.q32 rfl rfl (any_of HT_.out (by kernel_rfl)) (fun _ _ _ h => h) (Or.inl ⟨by rfl, ?_⟩) ?_ ?_
               rotate_left
               ·intro w'
                go_simp
                with_reducible rfl
               rotate_left
               ·simp only [Act.put, List.setIfInBounds_toArray, List.set_cons_zero, List.set_cons_succ, i64_w, i32_w]
                rfl
               refine pure_ (i := 33) (N := some 81) (v := ?_) (a' := ?_) pylonlaw11_FillHolds.q33 rfl rfl (any_of HT_.out (by kernel_rfl)) (fun _ _ _ h => h) (Or.inl ⟨by rfl, ?_⟩) ?_ ?_
               rotate_left
               ·intro w'
                go_simp
                with_reducible rfl
               rotate_left
               ·simp only [Act.put, List.setIfInBounds_toArray, List.set_cons_zero, List.set_cons_succ, i64_w, i32_w]
                rfl
               refine pure_ (i := 34) (N := some 82) (v := ?_) (a' := ?_) pylonlaw11_FillHolds.q34 rfl rfl (any_of HT_.out (by kernel_rfl)) (fun _ _ _ h => h) (Or.inl ⟨by rfl, ?_⟩) ?_ ?_
               rotate_left
               ·intro w'
                go_simp
                with_reducible rfl
               rotate_left
               ·simp only [Act.put, List.setIfInBounds_toArray, List.set_cons_zero, List.set_cons_succ, i64_w, i32_w]
                rfl
               refine pure_ (i := 35) (N := some 83) (v := ?_) (a' := ?_) pylonlaw11_FillHolds.q35 rfl rfl (any_of HT_.out (by kernel_rfl)) (fun _ _ _ h => h) (Or.inl ⟨by rfl, ?_⟩) ?_ ?_
               rotate_left
               ·intro w'
                go_simp
                with_reducible rfl
               rotate_left
               ·simp only [Act.put, List.setIfInBounds_toArray, List.set_cons_zero, List.set_cons_succ, i64_w, i32_w]
                rfl
               refine pure_ (i := 36) (N := some 84) (v := ?_) (a' := ?_) pylonlaw11_FillHolds.q36 rfl rfl (any_of HT_.out (by kernel_rfl)) (fun _ _ _ h => h) (Or.inl ⟨by rfl, ?_⟩) ?_ ?_
               rotate_left
               ·intro w'
                go_simp
                with_reducible rfl
               rotate_left
               ·simp only [Act.put, List.setIfInBounds_toArray, List.set_cons_zero, List.set_cons_succ, i64_w, i32_w]
                rfl
               refine pure_ (i := 38) (N := some 86) (v := ?_) (a' := ?_) #[true, true, true, true, true, true, true, true, true, true, true, true, true, true, true, true, true, true, true, true, true, true, true, true, true, true, true, true, true, true, true, true, true, true, true, true, true, false, true, false, false, false, false, false, false, false, false] rfl rfl (any_of HT_.out (by kernel_rfl)) (fun _ _ _ h => h) (Or.inl ⟨by rfl, ?_⟩) ?_ ?_
               rotate_left
               ·intro w'
                go_simp
                with_reducible rfl
               rotate_left
               ·simp only [Act.put, List.setIfInBounds_toArray, List.set_cons_zero, List.set_cons_succ, i64_w, i32_w]
                rfl
               refine pure_ (i := 39) (N := some 87) (v := ?_) (a' := ?_) #[true, true, true, true, true, true, true, true, true, true, true, true, true, true, true, true, true, true, true, true, true, true, true, true, true, true, true, true, true, true, true, true, true, true, true, true, true, false, true, true, false, false, false, false, false, false, false] rfl rfl (any_of HT_.out (by kernel_rfl)) (fun _ _ _ h => h) (Or.inl ⟨by rfl, ?_⟩) ?_ ?_
               rotate_left
               ·intro w'
                go_simp
                with_reducible rfl
               rotate_left
               ·simp only [Act.put, List.setIfInBounds_toArray, List.set_cons_zero, List.set_cons_succ, i64_w, i32_w]
                rfl
               refine pure_ (i := 40) (N := some 88) (v := ?_) (a' := ?_) #[true, true, true, true, true, true, true, true, true, true, true, true, true, true, true, true, true, true, true, true, true, true, true, true, true, true, true, true, true, true, true, true, true, true, true, true, true, false, true, true, true, false, false, false, false, false, false] rfl rfl (any_of HT_.out (by kernel_rfl)) (fun _ _ _ h => h) (Or.inl ⟨by rfl, ?_⟩) ?_ ?_
               rotate_left
               ·intro w'
                go_simp
                with_reducible rfl
               rotate_left
               ·simp only [Act.put, List.setIfInBounds_toArray, List.set_cons_zero, List.set_cons_succ, i64_w, i32_w]
                rfl
               refine pure_ (i := 41) (N := some 89) (v := ?_) (a' := ?_) #[true, true, true, true, true, true, true, true, true, true, true, true, true, true, true, true, true, true, true, true, true, true, true, true, true, true, true, true, true, true, true, true, true, true, true, true, true, false, true, true, true, true, false, false, false, false, false] rfl rfl (any_of HT_.out (by kernel_rfl)) (fun _ _ _ h => h) (Or.inl ⟨by rfl, ?_⟩) ?_ ?_
               rotate_left
               ·intro w'
                go_simp
                with_reducible rfl
               rotate_left
               ·simp only [Act.put, List.setIfInBounds_toArray, List.set_cons_zero, List.set_cons_succ, i64_w, i32_w]
                rfl
               refine pure_ (i := 42) (N := some 90) (v := ?_) (a' := ?_) #[true, true, true, true, true, true, true, true, true, true, true, true, true, true, true, true, true, true, true, true, true, true, true, true, true, true, true, true, true, true, true, true, true, true, true, true, true, false, true, true, true, true, true, false, false, false, false] rfl rfl (any_of HT_.out (by kernel_rfl)) (fun _ _ _ h => h) (Or.inl ⟨by rfl, ?_⟩) ?_ ?_
               rotate_left
               ·intro w'
                go_simp
                with_reducible rfl
               rotate_left
               ·simp only [Act.put, List.setIfInBounds_toArray, List.set_cons_zero, List.set_cons_succ, i64_w, i32_w]
                rfl
               refine take_ (i := 37) (N := some 85) (v := ?_) (a' := ?_) pylonlaw11_FillHolds.q42 rfl rfl (take_ofW HT_.out HW_.out (by kernel_rfl)) (fun _ _ _ h => h) (Or.inl ⟨by rfl, ?_⟩) hHeld ?_ ?_
               rotate_left
               ·rintro w' ⟨s0, s1, s2, s3, s4, s5, s6, s7, s8, s9, s10, s11, s12, s13, s14, s15, s16, s17, s18⟩
                go_simp
                with_reducible rfl
               rotate_left
               ·simp only [Act.put, List.setIfInBounds_toArray, List.set_cons_zero, List.set_cons_succ, i64_w, i32_w]
                rfl
               refine take_ (i := 43) (N := some 91) (v := ?_) (a' := ?_) pylonlaw11_FillHolds.q43 rfl rfl (take_ofW HT_.out HW_.out (by kernel_rfl)) (fun _ _ _ h => h) (Or.inl ⟨by rfl, ?_⟩) hHeld ?_ ?_
               rotate_left
               ·rintro w' ⟨s0, s1, s2, s3, s4, s5, s6, s7, s8, s9, s10, s11, s12, s13, s14, s15, s16, s17, s18⟩
                go_simp
                with_reducible rfl
               rotate_left
               ·simp only [Act.put, List.setIfInBounds_toArray, List.set_cons_zero, List.set_cons_succ, i64_w, i32_w]
                rfl
               refine pure_ (i := 44) (N := some 92) (v := ?_) (a' := ?_) pylonlaw11_FillHolds.q44 rfl rfl (any_of HT_.out (by kernel_rfl)) (fun _ _ _ h => h) (Or.inl ⟨by rfl, ?_⟩) ?_ ?_
               rotate_left
               ·intro w'
                go_simp
                with_reducible rfl
               rotate_left
               ·simp only [Act.put, List.setIfInBounds_toArray, List.set_cons_zero, List.set_cons_succ, i64_w, i32_w]
                rfl
               refine pure_ (i := 45) (N := some 93) (v := ?_) (a' := ?_) pylonlaw11_FillHolds.q45 rfl rfl (any_of HT_.out (by kernel_rfl)) (fun _ _ _ h => h) (Or.inl ⟨by rfl, ?_⟩) ?_ ?_
               rotate_left
               ·intro w'
                go_simp
                with_reducible rfl
               rotate_left
               ·simp only [Act.put, List.setIfInBounds_toArray, List.set_cons_zero, List.set_cons_succ, i64_w, i32_w]
                rfl
               refine pure_ (i := 46) (N := some 94) (v := ?_) (a' := ?_) pylonlaw11_FillHolds.q46 rfl rfl (any_of HT_.out (by kernel_rfl)) (fun _ _ _ h => h) (Or.inl ⟨by rfl, ?_⟩) ?_ ?_
               rotate_left
               ·intro w'
                go_simp
                with_reducible rfl
               rotate_left
               ·simp only [Act.put, List.setIfInBounds_toArray, List.set_cons_zero, List.set_cons_succ, i64_w, i32_w]
                rfl
               refine done_ (done_of HT_.out (by kernel_rfl)) ?_
               try go_wp2
               go_meet
               case rel => exact ⟨_, (decide (((rd_T43 t305 x45_1).f0) ≤ ((rd_T43 t305 (ji32)).f1))), (by first | rfl | (simp; done) | (simp only [← hji32] <;> (first | rfl | simp)) | (simp [*]; done)), H', ⟨by have := HK1.out; first | omega | exact Nat.le_refl _⟩, ⟨kr HO_5⟩, ⟨kr HO_7⟩, ⟨bkn BK294⟩, ⟨bw⟩⟩
              ·rw [if_neg c34] at H
               exact absurd H (by simp)
             ·rw [if_neg c33] at H
              exact absurd H (by simp)
            ·rw [if_neg c31] at H
             have c31b0 : decide (0 < x45_1) = false := decide_eq_false c31
             clear c31
             have H' := AX H
             clear H
             try go_wp2
             have n0_ := AX (Kd.R_drew HO_5.out)
             have n1_ := AX (Kd.R_drew HO_7.out)
             have n2_ := AX (blk_drew BK294.out)
             have n3_ := AX (below_drew1 HB.out)
             clear HO_5
             clear HO_7
             clear BK294
             clear HB
             have HO_5 := n0_
             have HO_7 := n1_
             have BK294 := n2_
             have HB := n3_
             clear n0_ n1_ n2_ n3_
             have p322 : 0 ≤ (x45_1 : Int) := of_decide_eq_true (by first | (with_reducible assumption) | assumption)
             have q322 : x45_1 < (t305.length : Int) := of_decide_eq_true (by first | (with_reducible assumption) | assumption)
             obtain ⟨ad322, e322, hx322_0, hx322_1⟩ := at_T43 (Kd.R_reads' HO_5.out).2.2 x45_1 p322 q322
             cases e322
             replace p322 := eq_true p322
             replace q322 := eq_true q322
             have p323 : 0 ≤ (x45_1 : Int) := of_decide_eq_true (by first | (with_reducible assumption) | assumption)
             have q323 : x45_1 < (t305.length : Int) := of_decide_eq_true (by first | (with_reducible assumption) | assumption)
             obtain ⟨ad323, e323, hx323_0, hx323_1⟩ := at_T43 (Kd.R_reads' HO_5.out).2.2 x45_1 p323 q323
             obtain rfl : ad322 = ad323 := (by injection e323)
             replace p323 := eq_true p323
             replace q323 := eq_true q323
             have p324 : 0 ≤ (x45_1 : Int) := of_decide_eq_true (by first | (with_reducible assumption) | assumption)
             have q324 : x45_1 < (t305.length : Int) := of_decide_eq_true (by first | (with_reducible assumption) | assumption)
             obtain ⟨ad324, e324, hx324_0, hx324_1⟩ := at_T43 (Kd.R_reads' HO_5.out).2.2 x45_1 p324 q324
             obtain rfl : ad322 = ad324 := (by injection e324)
             replace p324 := eq_true p324
             replace q324 := eq_true q324
             have p325 : 0 ≤ (x45_1 : Int) := of_decide_eq_true (by first | (with_reducible assumption) | assumption)
             have q325 : x45_1 < (t305.length : Int) := of_decide_eq_true (by first | (with_reducible assumption) | assumption)
             obtain ⟨ad325, e325, hx325_0, hx325_1⟩ := at_T43 (Kd.R_reads' HO_5.out).2.2 x45_1 p325 q325
             obtain rfl : ad322 = ad325 := (by injection e325)
             replace p325 := eq_true p325
             replace q325 := eq_true q325
             refine start_ (n := 47) (S := fun w' => w'.cell? ⟨gb294, 0, none⟩ = some (.string a0_0) ∧ w'.cell? ⟨gb294, 1, none⟩ = some (.int .i64 a0_1) ∧ w'.cell? ⟨gb294, 2, none⟩ = some (.int .i64 a0_2) ∧ w'.cell? ⟨gb294, 3, none⟩ = some (.int .i64 a0_3) ∧ w'.cell? ⟨gb294, 4, none⟩ = some (.int .i64 a0_4) ∧ w'.cell? ⟨gb294, 5, none⟩ = some (.int .i64 a0_5) ∧ w'.cell? ⟨gb294, 6, none⟩ = some (.slice A0_6 l0_6.length c0_6) ∧ w'.cell? (ad322.add ((x45_1).toNat * 2)) = some (.int .i64 ((rd_T43 t305 x45_1).f0)) ∧ w'.cell? ⟨(ad322.add ((x45_1).toNat * 2)).block, (ad322.add ((x45_1).toNat * 2)).off + 1, none⟩ = some (.int .i64 ((rd_T43 t305 x45_1).f1)) ∧ w'.cell? (ad322.add ((x45_1).toNat * 2)) = some (.int .i64 ((rd_T43 t305 x45_1).f0)) ∧ w'.cell? ⟨(ad322.add ((x45_1).toNat * 2)).block, (ad322.add ((x45_1).toNat * 2)).off + 1, none⟩ = some (.int .i64 ((rd_T43 t305 x45_1).f1)) ∧ w'.cell? (ad322.add ((x45_1).toNat * 2)) = some (.int .i64 ((rd_T43 t305 x45_1).f0)) ∧ w'.cell? ⟨(ad322.add ((x45_1).toNat * 2)).block, (ad322.add ((x45_1).toNat * 2)).off + 1, none⟩ = some (.int .i64 ((rd_T43 t305 x45_1).f1)) ∧ w'.cell? (ad322.add ((x45_1).toNat * 2)) = some (.int .i64 ((rd_T43 t305 x45_1).f0)) ∧ w'.cell? ⟨(ad322.add ((x45_1).toNat * 2)).block, (ad322.add ((x45_1).toNat * 2)).off + 1, none⟩ = some (.int .i64 ((rd_T43 t305 x45_1).f1))) (ds := []) pylonlaw11_FillHolds.q0 (by kernel_rfl) rfl rfl ⟨(blk_cell BK294.out 0).trans rfl, (blk_cell BK294.out 1).trans rfl, (blk_cell BK294.out 2).trans rfl, (blk_cell BK294.out 3).trans rfl, (blk_cell BK294.out 4).trans rfl, (blk_cell BK294.out 5).trans rfl, (blk_cell BK294.out 6).trans rfl, hx322_0, hx322_1, hx323_0, hx323_1, hx324_0, hx324_1, hx325_0, hx325_1⟩ (fun hHeld => ?_); refine with_tabW pylonlaw11_FillHolds.tab11 pylonlaw11_FillHolds.bits11 (fun HT_ HW_ => ?_)
             generalize wr.drew = w36 at HO_5 HO_7 BK294 HB hx322_0 hx322_1 hx323_0 hx323_1 hx324_0 hx324_1 hx325_0 hx325_1 hHeld ⊢
             refine pure_ (i := 0) (N := some 48) (v := ?_) (a' := ?_) pylonlaw11_FillHolds.q1 rfl rfl (any_of HT_.out (by kernel_rfl)) (fun _ _ _ h => h) (Or.inl ⟨by rfl, ?_⟩) ?_ ?_
             rotate_left
             ·intro w'
              go_simp
              with_reducible rfl
             rotate_left
             ·simp only [Act.put, List.setIfInBounds_toArray, List.set_cons_zero, List.set_cons_succ, i64_w, i32_w]
              rfl
             refine pure_ (i := 1) (N := some 49) (v := ?_) (a' := ?_) pylonlaw11_FillHolds.q2 rfl rfl (any_of HT_.out (by kernel_rfl)) (fun _ _ _ h => h) (Or.inl ⟨by rfl, ?_⟩) ?_ ?_
             rotate_left
             ·intro w'
              go_simp
              with_reducible rfl
             rotate_left
             ·simp only [Act.put, List.setIfInBounds_toArray, List.set_cons_zero, List.set_cons_succ, i64_w, i32_w]
              rfl
             refine pure_ (i := 2) (N := some 50) (v := ?_) (a' := ?_) pylonlaw11_FillHolds.q3 rfl rfl (any_of HT_.out (by kernel_rfl)) (fun _ _ _ h => h) (Or.inl ⟨by rfl, ?_⟩) ?_ ?_
             rotate_left
             ·intro w'
              go_simp
              with_reducible rfl
             rotate_left
             ·simp only [Act.put, List.setIfInBounds_toArray, List.set_cons_zero, List.set_cons_succ, i64_w, i32_w]
              rfl
             refine pure_ (i := 3) (N := some 51) (v := ?_) (a' := ?_) pylonlaw11_FillHolds.q4 rfl rfl (any_of HT_.out (by kernel_rfl)) (fun _ _ _ h => h) (Or.inl ⟨by rfl, ?_⟩) ?_ ?_
             rotate_left
             ·intro w'
              go_simp
              with_reducible rfl
             rotate_left
             ·simp only [Act.put, List.setIfInBounds_toArray, List.set_cons_zero, List.set_cons_succ, i64_w, i32_w]
              rfl
             refine take_ (i := 4) (N := some 52) (v := ?_) (a' := ?_) pylonlaw11_FillHolds.q5 rfl rfl (take_ofW HT_.out HW_.out (by kernel_rfl)) (fun _ _ _ h => h) (Or.inl ⟨by rfl, ?_⟩) hHeld ?_ ?_
             rotate_left
             ·rintro w' ⟨s0, s1, s2, s3, s4, s5, s6, s7, s8, s9, s10, s11, s12, s13, s14⟩
              go_simp
              with_reducible rfl
             rotate_left
             ·simp only [Act.put, List.setIfInBounds_toArray, List.set_cons_zero, List.set_cons_succ, i64_w, i32_w]
              rfl
             refine pure_ (i := 5) (N := some 53) (v := ?_) (a' := ?_) pylonlaw11_FillHolds.q6 rfl rfl (any_of HT_.out (by kernel_rfl)) (fun _ _ _ h => h) (Or.inl ⟨by rfl, ?_⟩) ?_ ?_
             rotate_left
             ·intro w'
              go_simp
              with_reducible rfl
             rotate_left
             ·simp only [Act.put, List.setIfInBounds_toArray, List.set_cons_zero, List.set_cons_succ, i64_w, i32_w]
              rfl
             refine pure_ (i := 6) (N := some 54) (v := ?_) (a' := ?_) pylonlaw11_FillHolds.q7 rfl rfl (any_of HT_.out (by kernel_rfl)) (fun _ _ _ h => h) (Or.inl ⟨by rfl, ?_⟩) ?_ ?_
             rotate_left
             ·intro w'
              go_simp
              with_reducible rfl
             rotate_left
             ·simp only [Act.put, List.setIfInBounds_toArray, List.set_cons_zero, List.set_cons_succ, i64_w, i32_w]
              rfl
             refine pure_ (i := 7) (N := some 55) (v := ?_) (a' := ?_) pylonlaw11_FillHolds.q8 rfl rfl (any_of HT_.out (by kernel_rfl)) (fun _ _ _ h => h) (Or.inl ⟨by rfl, ?_⟩) ?_ ?_
             rotate_left
             ·intro w'
              go_simp
              with_reducible rfl
             rotate_left
             ·simp only [Act.put, List.setIfInBounds_toArray, List.set_cons_zero, List.set_cons_succ, i64_w, i32_w]
              rfl
             refine pure_ (i := 8) (N := some 56) (v := ?_) (a' := ?_) pylonlaw11_FillHolds.q9 rfl rfl (any_of HT_.out (by kernel_rfl)) (fun _ _ _ h => h) (Or.inl ⟨by rfl, ?_⟩) ?_ ?_
             rotate_left
             ·intro w'
              go_simp
              with_reducible rfl
             rotate_left
             ·simp only [Act.put, List.setIfInBounds_toArray, List.set_cons_zero, List.set_cons_succ, i64_w, i32_w]
              rfl
             refine pure_ (i := 9) (N := some 57) (v := ?_) (a' := ?_) pylonlaw11_FillHolds.q10 rfl rfl (any_of HT_.out (by kernel_rfl)) (fun _ _ _ h => h) (Or.inl ⟨by rfl, ?_⟩) ?_ ?_
             rotate_left
             ·intro w'
              go_simp
              with_reducible rfl
             rotate_left
             ·simp only [Act.put, List.setIfInBounds_toArray, List.set_cons_zero, List.set_cons_succ, i64_w, i32_w]
              rfl
             refine pure_ (i := 10) (N := some 58) (v := ?_) (a' := ?_) pylonlaw11_FillHolds.q11 rfl rfl (any_of HT_.out (by kernel_rfl)) (fun _ _ _ h => h) (Or.inl ⟨by rfl, ?_⟩) ?_ ?_
             rotate_left
             ·intro w'
              go_simp
              with_reducible rfl
             rotate_left
             ·simp only [Act.put, List.setIfInBounds_toArray, List.set_cons_zero, List.set_cons_succ, i64_w, i32_w]
              rfl
             refine pure_ (i := 12) (N := some 60) (v := ?_) (a' := ?_) pylonlaw11_FillHolds.q47 rfl rfl (any_of HT_.out (by kernel_rfl)) (fun _ _ _ h => h) (Or.inl ⟨by rfl, ?_⟩) ?_ ?_
             rotate_left
             ·intro w'
              go_simp
              with_reducible rfl
             rotate_left
             ·simp only [Act.put, List.setIfInBounds_toArray, List.set_cons_zero, List.set_cons_succ, i64_w, i32_w]
              rfl
             refine take_ (i := 11) (N := some 59) (v := ?_) (a' := ?_) pylonlaw11_FillHolds.q12 rfl rfl (take_ofW HT_.out HW_.out (by kernel_rfl)) (fun _ _ _ h => h) (Or.inl ⟨by rfl, ?_⟩) hHeld ?_ ?_
             rotate_left
             ·rintro w' ⟨s0, s1, s2, s3, s4, s5, s6, s7, s8, s9, s10, s11, s12, s13, s14⟩
              go_simp
              with_reducible rfl
             rotate_left
             ·simp only [Act.put, List.setIfInBounds_toArray, List.set_cons_zero, List.set_cons_succ, i64_w, i32_w]
              rfl
             refine take_ (i := 13) (N := some 61) (v := ?_) (a' := ?_) pylonlaw11_FillHolds.q13 rfl rfl (take_ofW HT_.out HW_.out (by kernel_rfl)) (fun _ _ _ h => h) (Or.inl ⟨by rfl, ?_⟩) hHeld ?_ ?_
             rotate_left
             ·rintro w' ⟨s0, s1, s2, s3, s4, s5, s6, s7, s8, s9, s10, s11, s12, s13, s14⟩
              go_simp
              with_reducible rfl
             rotate_left
             ·simp only [Act.put, List.setIfInBounds_toArray, List.set_cons_zero, List.set_cons_succ, i64_w, i32_w]
              rfl
             refine pure_ (i := 14) (N := some 62) (v := ?_) (a' := ?_) pylonlaw11_FillHolds.q14 rfl rfl (any_of HT_.out (by kernel_rfl)) (fun _ _ _ h => h) (Or.inl ⟨by rfl, ?_⟩) ?_ ?_
             rotate_left
             ·intro w'
              go_simp
              with_reducible rfl
             rotate_left
             ·simp only [Act.put, List.setIfInBounds_toArray, List.set_cons_zero, List.set_cons_succ, i64_w, i32_w]
              rfl
             refine pure_ (i := 15) (N := some 63) (v := ?_) (a' := ?_) pylonlaw11_FillHolds.q15 rfl rfl (any_of HT_.out (by kernel_rfl)) (fun _ _ _ h => h) (Or.inl ⟨by rfl, ?_⟩) ?_ ?_
             rotate_left
             ·intro w'
              go_simp
              with_reducible rfl
             rotate_left
             ·simp only [Act.put, List.setIfInBounds_toArray, List.set_cons_zero, List.set_cons_succ, i64_w, i32_w]
              rfl
             refine pure_ (i := 16) (N := some 64) (v := ?_) (a' := ?_) pylonlaw11_FillHolds.q16 rfl rfl (any_of HT_.out (by kernel_rfl)) (fun _ _ _ h => h) (Or.inl ⟨by rfl, ?_⟩) ?_ ?_
             rotate_left
             ·intro w'
              go_simp
              with_reducible rfl
             rotate_left
             ·simp only [Act.put, List.setIfInBounds_toArray, List.set_cons_zero, List.set_cons_succ, i64_w, i32_w]
              rfl
             refine pure_ (i := 17) (N := some 65) (v := ?_) (a' := ?_) pylonlaw11_FillHolds.q17 rfl rfl (any_of HT_.out (by kernel_rfl)) (fun _ _ _ h => h) (Or.inl ⟨by rfl, ?_⟩) ?_ ?_
             rotate_left
             ·intro w'
              go_simp
              with_reducible rfl
             rotate_left
             ·simp only [Act.put, List.setIfInBounds_toArray, List.set_cons_zero, List.set_cons_succ, i64_w, i32_w]
              rfl
             refine pure_ (i := 18) (N := some 66) (v := ?_) (a' := ?_) pylonlaw11_FillHolds.q18 rfl rfl (any_of HT_.out (by kernel_rfl)) (fun _ _ _ h => h) (Or.inl ⟨by rfl, ?_⟩) ?_ ?_
             rotate_left
             ·intro w'
              go_simp
              with_reducible rfl
             rotate_left
             ·simp only [Act.put, List.setIfInBounds_toArray, List.set_cons_zero, List.set_cons_succ, i64_w, i32_w]
              rfl
             refine pure_ (i := 19) (N := some 67) (v := ?_) (a' := ?_) pylonlaw11_FillHolds.q19 rfl rfl (any_of HT_.out (by kernel_rfl)) (fun _ _ _ h => h) (Or.inl ⟨by rfl, ?_⟩) ?_ ?_
             rotate_left
             ·intro w'
              go_simp
              with_reducible rfl
             rotate_left
             ·simp only [Act.put, List.setIfInBounds_toArray, List.set_cons_zero, List.set_cons_succ, i64_w, i32_w]
              rfl
             refine pure_ (i := 20) (N := some 68) (v := ?_) (a' := ?_) pylonlaw11_FillHolds.q20 rfl rfl (any_of HT_.out (by kernel_rfl)) (fun _ _ _ h => h) (Or.inl ⟨by rfl, ?_⟩) ?_ ?_
             rotate_left
             ·intro w'
              go_simp
              with_reducible rfl
             rotate_left
             ·simp only [Act.put, List.setIfInBounds_toArray, List.set_cons_zero, List.set_cons_succ, i64_w, i32_w]
              rfl
             refine pure_ (i := 22) (N := some 70) (v := ?_) (a' := ?_) pylonlaw11_FillHolds.q48 rfl rfl (any_of HT_.out (by kernel_rfl)) (fun _ _ _ h => h) (Or.inl ⟨by rfl, ?_⟩) ?_ ?_
             rotate_left
             ·intro w'
              go_simp
              with_reducible rfl
             rotate_left
             ·simp only [Act.put, List.setIfInBounds_toArray, List.set_cons_zero, List.set_cons_succ, i64_w, i32_w]
              rfl
             refine pure_ (i := 23) (N := some 71) (v := ?_) (a' := ?_) pylonlaw11_FillHolds.q49 rfl rfl (any_of HT_.out (by kernel_rfl)) (fun _ _ _ h => h) (Or.inl ⟨by rfl, ?_⟩) ?_ ?_
             rotate_left
             ·intro w'
              go_simp
              with_reducible rfl
             rotate_left
             ·simp only [Act.put, List.setIfInBounds_toArray, List.set_cons_zero, List.set_cons_succ, i64_w, i32_w]
              rfl
             refine pure_ (i := 24) (N := some 72) (v := ?_) (a' := ?_) pylonlaw11_FillHolds.q50 rfl rfl (any_of HT_.out (by kernel_rfl)) (fun _ _ _ h => h) (Or.inl ⟨by rfl, ?_⟩) ?_ ?_
             rotate_left
             ·intro w'
              go_simp
              with_reducible rfl
             rotate_left
             ·simp only [Act.put, List.setIfInBounds_toArray, List.set_cons_zero, List.set_cons_succ, i64_w, i32_w]
              rfl
             refine pure_ (i := 25) (N := some 73) (v := ?_) (a' := ?_) pylonlaw11_FillHolds.q51 rfl rfl (any_of HT_.out (by kernel_rfl)) (fun _ _ _ h => h) (Or.inl ⟨by rfl, ?_⟩) ?_ ?_
             rotate_left
             ·intro w'
              go_simp
              with_reducible rfl
             rotate_left
             ·simp only [Act.put, List.setIfInBounds_toArray, List.set_cons_zero, List.set_cons_succ, i64_w, i32_w]
              rfl
             refine take_ (i := 21) (N := some 69) (v := ?_) (a' := ?_) pylonlaw11_FillHolds.q25 rfl rfl (take_ofW HT_.out HW_.out (by kernel_rfl)) (fun _ _ _ h => h) (Or.inl ⟨by rfl, ?_⟩) hHeld ?_ ?_
             rotate_left
             ·rintro w' ⟨s0, s1, s2, s3, s4, s5, s6, s7, s8, s9, s10, s11, s12, s13, s14⟩
              go_simp
              with_reducible rfl
             rotate_left
             ·simp only [Act.put, List.setIfInBounds_toArray, List.set_cons_zero, List.set_cons_succ, i64_w, i32_w]
              rfl
             refine take_ (i := 26) (N := some 74) (v := ?_) (a' := ?_) pylonlaw11_FillHolds.q26 rfl rfl (take_ofW HT_.out HW_.out (by kernel_rfl)) (fun _ _ _ h => h) (Or.inl ⟨by rfl, ?_⟩) hHeld ?_ ?_
             rotate_left
             ·rintro w' ⟨s0, s1, s2, s3, s4, s5, s6, s7, s8, s9, s10, s11, s12, s13, s14⟩
              go_simp
              with_reducible rfl
             rotate_left
             ·simp only [Act.put, List.setIfInBounds_toArray, List.set_cons_zero, List.set_cons_succ, i64_w, i32_w]
              rfl
             refine pure_ (i := 27) (N := some 75) (v := ?_) (a' := ?_) pylonlaw11_FillHolds.q27 rfl rfl (any_of HT_.out (by kernel_rfl)) (fun _ _ _ h => h) (Or.inl ⟨by rfl, ?_⟩) ?_ ?_
             rotate_left
             ·intro w'
              go_simp
              with_reducible rfl
             rotate_left
             ·simp only [Act.put, List.setIfInBounds_toArray, List.set_cons_zero, List.set_cons_succ, i64_w, i32_w]
              rfl
             refine pure_ (i := 28) (N := some 76) (v := ?_) (a' := ?_) pylonlaw11_FillHolds.q28 rfl rfl (any_of HT_.out (by kernel_rfl)) (fun _ _ _ h => h) (Or.inl ⟨by rfl, ?_⟩) ?_ ?_
             rotate_left
             ·intro w'
              go_simp
              with_reducible rfl
             rotate_left
             ·simp only [Act.put, List.setIfInBounds_toArray, List.set_cons_zero, List.set_cons_succ, i64_w, i32_w]
              rfl
             refine pure_ (i := 29) (N := some 77) (v := ?_) (a' := ?_) pylonlaw11_FillHolds.q29 rfl rfl (any_of HT_.out (by kernel_rfl)) (fun _ _ _ h => h) (Or.inl ⟨by rfl, ?_⟩) ?_ ?_
             rotate_left
             ·intro w'
              go_simp
              with_reducible rfl
             rotate_left
             ·simp only [Act.put, List.setIfInBounds_toArray, List.set_cons_zero, List.set_cons_succ, i64_w, i32_w]
              rfl
             refine pure_ (i := 30) (N := some 78) (v := ?_) (a' := ?_) pylonlaw11_FillHolds.q30 rfl rfl (any_of HT_.out (by kernel_rfl)) (fun _ _ _ h => h) (Or.inl ⟨by rfl, ?_⟩) ?_ ?_
             rotate_left
             ·intro w'
              go_simp
              with_reducible rfl
             rotate_left
             ·simp only [Act.put, List.setIfInBounds_toArray, List.set_cons_zero, List.set_cons_succ, i64_w, i32_w]
              rfl
             refine pure_ (i := 31) (N := some 79) (v := ?_) (a' := ?_) pylonlaw11_FillHolds.q31 rfl rfl (any_of HT_.out (by kernel_rfl)) (fun _ _ _ h => h) (Or.inl ⟨by rfl, ?_⟩) ?_ ?_
             rotate_left
             ·intro w'
              go_simp
              with_reducible rfl
             rotate_left
             ·simp only [Act.put, List.setIfInBounds_toArray, List.set_cons_zero, List.set_cons_succ, i64_w, i32_w]
              rfl
             refine pure_ (i := 32) (N := some 80) (v := ?_) (a' := ?_) pylonlaw11_FillHolds.q32 rfl rfl (any_of HT_.out (by kernel_rfl)) (fun _ _ _ h => h) (Or.inl ⟨by rfl, ?_⟩) ?_ ?_
             rotate_left
             ·intro w'
              go_simp
              with_reducible rfl
             rotate_left
             ·simp only [Act.put, List.setIfInBounds_toArray, List.set_cons_zero, List.set_cons_succ, i64_w, i32_w]
              rfl
             refine pure_ (i := 33) (N := some 81) (v := undef) (a' := ?_) pylonlaw11_FillHolds.q33 rfl rfl (any_of HT_.out (by kernel_rfl)) (fun _ _ _ h => h) (Or.inr ⟨by rfl, rfl⟩) ?_ ?_
             rotate_left
             ·simp only [Act.put, List.setIfInBounds_toArray, List.set_cons_zero, List.set_cons_succ, i64_w, i32_w]
              rfl
             refine pure_ (i := 34) (N := some 82) (v := undef) (a' := ?_) pylonlaw11_FillHolds.q34 rfl rfl (any_of HT_.out (by kernel_rfl)) (fun _ _ _ h => h) (Or.inr ⟨by rfl, rfl⟩) ?_ ?_
             rotate_left
             ·simp only [Act.put, List.setIfInBounds_toArray, List.set_cons_zero, List.set_cons_succ, i64_w, i32_w]
              rfl
             refine pure_ (i := 35) (N := some 83) (v := undef) (a' := ?_) pylonlaw11_FillHolds.q35 rfl rfl (any_of HT_.out (by kernel_rfl)) (fun _ _ _ h => h) (Or.inr ⟨by rfl, rfl⟩) ?_ ?_
             rotate_left
             ·simp only [Act.put, List.setIfInBounds_toArray, List.set_cons_zero, List.set_cons_succ, i64_w, i32_w]
              rfl
             refine pure_ (i := 36) (N := some 84) (v := undef) (a' := ?_) pylonlaw11_FillHolds.q36 rfl rfl (any_of HT_.out (by kernel_rfl)) (fun _ _ _ h => h) (Or.inr ⟨by rfl, rfl⟩) ?_ ?_
             rotate_left
             ·simp only [Act.put, List.setIfInBounds_toArray, List.set_cons_zero, List.set_cons_succ, i64_w, i32_w]
              rfl
             refine pure_ (i := 37) (N := some 85) (v := undef) (a' := ?_) pylonlaw11_FillHolds.q37 rfl rfl (any_of HT_.out (by kernel_rfl)) (fun _ _ _ h => h) (Or.inr ⟨by rfl, rfl⟩) ?_ ?_
             rotate_left
             ·simp only [Act.put, List.setIfInBounds_toArray, List.set_cons_zero, List.set_cons_succ, i64_w, i32_w]
              rfl
             refine pure_ (i := 38) (N := some 86) (v := undef) (a' := ?_) pylonlaw11_FillHolds.q38 rfl rfl (any_of HT_.out (by kernel_rfl)) (fun _ _ _ h => h) (Or.inr ⟨by rfl, rfl⟩) ?_ ?_
             rotate_left
             ·simp only [Act.put, List.setIfInBounds_toArray, List.set_cons_zero, List.set_cons_succ, i64_w, i32_w]
              rfl
             refine pure_ (i := 39) (N := some 87) (v := undef) (a' := ?_) pylonlaw11_FillHolds.q39 rfl rfl (any_of HT_.out (by kernel_rfl)) (fun _ _ _ h => h) (Or.inr ⟨by rfl, rfl⟩) ?_ ?_
             rotate_left
             ·simp only [Act.put, List.setIfInBounds_toArray, List.set_cons_zero, List.set_cons_succ, i64_w, i32_w]
              rfl
             refine pure_ (i := 40) (N := some 88) (v := undef) (a' := ?_) pylonlaw11_FillHolds.q40 rfl rfl (any_of HT_.out (by kernel_rfl)) (fun _ _ _ h => h) (Or.inr ⟨by rfl, rfl⟩) ?_ ?_
             rotate_left
             ·simp only [Act.put, List.setIfInBounds_toArray, List.set_cons_zero, List.set_cons_succ, i64_w, i32_w]
              rfl
             refine pure_ (i := 41) (N := some 89) (v := undef) (a' := ?_) pylonlaw11_FillHolds.q41 rfl rfl (any_of HT_.out (by kernel_rfl)) (fun _ _ _ h => h) (Or.inr ⟨by rfl, rfl⟩) ?_ ?_
             rotate_left
             ·simp only [Act.put, List.setIfInBounds_toArray, List.set_cons_zero, List.set_cons_succ, i64_w, i32_w]
              rfl
             refine pure_ (i := 42) (N := some 90) (v := undef) (a' := ?_) pylonlaw11_FillHolds.q42 rfl rfl (any_of HT_.out (by kernel_rfl)) (fun _ _ _ h => h) (Or.inr ⟨by rfl, rfl⟩) ?_ ?_
             rotate_left
             ·simp only [Act.put, List.setIfInBounds_toArray, List.set_cons_zero, List.set_cons_succ, i64_w, i32_w]
              rfl
             refine pure_ (i := 43) (N := some 91) (v := undef) (a' := ?_) pylonlaw11_FillHolds.q43 rfl rfl (any_of HT_.out (by kernel_rfl)) (fun _ _ _ h => h) (Or.inr ⟨by rfl, rfl⟩) ?_ ?_
             rotate_left
             ·simp only [Act.put, List.setIfInBounds_toArray, List.set_cons_zero, List.set_cons_succ, i64_w, i32_w]
              rfl
             refine pure_ (i := 44) (N := some 92) (v := undef) (a' := ?_) pylonlaw11_FillHolds.q44 rfl rfl (any_of HT_.out (by kernel_rfl)) (fun _ _ _ h => h) (Or.inr ⟨by rfl, rfl⟩) ?_ ?_
             rotate_left
             ·simp only [Act.put, List.setIfInBounds_toArray, List.set_cons_zero, List.set_cons_succ, i64_w, i32_w]
              rfl
             refine pure_ (i := 45) (N := some 93) (v := ?_) (a' := ?_) pylonlaw11_FillHolds.q45 rfl rfl (any_of HT_.out (by kernel_rfl)) (fun _ _ _ h => h) (Or.inl ⟨by rfl, ?_⟩) ?_ ?_
             rotate_left
             ·intro w'
              go_simp
              with_reducible rfl
             rotate_left
             ·simp only [Act.put, List.setIfInBounds_toArray, List.set_cons_zero, List.set_cons_succ, i64_w, i32_w]
              rfl
             refine pure_ (i := 46) (N := some 94) (v := ?_) (a' := ?_) pylonlaw11_FillHolds.q46 rfl rfl (any_of HT_.out (by kernel_rfl)) (fun _ _ _ h => h) (Or.inl ⟨by rfl, ?_⟩) ?_ ?_
             rotate_left
             ·intro w'
              go_simp
              with_reducible rfl
             rotate_left
             ·simp only [Act.put, List.setIfInBounds_toArray, List.set_cons_zero, List.set_cons_succ, i64_w, i32_w]
              rfl
             refine done_ (done_of HT_.out (by kernel_rfl)) ?_
             try go_wp2
             go_meet
             case rel => exact ⟨_, (false), (by first | rfl | (simp; done) | (simp [*]; done)), H', ⟨by have := HK1.out; first | omega | exact Nat.le_refl _⟩, ⟨kr HO_5⟩, ⟨kr HO_7⟩, ⟨bkn BK294⟩, ⟨bw⟩⟩
        ·rw [if_neg c24] at H
         exact absurd H (by simp)
       ·rw [if_neg c23] at H
        exact absurd H (by simp)
      case rest =>
       clear HC22
       obtain ⟨kq, x94_21, rfl, HA, HJ21, HO_5, HO_7, BK294, HB⟩ := hcut
       cases kq with
       | zero => exact absurd HA.out (by simp [pylonlaw11_FillHolds.j1])
       | succ kj21 =>
        have H := HA.out
        clear HA
        simp only [pylonlaw11_FillHolds.j1] at H
        by_cases c37 : x94_21 = true
        ·subst c37
         have H1 : (some false) = some r := by rw [if_pos rfl] at H; exact H
         clear H
         have H := H1
         clear H1
         obtain rfl := Option.some.inj H
         go_wp2
         go_ret
         exact ⟨by first | rfl | (simp [errW_none, errW_some] <;> rfl) | (simp [*, errW_none, errW_some] <;> rfl), bw⟩
        ·replace c37 := Bool.eq_false_iff.mpr c37
         subst c37
         have H1 : (if 0 ≤ x45_1 then (if x45_1 < (t305.length : Int) then (pylonlaw11_FillHolds.l0 kj21 a1 t305 t318 t321 (mx x9_1 (wrap64 (((rd_T43 t305 x45_1).f1) - ((rd_T43 t305 x45_1).f0)))) (wrap64 ((wrap64 (x10_1 + ((rd_T43 t305 x45_1).f1))) - ((rd_T43 t305 x45_1).f0))) (t305.length : Int) (wrap64 (x45_1 + 1)) a0_0 a0_1 a0_2 a0_3 a0_4 a0_5 l0_6) else (none)) else (none)) = some r := by rw [if_neg (show ¬ (false = true) by decide)] at H; exact H
         clear H
         have H := H1
         clear H1
         by_cases c38 : 0 ≤ x45_1
         ·rw [if_pos c38] at H
          have c38b0 : decide (0 ≤ x45_1) = true := decide_eq_true c38
          clear c38
          by_cases c39 : x45_1 < (t305.length : Int)
          ·rw [if_pos c39] at H
           have c39b0 : decide (x45_1 < (t305.length : Int)) = true := decide_eq_true c39
           clear c39
           obtain ⟨ji40, hji40⟩ : ∃ j_ : Int, (mx x9_1 (wrap64 (((rd_T43 t305 x45_1).f1) - ((rd_T43 t305 x45_1).f0)))) = j_ := ⟨_, rfl⟩
           replace H : (pylonlaw11_FillHolds.l0 kj21 a1 t305 t318 t321 ji40 (wrap64 ((wrap64 (x10_1 + ((rd_T43 t305 x45_1).f1))) - ((rd_T43 t305 x45_1).f0))) (t305.length : Int) (wrap64 (x45_1 + 1)) a0_0 a0_1 a0_2 a0_3 a0_4 a0_5 l0_6) = some r := by first | (rw [hji40] at H; exact H) | (simp only [hji40] at H ⊢; exact H)
           have hji40_ : (if x9_1 < (wrap64 (((rd_T43 t305 x45_1).f1) - ((rd_T43 t305 x45_1).f0))) then (wrap64 (((rd_T43 t305 x45_1).f1) - ((rd_T43 t305 x45_1).f0))) else x9_1) = ji40 := hji40
           have H' := AX H
           clear H
           try go_wp2
           have n0_ := AX (Kd.R_drew HO_5.out)
           have n1_ := AX (Kd.R_drew HO_7.out)
           have n2_ := AX (blk_drew BK294.out)
           have n3_ := AX (below_drew1 HB.out)
           clear HO_5
           clear HO_7
           clear BK294
           clear HB
           have HO_5 := n0_
           have HO_7 := n1_
           have BK294 := n2_
           have HB := n3_
           clear n0_ n1_ n2_ n3_
           have p328 : 0 ≤ (x45_1 : Int) := of_decide_eq_true (by first | (with_reducible assumption) | assumption)
           have q328 : x45_1 < (t305.length : Int) := of_decide_eq_true (by first | (with_reducible assumption) | assumption)
           obtain ⟨ad328, e328, hx328_0, hx328_1⟩ := at_T43 (Kd.R_reads' HO_5.out).2.2 x45_1 p328 q328
           cases e328
           replace p328 := eq_true p328
           replace q328 := eq_true q328
           have p329 : 0 ≤ (x45_1 : Int) := of_decide_eq_true (by first | (with_reducible assumption) | assumption)
           have q329 : x45_1 < (t305.length : Int) := of_decide_eq_true (by first | (with_reducible assumption) | assumption)
           obtain ⟨ad329, e329, hx329_0, hx329_1⟩ := at_T43 (Kd.R_reads' HO_5.out).2.2 x45_1 p329 q329
           obtain rfl : ad328 = ad329 := (by injection e329)
           replace p329 := eq_true p329
           replace q329 := eq_true q329
           refine start_ (n := 14) (S := fun w' => w'.cell? (ad328.add ((x45_1).toNat * 2)) = some (.int .i64 ((rd_T43 t305 x45_1).f0)) ∧ w'.cell? ⟨(ad328.add ((x45_1).toNat * 2)).block, (ad328.add ((x45_1).toNat * 2)).off + 1, none⟩ = some (.int .i64 ((rd_T43 t305 x45_1).f1)) ∧ w'.cell? (ad328.add ((x45_1).toNat * 2)) = some (.int .i64 ((rd_T43 t305 x45_1).f0)) ∧ w'.cell? ⟨(ad328.add ((x45_1).toNat * 2)).block, (ad328.add ((x45_1).toNat * 2)).off + 1, none⟩ = some (.int .i64 ((rd_T43 t305 x45_1).f1))) (ds := []) pylonlaw11_FillHolds.q52 (by kernel_rfl) rfl rfl ⟨hx328_0, hx328_1, hx329_0, hx329_1⟩ (fun hHeld => ?_); refine with_tabW pylonlaw11_FillHolds.tab13 pylonlaw11_FillHolds.bits13 (fun HT_ HW_ => ?_)
           generalize wc.drew = w41 at HO_5 HO_7 BK294 HB hx328_0 hx328_1 hx329_0 hx329_1 hHeld ⊢
           refine pure_ (i := 0) (N := some 95) (v := ?_) (a' := ?_) pylonlaw11_FillHolds.q53 rfl rfl (any_of HT_.out (by kernel_rfl)) (fun _ _ _ h => h) (Or.inl ⟨by rfl, ?_⟩) ?_ ?_
           rotate_left
           ·intro w'
            go_simp
            with_reducible rfl
           rotate_left
           ·simp only [Act.put, List.setIfInBounds_toArray, List.set_cons_zero, List.set_cons_succ, i64_w, i32_w]
            rfl
           refine pure_ (i := 1) (N := some 96) (v := ?_) (a' := ?_) pylonlaw11_FillHolds.q54 rfl rfl (any_of HT_.out (by kernel_rfl)) (fun _ _ _ h => h) (Or.inl ⟨by rfl, ?_⟩) ?_ ?_
           rotate_left
           ·intro w'
            go_simp
            with_reducible rfl
           rotate_left
           ·simp only [Act.put, List.setIfInBounds_toArray, List.set_cons_zero, List.set_cons_succ, i64_w, i32_w]
            rfl
           refine pure_ (i := 2) (N := some 97) (v := ?_) (a' := ?_) pylonlaw11_FillHolds.q55 rfl rfl (any_of HT_.out (by kernel_rfl)) (fun _ _ _ h => h) (Or.inl ⟨by rfl, ?_⟩) ?_ ?_
           rotate_left
           ·intro w'
            go_simp
            with_reducible rfl
           rotate_left
           ·simp only [Act.put, List.setIfInBounds_toArray, List.set_cons_zero, List.set_cons_succ, i64_w, i32_w]
            rfl
           refine pure_ (i := 3) (N := some 98) (v := ?_) (a' := ?_) pylonlaw11_FillHolds.q56 rfl rfl (any_of HT_.out (by kernel_rfl)) (fun _ _ _ h => h) (Or.inl ⟨by rfl, ?_⟩) ?_ ?_
           rotate_left
           ·intro w'
            go_simp
            with_reducible rfl
           rotate_left
           ·simp only [Act.put, List.setIfInBounds_toArray, List.set_cons_zero, List.set_cons_succ, i64_w, i32_w]
            rfl
           refine pure_ (i := 4) (N := some 99) (v := ?_) (a' := ?_) pylonlaw11_FillHolds.q57 rfl rfl (any_of HT_.out (by kernel_rfl)) (fun _ _ _ h => h) (Or.inl ⟨by rfl, ?_⟩) ?_ ?_
           rotate_left
           ·intro w'
            go_simp
            with_reducible rfl
           rotate_left
           ·simp only [Act.put, List.setIfInBounds_toArray, List.set_cons_zero, List.set_cons_succ, i64_w, i32_w]
            rfl
           refine pure_ (i := 6) (N := some 101) (v := ?_) (a' := ?_) #[true, true, true, true, true, false, true, false, false, false, false, false, false, false] rfl rfl (any_of HT_.out (by kernel_rfl)) (fun _ _ _ h => h) (Or.inl ⟨by rfl, ?_⟩) ?_ ?_
           rotate_left
           ·intro w'
            go_simp
            with_reducible rfl
           rotate_left
           ·simp only [Act.put, List.setIfInBounds_toArray, List.set_cons_zero, List.set_cons_succ, i64_w, i32_w]
            rfl
           refine pure_ (i := 7) (N := some 102) (v := ?_) (a' := ?_) #[true, true, true, true, true, false, true, true, false, false, false, false, false, false] rfl rfl (any_of HT_.out (by kernel_rfl)) (fun _ _ _ h => h) (Or.inl ⟨by rfl, ?_⟩) ?_ ?_
           rotate_left
           ·intro w'
            go_simp
            with_reducible rfl
           rotate_left
           ·simp only [Act.put, List.setIfInBounds_toArray, List.set_cons_zero, List.set_cons_succ, i64_w, i32_w]
            rfl
           refine pure_ (i := 8) (N := some 103) (v := ?_) (a' := ?_) #[true, true, true, true, true, false, true, true, true, false, false, false, false, false] rfl rfl (any_of HT_.out (by kernel_rfl)) (fun _ _ _ h => h) (Or.inl ⟨by rfl, ?_⟩) ?_ ?_
           rotate_left
           ·intro w'
            go_simp
            with_reducible rfl
           rotate_left
           ·simp only [Act.put, List.setIfInBounds_toArray, List.set_cons_zero, List.set_cons_succ, i64_w, i32_w]
            rfl
           refine pure_ (i := 9) (N := some 104) (v := ?_) (a' := ?_) #[true, true, true, true, true, false, true, true, true, true, false, false, false, false] rfl rfl (any_of HT_.out (by kernel_rfl)) (fun _ _ _ h => h) (Or.inl ⟨by rfl, ?_⟩) ?_ ?_
           rotate_left
           ·intro w'
            go_simp
            with_reducible rfl
           rotate_left
           ·simp only [Act.put, List.setIfInBounds_toArray, List.set_cons_zero, List.set_cons_succ, i64_w, i32_w]
            rfl
           refine take_ (i := 5) (N := some 100) (v := ?_) (a' := ?_) #[true, true, true, true, true, true, true, true, true, true, false, false, false, false] rfl rfl (take_ofW HT_.out HW_.out (by kernel_rfl)) (fun _ _ _ h => h) (Or.inl ⟨by rfl, ?_⟩) hHeld ?_ ?_
           rotate_left
           ·rintro w' ⟨s0, s1, s2, s3⟩
            go_simp
            with_reducible rfl
           rotate_left
           ·simp only [Act.put, List.setIfInBounds_toArray, List.set_cons_zero, List.set_cons_succ, i64_w, i32_w]
            rfl
           refine take_ (i := 10) (N := some 105) (v := ?_) (a' := ?_) pylonlaw11_FillHolds.q58 rfl rfl (take_ofW HT_.out HW_.out (by kernel_rfl)) (fun _ _ _ h => h) (Or.inl ⟨by rfl, ?_⟩) hHeld ?_ ?_
           rotate_left
           ·rintro w' ⟨s0, s1, s2, s3⟩
            go_simp
            with_reducible rfl
           rotate_left
           ·simp only [Act.put, List.setIfInBounds_toArray, List.set_cons_zero, List.set_cons_succ, i64_w, i32_w]
            rfl
           refine pure_ (i := 11) (N := some 106) (v := ?_) (a' := ?_) pylonlaw11_FillHolds.q59 rfl rfl (any_of HT_.out (by kernel_rfl)) (fun _ _ _ h => h) (Or.inl ⟨by rfl, ?_⟩) ?_ ?_
           rotate_left
           ·intro w'
            go_simp
            with_reducible rfl
           rotate_left
           ·simp only [Act.put, List.setIfInBounds_toArray, List.set_cons_zero, List.set_cons_succ, i64_w, i32_w]
            rfl
           refine pure_ (i := 12) (N := some 107) (v := ?_) (a' := ?_) pylonlaw11_FillHolds.q60 rfl rfl (any_of HT_.out (by kernel_rfl)) (fun _ _ _ h => h) (Or.inl ⟨by rfl, ?_⟩) ?_ ?_
           rotate_left
           ·intro w'
            go_simp
            with_reducible rfl
           rotate_left
           ·simp only [Act.put, List.setIfInBounds_toArray, List.set_cons_zero, List.set_cons_succ, i64_w, i32_w]
            rfl
           refine pure_ (i := 13) (N := some 9) (v := ?_) (a' := ?_) pylonlaw11_FillHolds.q61 rfl rfl (any_of HT_.out (by kernel_rfl)) (fun _ _ _ h => h) (Or.inl ⟨by rfl, ?_⟩) ?_ ?_
           rotate_left
           ·intro w'
            go_simp
            with_reducible rfl
           rotate_left
           ·simp only [Act.put, List.setIfInBounds_toArray, List.set_cons_zero, List.set_cons_succ, i64_w, i32_w]
            rfl
           refine done_ (done_of HT_.out (by kernel_rfl)) ?_
           try go_wp2
           have n0_ := AX (Kd.R_drew HO_5.out)
           have n1_ := AX (Kd.R_drew HO_7.out)
           have n2_ := AX (blk_drew BK294.out)
           have n3_ := AX (below_drew1 HB.out)
           clear HO_5
           clear HO_7
           clear BK294
           clear HB
           have HO_5 := n0_
           have HO_7 := n1_
           have BK294 := n2_
           have HB := n3_
           clear n0_ n1_ n2_ n3_
           have p330 : 0 ≤ (x45_1 : Int) := of_decide_eq_true (by first | (with_reducible assumption) | assumption)
           have q330 : x45_1 < (t305.length : Int) := of_decide_eq_true (by first | (with_reducible assumption) | assumption)
           obtain ⟨ad330, e330, hx330_0, hx330_1⟩ := at_T43 (Kd.R_reads' HO_5.out).2.2 x45_1 p330 q330
           obtain rfl : ad328 = ad330 := (by injection e330)
           replace p330 := eq_true p330
           replace q330 := eq_true q330
           have p331 : 0 ≤ (x45_1 : Int) := of_decide_eq_true (by first | (with_reducible assumption) | assumption)
           have q331 : x45_1 < (t305.length : Int) := of_decide_eq_true (by first | (with_reducible assumption) | assumption)
           obtain ⟨ad331, e331, hx331_0, hx331_1⟩ := at_T43 (Kd.R_reads' HO_5.out).2.2 x45_1 p331 q331
           obtain rfl : ad328 = ad331 := (by injection e331)
           replace p331 := eq_true p331
           replace q331 := eq_true q331
           refine start_ (n := 14) (S := fun w' => w'.cell? (ad328.add ((x45_1).toNat * 2)) = some (.int .i64 ((rd_T43 t305 x45_1).f0)) ∧ w'.cell? ⟨(ad328.add ((x45_1).toNat * 2)).block, (ad328.add ((x45_1).toNat * 2)).off + 1, none⟩ = some (.int .i64 ((rd_T43 t305 x45_1).f1)) ∧ w'.cell? (ad328.add ((x45_1).toNat * 2)) = some (.int .i64 ((rd_T43 t305 x45_1).f0)) ∧ w'.cell? ⟨(ad328.add ((x45_1).toNat * 2)).block, (ad328.add ((x45_1).toNat * 2)).off + 1, none⟩ = some (.int .i64 ((rd_T43 t305 x45_1).f1))) (ds := []) pylonlaw11_FillHolds.q52 (by kernel_rfl) rfl rfl ⟨hx330_0, hx330_1, hx331_0, hx331_1⟩ (fun hHeld => ?_); refine with_tabW pylonlaw11_FillHolds.tab14 pylonlaw11_FillHolds.bits14 (fun HT_ HW_ => ?_)
           generalize w41.drew = w42 at HO_5 HO_7 BK294 HB hx330_0 hx330_1 hx331_0 hx331_1 hHeld ⊢
           refine pure_ (i := 0) (N := some 108) (v := ?_) (a' := ?_) pylonlaw11_FillHolds.q53 rfl rfl (any_of HT_.out (by kernel_rfl)) (fun _ _ _ h => h) (Or.inl ⟨by rfl, ?_⟩) ?_ ?_
           rotate_left
           ·intro w'
            go_simp
            with_reducible rfl
           rotate_left
           ·simp only [Act.put, List.setIfInBounds_toArray, List.set_cons_zero, List.set_cons_succ, i64_w, i32_w]
            rfl
           refine pure_ (i := 1) (N := some 109) (v := ?_) (a' := ?_) pylonlaw11_FillHolds.q54 rfl rfl (any_of HT_.out (by kernel_rfl)) (fun _ _ _ h => h) (Or.inl ⟨by rfl, ?_⟩) ?_ ?_
           rotate_left
           ·intro w'
            go_simp
            with_reducible rfl
           rotate_left
           ·simp only [Act.put, List.setIfInBounds_toArray, List.set_cons_zero, List.set_cons_succ, i64_w, i32_w]
            rfl
           refine pure_ (i := 2) (N := some 110) (v := ?_) (a' := ?_) pylonlaw11_FillHolds.q55 rfl rfl (any_of HT_.out (by kernel_rfl)) (fun _ _ _ h => h) (Or.inl ⟨by rfl, ?_⟩) ?_ ?_
           rotate_left
           ·intro w'
            go_simp
            with_reducible rfl
           rotate_left
           ·simp only [Act.put, List.setIfInBounds_toArray, List.set_cons_zero, List.set_cons_succ, i64_w, i32_w]
            rfl
           refine pure_ (i := 3) (N := some 111) (v := ?_) (a' := ?_) pylonlaw11_FillHolds.q56 rfl rfl (any_of HT_.out (by kernel_rfl)) (fun _ _ _ h => h) (Or.inl ⟨by rfl, ?_⟩) ?_ ?_
           rotate_left
           ·intro w'
            go_simp
            with_reducible rfl
           rotate_left
           ·simp only [Act.put, List.setIfInBounds_toArray, List.set_cons_zero, List.set_cons_succ, i64_w, i32_w]
            rfl
           refine pure_ (i := 4) (N := some 112) (v := ?_) (a' := ?_) pylonlaw11_FillHolds.q57 rfl rfl (any_of HT_.out (by kernel_rfl)) (fun _ _ _ h => h) (Or.inl ⟨by rfl, ?_⟩) ?_ ?_
           rotate_left
           ·intro w'
            go_simp
            with_reducible rfl
           rotate_left
           ·simp only [Act.put, List.setIfInBounds_toArray, List.set_cons_zero, List.set_cons_succ, i64_w, i32_w]
            rfl
           refine pure_ (i := 7) (N := some 115) (v := ?_) (a' := ?_) #[true, true, true, true, true, false, false, true, false, false, false, false, false, false] rfl rfl (any_of HT_.out (by kernel_rfl)) (fun _ _ _ h => h) (Or.inl ⟨by rfl, ?_⟩) ?_ ?_
           rotate_left
           ·intro w'
            go_simp
            with_reducible rfl
           rotate_left
           ·simp only [Act.put, List.setIfInBounds_toArray, List.set_cons_zero, List.set_cons_succ, i64_w, i32_w]
            rfl
           refine pure_ (i := 8) (N := some 116) (v := ?_) (a' := ?_) #[true, true, true, true, true, false, false, true, true, false, false, false, false, false] rfl rfl (any_of HT_.out (by kernel_rfl)) (fun _ _ _ h => h) (Or.inl ⟨by rfl, ?_⟩) ?_ ?_
           rotate_left
           ·intro w'
            go_simp
            with_reducible rfl
           rotate_left
           ·simp only [Act.put, List.setIfInBounds_toArray, List.set_cons_zero, List.set_cons_succ, i64_w, i32_w]
            rfl
           refine pure_ (i := 9) (N := some 117) (v := ?_) (a' := ?_) #[true, true, true, true, true, false, false, true, true, true, false, false, false, false] rfl rfl (any_of HT_.out (by kernel_rfl)) (fun _ _ _ h => h) (Or.inl ⟨by rfl, ?_⟩) ?_ ?_
           rotate_left
           ·intro w'
            go_simp
            with_reducible rfl
           rotate_left
           ·simp only [Act.put, List.setIfInBounds_toArray, List.set_cons_zero, List.set_cons_succ, i64_w, i32_w]
            rfl
           refine pure_ (i := 10) (N := some 118) (v := ?_) (a' := ?_) #[true, true, true, true, true, false, false, true, true, true, true, false, false, false] rfl rfl (any_of HT_.out (by kernel_rfl)) (fun _ _ _ h => h) (Or.inl ⟨by rfl, ?_⟩) ?_ ?_
           rotate_left
           ·intro w'
            go_simp
            with_reducible rfl
           rotate_left
           ·simp only [Act.put, List.setIfInBounds_toArray, List.set_cons_zero, List.set_cons_succ, i64_w, i32_w]
            rfl
           refine take_ (i := 5) (N := some 113) (v := ?_) (a' := ?_) #[true, true, true, true, true, true, false, true, true, true, true, false, false, false] rfl rfl (take_ofW HT_.out HW_.out (by kernel_rfl)) (fun _ _ _ h => h) (Or.inl ⟨by rfl, ?_⟩) hHeld ?_ ?_
           rotate_left
           ·rintro w' ⟨s0, s1, s2, s3⟩
            go_simp
            with_reducible rfl
           rotate_left
           ·simp only [Act.put, List.setIfInBounds_toArray, List.set_cons_zero, List.set_cons_succ, i64_w, i32_w]
            rfl
           refine pure_ (i := 6) (N := some 114) (v := ?_) (a' := ?_) pylonlaw11_FillHolds.q58 rfl rfl (any_of HT_.out (by kernel_rfl)) (fun _ _ _ h => h) (Or.inl ⟨by rfl, ?_⟩) ?_ ?_
           rotate_left
           ·intro w'
            go_simp
            with_reducible rfl
           rotate_left
           ·simp only [Act.put, List.setIfInBounds_toArray, List.set_cons_zero, List.set_cons_succ, i64_w, i32_w]
            rfl
           refine take_ (i := 11) (N := some 119) (v := ?_) (a' := ?_) pylonlaw11_FillHolds.q59 rfl rfl (take_ofW HT_.out HW_.out (by kernel_rfl)) (fun _ _ _ h => h) (Or.inl ⟨by rfl, ?_⟩) hHeld ?_ ?_
           rotate_left
           ·rintro w' ⟨s0, s1, s2, s3⟩
            go_simp
            with_reducible rfl
           rotate_left
           ·simp only [Act.put, List.setIfInBounds_toArray, List.set_cons_zero, List.set_cons_succ, i64_w, i32_w]
            rfl
           refine pure_ (i := 12) (N := some 120) (v := ?_) (a' := ?_) pylonlaw11_FillHolds.q60 rfl rfl (any_of HT_.out (by kernel_rfl)) (fun _ _ _ h => h) (Or.inl ⟨by rfl, ?_⟩) ?_ ?_
           rotate_left
           ·intro w'
            go_simp
            with_reducible rfl
           rotate_left
           ·simp only [Act.put, List.setIfInBounds_toArray, List.set_cons_zero, List.set_cons_succ, i64_w, i32_w]
            rfl
           refine pure_ (i := 13) (N := some 10) (v := ?_) (a' := ?_) pylonlaw11_FillHolds.q61 rfl rfl (any_of HT_.out (by kernel_rfl)) (fun _ _ _ h => h) (Or.inl ⟨by rfl, ?_⟩) ?_ ?_
           rotate_left
           ·intro w'
            go_simp
            with_reducible rfl
           rotate_left
           ·simp only [Act.put, List.setIfInBounds_toArray, List.set_cons_zero, List.set_cons_succ, i64_w, i32_w]
            rfl
           refine done_ (done_of HT_.out (by kernel_rfl)) ?_
           try go_wp2
           go_roundg kj21
           case measure => have := HK1.out; have := HJ21.out; omega
           case rel => exact ⟨(ji40), (wrap64 ((wrap64 (x10_1 + ((rd_T43 t305 x45_1).f1))) - ((rd_T43 t305 x45_1).f0))), (wrap64 (x45_1 + 1)), (by first | rfl | (simp; done) | (simp only [← hji40] <;> (first | rfl | simp)) | (simp [*]; done)), (by first | rfl | (simp; done) | (simp [*]; done)), (by first | rfl | (simp; done) | (simp [*]; done)), H', ⟨by have := HK1.out; have := HJ21.out; omega⟩, ⟨kr HO_5⟩, ⟨kr HO_7⟩, ⟨bkn BK294⟩, ⟨bw⟩⟩
          ·rw [if_neg c39] at H
           exact absurd H (by simp)
         ·rw [if_neg c38] at H
          exact absurd H (by simp)
     ·rw [if_neg c21] at H
      have c21b0 : decide (x45_1 < (t305.length : Int)) = false := decide_eq_false c21
      clear c21
      by_cases c43 : x10_1 = a0_3
      ·rw [if_pos c43] at H
       have c43b0 : (x10_1 == a0_3) = true := beq_iff_eq.mpr c43
       have c43b1 : (x10_1 != a0_3) = false := bne_eq_false_iff_eq.mpr c43
       clear c43
       by_cases c44 : t321 = 3
       ·rw [if_pos c44] at H
        have c44b0 : (t321 == 3) = true := beq_iff_eq.mpr c44
        have c44b1 : (t321 != 3) = false := bne_eq_false_iff_eq.mpr c44
        clear c44
        obtain rfl := Option.some.inj H
        obtain ⟨hcz45_0, hcz45_1, hcz45_2, hcz45_3, hcz45_4, hcz45_5, hcz45_6⟩ := blkC7 (w := wr) BK294.out
        obtain ⟨hfz45_0, hfz45_1, hfz45_2, hfz45_3, hfz45_4, hfz45_5, hfz45_6⟩ := blkF7 BK294.out
        obtain ⟨Ao46, co46, eo46⟩ := Kd.R_slice HO_7.out
        subst eo46
        go_wp2
        go_ret
        exact ⟨by first | rfl | (simp [errW_none, errW_some] <;> rfl) | (simp [*, errW_none, errW_some] <;> rfl), bw⟩
       ·rw [if_neg c44] at H
        have c44b0 : (t321 == 3) = false := beq_eq_false_iff_ne.mpr c44
        have c44b1 : (t321 != 3) = true := bne_iff_ne.mpr c44
        obtain rfl := Option.some.inj H
        obtain ⟨hcz47_0, hcz47_1, hcz47_2, hcz47_3, hcz47_4, hcz47_5, hcz47_6⟩ := blkC7 (w := wr) BK294.out
        obtain ⟨hfz47_0, hfz47_1, hfz47_2, hfz47_3, hfz47_4, hfz47_5, hfz47_6⟩ := blkF7 BK294.out
        go_wp2
        go_ret
        exact ⟨by first | rfl | (simp [errW_none, errW_some] <;> rfl) | (simp [*, errW_none, errW_some] <;> rfl), bw⟩
      ·rw [if_neg c43] at H
       have c43b0 : (x10_1 == a0_3) = false := beq_eq_false_iff_ne.mpr c43
       have c43b1 : (x10_1 != a0_3) = true := bne_iff_ne.mpr c43
       have HC48 := AX H
       clear H
       obtain ⟨hcz49_0, hcz49_1, hcz49_2, hcz49_3, hcz49_4, hcz49_5, hcz49_6⟩ := blkC7 (w := wr) BK294.out
       obtain ⟨hfz49_0, hfz49_1, hfz49_2, hfz49_3, hfz49_4, hfz49_5, hfz49_6⟩ := blkF7 BK294.out
       go_upto_region 18 with (fail)
       go_cut [140] (fun v140 wc => ∃ (kq : Nat) (x140_47 : Bool), v140 = .bool x140_47 ∧ Aside0 (pylonlaw11_FillHolds.j2 kq t318 t321 x10_1 x140_47 a0_0 a0_1 a0_2 a0_3 a0_4 a0_5 l0_6 = some r) ∧ Aside0 (kq ≤ k1) ∧ Aside0 (Kd.R k45 45 wc w.heap.size (fun _ => True) v319 t318) ∧ Aside0 (wc.heap[gb294]? = some (.cells #[.string a0_0, .int .i64 a0_1, .int .i64 a0_2, .int .i64 a0_3, .int .i64 a0_4, .int .i64 a0_5, (.slice A0_6 l0_6.length c0_6)] 31 (0, 0))) ∧ Aside0 (Below w.heap.size w wc))
       case first =>
        have H := HC48.out
        clear HC48
        by_cases c50 : (t305.length : Int) > 0
        ·rw [if_pos c50] at H
         have c50b0 : decide (0 < (t305.length : Int)) = true := decide_eq_true c50
         have c50b1 : decide (0 < t305.length) = true := decide_eq_true (by omega)
         clear c50
         (first | rw [c50b0] | (simp only [i64_w, i32_w]; rw [c50b0]) | skip)
         have H' := AX H
         clear H
         go_wp2
         go_meet
         case rel => exact ⟨_, (decide (x9_1 > a1)), (by first | rfl | (simp; done) | (simp [*]; done)), H', ⟨by have := HK1.out; first | omega | exact Nat.le_refl _⟩, ⟨kr HO_7⟩, ⟨bkn BK294⟩, ⟨bw⟩⟩
        ·rw [if_neg c50] at H
         have c50b0 : decide (0 < (t305.length : Int)) = false := decide_eq_false c50
         have c50b1 : decide (0 < t305.length) = false := decide_eq_false (by omega)
         clear c50
         (first | rw [c50b0] | (simp only [i64_w, i32_w]; rw [c50b0]) | skip)
         have H' := AX H
         clear H
         go_wp2
         go_meet
         case rel => exact ⟨_, (false), (by first | rfl | (simp; done) | (simp [*]; done)), H', ⟨by have := HK1.out; first | omega | exact Nat.le_refl _⟩, ⟨kr HO_7⟩, ⟨bkn BK294⟩, ⟨bw⟩⟩
       case rest =>
        clear HC48
        try clear c21b0
        try clear c43
        try clear c43b0 c43b1
        try clear hcz49_0 hcz49_1 hcz49_2 hcz49_3 hcz49_4 hcz49_5 hcz49_6
        try clear hfz49_0 hfz49_1 hfz49_2 hfz49_3 hfz49_4 hfz49_5 hfz49_6
        obtain ⟨kq, x140_47, rfl, HA, HJ47, HO_7, BK294, HB⟩ := hcut
        cases kq with
        | zero => exact absurd HA.out (by simp [pylonlaw11_FillHolds.j2])
        | succ kj47 =>
         have H := HA.out
         clear HA
         simp only [pylonlaw11_FillHolds.j2] at H
         by_cases c51 : x140_47 = true
         ·subst c51
          have H1 : (if t321 = 4 then (some ((t318.length : Int) == 0)) else (some false)) = some r := by rw [if_pos rfl] at H; exact H
          clear H
          have H := H1
          clear H1
          by_cases c52 : t321 = 4
          ·rw [if_pos c52] at H
           have c52b0 : (t321 == 4) = true := beq_iff_eq.mpr c52
           have c52b1 : (t321 != 4) = false := bne_eq_false_iff_eq.mpr c52
           clear c52
           obtain rfl := Option.some.inj H
           obtain ⟨Ao53, co53, eo53⟩ := Kd.R_slice HO_7.out
           subst eo53
           go_wp2
           go_ret
           exact ⟨by first | rfl | (simp [errW_none, errW_some] <;> rfl) | (simp [*, errW_none, errW_some] <;> rfl), bw⟩
          ·rw [if_neg c52] at H
           have c52b0 : (t321 == 4) = false := beq_eq_false_iff_ne.mpr c52
           have c52b1 : (t321 != 4) = true := bne_iff_ne.mpr c52
           obtain rfl := Option.some.inj H
           go_wp2
           go_ret
           exact ⟨by first | rfl | (simp [errW_none, errW_some] <;> rfl) | (simp [*, errW_none, errW_some] <;> rfl), bw⟩
         ·replace c51 := Bool.eq_false_iff.mpr c51
          subst c51
          have H1 : (if t321 = 0 then (pylonlaw11_FillHolds.j3 kj47 t318 x10_1 ((t318.length : Int) != a0_3) a0_0 a0_1 a0_2 a0_3 a0_4 a0_5 l0_6) else (pylonlaw11_FillHolds.j3 kj47 t318 x10_1 true a0_0 a0_1 a0_2 a0_3 a0_4 a0_5 l0_6)) = some r := by rw [if_neg (show ¬ (false = true) by decide)] at H; exact H
          clear H
          have H := H1
          clear H1
          have HC54 := AX H
          clear H
          go_upto_region 20 with (fail)
          go_cut [156] (fun v156 wc => ∃ (kq : Nat) (x156_53 : Bool), v156 = .bool x156_53 ∧ Aside0 (pylonlaw11_FillHolds.j3 kq t318 x10_1 x156_53 a0_0 a0_1 a0_2 a0_3 a0_4 a0_5 l0_6 = some r) ∧ Aside0 (kq ≤ kj47) ∧ Aside0 (Kd.R k45 45 wc w.heap.size (fun _ => True) v319 t318) ∧ Aside0 (wc.heap[gb294]? = some (.cells #[.string a0_0, .int .i64 a0_1, .int .i64 a0_2, .int .i64 a0_3, .int .i64 a0_4, .int .i64 a0_5, (.slice A0_6 l0_6.length c0_6)] 31 (0, 0))) ∧ Aside0 (Below w.heap.size w wc))
          case first =>
           have H := HC54.out
           clear HC54
           by_cases c55 : t321 = 0
           ·rw [if_pos c55] at H
            have c55b0 : (t321 == 0) = true := beq_iff_eq.mpr c55
            have c55b1 : (t321 != 0) = false := bne_eq_false_iff_eq.mpr c55
            clear c55
            (first | rw [c55b0] | (simp only [i64_w, i32_w]; rw [c55b0]) | skip)
            have H' := AX H
            clear H
            obtain ⟨Ao56, co56, eo56⟩ := Kd.R_slice HO_7.out
            subst eo56
            obtain ⟨hcz57_0, hcz57_1, hcz57_2, hcz57_3, hcz57_4, hcz57_5, hcz57_6⟩ := blkC7 (w := wc) BK294.out
            obtain ⟨hfz57_0, hfz57_1, hfz57_2, hfz57_3, hfz57_4, hfz57_5, hfz57_6⟩ := blkF7 BK294.out
            go_wp2
            go_meet
            case rel => exact ⟨_, (((t318.length : Int) != a0_3)), (by first | rfl | (simp; done) | (simp [*]; done)), H', ⟨by have := HK1.out; have := HJ47.out; first | omega | exact Nat.le_refl _⟩, ⟨kr HO_7⟩, ⟨bkn BK294⟩, ⟨bw⟩⟩
           ·rw [if_neg c55] at H
            have c55b0 : (t321 == 0) = false := beq_eq_false_iff_ne.mpr c55
            have c55b1 : (t321 != 0) = true := bne_iff_ne.mpr c55
            (first | rw [c55b0] | (simp only [i64_w, i32_w]; rw [c55b0]) | skip)
            have H' := AX H
            clear H
            go_wp2
            go_meet
            case rel => exact ⟨_, (true), (by first | rfl | (simp; done) | (simp [*]; done)), H', ⟨by have := HK1.out; have := HJ47.out; first | omega | exact Nat.le_refl _⟩, ⟨kr HO_7⟩, ⟨bkn BK294⟩, ⟨bw⟩⟩
          case rest =>
           clear HC54
           try clear c51
           obtain ⟨kq, x156_53, rfl, HA, HJ53, HO_7, BK294, HB⟩ := hcut
           cases kq with
           | zero => exact absurd HA.out (by simp [pylonlaw11_FillHolds.j3])
           | succ kj53 =>
            have H := HA.out
            clear HA
            simp only [pylonlaw11_FillHolds.j3] at H
            by_cases c58 : x156_53 = true
            ·subst c58
             have H1 : (some false) = some r := by rw [if_pos rfl] at H; exact H
             clear H
             have H := H1
             clear H1
             obtain rfl := Option.some.inj H
             go_wp2
             go_ret
             exact ⟨by first | rfl | (simp [errW_none, errW_some] <;> rfl) | (simp [*, errW_none, errW_some] <;> rfl), bw⟩
            ·replace c58 := Bool.eq_false_iff.mpr c58
             subst c58
             have H1 : (pylonlaw11_FillHolds.l1 kj53 t318 x10_1 0 (t318.length : Int) 0 a0_0 a0_1 a0_2 a0_3 a0_4 a0_5 l0_6) = some r := by rw [if_neg (show ¬ (false = true) by decide)] at H; exact H
             clear H
             have H := H1
             clear H1
             have H' := AX H
             clear H
             obtain ⟨Ao59, co59, eo59⟩ := Kd.R_slice HO_7.out
             subst eo59
             go_wp2
             go_loopg [12, 159] kj53 (fun kq v12 v159 w' => ∃ (x12_4 : Int) (x159_4 : Int), v12 = .int .i64 x12_4 ∧ v159 = .int .i64 x159_4 ∧ Aside0 (pylonlaw11_FillHolds.l1 kq t318 x10_1 x12_4 (t318.length : Int) x159_4 a0_0 a0_1 a0_2 a0_3 a0_4 a0_5 l0_6 = some r) ∧ Aside0 (kq ≤ kj53) ∧ Aside0 (Kd.R k45 45 w' w.heap.size (fun _ => True) (.slice Ao59 t318.length co59) t318) ∧ Aside0 (w'.heap[gb294]? = some (.cells #[.string a0_0, .int .i64 a0_1, .int .i64 a0_2, .int .i64 a0_3, .int .i64 a0_4, .int .i64 a0_5, (.slice A0_6 l0_6.length c0_6)] 31 (0, 0))) ∧ Aside0 (Below w.heap.size w w'))
             case atStart => exact ⟨(0), (0), (by first | rfl | (simp; done) | (simp [*]; done)), (by first | rfl | (simp; done) | (simp [*]; done)), H', ⟨Nat.le_refl _⟩, ⟨kr HO_7⟩, ⟨bkn BK294⟩, ⟨bw⟩⟩
             case round =>
              clear H'
              try clear c58
              obtain ⟨x12_4, x159_4, rfl, rfl, HA, HK4, HO_7, BK294, HB⟩ := hrel
              cases gk with
              | zero => exact absurd HA.out (by simp [pylonlaw11_FillHolds.l1])
              | succ k4 =>
               have H := HA.out
               clear HA
               simp only [pylonlaw11_FillHolds.l1] at H
               by_cases c60 : x159_4 < (t318.length : Int)
               ·rw [if_pos c60] at H
                have c60b0 : decide (x159_4 < (t318.length : Int)) = true := decide_eq_true c60
                clear c60
                by_cases c61 : 0 ≤ x159_4
                ·rw [if_pos c61] at H
                 have c61b0 : decide (0 ≤ x159_4) = true := decide_eq_true c61
                 clear c61
                 by_cases c62 : x159_4 < (t318.length : Int)
                 ·rw [if_pos c62] at H
                  have c62b0 : decide (x159_4 < (t318.length : Int)) = true := decide_eq_true c62
                  clear c62
                  by_cases c63 : ((rd_T45 t318 x159_4).f0) = x159_4
                  ·rw [if_pos c63] at H
                   have c63b0 : (((rd_T45 t318 x159_4).f0) == x159_4) = true := beq_iff_eq.mpr c63
                   have c63b1 : (((rd_T45 t318 x159_4).f0) != x159_4) = false := bne_eq_false_iff_eq.mpr c63
                   clear c63
                   by_cases c64 : ((rd_T45 t318 x159_4).f4) = 70
                   ·rw [if_pos c64] at H
                    have c64b0 : (((rd_T45 t318 x159_4).f4) == 70) = true := beq_iff_eq.mpr c64
                    have c64b1 : (((rd_T45 t318 x159_4).f4) != 70) = false := bne_eq_false_iff_eq.mpr c64
                    clear c64
                    have H' := AX H
                    clear H
                    have p332 : 0 ≤ (x159_4 : Int) := of_decide_eq_true (by first | (with_reducible assumption) | assumption)
                    have q332 : x159_4 < (t318.length : Int) := of_decide_eq_true (by first | (with_reducible assumption) | assumption)
                    obtain ⟨ad332, e332, hx332_0, hx332_1, hx332_2, hx332_3, hx332_4⟩ := at_T45 (Kd.R_reads' HO_7.out).2.2 x159_4 p332 q332
                    cases e332
                    replace p332 := eq_true p332
                    replace q332 := eq_true q332
                    have p333 : 0 ≤ (x159_4 : Int) := of_decide_eq_true (by first | (with_reducible assumption) | assumption)
                    have q333 : x159_4 < (t318.length : Int) := of_decide_eq_true (by first | (with_reducible assumption) | assumption)
                    obtain ⟨ad333, e333, hx333_0, hx333_1, hx333_2, hx333_3, hx333_4⟩ := at_T45 (Kd.R_reads' HO_7.out).2.2 x159_4 p333 q333
                    obtain rfl : ad332 = ad333 := (by injection e333)
                    replace p333 := eq_true p333
                    replace q333 := eq_true q333
                    go_wp2
                    go_roundg k4
                    case measure => have := HK1.out; have := HJ47.out; have := HJ53.out; have := HK4.out; omega
                    case rel => exact ⟨(wrap64 (x12_4 + 1)), (wrap64 (x159_4 + 1)), (by first | rfl | (simp; done) | (simp [*]; done)), (by first | rfl | (simp; done) | (simp [*]; done)), H', ⟨by have := HK1.out; have := HJ47.out; have := HJ53.out; have := HK4.out; omega⟩, ⟨kr HO_7⟩, ⟨bkn BK294⟩, ⟨bw⟩⟩
                   ·rw [if_neg c64] at H
                    have c64b0 : (((rd_T45 t318 x159_4).f4) == 70) = false := beq_eq_false_iff_ne.mpr c64
                    have c64b1 : (((rd_T45 t318 x159_4).f4) != 70) = true := bne_iff_ne.mpr c64
                    have H' := AX H
                    clear H
                    have p332 : 0 ≤ (x159_4 : Int) := of_decide_eq_true (by first | (with_reducible assumption) | assumption)
                    have q332 : x159_4 < (t318.length : Int) := of_decide_eq_true (by first | (with_reducible assumption) | assumption)
                    obtain ⟨ad332, e332, hx332_0, hx332_1, hx332_2, hx332_3, hx332_4⟩ := at_T45 (Kd.R_reads' HO_7.out).2.2 x159_4 p332 q332
                    cases e332
                    replace p332 := eq_true p332
                    replace q332 := eq_true q332
                    have p333 : 0 ≤ (x159_4 : Int) := of_decide_eq_true (by first | (with_reducible assumption) | assumption)
                    have q333 : x159_4 < (t318.length : Int) := of_decide_eq_true (by first | (with_reducible assumption) | assumption)
                    obtain ⟨ad333, e333, hx333_0, hx333_1, hx333_2, hx333_3, hx333_4⟩ := at_T45 (Kd.R_reads' HO_7.out).2.2 x159_4 p333 q333
                    obtain rfl : ad332 = ad333 := (by injection e333)
                    replace p333 := eq_true p333
                    replace q333 := eq_true q333
                    go_wp2
                    go_roundg k4
                    case measure => have := HK1.out; have := HJ47.out; have := HJ53.out; have := HK4.out; omega
                    case rel => exact ⟨(x12_4), (wrap64 (x159_4 + 1)), (by first | rfl | (simp; done) | (simp [*]; done)), (by first | rfl | (simp; done) | (simp [*]; done)), H', ⟨by have := HK1.out; have := HJ47.out; have := HJ53.out; have := HK4.out; omega⟩, ⟨kr HO_7⟩, ⟨bkn BK294⟩, ⟨bw⟩⟩
                  ·rw [if_neg c63] at H
                   have c63b0 : (((rd_T45 t318 x159_4).f0) == x159_4) = false := beq_eq_false_iff_ne.mpr c63
                   have c63b1 : (((rd_T45 t318 x159_4).f0) != x159_4) = true := bne_iff_ne.mpr c63
                   obtain rfl := Option.some.inj H
                   have p332 : 0 ≤ (x159_4 : Int) := of_decide_eq_true (by first | (with_reducible assumption) | assumption)
                   have q332 : x159_4 < (t318.length : Int) := of_decide_eq_true (by first | (with_reducible assumption) | assumption)
                   obtain ⟨ad332, e332, hx332_0, hx332_1, hx332_2, hx332_3, hx332_4⟩ := at_T45 (Kd.R_reads' HO_7.out).2.2 x159_4 p332 q332
                   cases e332
                   replace p332 := eq_true p332
                   replace q332 := eq_true q332
                   go_wp2
                   go_ret
                   exact ⟨by first | rfl | (simp [errW_none, errW_some] <;> rfl) | (simp [*, errW_none, errW_some] <;> rfl), bw⟩
                 ·rw [if_neg c62] at H
                  exact absurd H (by simp)
                ·rw [if_neg c61] at H
                 exact absurd H (by simp)
               ·rw [if_neg c60] at H
                have c60b0 : decide (x159_4 < (t318.length : Int)) = false := decide_eq_false c60
                clear c60
                have H' := AX H
                clear H
                obtain ⟨hcz65_0, hcz65_1, hcz65_2, hcz65_3, hcz65_4, hcz65_5, hcz65_6⟩ := blkC7 (w := wr) BK294.out
                obtain ⟨hfz65_0, hfz65_1, hfz65_2, hfz65_3, hfz65_4, hfz65_5, hfz65_6⟩ := blkF7 BK294.out
                go_wp2
                go_loopg [181] k4 (fun kq v181 w' => ∃ (x181_5 : Int), v181 = .int .i64 x181_5 ∧ Aside0 (pylonlaw11_FillHolds.l2 kq t318 x10_1 x12_4 (l0_6.length : Int) x181_5 a0_0 a0_1 a0_2 a0_3 a0_4 a0_5 l0_6 = some r) ∧ Aside0 (kq ≤ k4) ∧ Aside0 (Kd.R k45 45 w' w.heap.size (fun _ => True) (.slice Ao59 t318.length co59) t318) ∧ Aside0 (w'.heap[gb294]? = some (.cells #[.string a0_0, .int .i64 a0_1, .int .i64 a0_2, .int .i64 a0_3, .int .i64 a0_4, .int .i64 a0_5, (.slice A0_6 l0_6.length c0_6)] 31 (0, 0))) ∧ Aside0 (Below w.heap.size w w'))
                case atStart => exact ⟨(0), (by first | rfl | (simp; done) | (simp [*]; done)), H', ⟨Nat.le_refl _⟩, ⟨kr HO_7⟩, ⟨bkn BK294⟩, ⟨bw⟩⟩
                case round =>
                 clear H'
                 try clear c60b0
                 try clear hcz65_0 hcz65_1 hcz65_2 hcz65_3 hcz65_4 hcz65_5 hcz65_6
                 try clear hfz65_0 hfz65_1 hfz65_2 hfz65_3 hfz65_4 hfz65_5 hfz65_6
                 obtain ⟨x181_5, rfl, HA, HK5, HO_7, BK294, HB⟩ := hrel
                 cases gk with
                 | zero => exact absurd HA.out (by simp [pylonlaw11_FillHolds.l2])
                 | succ k5 =>
                  have H := HA.out
                  clear HA
                  simp only [pylonlaw11_FillHolds.l2] at H
                  by_cases c66 : x181_5 < (l0_6.length : Int)
                  ·rw [if_pos c66] at H
                   have c66b0 : decide (x181_5 < (l0_6.length : Int)) = true := decide_eq_true c66
                   clear c66
                   have HC67 := AX H
                   clear H
                   go_upto_region 34 with (fail)
                   go_cut [206] (fun v206 wc => ∃ (kq : Nat) (x206_66 : Bool), v206 = .bool x206_66 ∧ Aside0 (pylonlaw11_FillHolds.j6 kq t318 x10_1 x12_4 (l0_6.length : Int) x181_5 x206_66 a0_0 a0_1 a0_2 a0_3 a0_4 a0_5 l0_6 = some r) ∧ Aside0 (kq ≤ k5) ∧ Aside0 (Kd.R k45 45 wc w.heap.size (fun _ => True) (.slice Ao59 t318.length co59) t318) ∧ Aside0 (wc.heap[gb294]? = some (.cells #[.string a0_0, .int .i64 a0_1, .int .i64 a0_2, .int .i64 a0_3, .int .i64 a0_4, .int .i64 a0_5, (.slice A0_6 l0_6.length c0_6)] 31 (0, 0))) ∧ Aside0 (Below w.heap.size w wc))
                   case first =>
                    have H := HC67.out
                    clear HC67
                    by_cases c68 : 0 ≤ x181_5
                    ·rw [if_pos c68] at H
                     have c68b0 : decide (0 ≤ x181_5) = true := decide_eq_true c68
                     clear c68
                     (first | rw [c68b0] | (simp only [i64_w, i32_w]; rw [c68b0]) | skip)
                     by_cases c69 : x181_5 < (l0_6.length : Int)
                     ·rw [if_pos c69] at H
                      have c69b0 : decide (x181_5 < (l0_6.length : Int)) = true := decide_eq_true c69
                      clear c69
                      replace H := Option.bind_eq_some_iff.mp H
                      obtain ⟨t335, A700, H⟩ := H
                      replace H : (if t335 = true then (if 0 ≤ ((rd_T45 l0_6 x181_5).f0) then (if ((rd_T45 l0_6 x181_5).f0) < (t318.length : Int) then (pylonlaw11_FillHolds.j6 k5 t318 x10_1 x12_4 (l0_6.length : Int) x181_5 (!(((rd_T45 t318 ((rd_T45 l0_6 x181_5).f0)).f0) == ((rd_T45 l0_6 x181_5).f0)) || (!(((rd_T45 t318 ((rd_T45 l0_6 x181_5).f0)).f1) == ((rd_T45 l0_6 x181_5).f1)) || (!(((rd_T45 t318 ((rd_T45 l0_6 x181_5).f0)).f2) == ((rd_T45 l0_6 x181_5).f2)) || (!(((rd_T45 t318 ((rd_T45 l0_6 x181_5).f0)).f3) == ((rd_T45 l0_6 x181_5).f3)) || (!(((rd_T45 t318 ((rd_T45 l0_6 x181_5).f0)).f4) == ((rd_T45 l0_6 x181_5).f4))))))) a0_0 a0_1 a0_2 a0_3 a0_4 a0_5 l0_6) else (none)) else (none)) else (pylonlaw11_FillHolds.j6 k5 t318 x10_1 x12_4 (l0_6.length : Int) x181_5 false a0_0 a0_1 a0_2 a0_3 a0_4 a0_5 l0_6)) = some r := H
                      have A70 := AX A700
                      clear A700
                      by_cases c71 : t335 = true
                      ·subst c71
                       have H1 : (if 0 ≤ ((rd_T45 l0_6 x181_5).f0) then (if ((rd_T45 l0_6 x181_5).f0) < (t318.length : Int) then (pylonlaw11_FillHolds.j6 k5 t318 x10_1 x12_4 (l0_6.length : Int) x181_5 (!(((rd_T45 t318 ((rd_T45 l0_6 x181_5).f0)).f0) == ((rd_T45 l0_6 x181_5).f0)) || (!(((rd_T45 t318 ((rd_T45 l0_6 x181_5).f0)).f1) == ((rd_T45 l0_6 x181_5).f1)) || (!(((rd_T45 t318 ((rd_T45 l0_6 x181_5).f0)).f2) == ((rd_T45 l0_6 x181_5).f2)) || (!(((rd_T45 t318 ((rd_T45 l0_6 x181_5).f0)).f3) == ((rd_T45 l0_6 x181_5).f3)) || (!(((rd_T45 t318 ((rd_T45 l0_6 x181_5).f0)).f4) == ((rd_T45 l0_6 x181_5).f4))))))) a0_0 a0_1 a0_2 a0_3 a0_4 a0_5 l0_6) else (none)) else (none)) = some r := by rw [if_pos rfl] at H; exact H
                       clear H
                       have H := H1
                       clear H1
                       by_cases c72 : 0 ≤ ((rd_T45 l0_6 x181_5).f0)
                       ·rw [if_pos c72] at H
                        have c72b0 : decide (0 ≤ ((rd_T45 l0_6 x181_5).f0)) = true := decide_eq_true c72
                        clear c72
                        by_cases c73 : ((rd_T45 l0_6 x181_5).f0) < (t318.length : Int)
                        ·rw [if_pos c73] at H
                         have c73b0 : decide (((rd_T45 l0_6 x181_5).f0) < (t318.length : Int)) = true := decide_eq_true c73
                         clear c73
                         have H' := AX H
                         clear H
                         try go_wp2
                         have n0_ := AX (Kd.R_drew HO_7.out)
                         have n1_ := AX (blk_drew BK294.out)
                         have n2_ := AX (below_drew1 HB.out)
                         clear HO_7
                         clear BK294
                         clear HB
                         have HO_7 := n0_
                         have BK294 := n1_
                         have HB := n2_
                         clear n0_ n1_ n2_
                         have p334 : 0 ≤ (x181_5 : Int) := of_decide_eq_true (by first | (with_reducible assumption) | assumption)
                         have q334 : x181_5 < (l0_6.length : Int) := of_decide_eq_true (by first | (with_reducible assumption) | assumption)
                         obtain ⟨ad334, e334, hx334_0, hx334_1, hx334_2, hx334_3, hx334_4⟩ := at_T45 HR0_6.out x181_5 p334 q334
                         have hw334_4 := hx334_4
                         have hw334_3 := hx334_3
                         have hw334_2 := hx334_2
                         have hw334_1 := hx334_1
                         have hw334_0 := hx334_0
                         cases e334
                         replace hx334_0 := bcl HB hx334_0
                         replace hx334_1 := bcl HB hx334_1
                         replace hx334_2 := bcl HB hx334_2
                         replace hx334_3 := bcl HB hx334_3
                         replace hx334_4 := bcl HB hx334_4
                         replace p334 := eq_true p334
                         replace q334 := eq_true q334
                         have p336 : 0 ≤ (x181_5 : Int) := of_decide_eq_true (by first | (with_reducible assumption) | assumption)
                         have q336 : x181_5 < (l0_6.length : Int) := of_decide_eq_true (by first | (with_reducible assumption) | assumption)
                         obtain ⟨ad336, e336, hx336_0, hx336_1, hx336_2, hx336_3, hx336_4⟩ := at_T45 HR0_6.out x181_5 p336 q336
                         have hw336_4 := hx336_4
                         have hw336_3 := hx336_3
                         have hw336_2 := hx336_2
                         have hw336_1 := hx336_1
                         have hw336_0 := hx336_0
                         obtain rfl : ad334 = ad336 := (by injection e336)
                         replace hx336_0 := bcl HB hx336_0
                         replace hx336_1 := bcl HB hx336_1
                         replace hx336_2 := bcl HB hx336_2
                         replace hx336_3 := bcl HB hx336_3
                         replace hx336_4 := bcl HB hx336_4
                         replace p336 := eq_true p336
                         replace q336 := eq_true q336
                         have p337 : 0 ≤ (((rd_T45 l0_6 x181_5).f0) : Int) := of_decide_eq_true (by first | (with_reducible assumption) | assumption)
                         have q337 : ((rd_T45 l0_6 x181_5).f0) < (t318.length : Int) := of_decide_eq_true (by first | (with_reducible assumption) | assumption)
                         obtain ⟨ad337, e337, hx337_0, hx337_1, hx337_2, hx337_3, hx337_4⟩ := at_T45 (Kd.R_reads' HO_7.out).2.2 ((rd_T45 l0_6 x181_5).f0) p337 q337
                         cases e337
                         replace p337 := eq_true p337
                         replace q337 := eq_true q337
                         have p338 : 0 ≤ (x181_5 : Int) := of_decide_eq_true (by first | (with_reducible assumption) | assumption)
                         have q338 : x181_5 < (l0_6.length : Int) := of_decide_eq_true (by first | (with_reducible assumption) | assumption)
                         obtain ⟨ad338, e338, hx338_0, hx338_1, hx338_2, hx338_3, hx338_4⟩ := at_T45 HR0_6.out x181_5 p338 q338
                         have hw338_4 := hx338_4
                         have hw338_3 := hx338_3
                         have hw338_2 := hx338_2
                         have hw338_1 := hx338_1
                         have hw338_0 := hx338_0
                         obtain rfl : ad334 = ad338 := (by injection e338)
                         replace hx338_0 := bcl HB hx338_0
                         replace hx338_1 := bcl HB hx338_1
                         replace hx338_2 := bcl HB hx338_2
                         replace hx338_3 := bcl HB hx338_3
                         replace hx338_4 := bcl HB hx338_4
                         replace p338 := eq_true p338
                         replace q338 := eq_true q338
                         refine start_ (n := 23) (S := fun w' => w'.cell? ⟨gb294, 0, none⟩ = some (.string a0_0) ∧ w'.cell? ⟨gb294, 1, none⟩ = some (.int .i64 a0_1) ∧ w'.cell? ⟨gb294, 2, none⟩ = some (.int .i64 a0_2) ∧ w'.cell? ⟨gb294, 3, none⟩ = some (.int .i64 a0_3) ∧ w'.cell? ⟨gb294, 4, none⟩ = some (.int .i64 a0_4) ∧ w'.cell? ⟨gb294, 5, none⟩ = some (.int .i64 a0_5) ∧ w'.cell? ⟨gb294, 6, none⟩ = some (.slice (some ad334) l0_6.length c0_6) ∧ w'.cell? (ad334.add ((x181_5).toNat * 5)) = some (.int .i64 ((rd_T45 l0_6 x181_5).f0)) ∧ w'.cell? ⟨(ad334.add ((x181_5).toNat * 5)).block, (ad334.add ((x181_5).toNat * 5)).off + 1, none⟩ = some (.int .i64 ((rd_T45 l0_6 x181_5).f1)) ∧ w'.cell? ⟨(ad334.add ((x181_5).toNat * 5)).block, (ad334.add ((x181_5).toNat * 5)).off + 2, none⟩ = some (.int .i64 ((rd_T45 l0_6 x181_5).f2)) ∧ w'.cell? ⟨(ad334.add ((x181_5).toNat * 5)).block, (ad334.add ((x181_5).toNat * 5)).off + 3, none⟩ = some (.int .i64 ((rd_T45 l0_6 x181_5).f3)) ∧ w'.cell? ⟨(ad334.add ((x181_5).toNat * 5)).block, (ad334.add ((x181_5).toNat * 5)).off + 4, none⟩ = some (.int .u8 ((rd_T45 l0_6 x181_5).f4)) ∧ w'.cell? (ad334.add ((x181_5).toNat * 5)) = some (.int .i64 ((rd_T45 l0_6 x181_5).f0)) ∧ w'.cell? ⟨(ad334.add ((x181_5).toNat * 5)).block, (ad334.add ((x181_5).toNat * 5)).off + 1, none⟩ = some (.int .i64 ((rd_T45 l0_6 x181_5).f1)) ∧ w'.cell? ⟨(ad334.add ((x181_5).toNat * 5)).block, (ad334.add ((x181_5).toNat * 5)).off + 2, none⟩ = some (.int .i64 ((rd_T45 l0_6 x181_5).f2)) ∧ w'.cell? ⟨(ad334.add ((x181_5).toNat * 5)).block, (ad334.add ((x181_5).toNat * 5)).off + 3, none⟩ = some (.int .i64 ((rd_T45 l0_6 x181_5).f3)) ∧ w'.cell? ⟨(ad334.add ((x181_5).toNat * 5)).block, (ad334.add ((x181_5).toNat * 5)).off + 4, none⟩ = some (.int .u8 ((rd_T45 l0_6 x181_5).f4)) ∧ w'.cell? (ad337.add ((((rd_T45 l0_6 x181_5).f0)).toNat * 5)) = some (.int .i64 ((rd_T45 t318 ((rd_T45 l0_6 x181_5).f0)).f0)) ∧ w'.cell? ⟨(ad337.add ((((rd_T45 l0_6 x181_5).f0)).toNat * 5)).block, (ad337.add ((((rd_T45 l0_6 x181_5).f0)).toNat * 5)).off + 1, none⟩ = some (.int .i64 ((rd_T45 t318 ((rd_T45 l0_6 x181_5).f0)).f1)) ∧ w'.cell? ⟨(ad337.add ((((rd_T45 l0_6 x181_5).f0)).toNat * 5)).block, (ad337.add ((((rd_T45 l0_6 x181_5).f0)).toNat * 5)).off + 2, none⟩ = some (.int .i64 ((rd_T45 t318 ((rd_T45 l0_6 x181_5).f0)).f2)) ∧ w'.cell? ⟨(ad337.add ((((rd_T45 l0_6 x181_5).f0)).toNat * 5)).block, (ad337.add ((((rd_T45 l0_6 x181_5).f0)).toNat * 5)).off + 3, none⟩ = some (.int .i64 ((rd_T45 t318 ((rd_T45 l0_6 x181_5).f0)).f3)) ∧ w'.cell? ⟨(ad337.add ((((rd_T45 l0_6 x181_5).f0)).toNat * 5)).block, (ad337.add ((((rd_T45 l0_6 x181_5).f0)).toNat * 5)).off + 4, none⟩ = some (.int .u8 ((rd_T45 t318 ((rd_T45 l0_6 x181_5).f0)).f4)) ∧ w'.cell? (ad334.add ((x181_5).toNat * 5)) = some (.int .i64 ((rd_T45 l0_6 x181_5).f0)) ∧ w'.cell? ⟨(ad334.add ((x181_5).toNat * 5)).block, (ad334.add ((x181_5).toNat * 5)).off + 1, none⟩ = some (.int .i64 ((rd_T45 l0_6 x181_5).f1)) ∧ w'.cell? ⟨(ad334.add ((x181_5).toNat * 5)).block, (ad334.add ((x181_5).toNat * 5)).off + 2, none⟩ = some (.int .i64 ((rd_T45 l0_6 x181_5).f2)) ∧ w'.cell? ⟨(ad334.add ((x181_5).toNat * 5)).block, (ad334.add ((x181_5).toNat * 5)).off + 3, none⟩ = some (.int .i64 ((rd_T45 l0_6 x181_5).f3)) ∧ w'.cell? ⟨(ad334.add ((x181_5).toNat * 5)).block, (ad334.add ((x181_5).toNat * 5)).off + 4, none⟩ = some (.int .u8 ((rd_T45 l0_6 x181_5).f4))) (ds := []) pylonlaw11_FillHolds.q62 (by kernel_rfl) rfl rfl ⟨(blk_cell BK294.out 0).trans rfl, (blk_cell BK294.out 1).trans rfl, (blk_cell BK294.out 2).trans rfl, (blk_cell BK294.out 3).trans rfl, (blk_cell BK294.out 4).trans rfl, (blk_cell BK294.out 5).trans rfl, (blk_cell BK294.out 6).trans rfl, (bcl HB hw334_0), (bcl HB hw334_1), (bcl HB hw334_2), (bcl HB hw334_3), (bcl HB hw334_4), (bcl HB hw336_0), (bcl HB hw336_1), (bcl HB hw336_2), (bcl HB hw336_3), (bcl HB hw336_4), hx337_0, hx337_1, hx337_2, hx337_3, hx337_4, (bcl HB hw338_0), (bcl HB hw338_1), (bcl HB hw338_2), (bcl HB hw338_3), (bcl HB hw338_4)⟩ (fun hHeld => ?_); refine with_tabW pylonlaw11_FillHolds.tab34 pylonlaw11_FillHolds.bits34 (fun HT_ HW_ => ?_)
                         generalize wr.drew = w74 at HO_7 BK294 HB hx334_0 hx334_1 hx334_2 hx334_3 hx334_4 hx336_0 hx336_1 hx336_2 hx336_3 hx336_4 hx337_0 hx337_1 hx337_2 hx337_3 hx337_4 hx338_0 hx338_1 hx338_2 hx338_3 hx338_4 hHeld ⊢
                         refine pure_ (i := 0) (N := some 184) (v := ?_) (a' := ?_) pylonlaw11_FillHolds.q63 rfl rfl (any_of HT_.out (by kernel_rfl)) (fun _ _ _ h => h) (Or.inl ⟨by rfl, ?_⟩) ?_ ?_
                         rotate_left
                         ·intro w'
                          go_simp
                          with_reducible rfl
                         rotate_left
                         ·simp only [Act.put, List.setIfInBounds_toArray, List.set_cons_zero, List.set_cons_succ, i64_w, i32_w]
                          rfl
                         refine pure_ (i := 2) (N := some 186) (v := ?_) (a' := ?_) pylonlaw11_FillHolds.q64 rfl rfl (any_of HT_.out (by kernel_rfl)) (fun _ _ _ h => h) (Or.inl ⟨by rfl, ?_⟩) ?_ ?_
                         rotate_left
                         ·intro w'
                          go_simp
                          with_reducible rfl
                         rotate_left
                         ·simp only [Act.put, List.setIfInBounds_toArray, List.set_cons_zero, List.set_cons_succ, i64_w, i32_w]
                          rfl
                         refine take_ (i := 1) (N := some 185) (v := ?_) (a' := ?_) pylonlaw11_FillHolds.q65 rfl rfl (take_ofW HT_.out HW_.out (by kernel_rfl)) (fun _ _ _ h => h) (Or.inl ⟨by rfl, ?_⟩) hHeld ?_ ?_
                         rotate_left
                         ·rintro w' ⟨s0, s1, s2, s3, s4, s5, s6, s7, s8, s9, s10, s11, s12, s13, s14, s15, s16, s17, s18, s19, s20, s21, s22, s23, s24, s25, s26⟩
                          go_simp
                          with_reducible rfl
                         rotate_left
                         ·simp only [Act.put, List.setIfInBounds_toArray, List.set_cons_zero, List.set_cons_succ, i64_w, i32_w]
                          rfl
                         refine pure_ (i := 3) (N := some 187) (v := ?_) (a' := ?_) pylonlaw11_FillHolds.q66 rfl rfl (any_of HT_.out (by kernel_rfl)) (fun _ _ _ h => h) (Or.inl ⟨by rfl, ?_⟩) ?_ ?_
                         rotate_left
                         ·intro w'
                          go_simp
                          with_reducible rfl
                         rotate_left
                         ·simp only [Act.put, List.setIfInBounds_toArray, List.set_cons_zero, List.set_cons_succ, i64_w, i32_w]
                          rfl
                         refine take_ (i := 4) (N := some 188) (v := ?_) (a' := ?_) pylonlaw11_FillHolds.q67 rfl rfl (take_ofW HT_.out HW_.out (by kernel_rfl)) (fun _ _ _ h => h) (Or.inl ⟨by rfl, ?_⟩) hHeld ?_ ?_
                         rotate_left
                         ·rintro w' ⟨s0, s1, s2, s3, s4, s5, s6, s7, s8, s9, s10, s11, s12, s13, s14, s15, s16, s17, s18, s19, s20, s21, s22, s23, s24, s25, s26⟩
                          go_simp
                          with_reducible rfl
                         rotate_left
                         ·simp only [Act.put, List.setIfInBounds_toArray, List.set_cons_zero, List.set_cons_succ, i64_w, i32_w]
                          rfl
                         refine one_ (i := 5) (N := some 189) pylonlaw11_FillHolds.q68 rfl rfl (one_of HT_.out (by kernel_rfl)) (by decide) (fun K hK => ?_)
                         refine goes_ Try.func21 (by kernel_rfl) rfl #[.agg #[.int .i64 ((rd_T45 l0_6 x181_5).f0), .int .i64 ((rd_T45 l0_6 x181_5).f1), .int .i64 ((rd_T45 l0_6 x181_5).f2), .int .i64 ((rd_T45 l0_6 x181_5).f3), .int .u8 ((rd_T45 l0_6 x181_5).f4)]] (by rfl) rfl rfl (by (try simp only [List.map_toArray, List.map_cons, List.map_nil]); first | done | rfl | (simp only [List.length_drop, List.length_take]; rfl)) ?_
                         with_reducible refine (pylonref10_Good.calls ((rd_T45 l0_6 x181_5).f0) ((rd_T45 l0_6 x181_5).f1) ((rd_T45 l0_6 x181_5).f2) ((rd_T45 l0_6 x181_5).f3) ((rd_T45 l0_6 x181_5).f4) true _ A70.out).mono ?_
                         rintro e w75 ⟨rfl, hb⟩
                         have HS17_ := (hb.cell (World.block_lt_of_cell? _ _ (hHeld.2.2.2.2.2.2.2.2.2.2.2.2.2.2.2.2.2.1))).trans (hHeld.2.2.2.2.2.2.2.2.2.2.2.2.2.2.2.2.2.1)
                         have HS18_ := (hb.cell (World.block_lt_of_cell? _ _ (hHeld.2.2.2.2.2.2.2.2.2.2.2.2.2.2.2.2.2.2.1))).trans (hHeld.2.2.2.2.2.2.2.2.2.2.2.2.2.2.2.2.2.2.1)
                         have HS19_ := (hb.cell (World.block_lt_of_cell? _ _ (hHeld.2.2.2.2.2.2.2.2.2.2.2.2.2.2.2.2.2.2.2.1))).trans (hHeld.2.2.2.2.2.2.2.2.2.2.2.2.2.2.2.2.2.2.2.1)
                         have HS20_ := (hb.cell (World.block_lt_of_cell? _ _ (hHeld.2.2.2.2.2.2.2.2.2.2.2.2.2.2.2.2.2.2.2.2.1))).trans (hHeld.2.2.2.2.2.2.2.2.2.2.2.2.2.2.2.2.2.2.2.2.1)
                         have HS21_ := (hb.cell (World.block_lt_of_cell? _ _ (hHeld.2.2.2.2.2.2.2.2.2.2.2.2.2.2.2.2.2.2.2.2.2.1))).trans (hHeld.2.2.2.2.2.2.2.2.2.2.2.2.2.2.2.2.2.2.2.2.2.1)
                         refine ⟨_, rfl, ?_⟩
                         have n0_ := AX (Kd.R_below (kr HO_7) hb)
                         have n1_ := AX (bkb BK294 hb)
                         have n2_ := AX (below_step bw hb)
                         clear HO_7
                         clear BK294
                         clear HB
                         have HO_7 := n0_
                         have BK294 := n1_
                         have HB := n2_
                         clear n0_ n1_ n2_
                         (try clear hb)
                         (try clear hb2)
                         (try clear hk)
                         (try clear hi)
                         refine hK.out _ _ ⟨(blk_cell BK294.out 0).trans rfl, (blk_cell BK294.out 1).trans rfl, (blk_cell BK294.out 2).trans rfl, (blk_cell BK294.out 3).trans rfl, (blk_cell BK294.out 4).trans rfl, (blk_cell BK294.out 5).trans rfl, (blk_cell BK294.out 6).trans rfl, (bcl HB hw334_0), (bcl HB hw334_1), (bcl HB hw334_2), (bcl HB hw334_3), (bcl HB hw334_4), (bcl HB hw336_0), (bcl HB hw336_1), (bcl HB hw336_2), (bcl HB hw336_3), (bcl HB hw336_4), HS17_, HS18_, HS19_, HS20_, HS21_, (bcl HB hw338_0), (bcl HB hw338_1), (bcl HB hw338_2), (bcl HB hw338_3), (bcl HB hw338_4)⟩ (fun hHeld => ?_)
                         clear hK K
                         refine norm_ (a' := ?_) ?_ ?_
                         rotate_left
                         ·show Act.put _ (some 189) _ = _
                          simp only [Act.put, List.setIfInBounds_toArray, List.set_cons_zero, List.set_cons_succ, i64_w, i32_w]
                          rfl
                         refine pure_ (i := 6) (N := some 190) (v := ?_) (a' := ?_) pylonlaw11_FillHolds.q69 rfl rfl (any_of HT_.out (by kernel_rfl)) (fun _ _ _ h => h) (Or.inl ⟨by rfl, ?_⟩) ?_ ?_
                         rotate_left
                         ·intro w'
                          go_simp
                          with_reducible rfl
                         rotate_left
                         ·simp only [Act.put, List.setIfInBounds_toArray, List.set_cons_zero, List.set_cons_succ, i64_w, i32_w]
                          rfl
                         refine pure_ (i := 7) (N := some 191) (v := ?_) (a' := ?_) pylonlaw11_FillHolds.q70 rfl rfl (any_of HT_.out (by kernel_rfl)) (fun _ _ _ h => h) (Or.inl ⟨by rfl, ?_⟩) ?_ ?_
                         rotate_left
                         ·intro w'
                          go_simp
                          with_reducible rfl
                         rotate_left
                         ·simp only [Act.put, List.setIfInBounds_toArray, List.set_cons_zero, List.set_cons_succ, i64_w, i32_w]
                          rfl
                         refine pure_ (i := 8) (N := some 192) (v := ?_) (a' := ?_) pylonlaw11_FillHolds.q71 rfl rfl (any_of HT_.out (by kernel_rfl)) (fun _ _ _ h => h) (Or.inl ⟨by rfl, ?_⟩) ?_ ?_
                         rotate_left
                         ·intro w'
                          go_simp
                          with_reducible rfl
                         rotate_left
                         ·simp only [Act.put, List.setIfInBounds_toArray, List.set_cons_zero, List.set_cons_succ, i64_w, i32_w]
                          rfl
                         refine pure_ (i := 10) (N := some 194) (v := ?_) (a' := ?_) #[true, true, true, true, true, true, true, true, true, false, true, false, false, false, false, false, false, false, false, false, false, false, false] rfl rfl (any_of HT_.out (by kernel_rfl)) (fun _ _ _ h => h) (Or.inl ⟨by rfl, ?_⟩) ?_ ?_
                         rotate_left
                         ·intro w'
                          go_simp
                          with_reducible rfl
                         rotate_left
                         ·simp only [Act.put, List.setIfInBounds_toArray, List.set_cons_zero, List.set_cons_succ, i64_w, i32_w]
                          rfl
                         refine pure_ (i := 16) (N := some 200) (v := ?_) (a' := ?_) #[true, true, true, true, true, true, true, true, true, false, true, false, false, false, false, false, true, false, false, false, false, false, false] rfl rfl (any_of HT_.out (by kernel_rfl)) (fun _ _ _ h => h) (Or.inl ⟨by rfl, ?_⟩) ?_ ?_
                         rotate_left
                         ·intro w'
                          go_simp
                          with_reducible rfl
                         rotate_left
                         ·simp only [Act.put, List.setIfInBounds_toArray, List.set_cons_zero, List.set_cons_succ, i64_w, i32_w]
                          rfl
                         refine pure_ (i := 18) (N := some 202) (v := ?_) (a' := ?_) #[true, true, true, true, true, true, true, true, true, false, true, false, false, false, false, false, true, false, true, false, false, false, false] rfl rfl (any_of HT_.out (by kernel_rfl)) (fun _ _ _ h => h) (Or.inl ⟨by rfl, ?_⟩) ?_ ?_
                         rotate_left
                         ·intro w'
                          go_simp
                          with_reducible rfl
                         rotate_left
                         ·simp only [Act.put, List.setIfInBounds_toArray, List.set_cons_zero, List.set_cons_succ, i64_w, i32_w]
                          rfl
                         refine take_ (i := 9) (N := some 193) (v := ?_) (a' := ?_) #[true, true, true, true, true, true, true, true, true, true, true, false, false, false, false, false, true, false, true, false, false, false, false] rfl rfl (take_ofW HT_.out HW_.out (by kernel_rfl)) (fun _ _ _ h => h) (Or.inl ⟨by rfl, ?_⟩) hHeld ?_ ?_
                         rotate_left
                         ·rintro w' ⟨s0, s1, s2, s3, s4, s5, s6, s7, s8, s9, s10, s11, s12, s13, s14, s15, s16, s17, s18, s19, s20, s21, s22, s23, s24, s25, s26⟩
                          go_simp
                          with_reducible rfl
                         rotate_left
                         ·simp only [Act.put, List.setIfInBounds_toArray, List.set_cons_zero, List.set_cons_succ, i64_w, i32_w]
                          rfl
                         refine pure_ (i := 11) (N := some 195) (v := ?_) (a' := ?_) #[true, true, true, true, true, true, true, true, true, true, true, true, false, false, false, false, true, false, true, false, false, false, false] rfl rfl (any_of HT_.out (by kernel_rfl)) (fun _ _ _ h => h) (Or.inl ⟨by rfl, ?_⟩) ?_ ?_
                         rotate_left
                         ·intro w'
                          go_simp
                          with_reducible rfl
                         rotate_left
                         ·simp only [Act.put, List.setIfInBounds_toArray, List.set_cons_zero, List.set_cons_succ, i64_w, i32_w]
                          rfl
                         refine pure_ (i := 12) (N := some 196) (v := ?_) (a' := ?_) #[true, true, true, true, true, true, true, true, true, true, true, true, true, false, false, false, true, false, true, false, false, false, false] rfl rfl (any_of HT_.out (by kernel_rfl)) (fun _ _ _ h => h) (Or.inl ⟨by rfl, ?_⟩) ?_ ?_
                         rotate_left
                         ·intro w'
                          go_simp
                          with_reducible rfl
                         rotate_left
                         ·simp only [Act.put, List.setIfInBounds_toArray, List.set_cons_zero, List.set_cons_succ, i64_w, i32_w]
                          rfl
                         refine take_ (i := 13) (N := some 197) (v := ?_) (a' := ?_) #[true, true, true, true, true, true, true, true, true, true, true, true, true, true, false, false, true, false, true, false, false, false, false] rfl rfl (take_ofW HT_.out HW_.out (by kernel_rfl)) (fun _ _ _ h => h) (Or.inl ⟨by rfl, ?_⟩) hHeld ?_ ?_
                         rotate_left
                         ·rintro w' ⟨s0, s1, s2, s3, s4, s5, s6, s7, s8, s9, s10, s11, s12, s13, s14, s15, s16, s17, s18, s19, s20, s21, s22, s23, s24, s25, s26⟩
                          go_simp
                          with_reducible rfl
                         rotate_left
                         ·simp only [Act.put, List.setIfInBounds_toArray, List.set_cons_zero, List.set_cons_succ, i64_w, i32_w]
                          rfl
                         refine pure_ (i := 14) (N := some 198) (v := ?_) (a' := ?_) #[true, true, true, true, true, true, true, true, true, true, true, true, true, true, true, false, true, false, true, false, false, false, false] rfl rfl (any_of HT_.out (by kernel_rfl)) (fun _ _ _ h => h) (Or.inl ⟨by rfl, ?_⟩) ?_ ?_
                         rotate_left
                         ·intro w'
                          go_simp
                          with_reducible rfl
                         rotate_left
                         ·simp only [Act.put, List.setIfInBounds_toArray, List.set_cons_zero, List.set_cons_succ, i64_w, i32_w]
                          rfl
                         refine take_ (i := 15) (N := some 199) (v := ?_) (a' := ?_) #[true, true, true, true, true, true, true, true, true, true, true, true, true, true, true, true, true, false, true, false, false, false, false] rfl rfl (take_ofW HT_.out HW_.out (by kernel_rfl)) (fun _ _ _ h => h) (Or.inl ⟨by rfl, ?_⟩) hHeld ?_ ?_
                         rotate_left
                         ·rintro w' ⟨s0, s1, s2, s3, s4, s5, s6, s7, s8, s9, s10, s11, s12, s13, s14, s15, s16, s17, s18, s19, s20, s21, s22, s23, s24, s25, s26⟩
                          go_simp
                          with_reducible rfl
                         rotate_left
                         ·simp only [Act.put, List.setIfInBounds_toArray, List.set_cons_zero, List.set_cons_succ, i64_w, i32_w]
                          rfl
                         refine take_ (i := 17) (N := some 201) (v := ?_) (a' := ?_) pylonlaw11_FillHolds.q72 rfl rfl (take_ofW HT_.out HW_.out (by kernel_rfl)) (fun _ _ _ h => h) (Or.inl ⟨by rfl, ?_⟩) hHeld ?_ ?_
                         rotate_left
                         ·rintro w' ⟨s0, s1, s2, s3, s4, s5, s6, s7, s8, s9, s10, s11, s12, s13, s14, s15, s16, s17, s18, s19, s20, s21, s22, s23, s24, s25, s26⟩
                          go_simp
                          with_reducible rfl
                         rotate_left
                         ·simp only [Act.put, List.setIfInBounds_toArray, List.set_cons_zero, List.set_cons_succ, i64_w, i32_w]
                          rfl
                         refine pure_ (i := 19) (N := some 203) (v := ?_) (a' := ?_) pylonlaw11_FillHolds.q73 rfl rfl (any_of HT_.out (by kernel_rfl)) (fun _ _ _ h => h) (Or.inl ⟨by rfl, ?_⟩) ?_ ?_
                         rotate_left
                         ·intro w'
                          go_simp
                          with_reducible rfl
                         rotate_left
                         ·simp only [Act.put, List.setIfInBounds_toArray, List.set_cons_zero, List.set_cons_succ, i64_w, i32_w]
                          rfl
                         refine take_ (i := 20) (N := some 204) (v := ?_) (a' := ?_) pylonlaw11_FillHolds.q74 rfl rfl (take_ofW HT_.out HW_.out (by kernel_rfl)) (fun _ _ _ h => h) (Or.inl ⟨by rfl, ?_⟩) hHeld ?_ ?_
                         rotate_left
                         ·rintro w' ⟨s0, s1, s2, s3, s4, s5, s6, s7, s8, s9, s10, s11, s12, s13, s14, s15, s16, s17, s18, s19, s20, s21, s22, s23, s24, s25, s26⟩
                          go_simp
                          with_reducible rfl
                         rotate_left
                         ·simp only [Act.put, List.setIfInBounds_toArray, List.set_cons_zero, List.set_cons_succ, i64_w, i32_w]
                          rfl
                         refine pure_ (i := 21) (N := some 205) (v := ?_) (a' := ?_) pylonlaw11_FillHolds.q75 rfl rfl (any_of HT_.out (by kernel_rfl)) (fun _ _ _ h => h) (Or.inl ⟨by rfl, ?_⟩) ?_ ?_
                         rotate_left
                         ·intro w'
                          go_simp
                          with_reducible rfl
                         rotate_left
                         ·simp only [Act.put, List.setIfInBounds_toArray, List.set_cons_zero, List.set_cons_succ, i64_w, i32_w]
                          rfl
                         refine pure_ (i := 22) (N := some 206) (v := ?_) (a' := ?_) pylonlaw11_FillHolds.q76 rfl rfl (any_of HT_.out (by kernel_rfl)) (fun _ _ _ h => h) (Or.inl ⟨by rfl, ?_⟩) ?_ ?_
                         rotate_left
                         ·intro w'
                          go_simp
                          with_reducible rfl
                         rotate_left
                         ·simp only [Act.put, List.setIfInBounds_toArray, List.set_cons_zero, List.set_cons_succ, i64_w, i32_w]
                          rfl
                         refine done_ (done_of HT_.out (by kernel_rfl)) ?_
                         try go_wp2
                         go_meet
                         case rel => exact ⟨_, ((!(((rd_T45 t318 ((rd_T45 l0_6 x181_5).f0)).f0) == ((rd_T45 l0_6 x181_5).f0)) || (!(((rd_T45 t318 ((rd_T45 l0_6 x181_5).f0)).f1) == ((rd_T45 l0_6 x181_5).f1)) || (!(((rd_T45 t318 ((rd_T45 l0_6 x181_5).f0)).f2) == ((rd_T45 l0_6 x181_5).f2)) || (!(((rd_T45 t318 ((rd_T45 l0_6 x181_5).f0)).f3) == ((rd_T45 l0_6 x181_5).f3)) || (!(((rd_T45 t318 ((rd_T45 l0_6 x181_5).f0)).f4) == ((rd_T45 l0_6 x181_5).f4)))))))), (by first | rfl | (simp; done) | (simp [*]; done)), H', ⟨by have := HK1.out; have := HJ47.out; have := HJ53.out; have := HK4.out; have := HK5.out; first | omega | exact Nat.le_refl _⟩, ⟨kr HO_7⟩, ⟨bkn BK294⟩, ⟨bw⟩⟩
                        ·rw [if_neg c73] at H
                         exact absurd H (by simp)
                       ·rw [if_neg c72] at H
                        exact absurd H (by simp)
                      ·replace c71 := Bool.eq_false_iff.mpr c71
                       subst c71
                       have H1 : (pylonlaw11_FillHolds.j6 k5 t318 x10_1 x12_4 (l0_6.length : Int) x181_5 false a0_0 a0_1 a0_2 a0_3 a0_4 a0_5 l0_6) = some r := by rw [if_neg (show ¬ (false = true) by decide)] at H; exact H
                       clear H
                       have H := H1
                       clear H1
                       have H' := AX H
                       clear H
                       try go_wp2
                       have n0_ := AX (Kd.R_drew HO_7.out)
                       have n1_ := AX (blk_drew BK294.out)
                       have n2_ := AX (below_drew1 HB.out)
                       clear HO_7
                       clear BK294
                       clear HB
                       have HO_7 := n0_
                       have BK294 := n1_
                       have HB := n2_
                       clear n0_ n1_ n2_
                       have p334 : 0 ≤ (x181_5 : Int) := of_decide_eq_true (by first | (with_reducible assumption) | assumption)
                       have q334 : x181_5 < (l0_6.length : Int) := of_decide_eq_true (by first | (with_reducible assumption) | assumption)
                       obtain ⟨ad334, e334, hx334_0, hx334_1, hx334_2, hx334_3, hx334_4⟩ := at_T45 HR0_6.out x181_5 p334 q334
                       have hw334_4 := hx334_4
                       have hw334_3 := hx334_3
                       have hw334_2 := hx334_2
                       have hw334_1 := hx334_1
                       have hw334_0 := hx334_0
                       cases e334
                       replace hx334_0 := bcl HB hx334_0
                       replace hx334_1 := bcl HB hx334_1
                       replace hx334_2 := bcl HB hx334_2
                       replace hx334_3 := bcl HB hx334_3
                       replace hx334_4 := bcl HB hx334_4
                       replace p334 := eq_true p334
                       replace q334 := eq_true q334
                       refine start_ (n := 23) (S := fun w' => w'.cell? ⟨gb294, 0, none⟩ = some (.string a0_0) ∧ w'.cell? ⟨gb294, 1, none⟩ = some (.int .i64 a0_1) ∧ w'.cell? ⟨gb294, 2, none⟩ = some (.int .i64 a0_2) ∧ w'.cell? ⟨gb294, 3, none⟩ = some (.int .i64 a0_3) ∧ w'.cell? ⟨gb294, 4, none⟩ = some (.int .i64 a0_4) ∧ w'.cell? ⟨gb294, 5, none⟩ = some (.int .i64 a0_5) ∧ w'.cell? ⟨gb294, 6, none⟩ = some (.slice (some ad334) l0_6.length c0_6) ∧ w'.cell? (ad334.add ((x181_5).toNat * 5)) = some (.int .i64 ((rd_T45 l0_6 x181_5).f0)) ∧ w'.cell? ⟨(ad334.add ((x181_5).toNat * 5)).block, (ad334.add ((x181_5).toNat * 5)).off + 1, none⟩ = some (.int .i64 ((rd_T45 l0_6 x181_5).f1)) ∧ w'.cell? ⟨(ad334.add ((x181_5).toNat * 5)).block, (ad334.add ((x181_5).toNat * 5)).off + 2, none⟩ = some (.int .i64 ((rd_T45 l0_6 x181_5).f2)) ∧ w'.cell? ⟨(ad334.add ((x181_5).toNat * 5)).block, (ad334.add ((x181_5).toNat * 5)).off + 3, none⟩ = some (.int .i64 ((rd_T45 l0_6 x181_5).f3)) ∧ w'.cell? ⟨(ad334.add ((x181_5).toNat * 5)).block, (ad334.add ((x181_5).toNat * 5)).off + 4, none⟩ = some (.int .u8 ((rd_T45 l0_6 x181_5).f4))) (ds := []) pylonlaw11_FillHolds.q62 (by kernel_rfl) rfl rfl ⟨(blk_cell BK294.out 0).trans rfl, (blk_cell BK294.out 1).trans rfl, (blk_cell BK294.out 2).trans rfl, (blk_cell BK294.out 3).trans rfl, (blk_cell BK294.out 4).trans rfl, (blk_cell BK294.out 5).trans rfl, (blk_cell BK294.out 6).trans rfl, (bcl HB hw334_0), (bcl HB hw334_1), (bcl HB hw334_2), (bcl HB hw334_3), (bcl HB hw334_4)⟩ (fun hHeld => ?_); refine with_tabW pylonlaw11_FillHolds.tab34 pylonlaw11_FillHolds.bits34 (fun HT_ HW_ => ?_)
                       generalize wr.drew = w76 at HO_7 BK294 HB hx334_0 hx334_1 hx334_2 hx334_3 hx334_4 hHeld ⊢
                       refine pure_ (i := 0) (N := some 184) (v := ?_) (a' := ?_) pylonlaw11_FillHolds.q63 rfl rfl (any_of HT_.out (by kernel_rfl)) (fun _ _ _ h => h) (Or.inl ⟨by rfl, ?_⟩) ?_ ?_
                       rotate_left
                       ·intro w'
                        go_simp
                        with_reducible rfl
                       rotate_left
                       ·simp only [Act.put, List.setIfInBounds_toArray, List.set_cons_zero, List.set_cons_succ, i64_w, i32_w]
                        rfl
                       refine pure_ (i := 2) (N := some 186) (v := ?_) (a' := ?_) pylonlaw11_FillHolds.q64 rfl rfl (any_of HT_.out (by kernel_rfl)) (fun _ _ _ h => h) (Or.inl ⟨by rfl, ?_⟩) ?_ ?_
                       rotate_left
                       ·intro w'
                        go_simp
                        with_reducible rfl
                       rotate_left
                       ·simp only [Act.put, List.setIfInBounds_toArray, List.set_cons_zero, List.set_cons_succ, i64_w, i32_w]
                        rfl
                       refine take_ (i := 1) (N := some 185) (v := ?_) (a' := ?_) pylonlaw11_FillHolds.q65 rfl rfl (take_ofW HT_.out HW_.out (by kernel_rfl)) (fun _ _ _ h => h) (Or.inl ⟨by rfl, ?_⟩) hHeld ?_ ?_
                       rotate_left
                       ·rintro w' ⟨s0, s1, s2, s3, s4, s5, s6, s7, s8, s9, s10, s11⟩
                        go_simp
                        with_reducible rfl
                       rotate_left
                       ·simp only [Act.put, List.setIfInBounds_toArray, List.set_cons_zero, List.set_cons_succ, i64_w, i32_w]
                        rfl
                       refine pure_ (i := 3) (N := some 187) (v := ?_) (a' := ?_) pylonlaw11_FillHolds.q66 rfl rfl (any_of HT_.out (by kernel_rfl)) (fun _ _ _ h => h) (Or.inl ⟨by rfl, ?_⟩) ?_ ?_
                       rotate_left
                       ·intro w'
                        go_simp
                        with_reducible rfl
                       rotate_left
                       ·simp only [Act.put, List.setIfInBounds_toArray, List.set_cons_zero, List.set_cons_succ, i64_w, i32_w]
                        rfl
                       refine take_ (i := 4) (N := some 188) (v := ?_) (a' := ?_) pylonlaw11_FillHolds.q67 rfl rfl (take_ofW HT_.out HW_.out (by kernel_rfl)) (fun _ _ _ h => h) (Or.inl ⟨by rfl, ?_⟩) hHeld ?_ ?_
                       rotate_left
                       ·rintro w' ⟨s0, s1, s2, s3, s4, s5, s6, s7, s8, s9, s10, s11⟩
                        go_simp
                        with_reducible rfl
                       rotate_left
                       ·simp only [Act.put, List.setIfInBounds_toArray, List.set_cons_zero, List.set_cons_succ, i64_w, i32_w]
                        rfl
                       refine one_ (i := 5) (N := some 189) pylonlaw11_FillHolds.q68 rfl rfl (one_of HT_.out (by kernel_rfl)) (by decide) (fun K hK => ?_)
                       refine goes_ Try.func21 (by kernel_rfl) rfl #[.agg #[.int .i64 ((rd_T45 l0_6 x181_5).f0), .int .i64 ((rd_T45 l0_6 x181_5).f1), .int .i64 ((rd_T45 l0_6 x181_5).f2), .int .i64 ((rd_T45 l0_6 x181_5).f3), .int .u8 ((rd_T45 l0_6 x181_5).f4)]] (by rfl) rfl rfl (by (try simp only [List.map_toArray, List.map_cons, List.map_nil]); first | done | rfl | (simp only [List.length_drop, List.length_take]; rfl)) ?_
                       with_reducible refine (pylonref10_Good.calls ((rd_T45 l0_6 x181_5).f0) ((rd_T45 l0_6 x181_5).f1) ((rd_T45 l0_6 x181_5).f2) ((rd_T45 l0_6 x181_5).f3) ((rd_T45 l0_6 x181_5).f4) false _ A70.out).mono ?_
                       rintro e w77 ⟨rfl, hb⟩
                       refine ⟨_, rfl, ?_⟩
                       have n0_ := AX (Kd.R_below (kr HO_7) hb)
                       have n1_ := AX (bkb BK294 hb)
                       have n2_ := AX (below_step bw hb)
                       clear HO_7
                       clear BK294
                       clear HB
                       have HO_7 := n0_
                       have BK294 := n1_
                       have HB := n2_
                       clear n0_ n1_ n2_
                       (try clear hb)
                       (try clear hb2)
                       (try clear hk)
                       (try clear hi)
                       refine hK.out _ _ ⟨(blk_cell BK294.out 0).trans rfl, (blk_cell BK294.out 1).trans rfl, (blk_cell BK294.out 2).trans rfl, (blk_cell BK294.out 3).trans rfl, (blk_cell BK294.out 4).trans rfl, (blk_cell BK294.out 5).trans rfl, (blk_cell BK294.out 6).trans rfl, (bcl HB hw334_0), (bcl HB hw334_1), (bcl HB hw334_2), (bcl HB hw334_3), (bcl HB hw334_4)⟩ (fun hHeld => ?_)
                       clear hK K
                       refine norm_ (a' := ?_) ?_ ?_
                       rotate_left
                       ·show Act.put _ (some 189) _ = _
                        simp only [Act.put, List.setIfInBounds_toArray, List.set_cons_zero, List.set_cons_succ, i64_w, i32_w]
                        rfl
                       refine pure_ (i := 6) (N := some 190) (v := ?_) (a' := ?_) pylonlaw11_FillHolds.q69 rfl rfl (any_of HT_.out (by kernel_rfl)) (fun _ _ _ h => h) (Or.inl ⟨by rfl, ?_⟩) ?_ ?_
                       rotate_left
                       ·intro w'
                        go_simp
                        with_reducible rfl
                       rotate_left
                       ·simp only [Act.put, List.setIfInBounds_toArray, List.set_cons_zero, List.set_cons_succ, i64_w, i32_w]
                        rfl
                       refine pure_ (i := 7) (N := some 191) (v := undef) (a' := ?_) pylonlaw11_FillHolds.q70 rfl rfl (any_of HT_.out (by kernel_rfl)) (fun _ _ _ h => h) (Or.inr ⟨by rfl, rfl⟩) ?_ ?_
                       rotate_left
                       ·simp only [Act.put, List.setIfInBounds_toArray, List.set_cons_zero, List.set_cons_succ, i64_w, i32_w]
                        rfl
                       refine pure_ (i := 8) (N := some 192) (v := undef) (a' := ?_) pylonlaw11_FillHolds.q71 rfl rfl (any_of HT_.out (by kernel_rfl)) (fun _ _ _ h => h) (Or.inr ⟨by rfl, rfl⟩) ?_ ?_
                       rotate_left
                       ·simp only [Act.put, List.setIfInBounds_toArray, List.set_cons_zero, List.set_cons_succ, i64_w, i32_w]
                        rfl
                       refine pure_ (i := 9) (N := some 193) (v := undef) (a' := ?_) #[true, true, true, true, true, true, true, true, true, true, false, false, false, false, false, false, false, false, false, false, false, false, false] rfl rfl (any_of HT_.out (by kernel_rfl)) (fun _ _ _ h => h) (Or.inr ⟨by rfl, rfl⟩) ?_ ?_
                       rotate_left
                       ·simp only [Act.put, List.setIfInBounds_toArray, List.set_cons_zero, List.set_cons_succ, i64_w, i32_w]
                        rfl
                       refine pure_ (i := 10) (N := some 194) (v := undef) (a' := ?_) #[true, true, true, true, true, true, true, true, true, true, true, false, false, false, false, false, false, false, false, false, false, false, false] rfl rfl (any_of HT_.out (by kernel_rfl)) (fun _ _ _ h => h) (Or.inr ⟨by rfl, rfl⟩) ?_ ?_
                       rotate_left
                       ·simp only [Act.put, List.setIfInBounds_toArray, List.set_cons_zero, List.set_cons_succ, i64_w, i32_w]
                        rfl
                       refine pure_ (i := 11) (N := some 195) (v := undef) (a' := ?_) #[true, true, true, true, true, true, true, true, true, true, true, true, false, false, false, false, false, false, false, false, false, false, false] rfl rfl (any_of HT_.out (by kernel_rfl)) (fun _ _ _ h => h) (Or.inr ⟨by rfl, rfl⟩) ?_ ?_
                       rotate_left
                       ·simp only [Act.put, List.setIfInBounds_toArray, List.set_cons_zero, List.set_cons_succ, i64_w, i32_w]
                        rfl
                       refine pure_ (i := 12) (N := some 196) (v := undef) (a' := ?_) #[true, true, true, true, true, true, true, true, true, true, true, true, true, false, false, false, false, false, false, false, false, false, false] rfl rfl (any_of HT_.out (by kernel_rfl)) (fun _ _ _ h => h) (Or.inr ⟨by rfl, rfl⟩) ?_ ?_
                       rotate_left
                       ·simp only [Act.put, List.setIfInBounds_toArray, List.set_cons_zero, List.set_cons_succ, i64_w, i32_w]
                        rfl
                       refine pure_ (i := 13) (N := some 197) (v := undef) (a' := ?_) #[true, true, true, true, true, true, true, true, true, true, true, true, true, true, false, false, false, false, false, false, false, false, false] rfl rfl (any_of HT_.out (by kernel_rfl)) (fun _ _ _ h => h) (Or.inr ⟨by rfl, rfl⟩) ?_ ?_
                       rotate_left
                       ·simp only [Act.put, List.setIfInBounds_toArray, List.set_cons_zero, List.set_cons_succ, i64_w, i32_w]
                        rfl
                       refine pure_ (i := 14) (N := some 198) (v := undef) (a' := ?_) #[true, true, true, true, true, true, true, true, true, true, true, true, true, true, true, false, false, false, false, false, false, false, false] rfl rfl (any_of HT_.out (by kernel_rfl)) (fun _ _ _ h => h) (Or.inr ⟨by rfl, rfl⟩) ?_ ?_
                       rotate_left
                       ·simp only [Act.put, List.setIfInBounds_toArray, List.set_cons_zero, List.set_cons_succ, i64_w, i32_w]
                        rfl
                       refine pure_ (i := 15) (N := some 199) (v := undef) (a' := ?_) #[true, true, true, true, true, true, true, true, true, true, true, true, true, true, true, true, false, false, false, false, false, false, false] rfl rfl (any_of HT_.out (by kernel_rfl)) (fun _ _ _ h => h) (Or.inr ⟨by rfl, rfl⟩) ?_ ?_
                       rotate_left
                       ·simp only [Act.put, List.setIfInBounds_toArray, List.set_cons_zero, List.set_cons_succ, i64_w, i32_w]
                        rfl
                       refine pure_ (i := 16) (N := some 200) (v := undef) (a' := ?_) #[true, true, true, true, true, true, true, true, true, true, true, true, true, true, true, true, true, false, false, false, false, false, false] rfl rfl (any_of HT_.out (by kernel_rfl)) (fun _ _ _ h => h) (Or.inr ⟨by rfl, rfl⟩) ?_ ?_
                       rotate_left
                       ·simp only [Act.put, List.setIfInBounds_toArray, List.set_cons_zero, List.set_cons_succ, i64_w, i32_w]
                        rfl
                       refine pure_ (i := 17) (N := some 201) (v := undef) (a' := ?_) #[true, true, true, true, true, true, true, true, true, true, true, true, true, true, true, true, true, true, false, false, false, false, false] rfl rfl (any_of HT_.out (by kernel_rfl)) (fun _ _ _ h => h) (Or.inr ⟨by rfl, rfl⟩) ?_ ?_
                       rotate_left
                       ·simp only [Act.put, List.setIfInBounds_toArray, List.set_cons_zero, List.set_cons_succ, i64_w, i32_w]
                        rfl
                       refine pure_ (i := 18) (N := some 202) (v := undef) (a' := ?_) pylonlaw11_FillHolds.q72 rfl rfl (any_of HT_.out (by kernel_rfl)) (fun _ _ _ h => h) (Or.inr ⟨by rfl, rfl⟩) ?_ ?_
                       rotate_left
                       ·simp only [Act.put, List.setIfInBounds_toArray, List.set_cons_zero, List.set_cons_succ, i64_w, i32_w]
                        rfl
                       refine pure_ (i := 19) (N := some 203) (v := undef) (a' := ?_) pylonlaw11_FillHolds.q73 rfl rfl (any_of HT_.out (by kernel_rfl)) (fun _ _ _ h => h) (Or.inr ⟨by rfl, rfl⟩) ?_ ?_
                       rotate_left
                       ·simp only [Act.put, List.setIfInBounds_toArray, List.set_cons_zero, List.set_cons_succ, i64_w, i32_w]
                        rfl
                       refine pure_ (i := 20) (N := some 204) (v := undef) (a' := ?_) pylonlaw11_FillHolds.q74 rfl rfl (any_of HT_.out (by kernel_rfl)) (fun _ _ _ h => h) (Or.inr ⟨by rfl, rfl⟩) ?_ ?_
                       rotate_left
                       ·simp only [Act.put, List.setIfInBounds_toArray, List.set_cons_zero, List.set_cons_succ, i64_w, i32_w]
                        rfl
                       refine pure_ (i := 21) (N := some 205) (v := undef) (a' := ?_) pylonlaw11_FillHolds.q75 rfl rfl (any_of HT_.out (by kernel_rfl)) (fun _ _ _ h => h) (Or.inr ⟨by rfl, rfl⟩) ?_ ?_
                       rotate_left
                       ·simp only [Act.put, List.setIfInBounds_toArray, List.set_cons_zero, List.set_cons_succ, i64_w, i32_w]
                        rfl
                       refine pure_ (i := 22) (N := some 206) (v := ?_) (a' := ?_) pylonlaw11_FillHolds.q76 rfl rfl (any_of HT_.out (by kernel_rfl)) (fun _ _ _ h => h) (Or.inl ⟨by rfl, ?_⟩) ?_ ?_
                       rotate_left
                       ·intro w'
                        go_simp
                        with_reducible rfl
                       rotate_left
                       ·simp only [Act.put, List.setIfInBounds_toArray, List.set_cons_zero, List.set_cons_succ, i64_w, i32_w]
                        rfl
                       refine done_ (done_of HT_.out (by kernel_rfl)) ?_
                       try go_wp2
                       go_meet
                       case rel => exact ⟨_, (false), (by first | rfl | (simp; done) | (simp [*]; done)), H', ⟨by have := HK1.out; have := HJ47.out; have := HJ53.out; have := HK4.out; have := HK5.out; first | omega | exact Nat.le_refl _⟩, ⟨kr HO_7⟩, ⟨bkn BK294⟩, ⟨bw⟩⟩
                     ·rw [if_neg c69] at H
                      exact absurd H (by simp)
                    ·rw [if_neg c68] at H
                     exact absurd H (by simp)
                   case rest =>
                    clear HC67
                    try clear c66b0
                    obtain ⟨kq, x206_66, rfl, HA, HJ66, HO_7, BK294, HB⟩ := hcut
                    cases kq with
                    | zero => exact absurd HA.out (by simp [pylonlaw11_FillHolds.j6])
                    | succ kj66 =>
                     have H := HA.out
                     clear HA
                     simp only [pylonlaw11_FillHolds.j6] at H
                     by_cases c78 : x206_66 = true
                     ·subst c78
                      have H1 : (some false) = some r := by rw [if_pos rfl] at H; exact H
                      clear H
                      have H := H1
                      clear H1
                      obtain rfl := Option.some.inj H
                      go_wp2
                      go_ret
                      exact ⟨by first | rfl | (simp [errW_none, errW_some] <;> rfl) | (simp [*, errW_none, errW_some] <;> rfl), bw⟩
                     ·replace c78 := Bool.eq_false_iff.mpr c78
                      subst c78
                      have H1 : (pylonlaw11_FillHolds.l2 kj66 t318 x10_1 x12_4 (l0_6.length : Int) (wrap64 (x181_5 + 1)) a0_0 a0_1 a0_2 a0_3 a0_4 a0_5 l0_6) = some r := by rw [if_neg (show ¬ (false = true) by decide)] at H; exact H
                      clear H
                      have H := H1
                      clear H1
                      have H' := AX H
                      clear H
                      go_wp2
                      go_roundg kj66
                      case measure => have := HK1.out; have := HJ47.out; have := HJ53.out; have := HK4.out; have := HK5.out; have := HJ66.out; omega
                      case rel => exact ⟨(wrap64 (x181_5 + 1)), (by first | rfl | (simp; done) | (simp [*]; done)), H', ⟨by have := HK1.out; have := HJ47.out; have := HJ53.out; have := HK4.out; have := HK5.out; have := HJ66.out; omega⟩, ⟨kr HO_7⟩, ⟨bkn BK294⟩, ⟨bw⟩⟩
                  ·rw [if_neg c66] at H
                   have c66b0 : decide (x181_5 < (l0_6.length : Int)) = false := decide_eq_false c66
                   clear c66
                   obtain rfl := Option.some.inj H
                   go_wp2
                   go_ret
                   exact ⟨by first | rfl | (simp [errW_none, errW_some] <;> rfl) | (simp [*, errW_none, errW_some] <;> rfl), bw⟩
  ·rw [if_neg c9] at H
   have c9b0 : (t308 == 0) = false := beq_eq_false_iff_ne.mpr c9
   have c9b1 : (t308 != 0) = true := bne_iff_ne.mpr c9
   by_cases c79 : t308 = 8
   ·rw [if_pos c79] at H
    have c79b0 : (t308 == 8) = true := beq_iff_eq.mpr c79
    have c79b1 : (t308 != 8) = false := bne_eq_false_iff_eq.mpr c79
    clear c79
    by_cases c80 : t321 = 8
    ·rw [if_pos c80] at H
     have c80b0 : (t321 == 8) = true := beq_iff_eq.mpr c80
     have c80b1 : (t321 != 8) = false := bne_eq_false_iff_eq.mpr c80
     clear c80
     obtain rfl := Option.some.inj H
     go_enter Try.func7, Try.ntmps7
     go_wp2_with (first | ((with_reducible refine gate_dst (N := 2) rfl ?_); (try (refine gate_guard (by rfl) ?_; dsimp only)); refine bx 2 #[.string a0_0, .int .i64 a0_1, .int .i64 a0_2, .int .i64 a0_3, .int .i64 a0_4, .int .i64 a0_5, .slice A0_6 l0_6.length c0_6] 31 ?_; intro gb294 hg w81 hbox hb; have BK294 := AX (hbox); have GW294 := gwl (w := w) hg bw; have GE294 := GW294; replace HB := AX (below_step bw hb); clear hb hbox hg) | ((with_reducible refine gate_callee (f := 10) rfl ?_); refine gL (some 15) Try.func10 #[] ?_; (with_reducible refine (pylonlaw11_awake.calls k  true _ A3.out).mono ?_); rintro e w82 ⟨rfl, hb⟩; refine ⟨_, rfl, ?_⟩; replace BK294 := AX (bkb BK294 hb); replace HB := AX (below_step bw hb); (try clear hb); obtain ⟨hcz83_0, hcz83_1, hcz83_2, hcz83_3, hcz83_4, hcz83_5, hcz83_6⟩ := blkC7 (w := w82) BK294.out; obtain ⟨hfz83_0, hfz83_1, hfz83_2, hfz83_3, hfz83_4, hfz83_5, hfz83_6⟩ := blkF7 BK294.out) | ((with_reducible refine gate_callee (f := 16) rfl ?_); refine gL (some 19) Try.func16 #[.agg #[.string a0_0, .int .i64 a0_1, .int .i64 a0_2, .int .i64 a0_3, .int .i64 a0_4, .int .i64 a0_5, .slice A0_6 l0_6.length c0_6]] ?_; (with_reducible refine (pylonlaw11_copyFile.calls a0_0 a0_1 a0_2 a0_3 a0_4 a0_5 _ _ l0_6 t296 t297 t298 t299 t300 t301 t302 _ ?side1 ?side2 A5.out).mono ?_); (case side1 => repeat (first | exact (Kd.C_below HR0_6.out HB.out) | (with_reducible refine Kd.C_alloc ?_ _) | (with_reducible refine Kd.C_drewN ?_ _) | (with_reducible refine Kd.C_drew ?_))); (case side2 => exact HC0_6.out); rintro e w84 ⟨v303, rfl, ho0, hb⟩; refine ⟨_, rfl, ?_⟩; have HO304 := AX (Kd.R_lower ho0 (below_size bw)); replace BK294 := AX (bkb BK294 hb); replace HB := AX (below_step bw hb); (try clear hb); (try clear hb2); (try clear hk); (try clear hi); (try clear ho0); obtain ⟨Ao85, co85, eo85⟩ := Kd.R_slice HO304.out; subst eo85) | ((with_reducible refine gate_callee (f := 15) rfl ?_); refine gL (some 20) Try.func15 #[.agg #[.string t296, .int .i64 t297, .int .i64 t298, .int .i64 t299, .int .i64 t300, .int .i64 t301, .slice Ao85 t302.length co85]] ?_; (with_reducible refine (fill_Gaps.calls t296 t297 t298 t299 t300 t301 _ _ t302 t305 t308 _ ?side1 ?side2 A6.out).mono ?_); (case side1 => repeat (first | exact (Kd.R_reads' HO304.out).2.2 | (with_reducible refine Kd.C_alloc ?_ _) | (with_reducible refine Kd.C_drewN ?_ _) | (with_reducible refine Kd.C_drew ?_))); (case side2 => exact (Kd.R_reads' HO304.out).2.1); rintro e w86 ⟨v306, rfl, ho0, hb⟩; refine ⟨_, rfl, ?_⟩; have HO307 := AX (Kd.R_lower ho0 (below_size bw)); replace HO304 := AX (Kd.R_below (kr HO304) hb); replace BK294 := AX (bkb BK294 hb); replace HB := AX (below_step bw hb); (try clear hb); (try clear hb2); (try clear hk); (try clear hi); (try clear ho0); obtain ⟨hcz87_0, hcz87_1, hcz87_2, hcz87_3, hcz87_4, hcz87_5, hcz87_6⟩ := blkC7 (w := w86) BK294.out; obtain ⟨hfz87_0, hfz87_1, hfz87_2, hfz87_3, hfz87_4, hfz87_5, hfz87_6⟩ := blkF7 BK294.out) | ((with_reducible refine gate_callee (f := 16) rfl ?_); refine gL (some 25) Try.func16 #[.agg #[.string a0_0, .int .i64 a0_1, .int .i64 a0_2, .int .i64 a0_3, .int .i64 a0_4, .int .i64 a0_5, .slice A0_6 l0_6.length c0_6]] ?_; (with_reducible refine (pylonlaw11_copyFile.calls a0_0 a0_1 a0_2 a0_3 a0_4 a0_5 _ _ l0_6 t309 t310 t311 t312 t313 t314 t315 _ ?side1 ?side2 A7.out).mono ?_); (case side1 => repeat (first | exact (Kd.C_below HR0_6.out HB.out) | (with_reducible refine Kd.C_alloc ?_ _) | (with_reducible refine Kd.C_drewN ?_ _) | (with_reducible refine Kd.C_drew ?_))); (case side2 => exact HC0_6.out); rintro e w88 ⟨v316, rfl, ho0, hb⟩; refine ⟨_, rfl, ?_⟩; have HO317 := AX (Kd.R_lower (Kd.R_new' ho0 (Kd.R_lt (kr HO304))) (below_size bw)); replace HO304 := AX (Kd.R_elder' (kr HO304) (Kd.R_base ho0) hb); replace HO307 := AX (Kd.R_below (kr HO307) hb); replace BK294 := AX (bkb BK294 hb); replace HB := AX (below_step bw hb); (try clear hb); (try clear hb2); (try clear hk); (try clear hi); (try clear ho0); obtain ⟨Ao89, co89, eo89⟩ := Kd.R_slice HO317.out; subst eo89) | ((with_reducible refine gate_callee (f := 19) rfl ?_); refine gL (some 27) Try.func19 #[.agg #[.string t309, .int .i64 t310, .int .i64 t311, .int .i64 t312, .int .i64 t313, .int .i64 t314, .slice Ao89 t315.length co89], .int .i64 a1] ?_; (with_reducible refine (fill_Fill.calls t309 t310 t311 t312 t313 t314 _ _ t315 a1 t318 t321 _ ?side1 ?side2 A8.out).mono ?_); (case side1 => repeat (first | exact (Kd.R_reads' HO317.out).2.2 | (with_reducible refine Kd.C_alloc ?_ _) | (with_reducible refine Kd.C_drewN ?_ _) | (with_reducible refine Kd.C_drew ?_))); (case side2 => exact (Kd.R_reads' HO317.out).2.1); rintro e w90 ⟨v319, rfl, ho0, hb⟩; refine ⟨_, rfl, ?_⟩; have HO320 := AX (Kd.R_lower (Kd.R_new' (Kd.R_new' ho0 (Kd.R_lt (kr HO304))) (Kd.R_lt (kr HO317))) (below_size bw)); replace HO304 := AX (Kd.R_elder' (kr HO304) (Kd.R_base ho0) hb); replace HO307 := AX (Kd.R_below (kr HO307) hb); replace HO317 := AX (Kd.R_elder' (kr HO317) (Kd.R_base ho0) hb); replace BK294 := AX (bkb BK294 hb); replace HB := AX (below_step bw hb); (try clear hb); (try clear hb2); (try clear hk); (try clear hi); (try clear ho0); obtain ⟨Ao91, co91, eo91⟩ := Kd.R_slice HO320.out; subst eo91))
     go_ret
     exact ⟨by first | rfl | (simp [errW_none, errW_some] <;> rfl) | (simp [*, errW_none, errW_some] <;> rfl), bw⟩
    ·rw [if_neg c80] at H
     have c80b0 : (t321 == 8) = false := beq_eq_false_iff_ne.mpr c80
     have c80b1 : (t321 != 8) = true := bne_iff_ne.mpr c80
     obtain rfl := Option.some.inj H
     go_enter Try.func7, Try.ntmps7
     go_wp2_with (first | ((with_reducible refine gate_dst (N := 2) rfl ?_); (try (refine gate_guard (by rfl) ?_; dsimp only)); refine bx 2 #[.string a0_0, .int .i64 a0_1, .int .i64 a0_2, .int .i64 a0_3, .int .i64 a0_4, .int .i64 a0_5, .slice A0_6 l0_6.length c0_6] 31 ?_; intro gb294 hg w92 hbox hb; have BK294 := AX (hbox); have GW294 := gwl (w := w) hg bw; have GE294 := GW294; replace HB := AX (below_step bw hb); clear hb hbox hg) | ((with_reducible refine gate_callee (f := 10) rfl ?_); refine gL (some 15) Try.func10 #[] ?_; (with_reducible refine (pylonlaw11_awake.calls k  true _ A3.out).mono ?_); rintro e w93 ⟨rfl, hb⟩; refine ⟨_, rfl, ?_⟩; replace BK294 := AX (bkb BK294 hb); replace HB := AX (below_step bw hb); (try clear hb); obtain ⟨hcz94_0, hcz94_1, hcz94_2, hcz94_3, hcz94_4, hcz94_5, hcz94_6⟩ := blkC7 (w := w93) BK294.out; obtain ⟨hfz94_0, hfz94_1, hfz94_2, hfz94_3, hfz94_4, hfz94_5, hfz94_6⟩ := blkF7 BK294.out) | ((with_reducible refine gate_callee (f := 16) rfl ?_); refine gL (some 19) Try.func16 #[.agg #[.string a0_0, .int .i64 a0_1, .int .i64 a0_2, .int .i64 a0_3, .int .i64 a0_4, .int .i64 a0_5, .slice A0_6 l0_6.length c0_6]] ?_; (with_reducible refine (pylonlaw11_copyFile.calls a0_0 a0_1 a0_2 a0_3 a0_4 a0_5 _ _ l0_6 t296 t297 t298 t299 t300 t301 t302 _ ?side1 ?side2 A5.out).mono ?_); (case side1 => repeat (first | exact (Kd.C_below HR0_6.out HB.out) | (with_reducible refine Kd.C_alloc ?_ _) | (with_reducible refine Kd.C_drewN ?_ _) | (with_reducible refine Kd.C_drew ?_))); (case side2 => exact HC0_6.out); rintro e w95 ⟨v303, rfl, ho0, hb⟩; refine ⟨_, rfl, ?_⟩; have HO304 := AX (Kd.R_lower ho0 (below_size bw)); replace BK294 := AX (bkb BK294 hb); replace HB := AX (below_step bw hb); (try clear hb); (try clear hb2); (try clear hk); (try clear hi); (try clear ho0); obtain ⟨Ao96, co96, eo96⟩ := Kd.R_slice HO304.out; subst eo96) | ((with_reducible refine gate_callee (f := 15) rfl ?_); refine gL (some 20) Try.func15 #[.agg #[.string t296, .int .i64 t297, .int .i64 t298, .int .i64 t299, .int .i64 t300, .int .i64 t301, .slice Ao96 t302.length co96]] ?_; (with_reducible refine (fill_Gaps.calls t296 t297 t298 t299 t300 t301 _ _ t302 t305 t308 _ ?side1 ?side2 A6.out).mono ?_); (case side1 => repeat (first | exact (Kd.R_reads' HO304.out).2.2 | (with_reducible refine Kd.C_alloc ?_ _) | (with_reducible refine Kd.C_drewN ?_ _) | (with_reducible refine Kd.C_drew ?_))); (case side2 => exact (Kd.R_reads' HO304.out).2.1); rintro e w97 ⟨v306, rfl, ho0, hb⟩; refine ⟨_, rfl, ?_⟩; have HO307 := AX (Kd.R_lower ho0 (below_size bw)); replace HO304 := AX (Kd.R_below (kr HO304) hb); replace BK294 := AX (bkb BK294 hb); replace HB := AX (below_step bw hb); (try clear hb); (try clear hb2); (try clear hk); (try clear hi); (try clear ho0); obtain ⟨hcz98_0, hcz98_1, hcz98_2, hcz98_3, hcz98_4, hcz98_5, hcz98_6⟩ := blkC7 (w := w97) BK294.out; obtain ⟨hfz98_0, hfz98_1, hfz98_2, hfz98_3, hfz98_4, hfz98_5, hfz98_6⟩ := blkF7 BK294.out) | ((with_reducible refine gate_callee (f := 16) rfl ?_); refine gL (some 25) Try.func16 #[.agg #[.string a0_0, .int .i64 a0_1, .int .i64 a0_2, .int .i64 a0_3, .int .i64 a0_4, .int .i64 a0_5, .slice A0_6 l0_6.length c0_6]] ?_; (with_reducible refine (pylonlaw11_copyFile.calls a0_0 a0_1 a0_2 a0_3 a0_4 a0_5 _ _ l0_6 t309 t310 t311 t312 t313 t314 t315 _ ?side1 ?side2 A7.out).mono ?_); (case side1 => repeat (first | exact (Kd.C_below HR0_6.out HB.out) | (with_reducible refine Kd.C_alloc ?_ _) | (with_reducible refine Kd.C_drewN ?_ _) | (with_reducible refine Kd.C_drew ?_))); (case side2 => exact HC0_6.out); rintro e w99 ⟨v316, rfl, ho0, hb⟩; refine ⟨_, rfl, ?_⟩; have HO317 := AX (Kd.R_lower (Kd.R_new' ho0 (Kd.R_lt (kr HO304))) (below_size bw)); replace HO304 := AX (Kd.R_elder' (kr HO304) (Kd.R_base ho0) hb); replace HO307 := AX (Kd.R_below (kr HO307) hb); replace BK294 := AX (bkb BK294 hb); replace HB := AX (below_step bw hb); (try clear hb); (try clear hb2); (try clear hk); (try clear hi); (try clear ho0); obtain ⟨Ao100, co100, eo100⟩ := Kd.R_slice HO317.out; subst eo100) | ((with_reducible refine gate_callee (f := 19) rfl ?_); refine gL (some 27) Try.func19 #[.agg #[.string t309, .int .i64 t310, .int .i64 t311, .int .i64 t312, .int .i64 t313, .int .i64 t314, .slice Ao100 t315.length co100], .int .i64 a1] ?_; (with_reducible refine (fill_Fill.calls t309 t310 t311 t312 t313 t314 _ _ t315 a1 t318 t321 _ ?side1 ?side2 A8.out).mono ?_); (case side1 => repeat (first | exact (Kd.R_reads' HO317.out).2.2 | (with_reducible refine Kd.C_alloc ?_ _) | (with_reducible refine Kd.C_drewN ?_ _) | (with_reducible refine Kd.C_drew ?_))); (case side2 => exact (Kd.R_reads' HO317.out).2.1); rintro e w101 ⟨v319, rfl, ho0, hb⟩; refine ⟨_, rfl, ?_⟩; have HO320 := AX (Kd.R_lower (Kd.R_new' (Kd.R_new' ho0 (Kd.R_lt (kr HO304))) (Kd.R_lt (kr HO317))) (below_size bw)); replace HO304 := AX (Kd.R_elder' (kr HO304) (Kd.R_base ho0) hb); replace HO307 := AX (Kd.R_below (kr HO307) hb); replace HO317 := AX (Kd.R_elder' (kr HO317) (Kd.R_base ho0) hb); replace BK294 := AX (bkb BK294 hb); replace HB := AX (below_step bw hb); (try clear hb); (try clear hb2); (try clear hk); (try clear hi); (try clear ho0)))
     go_ret
     exact ⟨by first | rfl | (simp [errW_none, errW_some] <;> rfl) | (simp [*, errW_none, errW_some] <;> rfl), bw⟩
   ·rw [if_neg c79] at H
    have c79b0 : (t308 == 8) = false := beq_eq_false_iff_ne.mpr c79
    have c79b1 : (t308 != 8) = true := bne_iff_ne.mpr c79
    obtain rfl := Option.some.inj H
    go_enter Try.func7, Try.ntmps7
    go_wp2_with (first | ((with_reducible refine gate_dst (N := 2) rfl ?_); (try (refine gate_guard (by rfl) ?_; dsimp only)); refine bx 2 #[.string a0_0, .int .i64 a0_1, .int .i64 a0_2, .int .i64 a0_3, .int .i64 a0_4, .int .i64 a0_5, .slice A0_6 l0_6.length c0_6] 31 ?_; intro gb294 hg w102 hbox hb; have BK294 := AX (hbox); have GW294 := gwl (w := w) hg bw; have GE294 := GW294; replace HB := AX (below_step bw hb); clear hb hbox hg) | ((with_reducible refine gate_callee (f := 10) rfl ?_); refine gL (some 15) Try.func10 #[] ?_; (with_reducible refine (pylonlaw11_awake.calls k  true _ A3.out).mono ?_); rintro e w103 ⟨rfl, hb⟩; refine ⟨_, rfl, ?_⟩; replace BK294 := AX (bkb BK294 hb); replace HB := AX (below_step bw hb); (try clear hb); obtain ⟨hcz104_0, hcz104_1, hcz104_2, hcz104_3, hcz104_4, hcz104_5, hcz104_6⟩ := blkC7 (w := w103) BK294.out; obtain ⟨hfz104_0, hfz104_1, hfz104_2, hfz104_3, hfz104_4, hfz104_5, hfz104_6⟩ := blkF7 BK294.out) | ((with_reducible refine gate_callee (f := 16) rfl ?_); refine gL (some 19) Try.func16 #[.agg #[.string a0_0, .int .i64 a0_1, .int .i64 a0_2, .int .i64 a0_3, .int .i64 a0_4, .int .i64 a0_5, .slice A0_6 l0_6.length c0_6]] ?_; (with_reducible refine (pylonlaw11_copyFile.calls a0_0 a0_1 a0_2 a0_3 a0_4 a0_5 _ _ l0_6 t296 t297 t298 t299 t300 t301 t302 _ ?side1 ?side2 A5.out).mono ?_); (case side1 => repeat (first | exact (Kd.C_below HR0_6.out HB.out) | (with_reducible refine Kd.C_alloc ?_ _) | (with_reducible refine Kd.C_drewN ?_ _) | (with_reducible refine Kd.C_drew ?_))); (case side2 => exact HC0_6.out); rintro e w105 ⟨v303, rfl, ho0, hb⟩; refine ⟨_, rfl, ?_⟩; have HO304 := AX (Kd.R_lower ho0 (below_size bw)); replace BK294 := AX (bkb BK294 hb); replace HB := AX (below_step bw hb); (try clear hb); (try clear hb2); (try clear hk); (try clear hi); (try clear ho0); obtain ⟨Ao106, co106, eo106⟩ := Kd.R_slice HO304.out; subst eo106) | ((with_reducible refine gate_callee (f := 15) rfl ?_); refine gL (some 20) Try.func15 #[.agg #[.string t296, .int .i64 t297, .int .i64 t298, .int .i64 t299, .int .i64 t300, .int .i64 t301, .slice Ao106 t302.length co106]] ?_; (with_reducible refine (fill_Gaps.calls t296 t297 t298 t299 t300 t301 _ _ t302 t305 t308 _ ?side1 ?side2 A6.out).mono ?_); (case side1 => repeat (first | exact (Kd.R_reads' HO304.out).2.2 | (with_reducible refine Kd.C_alloc ?_ _) | (with_reducible refine Kd.C_drewN ?_ _) | (with_reducible refine Kd.C_drew ?_))); (case side2 => exact (Kd.R_reads' HO304.out).2.1); rintro e w107 ⟨v306, rfl, ho0, hb⟩; refine ⟨_, rfl, ?_⟩; have HO307 := AX (Kd.R_lower ho0 (below_size bw)); replace HO304 := AX (Kd.R_below (kr HO304) hb); replace BK294 := AX (bkb BK294 hb); replace HB := AX (below_step bw hb); (try clear hb); (try clear hb2); (try clear hk); (try clear hi); (try clear ho0); obtain ⟨hcz108_0, hcz108_1, hcz108_2, hcz108_3, hcz108_4, hcz108_5, hcz108_6⟩ := blkC7 (w := w107) BK294.out; obtain ⟨hfz108_0, hfz108_1, hfz108_2, hfz108_3, hfz108_4, hfz108_5, hfz108_6⟩ := blkF7 BK294.out) | ((with_reducible refine gate_callee (f := 16) rfl ?_); refine gL (some 25) Try.func16 #[.agg #[.string a0_0, .int .i64 a0_1, .int .i64 a0_2, .int .i64 a0_3, .int .i64 a0_4, .int .i64 a0_5, .slice A0_6 l0_6.length c0_6]] ?_; (with_reducible refine (pylonlaw11_copyFile.calls a0_0 a0_1 a0_2 a0_3 a0_4 a0_5 _ _ l0_6 t309 t310 t311 t312 t313 t314 t315 _ ?side1 ?side2 A7.out).mono ?_); (case side1 => repeat (first | exact (Kd.C_below HR0_6.out HB.out) | (with_reducible refine Kd.C_alloc ?_ _) | (with_reducible refine Kd.C_drewN ?_ _) | (with_reducible refine Kd.C_drew ?_))); (case side2 => exact HC0_6.out); rintro e w109 ⟨v316, rfl, ho0, hb⟩; refine ⟨_, rfl, ?_⟩; have HO317 := AX (Kd.R_lower (Kd.R_new' ho0 (Kd.R_lt (kr HO304))) (below_size bw)); replace HO304 := AX (Kd.R_elder' (kr HO304) (Kd.R_base ho0) hb); replace HO307 := AX (Kd.R_below (kr HO307) hb); replace BK294 := AX (bkb BK294 hb); replace HB := AX (below_step bw hb); (try clear hb); (try clear hb2); (try clear hk); (try clear hi); (try clear ho0); obtain ⟨Ao110, co110, eo110⟩ := Kd.R_slice HO317.out; subst eo110) | ((with_reducible refine gate_callee (f := 19) rfl ?_); refine gL (some 27) Try.func19 #[.agg #[.string t309, .int .i64 t310, .int .i64 t311, .int .i64 t312, .int .i64 t313, .int .i64 t314, .slice Ao110 t315.length co110], .int .i64 a1] ?_; (with_reducible refine (fill_Fill.calls t309 t310 t311 t312 t313 t314 _ _ t315 a1 t318 t321 _ ?side1 ?side2 A8.out).mono ?_); (case side1 => repeat (first | exact (Kd.R_reads' HO317.out).2.2 | (with_reducible refine Kd.C_alloc ?_ _) | (with_reducible refine Kd.C_drewN ?_ _) | (with_reducible refine Kd.C_drew ?_))); (case side2 => exact (Kd.R_reads' HO317.out).2.1); rintro e w111 ⟨v319, rfl, ho0, hb⟩; refine ⟨_, rfl, ?_⟩; have HO320 := AX (Kd.R_lower (Kd.R_new' (Kd.R_new' ho0 (Kd.R_lt (kr HO304))) (Kd.R_lt (kr HO317))) (below_size bw)); replace HO304 := AX (Kd.R_elder' (kr HO304) (Kd.R_base ho0) hb); replace HO307 := AX (Kd.R_below (kr HO307) hb); replace HO317 := AX (Kd.R_elder' (kr HO317) (Kd.R_base ho0) hb); replace BK294 := AX (bkb BK294 hb); replace HB := AX (below_step bw hb); (try clear hb); (try clear hb2); (try clear hk); (try clear hi); (try clear ho0)))
    go_ret
    exact ⟨by first | rfl | (simp [errW_none, errW_some] <;> rfl) | (simp [*, errW_none, errW_some] <;> rfl), bw⟩
 ·replace c4 := Bool.eq_false_iff.mpr c4
  subst c4
  have H1 : (some false) = some r := by rw [if_neg (show ¬ (false = true) by decide)] at H; exact H
  clear H
  have H := H1
  clear H1
  obtain rfl := Option.some.inj H
  go_enter Try.func7, Try.ntmps7
  go_wp2_with (first | ((with_reducible refine gate_dst (N := 2) rfl ?_); (try (refine gate_guard (by rfl) ?_; dsimp only)); refine bx 2 #[.string a0_0, .int .i64 a0_1, .int .i64 a0_2, .int .i64 a0_3, .int .i64 a0_4, .int .i64 a0_5, .slice A0_6 l0_6.length c0_6] 31 ?_; intro gb294 hg w112 hbox hb; have BK294 := AX (hbox); have GW294 := gwl (w := w) hg bw; have GE294 := GW294; replace HB := AX (below_step bw hb); clear hb hbox hg) | ((with_reducible refine gate_callee (f := 10) rfl ?_); refine gL (some 15) Try.func10 #[] ?_; (with_reducible refine (pylonlaw11_awake.calls k  false _ A3.out).mono ?_); rintro e w113 ⟨rfl, hb⟩; refine ⟨_, rfl, ?_⟩; replace BK294 := AX (bkb BK294 hb); replace HB := AX (below_step bw hb); (try clear hb)))
  go_ret
  exact ⟨by first | rfl | (simp [errW_none, errW_some] <;> rfl) | (simp [*, errW_none, errW_some] <;> rfl), bw⟩

end Go.Proofs.Ythhifeefkmaeiaa.PX
