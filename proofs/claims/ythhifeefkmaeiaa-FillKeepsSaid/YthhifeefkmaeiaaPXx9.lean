/- Functions of the program as plain Lean functions, each with a proof that the call in the machine answers just what the plain function says; condition: the plain function answers at all. -/
import Derived.Test.YthhifeefkmaeiaaPXx0
import Derived.Test.YthhifeefkmaeiaaPXx4
import Derived.Test.YthhifeefkmaeiaaPXx7
namespace Go.Proofs.Ythhifeefkmaeiaa.PX
open Go.RowKit Go.Proofs.YthhifeefkmaeiaaW.PrintWords Go.Proofs.YthhifeefkmaeiaaW.PrintLast Go.Proofs.YthhifeefkmaeiaaW.PrintMore
attribute [local go_sem] max2_int min2_int max_two min_two max_three min_three max_four min_four   -- for this text's walks alone
set_option linter.unusedVariables false
set_option linter.unusedSimpArgs false

/-! ### pylonref11_Fill: function 18 -/
theorem fresh_ne_pylonref11_Fill {α : Type} {d : Kd α} {e base g : Nat} {W : World} {ok : Nat → Prop} {v : Value} {xs : List α} (hg : g = W.heap.size) (h : Kd.R d e W base ok v xs) : some g ≠ v.ownBlock := by
  obtain ⟨inner, ho⟩ := Kd.R_own h
  intro he
  have := (ho.lt g he.symm).2
  omega
mutual
def pylonref11_Fill.j0 : Nat → Int → List (S43) → Bool → ByteArray → Int → Int → Int → Int → Int → List (S45) → Option ((List (S45)) × Int)
 | 0, _, _, _, _, _, _, _, _, _, _ => none
 | k + 1, x1, x6, x46, x233000, x233001, x233002, x233003, x233004, x233005, x233006 => if x46 = true then (some (([] : List (S45)), 3)) else ((pylonref11_present.f k x233000 x233001 x233002 x233003 x233004 x233005 x233006).bind fun t239 => (if 0 ≤ x233003 then (if (x233003 : Int).toNat ≤ 7036874417766 then (pylonref11_Fill.l0 k x1 x6 t239 (List.replicate (x233003 : Int).toNat z45) (t239.length : Int) 0 x233000 x233001 x233002 x233003 x233004 x233005 x233006) else (none)) else (none)))
def pylonref11_Fill.l0 : Nat → Int → List (S43) → List Int → List (S45) → Int → Int → ByteArray → Int → Int → Int → Int → Int → List (S45) → Option ((List (S45)) × Int)
 | 0, _, _, _, _, _, _, _, _, _, _, _, _, _ => none
 | k + 1, x1, x6, x8, x9, x53, x54, x233000, x233001, x233002, x233003, x233004, x233005, x233006 => if x54 < x53 then (if 0 ≤ x54 then (if x54 < (x8.length : Int) then (if (rd x8 x54) ≥ 0 then (if 0 ≤ (rd x8 x54) then (if (rd x8 x54) < (x233006.length : Int) then (if x54 < (x9.length : Int) then (pylonref11_Fill.l0 k x1 x6 x8 (x9.set (x54 : Int).toNat (⟨(rd_T45 x233006 (rd x8 x54)).f0, (rd_T45 x233006 (rd x8 x54)).f1, (rd_T45 x233006 (rd x8 x54)).f2, (rd_T45 x233006 (rd x8 x54)).f3, (rd_T45 x233006 (rd x8 x54)).f4⟩ : S45)) x53 (wrap64 (x54 + 1)) x233000 x233001 x233002 x233003 x233004 x233005 x233006) else (none)) else (none)) else (none)) else (pylonref11_Fill.l0 k x1 x6 x8 x9 x53 (wrap64 (x54 + 1)) x233000 x233001 x233002 x233003 x233004 x233005 x233006)) else (none)) else (none)) else (pylonref11_Fill.l1 k x1 x6 x8 x9 (x6.length : Int) 0 x233000 x233001 x233002 x233003 x233004 x233005 x233006)
def pylonref11_Fill.l1 : Nat → Int → List (S43) → List Int → List (S45) → Int → Int → ByteArray → Int → Int → Int → Int → Int → List (S45) → Option ((List (S45)) × Int)
 | 0, _, _, _, _, _, _, _, _, _, _, _, _, _ => none
 | k + 1, x1, x6, x8, x9, x75, x76, x233000, x233001, x233002, x233003, x233004, x233005, x233006 => if x76 < x75 then (if 0 ≤ x76 then (if x76 < (x6.length : Int) then (if (wrap64 (((rd_T43 x6 x76).f1) - ((rd_T43 x6 x76).f0))) > x1 then (some (([] : List (S45)), 4)) else (if ((rd_T43 x6 x76).f0) > 0 then (if 0 ≤ (wrap64 (((rd_T43 x6 x76).f0) - 1)) then (if (wrap64 (((rd_T43 x6 x76).f0) - 1)) < (x9.length : Int) then (pylonref11_Fill.j3 k x1 x6 x8 x9 x75 x76 x233000 x233001 x233002 x233003 x233004 x233005 x233006 ((rd_T43 x6 x76).f0) ((rd_T43 x6 x76).f1) ((rd_T45 x9 (wrap64 (((rd_T43 x6 x76).f0) - 1))).f0) ((rd_T45 x9 (wrap64 (((rd_T43 x6 x76).f0) - 1))).f1) ((rd_T45 x9 (wrap64 (((rd_T43 x6 x76).f0) - 1))).f2) ((rd_T45 x9 (wrap64 (((rd_T43 x6 x76).f0) - 1))).f3) ((rd_T45 x9 (wrap64 (((rd_T43 x6 x76).f0) - 1))).f4) 0 0 0 0 0) else (none)) else (none)) else (pylonref11_Fill.j3 k x1 x6 x8 x9 x75 x76 x233000 x233001 x233002 x233003 x233004 x233005 x233006 ((rd_T43 x6 x76).f0) ((rd_T43 x6 x76).f1) 0 0 0 0 0 0 0 0 0 0))) else (none)) else (none)) else (some (x9, 0))
def pylonref11_Fill.j3 : Nat → Int → List (S43) → List Int → List (S45) → Int → Int → ByteArray → Int → Int → Int → Int → Int → List (S45) → Int → Int → Int → Int → Int → Int → Int → Int → Int → Int → Int → Int → Option ((List (S45)) × Int)
 | 0, _, _, _, _, _, _, _, _, _, _, _, _, _, _, _, _, _, _, _, _, _, _, _, _, _ => none
 | k + 1, x1, x6, x8, x9, x75, x76, x233000, x233001, x233002, x233003, x233004, x233005, x233006, x251000, x251001, x252000, x252001, x252002, x252003, x252004, x253000, x253001, x253002, x253003, x253004 => if x251001 < x233003 then (if 0 ≤ x251001 then (if x251001 < (x8.length : Int) then (if 0 ≤ (rd x8 x251001) then (if (rd x8 x251001) < (x233006.length : Int) then (pylonref11_Fill.j4 k x1 x6 x8 x9 x75 x76 x233000 x233001 x233002 x233003 x233004 x233005 x233006 x251000 x251001 x252000 x252001 x252002 x252003 x252004 ((rd_T45 x233006 (rd x8 x251001)).f0) ((rd_T45 x233006 (rd x8 x251001)).f1) ((rd_T45 x233006 (rd x8 x251001)).f2) ((rd_T45 x233006 (rd x8 x251001)).f3) ((rd_T45 x233006 (rd x8 x251001)).f4)) else (none)) else (none)) else (none)) else (none)) else (pylonref11_Fill.j4 k x1 x6 x8 x9 x75 x76 x233000 x233001 x233002 x233003 x233004 x233005 x233006 x251000 x251001 x252000 x252001 x252002 x252003 x252004 x253000 x253001 x253002 x253003 x253004)
def pylonref11_Fill.j4 : Nat → Int → List (S43) → List Int → List (S45) → Int → Int → ByteArray → Int → Int → Int → Int → Int → List (S45) → Int → Int → Int → Int → Int → Int → Int → Int → Int → Int → Int → Int → Option ((List (S45)) × Int)
 | 0, _, _, _, _, _, _, _, _, _, _, _, _, _, _, _, _, _, _, _, _, _, _, _, _, _ => none
 | k + 1, x1, x6, x8, x9, x75, x76, x233000, x233001, x233002, x233003, x233004, x233005, x233006, x251000, x251001, x252000, x252001, x252002, x252003, x252004, x253000, x253001, x253002, x253003, x253004 => if x251000 = 0 then (pylonref11_Fill.j5 k x1 x6 x8 x9 x75 x76 x233000 x233001 x233002 x233003 x233004 x233005 x233006 x251000 x251001 x253000 x253001 x253002 x253003 x253004 x253000 x253001 x253002 x253003 x253004) else (pylonref11_Fill.j5 k x1 x6 x8 x9 x75 x76 x233000 x233001 x233002 x233003 x233004 x233005 x233006 x251000 x251001 x252000 x252001 x252002 x252003 x252004 x253000 x253001 x253002 x253003 x253004)
def pylonref11_Fill.j5 : Nat → Int → List (S43) → List Int → List (S45) → Int → Int → ByteArray → Int → Int → Int → Int → Int → List (S45) → Int → Int → Int → Int → Int → Int → Int → Int → Int → Int → Int → Int → Option ((List (S45)) × Int)
 | 0, _, _, _, _, _, _, _, _, _, _, _, _, _, _, _, _, _, _, _, _, _, _, _, _, _ => none
 | k + 1, x1, x6, x8, x9, x75, x76, x233000, x233001, x233002, x233003, x233004, x233005, x233006, x251000, x251001, x252000, x252001, x252002, x252003, x252004, x253000, x253001, x253002, x253003, x253004 => if x251001 = x233003 then (pylonref11_Fill.j6 k x1 x6 x8 x9 x75 x76 x233000 x233001 x233002 x233003 x233004 x233005 x233006 x251000 x251001 x252000 x252001 x252002 x252003 x252004 x252000 x252001 x252002 x252003 x252004) else (pylonref11_Fill.j6 k x1 x6 x8 x9 x75 x76 x233000 x233001 x233002 x233003 x233004 x233005 x233006 x251000 x251001 x252000 x252001 x252002 x252003 x252004 x253000 x253001 x253002 x253003 x253004)
def pylonref11_Fill.j6 : Nat → Int → List (S43) → List Int → List (S45) → Int → Int → ByteArray → Int → Int → Int → Int → Int → List (S45) → Int → Int → Int → Int → Int → Int → Int → Int → Int → Int → Int → Int → Option ((List (S45)) × Int)
 | 0, _, _, _, _, _, _, _, _, _, _, _, _, _, _, _, _, _, _, _, _, _, _, _, _, _ => none
 | k + 1, x1, x6, x8, x9, x75, x76, x233000, x233001, x233002, x233003, x233004, x233005, x233006, x251000, x251001, x252000, x252001, x252002, x252003, x252004, x253000, x253001, x253002, x253003, x253004 => (pylonref11_Line.f k x252001 x253001 (wrap64 (x251001 - x251000))).bind fun bt256 => ((pylonref11_Line.f k x252002 x253002 (wrap64 (x251001 - x251000))).bind fun bt260 => ((pylonref11_Line.f k x252003 x253003 (wrap64 (x251001 - x251000))).bind fun bt264 => (pylonref11_Fill.l2 k x1 x6 x8 x9 bt256.1 bt260.1 bt264.1 x75 x76 (bt256.1.length : Int) 0 x233000 x233001 x233002 x233003 x233004 x233005 x233006 x251000 x251001)))
def pylonref11_Fill.l2 : Nat → Int → List (S43) → List Int → List (S45) → List Int → List Int → List Int → Int → Int → Int → Int → ByteArray → Int → Int → Int → Int → Int → List (S45) → Int → Int → Option ((List (S45)) × Int)
 | 0, _, _, _, _, _, _, _, _, _, _, _, _, _, _, _, _, _, _, _, _ => none
 | k + 1, x1, x6, x8, x9, x15, x17, x19, x75, x76, x165, x166, x233000, x233001, x233002, x233003, x233004, x233005, x233006, x251000, x251001 => if x166 < x165 then (if 0 ≤ x166 then (if x166 < (x15.length : Int) then (if x166 < (x17.length : Int) then (if x166 < (x19.length : Int) then (if 0 ≤ (wrap64 (x251000 + x166)) then (if (wrap64 (x251000 + x166)) < (x9.length : Int) then (pylonref11_Fill.l2 k x1 x6 x8 (x9.set ((wrap64 (x251000 + x166)) : Int).toNat (⟨wrap64 (x251000 + x166), rd x15 x166, rd x17 x166, rd x19 x166, 70⟩ : S45)) x15 x17 x19 x75 x76 x165 (wrap64 (x166 + 1)) x233000 x233001 x233002 x233003 x233004 x233005 x233006 x251000 x251001) else (none)) else (none)) else (none)) else (none)) else (none)) else (none)) else (pylonref11_Fill.l1 k x1 x6 x8 x9 x75 (wrap64 (x76 + 1)) x233000 x233001 x233002 x233003 x233004 x233005 x233006)
end
def pylonref11_Fill.f (k : Nat) (a0_0 : ByteArray) (a0_1 : Int) (a0_2 : Int) (a0_3 : Int) (a0_4 : Int) (a0_5 : Int) (l0_6 : List (S45)) (a1 : Int) : Option ((List (S45)) × Int) := (pylonref11_Gaps.f k a0_0 a0_1 a0_2 a0_3 a0_4 a0_5 l0_6).bind fun bt233 => (if bt233.2 = 0 then (if (bt233.1.length : Int) = 1 then (if 0 < (bt233.1.length : Int) then (pylonref11_Fill.j0 k a1 bt233.1 ((wrap64 (((rd_T43 bt233.1 0).f1) - ((rd_T43 bt233.1 0).f0))) == a0_3) a0_0 a0_1 a0_2 a0_3 a0_4 a0_5 l0_6) else (none)) else (pylonref11_Fill.j0 k a1 bt233.1 false a0_0 a0_1 a0_2 a0_3 a0_4 a0_5 l0_6)) else (some (([] : List (S45)), bt233.2)))
theorem pylonref11_Fill.mono_l : ∀ k, (∀ y0 y1 y2 y3 y4 y5 y6 y7 y8 y9, LeO (pylonref11_Fill.j0 k y0 y1 y2 y3 y4 y5 y6 y7 y8 y9) (pylonref11_Fill.j0 (k + 1) y0 y1 y2 y3 y4 y5 y6 y7 y8 y9)) ∧ (∀ y0 y1 y2 y3 y4 y5 y6 y7 y8 y9 y10 y11 y12, LeO (pylonref11_Fill.l0 k y0 y1 y2 y3 y4 y5 y6 y7 y8 y9 y10 y11 y12) (pylonref11_Fill.l0 (k + 1) y0 y1 y2 y3 y4 y5 y6 y7 y8 y9 y10 y11 y12)) ∧ (∀ y0 y1 y2 y3 y4 y5 y6 y7 y8 y9 y10 y11 y12, LeO (pylonref11_Fill.l1 k y0 y1 y2 y3 y4 y5 y6 y7 y8 y9 y10 y11 y12) (pylonref11_Fill.l1 (k + 1) y0 y1 y2 y3 y4 y5 y6 y7 y8 y9 y10 y11 y12)) ∧ (∀ y0 y1 y2 y3 y4 y5 y6 y7 y8 y9 y10 y11 y12 y13 y14 y15 y16 y17 y18 y19 y20 y21 y22 y23 y24, LeO (pylonref11_Fill.j3 k y0 y1 y2 y3 y4 y5 y6 y7 y8 y9 y10 y11 y12 y13 y14 y15 y16 y17 y18 y19 y20 y21 y22 y23 y24) (pylonref11_Fill.j3 (k + 1) y0 y1 y2 y3 y4 y5 y6 y7 y8 y9 y10 y11 y12 y13 y14 y15 y16 y17 y18 y19 y20 y21 y22 y23 y24)) ∧ (∀ y0 y1 y2 y3 y4 y5 y6 y7 y8 y9 y10 y11 y12 y13 y14 y15 y16 y17 y18 y19 y20 y21 y22 y23 y24, LeO (pylonref11_Fill.j4 k y0 y1 y2 y3 y4 y5 y6 y7 y8 y9 y10 y11 y12 y13 y14 y15 y16 y17 y18 y19 y20 y21 y22 y23 y24) (pylonref11_Fill.j4 (k + 1) y0 y1 y2 y3 y4 y5 y6 y7 y8 y9 y10 y11 y12 y13 y14 y15 y16 y17 y18 y19 y20 y21 y22 y23 y24)) ∧ (∀ y0 y1 y2 y3 y4 y5 y6 y7 y8 y9 y10 y11 y12 y13 y14 y15 y16 y17 y18 y19 y20 y21 y22 y23 y24, LeO (pylonref11_Fill.j5 k y0 y1 y2 y3 y4 y5 y6 y7 y8 y9 y10 y11 y12 y13 y14 y15 y16 y17 y18 y19 y20 y21 y22 y23 y24) (pylonref11_Fill.j5 (k + 1) y0 y1 y2 y3 y4 y5 y6 y7 y8 y9 y10 y11 y12 y13 y14 y15 y16 y17 y18 y19 y20 y21 y22 y23 y24)) ∧ (∀ y0 y1 y2 y3 y4 y5 y6 y7 y8 y9 y10 y11 y12 y13 y14 y15 y16 y17 y18 y19 y20 y21 y22 y23 y24, LeO (pylonref11_Fill.j6 k y0 y1 y2 y3 y4 y5 y6 y7 y8 y9 y10 y11 y12 y13 y14 y15 y16 y17 y18 y19 y20 y21 y22 y23 y24) (pylonref11_Fill.j6 (k + 1) y0 y1 y2 y3 y4 y5 y6 y7 y8 y9 y10 y11 y12 y13 y14 y15 y16 y17 y18 y19 y20 y21 y22 y23 y24)) ∧ (∀ y0 y1 y2 y3 y4 y5 y6 y7 y8 y9 y10 y11 y12 y13 y14 y15 y16 y17 y18 y19, LeO (pylonref11_Fill.l2 k y0 y1 y2 y3 y4 y5 y6 y7 y8 y9 y10 y11 y12 y13 y14 y15 y16 y17 y18 y19) (pylonref11_Fill.l2 (k + 1) y0 y1 y2 y3 y4 y5 y6 y7 y8 y9 y10 y11 y12 y13 y14 y15 y16 y17 y18 y19))
 | 0 => ⟨fun _ _ _ _ _ _ _ _ _ _ r h => by simp [pylonref11_Fill.j0] at h, fun _ _ _ _ _ _ _ _ _ _ _ _ _ r h => by simp [pylonref11_Fill.l0] at h, fun _ _ _ _ _ _ _ _ _ _ _ _ _ r h => by simp [pylonref11_Fill.l1] at h, fun _ _ _ _ _ _ _ _ _ _ _ _ _ _ _ _ _ _ _ _ _ _ _ _ _ r h => by simp [pylonref11_Fill.j3] at h, fun _ _ _ _ _ _ _ _ _ _ _ _ _ _ _ _ _ _ _ _ _ _ _ _ _ r h => by simp [pylonref11_Fill.j4] at h, fun _ _ _ _ _ _ _ _ _ _ _ _ _ _ _ _ _ _ _ _ _ _ _ _ _ r h => by simp [pylonref11_Fill.j5] at h, fun _ _ _ _ _ _ _ _ _ _ _ _ _ _ _ _ _ _ _ _ _ _ _ _ _ r h => by simp [pylonref11_Fill.j6] at h, fun _ _ _ _ _ _ _ _ _ _ _ _ _ _ _ _ _ _ _ _ r h => by simp [pylonref11_Fill.l2] at h⟩
 | k + 1 => by
  obtain ⟨ih0, ih1, ih2, ih3, ih4, ih5, ih6, ih7⟩ := pylonref11_Fill.mono_l k
  refine ⟨?_, ?_, ?_, ?_, ?_, ?_, ?_, ?_⟩
  ·intro y0 y1 y2 y3 y4 y5 y6 y7 y8 y9
   unfold pylonref11_Fill.j0
   repeat' first
   | (with_reducible exact ih0 _ _ _ _ _ _ _ _ _ _)
   | (with_reducible exact ih1 _ _ _ _ _ _ _ _ _ _ _ _ _)
   | (with_reducible exact ih2 _ _ _ _ _ _ _ _ _ _ _ _ _)
   | (with_reducible exact ih3 _ _ _ _ _ _ _ _ _ _ _ _ _ _ _ _ _ _ _ _ _ _ _ _ _)
   | (with_reducible exact ih4 _ _ _ _ _ _ _ _ _ _ _ _ _ _ _ _ _ _ _ _ _ _ _ _ _)
   | (with_reducible exact ih5 _ _ _ _ _ _ _ _ _ _ _ _ _ _ _ _ _ _ _ _ _ _ _ _ _)
   | (with_reducible exact ih6 _ _ _ _ _ _ _ _ _ _ _ _ _ _ _ _ _ _ _ _ _ _ _ _ _)
   | (with_reducible exact ih7 _ _ _ _ _ _ _ _ _ _ _ _ _ _ _ _ _ _ _ _)
   | (with_reducible exact pylonref11_Gaps.mono _ _ _ _ _ _ _ _)
   | (with_reducible exact pylonref11_Line.mono _ _ _ _)
   | (with_reducible exact pylonref11_present.mono _ _ _ _ _ _ _ _)
   | (with_reducible exact LeO.refl _)
   | (with_reducible exact LeO.none _)
   | (with_reducible refine LeO.ite ?_ ?_)
   | (with_reducible refine LeO.bind ?_ (fun _ => ?_))
  ·intro y0 y1 y2 y3 y4 y5 y6 y7 y8 y9 y10 y11 y12
   unfold pylonref11_Fill.l0
   repeat' first
   | (with_reducible exact ih0 _ _ _ _ _ _ _ _ _ _)
   | (with_reducible exact ih1 _ _ _ _ _ _ _ _ _ _ _ _ _)
   | (with_reducible exact ih2 _ _ _ _ _ _ _ _ _ _ _ _ _)
   | (with_reducible exact ih3 _ _ _ _ _ _ _ _ _ _ _ _ _ _ _ _ _ _ _ _ _ _ _ _ _)
   | (with_reducible exact ih4 _ _ _ _ _ _ _ _ _ _ _ _ _ _ _ _ _ _ _ _ _ _ _ _ _)
   | (with_reducible exact ih5 _ _ _ _ _ _ _ _ _ _ _ _ _ _ _ _ _ _ _ _ _ _ _ _ _)
   | (with_reducible exact ih6 _ _ _ _ _ _ _ _ _ _ _ _ _ _ _ _ _ _ _ _ _ _ _ _ _)
   | (with_reducible exact ih7 _ _ _ _ _ _ _ _ _ _ _ _ _ _ _ _ _ _ _ _)
   | (with_reducible exact pylonref11_Gaps.mono _ _ _ _ _ _ _ _)
   | (with_reducible exact pylonref11_Line.mono _ _ _ _)
   | (with_reducible exact pylonref11_present.mono _ _ _ _ _ _ _ _)
   | (with_reducible exact LeO.refl _)
   | (with_reducible exact LeO.none _)
   | (with_reducible refine LeO.ite ?_ ?_)
   | (with_reducible refine LeO.bind ?_ (fun _ => ?_))
  ·intro y0 y1 y2 y3 y4 y5 y6 y7 y8 y9 y10 y11 y12
   unfold pylonref11_Fill.l1
   repeat' first
   | (with_reducible exact ih0 _ _ _ _ _ _ _ _ _ _)
   | (with_reducible exact ih1 _ _ _ _ _ _ _ _ _ _ _ _ _)
   | (with_reducible exact ih2 _ _ _ _ _ _ _ _ _ _ _ _ _)
   | (with_reducible exact ih3 _ _ _ _ _ _ _ _ _ _ _ _ _ _ _ _ _ _ _ _ _ _ _ _ _)
   | (with_reducible exact ih4 _ _ _ _ _ _ _ _ _ _ _ _ _ _ _ _ _ _ _ _ _ _ _ _ _)
   | (with_reducible exact ih5 _ _ _ _ _ _ _ _ _ _ _ _ _ _ _ _ _ _ _ _ _ _ _ _ _)
   | (with_reducible exact ih6 _ _ _ _ _ _ _ _ _ _ _ _ _ _ _ _ _ _ _ _ _ _ _ _ _)
   | (with_reducible exact ih7 _ _ _ _ _ _ _ _ _ _ _ _ _ _ _ _ _ _ _ _)
   | (with_reducible exact pylonref11_Gaps.mono _ _ _ _ _ _ _ _)
   | (with_reducible exact pylonref11_Line.mono _ _ _ _)
   | (with_reducible exact pylonref11_present.mono _ _ _ _ _ _ _ _)
   | (with_reducible exact LeO.refl _)
   | (with_reducible exact LeO.none _)
   | (with_reducible refine LeO.ite ?_ ?_)
   | (with_reducible refine LeO.bind ?_ (fun _ => ?_))
  ·intro y0 y1 y2 y3 y4 y5 y6 y7 y8 y9 y10 y11 y12 y13 y14 y15 y16 y17 y18 y19 y20 y21 y22 y23 y24
   unfold pylonref11_Fill.j3
   repeat' first
   | (with_reducible exact ih0 _ _ _ _ _ _ _ _ _ _)
   | (with_reducible exact ih1 _ _ _ _ _ _ _ _ _ _ _ _ _)
   | (with_reducible exact ih2 _ _ _ _ _ _ _ _ _ _ _ _ _)
   | (with_reducible exact ih3 _ _ _ _ _ _ _ _ _ _ _ _ _ _ _ _ _ _ _ _ _ _ _ _ _)
   | (with_reducible exact ih4 _ _ _ _ _ _ _ _ _ _ _ _ _ _ _ _ _ _ _ _ _ _ _ _ _)
   | (with_reducible exact ih5 _ _ _ _ _ _ _ _ _ _ _ _ _ _ _ _ _ _ _ _ _ _ _ _ _)
   | (with_reducible exact ih6 _ _ _ _ _ _ _ _ _ _ _ _ _ _ _ _ _ _ _ _ _ _ _ _ _)
   | (with_reducible exact ih7 _ _ _ _ _ _ _ _ _ _ _ _ _ _ _ _ _ _ _ _)
   | (with_reducible exact pylonref11_Gaps.mono _ _ _ _ _ _ _ _)
   | (with_reducible exact pylonref11_Line.mono _ _ _ _)
   | (with_reducible exact pylonref11_present.mono _ _ _ _ _ _ _ _)
   | (with_reducible exact LeO.refl _)
   | (with_reducible exact LeO.none _)
   | (with_reducible refine LeO.ite ?_ ?_)
   | (with_reducible refine LeO.bind ?_ (fun _ => ?_))
  ·intro y0 y1 y2 y3 y4 y5 y6 y7 y8 y9 y10 y11 y12 y13 y14 y15 y16 y17 y18 y19 y20 y21 y22 y23 y24
   unfold pylonref11_Fill.j4
   repeat' first
   | (with_reducible exact ih0 _ _ _ _ _ _ _ _ _ _)
   | (with_reducible exact ih1 _ _ _ _ _ _ _ _ _ _ _ _ _)
   | (with_reducible exact ih2 _ _ _ _ _ _ _ _ _ _ _ _ _)
   | (with_reducible exact ih3 _ _ _ _ _ _ _ _ _ _ _ _ _ _ _ _ _ _ _ _ _ _ _ _ _)
   | (with_reducible exact ih4 _ _ _ _ _ _ _ _ _ _ _ _ _ _ _ _ _ _ _ _ _ _ _ _ _)
   | (with_reducible exact ih5 _ _ _ _ _ _ _ _ _ _ _ _ _ _ _ _ _ _ _ _ _ _ _ _ _)
   | (with_reducible exact ih6 _ _ _ _ _ _ _ _ _ _ _ _ _ _ _ _ _ _ _ _ _ _ _ _ _)
   | (with_reducible exact ih7 _ _ _ _ _ _ _ _ _ _ _ _ _ _ _ _ _ _ _ _)
   | (with_reducible exact pylonref11_Gaps.mono _ _ _ _ _ _ _ _)
   | (with_reducible exact pylonref11_Line.mono _ _ _ _)
   | (with_reducible exact pylonref11_present.mono _ _ _ _ _ _ _ _)
   | (with_reducible exact LeO.refl _)
   | (with_reducible exact LeO.none _)
   | (with_reducible refine LeO.ite ?_ ?_)
   | (with_reducible refine LeO.bind ?_ (fun _ => ?_))
  ·intro y0 y1 y2 y3 y4 y5 y6 y7 y8 y9 y10 y11 y12 y13 y14 y15 y16 y17 y18 y19 y20 y21 y22 y23 y24
   unfold pylonref11_Fill.j5
   repeat' first
   | (with_reducible exact ih0 _ _ _ _ _ _ _ _ _ _)
   | (with_reducible exact ih1 _ _ _ _ _ _ _ _ _ _ _ _ _)
   | (with_reducible exact ih2 _ _ _ _ _ _ _ _ _ _ _ _ _)
   | (with_reducible exact ih3 _ _ _ _ _ _ _ _ _ _ _ _ _ _ _ _ _ _ _ _ _ _ _ _ _)
   | (with_reducible exact ih4 _ _ _ _ _ _ _ _ _ _ _ _ _ _ _ _ _ _ _ _ _ _ _ _ _)
   | (with_reducible exact ih5 _ _ _ _ _ _ _ _ _ _ _ _ _ _ _ _ _ _ _ _ _ _ _ _ _)
   | (with_reducible exact ih6 _ _ _ _ _ _ _ _ _ _ _ _ _ _ _ _ _ _ _ _ _ _ _ _ _)
   | (with_reducible exact ih7 _ _ _ _ _ _ _ _ _ _ _ _ _ _ _ _ _ _ _ _)
   | (with_reducible exact pylonref11_Gaps.mono _ _ _ _ _ _ _ _)
   | (with_reducible exact pylonref11_Line.mono _ _ _ _)
   | (with_reducible exact pylonref11_present.mono _ _ _ _ _ _ _ _)
   | (with_reducible exact LeO.refl _)
   | (with_reducible exact LeO.none _)
   | (with_reducible refine LeO.ite ?_ ?_)
   | (with_reducible refine LeO.bind ?_ (fun _ => ?_))
  ·intro y0 y1 y2 y3 y4 y5 y6 y7 y8 y9 y10 y11 y12 y13 y14 y15 y16 y17 y18 y19 y20 y21 y22 y23 y24
   unfold pylonref11_Fill.j6
   repeat' first
   | (with_reducible exact ih0 _ _ _ _ _ _ _ _ _ _)
   | (with_reducible exact ih1 _ _ _ _ _ _ _ _ _ _ _ _ _)
   | (with_reducible exact ih2 _ _ _ _ _ _ _ _ _ _ _ _ _)
   | (with_reducible exact ih3 _ _ _ _ _ _ _ _ _ _ _ _ _ _ _ _ _ _ _ _ _ _ _ _ _)
   | (with_reducible exact ih4 _ _ _ _ _ _ _ _ _ _ _ _ _ _ _ _ _ _ _ _ _ _ _ _ _)
   | (with_reducible exact ih5 _ _ _ _ _ _ _ _ _ _ _ _ _ _ _ _ _ _ _ _ _ _ _ _ _)
   | (with_reducible exact ih6 _ _ _ _ _ _ _ _ _ _ _ _ _ _ _ _ _ _ _ _ _ _ _ _ _)
   | (with_reducible exact ih7 _ _ _ _ _ _ _ _ _ _ _ _ _ _ _ _ _ _ _ _)
   | (with_reducible exact pylonref11_Gaps.mono _ _ _ _ _ _ _ _)
   | (with_reducible exact pylonref11_Line.mono _ _ _ _)
   | (with_reducible exact pylonref11_present.mono _ _ _ _ _ _ _ _)
   | (with_reducible exact LeO.refl _)
   | (with_reducible exact LeO.none _)
   | (with_reducible refine LeO.ite ?_ ?_)
   | (with_reducible refine LeO.bind ?_ (fun _ => ?_))
  ·intro y0 y1 y2 y3 y4 y5 y6 y7 y8 y9 y10 y11 y12 y13 y14 y15 y16 y17 y18 y19
   unfold pylonref11_Fill.l2
   repeat' first
   | (with_reducible exact ih0 _ _ _ _ _ _ _ _ _ _)
   | (with_reducible exact ih1 _ _ _ _ _ _ _ _ _ _ _ _ _)
   | (with_reducible exact ih2 _ _ _ _ _ _ _ _ _ _ _ _ _)
   | (with_reducible exact ih3 _ _ _ _ _ _ _ _ _ _ _ _ _ _ _ _ _ _ _ _ _ _ _ _ _)
   | (with_reducible exact ih4 _ _ _ _ _ _ _ _ _ _ _ _ _ _ _ _ _ _ _ _ _ _ _ _ _)
   | (with_reducible exact ih5 _ _ _ _ _ _ _ _ _ _ _ _ _ _ _ _ _ _ _ _ _ _ _ _ _)
   | (with_reducible exact ih6 _ _ _ _ _ _ _ _ _ _ _ _ _ _ _ _ _ _ _ _ _ _ _ _ _)
   | (with_reducible exact ih7 _ _ _ _ _ _ _ _ _ _ _ _ _ _ _ _ _ _ _ _)
   | (with_reducible exact pylonref11_Gaps.mono _ _ _ _ _ _ _ _)
   | (with_reducible exact pylonref11_Line.mono _ _ _ _)
   | (with_reducible exact pylonref11_present.mono _ _ _ _ _ _ _ _)
   | (with_reducible exact LeO.refl _)
   | (with_reducible exact LeO.none _)
   | (with_reducible refine LeO.ite ?_ ?_)
   | (with_reducible refine LeO.bind ?_ (fun _ => ?_))
theorem pylonref11_Fill.mono : ∀ a0 a1 a2 a3 a4 a5 a6 a7 k, LeO (pylonref11_Fill.f k a0 a1 a2 a3 a4 a5 a6 a7) (pylonref11_Fill.f (k + 1) a0 a1 a2 a3 a4 a5 a6 a7) := by
 intro a0 a1 a2 a3 a4 a5 a6 a7 k
 obtain ⟨ih0, ih1, ih2, ih3, ih4, ih5, ih6, ih7⟩ := pylonref11_Fill.mono_l k
 unfold pylonref11_Fill.f
 repeat' first
   | (with_reducible exact ih0 _ _ _ _ _ _ _ _ _ _)
   | (with_reducible exact ih1 _ _ _ _ _ _ _ _ _ _ _ _ _)
   | (with_reducible exact ih2 _ _ _ _ _ _ _ _ _ _ _ _ _)
   | (with_reducible exact ih3 _ _ _ _ _ _ _ _ _ _ _ _ _ _ _ _ _ _ _ _ _ _ _ _ _)
   | (with_reducible exact ih4 _ _ _ _ _ _ _ _ _ _ _ _ _ _ _ _ _ _ _ _ _ _ _ _ _)
   | (with_reducible exact ih5 _ _ _ _ _ _ _ _ _ _ _ _ _ _ _ _ _ _ _ _ _ _ _ _ _)
   | (with_reducible exact ih6 _ _ _ _ _ _ _ _ _ _ _ _ _ _ _ _ _ _ _ _ _ _ _ _ _)
   | (with_reducible exact ih7 _ _ _ _ _ _ _ _ _ _ _ _ _ _ _ _ _ _ _ _)
   | (with_reducible exact pylonref11_Gaps.mono _ _ _ _ _ _ _ _)
   | (with_reducible exact pylonref11_Line.mono _ _ _ _)
   | (with_reducible exact pylonref11_present.mono _ _ _ _ _ _ _ _)
   | (with_reducible exact LeO.refl _)
   | (with_reducible exact LeO.none _)
   | (with_reducible refine LeO.ite ?_ ?_)
   | (with_reducible refine LeO.bind ?_ (fun _ => ?_))
def pylonref11_Fill.T4 : Bool × List (List Nat × List Nat) := (true, [([], []), ([0], [0]), ([1], [1]), ([2], [2]), ([3], [3]), ([4, 3], [3, 4]), ([5, 3], [3, 5]), ([6, 3], [3, 6]), ([3], [3]), ([8, 3], [3, 8]), ([9, 3], [3, 9]), ([10, 3], [3, 10]), ([7, 11, 3], [3, 7, 11]), ([3], [3]), ([13, 3], [3, 13]), ([12, 14, 3], [3, 12, 14]), ([3, 15], [3, 15])])
def pylonref11_Fill.B4 : List Nat := [0, 1, 3, 7, 15, 31, 63, 127, 15, 271, 783, 1807, 4095, 15, 8207, 32767, 65535]
theorem pylonref11_Fill.tab4 : rtab .any (opsOf Try.f18 4) = pylonref11_Fill.T4 := by kernel_rfl
theorem pylonref11_Fill.bits4 : waitsOk pylonref11_Fill.T4.2 pylonref11_Fill.B4 = true := by kernel_rfl
def pylonref11_Fill.T12 : Bool × List (List Nat × List Nat) := (true, [([], []), ([], []), ([], []), ([2], [2]), ([], []), ([], []), ([4, 5], [4, 5]), ([6], [6]), ([3, 7], [3, 7]), ([8], [8]), ([0, 1, 0, 1, 2, 3, 4, 5, 6, 7, 8, 9], [0, 1]), ([10, 9, 0, 1, 2, 3, 4, 5, 6, 7, 8, 9], [9, 10])])
def pylonref11_Fill.B12 : List Nat := [0, 0, 0, 4, 0, 0, 48, 112, 252, 508, 1023, 2047]
theorem pylonref11_Fill.tab12 : rtab .any (opsOf Try.f18 12) = pylonref11_Fill.T12 := by kernel_rfl
theorem pylonref11_Fill.bits12 : waitsOk pylonref11_Fill.T12.2 pylonref11_Fill.B12 = true := by kernel_rfl
def pylonref11_Fill.T24 : Bool × List (List Nat × List Nat) := (true, [([], []), ([0], [0]), ([], []), ([], []), ([3], [3]), ([2, 4], [2, 4]), ([5], [5]), ([1, 6], [1, 6]), ([7], [7]), ([8, 0, 1, 2, 3, 4, 5, 6, 7, 8], [8])])
def pylonref11_Fill.B24 : List Nat := [0, 1, 0, 0, 8, 28, 60, 127, 255, 511]
theorem pylonref11_Fill.tab24 : rtab .any (opsOf Try.f18 24) = pylonref11_Fill.T24 := by kernel_rfl
theorem pylonref11_Fill.bits24 : waitsOk pylonref11_Fill.T24.2 pylonref11_Fill.B24 = true := by kernel_rfl
def pylonref11_Fill.T35 : Bool × List (List Nat × List Nat) := (true, [([], []), ([], []), ([1], [1]), ([], []), ([2, 3], [2, 3]), ([], []), ([5], [5]), ([], []), ([6, 7], [6, 7]), ([], []), ([], []), ([9, 10], [9, 10]), ([11], [11]), ([], []), ([], []), ([13, 14], [13, 14]), ([15], [15]), ([], []), ([], []), ([17, 18], [17, 18]), ([19], [19]), ([8, 12, 16, 20], [8, 12, 16, 20]), ([0, 4, 0, 1, 2, 3, 4, 5, 6, 7, 8, 9, 10, 11, 12, 13, 14, 15, 16, 17, 18, 19, 20, 21], [0, 4]), ([22, 21, 0, 1, 2, 3, 4, 5, 6, 7, 8, 9, 10, 11, 12, 13, 14, 15, 16, 17, 18, 19, 20, 21], [21, 22])])
def pylonref11_Fill.B35 : List Nat := [0, 0, 2, 0, 14, 0, 32, 0, 224, 0, 0, 1536, 3584, 0, 0, 24576, 57344, 0, 0, 393216, 917504, 2097120, 4194303, 8388607]
theorem pylonref11_Fill.tab35 : rtab .any (opsOf Try.f18 35) = pylonref11_Fill.T35 := by kernel_rfl
theorem pylonref11_Fill.bits35 : waitsOk pylonref11_Fill.T35.2 pylonref11_Fill.B35 = true := by kernel_rfl
set_option maxHeartbeats 8000000 in
set_option maxRecDepth 100000 in
theorem pylonref11_Fill.calls (k : Nat) (a0_0 : ByteArray) (a0_1 : Int) (a0_2 : Int) (a0_3 : Int) (a0_4 : Int) (a0_5 : Int) (A0_6 : Option Addr) (c0_6 : Nat) (l0_6 : List (S45)) (a1 : Int) (r1 : List (S45)) (r2 : Int) (w : World) (hr0_6 : Kd.C k45 w A0_6 l0_6.length l0_6) (hc0_6 : l0_6.length ≤ c0_6) (h : pylonref11_Fill.f k a0_0 a0_1 a0_2 a0_3 a0_4 a0_5 l0_6 a1 = some (r1, r2)) :
  Calls Try.prog 18 #[.agg #[.string a0_0, .int .i64 a0_1, .int .i64 a0_2, .int .i64 a0_3, .int .i64 a0_4, .int .i64 a0_5, .slice A0_6 l0_6.length c0_6], .int .i64 a1] w fun e w' => ∃ v0_ : Value, e = .returned (.tuple #[v0_, .int .i64 r2]) ∧ Kd.R k45 45 w' w.heap.size (fun _ => True) v0_ r1 ∧ Below w.heap.size w w' := by
 have hu31 := Try.underlying31
 have hu45 := Try.underlying45
 have hu43 := Try.underlying43
 have HR0_6 := AX hr0_6
 have HC0_6 := AX hc0_6
 clear hr0_6 hc0_6
 have HB := AX (Below.refl w.heap.size w)
 have H : ((pylonref11_Gaps.f k a0_0 a0_1 a0_2 a0_3 a0_4 a0_5 l0_6).bind fun bt233 => (if bt233.2 = 0 then (if (bt233.1.length : Int) = 1 then (if 0 < (bt233.1.length : Int) then (pylonref11_Fill.j0 k a1 bt233.1 ((wrap64 (((rd_T43 bt233.1 0).f1) - ((rd_T43 bt233.1 0).f0))) == a0_3) a0_0 a0_1 a0_2 a0_3 a0_4 a0_5 l0_6) else (none)) else (pylonref11_Fill.j0 k a1 bt233.1 false a0_0 a0_1 a0_2 a0_3 a0_4 a0_5 l0_6)) else (some (([] : List (S45)), bt233.2)))) = some (r1, r2) := h
 clear h
 replace H := Option.bind_eq_some_iff.mp H
 obtain ⟨⟨t233, t236⟩, A30, H⟩ := H
 replace H : (if t236 = 0 then (if (t233.length : Int) = 1 then (if 0 < (t233.length : Int) then (pylonref11_Fill.j0 k a1 t233 ((wrap64 (((rd_T43 t233 0).f1) - ((rd_T43 t233 0).f0))) == a0_3) a0_0 a0_1 a0_2 a0_3 a0_4 a0_5 l0_6) else (none)) else (pylonref11_Fill.j0 k a1 t233 false a0_0 a0_1 a0_2 a0_3 a0_4 a0_5 l0_6)) else (some (([] : List (S45)), t236))) = some (r1, r2) := H
 have A3 := AX A30
 clear A30
 by_cases c4 : t236 = 0
 ·rw [if_pos c4] at H
  have c4b0 : (t236 == 0) = true := beq_iff_eq.mpr c4
  have c4b1 : (t236 != 0) = false := bne_eq_false_iff_eq.mpr c4
  clear c4
  have HC5 := AX H
  clear H
  go_enter Try.func18, Try.ntmps18
  go_upto_region 4 with (first | ((with_reducible refine gate_dst (N := 2) rfl ?_); refine bx 2 #[.string a0_0, .int .i64 a0_1, .int .i64 a0_2, .int .i64 a0_3, .int .i64 a0_4, .int .i64 a0_5, .slice A0_6 l0_6.length c0_6] 31 ?_; intro gb232 hg w6 hbox hb; have BK232 := AX (hbox); have GW232 := gwl (w := w) hg bw; have GE232 := GW232; replace HB := AX (below_step bw hb); clear hb hbox hg; obtain ⟨hcz7_0, hcz7_1, hcz7_2, hcz7_3, hcz7_4, hcz7_5, hcz7_6⟩ := blkC7 (w := w6) BK232.out; obtain ⟨hfz7_0, hfz7_1, hfz7_2, hfz7_3, hfz7_4, hfz7_5, hfz7_6⟩ := blkF7 BK232.out) | ((with_reducible refine gate_callee (f := 14) rfl ?_); refine gL (some 24) Try.func14 #[.agg #[.string a0_0, .int .i64 a0_1, .int .i64 a0_2, .int .i64 a0_3, .int .i64 a0_4, .int .i64 a0_5, .slice A0_6 l0_6.length c0_6]] ?_; (with_reducible refine (pylonref11_Gaps.calls k a0_0 a0_1 a0_2 a0_3 a0_4 a0_5 _ _ l0_6 t233 t236 _ ?side1 ?side2 A3.out).mono ?_); (case side1 => repeat (first | exact (Kd.C_below HR0_6.out HB.out) | (with_reducible refine Kd.C_alloc ?_ _) | (with_reducible refine Kd.C_drewN ?_ _) | (with_reducible refine Kd.C_drew ?_))); (case side2 => exact HC0_6.out); rintro e w8 ⟨v234, rfl, ho0, hb⟩; refine ⟨_, rfl, ?_⟩; have HO235 := AX (Kd.R_lower ho0 (below_size bw)); replace BK232 := AX (bkb BK232 hb); replace HB := AX (below_step bw hb); (try clear hb); (try clear hb2); (try clear hk); (try clear hi); (try clear ho0)))
  (try simp only [Act.put, List.setIfInBounds_toArray, List.set_cons_zero, List.set_cons_succ])
  go_cut [46] (fun v46 wc => ∃ (kq : Nat) (x46_4 : Bool), v46 = .bool x46_4 ∧ Aside0 (pylonref11_Fill.j0 kq a1 t233 x46_4 a0_0 a0_1 a0_2 a0_3 a0_4 a0_5 l0_6 = some (r1, r2)) ∧ Aside0 (kq ≤ k) ∧ Aside0 (Kd.R k43 43 wc w.heap.size (fun _ => True) v234 t233) ∧ Aside0 (wc.heap[gb232]? = some (.cells #[.string a0_0, .int .i64 a0_1, .int .i64 a0_2, .int .i64 a0_3, .int .i64 a0_4, .int .i64 a0_5, (.slice A0_6 l0_6.length c0_6)] 31 (0, 0))) ∧ Aside0 (Below w.heap.size w wc))
  case first =>
   have H := HC5.out
   clear HC5
   by_cases c9 : (t233.length : Int) = 1
   ·rw [if_pos c9] at H
    have c9b0 : ((t233.length : Int) == 1) = true := beq_iff_eq.mpr c9
    have c9b1 : ((t233.length : Int) != 1) = false := bne_eq_false_iff_eq.mpr c9
    clear c9
    (first | rw [c9b0] | (simp only [i64_w, i32_w]; rw [c9b0]) | skip)
    by_cases c10 : 0 < (t233.length : Int)
    ·rw [if_pos c10] at H
     have c10b0 : decide (0 < (t233.length : Int)) = true := decide_eq_true c10
     have c10b1 : decide (0 < t233.length) = true := decide_eq_true (by omega)
     clear c10
     have H' := AX H
     clear H
     try go_wp2
     have n0_ := AX (Kd.R_drew HO235.out)
     have n1_ := AX (blk_drew BK232.out)
     have n2_ := AX (below_drew1 HB.out)
     clear HO235
     clear BK232
     clear HB
     have HO235 := n0_
     have BK232 := n1_
     have HB := n2_
     clear n0_ n1_ n2_
     obtain ⟨Ao12, co12, eo12⟩ := Kd.R_slice HO235.out
     (first | subst eo12 | (injection eo12 with f1_ f2_ f3_; have f4_ := f1_.symm; have f5_ := f3_.symm; clear f1_ f2_ f3_; subst f4_; subst f5_))
     have p237 : 0 ≤ (0 : Int) := (by omega)
     have q237 : 0 < (t233.length : Int) := of_decide_eq_true (by first | (with_reducible assumption) | assumption)
     obtain ⟨ad237, e237, hx237_0, hx237_1⟩ := at_T43 (Kd.R_reads' HO235.out).2.2 0 p237 q237
     cases e237
     have qi237 : (0 < t233.length) = True := eq_true (by omega)
     (try rw [show ((0 : Int)).toNat = 0 from rfl] at hx237_0)
     (try rw [show 0 * 2 = 0 from rfl] at hx237_0)
     (try rw [Addr.add_zero'] at hx237_0)
     (try rw [show ((0 : Int)).toNat = 0 from rfl] at hx237_1)
     (try rw [show 0 * 2 = 0 from rfl] at hx237_1)
     (try rw [Addr.add_zero'] at hx237_1)
     replace p237 := eq_true p237
     replace q237 := eq_true q237
     have p238 : 0 ≤ (0 : Int) := (by omega)
     have q238 : 0 < (t233.length : Int) := of_decide_eq_true (by first | (with_reducible assumption) | assumption)
     obtain ⟨ad238, e238, hx238_0, hx238_1⟩ := at_T43 (Kd.R_reads' HO235.out).2.2 0 p238 q238
     obtain rfl : ad237 = ad238 := (by injection e238)
     have qi238 : (0 < t233.length) = True := eq_true (by omega)
     (try rw [show ((0 : Int)).toNat = 0 from rfl] at hx238_0)
     (try rw [show 0 * 2 = 0 from rfl] at hx238_0)
     (try rw [Addr.add_zero'] at hx238_0)
     (try rw [show ((0 : Int)).toNat = 0 from rfl] at hx238_1)
     (try rw [show 0 * 2 = 0 from rfl] at hx238_1)
     (try rw [Addr.add_zero'] at hx238_1)
     replace p238 := eq_true p238
     replace q238 := eq_true q238
     refine start_ (n := 17) (S := fun w' => w'.cell? ⟨gb232, 0, none⟩ = some (.string a0_0) ∧ w'.cell? ⟨gb232, 1, none⟩ = some (.int .i64 a0_1) ∧ w'.cell? ⟨gb232, 2, none⟩ = some (.int .i64 a0_2) ∧ w'.cell? ⟨gb232, 3, none⟩ = some (.int .i64 a0_3) ∧ w'.cell? ⟨gb232, 4, none⟩ = some (.int .i64 a0_4) ∧ w'.cell? ⟨gb232, 5, none⟩ = some (.int .i64 a0_5) ∧ w'.cell? ⟨gb232, 6, none⟩ = some (.slice A0_6 l0_6.length c0_6) ∧ w'.cell? ad237 = some (.int .i64 ((rd_T43 t233 0).f0)) ∧ w'.cell? ⟨ad237.block, ad237.off + 1, none⟩ = some (.int .i64 ((rd_T43 t233 0).f1)) ∧ w'.cell? ad237 = some (.int .i64 ((rd_T43 t233 0).f0)) ∧ w'.cell? ⟨ad237.block, ad237.off + 1, none⟩ = some (.int .i64 ((rd_T43 t233 0).f1))) (ds := []) #[false, false, false, false, false, false, false, false, false, false, false, false, false, false, false, false, false] (by kernel_rfl) rfl rfl ⟨(blk_cell BK232.out 0).trans rfl, (blk_cell BK232.out 1).trans rfl, (blk_cell BK232.out 2).trans rfl, (blk_cell BK232.out 3).trans rfl, (blk_cell BK232.out 4).trans rfl, (blk_cell BK232.out 5).trans rfl, (blk_cell BK232.out 6).trans rfl, hx237_0, hx237_1, hx238_0, hx238_1⟩ (fun hHeld => ?_); refine with_tabW pylonref11_Fill.tab4 pylonref11_Fill.bits4 (fun HT_ HW_ => ?_)
     generalize w8.drew = w11 at HO235 BK232 HB hx237_0 hx237_1 hx238_0 hx238_1 hHeld ⊢
     refine pure_ (i := 0) (N := some 30) (v := ?_) (a' := ?_) #[true, false, false, false, false, false, false, false, false, false, false, false, false, false, false, false, false] rfl rfl (any_of HT_.out (by kernel_rfl)) (fun _ _ _ h => h) (Or.inl ⟨by rfl, ?_⟩) ?_ ?_
     rotate_left
     ·intro w'
      go_simp
      with_reducible rfl
     rotate_left
     ·simp only [Act.put, List.setIfInBounds_toArray, List.set_cons_zero, List.set_cons_succ, i64_w, i32_w]
      rfl
     refine pure_ (i := 1) (N := some 31) (v := ?_) (a' := ?_) #[true, true, false, false, false, false, false, false, false, false, false, false, false, false, false, false, false] rfl rfl (any_of HT_.out (by kernel_rfl)) (fun _ _ _ h => h) (Or.inl ⟨by rfl, ?_⟩) ?_ ?_
     rotate_left
     ·intro w'
      go_simp
      with_reducible rfl
     rotate_left
     ·simp only [Act.put, List.setIfInBounds_toArray, List.set_cons_zero, List.set_cons_succ, i64_w, i32_w]
      rfl
     refine pure_ (i := 2) (N := some 32) (v := ?_) (a' := ?_) #[true, true, true, false, false, false, false, false, false, false, false, false, false, false, false, false, false] rfl rfl (any_of HT_.out (by kernel_rfl)) (fun _ _ _ h => h) (Or.inl ⟨by rfl, ?_⟩) ?_ ?_
     rotate_left
     ·intro w'
      go_simp
      with_reducible rfl
     rotate_left
     ·simp only [Act.put, List.setIfInBounds_toArray, List.set_cons_zero, List.set_cons_succ, i64_w, i32_w]
      rfl
     refine pure_ (i := 3) (N := some 33) (v := ?_) (a' := ?_) #[true, true, true, true, false, false, false, false, false, false, false, false, false, false, false, false, false] rfl rfl (any_of HT_.out (by kernel_rfl)) (fun _ _ _ h => h) (Or.inl ⟨by rfl, ?_⟩) ?_ ?_
     rotate_left
     ·intro w'
      go_simp
      with_reducible rfl
     rotate_left
     ·simp only [Act.put, List.setIfInBounds_toArray, List.set_cons_zero, List.set_cons_succ, i64_w, i32_w]
      rfl
     refine pure_ (i := 4) (N := some 34) (v := ?_) (a' := ?_) #[true, true, true, true, true, false, false, false, false, false, false, false, false, false, false, false, false] rfl rfl (any_of HT_.out (by kernel_rfl)) (fun _ _ _ h => h) (Or.inl ⟨by rfl, ?_⟩) ?_ ?_
     rotate_left
     ·intro w'
      go_simp
      with_reducible rfl
     rotate_left
     ·simp only [Act.put, List.setIfInBounds_toArray, List.set_cons_zero, List.set_cons_succ, i64_w, i32_w]
      rfl
     refine pure_ (i := 5) (N := some 35) (v := ?_) (a' := ?_) #[true, true, true, true, true, true, false, false, false, false, false, false, false, false, false, false, false] rfl rfl (any_of HT_.out (by kernel_rfl)) (fun _ _ _ h => h) (Or.inl ⟨by rfl, ?_⟩) ?_ ?_
     rotate_left
     ·intro w'
      go_simp
      with_reducible rfl
     rotate_left
     ·simp only [Act.put, List.setIfInBounds_toArray, List.set_cons_zero, List.set_cons_succ, i64_w, i32_w]
      rfl
     refine pure_ (i := 6) (N := some 36) (v := ?_) (a' := ?_) #[true, true, true, true, true, true, true, false, false, false, false, false, false, false, false, false, false] rfl rfl (any_of HT_.out (by kernel_rfl)) (fun _ _ _ h => h) (Or.inl ⟨by rfl, ?_⟩) ?_ ?_
     rotate_left
     ·intro w'
      go_simp
      with_reducible rfl
     rotate_left
     ·simp only [Act.put, List.setIfInBounds_toArray, List.set_cons_zero, List.set_cons_succ, i64_w, i32_w]
      rfl
     refine pure_ (i := 8) (N := some 38) (v := ?_) (a' := ?_) #[true, true, true, true, true, true, true, false, true, false, false, false, false, false, false, false, false] rfl rfl (any_of HT_.out (by kernel_rfl)) (fun _ _ _ h => h) (Or.inl ⟨by rfl, ?_⟩) ?_ ?_
     rotate_left
     ·intro w'
      go_simp
      with_reducible rfl
     rotate_left
     ·simp only [Act.put, List.setIfInBounds_toArray, List.set_cons_zero, List.set_cons_succ, i64_w, i32_w]
      rfl
     refine pure_ (i := 9) (N := some 39) (v := ?_) (a' := ?_) #[true, true, true, true, true, true, true, false, true, true, false, false, false, false, false, false, false] rfl rfl (any_of HT_.out (by kernel_rfl)) (fun _ _ _ h => h) (Or.inl ⟨by rfl, ?_⟩) ?_ ?_
     rotate_left
     ·intro w'
      go_simp
      with_reducible rfl
     rotate_left
     ·simp only [Act.put, List.setIfInBounds_toArray, List.set_cons_zero, List.set_cons_succ, i64_w, i32_w]
      rfl
     refine pure_ (i := 10) (N := some 40) (v := ?_) (a' := ?_) #[true, true, true, true, true, true, true, false, true, true, true, false, false, false, false, false, false] rfl rfl (any_of HT_.out (by kernel_rfl)) (fun _ _ _ h => h) (Or.inl ⟨by rfl, ?_⟩) ?_ ?_
     rotate_left
     ·intro w'
      go_simp
      with_reducible rfl
     rotate_left
     ·simp only [Act.put, List.setIfInBounds_toArray, List.set_cons_zero, List.set_cons_succ, i64_w, i32_w]
      rfl
     refine pure_ (i := 13) (N := some 43) (v := ?_) (a' := ?_) #[true, true, true, true, true, true, true, false, true, true, true, false, false, true, false, false, false] rfl rfl (any_of HT_.out (by kernel_rfl)) (fun _ _ _ h => h) (Or.inl ⟨by rfl, ?_⟩) ?_ ?_
     rotate_left
     ·intro w'
      go_simp
      with_reducible rfl
     rotate_left
     ·simp only [Act.put, List.setIfInBounds_toArray, List.set_cons_zero, List.set_cons_succ, i64_w, i32_w]
      rfl
     refine take_ (i := 7) (N := some 37) (v := ?_) (a' := ?_) #[true, true, true, true, true, true, true, true, true, true, true, false, false, true, false, false, false] rfl rfl (take_ofW HT_.out HW_.out (by kernel_rfl)) (fun _ _ _ h => h) (Or.inl ⟨by rfl, ?_⟩) hHeld ?_ ?_
     rotate_left
     ·rintro w' ⟨s0, s1, s2, s3, s4, s5, s6, s7, s8, s9, s10⟩
      go_simp
      with_reducible rfl
     rotate_left
     ·simp only [Act.put, List.setIfInBounds_toArray, List.set_cons_zero, List.set_cons_succ, i64_w, i32_w]
      rfl
     refine take_ (i := 11) (N := some 41) (v := ?_) (a' := ?_) #[true, true, true, true, true, true, true, true, true, true, true, true, false, true, false, false, false] rfl rfl (take_ofW HT_.out HW_.out (by kernel_rfl)) (fun _ _ _ h => h) (Or.inl ⟨by rfl, ?_⟩) hHeld ?_ ?_
     rotate_left
     ·rintro w' ⟨s0, s1, s2, s3, s4, s5, s6, s7, s8, s9, s10⟩
      go_simp
      with_reducible rfl
     rotate_left
     ·simp only [Act.put, List.setIfInBounds_toArray, List.set_cons_zero, List.set_cons_succ, i64_w, i32_w]
      rfl
     refine pure_ (i := 12) (N := some 42) (v := ?_) (a' := ?_) #[true, true, true, true, true, true, true, true, true, true, true, true, true, true, false, false, false] rfl rfl (any_of HT_.out (by kernel_rfl)) (fun _ _ _ h => h) (Or.inl ⟨by rfl, ?_⟩) ?_ ?_
     rotate_left
     ·intro w'
      go_simp
      with_reducible rfl
     rotate_left
     ·simp only [Act.put, List.setIfInBounds_toArray, List.set_cons_zero, List.set_cons_succ, i64_w, i32_w]
      rfl
     refine take_ (i := 14) (N := some 44) (v := ?_) (a' := ?_) #[true, true, true, true, true, true, true, true, true, true, true, true, true, true, true, false, false] rfl rfl (take_ofW HT_.out HW_.out (by kernel_rfl)) (fun _ _ _ h => h) (Or.inl ⟨by rfl, ?_⟩) hHeld ?_ ?_
     rotate_left
     ·rintro w' ⟨s0, s1, s2, s3, s4, s5, s6, s7, s8, s9, s10⟩
      go_simp
      with_reducible rfl
     rotate_left
     ·simp only [Act.put, List.setIfInBounds_toArray, List.set_cons_zero, List.set_cons_succ, i64_w, i32_w]
      rfl
     refine pure_ (i := 15) (N := some 45) (v := ?_) (a' := ?_) #[true, true, true, true, true, true, true, true, true, true, true, true, true, true, true, true, false] rfl rfl (any_of HT_.out (by kernel_rfl)) (fun _ _ _ h => h) (Or.inl ⟨by rfl, ?_⟩) ?_ ?_
     rotate_left
     ·intro w'
      go_simp
      with_reducible rfl
     rotate_left
     ·simp only [Act.put, List.setIfInBounds_toArray, List.set_cons_zero, List.set_cons_succ, i64_w, i32_w]
      rfl
     refine pure_ (i := 16) (N := some 46) (v := ?_) (a' := ?_) #[true, true, true, true, true, true, true, true, true, true, true, true, true, true, true, true, true] rfl rfl (any_of HT_.out (by kernel_rfl)) (fun _ _ _ h => h) (Or.inl ⟨by rfl, ?_⟩) ?_ ?_
     rotate_left
     ·intro w'
      go_simp
      with_reducible rfl
     rotate_left
     ·simp only [Act.put, List.setIfInBounds_toArray, List.set_cons_zero, List.set_cons_succ, i64_w, i32_w]
      rfl
     refine done_ (done_of HT_.out (by kernel_rfl)) ?_
     try go_wp2
     go_meet
     case rel => exact ⟨_, (((wrap64 (((rd_T43 t233 0).f1) - ((rd_T43 t233 0).f0))) == a0_3)), (by first | rfl | (simp; done) | (simp [*]; done)), H', ⟨by first | omega | exact Nat.le_refl _⟩, ⟨kr HO235⟩, ⟨bkn BK232⟩, ⟨bw⟩⟩
    ·rw [if_neg c10] at H
     exact absurd H (by simp)
   ·rw [if_neg c9] at H
    have c9b0 : ((t233.length : Int) == 1) = false := beq_eq_false_iff_ne.mpr c9
    have c9b1 : ((t233.length : Int) != 1) = true := bne_iff_ne.mpr c9
    (first | rw [c9b0] | (simp only [i64_w, i32_w]; rw [c9b0]) | skip)
    have H' := AX H
    clear H
    try go_wp2
    have n0_ := AX (Kd.R_drew HO235.out)
    have n1_ := AX (blk_drew BK232.out)
    have n2_ := AX (below_drew1 HB.out)
    clear HO235
    clear BK232
    clear HB
    have HO235 := n0_
    have BK232 := n1_
    have HB := n2_
    clear n0_ n1_ n2_
    obtain ⟨Ao14, co14, eo14⟩ := Kd.R_slice HO235.out
    (first | subst eo14 | (injection eo14 with f1_ f2_ f3_; have f4_ := f1_.symm; have f5_ := f3_.symm; clear f1_ f2_ f3_; subst f4_; subst f5_))
    refine start_ (n := 17) (S := fun w' => True) (ds := []) #[false, false, false, false, false, false, false, false, false, false, false, false, false, false, false, false, false] (by kernel_rfl) rfl rfl trivial (fun hHeld => ?_); refine with_tabW pylonref11_Fill.tab4 pylonref11_Fill.bits4 (fun HT_ HW_ => ?_)
    generalize w8.drew = w13 at HO235 BK232 HB hHeld ⊢
    refine pure_ (i := 0) (N := some 30) (v := ?_) (a' := ?_) #[true, false, false, false, false, false, false, false, false, false, false, false, false, false, false, false, false] rfl rfl (any_of HT_.out (by kernel_rfl)) (fun _ _ _ h => h) (Or.inl ⟨by rfl, ?_⟩) ?_ ?_
    rotate_left
    ·intro w'
     go_simp
     with_reducible rfl
    rotate_left
    ·simp only [Act.put, List.setIfInBounds_toArray, List.set_cons_zero, List.set_cons_succ, i64_w, i32_w]
     rfl
    refine pure_ (i := 1) (N := some 31) (v := ?_) (a' := ?_) #[true, true, false, false, false, false, false, false, false, false, false, false, false, false, false, false, false] rfl rfl (any_of HT_.out (by kernel_rfl)) (fun _ _ _ h => h) (Or.inl ⟨by rfl, ?_⟩) ?_ ?_
    rotate_left
    ·intro w'
     go_simp
     with_reducible rfl
    rotate_left
    ·simp only [Act.put, List.setIfInBounds_toArray, List.set_cons_zero, List.set_cons_succ, i64_w, i32_w]
     rfl
    refine pure_ (i := 2) (N := some 32) (v := ?_) (a' := ?_) #[true, true, true, false, false, false, false, false, false, false, false, false, false, false, false, false, false] rfl rfl (any_of HT_.out (by kernel_rfl)) (fun _ _ _ h => h) (Or.inl ⟨by rfl, ?_⟩) ?_ ?_
    rotate_left
    ·intro w'
     go_simp
     with_reducible rfl
    rotate_left
    ·simp only [Act.put, List.setIfInBounds_toArray, List.set_cons_zero, List.set_cons_succ, i64_w, i32_w]
     rfl
    refine pure_ (i := 3) (N := some 33) (v := ?_) (a' := ?_) #[true, true, true, true, false, false, false, false, false, false, false, false, false, false, false, false, false] rfl rfl (any_of HT_.out (by kernel_rfl)) (fun _ _ _ h => h) (Or.inl ⟨by rfl, ?_⟩) ?_ ?_
    rotate_left
    ·intro w'
     go_simp
     with_reducible rfl
    rotate_left
    ·simp only [Act.put, List.setIfInBounds_toArray, List.set_cons_zero, List.set_cons_succ, i64_w, i32_w]
     rfl
    refine pure_ (i := 4) (N := some 34) (v := undef) (a' := ?_) #[true, true, true, true, true, false, false, false, false, false, false, false, false, false, false, false, false] rfl rfl (any_of HT_.out (by kernel_rfl)) (fun _ _ _ h => h) (Or.inr ⟨by rfl, rfl⟩) ?_ ?_
    rotate_left
    ·simp only [Act.put, List.setIfInBounds_toArray, List.set_cons_zero, List.set_cons_succ, i64_w, i32_w]
     rfl
    refine pure_ (i := 5) (N := some 35) (v := undef) (a' := ?_) #[true, true, true, true, true, true, false, false, false, false, false, false, false, false, false, false, false] rfl rfl (any_of HT_.out (by kernel_rfl)) (fun _ _ _ h => h) (Or.inr ⟨by rfl, rfl⟩) ?_ ?_
    rotate_left
    ·simp only [Act.put, List.setIfInBounds_toArray, List.set_cons_zero, List.set_cons_succ, i64_w, i32_w]
     rfl
    refine pure_ (i := 6) (N := some 36) (v := undef) (a' := ?_) #[true, true, true, true, true, true, true, false, false, false, false, false, false, false, false, false, false] rfl rfl (any_of HT_.out (by kernel_rfl)) (fun _ _ _ h => h) (Or.inr ⟨by rfl, rfl⟩) ?_ ?_
    rotate_left
    ·simp only [Act.put, List.setIfInBounds_toArray, List.set_cons_zero, List.set_cons_succ, i64_w, i32_w]
     rfl
    refine pure_ (i := 7) (N := some 37) (v := undef) (a' := ?_) #[true, true, true, true, true, true, true, true, false, false, false, false, false, false, false, false, false] rfl rfl (any_of HT_.out (by kernel_rfl)) (fun _ _ _ h => h) (Or.inr ⟨by rfl, rfl⟩) ?_ ?_
    rotate_left
    ·simp only [Act.put, List.setIfInBounds_toArray, List.set_cons_zero, List.set_cons_succ, i64_w, i32_w]
     rfl
    refine pure_ (i := 8) (N := some 38) (v := undef) (a' := ?_) #[true, true, true, true, true, true, true, true, true, false, false, false, false, false, false, false, false] rfl rfl (any_of HT_.out (by kernel_rfl)) (fun _ _ _ h => h) (Or.inr ⟨by rfl, rfl⟩) ?_ ?_
    rotate_left
    ·simp only [Act.put, List.setIfInBounds_toArray, List.set_cons_zero, List.set_cons_succ, i64_w, i32_w]
     rfl
    refine pure_ (i := 9) (N := some 39) (v := undef) (a' := ?_) #[true, true, true, true, true, true, true, true, true, true, false, false, false, false, false, false, false] rfl rfl (any_of HT_.out (by kernel_rfl)) (fun _ _ _ h => h) (Or.inr ⟨by rfl, rfl⟩) ?_ ?_
    rotate_left
    ·simp only [Act.put, List.setIfInBounds_toArray, List.set_cons_zero, List.set_cons_succ, i64_w, i32_w]
     rfl
    refine pure_ (i := 10) (N := some 40) (v := undef) (a' := ?_) #[true, true, true, true, true, true, true, true, true, true, true, false, false, false, false, false, false] rfl rfl (any_of HT_.out (by kernel_rfl)) (fun _ _ _ h => h) (Or.inr ⟨by rfl, rfl⟩) ?_ ?_
    rotate_left
    ·simp only [Act.put, List.setIfInBounds_toArray, List.set_cons_zero, List.set_cons_succ, i64_w, i32_w]
     rfl
    refine pure_ (i := 11) (N := some 41) (v := undef) (a' := ?_) #[true, true, true, true, true, true, true, true, true, true, true, true, false, false, false, false, false] rfl rfl (any_of HT_.out (by kernel_rfl)) (fun _ _ _ h => h) (Or.inr ⟨by rfl, rfl⟩) ?_ ?_
    rotate_left
    ·simp only [Act.put, List.setIfInBounds_toArray, List.set_cons_zero, List.set_cons_succ, i64_w, i32_w]
     rfl
    refine pure_ (i := 12) (N := some 42) (v := undef) (a' := ?_) #[true, true, true, true, true, true, true, true, true, true, true, true, true, false, false, false, false] rfl rfl (any_of HT_.out (by kernel_rfl)) (fun _ _ _ h => h) (Or.inr ⟨by rfl, rfl⟩) ?_ ?_
    rotate_left
    ·simp only [Act.put, List.setIfInBounds_toArray, List.set_cons_zero, List.set_cons_succ, i64_w, i32_w]
     rfl
    refine pure_ (i := 13) (N := some 43) (v := undef) (a' := ?_) #[true, true, true, true, true, true, true, true, true, true, true, true, true, true, false, false, false] rfl rfl (any_of HT_.out (by kernel_rfl)) (fun _ _ _ h => h) (Or.inr ⟨by rfl, rfl⟩) ?_ ?_
    rotate_left
    ·simp only [Act.put, List.setIfInBounds_toArray, List.set_cons_zero, List.set_cons_succ, i64_w, i32_w]
     rfl
    refine pure_ (i := 14) (N := some 44) (v := undef) (a' := ?_) #[true, true, true, true, true, true, true, true, true, true, true, true, true, true, true, false, false] rfl rfl (any_of HT_.out (by kernel_rfl)) (fun _ _ _ h => h) (Or.inr ⟨by rfl, rfl⟩) ?_ ?_
    rotate_left
    ·simp only [Act.put, List.setIfInBounds_toArray, List.set_cons_zero, List.set_cons_succ, i64_w, i32_w]
     rfl
    refine pure_ (i := 15) (N := some 45) (v := undef) (a' := ?_) #[true, true, true, true, true, true, true, true, true, true, true, true, true, true, true, true, false] rfl rfl (any_of HT_.out (by kernel_rfl)) (fun _ _ _ h => h) (Or.inr ⟨by rfl, rfl⟩) ?_ ?_
    rotate_left
    ·simp only [Act.put, List.setIfInBounds_toArray, List.set_cons_zero, List.set_cons_succ, i64_w, i32_w]
     rfl
    refine pure_ (i := 16) (N := some 46) (v := ?_) (a' := ?_) #[true, true, true, true, true, true, true, true, true, true, true, true, true, true, true, true, true] rfl rfl (any_of HT_.out (by kernel_rfl)) (fun _ _ _ h => h) (Or.inl ⟨by rfl, ?_⟩) ?_ ?_
    rotate_left
    ·intro w'
     go_simp
     with_reducible rfl
    rotate_left
    ·simp only [Act.put, List.setIfInBounds_toArray, List.set_cons_zero, List.set_cons_succ, i64_w, i32_w]
     rfl
    refine done_ (done_of HT_.out (by kernel_rfl)) ?_
    try go_wp2
    go_meet
    case rel => exact ⟨_, (false), (by first | rfl | (simp; done) | (simp [*]; done)), H', ⟨by first | omega | exact Nat.le_refl _⟩, ⟨kr HO235⟩, ⟨bkn BK232⟩, ⟨bw⟩⟩
  case rest =>
   clear HC5
   try clear c4b0 c4b1
   try clear hcz7_0 hcz7_1 hcz7_2 hcz7_3 hcz7_4 hcz7_5 hcz7_6
   try clear hfz7_0 hfz7_1 hfz7_2 hfz7_3 hfz7_4 hfz7_5 hfz7_6
   obtain ⟨kq, x46_4, rfl, HA, HJ4, HO_6, BK232, HB⟩ := hcut
   cases kq with
   | zero => exact absurd HA.out (by simp [pylonref11_Fill.j0])
   | succ kj4 =>
    have H := HA.out
    clear HA
    simp only [pylonref11_Fill.j0] at H
    by_cases c15 : x46_4 = true
    ·subst c15
     have H1 : (some (([] : List (S45)), 3)) = some (r1, r2) := by rw [if_pos rfl] at H; exact H
     clear H
     have H := H1
     clear H1
     simp only [Option.some.injEq, Prod.mk.injEq] at H
     obtain ⟨rfl, rfl⟩ := H
     go_wp2
     go_ret2
     exact ⟨_, by first | rfl | (simp [errW_none, errW_some] <;> rfl) | (simp [*, errW_none, errW_some] <;> rfl), by first | exact Kd.R_nil _ _ _ _ _ | exact Kd.N_nil _ _ _ _ _ | exact Kd.V_nil _ _ _ _ _ | exact Kd.Q_nil _ _ _ _ _ | exact Kd.S_nil _ _ _ _ _, bw⟩
    ·replace c15 := Bool.eq_false_iff.mpr c15
     subst c15
     have H1 : ((pylonref11_present.f kj4 a0_0 a0_1 a0_2 a0_3 a0_4 a0_5 l0_6).bind fun t239 => (if 0 ≤ a0_3 then (if (a0_3 : Int).toNat ≤ 7036874417766 then (pylonref11_Fill.l0 kj4 a1 t233 t239 (List.replicate (a0_3 : Int).toNat z45) (t239.length : Int) 0 a0_0 a0_1 a0_2 a0_3 a0_4 a0_5 l0_6) else (none)) else (none))) = some (r1, r2) := by rw [if_neg (show ¬ (false = true) by decide)] at H; exact H
     clear H
     have H := H1
     clear H1
     replace H := Option.bind_eq_some_iff.mp H
     obtain ⟨t239, A160, H⟩ := H
     replace H : (if 0 ≤ a0_3 then (if (a0_3 : Int).toNat ≤ 7036874417766 then (pylonref11_Fill.l0 kj4 a1 t233 t239 (List.replicate (a0_3 : Int).toNat z45) (t239.length : Int) 0 a0_0 a0_1 a0_2 a0_3 a0_4 a0_5 l0_6) else (none)) else (none)) = some (r1, r2) := H
     have A16 := AX A160
     clear A160
     by_cases c17 : 0 ≤ a0_3
     ·rw [if_pos c17] at H
      have c17b0 := eq_true c17
      have c17b1 : decide (0 ≤ a0_3) = true := decide_eq_true c17
      clear c17
      by_cases c18 : (a0_3 : Int).toNat ≤ 7036874417766
      ·rw [if_pos c18] at H
       have c18b0 := eq_true c18
       have c18b1 : decide ((a0_3 : Int).toNat ≤ 7036874417766) = true := decide_eq_true c18
       clear c18
       obtain ⟨y242, hy242⟩ : ∃ y_ : List (S45), y_ = (List.replicate (a0_3 : Int).toNat z45) := ⟨_, rfl⟩
       replace H : (pylonref11_Fill.l0 kj4 a1 t233 t239 y242 (t239.length : Int) 0 a0_0 a0_1 a0_2 a0_3 a0_4 a0_5 l0_6) = some (r1, r2) := by first | (rw [hy242]; with_reducible exact H) | (have H2_ := (Option.bind_some _ _).symm.trans H; rw [hy242]; with_reducible exact H2_) | (have H2_ := (Option.bind_some _ _).symm.trans H; with_reducible exact H2_) | with_reducible exact H | (rw [hy242]; exact H) | exact H
       have Ny242 := AX hy242
       clear hy242
       have H' := AX H
       clear H
       obtain ⟨hcz19_0, hcz19_1, hcz19_2, hcz19_3, hcz19_4, hcz19_5, hcz19_6⟩ := blkC7 (w := wc) BK232.out
       obtain ⟨hfz19_0, hfz19_1, hfz19_2, hfz19_3, hfz19_4, hfz19_5, hfz19_6⟩ := blkF7 BK232.out
       go_wp2_with (first | ((with_reducible refine gate_callee (f := 30) rfl ?_); refine gL (some 48) Try.func30 #[.agg #[.string a0_0, .int .i64 a0_1, .int .i64 a0_2, .int .i64 a0_3, .int .i64 a0_4, .int .i64 a0_5, .slice A0_6 l0_6.length c0_6]] ?_; (with_reducible refine (pylonref11_present.calls kj4 a0_0 a0_1 a0_2 a0_3 a0_4 a0_5 _ _ l0_6 t239 _ ?side1 ?side2 A16.out).mono ?_); (case side1 => repeat (first | exact (Kd.C_below HR0_6.out HB.out) | (with_reducible refine Kd.C_alloc ?_ _) | (with_reducible refine Kd.C_drewN ?_ _) | (with_reducible refine Kd.C_drew ?_))); (case side2 => exact HC0_6.out); rintro e w20 ⟨v240, rfl, ho0, hb⟩; refine ⟨_, rfl, ?_⟩; have HO241 := AX (Kd.R_lower ho0 (below_size bw)); replace HO_6 := AX (Kd.R_below (kr HO_6) hb); replace BK232 := AX (bkb BK232 hb); replace HB := AX (below_step bw hb); (try clear hb); (try clear hb2); (try clear hk); (try clear hi); (try clear ho0); obtain ⟨hcz21_0, hcz21_1, hcz21_2, hcz21_3, hcz21_4, hcz21_5, hcz21_6⟩ := blkC7 (w := w20) BK232.out; obtain ⟨hfz21_0, hfz21_1, hfz21_2, hfz21_3, hfz21_4, hfz21_5, hfz21_6⟩ := blkF7 BK232.out) | ((with_reducible refine gate_dst (N := 51) rfl ?_); refine Kd.R_make k45 _ 45 rfl (N := 51) rfl 29 _ _ rfl a0_3 rfl rfl Try.underlying29 (.agg #[(.int .i64 0), (.int .i64 0), (.int .i64 0), (.int .i64 0), (.int .u8 0)]) 40 info45 rfl (by decide) (by omega) z45 (ok := fun _ => True) (okp := fun _ => True) (k45_mkM _ _ _ z45 ) (fun _ hk => hk) trivial (of_decide_eq_true (by first | (with_reducible assumption) | assumption)) (Nat.le_trans (Nat.mul_le_mul_right _ (of_decide_eq_true (by first | (with_reducible assumption) | assumption) : a0_3.toNat ≤ 7036874417766)) (by omega)) (Below.refl _ _) (Nat.le_refl _) ?_; intro v243 w22 ho23 hb hg_ hnew_; clear hg_ hnew_; (first | rw [← Ny242.out] at ho23 | (simp only [Int.reduceToNat] at ho23; rw [← Ny242.out] at ho23)); have HO244 := AX (Kd.R_lower ho23 (below_size bw)); replace HO_6 := AX (Kd.R_below (kr HO_6) hb); replace HO241 := AX (Kd.R_below (kr HO241) hb); replace BK232 := AX (bkb BK232 hb); replace HB := AX (below_step bw hb); clear hb ho23; obtain ⟨Ao24, co24, eo24⟩ := Kd.R_slice HO241.out; subst eo24))
       go_loopg [54] kj4 (fun kq v54 w' => ∃ (x9_2 : List (S45)) (x54_2 : Int), v54 = .int .i64 x54_2 ∧ Aside0 (pylonref11_Fill.l0 kq a1 t233 t239 x9_2 (t239.length : Int) x54_2 a0_0 a0_1 a0_2 a0_3 a0_4 a0_5 l0_6 = some (r1, r2)) ∧ Aside0 (kq ≤ kj4) ∧ Aside0 (Kd.R k43 43 w' w.heap.size (fun _ => True) v234 t233) ∧ Aside0 (Kd.R (Kd.int .i64) 3 w' w.heap.size (fun _ => True) (.slice Ao24 t239.length co24) t239) ∧ Aside0 (Kd.R k45 45 w' w.heap.size (fun _ => True) v243 x9_2) ∧ Aside0 (w'.heap[gb232]? = some (.cells #[.string a0_0, .int .i64 a0_1, .int .i64 a0_2, .int .i64 a0_3, .int .i64 a0_4, .int .i64 a0_5, (.slice A0_6 l0_6.length c0_6)] 31 (0, 0))) ∧ Aside0 (Below w.heap.size w w'))
       case atStart => exact ⟨(y242), (0), (by first | rfl | (simp; done) | (simp [*]; done)), H', ⟨Nat.le_refl _⟩, ⟨kr HO_6⟩, ⟨kr HO241⟩, ⟨kr HO244⟩, ⟨bkn BK232⟩, ⟨bw⟩⟩
       case round =>
        clear H'
        try clear c15
        try clear c17b0 c17b1
        try clear c18b0 c18b1
        try clear hcz19_0 hcz19_1 hcz19_2 hcz19_3 hcz19_4 hcz19_5 hcz19_6
        try clear hcz21_0 hcz21_1 hcz21_2 hcz21_3 hcz21_4 hcz21_5 hcz21_6
        try clear hfz19_0 hfz19_1 hfz19_2 hfz19_3 hfz19_4 hfz19_5 hfz19_6
        try clear hfz21_0 hfz21_1 hfz21_2 hfz21_3 hfz21_4 hfz21_5 hfz21_6
        obtain ⟨x9_2, x54_2, rfl, HA, HK2, HO_6, HO_8, HO_9, BK232, HB⟩ := hrel
        cases gk with
        | zero => exact absurd HA.out (by simp [pylonref11_Fill.l0])
        | succ k2 =>
         have H := HA.out
         clear HA
         simp only [pylonref11_Fill.l0] at H
         by_cases c25 : x54_2 < (t239.length : Int)
         ·rw [if_pos c25] at H
          have c25b0 : decide (x54_2 < (t239.length : Int)) = true := decide_eq_true c25
          clear c25
          by_cases c26 : 0 ≤ x54_2
          ·rw [if_pos c26] at H
           have c26b0 : decide (0 ≤ x54_2) = true := decide_eq_true c26
           clear c26
           by_cases c27 : x54_2 < (t239.length : Int)
           ·rw [if_pos c27] at H
            have c27b0 : decide (x54_2 < (t239.length : Int)) = true := decide_eq_true c27
            clear c27
            by_cases c28 : (rd t239 x54_2) ≥ 0
            ·rw [if_pos c28] at H
             have c28b0 : decide (0 ≤ (rd t239 x54_2)) = true := decide_eq_true c28
             clear c28
             by_cases c29 : 0 ≤ (rd t239 x54_2)
             ·rw [if_pos c29] at H
              have c29b0 : decide (0 ≤ (rd t239 x54_2)) = true := decide_eq_true c29
              clear c29
              by_cases c30 : (rd t239 x54_2) < (l0_6.length : Int)
              ·rw [if_pos c30] at H
               have c30b0 : decide ((rd t239 x54_2) < (l0_6.length : Int)) = true := decide_eq_true c30
               clear c30
               by_cases c31 : x54_2 < (x9_2.length : Int)
               ·rw [if_pos c31] at H
                have c31b0 : decide (x54_2 < (x9_2.length : Int)) = true := decide_eq_true c31
                clear c31
                obtain ⟨y248, hy248⟩ : ∃ y_ : List (S45), y_ = (x9_2.set (x54_2 : Int).toNat (⟨(rd_T45 l0_6 (rd t239 x54_2)).f0, (rd_T45 l0_6 (rd t239 x54_2)).f1, (rd_T45 l0_6 (rd t239 x54_2)).f2, (rd_T45 l0_6 (rd t239 x54_2)).f3, (rd_T45 l0_6 (rd t239 x54_2)).f4⟩ : S45)) := ⟨_, rfl⟩
                replace H : (pylonref11_Fill.l0 k2 a1 t233 t239 y248 (t239.length : Int) (wrap64 (x54_2 + 1)) a0_0 a0_1 a0_2 a0_3 a0_4 a0_5 l0_6) = some (r1, r2) := by first | (rw [hy248]; with_reducible exact H) | (have H2_ := (Option.bind_some _ _).symm.trans H; rw [hy248]; with_reducible exact H2_) | (have H2_ := (Option.bind_some _ _).symm.trans H; with_reducible exact H2_) | with_reducible exact H | (rw [hy248]; exact H) | exact H
                have Ny248 := AX hy248
                clear hy248
                have H' := AX H
                clear H
                have p245 : 0 ≤ (x54_2 : Int) := of_decide_eq_true (by first | (with_reducible assumption) | assumption)
                have q245 : x54_2 < (t239.length : Int) := of_decide_eq_true (by first | (with_reducible assumption) | assumption)
                obtain ⟨ad245, e245, hx245_0⟩ := Kd.at_int (Kd.R_reads' HO_8.out).2.2 x54_2 p245 q245
                cases e245
                replace p245 := eq_true p245
                replace q245 := eq_true q245
                try go_wp2
                have n0_ := AX (Kd.R_drew HO_6.out)
                have n1_ := AX (Kd.R_drew HO_8.out)
                have n2_ := AX (Kd.R_drew HO_9.out)
                have n3_ := AX (blk_drew BK232.out)
                have n4_ := AX (below_drew1 HB.out)
                clear HO_6
                clear HO_8
                clear HO_9
                clear BK232
                clear HB
                have HO_6 := n0_
                have HO_8 := n1_
                have HO_9 := n2_
                have BK232 := n3_
                have HB := n4_
                clear n0_ n1_ n2_ n3_ n4_
                have p246 : 0 ≤ (x54_2 : Int) := of_decide_eq_true (by first | (with_reducible assumption) | assumption)
                have q246 : x54_2 < (t239.length : Int) := of_decide_eq_true (by first | (with_reducible assumption) | assumption)
                obtain ⟨ad246, e246, hx246_0⟩ := Kd.at_int (Kd.R_reads' HO_8.out).2.2 x54_2 p246 q246
                obtain rfl : ad245 = ad246 := (by injection e246)
                replace p246 := eq_true p246
                replace q246 := eq_true q246
                have p247 : 0 ≤ ((rd t239 x54_2) : Int) := of_decide_eq_true (by first | (with_reducible assumption) | assumption)
                have q247 : (rd t239 x54_2) < (l0_6.length : Int) := of_decide_eq_true (by first | (with_reducible assumption) | assumption)
                obtain ⟨ad247, e247, hx247_0, hx247_1, hx247_2, hx247_3, hx247_4⟩ := at_T45 HR0_6.out (rd t239 x54_2) p247 q247
                have hw247_4 := hx247_4
                have hw247_3 := hx247_3
                have hw247_2 := hx247_2
                have hw247_1 := hx247_1
                have hw247_0 := hx247_0
                cases e247
                replace hx247_0 := bcl HB hx247_0
                replace hx247_1 := bcl HB hx247_1
                replace hx247_2 := bcl HB hx247_2
                replace hx247_3 := bcl HB hx247_3
                replace hx247_4 := bcl HB hx247_4
                replace p247 := eq_true p247
                replace q247 := eq_true q247
                have p32 : 0 ≤ (x54_2 : Int) := of_decide_eq_true (by first | (with_reducible assumption) | assumption)
                have q32 : (x54_2 : Int) < ((x9_2.length : Int) : Int) := of_decide_eq_true (by first | (with_reducible assumption) | assumption)
                obtain ⟨go32, co32, eo32, gb32, gl32, cl32, HG32⟩ := Kd.R_form HO_9.out (by omega)
                (first | cases eo32 | (injection eo32 with ea_ en_ ec_; (first | subst ea_ | (injection ea_ with ea_; subst ea_)); subst ec_; clear en_))
                have GB32 := AX gb32
                have GG32 := AX HG32
                clear gb32 gl32 HG32
                obtain ⟨ce32, hcl32, hM32, hcc32, hfr32⟩ := Kd.R_elem HO_9.out z45 (x54_2 : Int) p32 q32
                obtain rfl := k45_openM hM32
                have hx32_0 : World.cell? _ ⟨go32, (x54_2 : Int).toNat * 5, none⟩ = some (.int .i64 ((rd_T45 x9_2 x54_2).f0)) := hcc32 0 _ rfl
                have hx32_1 : World.cell? _ ⟨go32, (x54_2 : Int).toNat * 5 + 1, none⟩ = some (.int .i64 ((rd_T45 x9_2 x54_2).f1)) := hcc32 1 _ rfl
                have hx32_2 : World.cell? _ ⟨go32, (x54_2 : Int).toNat * 5 + 2, none⟩ = some (.int .i64 ((rd_T45 x9_2 x54_2).f2)) := hcc32 2 _ rfl
                have hx32_3 : World.cell? _ ⟨go32, (x54_2 : Int).toNat * 5 + 3, none⟩ = some (.int .i64 ((rd_T45 x9_2 x54_2).f3)) := hcc32 3 _ rfl
                have hx32_4 : World.cell? _ ⟨go32, (x54_2 : Int).toNat * 5 + 4, none⟩ = some (.int .u8 ((rd_T45 x9_2 x54_2).f4)) := hcc32 4 _ rfl
                have hf32_0 : World.frozen? _ ⟨go32, (x54_2 : Int).toNat * 5, none⟩ = false := hfr32 0
                have hf32_1 : World.frozen? _ ⟨go32, (x54_2 : Int).toNat * 5 + 1, none⟩ = false := hfr32 1
                have hf32_2 : World.frozen? _ ⟨go32, (x54_2 : Int).toNat * 5 + 2, none⟩ = false := hfr32 2
                have hf32_3 : World.frozen? _ ⟨go32, (x54_2 : Int).toNat * 5 + 3, none⟩ = false := hfr32 3
                have hf32_4 : World.frozen? _ ⟨go32, (x54_2 : Int).toNat * 5 + 4, none⟩ = false := hfr32 4
                clear hcl32 hcc32 hfr32 hM32
                replace p32 := eq_true p32
                replace q32 := eq_true q32
                obtain ⟨ce34, hcl34, hM34, hcc34, hfr34⟩ := Kd.R_elem HO_9.out z45 (x54_2 : Int) (of_decide_eq_true (by first | (with_reducible assumption) | assumption)) (by have h_ : (x54_2 : Int) < ((x9_2.length : Int) : Int) := of_decide_eq_true (by first | (with_reducible assumption) | assumption); first | exact h_ | (have e_ := (Kd.R_reads' HO_9.out).1; omega) | simpa using h_)
                obtain rfl := k45_openM hM34
                have HP34 := (Kd.R_seg HO_9.out (x54_2 : Int) (of_decide_eq_true (by first | (with_reducible assumption) | assumption)) (by have h_ : (x54_2 : Int) < ((x9_2.length : Int) : Int) := of_decide_eq_true (by first | (with_reducible assumption) | assumption); first | exact h_ | (have e_ := (Kd.R_reads' HO_9.out).1; omega) | simpa using h_) (seg := [.int .i64 ((rd_T45 l0_6 (rd t239 x54_2)).f0), .int .i64 ((rd_T45 l0_6 (rd t239 x54_2)).f1), .int .i64 ((rd_T45 l0_6 (rd t239 x54_2)).f2), .int .i64 ((rd_T45 l0_6 (rd t239 x54_2)).f3), .int .u8 ((rd_T45 l0_6 (rd t239 x54_2)).f4)]) (j := 0) hcl34 hcc34 (show 5 ≤ 5 from by decide) (x' := (⟨(rd_T45 l0_6 (rd t239 x54_2)).f0, (rd_T45 l0_6 (rd t239 x54_2)).f1, (rd_T45 l0_6 (rd t239 x54_2)).f2, (rd_T45 l0_6 (rd t239 x54_2)).f3, (rd_T45 l0_6 (rd t239 x54_2)).f4⟩ : S45)) (k45_mkM _ _ _ (⟨(rd_T45 l0_6 (rd t239 x54_2)).f0, (rd_T45 l0_6 (rd t239 x54_2)).f1, (rd_T45 l0_6 (rd t239 x54_2)).f2, (rd_T45 l0_6 (rd t239 x54_2)).f3, (rd_T45 l0_6 (rd t239 x54_2)).f4⟩ : S45) ) (fun _ hk => hk)).1
                rw [← Ny248.out] at HP34
                have HQ34 := AX HP34
                clear hcl34 hcc34 hfr34 hM34 HP34
                refine start_ (n := 12) (S := fun w' => w'.cell? ⟨gb232, 0, none⟩ = some (.string a0_0) ∧ w'.cell? ⟨gb232, 1, none⟩ = some (.int .i64 a0_1) ∧ w'.cell? ⟨gb232, 2, none⟩ = some (.int .i64 a0_2) ∧ w'.cell? ⟨gb232, 3, none⟩ = some (.int .i64 a0_3) ∧ w'.cell? ⟨gb232, 4, none⟩ = some (.int .i64 a0_4) ∧ w'.cell? ⟨gb232, 5, none⟩ = some (.int .i64 a0_5) ∧ w'.cell? ⟨gb232, 6, none⟩ = some (.slice (some ad247) l0_6.length c0_6) ∧ w'.cell? (ad245.add (x54_2).toNat) = some (.int .i64 (rd t239 x54_2)) ∧ w'.cell? (ad247.add (((rd t239 x54_2)).toNat * 5)) = some (.int .i64 ((rd_T45 l0_6 (rd t239 x54_2)).f0)) ∧ w'.cell? ⟨(ad247.add (((rd t239 x54_2)).toNat * 5)).block, (ad247.add (((rd t239 x54_2)).toNat * 5)).off + 1, none⟩ = some (.int .i64 ((rd_T45 l0_6 (rd t239 x54_2)).f1)) ∧ w'.cell? ⟨(ad247.add (((rd t239 x54_2)).toNat * 5)).block, (ad247.add (((rd t239 x54_2)).toNat * 5)).off + 2, none⟩ = some (.int .i64 ((rd_T45 l0_6 (rd t239 x54_2)).f2)) ∧ w'.cell? ⟨(ad247.add (((rd t239 x54_2)).toNat * 5)).block, (ad247.add (((rd t239 x54_2)).toNat * 5)).off + 3, none⟩ = some (.int .i64 ((rd_T45 l0_6 (rd t239 x54_2)).f3)) ∧ w'.cell? ⟨(ad247.add (((rd t239 x54_2)).toNat * 5)).block, (ad247.add (((rd t239 x54_2)).toNat * 5)).off + 4, none⟩ = some (.int .u8 ((rd_T45 l0_6 (rd t239 x54_2)).f4))) (ds := [11]) #[false, false, false, false, false, false, false, false, false, false, false, false] (by kernel_rfl) rfl rfl ⟨(blk_cell BK232.out 0).trans rfl, (blk_cell BK232.out 1).trans rfl, (blk_cell BK232.out 2).trans rfl, (blk_cell BK232.out 3).trans rfl, (blk_cell BK232.out 4).trans rfl, (blk_cell BK232.out 5).trans rfl, (blk_cell BK232.out 6).trans rfl, hx246_0, (bcl HB hw247_0), (bcl HB hw247_1), (bcl HB hw247_2), (bcl HB hw247_3), (bcl HB hw247_4)⟩ (fun hHeld => ?_); refine with_tabW pylonref11_Fill.tab12 pylonref11_Fill.bits12 (fun HT_ HW_ => ?_)
                generalize wr.drew = w33 at HO_6 HO_8 HO_9 BK232 HB GG32 HQ34 hf32_0 hf32_1 hf32_2 hf32_3 hf32_4 hx246_0 hx247_0 hx247_1 hx247_2 hx247_3 hx247_4 hx32_0 hx32_1 hx32_2 hx32_3 hx32_4 hHeld ⊢
                refine pure_ (i := 0) (N := some 62) (v := ?_) (a' := ?_) #[true, false, false, false, false, false, false, false, false, false, false, false] rfl rfl (any_of HT_.out (by kernel_rfl)) (fun _ _ _ h => h) (Or.inl ⟨by rfl, ?_⟩) ?_ ?_
                rotate_left
                ·intro w'
                 go_simp
                 with_reducible rfl
                rotate_left
                ·simp only [Act.put, List.setIfInBounds_toArray, List.set_cons_zero, List.set_cons_succ, i64_w, i32_w]
                 rfl
                refine pure_ (i := 1) (N := some 63) (v := ?_) (a' := ?_) #[true, true, false, false, false, false, false, false, false, false, false, false] rfl rfl (any_of HT_.out (by kernel_rfl)) (fun _ _ _ h => h) (Or.inl ⟨by rfl, ?_⟩) ?_ ?_
                rotate_left
                ·intro w'
                 go_simp
                 with_reducible rfl
                rotate_left
                ·simp only [Act.put, List.setIfInBounds_toArray, List.set_cons_zero, List.set_cons_succ, i64_w, i32_w]
                 rfl
                refine pure_ (i := 2) (N := some 64) (v := ?_) (a' := ?_) #[true, true, true, false, false, false, false, false, false, false, false, false] rfl rfl (any_of HT_.out (by kernel_rfl)) (fun _ _ _ h => h) (Or.inl ⟨by rfl, ?_⟩) ?_ ?_
                rotate_left
                ·intro w'
                 go_simp
                 with_reducible rfl
                rotate_left
                ·simp only [Act.put, List.setIfInBounds_toArray, List.set_cons_zero, List.set_cons_succ, i64_w, i32_w]
                 rfl
                refine pure_ (i := 4) (N := some 66) (v := ?_) (a' := ?_) #[true, true, true, false, true, false, false, false, false, false, false, false] rfl rfl (any_of HT_.out (by kernel_rfl)) (fun _ _ _ h => h) (Or.inl ⟨by rfl, ?_⟩) ?_ ?_
                rotate_left
                ·intro w'
                 go_simp
                 with_reducible rfl
                rotate_left
                ·simp only [Act.put, List.setIfInBounds_toArray, List.set_cons_zero, List.set_cons_succ, i64_w, i32_w]
                 rfl
                refine pure_ (i := 5) (N := some 67) (v := ?_) (a' := ?_) #[true, true, true, false, true, true, false, false, false, false, false, false] rfl rfl (any_of HT_.out (by kernel_rfl)) (fun _ _ _ h => h) (Or.inl ⟨by rfl, ?_⟩) ?_ ?_
                rotate_left
                ·intro w'
                 go_simp
                 with_reducible rfl
                rotate_left
                ·simp only [Act.put, List.setIfInBounds_toArray, List.set_cons_zero, List.set_cons_succ, i64_w, i32_w]
                 rfl
                refine pure_ (i := 6) (N := some 68) (v := ?_) (a' := ?_) #[true, true, true, false, true, true, true, false, false, false, false, false] rfl rfl (any_of HT_.out (by kernel_rfl)) (fun _ _ _ h => h) (Or.inl ⟨by rfl, ?_⟩) ?_ ?_
                rotate_left
                ·intro w'
                 go_simp
                 with_reducible rfl
                rotate_left
                ·simp only [Act.put, List.setIfInBounds_toArray, List.set_cons_zero, List.set_cons_succ, i64_w, i32_w]
                 rfl
                refine take_ (i := 3) (N := some 65) (v := ?_) (a' := ?_) #[true, true, true, true, true, true, true, false, false, false, false, false] rfl rfl (take_ofW HT_.out HW_.out (by kernel_rfl)) (fun _ _ _ h => h) (Or.inl ⟨by rfl, ?_⟩) hHeld ?_ ?_
                rotate_left
                ·rintro w' ⟨s0, s1, s2, s3, s4, s5, s6, s7, s8, s9, s10, s11, s12⟩
                 go_simp
                 with_reducible rfl
                rotate_left
                ·simp only [Act.put, List.setIfInBounds_toArray, List.set_cons_zero, List.set_cons_succ, i64_w, i32_w]
                 rfl
                refine take_ (i := 7) (N := some 69) (v := ?_) (a' := ?_) #[true, true, true, true, true, true, true, true, false, false, false, false] rfl rfl (take_ofW HT_.out HW_.out (by kernel_rfl)) (fun _ _ _ h => h) (Or.inl ⟨by rfl, ?_⟩) hHeld ?_ ?_
                rotate_left
                ·rintro w' ⟨s0, s1, s2, s3, s4, s5, s6, s7, s8, s9, s10, s11, s12⟩
                 go_simp
                 with_reducible rfl
                rotate_left
                ·simp only [Act.put, List.setIfInBounds_toArray, List.set_cons_zero, List.set_cons_succ, i64_w, i32_w]
                 rfl
                refine pure_ (i := 8) (N := some 70) (v := ?_) (a' := ?_) #[true, true, true, true, true, true, true, true, true, false, false, false] rfl rfl (any_of HT_.out (by kernel_rfl)) (fun _ _ _ h => h) (Or.inl ⟨by rfl, ?_⟩) ?_ ?_
                rotate_left
                ·intro w'
                 go_simp
                 with_reducible rfl
                rotate_left
                ·simp only [Act.put, List.setIfInBounds_toArray, List.set_cons_zero, List.set_cons_succ, i64_w, i32_w]
                 rfl
                refine take_ (i := 9) (N := some 71) (v := ?_) (a' := ?_) #[true, true, true, true, true, true, true, true, true, true, false, false] rfl rfl (take_ofW HT_.out HW_.out (by kernel_rfl)) (fun _ _ _ h => h) (Or.inl ⟨by rfl, ?_⟩) hHeld ?_ ?_
                rotate_left
                ·rintro w' ⟨s0, s1, s2, s3, s4, s5, s6, s7, s8, s9, s10, s11, s12⟩
                 go_simp
                 with_reducible rfl
                rotate_left
                ·simp only [Act.put, List.setIfInBounds_toArray, List.set_cons_zero, List.set_cons_succ, i64_w, i32_w]
                 rfl
                refine pure_ (i := 10) (N := some 72) (v := ?_) (a' := ?_) #[true, true, true, true, true, true, true, true, true, true, true, false] rfl rfl (any_of HT_.out (by kernel_rfl)) (fun _ _ _ h => h) (Or.inl ⟨by rfl, ?_⟩) ?_ ?_
                rotate_left
                ·intro w'
                 go_simp
                 with_reducible rfl
                rotate_left
                ·simp only [Act.put, List.setIfInBounds_toArray, List.set_cons_zero, List.set_cons_succ, i64_w, i32_w]
                 rfl
                refine last_ (i := 11) (N := none) #[true, true, true, true, true, true, true, true, true, true, true, true] rfl rfl (one_of HT_.out (by kernel_rfl)) (by decide) (fun K hK => ?_)
                refine skip_ (w1 := ?_) (by rfl) rfl ?_ ?_
                rotate_left
                ·go_simp
                 rfl
                refine hK.out _ _ ?_
                clear hK K
                refine done_ (done_of HT_.out (by kernel_rfl)) ?_
                try go_wp2
                go_roundg k2
                case measure => have := HJ4.out; have := HK2.out; omega
                case rel => exact ⟨(y248), (wrap64 (x54_2 + 1)), (by first | rfl | (simp; done) | (simp [*]; done)), H', ⟨by have := HJ4.out; have := HK2.out; omega⟩, ⟨by (with_reducible repeat (first | apply Kd.R_alloc | apply Kd.R_drewN | apply Kd.R_drew)); exact Kd.R_mono (Kd.R_far (p := ⟨go32, (x54_2 : Int).toNat * 5 + 4, none⟩) (Kd.R_far (p := ⟨go32, (x54_2 : Int).toNat * 5 + 3, none⟩) (Kd.R_far (p := ⟨go32, (x54_2 : Int).toNat * 5 + 2, none⟩) (Kd.R_far (p := ⟨go32, (x54_2 : Int).toNat * 5 + 1, none⟩) (Kd.R_far (p := ⟨go32, (x54_2 : Int).toNat * 5, none⟩) (Kd.R_types HO_6.out GG32.out (by decide)) (fun _ hk => hk.2) (.int .i64 ((rd_T45 l0_6 (rd t239 x54_2)).f0))) (fun _ hk => hk.2) (.int .i64 ((rd_T45 l0_6 (rd t239 x54_2)).f1))) (fun _ hk => hk.2) (.int .i64 ((rd_T45 l0_6 (rd t239 x54_2)).f2))) (fun _ hk => hk.2) (.int .i64 ((rd_T45 l0_6 (rd t239 x54_2)).f3))) (fun _ hk => hk.2) (.int .u8 ((rd_T45 l0_6 (rd t239 x54_2)).f4))) (fun _ hk => trivial)⟩, ⟨by (with_reducible repeat (first | apply Kd.R_alloc | apply Kd.R_drewN | apply Kd.R_drew)); exact Kd.R_mono (Kd.R_far (p := ⟨go32, (x54_2 : Int).toNat * 5 + 4, none⟩) (Kd.R_far (p := ⟨go32, (x54_2 : Int).toNat * 5 + 3, none⟩) (Kd.R_far (p := ⟨go32, (x54_2 : Int).toNat * 5 + 2, none⟩) (Kd.R_far (p := ⟨go32, (x54_2 : Int).toNat * 5 + 1, none⟩) (Kd.R_far (p := ⟨go32, (x54_2 : Int).toNat * 5, none⟩) (Kd.R_types HO_8.out GG32.out (by decide)) (fun _ hk => hk.2) (.int .i64 ((rd_T45 l0_6 (rd t239 x54_2)).f0))) (fun _ hk => hk.2) (.int .i64 ((rd_T45 l0_6 (rd t239 x54_2)).f1))) (fun _ hk => hk.2) (.int .i64 ((rd_T45 l0_6 (rd t239 x54_2)).f2))) (fun _ hk => hk.2) (.int .i64 ((rd_T45 l0_6 (rd t239 x54_2)).f3))) (fun _ hk => hk.2) (.int .u8 ((rd_T45 l0_6 (rd t239 x54_2)).f4))) (fun _ hk => trivial)⟩, ⟨kr HQ34⟩, ⟨by (with_reducible repeat first|refine blk_drewN ?_ _|refine blk_drew ?_|refine blk_alloc ?_ _); refine blk_far ?_ (by have h_ := Kd.R_ne HO_9.out BK232.out (by decide); intro e_; exact h_ (by rw [e_]; rfl)) _; (with_reducible repeat first|refine blk_drewN ?_ _|refine blk_drew ?_|refine blk_alloc ?_ _); refine blk_far ?_ (by have h_ := Kd.R_ne HO_9.out BK232.out (by decide); intro e_; exact h_ (by rw [e_]; rfl)) _; (with_reducible repeat first|refine blk_drewN ?_ _|refine blk_drew ?_|refine blk_alloc ?_ _); refine blk_far ?_ (by have h_ := Kd.R_ne HO_9.out BK232.out (by decide); intro e_; exact h_ (by rw [e_]; rfl)) _; (with_reducible repeat first|refine blk_drewN ?_ _|refine blk_drew ?_|refine blk_alloc ?_ _); refine blk_far ?_ (by have h_ := Kd.R_ne HO_9.out BK232.out (by decide); intro e_; exact h_ (by rw [e_]; rfl)) _; (with_reducible repeat first|refine blk_drewN ?_ _|refine blk_drew ?_|refine blk_alloc ?_ _); refine blk_far ?_ (by have h_ := Kd.R_ne HO_9.out BK232.out (by decide); intro e_; exact h_ (by rw [e_]; rfl)) _; (with_reducible repeat first|refine blk_drewN ?_ _|refine blk_drew ?_|refine blk_alloc ?_ _); exact BK232.out⟩, ⟨bw⟩⟩
               ·rw [if_neg c31] at H
                exact absurd H (by simp)
              ·rw [if_neg c30] at H
               exact absurd H (by simp)
             ·rw [if_neg c29] at H
              exact absurd H (by simp)
            ·rw [if_neg c28] at H
             have c28b0 : decide (0 ≤ (rd t239 x54_2)) = false := decide_eq_false c28
             clear c28
             have H' := AX H
             clear H
             have p245 : 0 ≤ (x54_2 : Int) := of_decide_eq_true (by first | (with_reducible assumption) | assumption)
             have q245 : x54_2 < (t239.length : Int) := of_decide_eq_true (by first | (with_reducible assumption) | assumption)
             obtain ⟨ad245, e245, hx245_0⟩ := Kd.at_int (Kd.R_reads' HO_8.out).2.2 x54_2 p245 q245
             cases e245
             replace p245 := eq_true p245
             replace q245 := eq_true q245
             go_wp2
             go_roundg k2
             case measure => have := HJ4.out; have := HK2.out; omega
             case rel => exact ⟨(x9_2), (wrap64 (x54_2 + 1)), (by first | rfl | (simp; done) | (simp [*]; done)), H', ⟨by have := HJ4.out; have := HK2.out; omega⟩, ⟨kr HO_6⟩, ⟨kr HO_8⟩, ⟨kr HO_9⟩, ⟨bkn BK232⟩, ⟨bw⟩⟩
           ·rw [if_neg c27] at H
            exact absurd H (by simp)
          ·rw [if_neg c26] at H
           exact absurd H (by simp)
         ·rw [if_neg c25] at H
          have c25b0 : decide (x54_2 < (t239.length : Int)) = false := decide_eq_false c25
          clear c25
          have H' := AX H
          clear H
          obtain ⟨Ao35, co35, eo35⟩ := Kd.R_slice HO_6.out
          subst eo35
          go_wp2
          go_loopg [76] k2 (fun kq v76 w' => ∃ (x9_3 : List (S45)) (x76_3 : Int), v76 = .int .i64 x76_3 ∧ Aside0 (pylonref11_Fill.l1 kq a1 t233 t239 x9_3 (t233.length : Int) x76_3 a0_0 a0_1 a0_2 a0_3 a0_4 a0_5 l0_6 = some (r1, r2)) ∧ Aside0 (kq ≤ k2) ∧ Aside0 (Kd.R k43 43 w' w.heap.size (fun _ => True) (.slice Ao35 t233.length co35) t233) ∧ Aside0 (Kd.R (Kd.int .i64) 3 w' w.heap.size (fun _ => True) (.slice Ao24 t239.length co24) t239) ∧ Aside0 (Kd.R k45 45 w' w.heap.size (fun _ => True) v243 x9_3) ∧ Aside0 (w'.heap[gb232]? = some (.cells #[.string a0_0, .int .i64 a0_1, .int .i64 a0_2, .int .i64 a0_3, .int .i64 a0_4, .int .i64 a0_5, (.slice A0_6 l0_6.length c0_6)] 31 (0, 0))) ∧ Aside0 (Below w.heap.size w w'))
          case atStart => exact ⟨(x9_2), (0), (by first | rfl | (simp; done) | (simp [*]; done)), H', ⟨Nat.le_refl _⟩, ⟨kr HO_6⟩, ⟨kr HO_8⟩, ⟨kr HO_9⟩, ⟨bkn BK232⟩, ⟨bw⟩⟩
          case round =>
           clear H'
           try clear c25b0
           obtain ⟨x9_3, x76_3, rfl, HA, HK3, HO_6, HO_8, HO_9, BK232, HB⟩ := hrel
           cases gk with
           | zero => exact absurd HA.out (by simp [pylonref11_Fill.l1])
           | succ k3 =>
            have H := HA.out
            clear HA
            simp only [pylonref11_Fill.l1] at H
            by_cases c36 : x76_3 < (t233.length : Int)
            ·rw [if_pos c36] at H
             have c36b0 : decide (x76_3 < (t233.length : Int)) = true := decide_eq_true c36
             clear c36
             by_cases c37 : 0 ≤ x76_3
             ·rw [if_pos c37] at H
              have c37b0 : decide (0 ≤ x76_3) = true := decide_eq_true c37
              clear c37
              by_cases c38 : x76_3 < (t233.length : Int)
              ·rw [if_pos c38] at H
               have c38b0 : decide (x76_3 < (t233.length : Int)) = true := decide_eq_true c38
               clear c38
               by_cases c39 : (wrap64 (((rd_T43 t233 x76_3).f1) - ((rd_T43 t233 x76_3).f0))) > a1
               ·rw [if_pos c39] at H
                have c39b0 : decide (a1 < (wrap64 (((rd_T43 t233 x76_3).f1) - ((rd_T43 t233 x76_3).f0)))) = true := decide_eq_true c39
                clear c39
                simp only [Option.some.injEq, Prod.mk.injEq] at H
                obtain ⟨rfl, rfl⟩ := H
                have p249 : 0 ≤ (x76_3 : Int) := of_decide_eq_true (by first | (with_reducible assumption) | assumption)
                have q249 : x76_3 < (t233.length : Int) := of_decide_eq_true (by first | (with_reducible assumption) | assumption)
                obtain ⟨ad249, e249, hx249_0, hx249_1⟩ := at_T43 (Kd.R_reads' HO_6.out).2.2 x76_3 p249 q249
                cases e249
                replace p249 := eq_true p249
                replace q249 := eq_true q249
                go_wp2_with (first | ((with_reducible refine gate_dst (N := 12) rfl ?_); refine bx 12 #[.int .i64 0, .int .i64 0] 43 ?_; intro gb250 hg w40 hbox hb; have BK250 := AX (hbox); have GW250 := gwl (w := w) hg bw; have GE250 := GW250; have NB232_250 := nbl hg (bkn BK232); have NB250_232 := nbg hg (bkn BK232); replace HO_6 := AX (Kd.R_below (Kd.R_elderB (kr HO_6) gb250 (Nat.le_of_eq hg.symm)) hb); replace HO_8 := AX (Kd.R_below (kr HO_8) hb); replace HO_9 := AX (Kd.R_below (kr HO_9) hb); replace BK232 := AX (bkb BK232 hb); replace HB := AX (below_step bw hb); clear hb hbox hg; have hnb41 := NB250_232.out; have hnc41 := NB232_250.out; obtain ⟨hcz42_0, hcz42_1⟩ := blkC2 (w := w40) BK250.out; obtain ⟨hfz42_0, hfz42_1⟩ := blkF2 BK250.out))
                go_ret2
                exact ⟨_, by first | rfl | (simp [errW_none, errW_some] <;> rfl) | (simp [*, errW_none, errW_some] <;> rfl), by first | exact Kd.R_nil _ _ _ _ _ | exact Kd.N_nil _ _ _ _ _ | exact Kd.V_nil _ _ _ _ _ | exact Kd.Q_nil _ _ _ _ _ | exact Kd.S_nil _ _ _ _ _, bw⟩
               ·rw [if_neg c39] at H
                have c39b0 : decide (a1 < (wrap64 (((rd_T43 t233 x76_3).f1) - ((rd_T43 t233 x76_3).f0)))) = false := decide_eq_false c39
                clear c39
                have HC43 := AX H
                clear H
                have p249 : 0 ≤ (x76_3 : Int) := of_decide_eq_true (by first | (with_reducible assumption) | assumption)
                have q249 : x76_3 < (t233.length : Int) := of_decide_eq_true (by first | (with_reducible assumption) | assumption)
                obtain ⟨ad249, e249, hx249_0, hx249_1⟩ := at_T43 (Kd.R_reads' HO_6.out).2.2 x76_3 p249 q249
                cases e249
                replace p249 := eq_true p249
                replace q249 := eq_true q249
                go_upto_if 94 with (first | ((with_reducible refine gate_dst (N := 12) rfl ?_); refine bx 12 #[.int .i64 0, .int .i64 0] 43 ?_; intro gb250 hg w44 hbox hb; have BK250 := AX (hbox); have GW250 := gwl (w := w) hg bw; have GE250 := GW250; have NB232_250 := nbl hg (bkn BK232); have NB250_232 := nbg hg (bkn BK232); replace HO_6 := AX (Kd.R_below (Kd.R_elderB (kr HO_6) gb250 (Nat.le_of_eq hg.symm)) hb); replace HO_8 := AX (Kd.R_below (kr HO_8) hb); replace HO_9 := AX (Kd.R_below (kr HO_9) hb); replace BK232 := AX (bkb BK232 hb); replace HB := AX (below_step bw hb); clear hb hbox hg; have hnb45 := NB250_232.out; have hnc45 := NB232_250.out; obtain ⟨hcz46_0, hcz46_1⟩ := blkC2 (w := w44) BK250.out; obtain ⟨hfz46_0, hfz46_1⟩ := blkF2 BK250.out) | ((with_reducible refine gate_dst (N := 13) rfl ?_); refine bx 13 #[.int .i64 0, .int .i64 0, .int .i64 0, .int .i64 0, .int .u8 0] 45 ?_; intro gb251 hg w47 hbox hb; have BK251 := AX (hbox); have GW251 := gwl (w := w) hg bw; have GE251 := GW251; have NB232_251 := AX ((by rw [hg]; exact Nat.ne_of_lt (blk_lt (g := gb232) (o := .cells #[.string a0_0, .int .i64 a0_1, .int .i64 a0_2, .int .i64 a0_3, .int .i64 a0_4, .int .i64 a0_5, .slice A0_6 l0_6.length c0_6] 31 (0, 0)) (by (with_reducible repeat first|refine blk_drewN ?_ _|refine blk_drew ?_|refine blk_alloc ?_ _|refine blk_far ?_ NB232_250.out _); exact BK232.out)) : gb232 ≠ gb251)); have NB251_232 := AX ((by rw [hg]; exact Nat.ne_of_gt (blk_lt (g := gb232) (o := .cells #[.string a0_0, .int .i64 a0_1, .int .i64 a0_2, .int .i64 a0_3, .int .i64 a0_4, .int .i64 a0_5, .slice A0_6 l0_6.length c0_6] 31 (0, 0)) (by (with_reducible repeat first|refine blk_drewN ?_ _|refine blk_drew ?_|refine blk_alloc ?_ _|refine blk_far ?_ NB232_250.out _); exact BK232.out)) : gb251 ≠ gb232)); have NB250_251 := AX ((by rw [hg]; exact Nat.ne_of_lt (blk_lt (g := gb250) (o := .cells #[.int .i64 ((rd_T43 t233 x76_3).f0), .int .i64 ((rd_T43 t233 x76_3).f1)] 43 (0, 0)) (by (with_reducible repeat first|refine blk_drewN ?_ _|refine blk_drew ?_|refine blk_alloc ?_ _); refine blk_put (cs := #[.int .i64 ((rd_T43 t233 x76_3).f0), .int .i64 0]) ?_ 1 _ rfl; (with_reducible repeat first|refine blk_drewN ?_ _|refine blk_drew ?_|refine blk_alloc ?_ _); refine blk_put (cs := #[.int .i64 0, .int .i64 0]) ?_ 0 _ rfl; (with_reducible repeat first|refine blk_drewN ?_ _|refine blk_drew ?_|refine blk_alloc ?_ _); exact BK250.out)) : gb250 ≠ gb251)); have NB251_250 := AX ((by rw [hg]; exact Nat.ne_of_gt (blk_lt (g := gb250) (o := .cells #[.int .i64 ((rd_T43 t233 x76_3).f0), .int .i64 ((rd_T43 t233 x76_3).f1)] 43 (0, 0)) (by (with_reducible repeat first|refine blk_drewN ?_ _|refine blk_drew ?_|refine blk_alloc ?_ _); refine blk_put (cs := #[.int .i64 ((rd_T43 t233 x76_3).f0), .int .i64 0]) ?_ 1 _ rfl; (with_reducible repeat first|refine blk_drewN ?_ _|refine blk_drew ?_|refine blk_alloc ?_ _); refine blk_put (cs := #[.int .i64 0, .int .i64 0]) ?_ 0 _ rfl; (with_reducible repeat first|refine blk_drewN ?_ _|refine blk_drew ?_|refine blk_alloc ?_ _); exact BK250.out)) : gb251 ≠ gb250)); replace HO_6 := AX (Kd.R_below (by (with_reducible repeat (first | apply Kd.R_alloc | apply Kd.R_drewN | apply Kd.R_drew)); exact (Kd.R_mono (Kd.R_far (p := ⟨gb250, 1, none⟩) (Kd.R_far (p := ⟨gb250, 0, none⟩) (Kd.R_mono HO_6.out (fun k_ hk => (⟨hk, hk.2⟩ : _ ∧ k_ ≠ gb250))) (fun _ hk => hk.2) (.int .i64 ((rd_T43 t233 x76_3).f0))) (fun _ hk => hk.2) (.int .i64 ((rd_T43 t233 x76_3).f1))) (fun _ h_ => h_.1))) hb); replace HO_8 := AX (Kd.R_below (by (with_reducible repeat (first | apply Kd.R_alloc | apply Kd.R_drewN | apply Kd.R_drew)); exact (Kd.R_mono (Kd.R_far (p := ⟨gb250, 1, none⟩) (Kd.R_far (p := ⟨gb250, 0, none⟩) (Kd.R_types HO_8.out BK250.out (by decide)) (fun _ hk => hk.2) (.int .i64 ((rd_T43 t233 x76_3).f0))) (fun _ hk => hk.2) (.int .i64 ((rd_T43 t233 x76_3).f1))) (fun _ h_ => h_.1))) hb); have EN251_9 := AX (fresh_ne_pylonref11_Fill hg (Kd.R_elderB (by (with_reducible repeat (first | apply Kd.R_alloc | apply Kd.R_drewN | apply Kd.R_drew)); exact (Kd.R_mono (Kd.R_far (p := ⟨gb250, 1, none⟩) (Kd.R_far (p := ⟨gb250, 0, none⟩) (Kd.R_types HO_9.out BK250.out (by decide)) (fun _ hk => hk.2) (.int .i64 ((rd_T43 t233 x76_3).f0))) (fun _ hk => hk.2) (.int .i64 ((rd_T43 t233 x76_3).f1))) (fun _ h_ => h_.1))) gb251 (Nat.le_of_eq hg.symm))); replace HO_9 := AX (Kd.R_below (Kd.R_elderB (by (with_reducible repeat (first | apply Kd.R_alloc | apply Kd.R_drewN | apply Kd.R_drew)); exact (Kd.R_mono (Kd.R_far (p := ⟨gb250, 1, none⟩) (Kd.R_far (p := ⟨gb250, 0, none⟩) (Kd.R_types HO_9.out BK250.out (by decide)) (fun _ hk => hk.2) (.int .i64 ((rd_T43 t233 x76_3).f0))) (fun _ hk => hk.2) (.int .i64 ((rd_T43 t233 x76_3).f1))) (fun _ h_ => h_.1))) gb251 (Nat.le_of_eq hg.symm)) hb); replace BK232 := AX (blk_below (g := gb232) (o := .cells #[.string a0_0, .int .i64 a0_1, .int .i64 a0_2, .int .i64 a0_3, .int .i64 a0_4, .int .i64 a0_5, .slice A0_6 l0_6.length c0_6] 31 (0, 0)) (by (with_reducible repeat first|refine blk_drewN ?_ _|refine blk_drew ?_|refine blk_alloc ?_ _|refine blk_far ?_ NB232_250.out _); exact BK232.out) hb); replace BK250 := AX (blk_below (g := gb250) (o := .cells #[.int .i64 ((rd_T43 t233 x76_3).f0), .int .i64 ((rd_T43 t233 x76_3).f1)] 43 (0, 0)) (by (with_reducible repeat first|refine blk_drewN ?_ _|refine blk_drew ?_|refine blk_alloc ?_ _); refine blk_put (cs := #[.int .i64 ((rd_T43 t233 x76_3).f0), .int .i64 0]) ?_ 1 _ rfl; (with_reducible repeat first|refine blk_drewN ?_ _|refine blk_drew ?_|refine blk_alloc ?_ _); refine blk_put (cs := #[.int .i64 0, .int .i64 0]) ?_ 0 _ rfl; (with_reducible repeat first|refine blk_drewN ?_ _|refine blk_drew ?_|refine blk_alloc ?_ _); exact BK250.out) hb); replace HB := AX (below_step bw hb); clear hb hbox hg) | ((with_reducible refine gate_dst (N := 14) rfl ?_); refine bx 14 #[.int .i64 0, .int .i64 0, .int .i64 0, .int .i64 0, .int .u8 0] 45 ?_; intro gb252 hg w48 hbox hb; have BK252 := AX (hbox); have GW252 := gwl (w := w) hg bw; have GE252 := GW252; have NB232_252 := nbl hg (bkn BK232); have NB252_232 := nbg hg (bkn BK232); have NB250_252 := nbl hg (bkn BK250); have NB252_250 := nbg hg (bkn BK250); have NB251_252 := nbl hg (bkn BK251); have NB252_251 := nbg hg (bkn BK251); replace HO_6 := AX (Kd.R_below (kr HO_6) hb); replace HO_8 := AX (Kd.R_below (kr HO_8) hb); have EN252_9 := AX (fresh_ne_pylonref11_Fill hg (Kd.R_elderB (kr HO_9) gb252 (Nat.le_of_eq hg.symm))); replace HO_9 := AX (Kd.R_below (Kd.R_elderB (kr HO_9) gb252 (Nat.le_of_eq hg.symm)) hb); replace BK232 := AX (bkb BK232 hb); replace BK250 := AX (bkb BK250 hb); replace BK251 := AX (bkb BK251 hb); replace HB := AX (below_step bw hb); clear hb hbox hg; have hnb49 := NB251_232.out; have hnc49 := NB232_251.out; have hnb50 := NB251_250.out; have hnc50 := NB250_251.out; have hnb51 := NB251_252.out; have hnc51 := NB252_251.out; obtain ⟨hcz52_0, hcz52_1, hcz52_2, hcz52_3, hcz52_4⟩ := blkC5 (w := w48) BK251.out; obtain ⟨hfz52_0, hfz52_1, hfz52_2, hfz52_3, hfz52_4⟩ := blkF5 BK251.out; have hnb53 := NB252_232.out; have hnc53 := NB232_252.out; have hnb54 := NB252_250.out; have hnc54 := NB250_252.out; obtain ⟨hcz55_0, hcz55_1, hcz55_2, hcz55_3, hcz55_4⟩ := blkC5 (w := w48) BK252.out; obtain ⟨hfz55_0, hfz55_1, hfz55_2, hfz55_3, hfz55_4⟩ := blkF5 BK252.out; obtain ⟨hcz56_0, hcz56_1⟩ := blkC2 (w := w48) BK250.out; obtain ⟨hfz56_0, hfz56_1⟩ := blkF2 BK250.out))
                (try simp only [Act.put, List.setIfInBounds_toArray, List.set_cons_zero, List.set_cons_succ])
                go_cut [] (fun wc => ∃ (kq : Nat) (x252000_42 : Int) (x252001_42 : Int) (x252002_42 : Int) (x252003_42 : Int) (x252004_42 : Int), Aside0 (pylonref11_Fill.j3 kq a1 t233 t239 x9_3 (t233.length : Int) x76_3 a0_0 a0_1 a0_2 a0_3 a0_4 a0_5 l0_6 ((rd_T43 t233 x76_3).f0) ((rd_T43 t233 x76_3).f1) x252000_42 x252001_42 x252002_42 x252003_42 x252004_42 0 0 0 0 0 = some (r1, r2)) ∧ Aside0 (kq ≤ k3) ∧ Aside0 (Kd.R k43 43 wc w.heap.size (fun k_ => k_ ≠ gb250) (.slice (some ad249) t233.length co35) t233) ∧ Aside0 (Kd.R (Kd.int .i64) 3 wc w.heap.size (fun _ => True) (.slice Ao24 t239.length co24) t239) ∧ Aside0 (Kd.R k45 45 wc w.heap.size (fun k_ => k_ ≠ gb251 ∧ k_ ≠ gb252) v243 x9_3) ∧ Aside0 (wc.heap[gb232]? = some (.cells #[.string a0_0, .int .i64 a0_1, .int .i64 a0_2, .int .i64 a0_3, .int .i64 a0_4, .int .i64 a0_5, (.slice A0_6 l0_6.length c0_6)] 31 (0, 0))) ∧ Aside0 (wc.heap[gb250]? = some (.cells #[.int .i64 ((rd_T43 t233 x76_3).f0), .int .i64 ((rd_T43 t233 x76_3).f1)] 43 (0, 0))) ∧ Aside0 (wc.heap[gb251]? = some (.cells #[.int .i64 x252000_42, .int .i64 x252001_42, .int .i64 x252002_42, .int .i64 x252003_42, .int .u8 x252004_42] 45 (0, 0))) ∧ Aside0 (wc.heap[gb252]? = some (.cells #[.int .i64 0, .int .i64 0, .int .i64 0, .int .i64 0, .int .u8 0] 45 (0, 0))) ∧ Aside0 (Below w.heap.size w wc))
                case first =>
                 have H := HC43.out
                 clear HC43
                 by_cases c57 : ((rd_T43 t233 x76_3).f0) > 0
                 ·rw [if_pos c57] at H
                  have c57b0 : decide (0 < ((rd_T43 t233 x76_3).f0)) = true := decide_eq_true c57
                  clear c57
                  (first | rw [c57b0] | (simp only [i64_w, i32_w]; rw [c57b0]) | skip)
                  obtain ⟨ji58, hji58⟩ : ∃ j_ : Int, (wrap64 (((rd_T43 t233 x76_3).f0) - 1)) = j_ := ⟨_, rfl⟩
                  replace H : (if 0 ≤ (ji58) then (if (ji58) < (x9_3.length : Int) then (pylonref11_Fill.j3 k3 a1 t233 t239 x9_3 (t233.length : Int) x76_3 a0_0 a0_1 a0_2 a0_3 a0_4 a0_5 l0_6 ((rd_T43 t233 x76_3).f0) ((rd_T43 t233 x76_3).f1) ((rd_T45 x9_3 (ji58)).f0) ((rd_T45 x9_3 (ji58)).f1) ((rd_T45 x9_3 (ji58)).f2) ((rd_T45 x9_3 (ji58)).f3) ((rd_T45 x9_3 (ji58)).f4) 0 0 0 0 0) else (none)) else (none)) = some (r1, r2) := by first | (rw [hji58] at H; exact H) | (simp only [hji58] at H ⊢; exact H)
                  have hji58w : (IntKind.i64.wrap (((rd_T43 t233 x76_3).f0) - 1)) = ji58 := (i64_w _).trans hji58
                  by_cases c59 : 0 ≤ (ji58)
                  ·rw [if_pos c59] at H
                   have c59b0 : decide (0 ≤ (ji58)) = true := decide_eq_true c59
                   clear c59
                   by_cases c60 : (ji58) < (x9_3.length : Int)
                   ·rw [if_pos c60] at H
                    have c60b0 : decide ((ji58) < (x9_3.length : Int)) = true := decide_eq_true c60
                    clear c60
                    have H' := AX H
                    clear H
                    have hnb61 := NB250_232.out
                    have hnc61 := NB232_250.out
                    have hnb62 := NB250_251.out
                    have hnc62 := NB251_250.out
                    have hnb63 := NB250_252.out
                    have hnc63 := NB252_250.out
                    obtain ⟨hcz64_0, hcz64_1⟩ := blkC2 (w := w48) BK250.out
                    obtain ⟨hfz64_0, hfz64_1⟩ := blkF2 BK250.out
                    obtain ⟨Ao65, co65, eo65⟩ := Kd.R_slice HO_9.out
                    subst eo65
                    have p253 : 0 ≤ ((ji58) : Int) := of_decide_eq_true (by first | (with_reducible assumption) | assumption)
                    have q253 : (ji58) < (x9_3.length : Int) := of_decide_eq_true (by first | (with_reducible assumption) | assumption)
                    obtain ⟨ad253, e253, hx253_0, hx253_1, hx253_2, hx253_3, hx253_4⟩ := at_T45 (Kd.R_reads' HO_9.out).2.2 (ji58) p253 q253
                    cases e253
                    have hn253_0 : ad253.block ≠ gb251 := Kd.own_blk (EN251_9.out)
                    have hn253_1 : ad253.block ≠ gb251 := Kd.own_blk (EN251_9.out)
                    have hn253_2 : ad253.block ≠ gb251 := Kd.own_blk (EN251_9.out)
                    have hn253_3 : ad253.block ≠ gb251 := Kd.own_blk (EN251_9.out)
                    have hn253_4 : ad253.block ≠ gb251 := Kd.own_blk (EN251_9.out)
                    have hn253_5 : ad253.block ≠ gb252 := Kd.own_blk (EN252_9.out)
                    have hn253_6 : ad253.block ≠ gb252 := Kd.own_blk (EN252_9.out)
                    have hn253_7 : ad253.block ≠ gb252 := Kd.own_blk (EN252_9.out)
                    have hn253_8 : ad253.block ≠ gb252 := Kd.own_blk (EN252_9.out)
                    have hn253_9 : ad253.block ≠ gb252 := Kd.own_blk (EN252_9.out)
                    replace hx253_0 := (cell_far (p := ⟨gb251, 0, none⟩) (by first | (rw [add_block]; exact hn253_0) | (show (Addr.add _ _).block ≠ _; rw [add_block]; exact hn253_0) | exact hn253_0) (.int .i64 0)).trans hx253_0
                    replace hx253_1 := (cell_far (p := ⟨gb251, 0, none⟩) (by first | (rw [add_block]; exact hn253_0) | (show (Addr.add _ _).block ≠ _; rw [add_block]; exact hn253_0) | exact hn253_0) (.int .i64 0)).trans hx253_1
                    replace hx253_2 := (cell_far (p := ⟨gb251, 0, none⟩) (by first | (rw [add_block]; exact hn253_0) | (show (Addr.add _ _).block ≠ _; rw [add_block]; exact hn253_0) | exact hn253_0) (.int .i64 0)).trans hx253_2
                    replace hx253_3 := (cell_far (p := ⟨gb251, 0, none⟩) (by first | (rw [add_block]; exact hn253_0) | (show (Addr.add _ _).block ≠ _; rw [add_block]; exact hn253_0) | exact hn253_0) (.int .i64 0)).trans hx253_3
                    replace hx253_4 := (cell_far (p := ⟨gb251, 0, none⟩) (by first | (rw [add_block]; exact hn253_0) | (show (Addr.add _ _).block ≠ _; rw [add_block]; exact hn253_0) | exact hn253_0) (.int .i64 0)).trans hx253_4
                    replace hx253_0 := (cell_far (p := ⟨gb251, 1, none⟩) (by first | (rw [add_block]; exact hn253_1) | (show (Addr.add _ _).block ≠ _; rw [add_block]; exact hn253_1) | exact hn253_1) (.int .i64 0)).trans hx253_0
                    replace hx253_1 := (cell_far (p := ⟨gb251, 1, none⟩) (by first | (rw [add_block]; exact hn253_1) | (show (Addr.add _ _).block ≠ _; rw [add_block]; exact hn253_1) | exact hn253_1) (.int .i64 0)).trans hx253_1
                    replace hx253_2 := (cell_far (p := ⟨gb251, 1, none⟩) (by first | (rw [add_block]; exact hn253_1) | (show (Addr.add _ _).block ≠ _; rw [add_block]; exact hn253_1) | exact hn253_1) (.int .i64 0)).trans hx253_2
                    replace hx253_3 := (cell_far (p := ⟨gb251, 1, none⟩) (by first | (rw [add_block]; exact hn253_1) | (show (Addr.add _ _).block ≠ _; rw [add_block]; exact hn253_1) | exact hn253_1) (.int .i64 0)).trans hx253_3
                    replace hx253_4 := (cell_far (p := ⟨gb251, 1, none⟩) (by first | (rw [add_block]; exact hn253_1) | (show (Addr.add _ _).block ≠ _; rw [add_block]; exact hn253_1) | exact hn253_1) (.int .i64 0)).trans hx253_4
                    replace hx253_0 := (cell_far (p := ⟨gb251, 2, none⟩) (by first | (rw [add_block]; exact hn253_2) | (show (Addr.add _ _).block ≠ _; rw [add_block]; exact hn253_2) | exact hn253_2) (.int .i64 0)).trans hx253_0
                    replace hx253_1 := (cell_far (p := ⟨gb251, 2, none⟩) (by first | (rw [add_block]; exact hn253_2) | (show (Addr.add _ _).block ≠ _; rw [add_block]; exact hn253_2) | exact hn253_2) (.int .i64 0)).trans hx253_1
                    replace hx253_2 := (cell_far (p := ⟨gb251, 2, none⟩) (by first | (rw [add_block]; exact hn253_2) | (show (Addr.add _ _).block ≠ _; rw [add_block]; exact hn253_2) | exact hn253_2) (.int .i64 0)).trans hx253_2
                    replace hx253_3 := (cell_far (p := ⟨gb251, 2, none⟩) (by first | (rw [add_block]; exact hn253_2) | (show (Addr.add _ _).block ≠ _; rw [add_block]; exact hn253_2) | exact hn253_2) (.int .i64 0)).trans hx253_3
                    replace hx253_4 := (cell_far (p := ⟨gb251, 2, none⟩) (by first | (rw [add_block]; exact hn253_2) | (show (Addr.add _ _).block ≠ _; rw [add_block]; exact hn253_2) | exact hn253_2) (.int .i64 0)).trans hx253_4
                    replace hx253_0 := (cell_far (p := ⟨gb251, 3, none⟩) (by first | (rw [add_block]; exact hn253_3) | (show (Addr.add _ _).block ≠ _; rw [add_block]; exact hn253_3) | exact hn253_3) (.int .i64 0)).trans hx253_0
                    replace hx253_1 := (cell_far (p := ⟨gb251, 3, none⟩) (by first | (rw [add_block]; exact hn253_3) | (show (Addr.add _ _).block ≠ _; rw [add_block]; exact hn253_3) | exact hn253_3) (.int .i64 0)).trans hx253_1
                    replace hx253_2 := (cell_far (p := ⟨gb251, 3, none⟩) (by first | (rw [add_block]; exact hn253_3) | (show (Addr.add _ _).block ≠ _; rw [add_block]; exact hn253_3) | exact hn253_3) (.int .i64 0)).trans hx253_2
                    replace hx253_3 := (cell_far (p := ⟨gb251, 3, none⟩) (by first | (rw [add_block]; exact hn253_3) | (show (Addr.add _ _).block ≠ _; rw [add_block]; exact hn253_3) | exact hn253_3) (.int .i64 0)).trans hx253_3
                    replace hx253_4 := (cell_far (p := ⟨gb251, 3, none⟩) (by first | (rw [add_block]; exact hn253_3) | (show (Addr.add _ _).block ≠ _; rw [add_block]; exact hn253_3) | exact hn253_3) (.int .i64 0)).trans hx253_4
                    replace hx253_0 := (cell_far (p := ⟨gb251, 4, none⟩) (by first | (rw [add_block]; exact hn253_4) | (show (Addr.add _ _).block ≠ _; rw [add_block]; exact hn253_4) | exact hn253_4) (.int .u8 0)).trans hx253_0
                    replace hx253_1 := (cell_far (p := ⟨gb251, 4, none⟩) (by first | (rw [add_block]; exact hn253_4) | (show (Addr.add _ _).block ≠ _; rw [add_block]; exact hn253_4) | exact hn253_4) (.int .u8 0)).trans hx253_1
                    replace hx253_2 := (cell_far (p := ⟨gb251, 4, none⟩) (by first | (rw [add_block]; exact hn253_4) | (show (Addr.add _ _).block ≠ _; rw [add_block]; exact hn253_4) | exact hn253_4) (.int .u8 0)).trans hx253_2
                    replace hx253_3 := (cell_far (p := ⟨gb251, 4, none⟩) (by first | (rw [add_block]; exact hn253_4) | (show (Addr.add _ _).block ≠ _; rw [add_block]; exact hn253_4) | exact hn253_4) (.int .u8 0)).trans hx253_3
                    replace hx253_4 := (cell_far (p := ⟨gb251, 4, none⟩) (by first | (rw [add_block]; exact hn253_4) | (show (Addr.add _ _).block ≠ _; rw [add_block]; exact hn253_4) | exact hn253_4) (.int .u8 0)).trans hx253_4
                    replace hx253_0 := (cell_far (p := ⟨gb252, 0, none⟩) (by first | (rw [add_block]; exact hn253_5) | (show (Addr.add _ _).block ≠ _; rw [add_block]; exact hn253_5) | exact hn253_5) (.int .i64 0)).trans hx253_0
                    replace hx253_1 := (cell_far (p := ⟨gb252, 0, none⟩) (by first | (rw [add_block]; exact hn253_5) | (show (Addr.add _ _).block ≠ _; rw [add_block]; exact hn253_5) | exact hn253_5) (.int .i64 0)).trans hx253_1
                    replace hx253_2 := (cell_far (p := ⟨gb252, 0, none⟩) (by first | (rw [add_block]; exact hn253_5) | (show (Addr.add _ _).block ≠ _; rw [add_block]; exact hn253_5) | exact hn253_5) (.int .i64 0)).trans hx253_2
                    replace hx253_3 := (cell_far (p := ⟨gb252, 0, none⟩) (by first | (rw [add_block]; exact hn253_5) | (show (Addr.add _ _).block ≠ _; rw [add_block]; exact hn253_5) | exact hn253_5) (.int .i64 0)).trans hx253_3
                    replace hx253_4 := (cell_far (p := ⟨gb252, 0, none⟩) (by first | (rw [add_block]; exact hn253_5) | (show (Addr.add _ _).block ≠ _; rw [add_block]; exact hn253_5) | exact hn253_5) (.int .i64 0)).trans hx253_4
                    replace hx253_0 := (cell_far (p := ⟨gb252, 1, none⟩) (by first | (rw [add_block]; exact hn253_6) | (show (Addr.add _ _).block ≠ _; rw [add_block]; exact hn253_6) | exact hn253_6) (.int .i64 0)).trans hx253_0
                    replace hx253_1 := (cell_far (p := ⟨gb252, 1, none⟩) (by first | (rw [add_block]; exact hn253_6) | (show (Addr.add _ _).block ≠ _; rw [add_block]; exact hn253_6) | exact hn253_6) (.int .i64 0)).trans hx253_1
                    replace hx253_2 := (cell_far (p := ⟨gb252, 1, none⟩) (by first | (rw [add_block]; exact hn253_6) | (show (Addr.add _ _).block ≠ _; rw [add_block]; exact hn253_6) | exact hn253_6) (.int .i64 0)).trans hx253_2
                    replace hx253_3 := (cell_far (p := ⟨gb252, 1, none⟩) (by first | (rw [add_block]; exact hn253_6) | (show (Addr.add _ _).block ≠ _; rw [add_block]; exact hn253_6) | exact hn253_6) (.int .i64 0)).trans hx253_3
                    replace hx253_4 := (cell_far (p := ⟨gb252, 1, none⟩) (by first | (rw [add_block]; exact hn253_6) | (show (Addr.add _ _).block ≠ _; rw [add_block]; exact hn253_6) | exact hn253_6) (.int .i64 0)).trans hx253_4
                    replace hx253_0 := (cell_far (p := ⟨gb252, 2, none⟩) (by first | (rw [add_block]; exact hn253_7) | (show (Addr.add _ _).block ≠ _; rw [add_block]; exact hn253_7) | exact hn253_7) (.int .i64 0)).trans hx253_0
                    replace hx253_1 := (cell_far (p := ⟨gb252, 2, none⟩) (by first | (rw [add_block]; exact hn253_7) | (show (Addr.add _ _).block ≠ _; rw [add_block]; exact hn253_7) | exact hn253_7) (.int .i64 0)).trans hx253_1
                    replace hx253_2 := (cell_far (p := ⟨gb252, 2, none⟩) (by first | (rw [add_block]; exact hn253_7) | (show (Addr.add _ _).block ≠ _; rw [add_block]; exact hn253_7) | exact hn253_7) (.int .i64 0)).trans hx253_2
                    replace hx253_3 := (cell_far (p := ⟨gb252, 2, none⟩) (by first | (rw [add_block]; exact hn253_7) | (show (Addr.add _ _).block ≠ _; rw [add_block]; exact hn253_7) | exact hn253_7) (.int .i64 0)).trans hx253_3
                    replace hx253_4 := (cell_far (p := ⟨gb252, 2, none⟩) (by first | (rw [add_block]; exact hn253_7) | (show (Addr.add _ _).block ≠ _; rw [add_block]; exact hn253_7) | exact hn253_7) (.int .i64 0)).trans hx253_4
                    replace hx253_0 := (cell_far (p := ⟨gb252, 3, none⟩) (by first | (rw [add_block]; exact hn253_8) | (show (Addr.add _ _).block ≠ _; rw [add_block]; exact hn253_8) | exact hn253_8) (.int .i64 0)).trans hx253_0
                    replace hx253_1 := (cell_far (p := ⟨gb252, 3, none⟩) (by first | (rw [add_block]; exact hn253_8) | (show (Addr.add _ _).block ≠ _; rw [add_block]; exact hn253_8) | exact hn253_8) (.int .i64 0)).trans hx253_1
                    replace hx253_2 := (cell_far (p := ⟨gb252, 3, none⟩) (by first | (rw [add_block]; exact hn253_8) | (show (Addr.add _ _).block ≠ _; rw [add_block]; exact hn253_8) | exact hn253_8) (.int .i64 0)).trans hx253_2
                    replace hx253_3 := (cell_far (p := ⟨gb252, 3, none⟩) (by first | (rw [add_block]; exact hn253_8) | (show (Addr.add _ _).block ≠ _; rw [add_block]; exact hn253_8) | exact hn253_8) (.int .i64 0)).trans hx253_3
                    replace hx253_4 := (cell_far (p := ⟨gb252, 3, none⟩) (by first | (rw [add_block]; exact hn253_8) | (show (Addr.add _ _).block ≠ _; rw [add_block]; exact hn253_8) | exact hn253_8) (.int .i64 0)).trans hx253_4
                    replace hx253_0 := (cell_far (p := ⟨gb252, 4, none⟩) (by first | (rw [add_block]; exact hn253_9) | (show (Addr.add _ _).block ≠ _; rw [add_block]; exact hn253_9) | exact hn253_9) (.int .u8 0)).trans hx253_0
                    replace hx253_1 := (cell_far (p := ⟨gb252, 4, none⟩) (by first | (rw [add_block]; exact hn253_9) | (show (Addr.add _ _).block ≠ _; rw [add_block]; exact hn253_9) | exact hn253_9) (.int .u8 0)).trans hx253_1
                    replace hx253_2 := (cell_far (p := ⟨gb252, 4, none⟩) (by first | (rw [add_block]; exact hn253_9) | (show (Addr.add _ _).block ≠ _; rw [add_block]; exact hn253_9) | exact hn253_9) (.int .u8 0)).trans hx253_2
                    replace hx253_3 := (cell_far (p := ⟨gb252, 4, none⟩) (by first | (rw [add_block]; exact hn253_9) | (show (Addr.add _ _).block ≠ _; rw [add_block]; exact hn253_9) | exact hn253_9) (.int .u8 0)).trans hx253_3
                    replace hx253_4 := (cell_far (p := ⟨gb252, 4, none⟩) (by first | (rw [add_block]; exact hn253_9) | (show (Addr.add _ _).block ≠ _; rw [add_block]; exact hn253_9) | exact hn253_9) (.int .u8 0)).trans hx253_4
                    clear hn253_0
                    clear hn253_1
                    clear hn253_2
                    clear hn253_3
                    clear hn253_4
                    clear hn253_5
                    clear hn253_6
                    clear hn253_7
                    clear hn253_8
                    clear hn253_9
                    replace p253 := eq_true p253
                    replace q253 := eq_true q253
                    have hnb66 := NB251_232.out
                    have hnc66 := NB232_251.out
                    have hnb67 := NB251_252.out
                    have hnc67 := NB252_251.out
                    obtain ⟨hcz68_0, hcz68_1, hcz68_2, hcz68_3, hcz68_4⟩ := blkC5 (w := w48) BK251.out
                    obtain ⟨hfz68_0, hfz68_1, hfz68_2, hfz68_3, hfz68_4⟩ := blkF5 BK251.out
                    go_wp2
                    go_meet
                    case rel => exact ⟨_, ((rd_T45 x9_3 (ji58)).f0), ((rd_T45 x9_3 (ji58)).f1), ((rd_T45 x9_3 (ji58)).f2), ((rd_T45 x9_3 (ji58)).f3), ((rd_T45 x9_3 (ji58)).f4), H', ⟨by have := HJ4.out; have := HK2.out; have := HK3.out; first | omega | exact Nat.le_refl _⟩, ⟨by (with_reducible repeat (first | apply Kd.R_alloc | apply Kd.R_drewN | apply Kd.R_drew)); exact Kd.R_mono (Kd.R_far (p := ⟨gb251, 4, none⟩) (Kd.R_far (p := ⟨gb251, 3, none⟩) (Kd.R_far (p := ⟨gb251, 2, none⟩) (Kd.R_far (p := ⟨gb251, 1, none⟩) (Kd.R_far (p := ⟨gb251, 0, none⟩) (Kd.R_far (p := ⟨gb252, 4, none⟩) (Kd.R_far (p := ⟨gb252, 3, none⟩) (Kd.R_far (p := ⟨gb252, 2, none⟩) (Kd.R_far (p := ⟨gb252, 1, none⟩) (Kd.R_far (p := ⟨gb252, 0, none⟩) (Kd.R_far (p := ⟨gb251, 4, none⟩) (Kd.R_far (p := ⟨gb251, 3, none⟩) (Kd.R_far (p := ⟨gb251, 2, none⟩) (Kd.R_far (p := ⟨gb251, 1, none⟩) (Kd.R_far (p := ⟨gb251, 0, none⟩) (Kd.R_types (Kd.R_types HO_6.out BK251.out (by decide)) BK252.out (by decide)) (fun _ hk => hk.1.2) (.int .i64 0)) (fun _ hk => hk.1.2) (.int .i64 0)) (fun _ hk => hk.1.2) (.int .i64 0)) (fun _ hk => hk.1.2) (.int .i64 0)) (fun _ hk => hk.1.2) (.int .u8 0)) (fun _ hk => hk.2) (.int .i64 0)) (fun _ hk => hk.2) (.int .i64 0)) (fun _ hk => hk.2) (.int .i64 0)) (fun _ hk => hk.2) (.int .i64 0)) (fun _ hk => hk.2) (.int .u8 0)) (fun _ hk => hk.1.2) (.int .i64 ((rd_T45 x9_3 (ji58)).f0))) (fun _ hk => hk.1.2) (.int .i64 ((rd_T45 x9_3 (ji58)).f1))) (fun _ hk => hk.1.2) (.int .i64 ((rd_T45 x9_3 (ji58)).f2))) (fun _ hk => hk.1.2) (.int .i64 ((rd_T45 x9_3 (ji58)).f3))) (fun _ hk => hk.1.2) (.int .u8 ((rd_T45 x9_3 (ji58)).f4))) (fun _ hk => hk.1.1.2)⟩, ⟨by (with_reducible repeat (first | apply Kd.R_alloc | apply Kd.R_drewN | apply Kd.R_drew)); exact Kd.R_mono (Kd.R_far (p := ⟨gb251, 4, none⟩) (Kd.R_far (p := ⟨gb251, 3, none⟩) (Kd.R_far (p := ⟨gb251, 2, none⟩) (Kd.R_far (p := ⟨gb251, 1, none⟩) (Kd.R_far (p := ⟨gb251, 0, none⟩) (Kd.R_far (p := ⟨gb252, 4, none⟩) (Kd.R_far (p := ⟨gb252, 3, none⟩) (Kd.R_far (p := ⟨gb252, 2, none⟩) (Kd.R_far (p := ⟨gb252, 1, none⟩) (Kd.R_far (p := ⟨gb252, 0, none⟩) (Kd.R_far (p := ⟨gb251, 4, none⟩) (Kd.R_far (p := ⟨gb251, 3, none⟩) (Kd.R_far (p := ⟨gb251, 2, none⟩) (Kd.R_far (p := ⟨gb251, 1, none⟩) (Kd.R_far (p := ⟨gb251, 0, none⟩) (Kd.R_types (Kd.R_types HO_8.out BK251.out (by decide)) BK252.out (by decide)) (fun _ hk => hk.1.2) (.int .i64 0)) (fun _ hk => hk.1.2) (.int .i64 0)) (fun _ hk => hk.1.2) (.int .i64 0)) (fun _ hk => hk.1.2) (.int .i64 0)) (fun _ hk => hk.1.2) (.int .u8 0)) (fun _ hk => hk.2) (.int .i64 0)) (fun _ hk => hk.2) (.int .i64 0)) (fun _ hk => hk.2) (.int .i64 0)) (fun _ hk => hk.2) (.int .i64 0)) (fun _ hk => hk.2) (.int .u8 0)) (fun _ hk => hk.1.2) (.int .i64 ((rd_T45 x9_3 (ji58)).f0))) (fun _ hk => hk.1.2) (.int .i64 ((rd_T45 x9_3 (ji58)).f1))) (fun _ hk => hk.1.2) (.int .i64 ((rd_T45 x9_3 (ji58)).f2))) (fun _ hk => hk.1.2) (.int .i64 ((rd_T45 x9_3 (ji58)).f3))) (fun _ hk => hk.1.2) (.int .u8 ((rd_T45 x9_3 (ji58)).f4))) (fun _ hk => trivial)⟩, ⟨by (with_reducible repeat (first | apply Kd.R_alloc | apply Kd.R_drewN | apply Kd.R_drew)); exact Kd.R_mono (Kd.R_far (p := ⟨gb251, 4, none⟩) (Kd.R_far (p := ⟨gb251, 3, none⟩) (Kd.R_far (p := ⟨gb251, 2, none⟩) (Kd.R_far (p := ⟨gb251, 1, none⟩) (Kd.R_far (p := ⟨gb251, 0, none⟩) (Kd.R_far (p := ⟨gb252, 4, none⟩) (Kd.R_far (p := ⟨gb252, 3, none⟩) (Kd.R_far (p := ⟨gb252, 2, none⟩) (Kd.R_far (p := ⟨gb252, 1, none⟩) (Kd.R_far (p := ⟨gb252, 0, none⟩) (Kd.R_far (p := ⟨gb251, 4, none⟩) (Kd.R_far (p := ⟨gb251, 3, none⟩) (Kd.R_far (p := ⟨gb251, 2, none⟩) (Kd.R_far (p := ⟨gb251, 1, none⟩) (Kd.R_far (p := ⟨gb251, 0, none⟩) (Kd.R_mono (Kd.R_mono HO_9.out (fun k_ hk => (⟨hk, hk.1.2⟩ : _ ∧ k_ ≠ gb251))) (fun k_ hk => (⟨hk, hk.1.2⟩ : _ ∧ k_ ≠ gb252))) (fun _ hk => hk.1.2) (.int .i64 0)) (fun _ hk => hk.1.2) (.int .i64 0)) (fun _ hk => hk.1.2) (.int .i64 0)) (fun _ hk => hk.1.2) (.int .i64 0)) (fun _ hk => hk.1.2) (.int .u8 0)) (fun _ hk => hk.2) (.int .i64 0)) (fun _ hk => hk.2) (.int .i64 0)) (fun _ hk => hk.2) (.int .i64 0)) (fun _ hk => hk.2) (.int .i64 0)) (fun _ hk => hk.2) (.int .u8 0)) (fun _ hk => hk.1.2) (.int .i64 ((rd_T45 x9_3 (ji58)).f0))) (fun _ hk => hk.1.2) (.int .i64 ((rd_T45 x9_3 (ji58)).f1))) (fun _ hk => hk.1.2) (.int .i64 ((rd_T45 x9_3 (ji58)).f2))) (fun _ hk => hk.1.2) (.int .i64 ((rd_T45 x9_3 (ji58)).f3))) (fun _ hk => hk.1.2) (.int .u8 ((rd_T45 x9_3 (ji58)).f4))) (fun _ hk => ⟨hk.1.1.1.2, hk.1.1.2⟩)⟩, ⟨by (with_reducible repeat first|refine blk_drewN ?_ _|refine blk_drew ?_|refine blk_alloc ?_ _); refine blk_far ?_ NB232_251.out _; (with_reducible repeat first|refine blk_drewN ?_ _|refine blk_drew ?_|refine blk_alloc ?_ _); refine blk_far ?_ NB232_251.out _; (with_reducible repeat first|refine blk_drewN ?_ _|refine blk_drew ?_|refine blk_alloc ?_ _); refine blk_far ?_ NB232_251.out _; (with_reducible repeat first|refine blk_drewN ?_ _|refine blk_drew ?_|refine blk_alloc ?_ _); refine blk_far ?_ NB232_251.out _; (with_reducible repeat first|refine blk_drewN ?_ _|refine blk_drew ?_|refine blk_alloc ?_ _); refine blk_far ?_ NB232_251.out _; (with_reducible repeat first|refine blk_drewN ?_ _|refine blk_drew ?_|refine blk_alloc ?_ _); refine blk_far ?_ NB232_252.out _; (with_reducible repeat first|refine blk_drewN ?_ _|refine blk_drew ?_|refine blk_alloc ?_ _); refine blk_far ?_ NB232_252.out _; (with_reducible repeat first|refine blk_drewN ?_ _|refine blk_drew ?_|refine blk_alloc ?_ _); refine blk_far ?_ NB232_252.out _; (with_reducible repeat first|refine blk_drewN ?_ _|refine blk_drew ?_|refine blk_alloc ?_ _); refine blk_far ?_ NB232_252.out _; (with_reducible repeat first|refine blk_drewN ?_ _|refine blk_drew ?_|refine blk_alloc ?_ _); refine blk_far ?_ NB232_252.out _; (with_reducible repeat first|refine blk_drewN ?_ _|refine blk_drew ?_|refine blk_alloc ?_ _); refine blk_far ?_ NB232_251.out _; (with_reducible repeat first|refine blk_drewN ?_ _|refine blk_drew ?_|refine blk_alloc ?_ _); refine blk_far ?_ NB232_251.out _; (with_reducible repeat first|refine blk_drewN ?_ _|refine blk_drew ?_|refine blk_alloc ?_ _); refine blk_far ?_ NB232_251.out _; (with_reducible repeat first|refine blk_drewN ?_ _|refine blk_drew ?_|refine blk_alloc ?_ _); refine blk_far ?_ NB232_251.out _; (with_reducible repeat first|refine blk_drewN ?_ _|refine blk_drew ?_|refine blk_alloc ?_ _); refine blk_far ?_ NB232_251.out _; (with_reducible repeat first|refine blk_drewN ?_ _|refine blk_drew ?_|refine blk_alloc ?_ _); exact BK232.out⟩, ⟨by (with_reducible repeat first|refine blk_drewN ?_ _|refine blk_drew ?_|refine blk_alloc ?_ _); refine blk_far ?_ NB250_251.out _; (with_reducible repeat first|refine blk_drewN ?_ _|refine blk_drew ?_|refine blk_alloc ?_ _); refine blk_far ?_ NB250_251.out _; (with_reducible repeat first|refine blk_drewN ?_ _|refine blk_drew ?_|refine blk_alloc ?_ _); refine blk_far ?_ NB250_251.out _; (with_reducible repeat first|refine blk_drewN ?_ _|refine blk_drew ?_|refine blk_alloc ?_ _); refine blk_far ?_ NB250_251.out _; (with_reducible repeat first|refine blk_drewN ?_ _|refine blk_drew ?_|refine blk_alloc ?_ _); refine blk_far ?_ NB250_251.out _; (with_reducible repeat first|refine blk_drewN ?_ _|refine blk_drew ?_|refine blk_alloc ?_ _); refine blk_far ?_ NB250_252.out _; (with_reducible repeat first|refine blk_drewN ?_ _|refine blk_drew ?_|refine blk_alloc ?_ _); refine blk_far ?_ NB250_252.out _; (with_reducible repeat first|refine blk_drewN ?_ _|refine blk_drew ?_|refine blk_alloc ?_ _); refine blk_far ?_ NB250_252.out _; (with_reducible repeat first|refine blk_drewN ?_ _|refine blk_drew ?_|refine blk_alloc ?_ _); refine blk_far ?_ NB250_252.out _; (with_reducible repeat first|refine blk_drewN ?_ _|refine blk_drew ?_|refine blk_alloc ?_ _); refine blk_far ?_ NB250_252.out _; (with_reducible repeat first|refine blk_drewN ?_ _|refine blk_drew ?_|refine blk_alloc ?_ _); refine blk_far ?_ NB250_251.out _; (with_reducible repeat first|refine blk_drewN ?_ _|refine blk_drew ?_|refine blk_alloc ?_ _); refine blk_far ?_ NB250_251.out _; (with_reducible repeat first|refine blk_drewN ?_ _|refine blk_drew ?_|refine blk_alloc ?_ _); refine blk_far ?_ NB250_251.out _; (with_reducible repeat first|refine blk_drewN ?_ _|refine blk_drew ?_|refine blk_alloc ?_ _); refine blk_far ?_ NB250_251.out _; (with_reducible repeat first|refine blk_drewN ?_ _|refine blk_drew ?_|refine blk_alloc ?_ _); refine blk_far ?_ NB250_251.out _; (with_reducible repeat first|refine blk_drewN ?_ _|refine blk_drew ?_|refine blk_alloc ?_ _); exact BK250.out⟩, ⟨by (with_reducible repeat first|refine blk_drewN ?_ _|refine blk_drew ?_|refine blk_alloc ?_ _); refine blk_put (cs := #[.int .i64 ((rd_T45 x9_3 (ji58)).f0), .int .i64 ((rd_T45 x9_3 (ji58)).f1), .int .i64 ((rd_T45 x9_3 (ji58)).f2), .int .i64 ((rd_T45 x9_3 (ji58)).f3), .int .u8 0]) ?_ 4 _ rfl; (with_reducible repeat first|refine blk_drewN ?_ _|refine blk_drew ?_|refine blk_alloc ?_ _); refine blk_put (cs := #[.int .i64 ((rd_T45 x9_3 (ji58)).f0), .int .i64 ((rd_T45 x9_3 (ji58)).f1), .int .i64 ((rd_T45 x9_3 (ji58)).f2), .int .i64 0, .int .u8 0]) ?_ 3 _ rfl; (with_reducible repeat first|refine blk_drewN ?_ _|refine blk_drew ?_|refine blk_alloc ?_ _); refine blk_put (cs := #[.int .i64 ((rd_T45 x9_3 (ji58)).f0), .int .i64 ((rd_T45 x9_3 (ji58)).f1), .int .i64 0, .int .i64 0, .int .u8 0]) ?_ 2 _ rfl; (with_reducible repeat first|refine blk_drewN ?_ _|refine blk_drew ?_|refine blk_alloc ?_ _); refine blk_put (cs := #[.int .i64 ((rd_T45 x9_3 (ji58)).f0), .int .i64 0, .int .i64 0, .int .i64 0, .int .u8 0]) ?_ 1 _ rfl; (with_reducible repeat first|refine blk_drewN ?_ _|refine blk_drew ?_|refine blk_alloc ?_ _); refine blk_put (cs := #[.int .i64 0, .int .i64 0, .int .i64 0, .int .i64 0, .int .u8 0]) ?_ 0 _ rfl; (with_reducible repeat first|refine blk_drewN ?_ _|refine blk_drew ?_|refine blk_alloc ?_ _); refine blk_far ?_ NB251_252.out _; (with_reducible repeat first|refine blk_drewN ?_ _|refine blk_drew ?_|refine blk_alloc ?_ _); refine blk_far ?_ NB251_252.out _; (with_reducible repeat first|refine blk_drewN ?_ _|refine blk_drew ?_|refine blk_alloc ?_ _); refine blk_far ?_ NB251_252.out _; (with_reducible repeat first|refine blk_drewN ?_ _|refine blk_drew ?_|refine blk_alloc ?_ _); refine blk_far ?_ NB251_252.out _; (with_reducible repeat first|refine blk_drewN ?_ _|refine blk_drew ?_|refine blk_alloc ?_ _); refine blk_far ?_ NB251_252.out _; (with_reducible repeat first|refine blk_drewN ?_ _|refine blk_drew ?_|refine blk_alloc ?_ _); refine blk_put (cs := #[.int .i64 0, .int .i64 0, .int .i64 0, .int .i64 0, .int .u8 0]) ?_ 4 _ rfl; (with_reducible repeat first|refine blk_drewN ?_ _|refine blk_drew ?_|refine blk_alloc ?_ _); refine blk_put (cs := #[.int .i64 0, .int .i64 0, .int .i64 0, .int .i64 0, .int .u8 0]) ?_ 3 _ rfl; (with_reducible repeat first|refine blk_drewN ?_ _|refine blk_drew ?_|refine blk_alloc ?_ _); refine blk_put (cs := #[.int .i64 0, .int .i64 0, .int .i64 0, .int .i64 0, .int .u8 0]) ?_ 2 _ rfl; (with_reducible repeat first|refine blk_drewN ?_ _|refine blk_drew ?_|refine blk_alloc ?_ _); refine blk_put (cs := #[.int .i64 0, .int .i64 0, .int .i64 0, .int .i64 0, .int .u8 0]) ?_ 1 _ rfl; (with_reducible repeat first|refine blk_drewN ?_ _|refine blk_drew ?_|refine blk_alloc ?_ _); refine blk_put (cs := #[.int .i64 0, .int .i64 0, .int .i64 0, .int .i64 0, .int .u8 0]) ?_ 0 _ rfl; (with_reducible repeat first|refine blk_drewN ?_ _|refine blk_drew ?_|refine blk_alloc ?_ _); exact BK251.out⟩, ⟨by (with_reducible repeat first|refine blk_drewN ?_ _|refine blk_drew ?_|refine blk_alloc ?_ _); refine blk_far ?_ NB252_251.out _; (with_reducible repeat first|refine blk_drewN ?_ _|refine blk_drew ?_|refine blk_alloc ?_ _); refine blk_far ?_ NB252_251.out _; (with_reducible repeat first|refine blk_drewN ?_ _|refine blk_drew ?_|refine blk_alloc ?_ _); refine blk_far ?_ NB252_251.out _; (with_reducible repeat first|refine blk_drewN ?_ _|refine blk_drew ?_|refine blk_alloc ?_ _); refine blk_far ?_ NB252_251.out _; (with_reducible repeat first|refine blk_drewN ?_ _|refine blk_drew ?_|refine blk_alloc ?_ _); refine blk_far ?_ NB252_251.out _; (with_reducible repeat first|refine blk_drewN ?_ _|refine blk_drew ?_|refine blk_alloc ?_ _); refine blk_put (cs := #[.int .i64 0, .int .i64 0, .int .i64 0, .int .i64 0, .int .u8 0]) ?_ 4 _ rfl; (with_reducible repeat first|refine blk_drewN ?_ _|refine blk_drew ?_|refine blk_alloc ?_ _); refine blk_put (cs := #[.int .i64 0, .int .i64 0, .int .i64 0, .int .i64 0, .int .u8 0]) ?_ 3 _ rfl; (with_reducible repeat first|refine blk_drewN ?_ _|refine blk_drew ?_|refine blk_alloc ?_ _); refine blk_put (cs := #[.int .i64 0, .int .i64 0, .int .i64 0, .int .i64 0, .int .u8 0]) ?_ 2 _ rfl; (with_reducible repeat first|refine blk_drewN ?_ _|refine blk_drew ?_|refine blk_alloc ?_ _); refine blk_put (cs := #[.int .i64 0, .int .i64 0, .int .i64 0, .int .i64 0, .int .u8 0]) ?_ 1 _ rfl; (with_reducible repeat first|refine blk_drewN ?_ _|refine blk_drew ?_|refine blk_alloc ?_ _); refine blk_put (cs := #[.int .i64 0, .int .i64 0, .int .i64 0, .int .i64 0, .int .u8 0]) ?_ 0 _ rfl; (with_reducible repeat first|refine blk_drewN ?_ _|refine blk_drew ?_|refine blk_alloc ?_ _); refine blk_far ?_ NB252_251.out _; (with_reducible repeat first|refine blk_drewN ?_ _|refine blk_drew ?_|refine blk_alloc ?_ _); refine blk_far ?_ NB252_251.out _; (with_reducible repeat first|refine blk_drewN ?_ _|refine blk_drew ?_|refine blk_alloc ?_ _); refine blk_far ?_ NB252_251.out _; (with_reducible repeat first|refine blk_drewN ?_ _|refine blk_drew ?_|refine blk_alloc ?_ _); refine blk_far ?_ NB252_251.out _; (with_reducible repeat first|refine blk_drewN ?_ _|refine blk_drew ?_|refine blk_alloc ?_ _); refine blk_far ?_ NB252_251.out _; (with_reducible repeat first|refine blk_drewN ?_ _|refine blk_drew ?_|refine blk_alloc ?_ _); exact BK252.out⟩, ⟨bw⟩⟩
                   ·rw [if_neg c60] at H
                    exact absurd H (by simp)
                  ·rw [if_neg c59] at H
                   exact absurd H (by simp)
                 ·rw [if_neg c57] at H
                  have c57b0 : decide (0 < ((rd_T43 t233 x76_3).f0)) = false := decide_eq_false c57
                  clear c57
                  (first | rw [c57b0] | (simp only [i64_w, i32_w]; rw [c57b0]) | skip)
                  have H' := AX H
                  clear H
                  go_wp2
                  go_meet
                  case rel => exact ⟨_, (0), (0), (0), (0), (0), H', ⟨by have := HJ4.out; have := HK2.out; have := HK3.out; first | omega | exact Nat.le_refl _⟩, ⟨by (with_reducible repeat (first | apply Kd.R_alloc | apply Kd.R_drewN | apply Kd.R_drew)); exact Kd.R_mono (Kd.R_far (p := ⟨gb252, 4, none⟩) (Kd.R_far (p := ⟨gb252, 3, none⟩) (Kd.R_far (p := ⟨gb252, 2, none⟩) (Kd.R_far (p := ⟨gb252, 1, none⟩) (Kd.R_far (p := ⟨gb252, 0, none⟩) (Kd.R_far (p := ⟨gb251, 4, none⟩) (Kd.R_far (p := ⟨gb251, 3, none⟩) (Kd.R_far (p := ⟨gb251, 2, none⟩) (Kd.R_far (p := ⟨gb251, 1, none⟩) (Kd.R_far (p := ⟨gb251, 0, none⟩) (Kd.R_types (Kd.R_types HO_6.out BK251.out (by decide)) BK252.out (by decide)) (fun _ hk => hk.1.2) (.int .i64 0)) (fun _ hk => hk.1.2) (.int .i64 0)) (fun _ hk => hk.1.2) (.int .i64 0)) (fun _ hk => hk.1.2) (.int .i64 0)) (fun _ hk => hk.1.2) (.int .u8 0)) (fun _ hk => hk.2) (.int .i64 0)) (fun _ hk => hk.2) (.int .i64 0)) (fun _ hk => hk.2) (.int .i64 0)) (fun _ hk => hk.2) (.int .i64 0)) (fun _ hk => hk.2) (.int .u8 0)) (fun _ hk => hk.1.1.2)⟩, ⟨by (with_reducible repeat (first | apply Kd.R_alloc | apply Kd.R_drewN | apply Kd.R_drew)); exact Kd.R_mono (Kd.R_far (p := ⟨gb252, 4, none⟩) (Kd.R_far (p := ⟨gb252, 3, none⟩) (Kd.R_far (p := ⟨gb252, 2, none⟩) (Kd.R_far (p := ⟨gb252, 1, none⟩) (Kd.R_far (p := ⟨gb252, 0, none⟩) (Kd.R_far (p := ⟨gb251, 4, none⟩) (Kd.R_far (p := ⟨gb251, 3, none⟩) (Kd.R_far (p := ⟨gb251, 2, none⟩) (Kd.R_far (p := ⟨gb251, 1, none⟩) (Kd.R_far (p := ⟨gb251, 0, none⟩) (Kd.R_types (Kd.R_types HO_8.out BK251.out (by decide)) BK252.out (by decide)) (fun _ hk => hk.1.2) (.int .i64 0)) (fun _ hk => hk.1.2) (.int .i64 0)) (fun _ hk => hk.1.2) (.int .i64 0)) (fun _ hk => hk.1.2) (.int .i64 0)) (fun _ hk => hk.1.2) (.int .u8 0)) (fun _ hk => hk.2) (.int .i64 0)) (fun _ hk => hk.2) (.int .i64 0)) (fun _ hk => hk.2) (.int .i64 0)) (fun _ hk => hk.2) (.int .i64 0)) (fun _ hk => hk.2) (.int .u8 0)) (fun _ hk => trivial)⟩, ⟨by (with_reducible repeat (first | apply Kd.R_alloc | apply Kd.R_drewN | apply Kd.R_drew)); exact Kd.R_mono (Kd.R_far (p := ⟨gb252, 4, none⟩) (Kd.R_far (p := ⟨gb252, 3, none⟩) (Kd.R_far (p := ⟨gb252, 2, none⟩) (Kd.R_far (p := ⟨gb252, 1, none⟩) (Kd.R_far (p := ⟨gb252, 0, none⟩) (Kd.R_far (p := ⟨gb251, 4, none⟩) (Kd.R_far (p := ⟨gb251, 3, none⟩) (Kd.R_far (p := ⟨gb251, 2, none⟩) (Kd.R_far (p := ⟨gb251, 1, none⟩) (Kd.R_far (p := ⟨gb251, 0, none⟩) (Kd.R_mono (Kd.R_mono HO_9.out (fun k_ hk => (⟨hk, hk.1.2⟩ : _ ∧ k_ ≠ gb251))) (fun k_ hk => (⟨hk, hk.1.2⟩ : _ ∧ k_ ≠ gb252))) (fun _ hk => hk.1.2) (.int .i64 0)) (fun _ hk => hk.1.2) (.int .i64 0)) (fun _ hk => hk.1.2) (.int .i64 0)) (fun _ hk => hk.1.2) (.int .i64 0)) (fun _ hk => hk.1.2) (.int .u8 0)) (fun _ hk => hk.2) (.int .i64 0)) (fun _ hk => hk.2) (.int .i64 0)) (fun _ hk => hk.2) (.int .i64 0)) (fun _ hk => hk.2) (.int .i64 0)) (fun _ hk => hk.2) (.int .u8 0)) (fun _ hk => ⟨hk.1.1.1.2, hk.1.1.2⟩)⟩, ⟨by (with_reducible repeat first|refine blk_drewN ?_ _|refine blk_drew ?_|refine blk_alloc ?_ _); refine blk_far ?_ NB232_252.out _; (with_reducible repeat first|refine blk_drewN ?_ _|refine blk_drew ?_|refine blk_alloc ?_ _); refine blk_far ?_ NB232_252.out _; (with_reducible repeat first|refine blk_drewN ?_ _|refine blk_drew ?_|refine blk_alloc ?_ _); refine blk_far ?_ NB232_252.out _; (with_reducible repeat first|refine blk_drewN ?_ _|refine blk_drew ?_|refine blk_alloc ?_ _); refine blk_far ?_ NB232_252.out _; (with_reducible repeat first|refine blk_drewN ?_ _|refine blk_drew ?_|refine blk_alloc ?_ _); refine blk_far ?_ NB232_252.out _; (with_reducible repeat first|refine blk_drewN ?_ _|refine blk_drew ?_|refine blk_alloc ?_ _); refine blk_far ?_ NB232_251.out _; (with_reducible repeat first|refine blk_drewN ?_ _|refine blk_drew ?_|refine blk_alloc ?_ _); refine blk_far ?_ NB232_251.out _; (with_reducible repeat first|refine blk_drewN ?_ _|refine blk_drew ?_|refine blk_alloc ?_ _); refine blk_far ?_ NB232_251.out _; (with_reducible repeat first|refine blk_drewN ?_ _|refine blk_drew ?_|refine blk_alloc ?_ _); refine blk_far ?_ NB232_251.out _; (with_reducible repeat first|refine blk_drewN ?_ _|refine blk_drew ?_|refine blk_alloc ?_ _); refine blk_far ?_ NB232_251.out _; (with_reducible repeat first|refine blk_drewN ?_ _|refine blk_drew ?_|refine blk_alloc ?_ _); exact BK232.out⟩, ⟨by (with_reducible repeat first|refine blk_drewN ?_ _|refine blk_drew ?_|refine blk_alloc ?_ _); refine blk_far ?_ NB250_252.out _; (with_reducible repeat first|refine blk_drewN ?_ _|refine blk_drew ?_|refine blk_alloc ?_ _); refine blk_far ?_ NB250_252.out _; (with_reducible repeat first|refine blk_drewN ?_ _|refine blk_drew ?_|refine blk_alloc ?_ _); refine blk_far ?_ NB250_252.out _; (with_reducible repeat first|refine blk_drewN ?_ _|refine blk_drew ?_|refine blk_alloc ?_ _); refine blk_far ?_ NB250_252.out _; (with_reducible repeat first|refine blk_drewN ?_ _|refine blk_drew ?_|refine blk_alloc ?_ _); refine blk_far ?_ NB250_252.out _; (with_reducible repeat first|refine blk_drewN ?_ _|refine blk_drew ?_|refine blk_alloc ?_ _); refine blk_far ?_ NB250_251.out _; (with_reducible repeat first|refine blk_drewN ?_ _|refine blk_drew ?_|refine blk_alloc ?_ _); refine blk_far ?_ NB250_251.out _; (with_reducible repeat first|refine blk_drewN ?_ _|refine blk_drew ?_|refine blk_alloc ?_ _); refine blk_far ?_ NB250_251.out _; (with_reducible repeat first|refine blk_drewN ?_ _|refine blk_drew ?_|refine blk_alloc ?_ _); refine blk_far ?_ NB250_251.out _; (with_reducible repeat first|refine blk_drewN ?_ _|refine blk_drew ?_|refine blk_alloc ?_ _); refine blk_far ?_ NB250_251.out _; (with_reducible repeat first|refine blk_drewN ?_ _|refine blk_drew ?_|refine blk_alloc ?_ _); exact BK250.out⟩, ⟨by (with_reducible repeat first|refine blk_drewN ?_ _|refine blk_drew ?_|refine blk_alloc ?_ _); refine blk_far ?_ NB251_252.out _; (with_reducible repeat first|refine blk_drewN ?_ _|refine blk_drew ?_|refine blk_alloc ?_ _); refine blk_far ?_ NB251_252.out _; (with_reducible repeat first|refine blk_drewN ?_ _|refine blk_drew ?_|refine blk_alloc ?_ _); refine blk_far ?_ NB251_252.out _; (with_reducible repeat first|refine blk_drewN ?_ _|refine blk_drew ?_|refine blk_alloc ?_ _); refine blk_far ?_ NB251_252.out _; (with_reducible repeat first|refine blk_drewN ?_ _|refine blk_drew ?_|refine blk_alloc ?_ _); refine blk_far ?_ NB251_252.out _; (with_reducible repeat first|refine blk_drewN ?_ _|refine blk_drew ?_|refine blk_alloc ?_ _); refine blk_put (cs := #[.int .i64 0, .int .i64 0, .int .i64 0, .int .i64 0, .int .u8 0]) ?_ 4 _ rfl; (with_reducible repeat first|refine blk_drewN ?_ _|refine blk_drew ?_|refine blk_alloc ?_ _); refine blk_put (cs := #[.int .i64 0, .int .i64 0, .int .i64 0, .int .i64 0, .int .u8 0]) ?_ 3 _ rfl; (with_reducible repeat first|refine blk_drewN ?_ _|refine blk_drew ?_|refine blk_alloc ?_ _); refine blk_put (cs := #[.int .i64 0, .int .i64 0, .int .i64 0, .int .i64 0, .int .u8 0]) ?_ 2 _ rfl; (with_reducible repeat first|refine blk_drewN ?_ _|refine blk_drew ?_|refine blk_alloc ?_ _); refine blk_put (cs := #[.int .i64 0, .int .i64 0, .int .i64 0, .int .i64 0, .int .u8 0]) ?_ 1 _ rfl; (with_reducible repeat first|refine blk_drewN ?_ _|refine blk_drew ?_|refine blk_alloc ?_ _); refine blk_put (cs := #[.int .i64 0, .int .i64 0, .int .i64 0, .int .i64 0, .int .u8 0]) ?_ 0 _ rfl; (with_reducible repeat first|refine blk_drewN ?_ _|refine blk_drew ?_|refine blk_alloc ?_ _); exact BK251.out⟩, ⟨by (with_reducible repeat first|refine blk_drewN ?_ _|refine blk_drew ?_|refine blk_alloc ?_ _); refine blk_put (cs := #[.int .i64 0, .int .i64 0, .int .i64 0, .int .i64 0, .int .u8 0]) ?_ 4 _ rfl; (with_reducible repeat first|refine blk_drewN ?_ _|refine blk_drew ?_|refine blk_alloc ?_ _); refine blk_put (cs := #[.int .i64 0, .int .i64 0, .int .i64 0, .int .i64 0, .int .u8 0]) ?_ 3 _ rfl; (with_reducible repeat first|refine blk_drewN ?_ _|refine blk_drew ?_|refine blk_alloc ?_ _); refine blk_put (cs := #[.int .i64 0, .int .i64 0, .int .i64 0, .int .i64 0, .int .u8 0]) ?_ 2 _ rfl; (with_reducible repeat first|refine blk_drewN ?_ _|refine blk_drew ?_|refine blk_alloc ?_ _); refine blk_put (cs := #[.int .i64 0, .int .i64 0, .int .i64 0, .int .i64 0, .int .u8 0]) ?_ 1 _ rfl; (with_reducible repeat first|refine blk_drewN ?_ _|refine blk_drew ?_|refine blk_alloc ?_ _); refine blk_put (cs := #[.int .i64 0, .int .i64 0, .int .i64 0, .int .i64 0, .int .u8 0]) ?_ 0 _ rfl; (with_reducible repeat first|refine blk_drewN ?_ _|refine blk_drew ?_|refine blk_alloc ?_ _); refine blk_far ?_ NB252_251.out _; (with_reducible repeat first|refine blk_drewN ?_ _|refine blk_drew ?_|refine blk_alloc ?_ _); refine blk_far ?_ NB252_251.out _; (with_reducible repeat first|refine blk_drewN ?_ _|refine blk_drew ?_|refine blk_alloc ?_ _); refine blk_far ?_ NB252_251.out _; (with_reducible repeat first|refine blk_drewN ?_ _|refine blk_drew ?_|refine blk_alloc ?_ _); refine blk_far ?_ NB252_251.out _; (with_reducible repeat first|refine blk_drewN ?_ _|refine blk_drew ?_|refine blk_alloc ?_ _); refine blk_far ?_ NB252_251.out _; (with_reducible repeat first|refine blk_drewN ?_ _|refine blk_drew ?_|refine blk_alloc ?_ _); exact BK252.out⟩, ⟨bw⟩⟩
                case rest =>
                 clear HC43
                 try clear c36b0
                 try clear c37b0
                 try clear c38b0
                 try clear c39b0
                 try clear hcz46_0 hcz46_1
                 try clear hcz52_0 hcz52_1 hcz52_2 hcz52_3 hcz52_4
                 try clear hcz55_0 hcz55_1 hcz55_2 hcz55_3 hcz55_4
                 try clear hcz56_0 hcz56_1
                 try clear hfz46_0 hfz46_1
                 try clear hfz52_0 hfz52_1 hfz52_2 hfz52_3 hfz52_4
                 try clear hfz55_0 hfz55_1 hfz55_2 hfz55_3 hfz55_4
                 try clear hfz56_0 hfz56_1
                 try clear hx249_0
                 try clear hx249_1
                 try clear p249
                 try clear q249
                 obtain ⟨kq, x252000_42, x252001_42, x252002_42, x252003_42, x252004_42, HA, HJ42, HO_6, HO_8, HO_9, BK232, BK250, BK251, BK252, HB⟩ := hcut
                 cases kq with
                 | zero => exact absurd HA.out (by simp [pylonref11_Fill.j3])
                 | succ kj42 =>
                  have H := HA.out
                  clear HA
                  simp only [pylonref11_Fill.j3] at H
                  have HC69 := AX H
                  clear H
                  have hnb70 := NB250_232.out
                  have hnc70 := NB232_250.out
                  have hnb71 := NB250_251.out
                  have hnc71 := NB251_250.out
                  have hnb72 := NB250_252.out
                  have hnc72 := NB252_250.out
                  obtain ⟨hcz73_0, hcz73_1⟩ := blkC2 (w := wc) BK250.out
                  obtain ⟨hfz73_0, hfz73_1⟩ := blkF2 BK250.out
                  have hnb74 := NB232_251.out
                  have hnc74 := NB251_232.out
                  have hnb75 := NB232_252.out
                  have hnc75 := NB252_232.out
                  obtain ⟨hcz76_0, hcz76_1, hcz76_2, hcz76_3, hcz76_4, hcz76_5, hcz76_6⟩ := blkC7 (w := wc) BK232.out
                  obtain ⟨hfz76_0, hfz76_1, hfz76_2, hfz76_3, hfz76_4, hfz76_5, hfz76_6⟩ := blkF7 BK232.out
                  go_upto_if 105 with (fail)
                  go_cut [] (fun wc => ∃ (kq : Nat) (x253000_68 : Int) (x253001_68 : Int) (x253002_68 : Int) (x253003_68 : Int) (x253004_68 : Int), Aside0 (pylonref11_Fill.j4 kq a1 t233 t239 x9_3 (t233.length : Int) x76_3 a0_0 a0_1 a0_2 a0_3 a0_4 a0_5 l0_6 ((rd_T43 t233 x76_3).f0) ((rd_T43 t233 x76_3).f1) x252000_42 x252001_42 x252002_42 x252003_42 x252004_42 x253000_68 x253001_68 x253002_68 x253003_68 x253004_68 = some (r1, r2)) ∧ Aside0 (kq ≤ kj42) ∧ Aside0 (Kd.R k43 43 wc w.heap.size (fun k_ => k_ ≠ gb250) (.slice (some ad249) t233.length co35) t233) ∧ Aside0 (Kd.R (Kd.int .i64) 3 wc w.heap.size (fun _ => True) (.slice Ao24 t239.length co24) t239) ∧ Aside0 (Kd.R k45 45 wc w.heap.size (fun k_ => k_ ≠ gb251 ∧ k_ ≠ gb252) v243 x9_3) ∧ Aside0 (wc.heap[gb232]? = some (.cells #[.string a0_0, .int .i64 a0_1, .int .i64 a0_2, .int .i64 a0_3, .int .i64 a0_4, .int .i64 a0_5, (.slice A0_6 l0_6.length c0_6)] 31 (0, 0))) ∧ Aside0 (wc.heap[gb250]? = some (.cells #[.int .i64 ((rd_T43 t233 x76_3).f0), .int .i64 ((rd_T43 t233 x76_3).f1)] 43 (0, 0))) ∧ Aside0 (wc.heap[gb251]? = some (.cells #[.int .i64 x252000_42, .int .i64 x252001_42, .int .i64 x252002_42, .int .i64 x252003_42, .int .u8 x252004_42] 45 (0, 0))) ∧ Aside0 (wc.heap[gb252]? = some (.cells #[.int .i64 x253000_68, .int .i64 x253001_68, .int .i64 x253002_68, .int .i64 x253003_68, .int .u8 x253004_68] 45 (0, 0))) ∧ Aside0 (Below w.heap.size w wc))
                  case first =>
                   have H := HC69.out
                   clear HC69
                   by_cases c77 : ((rd_T43 t233 x76_3).f1) < a0_3
                   ·rw [if_pos c77] at H
                    have c77b0 : decide (((rd_T43 t233 x76_3).f1) < a0_3) = true := decide_eq_true c77
                    clear c77
                    (first | rw [c77b0] | (simp only [i64_w, i32_w]; rw [c77b0]) | skip)
                    by_cases c78 : 0 ≤ ((rd_T43 t233 x76_3).f1)
                    ·rw [if_pos c78] at H
                     have c78b0 : decide (0 ≤ ((rd_T43 t233 x76_3).f1)) = true := decide_eq_true c78
                     clear c78
                     by_cases c79 : ((rd_T43 t233 x76_3).f1) < (t239.length : Int)
                     ·rw [if_pos c79] at H
                      have c79b0 : decide (((rd_T43 t233 x76_3).f1) < (t239.length : Int)) = true := decide_eq_true c79
                      clear c79
                      by_cases c80 : 0 ≤ (rd t239 ((rd_T43 t233 x76_3).f1))
                      ·rw [if_pos c80] at H
                       have c80b0 : decide (0 ≤ (rd t239 ((rd_T43 t233 x76_3).f1))) = true := decide_eq_true c80
                       clear c80
                       by_cases c81 : (rd t239 ((rd_T43 t233 x76_3).f1)) < (l0_6.length : Int)
                       ·rw [if_pos c81] at H
                        have c81b0 : decide ((rd t239 ((rd_T43 t233 x76_3).f1)) < (l0_6.length : Int)) = true := decide_eq_true c81
                        clear c81
                        have H' := AX H
                        clear H
                        try go_wp2
                        have n0_ := AX (Kd.R_drew HO_6.out)
                        have n1_ := AX (Kd.R_drew HO_8.out)
                        have n2_ := AX (Kd.R_drew HO_9.out)
                        have n3_ := AX (blk_drew BK232.out)
                        have n4_ := AX (blk_drew BK250.out)
                        have n5_ := AX (blk_drew BK251.out)
                        have n6_ := AX (blk_drew BK252.out)
                        have n7_ := AX (below_drew1 HB.out)
                        clear HO_6
                        clear HO_8
                        clear HO_9
                        clear BK232
                        clear BK250
                        clear BK251
                        clear BK252
                        clear HB
                        have HO_6 := n0_
                        have HO_8 := n1_
                        have HO_9 := n2_
                        have BK232 := n3_
                        have BK250 := n4_
                        have BK251 := n5_
                        have BK252 := n6_
                        have HB := n7_
                        clear n0_ n1_ n2_ n3_ n4_ n5_ n6_ n7_
                        have p254 : 0 ≤ (((rd_T43 t233 x76_3).f1) : Int) := of_decide_eq_true (by first | (with_reducible assumption) | assumption)
                        have q254 : ((rd_T43 t233 x76_3).f1) < (t239.length : Int) := of_decide_eq_true (by first | (with_reducible assumption) | assumption)
                        obtain ⟨ad254, e254, hx254_0⟩ := Kd.at_int (Kd.R_reads' HO_8.out).2.2 ((rd_T43 t233 x76_3).f1) p254 q254
                        cases e254
                        replace p254 := eq_true p254
                        replace q254 := eq_true q254
                        have p255 : 0 ≤ ((rd t239 ((rd_T43 t233 x76_3).f1)) : Int) := of_decide_eq_true (by first | (with_reducible assumption) | assumption)
                        have q255 : (rd t239 ((rd_T43 t233 x76_3).f1)) < (l0_6.length : Int) := of_decide_eq_true (by first | (with_reducible assumption) | assumption)
                        obtain ⟨ad255, e255, hx255_0, hx255_1, hx255_2, hx255_3, hx255_4⟩ := at_T45 HR0_6.out (rd t239 ((rd_T43 t233 x76_3).f1)) p255 q255
                        have hw255_4 := hx255_4
                        have hw255_3 := hx255_3
                        have hw255_2 := hx255_2
                        have hw255_1 := hx255_1
                        have hw255_0 := hx255_0
                        cases e255
                        replace hx255_0 := bcl HB hx255_0
                        replace hx255_1 := bcl HB hx255_1
                        replace hx255_2 := bcl HB hx255_2
                        replace hx255_3 := bcl HB hx255_3
                        replace hx255_4 := bcl HB hx255_4
                        replace p255 := eq_true p255
                        replace q255 := eq_true q255
                        refine start_ (n := 10) (S := fun w' => w'.cell? ⟨gb232, 0, none⟩ = some (.string a0_0) ∧ w'.cell? ⟨gb232, 1, none⟩ = some (.int .i64 a0_1) ∧ w'.cell? ⟨gb232, 2, none⟩ = some (.int .i64 a0_2) ∧ w'.cell? ⟨gb232, 3, none⟩ = some (.int .i64 a0_3) ∧ w'.cell? ⟨gb232, 4, none⟩ = some (.int .i64 a0_4) ∧ w'.cell? ⟨gb232, 5, none⟩ = some (.int .i64 a0_5) ∧ w'.cell? ⟨gb232, 6, none⟩ = some (.slice (some ad255) l0_6.length c0_6) ∧ w'.cell? ⟨gb250, 0, none⟩ = some (.int .i64 ((rd_T43 t233 x76_3).f0)) ∧ w'.cell? ⟨gb250, 1, none⟩ = some (.int .i64 ((rd_T43 t233 x76_3).f1)) ∧ w'.cell? (ad254.add (((rd_T43 t233 x76_3).f1)).toNat) = some (.int .i64 (rd t239 ((rd_T43 t233 x76_3).f1))) ∧ w'.cell? (ad255.add (((rd t239 ((rd_T43 t233 x76_3).f1))).toNat * 5)) = some (.int .i64 ((rd_T45 l0_6 (rd t239 ((rd_T43 t233 x76_3).f1))).f0)) ∧ w'.cell? ⟨(ad255.add (((rd t239 ((rd_T43 t233 x76_3).f1))).toNat * 5)).block, (ad255.add (((rd t239 ((rd_T43 t233 x76_3).f1))).toNat * 5)).off + 1, none⟩ = some (.int .i64 ((rd_T45 l0_6 (rd t239 ((rd_T43 t233 x76_3).f1))).f1)) ∧ w'.cell? ⟨(ad255.add (((rd t239 ((rd_T43 t233 x76_3).f1))).toNat * 5)).block, (ad255.add (((rd t239 ((rd_T43 t233 x76_3).f1))).toNat * 5)).off + 2, none⟩ = some (.int .i64 ((rd_T45 l0_6 (rd t239 ((rd_T43 t233 x76_3).f1))).f2)) ∧ w'.cell? ⟨(ad255.add (((rd t239 ((rd_T43 t233 x76_3).f1))).toNat * 5)).block, (ad255.add (((rd t239 ((rd_T43 t233 x76_3).f1))).toNat * 5)).off + 3, none⟩ = some (.int .i64 ((rd_T45 l0_6 (rd t239 ((rd_T43 t233 x76_3).f1))).f3)) ∧ w'.cell? ⟨(ad255.add (((rd t239 ((rd_T43 t233 x76_3).f1))).toNat * 5)).block, (ad255.add (((rd t239 ((rd_T43 t233 x76_3).f1))).toNat * 5)).off + 4, none⟩ = some (.int .u8 ((rd_T45 l0_6 (rd t239 ((rd_T43 t233 x76_3).f1))).f4))) (ds := []) #[false, false, false, false, false, false, false, false, false, false] (by kernel_rfl) rfl rfl ⟨(blk_cell BK232.out 0).trans rfl, (blk_cell BK232.out 1).trans rfl, (blk_cell BK232.out 2).trans rfl, (blk_cell BK232.out 3).trans rfl, (blk_cell BK232.out 4).trans rfl, (blk_cell BK232.out 5).trans rfl, (blk_cell BK232.out 6).trans rfl, (blk_cell BK250.out 0).trans rfl, (blk_cell BK250.out 1).trans rfl, hx254_0, (bcl HB hw255_0), (bcl HB hw255_1), (bcl HB hw255_2), (bcl HB hw255_3), (bcl HB hw255_4)⟩ (fun hHeld => ?_); refine with_tabW pylonref11_Fill.tab24 pylonref11_Fill.bits24 (fun HT_ HW_ => ?_)
                        generalize wc.drew = w82 at HO_6 HO_8 HO_9 BK232 BK250 BK251 BK252 HB hx254_0 hx255_0 hx255_1 hx255_2 hx255_3 hx255_4 hHeld ⊢
                        refine pure_ (i := 0) (N := some 106) (v := ?_) (a' := ?_) #[true, false, false, false, false, false, false, false, false, false] rfl rfl (any_of HT_.out (by kernel_rfl)) (fun _ _ _ h => h) (Or.inl ⟨by rfl, ?_⟩) ?_ ?_
                        rotate_left
                        ·intro w'
                         go_simp
                         with_reducible rfl
                        rotate_left
                        ·simp only [Act.put, List.setIfInBounds_toArray, List.set_cons_zero, List.set_cons_succ, i64_w, i32_w]
                         rfl
                        refine pure_ (i := 2) (N := some 108) (v := ?_) (a' := ?_) #[true, false, true, false, false, false, false, false, false, false] rfl rfl (any_of HT_.out (by kernel_rfl)) (fun _ _ _ h => h) (Or.inl ⟨by rfl, ?_⟩) ?_ ?_
                        rotate_left
                        ·intro w'
                         go_simp
                         with_reducible rfl
                        rotate_left
                        ·simp only [Act.put, List.setIfInBounds_toArray, List.set_cons_zero, List.set_cons_succ, i64_w, i32_w]
                         rfl
                        refine pure_ (i := 3) (N := some 109) (v := ?_) (a' := ?_) #[true, false, true, true, false, false, false, false, false, false] rfl rfl (any_of HT_.out (by kernel_rfl)) (fun _ _ _ h => h) (Or.inl ⟨by rfl, ?_⟩) ?_ ?_
                        rotate_left
                        ·intro w'
                         go_simp
                         with_reducible rfl
                        rotate_left
                        ·simp only [Act.put, List.setIfInBounds_toArray, List.set_cons_zero, List.set_cons_succ, i64_w, i32_w]
                         rfl
                        refine take_ (i := 1) (N := some 107) (v := ?_) (a' := ?_) #[true, true, true, true, false, false, false, false, false, false] rfl rfl (take_ofW HT_.out HW_.out (by kernel_rfl)) (fun _ _ _ h => h) (Or.inl ⟨by rfl, ?_⟩) hHeld ?_ ?_
                        rotate_left
                        ·rintro w' ⟨s0, s1, s2, s3, s4, s5, s6, s7, s8, s9, s10, s11, s12, s13, s14⟩
                         go_simp
                         with_reducible rfl
                        rotate_left
                        ·simp only [Act.put, List.setIfInBounds_toArray, List.set_cons_zero, List.set_cons_succ, i64_w, i32_w]
                         rfl
                        refine take_ (i := 4) (N := some 110) (v := ?_) (a' := ?_) #[true, true, true, true, true, false, false, false, false, false] rfl rfl (take_ofW HT_.out HW_.out (by kernel_rfl)) (fun _ _ _ h => h) (Or.inl ⟨by rfl, ?_⟩) hHeld ?_ ?_
                        rotate_left
                        ·rintro w' ⟨s0, s1, s2, s3, s4, s5, s6, s7, s8, s9, s10, s11, s12, s13, s14⟩
                         go_simp
                         with_reducible rfl
                        rotate_left
                        ·simp only [Act.put, List.setIfInBounds_toArray, List.set_cons_zero, List.set_cons_succ, i64_w, i32_w]
                         rfl
                        refine pure_ (i := 5) (N := some 111) (v := ?_) (a' := ?_) #[true, true, true, true, true, true, false, false, false, false] rfl rfl (any_of HT_.out (by kernel_rfl)) (fun _ _ _ h => h) (Or.inl ⟨by rfl, ?_⟩) ?_ ?_
                        rotate_left
                        ·intro w'
                         go_simp
                         with_reducible rfl
                        rotate_left
                        ·simp only [Act.put, List.setIfInBounds_toArray, List.set_cons_zero, List.set_cons_succ, i64_w, i32_w]
                         rfl
                        refine take_ (i := 6) (N := some 112) (v := ?_) (a' := ?_) #[true, true, true, true, true, true, true, false, false, false] rfl rfl (take_ofW HT_.out HW_.out (by kernel_rfl)) (fun _ _ _ h => h) (Or.inl ⟨by rfl, ?_⟩) hHeld ?_ ?_
                        rotate_left
                        ·rintro w' ⟨s0, s1, s2, s3, s4, s5, s6, s7, s8, s9, s10, s11, s12, s13, s14⟩
                         go_simp
                         with_reducible rfl
                        rotate_left
                        ·simp only [Act.put, List.setIfInBounds_toArray, List.set_cons_zero, List.set_cons_succ, i64_w, i32_w]
                         rfl
                        refine pure_ (i := 7) (N := some 113) (v := ?_) (a' := ?_) #[true, true, true, true, true, true, true, true, false, false] rfl rfl (any_of HT_.out (by kernel_rfl)) (fun _ _ _ h => h) (Or.inl ⟨by rfl, ?_⟩) ?_ ?_
                        rotate_left
                        ·intro w'
                         go_simp
                         with_reducible rfl
                        rotate_left
                        ·simp only [Act.put, List.setIfInBounds_toArray, List.set_cons_zero, List.set_cons_succ, i64_w, i32_w]
                         rfl
                        refine take_ (i := 8) (N := some 114) (v := ?_) (a' := ?_) #[true, true, true, true, true, true, true, true, true, false] rfl rfl (take_ofW HT_.out HW_.out (by kernel_rfl)) (fun _ _ _ h => h) (Or.inl ⟨by rfl, ?_⟩) hHeld ?_ ?_
                        rotate_left
                        ·rintro w' ⟨s0, s1, s2, s3, s4, s5, s6, s7, s8, s9, s10, s11, s12, s13, s14⟩
                         go_simp
                         with_reducible rfl
                        rotate_left
                        ·simp only [Act.put, List.setIfInBounds_toArray, List.set_cons_zero, List.set_cons_succ, i64_w, i32_w]
                         rfl
                        refine one_ (i := 9) (N := none) #[true, true, true, true, true, true, true, true, true, true] rfl rfl (one_of HT_.out (by kernel_rfl)) (by decide) (fun K hK => ?_)
                        have hs83 : w82.cell? ⟨gb252, 0, none⟩ = some (.int .i64 0) := (blk_cell BK252.out 0).trans rfl
                        have hfs83 := blk_frozen BK252.out 0
                        have hns83_0 := NB232_252.out
                        have hns83_1 := NB250_252.out
                        have hns83_2 := NB251_252.out
                        have hms83_0 := NB252_232.out
                        have hms83_1 := NB252_250.out
                        have hms83_2 := NB252_251.out
                        have hs84 : w82.cell? ⟨gb252, 1, none⟩ = some (.int .i64 0) := (blk_cell BK252.out 1).trans rfl
                        have hfs84 := blk_frozen BK252.out 1
                        have hns84_0 := NB232_252.out
                        have hns84_1 := NB250_252.out
                        have hns84_2 := NB251_252.out
                        have hms84_0 := NB252_232.out
                        have hms84_1 := NB252_250.out
                        have hms84_2 := NB252_251.out
                        have hs85 : w82.cell? ⟨gb252, 2, none⟩ = some (.int .i64 0) := (blk_cell BK252.out 2).trans rfl
                        have hfs85 := blk_frozen BK252.out 2
                        have hns85_0 := NB232_252.out
                        have hns85_1 := NB250_252.out
                        have hns85_2 := NB251_252.out
                        have hms85_0 := NB252_232.out
                        have hms85_1 := NB252_250.out
                        have hms85_2 := NB252_251.out
                        have hs86 : w82.cell? ⟨gb252, 3, none⟩ = some (.int .i64 0) := (blk_cell BK252.out 3).trans rfl
                        have hfs86 := blk_frozen BK252.out 3
                        have hns86_0 := NB232_252.out
                        have hns86_1 := NB250_252.out
                        have hns86_2 := NB251_252.out
                        have hms86_0 := NB252_232.out
                        have hms86_1 := NB252_250.out
                        have hms86_2 := NB252_251.out
                        have hs87 : w82.cell? ⟨gb252, 4, none⟩ = some (.int .u8 0) := (blk_cell BK252.out 4).trans rfl
                        have hfs87 := blk_frozen BK252.out 4
                        have hns87_0 := NB232_252.out
                        have hns87_1 := NB250_252.out
                        have hns87_2 := NB251_252.out
                        have hms87_0 := NB252_232.out
                        have hms87_1 := NB252_250.out
                        have hms87_2 := NB252_251.out
                        refine skip_ (w1 := ?_) (by rfl) rfl ?_ ?_
                        rotate_left
                        ·go_simp
                         rfl
                        refine hK.out _ _ ⟨((cell_far (p := ⟨gb252, _, none⟩) NB232_252.out _).trans (((cell_far (p := ⟨gb252, _, none⟩) NB232_252.out _).trans (((cell_far (p := ⟨gb252, _, none⟩) NB232_252.out _).trans (((cell_far (p := ⟨gb252, _, none⟩) NB232_252.out _).trans (((cell_far (p := ⟨gb252, _, none⟩) NB232_252.out _).trans (hHeld.1)))))))))), ((cell_far (p := ⟨gb252, _, none⟩) NB232_252.out _).trans (((cell_far (p := ⟨gb252, _, none⟩) NB232_252.out _).trans (((cell_far (p := ⟨gb252, _, none⟩) NB232_252.out _).trans (((cell_far (p := ⟨gb252, _, none⟩) NB232_252.out _).trans (((cell_far (p := ⟨gb252, _, none⟩) NB232_252.out _).trans (hHeld.2.1)))))))))), ((cell_far (p := ⟨gb252, _, none⟩) NB232_252.out _).trans (((cell_far (p := ⟨gb252, _, none⟩) NB232_252.out _).trans (((cell_far (p := ⟨gb252, _, none⟩) NB232_252.out _).trans (((cell_far (p := ⟨gb252, _, none⟩) NB232_252.out _).trans (((cell_far (p := ⟨gb252, _, none⟩) NB232_252.out _).trans (hHeld.2.2.1)))))))))), ((cell_far (p := ⟨gb252, _, none⟩) NB232_252.out _).trans (((cell_far (p := ⟨gb252, _, none⟩) NB232_252.out _).trans (((cell_far (p := ⟨gb252, _, none⟩) NB232_252.out _).trans (((cell_far (p := ⟨gb252, _, none⟩) NB232_252.out _).trans (((cell_far (p := ⟨gb252, _, none⟩) NB232_252.out _).trans (hHeld.2.2.2.1)))))))))), ((cell_far (p := ⟨gb252, _, none⟩) NB232_252.out _).trans (((cell_far (p := ⟨gb252, _, none⟩) NB232_252.out _).trans (((cell_far (p := ⟨gb252, _, none⟩) NB232_252.out _).trans (((cell_far (p := ⟨gb252, _, none⟩) NB232_252.out _).trans (((cell_far (p := ⟨gb252, _, none⟩) NB232_252.out _).trans (hHeld.2.2.2.2.1)))))))))), ((cell_far (p := ⟨gb252, _, none⟩) NB232_252.out _).trans (((cell_far (p := ⟨gb252, _, none⟩) NB232_252.out _).trans (((cell_far (p := ⟨gb252, _, none⟩) NB232_252.out _).trans (((cell_far (p := ⟨gb252, _, none⟩) NB232_252.out _).trans (((cell_far (p := ⟨gb252, _, none⟩) NB232_252.out _).trans (hHeld.2.2.2.2.2.1)))))))))), ((cell_far (p := ⟨gb252, _, none⟩) NB232_252.out _).trans (((cell_far (p := ⟨gb252, _, none⟩) NB232_252.out _).trans (((cell_far (p := ⟨gb252, _, none⟩) NB232_252.out _).trans (((cell_far (p := ⟨gb252, _, none⟩) NB232_252.out _).trans (((cell_far (p := ⟨gb252, _, none⟩) NB232_252.out _).trans (hHeld.2.2.2.2.2.2.1)))))))))), ((cell_far (p := ⟨gb252, _, none⟩) NB250_252.out _).trans (((cell_far (p := ⟨gb252, _, none⟩) NB250_252.out _).trans (((cell_far (p := ⟨gb252, _, none⟩) NB250_252.out _).trans (((cell_far (p := ⟨gb252, _, none⟩) NB250_252.out _).trans (((cell_far (p := ⟨gb252, _, none⟩) NB250_252.out _).trans (hHeld.2.2.2.2.2.2.2.1)))))))))), ((cell_far (p := ⟨gb252, _, none⟩) NB250_252.out _).trans (((cell_far (p := ⟨gb252, _, none⟩) NB250_252.out _).trans (((cell_far (p := ⟨gb252, _, none⟩) NB250_252.out _).trans (((cell_far (p := ⟨gb252, _, none⟩) NB250_252.out _).trans (((cell_far (p := ⟨gb252, _, none⟩) NB250_252.out _).trans (hHeld.2.2.2.2.2.2.2.2.1)))))))))), ((cell_far (p := ⟨gb252, _, none⟩) (by first | exact Kd.own_blk (Kd.R_ne HO_8.out BK252.out (by decide)) | (rw [add_block]; exact Kd.own_blk (Kd.R_ne HO_8.out BK252.out (by decide))) | (show (Addr.add _ _).block ≠ _; rw [add_block]; exact Kd.own_blk (Kd.R_ne HO_8.out BK252.out (by decide))) | (dsimp only; exact Kd.own_blk (Kd.R_ne HO_8.out BK252.out (by decide)))) _).trans (((cell_far (p := ⟨gb252, _, none⟩) (by first | exact Kd.own_blk (Kd.R_ne HO_8.out BK252.out (by decide)) | (rw [add_block]; exact Kd.own_blk (Kd.R_ne HO_8.out BK252.out (by decide))) | (show (Addr.add _ _).block ≠ _; rw [add_block]; exact Kd.own_blk (Kd.R_ne HO_8.out BK252.out (by decide))) | (dsimp only; exact Kd.own_blk (Kd.R_ne HO_8.out BK252.out (by decide)))) _).trans (((cell_far (p := ⟨gb252, _, none⟩) (by first | exact Kd.own_blk (Kd.R_ne HO_8.out BK252.out (by decide)) | (rw [add_block]; exact Kd.own_blk (Kd.R_ne HO_8.out BK252.out (by decide))) | (show (Addr.add _ _).block ≠ _; rw [add_block]; exact Kd.own_blk (Kd.R_ne HO_8.out BK252.out (by decide))) | (dsimp only; exact Kd.own_blk (Kd.R_ne HO_8.out BK252.out (by decide)))) _).trans (((cell_far (p := ⟨gb252, _, none⟩) (by first | exact Kd.own_blk (Kd.R_ne HO_8.out BK252.out (by decide)) | (rw [add_block]; exact Kd.own_blk (Kd.R_ne HO_8.out BK252.out (by decide))) | (show (Addr.add _ _).block ≠ _; rw [add_block]; exact Kd.own_blk (Kd.R_ne HO_8.out BK252.out (by decide))) | (dsimp only; exact Kd.own_blk (Kd.R_ne HO_8.out BK252.out (by decide)))) _).trans (((cell_far (p := ⟨gb252, _, none⟩) (by first | exact Kd.own_blk (Kd.R_ne HO_8.out BK252.out (by decide)) | (rw [add_block]; exact Kd.own_blk (Kd.R_ne HO_8.out BK252.out (by decide))) | (show (Addr.add _ _).block ≠ _; rw [add_block]; exact Kd.own_blk (Kd.R_ne HO_8.out BK252.out (by decide))) | (dsimp only; exact Kd.own_blk (Kd.R_ne HO_8.out BK252.out (by decide)))) _).trans (hHeld.2.2.2.2.2.2.2.2.2.1)))))))))), (cfx GW252 hw255_0 ((cfx GW252 hw255_0 ((cfx GW252 hw255_0 ((cfx GW252 hw255_0 ((cfx GW252 hw255_0 (hHeld.2.2.2.2.2.2.2.2.2.2.1)))))))))), (cfx GW252 hw255_1 ((cfx GW252 hw255_1 ((cfx GW252 hw255_1 ((cfx GW252 hw255_1 ((cfx GW252 hw255_1 (hHeld.2.2.2.2.2.2.2.2.2.2.2.1)))))))))), (cfx GW252 hw255_2 ((cfx GW252 hw255_2 ((cfx GW252 hw255_2 ((cfx GW252 hw255_2 ((cfx GW252 hw255_2 (hHeld.2.2.2.2.2.2.2.2.2.2.2.2.1)))))))))), (cfx GW252 hw255_3 ((cfx GW252 hw255_3 ((cfx GW252 hw255_3 ((cfx GW252 hw255_3 ((cfx GW252 hw255_3 (hHeld.2.2.2.2.2.2.2.2.2.2.2.2.2.1)))))))))), (cfx GW252 hw255_4 ((cfx GW252 hw255_4 ((cfx GW252 hw255_4 ((cfx GW252 hw255_4 ((cfx GW252 hw255_4 (hHeld.2.2.2.2.2.2.2.2.2.2.2.2.2.2))))))))))⟩ (fun hHeld => ?_)
                        clear hK K
                        refine done_ (done_of HT_.out (by kernel_rfl)) ?_
                        try go_wp2
                        go_meet
                        case rel => exact ⟨_, ((rd_T45 l0_6 (rd t239 ((rd_T43 t233 x76_3).f1))).f0), ((rd_T45 l0_6 (rd t239 ((rd_T43 t233 x76_3).f1))).f1), ((rd_T45 l0_6 (rd t239 ((rd_T43 t233 x76_3).f1))).f2), ((rd_T45 l0_6 (rd t239 ((rd_T43 t233 x76_3).f1))).f3), ((rd_T45 l0_6 (rd t239 ((rd_T43 t233 x76_3).f1))).f4), H', ⟨by have := HJ4.out; have := HK2.out; have := HK3.out; have := HJ42.out; first | omega | exact Nat.le_refl _⟩, ⟨by (with_reducible repeat (first | apply Kd.R_alloc | apply Kd.R_drewN | apply Kd.R_drew)); exact Kd.R_mono (Kd.R_far (p := ⟨gb252, 4, none⟩) (Kd.R_far (p := ⟨gb252, 3, none⟩) (Kd.R_far (p := ⟨gb252, 2, none⟩) (Kd.R_far (p := ⟨gb252, 1, none⟩) (Kd.R_far (p := ⟨gb252, 0, none⟩) (Kd.R_types HO_6.out BK252.out (by decide)) (fun _ hk => hk.2) (.int .i64 ((rd_T45 l0_6 (rd t239 ((rd_T43 t233 x76_3).f1))).f0))) (fun _ hk => hk.2) (.int .i64 ((rd_T45 l0_6 (rd t239 ((rd_T43 t233 x76_3).f1))).f1))) (fun _ hk => hk.2) (.int .i64 ((rd_T45 l0_6 (rd t239 ((rd_T43 t233 x76_3).f1))).f2))) (fun _ hk => hk.2) (.int .i64 ((rd_T45 l0_6 (rd t239 ((rd_T43 t233 x76_3).f1))).f3))) (fun _ hk => hk.2) (.int .u8 ((rd_T45 l0_6 (rd t239 ((rd_T43 t233 x76_3).f1))).f4))) (fun _ hk => hk.1)⟩, ⟨by (with_reducible repeat (first | apply Kd.R_alloc | apply Kd.R_drewN | apply Kd.R_drew)); exact Kd.R_mono (Kd.R_far (p := ⟨gb252, 4, none⟩) (Kd.R_far (p := ⟨gb252, 3, none⟩) (Kd.R_far (p := ⟨gb252, 2, none⟩) (Kd.R_far (p := ⟨gb252, 1, none⟩) (Kd.R_far (p := ⟨gb252, 0, none⟩) (Kd.R_types HO_8.out BK252.out (by decide)) (fun _ hk => hk.2) (.int .i64 ((rd_T45 l0_6 (rd t239 ((rd_T43 t233 x76_3).f1))).f0))) (fun _ hk => hk.2) (.int .i64 ((rd_T45 l0_6 (rd t239 ((rd_T43 t233 x76_3).f1))).f1))) (fun _ hk => hk.2) (.int .i64 ((rd_T45 l0_6 (rd t239 ((rd_T43 t233 x76_3).f1))).f2))) (fun _ hk => hk.2) (.int .i64 ((rd_T45 l0_6 (rd t239 ((rd_T43 t233 x76_3).f1))).f3))) (fun _ hk => hk.2) (.int .u8 ((rd_T45 l0_6 (rd t239 ((rd_T43 t233 x76_3).f1))).f4))) (fun _ hk => trivial)⟩, ⟨by (with_reducible repeat (first | apply Kd.R_alloc | apply Kd.R_drewN | apply Kd.R_drew)); exact Kd.R_mono (Kd.R_far (p := ⟨gb252, 4, none⟩) (Kd.R_far (p := ⟨gb252, 3, none⟩) (Kd.R_far (p := ⟨gb252, 2, none⟩) (Kd.R_far (p := ⟨gb252, 1, none⟩) (Kd.R_far (p := ⟨gb252, 0, none⟩) (Kd.R_mono HO_9.out (fun k_ hk => (⟨hk, hk.2⟩ : _ ∧ k_ ≠ gb252))) (fun _ hk => hk.2) (.int .i64 ((rd_T45 l0_6 (rd t239 ((rd_T43 t233 x76_3).f1))).f0))) (fun _ hk => hk.2) (.int .i64 ((rd_T45 l0_6 (rd t239 ((rd_T43 t233 x76_3).f1))).f1))) (fun _ hk => hk.2) (.int .i64 ((rd_T45 l0_6 (rd t239 ((rd_T43 t233 x76_3).f1))).f2))) (fun _ hk => hk.2) (.int .i64 ((rd_T45 l0_6 (rd t239 ((rd_T43 t233 x76_3).f1))).f3))) (fun _ hk => hk.2) (.int .u8 ((rd_T45 l0_6 (rd t239 ((rd_T43 t233 x76_3).f1))).f4))) (fun _ hk => ⟨hk.1.1, hk.1.2⟩)⟩, ⟨by (with_reducible repeat first|refine blk_drewN ?_ _|refine blk_drew ?_|refine blk_alloc ?_ _); refine blk_far ?_ NB232_252.out _; (with_reducible repeat first|refine blk_drewN ?_ _|refine blk_drew ?_|refine blk_alloc ?_ _); refine blk_far ?_ NB232_252.out _; (with_reducible repeat first|refine blk_drewN ?_ _|refine blk_drew ?_|refine blk_alloc ?_ _); refine blk_far ?_ NB232_252.out _; (with_reducible repeat first|refine blk_drewN ?_ _|refine blk_drew ?_|refine blk_alloc ?_ _); refine blk_far ?_ NB232_252.out _; (with_reducible repeat first|refine blk_drewN ?_ _|refine blk_drew ?_|refine blk_alloc ?_ _); refine blk_far ?_ NB232_252.out _; (with_reducible repeat first|refine blk_drewN ?_ _|refine blk_drew ?_|refine blk_alloc ?_ _); exact BK232.out⟩, ⟨by (with_reducible repeat first|refine blk_drewN ?_ _|refine blk_drew ?_|refine blk_alloc ?_ _); refine blk_far ?_ NB250_252.out _; (with_reducible repeat first|refine blk_drewN ?_ _|refine blk_drew ?_|refine blk_alloc ?_ _); refine blk_far ?_ NB250_252.out _; (with_reducible repeat first|refine blk_drewN ?_ _|refine blk_drew ?_|refine blk_alloc ?_ _); refine blk_far ?_ NB250_252.out _; (with_reducible repeat first|refine blk_drewN ?_ _|refine blk_drew ?_|refine blk_alloc ?_ _); refine blk_far ?_ NB250_252.out _; (with_reducible repeat first|refine blk_drewN ?_ _|refine blk_drew ?_|refine blk_alloc ?_ _); refine blk_far ?_ NB250_252.out _; (with_reducible repeat first|refine blk_drewN ?_ _|refine blk_drew ?_|refine blk_alloc ?_ _); exact BK250.out⟩, ⟨by (with_reducible repeat first|refine blk_drewN ?_ _|refine blk_drew ?_|refine blk_alloc ?_ _); refine blk_far ?_ NB251_252.out _; (with_reducible repeat first|refine blk_drewN ?_ _|refine blk_drew ?_|refine blk_alloc ?_ _); refine blk_far ?_ NB251_252.out _; (with_reducible repeat first|refine blk_drewN ?_ _|refine blk_drew ?_|refine blk_alloc ?_ _); refine blk_far ?_ NB251_252.out _; (with_reducible repeat first|refine blk_drewN ?_ _|refine blk_drew ?_|refine blk_alloc ?_ _); refine blk_far ?_ NB251_252.out _; (with_reducible repeat first|refine blk_drewN ?_ _|refine blk_drew ?_|refine blk_alloc ?_ _); refine blk_far ?_ NB251_252.out _; (with_reducible repeat first|refine blk_drewN ?_ _|refine blk_drew ?_|refine blk_alloc ?_ _); exact BK251.out⟩, ⟨by (with_reducible repeat first|refine blk_drewN ?_ _|refine blk_drew ?_|refine blk_alloc ?_ _); refine blk_put (cs := #[.int .i64 ((rd_T45 l0_6 (rd t239 ((rd_T43 t233 x76_3).f1))).f0), .int .i64 ((rd_T45 l0_6 (rd t239 ((rd_T43 t233 x76_3).f1))).f1), .int .i64 ((rd_T45 l0_6 (rd t239 ((rd_T43 t233 x76_3).f1))).f2), .int .i64 ((rd_T45 l0_6 (rd t239 ((rd_T43 t233 x76_3).f1))).f3), .int .u8 0]) ?_ 4 _ rfl; (with_reducible repeat first|refine blk_drewN ?_ _|refine blk_drew ?_|refine blk_alloc ?_ _); refine blk_put (cs := #[.int .i64 ((rd_T45 l0_6 (rd t239 ((rd_T43 t233 x76_3).f1))).f0), .int .i64 ((rd_T45 l0_6 (rd t239 ((rd_T43 t233 x76_3).f1))).f1), .int .i64 ((rd_T45 l0_6 (rd t239 ((rd_T43 t233 x76_3).f1))).f2), .int .i64 0, .int .u8 0]) ?_ 3 _ rfl; (with_reducible repeat first|refine blk_drewN ?_ _|refine blk_drew ?_|refine blk_alloc ?_ _); refine blk_put (cs := #[.int .i64 ((rd_T45 l0_6 (rd t239 ((rd_T43 t233 x76_3).f1))).f0), .int .i64 ((rd_T45 l0_6 (rd t239 ((rd_T43 t233 x76_3).f1))).f1), .int .i64 0, .int .i64 0, .int .u8 0]) ?_ 2 _ rfl; (with_reducible repeat first|refine blk_drewN ?_ _|refine blk_drew ?_|refine blk_alloc ?_ _); refine blk_put (cs := #[.int .i64 ((rd_T45 l0_6 (rd t239 ((rd_T43 t233 x76_3).f1))).f0), .int .i64 0, .int .i64 0, .int .i64 0, .int .u8 0]) ?_ 1 _ rfl; (with_reducible repeat first|refine blk_drewN ?_ _|refine blk_drew ?_|refine blk_alloc ?_ _); refine blk_put (cs := #[.int .i64 0, .int .i64 0, .int .i64 0, .int .i64 0, .int .u8 0]) ?_ 0 _ rfl; (with_reducible repeat first|refine blk_drewN ?_ _|refine blk_drew ?_|refine blk_alloc ?_ _); exact BK252.out⟩, ⟨bw⟩⟩
                       ·rw [if_neg c81] at H
                        exact absurd H (by simp)
                      ·rw [if_neg c80] at H
                       exact absurd H (by simp)
                     ·rw [if_neg c79] at H
                      exact absurd H (by simp)
                    ·rw [if_neg c78] at H
                     exact absurd H (by simp)
                   ·rw [if_neg c77] at H
                    have c77b0 : decide (((rd_T43 t233 x76_3).f1) < a0_3) = false := decide_eq_false c77
                    clear c77
                    (first | rw [c77b0] | (simp only [i64_w, i32_w]; rw [c77b0]) | skip)
                    have H' := AX H
                    clear H
                    go_wp2
                    go_meet
                    case rel => exact ⟨_, (0), (0), (0), (0), (0), H', ⟨by have := HJ4.out; have := HK2.out; have := HK3.out; have := HJ42.out; first | omega | exact Nat.le_refl _⟩, ⟨kr HO_6⟩, ⟨kr HO_8⟩, ⟨kr HO_9⟩, ⟨bkn BK232⟩, ⟨bkn BK250⟩, ⟨bkn BK251⟩, ⟨bkn BK252⟩, ⟨bw⟩⟩
                  case rest =>
                   clear HC69
                   try clear hcz73_0 hcz73_1
                   try clear hcz76_0 hcz76_1 hcz76_2 hcz76_3 hcz76_4 hcz76_5 hcz76_6
                   try clear hfz73_0 hfz73_1
                   try clear hfz76_0 hfz76_1 hfz76_2 hfz76_3 hfz76_4 hfz76_5 hfz76_6
                   obtain ⟨kq, x253000_68, x253001_68, x253002_68, x253003_68, x253004_68, HA, HJ68, HO_6, HO_8, HO_9, BK232, BK250, BK251, BK252, HB⟩ := hcut
                   cases kq with
                   | zero => exact absurd HA.out (by simp [pylonref11_Fill.j4])
                   | succ kj68 =>
                    have H := HA.out
                    clear HA
                    simp only [pylonref11_Fill.j4] at H
                    have HC88 := AX H
                    clear H
                    have hnb89 := NB250_232.out
                    have hnc89 := NB232_250.out
                    have hnb90 := NB250_251.out
                    have hnc90 := NB251_250.out
                    have hnb91 := NB250_252.out
                    have hnc91 := NB252_250.out
                    obtain ⟨hcz92_0, hcz92_1⟩ := blkC2 (w := wc) BK250.out
                    obtain ⟨hfz92_0, hfz92_1⟩ := blkF2 BK250.out
                    go_upto_if 117 with (fail)
                    go_cut [] (fun wc => ∃ (kq : Nat) (x252000_87 : Int) (x252001_87 : Int) (x252002_87 : Int) (x252003_87 : Int) (x252004_87 : Int), Aside0 (pylonref11_Fill.j5 kq a1 t233 t239 x9_3 (t233.length : Int) x76_3 a0_0 a0_1 a0_2 a0_3 a0_4 a0_5 l0_6 ((rd_T43 t233 x76_3).f0) ((rd_T43 t233 x76_3).f1) x252000_87 x252001_87 x252002_87 x252003_87 x252004_87 x253000_68 x253001_68 x253002_68 x253003_68 x253004_68 = some (r1, r2)) ∧ Aside0 (kq ≤ kj68) ∧ Aside0 (Kd.R k43 43 wc w.heap.size (fun k_ => k_ ≠ gb250) (.slice (some ad249) t233.length co35) t233) ∧ Aside0 (Kd.R (Kd.int .i64) 3 wc w.heap.size (fun _ => True) (.slice Ao24 t239.length co24) t239) ∧ Aside0 (Kd.R k45 45 wc w.heap.size (fun k_ => k_ ≠ gb251 ∧ k_ ≠ gb252) v243 x9_3) ∧ Aside0 (wc.heap[gb232]? = some (.cells #[.string a0_0, .int .i64 a0_1, .int .i64 a0_2, .int .i64 a0_3, .int .i64 a0_4, .int .i64 a0_5, (.slice A0_6 l0_6.length c0_6)] 31 (0, 0))) ∧ Aside0 (wc.heap[gb250]? = some (.cells #[.int .i64 ((rd_T43 t233 x76_3).f0), .int .i64 ((rd_T43 t233 x76_3).f1)] 43 (0, 0))) ∧ Aside0 (wc.heap[gb251]? = some (.cells #[.int .i64 x252000_87, .int .i64 x252001_87, .int .i64 x252002_87, .int .i64 x252003_87, .int .u8 x252004_87] 45 (0, 0))) ∧ Aside0 (wc.heap[gb252]? = some (.cells #[.int .i64 x253000_68, .int .i64 x253001_68, .int .i64 x253002_68, .int .i64 x253003_68, .int .u8 x253004_68] 45 (0, 0))) ∧ Aside0 (Below w.heap.size w wc))
                    case first =>
                     have H := HC88.out
                     clear HC88
                     by_cases c93 : ((rd_T43 t233 x76_3).f0) = 0
                     ·rw [if_pos c93] at H
                      have c93b0 : (((rd_T43 t233 x76_3).f0) == 0) = true := beq_iff_eq.mpr c93
                      have c93b1 : (((rd_T43 t233 x76_3).f0) != 0) = false := bne_eq_false_iff_eq.mpr c93
                      clear c93
                      (first | rw [c93b0] | (simp only [i64_w, i32_w]; rw [c93b0]) | skip)
                      have H' := AX H
                      clear H
                      have hnb94 := NB252_232.out
                      have hnc94 := NB232_252.out
                      have hnb95 := NB252_250.out
                      have hnc95 := NB250_252.out
                      have hnb96 := NB252_251.out
                      have hnc96 := NB251_252.out
                      obtain ⟨hcz97_0, hcz97_1, hcz97_2, hcz97_3, hcz97_4⟩ := blkC5 (w := wc) BK252.out
                      obtain ⟨hfz97_0, hfz97_1, hfz97_2, hfz97_3, hfz97_4⟩ := blkF5 BK252.out
                      have hnb98 := NB251_232.out
                      have hnc98 := NB232_251.out
                      have hnb99 := NB251_250.out
                      have hnc99 := NB250_251.out
                      obtain ⟨hcz100_0, hcz100_1, hcz100_2, hcz100_3, hcz100_4⟩ := blkC5 (w := wc) BK251.out
                      obtain ⟨hfz100_0, hfz100_1, hfz100_2, hfz100_3, hfz100_4⟩ := blkF5 BK251.out
                      go_wp2
                      go_meet
                      case rel => exact ⟨_, (x253000_68), (x253001_68), (x253002_68), (x253003_68), (x253004_68), H', ⟨by have := HJ4.out; have := HK2.out; have := HK3.out; have := HJ42.out; have := HJ68.out; first | omega | exact Nat.le_refl _⟩, ⟨by (with_reducible repeat (first | apply Kd.R_alloc | apply Kd.R_drewN | apply Kd.R_drew)); exact Kd.R_mono (Kd.R_far (p := ⟨gb251, 4, none⟩) (Kd.R_far (p := ⟨gb251, 3, none⟩) (Kd.R_far (p := ⟨gb251, 2, none⟩) (Kd.R_far (p := ⟨gb251, 1, none⟩) (Kd.R_far (p := ⟨gb251, 0, none⟩) (Kd.R_types HO_6.out BK251.out (by decide)) (fun _ hk => hk.2) (.int .i64 x253000_68)) (fun _ hk => hk.2) (.int .i64 x253001_68)) (fun _ hk => hk.2) (.int .i64 x253002_68)) (fun _ hk => hk.2) (.int .i64 x253003_68)) (fun _ hk => hk.2) (.int .u8 x253004_68)) (fun _ hk => hk.1)⟩, ⟨by (with_reducible repeat (first | apply Kd.R_alloc | apply Kd.R_drewN | apply Kd.R_drew)); exact Kd.R_mono (Kd.R_far (p := ⟨gb251, 4, none⟩) (Kd.R_far (p := ⟨gb251, 3, none⟩) (Kd.R_far (p := ⟨gb251, 2, none⟩) (Kd.R_far (p := ⟨gb251, 1, none⟩) (Kd.R_far (p := ⟨gb251, 0, none⟩) (Kd.R_types HO_8.out BK251.out (by decide)) (fun _ hk => hk.2) (.int .i64 x253000_68)) (fun _ hk => hk.2) (.int .i64 x253001_68)) (fun _ hk => hk.2) (.int .i64 x253002_68)) (fun _ hk => hk.2) (.int .i64 x253003_68)) (fun _ hk => hk.2) (.int .u8 x253004_68)) (fun _ hk => trivial)⟩, ⟨by (with_reducible repeat (first | apply Kd.R_alloc | apply Kd.R_drewN | apply Kd.R_drew)); exact Kd.R_mono (Kd.R_far (p := ⟨gb251, 4, none⟩) (Kd.R_far (p := ⟨gb251, 3, none⟩) (Kd.R_far (p := ⟨gb251, 2, none⟩) (Kd.R_far (p := ⟨gb251, 1, none⟩) (Kd.R_far (p := ⟨gb251, 0, none⟩) (Kd.R_mono HO_9.out (fun k_ hk => (⟨hk, hk.1⟩ : _ ∧ k_ ≠ gb251))) (fun _ hk => hk.2) (.int .i64 x253000_68)) (fun _ hk => hk.2) (.int .i64 x253001_68)) (fun _ hk => hk.2) (.int .i64 x253002_68)) (fun _ hk => hk.2) (.int .i64 x253003_68)) (fun _ hk => hk.2) (.int .u8 x253004_68)) (fun _ hk => ⟨hk.1.1, hk.1.2⟩)⟩, ⟨by (with_reducible repeat first|refine blk_drewN ?_ _|refine blk_drew ?_|refine blk_alloc ?_ _); refine blk_far ?_ NB232_251.out _; (with_reducible repeat first|refine blk_drewN ?_ _|refine blk_drew ?_|refine blk_alloc ?_ _); refine blk_far ?_ NB232_251.out _; (with_reducible repeat first|refine blk_drewN ?_ _|refine blk_drew ?_|refine blk_alloc ?_ _); refine blk_far ?_ NB232_251.out _; (with_reducible repeat first|refine blk_drewN ?_ _|refine blk_drew ?_|refine blk_alloc ?_ _); refine blk_far ?_ NB232_251.out _; (with_reducible repeat first|refine blk_drewN ?_ _|refine blk_drew ?_|refine blk_alloc ?_ _); refine blk_far ?_ NB232_251.out _; (with_reducible repeat first|refine blk_drewN ?_ _|refine blk_drew ?_|refine blk_alloc ?_ _); exact BK232.out⟩, ⟨by (with_reducible repeat first|refine blk_drewN ?_ _|refine blk_drew ?_|refine blk_alloc ?_ _); refine blk_far ?_ NB250_251.out _; (with_reducible repeat first|refine blk_drewN ?_ _|refine blk_drew ?_|refine blk_alloc ?_ _); refine blk_far ?_ NB250_251.out _; (with_reducible repeat first|refine blk_drewN ?_ _|refine blk_drew ?_|refine blk_alloc ?_ _); refine blk_far ?_ NB250_251.out _; (with_reducible repeat first|refine blk_drewN ?_ _|refine blk_drew ?_|refine blk_alloc ?_ _); refine blk_far ?_ NB250_251.out _; (with_reducible repeat first|refine blk_drewN ?_ _|refine blk_drew ?_|refine blk_alloc ?_ _); refine blk_far ?_ NB250_251.out _; (with_reducible repeat first|refine blk_drewN ?_ _|refine blk_drew ?_|refine blk_alloc ?_ _); exact BK250.out⟩, ⟨by (with_reducible repeat first|refine blk_drewN ?_ _|refine blk_drew ?_|refine blk_alloc ?_ _); refine blk_put (cs := #[.int .i64 x253000_68, .int .i64 x253001_68, .int .i64 x253002_68, .int .i64 x253003_68, .int .u8 x252004_42]) ?_ 4 _ rfl; (with_reducible repeat first|refine blk_drewN ?_ _|refine blk_drew ?_|refine blk_alloc ?_ _); refine blk_put (cs := #[.int .i64 x253000_68, .int .i64 x253001_68, .int .i64 x253002_68, .int .i64 x252003_42, .int .u8 x252004_42]) ?_ 3 _ rfl; (with_reducible repeat first|refine blk_drewN ?_ _|refine blk_drew ?_|refine blk_alloc ?_ _); refine blk_put (cs := #[.int .i64 x253000_68, .int .i64 x253001_68, .int .i64 x252002_42, .int .i64 x252003_42, .int .u8 x252004_42]) ?_ 2 _ rfl; (with_reducible repeat first|refine blk_drewN ?_ _|refine blk_drew ?_|refine blk_alloc ?_ _); refine blk_put (cs := #[.int .i64 x253000_68, .int .i64 x252001_42, .int .i64 x252002_42, .int .i64 x252003_42, .int .u8 x252004_42]) ?_ 1 _ rfl; (with_reducible repeat first|refine blk_drewN ?_ _|refine blk_drew ?_|refine blk_alloc ?_ _); refine blk_put (cs := #[.int .i64 x252000_42, .int .i64 x252001_42, .int .i64 x252002_42, .int .i64 x252003_42, .int .u8 x252004_42]) ?_ 0 _ rfl; (with_reducible repeat first|refine blk_drewN ?_ _|refine blk_drew ?_|refine blk_alloc ?_ _); exact BK251.out⟩, ⟨by (with_reducible repeat first|refine blk_drewN ?_ _|refine blk_drew ?_|refine blk_alloc ?_ _); refine blk_far ?_ NB252_251.out _; (with_reducible repeat first|refine blk_drewN ?_ _|refine blk_drew ?_|refine blk_alloc ?_ _); refine blk_far ?_ NB252_251.out _; (with_reducible repeat first|refine blk_drewN ?_ _|refine blk_drew ?_|refine blk_alloc ?_ _); refine blk_far ?_ NB252_251.out _; (with_reducible repeat first|refine blk_drewN ?_ _|refine blk_drew ?_|refine blk_alloc ?_ _); refine blk_far ?_ NB252_251.out _; (with_reducible repeat first|refine blk_drewN ?_ _|refine blk_drew ?_|refine blk_alloc ?_ _); refine blk_far ?_ NB252_251.out _; (with_reducible repeat first|refine blk_drewN ?_ _|refine blk_drew ?_|refine blk_alloc ?_ _); exact BK252.out⟩, ⟨bw⟩⟩
                     ·rw [if_neg c93] at H
                      have c93b0 : (((rd_T43 t233 x76_3).f0) == 0) = false := beq_eq_false_iff_ne.mpr c93
                      have c93b1 : (((rd_T43 t233 x76_3).f0) != 0) = true := bne_iff_ne.mpr c93
                      (first | rw [c93b0] | (simp only [i64_w, i32_w]; rw [c93b0]) | skip)
                      have H' := AX H
                      clear H
                      go_wp2
                      go_meet
                      case rel => exact ⟨_, (x252000_42), (x252001_42), (x252002_42), (x252003_42), (x252004_42), H', ⟨by have := HJ4.out; have := HK2.out; have := HK3.out; have := HJ42.out; have := HJ68.out; first | omega | exact Nat.le_refl _⟩, ⟨kr HO_6⟩, ⟨kr HO_8⟩, ⟨kr HO_9⟩, ⟨bkn BK232⟩, ⟨bkn BK250⟩, ⟨bkn BK251⟩, ⟨bkn BK252⟩, ⟨bw⟩⟩
                    case rest =>
                     clear HC88
                     try clear hcz92_0 hcz92_1
                     try clear hfz92_0 hfz92_1
                     obtain ⟨kq, x252000_87, x252001_87, x252002_87, x252003_87, x252004_87, HA, HJ87, HO_6, HO_8, HO_9, BK232, BK250, BK251, BK252, HB⟩ := hcut
                     cases kq with
                     | zero => exact absurd HA.out (by simp [pylonref11_Fill.j5])
                     | succ kj87 =>
                      have H := HA.out
                      clear HA
                      simp only [pylonref11_Fill.j5] at H
                      have HC101 := AX H
                      clear H
                      have hnb102 := NB250_232.out
                      have hnc102 := NB232_250.out
                      have hnb103 := NB250_251.out
                      have hnc103 := NB251_250.out
                      have hnb104 := NB250_252.out
                      have hnc104 := NB252_250.out
                      obtain ⟨hcz105_0, hcz105_1⟩ := blkC2 (w := wc) BK250.out
                      obtain ⟨hfz105_0, hfz105_1⟩ := blkF2 BK250.out
                      have hnb106 := NB232_251.out
                      have hnc106 := NB251_232.out
                      have hnb107 := NB232_252.out
                      have hnc107 := NB252_232.out
                      obtain ⟨hcz108_0, hcz108_1, hcz108_2, hcz108_3, hcz108_4, hcz108_5, hcz108_6⟩ := blkC7 (w := wc) BK232.out
                      obtain ⟨hfz108_0, hfz108_1, hfz108_2, hfz108_3, hfz108_4, hfz108_5, hfz108_6⟩ := blkF7 BK232.out
                      go_upto_if 123 with (fail)
                      go_cut [] (fun wc => ∃ (kq : Nat) (x253000_100 : Int) (x253001_100 : Int) (x253002_100 : Int) (x253003_100 : Int) (x253004_100 : Int), Aside0 (pylonref11_Fill.j6 kq a1 t233 t239 x9_3 (t233.length : Int) x76_3 a0_0 a0_1 a0_2 a0_3 a0_4 a0_5 l0_6 ((rd_T43 t233 x76_3).f0) ((rd_T43 t233 x76_3).f1) x252000_87 x252001_87 x252002_87 x252003_87 x252004_87 x253000_100 x253001_100 x253002_100 x253003_100 x253004_100 = some (r1, r2)) ∧ Aside0 (kq ≤ kj87) ∧ Aside0 (Kd.R k43 43 wc w.heap.size (fun k_ => k_ ≠ gb250) (.slice (some ad249) t233.length co35) t233) ∧ Aside0 (Kd.R (Kd.int .i64) 3 wc w.heap.size (fun _ => True) (.slice Ao24 t239.length co24) t239) ∧ Aside0 (Kd.R k45 45 wc w.heap.size (fun k_ => k_ ≠ gb251 ∧ k_ ≠ gb252) v243 x9_3) ∧ Aside0 (wc.heap[gb232]? = some (.cells #[.string a0_0, .int .i64 a0_1, .int .i64 a0_2, .int .i64 a0_3, .int .i64 a0_4, .int .i64 a0_5, (.slice A0_6 l0_6.length c0_6)] 31 (0, 0))) ∧ Aside0 (wc.heap[gb250]? = some (.cells #[.int .i64 ((rd_T43 t233 x76_3).f0), .int .i64 ((rd_T43 t233 x76_3).f1)] 43 (0, 0))) ∧ Aside0 (wc.heap[gb251]? = some (.cells #[.int .i64 x252000_87, .int .i64 x252001_87, .int .i64 x252002_87, .int .i64 x252003_87, .int .u8 x252004_87] 45 (0, 0))) ∧ Aside0 (wc.heap[gb252]? = some (.cells #[.int .i64 x253000_100, .int .i64 x253001_100, .int .i64 x253002_100, .int .i64 x253003_100, .int .u8 x253004_100] 45 (0, 0))) ∧ Aside0 (Below w.heap.size w wc))
                      case first =>
                       have H := HC101.out
                       clear HC101
                       by_cases c109 : ((rd_T43 t233 x76_3).f1) = a0_3
                       ·rw [if_pos c109] at H
                        have c109b0 : (((rd_T43 t233 x76_3).f1) == a0_3) = true := beq_iff_eq.mpr c109
                        have c109b1 : (((rd_T43 t233 x76_3).f1) != a0_3) = false := bne_eq_false_iff_eq.mpr c109
                        clear c109
                        (first | rw [c109b0] | (simp only [i64_w, i32_w]; rw [c109b0]) | skip)
                        have H' := AX H
                        clear H
                        have hnb110 := NB251_232.out
                        have hnc110 := NB232_251.out
                        have hnb111 := NB251_250.out
                        have hnc111 := NB250_251.out
                        have hnb112 := NB251_252.out
                        have hnc112 := NB252_251.out
                        obtain ⟨hcz113_0, hcz113_1, hcz113_2, hcz113_3, hcz113_4⟩ := blkC5 (w := wc) BK251.out
                        obtain ⟨hfz113_0, hfz113_1, hfz113_2, hfz113_3, hfz113_4⟩ := blkF5 BK251.out
                        have hnb114 := NB252_232.out
                        have hnc114 := NB232_252.out
                        have hnb115 := NB252_250.out
                        have hnc115 := NB250_252.out
                        obtain ⟨hcz116_0, hcz116_1, hcz116_2, hcz116_3, hcz116_4⟩ := blkC5 (w := wc) BK252.out
                        obtain ⟨hfz116_0, hfz116_1, hfz116_2, hfz116_3, hfz116_4⟩ := blkF5 BK252.out
                        go_wp2
                        go_meet
                        case rel => exact ⟨_, (x252000_87), (x252001_87), (x252002_87), (x252003_87), (x252004_87), H', ⟨by have := HJ4.out; have := HK2.out; have := HK3.out; have := HJ42.out; have := HJ68.out; have := HJ87.out; first | omega | exact Nat.le_refl _⟩, ⟨by (with_reducible repeat (first | apply Kd.R_alloc | apply Kd.R_drewN | apply Kd.R_drew)); exact Kd.R_mono (Kd.R_far (p := ⟨gb252, 4, none⟩) (Kd.R_far (p := ⟨gb252, 3, none⟩) (Kd.R_far (p := ⟨gb252, 2, none⟩) (Kd.R_far (p := ⟨gb252, 1, none⟩) (Kd.R_far (p := ⟨gb252, 0, none⟩) (Kd.R_types HO_6.out BK252.out (by decide)) (fun _ hk => hk.2) (.int .i64 x252000_87)) (fun _ hk => hk.2) (.int .i64 x252001_87)) (fun _ hk => hk.2) (.int .i64 x252002_87)) (fun _ hk => hk.2) (.int .i64 x252003_87)) (fun _ hk => hk.2) (.int .u8 x252004_87)) (fun _ hk => hk.1)⟩, ⟨by (with_reducible repeat (first | apply Kd.R_alloc | apply Kd.R_drewN | apply Kd.R_drew)); exact Kd.R_mono (Kd.R_far (p := ⟨gb252, 4, none⟩) (Kd.R_far (p := ⟨gb252, 3, none⟩) (Kd.R_far (p := ⟨gb252, 2, none⟩) (Kd.R_far (p := ⟨gb252, 1, none⟩) (Kd.R_far (p := ⟨gb252, 0, none⟩) (Kd.R_types HO_8.out BK252.out (by decide)) (fun _ hk => hk.2) (.int .i64 x252000_87)) (fun _ hk => hk.2) (.int .i64 x252001_87)) (fun _ hk => hk.2) (.int .i64 x252002_87)) (fun _ hk => hk.2) (.int .i64 x252003_87)) (fun _ hk => hk.2) (.int .u8 x252004_87)) (fun _ hk => trivial)⟩, ⟨by (with_reducible repeat (first | apply Kd.R_alloc | apply Kd.R_drewN | apply Kd.R_drew)); exact Kd.R_mono (Kd.R_far (p := ⟨gb252, 4, none⟩) (Kd.R_far (p := ⟨gb252, 3, none⟩) (Kd.R_far (p := ⟨gb252, 2, none⟩) (Kd.R_far (p := ⟨gb252, 1, none⟩) (Kd.R_far (p := ⟨gb252, 0, none⟩) (Kd.R_mono HO_9.out (fun k_ hk => (⟨hk, hk.2⟩ : _ ∧ k_ ≠ gb252))) (fun _ hk => hk.2) (.int .i64 x252000_87)) (fun _ hk => hk.2) (.int .i64 x252001_87)) (fun _ hk => hk.2) (.int .i64 x252002_87)) (fun _ hk => hk.2) (.int .i64 x252003_87)) (fun _ hk => hk.2) (.int .u8 x252004_87)) (fun _ hk => ⟨hk.1.1, hk.1.2⟩)⟩, ⟨by (with_reducible repeat first|refine blk_drewN ?_ _|refine blk_drew ?_|refine blk_alloc ?_ _); refine blk_far ?_ NB232_252.out _; (with_reducible repeat first|refine blk_drewN ?_ _|refine blk_drew ?_|refine blk_alloc ?_ _); refine blk_far ?_ NB232_252.out _; (with_reducible repeat first|refine blk_drewN ?_ _|refine blk_drew ?_|refine blk_alloc ?_ _); refine blk_far ?_ NB232_252.out _; (with_reducible repeat first|refine blk_drewN ?_ _|refine blk_drew ?_|refine blk_alloc ?_ _); refine blk_far ?_ NB232_252.out _; (with_reducible repeat first|refine blk_drewN ?_ _|refine blk_drew ?_|refine blk_alloc ?_ _); refine blk_far ?_ NB232_252.out _; (with_reducible repeat first|refine blk_drewN ?_ _|refine blk_drew ?_|refine blk_alloc ?_ _); exact BK232.out⟩, ⟨by (with_reducible repeat first|refine blk_drewN ?_ _|refine blk_drew ?_|refine blk_alloc ?_ _); refine blk_far ?_ NB250_252.out _; (with_reducible repeat first|refine blk_drewN ?_ _|refine blk_drew ?_|refine blk_alloc ?_ _); refine blk_far ?_ NB250_252.out _; (with_reducible repeat first|refine blk_drewN ?_ _|refine blk_drew ?_|refine blk_alloc ?_ _); refine blk_far ?_ NB250_252.out _; (with_reducible repeat first|refine blk_drewN ?_ _|refine blk_drew ?_|refine blk_alloc ?_ _); refine blk_far ?_ NB250_252.out _; (with_reducible repeat first|refine blk_drewN ?_ _|refine blk_drew ?_|refine blk_alloc ?_ _); refine blk_far ?_ NB250_252.out _; (with_reducible repeat first|refine blk_drewN ?_ _|refine blk_drew ?_|refine blk_alloc ?_ _); exact BK250.out⟩, ⟨by (with_reducible repeat first|refine blk_drewN ?_ _|refine blk_drew ?_|refine blk_alloc ?_ _); refine blk_far ?_ NB251_252.out _; (with_reducible repeat first|refine blk_drewN ?_ _|refine blk_drew ?_|refine blk_alloc ?_ _); refine blk_far ?_ NB251_252.out _; (with_reducible repeat first|refine blk_drewN ?_ _|refine blk_drew ?_|refine blk_alloc ?_ _); refine blk_far ?_ NB251_252.out _; (with_reducible repeat first|refine blk_drewN ?_ _|refine blk_drew ?_|refine blk_alloc ?_ _); refine blk_far ?_ NB251_252.out _; (with_reducible repeat first|refine blk_drewN ?_ _|refine blk_drew ?_|refine blk_alloc ?_ _); refine blk_far ?_ NB251_252.out _; (with_reducible repeat first|refine blk_drewN ?_ _|refine blk_drew ?_|refine blk_alloc ?_ _); exact BK251.out⟩, ⟨by (with_reducible repeat first|refine blk_drewN ?_ _|refine blk_drew ?_|refine blk_alloc ?_ _); refine blk_put (cs := #[.int .i64 x252000_87, .int .i64 x252001_87, .int .i64 x252002_87, .int .i64 x252003_87, .int .u8 x253004_68]) ?_ 4 _ rfl; (with_reducible repeat first|refine blk_drewN ?_ _|refine blk_drew ?_|refine blk_alloc ?_ _); refine blk_put (cs := #[.int .i64 x252000_87, .int .i64 x252001_87, .int .i64 x252002_87, .int .i64 x253003_68, .int .u8 x253004_68]) ?_ 3 _ rfl; (with_reducible repeat first|refine blk_drewN ?_ _|refine blk_drew ?_|refine blk_alloc ?_ _); refine blk_put (cs := #[.int .i64 x252000_87, .int .i64 x252001_87, .int .i64 x253002_68, .int .i64 x253003_68, .int .u8 x253004_68]) ?_ 2 _ rfl; (with_reducible repeat first|refine blk_drewN ?_ _|refine blk_drew ?_|refine blk_alloc ?_ _); refine blk_put (cs := #[.int .i64 x252000_87, .int .i64 x253001_68, .int .i64 x253002_68, .int .i64 x253003_68, .int .u8 x253004_68]) ?_ 1 _ rfl; (with_reducible repeat first|refine blk_drewN ?_ _|refine blk_drew ?_|refine blk_alloc ?_ _); refine blk_put (cs := #[.int .i64 x253000_68, .int .i64 x253001_68, .int .i64 x253002_68, .int .i64 x253003_68, .int .u8 x253004_68]) ?_ 0 _ rfl; (with_reducible repeat first|refine blk_drewN ?_ _|refine blk_drew ?_|refine blk_alloc ?_ _); exact BK252.out⟩, ⟨bw⟩⟩
                       ·rw [if_neg c109] at H
                        have c109b0 : (((rd_T43 t233 x76_3).f1) == a0_3) = false := beq_eq_false_iff_ne.mpr c109
                        have c109b1 : (((rd_T43 t233 x76_3).f1) != a0_3) = true := bne_iff_ne.mpr c109
                        (first | rw [c109b0] | (simp only [i64_w, i32_w]; rw [c109b0]) | skip)
                        have H' := AX H
                        clear H
                        go_wp2
                        go_meet
                        case rel => exact ⟨_, (x253000_68), (x253001_68), (x253002_68), (x253003_68), (x253004_68), H', ⟨by have := HJ4.out; have := HK2.out; have := HK3.out; have := HJ42.out; have := HJ68.out; have := HJ87.out; first | omega | exact Nat.le_refl _⟩, ⟨kr HO_6⟩, ⟨kr HO_8⟩, ⟨kr HO_9⟩, ⟨bkn BK232⟩, ⟨bkn BK250⟩, ⟨bkn BK251⟩, ⟨bkn BK252⟩, ⟨bw⟩⟩
                      case rest =>
                       clear HC101
                       try clear hcz105_0 hcz105_1
                       try clear hcz108_0 hcz108_1 hcz108_2 hcz108_3 hcz108_4 hcz108_5 hcz108_6
                       try clear hfz105_0 hfz105_1
                       try clear hfz108_0 hfz108_1 hfz108_2 hfz108_3 hfz108_4 hfz108_5 hfz108_6
                       obtain ⟨kq, x253000_100, x253001_100, x253002_100, x253003_100, x253004_100, HA, HJ100, HO_6, HO_8, HO_9, BK232, BK250, BK251, BK252, HB⟩ := hcut
                       cases kq with
                       | zero => exact absurd HA.out (by simp [pylonref11_Fill.j6])
                       | succ kj100 =>
                        have H := HA.out
                        clear HA
                        simp only [pylonref11_Fill.j6] at H
                        replace H := Option.bind_eq_some_iff.mp H
                        obtain ⟨⟨t256, t257⟩, A1170, H⟩ := H
                        replace H : ((pylonref11_Line.f kj100 x252002_87 x253002_100 (wrap64 (((rd_T43 t233 x76_3).f1) - ((rd_T43 t233 x76_3).f0)))).bind fun bt260 => ((pylonref11_Line.f kj100 x252003_87 x253003_100 (wrap64 (((rd_T43 t233 x76_3).f1) - ((rd_T43 t233 x76_3).f0)))).bind fun bt264 => (pylonref11_Fill.l2 kj100 a1 t233 t239 x9_3 t256 bt260.1 bt264.1 (t233.length : Int) x76_3 (t256.length : Int) 0 a0_0 a0_1 a0_2 a0_3 a0_4 a0_5 l0_6 ((rd_T43 t233 x76_3).f0) ((rd_T43 t233 x76_3).f1)))) = some (r1, r2) := H
                        have A117 := AX A1170
                        clear A1170
                        replace H := Option.bind_eq_some_iff.mp H
                        obtain ⟨⟨t260, t261⟩, A1180, H⟩ := H
                        replace H : ((pylonref11_Line.f kj100 x252003_87 x253003_100 (wrap64 (((rd_T43 t233 x76_3).f1) - ((rd_T43 t233 x76_3).f0)))).bind fun bt264 => (pylonref11_Fill.l2 kj100 a1 t233 t239 x9_3 t256 t260 bt264.1 (t233.length : Int) x76_3 (t256.length : Int) 0 a0_0 a0_1 a0_2 a0_3 a0_4 a0_5 l0_6 ((rd_T43 t233 x76_3).f0) ((rd_T43 t233 x76_3).f1))) = some (r1, r2) := H
                        have A118 := AX A1180
                        clear A1180
                        replace H := Option.bind_eq_some_iff.mp H
                        obtain ⟨⟨t264, t265⟩, A1190, H⟩ := H
                        replace H : (pylonref11_Fill.l2 kj100 a1 t233 t239 x9_3 t256 t260 t264 (t233.length : Int) x76_3 (t256.length : Int) 0 a0_0 a0_1 a0_2 a0_3 a0_4 a0_5 l0_6 ((rd_T43 t233 x76_3).f0) ((rd_T43 t233 x76_3).f1)) = some (r1, r2) := H
                        have A119 := AX A1190
                        clear A1190
                        have H' := AX H
                        clear H
                        have hnb120 := NB251_232.out
                        have hnc120 := NB232_251.out
                        have hnb121 := NB251_250.out
                        have hnc121 := NB250_251.out
                        have hnb122 := NB251_252.out
                        have hnc122 := NB252_251.out
                        obtain ⟨hcz123_0, hcz123_1, hcz123_2, hcz123_3, hcz123_4⟩ := blkC5 (w := wc) BK251.out
                        obtain ⟨hfz123_0, hfz123_1, hfz123_2, hfz123_3, hfz123_4⟩ := blkF5 BK251.out
                        have hnb124 := NB252_232.out
                        have hnc124 := NB232_252.out
                        have hnb125 := NB252_250.out
                        have hnc125 := NB250_252.out
                        obtain ⟨hcz126_0, hcz126_1, hcz126_2, hcz126_3, hcz126_4⟩ := blkC5 (w := wc) BK252.out
                        obtain ⟨hfz126_0, hfz126_1, hfz126_2, hfz126_3, hfz126_4⟩ := blkF5 BK252.out
                        have hnb127 := NB250_232.out
                        have hnc127 := NB232_250.out
                        obtain ⟨hcz128_0, hcz128_1⟩ := blkC2 (w := wc) BK250.out
                        obtain ⟨hfz128_0, hfz128_1⟩ := blkF2 BK250.out
                        go_wp2_with (first | ((with_reducible refine gate_callee (f := 11) rfl ?_); refine gL (some 135) Try.func11 #[.int .i64 x252001_87, .int .i64 x253001_100, .int .i64 (wrap64 (((rd_T43 t233 x76_3).f1) - ((rd_T43 t233 x76_3).f0)))] ?_; (with_reducible refine (pylonref11_Line.calls kj100 x252001_87 x253001_100 (wrap64 (((rd_T43 t233 x76_3).f1) - ((rd_T43 t233 x76_3).f0))) t256 t257 _ A117.out).mono ?_); rintro e w129 ⟨v258, rfl, ho0, hb⟩; refine ⟨_, rfl, ?_⟩; have HO259 := AX (Kd.R_lower ho0 (below_size bw)); replace HO_6 := AX (Kd.R_below (kr HO_6) hb); replace HO_8 := AX (Kd.R_below (kr HO_8) hb); replace HO_9 := AX (Kd.R_below (kr HO_9) hb); replace BK232 := AX (bkb BK232 hb); replace BK250 := AX (bkb BK250 hb); replace BK251 := AX (bkb BK251 hb); replace BK252 := AX (bkb BK252 hb); replace HB := AX (below_step bw hb); (try clear hb); (try clear hb2); (try clear hk); (try clear hi); (try clear ho0); obtain ⟨hcz130_0, hcz130_1, hcz130_2, hcz130_3, hcz130_4⟩ := blkC5 (w := w129) BK251.out; obtain ⟨hfz130_0, hfz130_1, hfz130_2, hfz130_3, hfz130_4⟩ := blkF5 BK251.out; obtain ⟨hcz131_0, hcz131_1, hcz131_2, hcz131_3, hcz131_4⟩ := blkC5 (w := w129) BK252.out; obtain ⟨hfz131_0, hfz131_1, hfz131_2, hfz131_3, hfz131_4⟩ := blkF5 BK252.out; obtain ⟨hcz132_0, hcz132_1⟩ := blkC2 (w := w129) BK250.out; obtain ⟨hfz132_0, hfz132_1⟩ := blkF2 BK250.out) | ((with_reducible refine gate_callee (f := 11) rfl ?_); refine gL (some 148) Try.func11 #[.int .i64 x252002_87, .int .i64 x253002_100, .int .i64 (wrap64 (((rd_T43 t233 x76_3).f1) - ((rd_T43 t233 x76_3).f0)))] ?_; (with_reducible refine (pylonref11_Line.calls kj100 x252002_87 x253002_100 (wrap64 (((rd_T43 t233 x76_3).f1) - ((rd_T43 t233 x76_3).f0))) t260 t261 _ A118.out).mono ?_); rintro e w133 ⟨v262, rfl, ho0, hb⟩; refine ⟨_, rfl, ?_⟩; have HO263 := AX (Kd.R_lower (Kd.R_new' ho0 (Kd.R_lt (kr HO259))) (below_size bw)); replace HO_6 := AX (Kd.R_below (kr HO_6) hb); replace HO_8 := AX (Kd.R_below (kr HO_8) hb); replace HO_9 := AX (Kd.R_below (kr HO_9) hb); replace HO259 := AX (Kd.R_elder' (kr HO259) (Kd.R_base ho0) hb); replace BK232 := AX (bkb BK232 hb); replace BK250 := AX (bkb BK250 hb); replace BK251 := AX (bkb BK251 hb); replace BK252 := AX (bkb BK252 hb); replace HB := AX (below_step bw hb); (try clear hb); (try clear hb2); (try clear hk); (try clear hi); (try clear ho0); obtain ⟨hcz134_0, hcz134_1, hcz134_2, hcz134_3, hcz134_4⟩ := blkC5 (w := w133) BK251.out; obtain ⟨hfz134_0, hfz134_1, hfz134_2, hfz134_3, hfz134_4⟩ := blkF5 BK251.out; obtain ⟨hcz135_0, hcz135_1, hcz135_2, hcz135_3, hcz135_4⟩ := blkC5 (w := w133) BK252.out; obtain ⟨hfz135_0, hfz135_1, hfz135_2, hfz135_3, hfz135_4⟩ := blkF5 BK252.out; obtain ⟨hcz136_0, hcz136_1⟩ := blkC2 (w := w133) BK250.out; obtain ⟨hfz136_0, hfz136_1⟩ := blkF2 BK250.out) | ((with_reducible refine gate_callee (f := 11) rfl ?_); refine gL (some 161) Try.func11 #[.int .i64 x252003_87, .int .i64 x253003_100, .int .i64 (wrap64 (((rd_T43 t233 x76_3).f1) - ((rd_T43 t233 x76_3).f0)))] ?_; (with_reducible refine (pylonref11_Line.calls kj100 x252003_87 x253003_100 (wrap64 (((rd_T43 t233 x76_3).f1) - ((rd_T43 t233 x76_3).f0))) t264 t265 _ A119.out).mono ?_); rintro e w137 ⟨v266, rfl, ho0, hb⟩; refine ⟨_, rfl, ?_⟩; have HO267 := AX (Kd.R_lower (Kd.R_new' (Kd.R_new' ho0 (Kd.R_lt (kr HO259))) (Kd.R_lt (kr HO263))) (below_size bw)); replace HO_6 := AX (Kd.R_below (kr HO_6) hb); replace HO_8 := AX (Kd.R_below (kr HO_8) hb); replace HO_9 := AX (Kd.R_below (kr HO_9) hb); replace HO259 := AX (Kd.R_elder' (kr HO259) (Kd.R_base ho0) hb); replace HO263 := AX (Kd.R_elder' (kr HO263) (Kd.R_base ho0) hb); replace BK232 := AX (bkb BK232 hb); replace BK250 := AX (bkb BK250 hb); replace BK251 := AX (bkb BK251 hb); replace BK252 := AX (bkb BK252 hb); replace HB := AX (below_step bw hb); (try clear hb); (try clear hb2); (try clear hk); (try clear hi); (try clear ho0); obtain ⟨Ao138, co138, eo138⟩ := Kd.R_slice HO259.out; subst eo138))
                        go_loopg [166] kj100 (fun kq v166 w' => ∃ (x9_8 : List (S45)) (x166_8 : Int) (x252000_8 : Int) (x252001_8 : Int) (x252002_8 : Int) (x252003_8 : Int) (x252004_8 : Int) (x253000_8 : Int) (x253001_8 : Int) (x253002_8 : Int) (x253003_8 : Int) (x253004_8 : Int), v166 = .int .i64 x166_8 ∧ Aside0 (pylonref11_Fill.l2 kq a1 t233 t239 x9_8 t256 t260 t264 (t233.length : Int) x76_3 (t256.length : Int) x166_8 a0_0 a0_1 a0_2 a0_3 a0_4 a0_5 l0_6 ((rd_T43 t233 x76_3).f0) ((rd_T43 t233 x76_3).f1) = some (r1, r2)) ∧ Aside0 (kq ≤ kj100) ∧ Aside0 (Kd.R k43 43 w' w.heap.size (fun k_ => k_ ≠ gb250) (.slice (some ad249) t233.length co35) t233) ∧ Aside0 (Kd.R (Kd.int .i64) 3 w' w.heap.size (fun _ => True) (.slice Ao24 t239.length co24) t239) ∧ Aside0 (Kd.R k45 45 w' w.heap.size (fun k_ => k_ ≠ gb251 ∧ k_ ≠ gb252) v243 x9_8) ∧ Aside0 (Kd.R (Kd.int .i64) 2 w' w.heap.size (fun k_ => some k_ ≠ (v262 : Value).ownBlock ∧ some k_ ≠ (v266 : Value).ownBlock) (.slice Ao138 t256.length co138) t256) ∧ Aside0 (Kd.R (Kd.int .i64) 2 w' w.heap.size (fun k_ => some k_ ≠ ((.slice Ao138 t256.length co138) : Value).ownBlock ∧ some k_ ≠ (v266 : Value).ownBlock) v262 t260) ∧ Aside0 (Kd.R (Kd.int .i64) 2 w' w.heap.size (fun k_ => some k_ ≠ ((.slice Ao138 t256.length co138) : Value).ownBlock ∧ some k_ ≠ (v262 : Value).ownBlock) v266 t264) ∧ Aside0 (w'.heap[gb232]? = some (.cells #[.string a0_0, .int .i64 a0_1, .int .i64 a0_2, .int .i64 a0_3, .int .i64 a0_4, .int .i64 a0_5, (.slice A0_6 l0_6.length c0_6)] 31 (0, 0))) ∧ Aside0 (w'.heap[gb250]? = some (.cells #[.int .i64 ((rd_T43 t233 x76_3).f0), .int .i64 ((rd_T43 t233 x76_3).f1)] 43 (0, 0))) ∧ Aside0 (w'.heap[gb251]? = some (.cells #[.int .i64 x252000_8, .int .i64 x252001_8, .int .i64 x252002_8, .int .i64 x252003_8, .int .u8 x252004_8] 45 (0, 0))) ∧ Aside0 (w'.heap[gb252]? = some (.cells #[.int .i64 x253000_8, .int .i64 x253001_8, .int .i64 x253002_8, .int .i64 x253003_8, .int .u8 x253004_8] 45 (0, 0))) ∧ Aside0 (Below w.heap.size w w'))
                        case atStart => exact ⟨(x9_3), (0), (x252000_87), (x252001_87), (x252002_87), (x252003_87), (x252004_87), (x253000_100), (x253001_100), (x253002_100), (x253003_100), (x253004_100), (by first | rfl | (simp; done) | (simp [*]; done)), H', ⟨Nat.le_refl _⟩, ⟨kr HO_6⟩, ⟨kr HO_8⟩, ⟨kr HO_9⟩, ⟨by (with_reducible repeat (first | apply Kd.R_alloc | apply Kd.R_drewN | apply Kd.R_drew)); exact Kd.R_mono HO259.out (fun _ hk => ⟨hk.1.2, hk.2⟩)⟩, ⟨by (with_reducible repeat (first | apply Kd.R_alloc | apply Kd.R_drewN | apply Kd.R_drew)); exact Kd.R_mono HO263.out (fun _ hk => ⟨hk.1.2, hk.2⟩)⟩, ⟨by (with_reducible repeat (first | apply Kd.R_alloc | apply Kd.R_drewN | apply Kd.R_drew)); exact Kd.R_mono HO267.out (fun _ hk => ⟨hk.1.2, hk.2⟩)⟩, ⟨bkn BK232⟩, ⟨bkn BK250⟩, ⟨bkn BK251⟩, ⟨bkn BK252⟩, ⟨bw⟩⟩
                        case round =>
                         clear H'
                         try clear hcz123_0 hcz123_1 hcz123_2 hcz123_3 hcz123_4
                         try clear hcz126_0 hcz126_1 hcz126_2 hcz126_3 hcz126_4
                         try clear hcz128_0 hcz128_1
                         try clear hcz130_0 hcz130_1 hcz130_2 hcz130_3 hcz130_4
                         try clear hcz131_0 hcz131_1 hcz131_2 hcz131_3 hcz131_4
                         try clear hcz132_0 hcz132_1
                         try clear hcz134_0 hcz134_1 hcz134_2 hcz134_3 hcz134_4
                         try clear hcz135_0 hcz135_1 hcz135_2 hcz135_3 hcz135_4
                         try clear hcz136_0 hcz136_1
                         try clear hfz123_0 hfz123_1 hfz123_2 hfz123_3 hfz123_4
                         try clear hfz126_0 hfz126_1 hfz126_2 hfz126_3 hfz126_4
                         try clear hfz128_0 hfz128_1
                         try clear hfz130_0 hfz130_1 hfz130_2 hfz130_3 hfz130_4
                         try clear hfz131_0 hfz131_1 hfz131_2 hfz131_3 hfz131_4
                         try clear hfz132_0 hfz132_1
                         try clear hfz134_0 hfz134_1 hfz134_2 hfz134_3 hfz134_4
                         try clear hfz135_0 hfz135_1 hfz135_2 hfz135_3 hfz135_4
                         try clear hfz136_0 hfz136_1
                         obtain ⟨x9_8, x166_8, x252000_8, x252001_8, x252002_8, x252003_8, x252004_8, x253000_8, x253001_8, x253002_8, x253003_8, x253004_8, rfl, HA, HK8, HO_6, HO_8, HO_9, HO_15, HO_17, HO_19, BK232, BK250, BK251, BK252, HB⟩ := hrel
                         cases gk with
                         | zero => exact absurd HA.out (by simp [pylonref11_Fill.l2])
                         | succ k8 =>
                          have H := HA.out
                          clear HA
                          simp only [pylonref11_Fill.l2] at H
                          by_cases c139 : x166_8 < (t256.length : Int)
                          ·rw [if_pos c139] at H
                           have c139b0 : decide (x166_8 < (t256.length : Int)) = true := decide_eq_true c139
                           clear c139
                           by_cases c140 : 0 ≤ x166_8
                           ·rw [if_pos c140] at H
                            have c140b0 : decide (0 ≤ x166_8) = true := decide_eq_true c140
                            clear c140
                            by_cases c141 : x166_8 < (t256.length : Int)
                            ·rw [if_pos c141] at H
                             have c141b0 : decide (x166_8 < (t256.length : Int)) = true := decide_eq_true c141
                             clear c141
                             by_cases c142 : x166_8 < (t260.length : Int)
                             ·rw [if_pos c142] at H
                              have c142b0 : decide (x166_8 < (t260.length : Int)) = true := decide_eq_true c142
                              clear c142
                              by_cases c143 : x166_8 < (t264.length : Int)
                              ·rw [if_pos c143] at H
                               have c143b0 : decide (x166_8 < (t264.length : Int)) = true := decide_eq_true c143
                               clear c143
                               obtain ⟨ji144, hji144⟩ : ∃ j_ : Int, (wrap64 (((rd_T43 t233 x76_3).f0) + x166_8)) = j_ := ⟨_, rfl⟩
                               replace H : (if 0 ≤ (ji144) then (if (ji144) < (x9_8.length : Int) then (pylonref11_Fill.l2 k8 a1 t233 t239 (x9_8.set ((ji144) : Int).toNat (⟨ji144, rd t256 x166_8, rd t260 x166_8, rd t264 x166_8, 70⟩ : S45)) t256 t260 t264 (t233.length : Int) x76_3 (t256.length : Int) (wrap64 (x166_8 + 1)) a0_0 a0_1 a0_2 a0_3 a0_4 a0_5 l0_6 ((rd_T43 t233 x76_3).f0) ((rd_T43 t233 x76_3).f1)) else (none)) else (none)) = some (r1, r2) := by first | (rw [hji144] at H; exact H) | (simp only [hji144] at H ⊢; exact H)
                               have hji144w : (IntKind.i64.wrap (((rd_T43 t233 x76_3).f0) + x166_8)) = ji144 := (i64_w _).trans hji144
                               by_cases c145 : 0 ≤ (ji144)
                               ·rw [if_pos c145] at H
                                have c145b0 : decide (0 ≤ (ji144)) = true := decide_eq_true c145
                                clear c145
                                by_cases c146 : (ji144) < (x9_8.length : Int)
                                ·rw [if_pos c146] at H
                                 have c146b0 : decide ((ji144) < (x9_8.length : Int)) = true := decide_eq_true c146
                                 clear c146
                                 obtain ⟨y271, hy271⟩ : ∃ y_ : List (S45), y_ = (x9_8.set ((ji144) : Int).toNat (⟨ji144, rd t256 x166_8, rd t260 x166_8, rd t264 x166_8, 70⟩ : S45)) := ⟨_, rfl⟩
                                 replace H : (pylonref11_Fill.l2 k8 a1 t233 t239 y271 t256 t260 t264 (t233.length : Int) x76_3 (t256.length : Int) (wrap64 (x166_8 + 1)) a0_0 a0_1 a0_2 a0_3 a0_4 a0_5 l0_6 ((rd_T43 t233 x76_3).f0) ((rd_T43 t233 x76_3).f1)) = some (r1, r2) := by first | (rw [hy271]; with_reducible exact H) | (have H2_ := (Option.bind_some _ _).symm.trans H; rw [hy271]; with_reducible exact H2_) | (have H2_ := (Option.bind_some _ _).symm.trans H; with_reducible exact H2_) | with_reducible exact H | (rw [hy271]; exact H) | exact H
                                 have Ny271 := AX hy271
                                 clear hy271
                                 have H' := AX H
                                 clear H
                                 try go_wp2
                                 have n0_ := AX (Kd.R_drew HO_6.out)
                                 have n1_ := AX (Kd.R_drew HO_8.out)
                                 have n2_ := AX (Kd.R_drew HO_9.out)
                                 have n3_ := AX (Kd.R_drew HO_15.out)
                                 have n4_ := AX (Kd.R_drew HO_17.out)
                                 have n5_ := AX (Kd.R_drew HO_19.out)
                                 have n6_ := AX (blk_drew BK232.out)
                                 have n7_ := AX (blk_drew BK250.out)
                                 have n8_ := AX (blk_drew BK251.out)
                                 have n9_ := AX (blk_drew BK252.out)
                                 have n10_ := AX (below_drew1 HB.out)
                                 clear HO_6
                                 clear HO_8
                                 clear HO_9
                                 clear HO_15
                                 clear HO_17
                                 clear HO_19
                                 clear BK232
                                 clear BK250
                                 clear BK251
                                 clear BK252
                                 clear HB
                                 have HO_6 := n0_
                                 have HO_8 := n1_
                                 have HO_9 := n2_
                                 have HO_15 := n3_
                                 have HO_17 := n4_
                                 have HO_19 := n5_
                                 have BK232 := n6_
                                 have BK250 := n7_
                                 have BK251 := n8_
                                 have BK252 := n9_
                                 have HB := n10_
                                 clear n0_ n1_ n2_ n3_ n4_ n5_ n6_ n7_ n8_ n9_ n10_
                                 have p268 : 0 ≤ (x166_8 : Int) := of_decide_eq_true (by first | (with_reducible assumption) | assumption)
                                 have q268 : x166_8 < (t256.length : Int) := of_decide_eq_true (by first | (with_reducible assumption) | assumption)
                                 obtain ⟨ad268, e268, hx268_0⟩ := Kd.at_int (Kd.R_reads' HO_15.out).2.2 x166_8 p268 q268
                                 cases e268
                                 replace p268 := eq_true p268
                                 replace q268 := eq_true q268
                                 obtain ⟨Ao149, co149, eo149⟩ := Kd.R_slice HO_17.out
                                 (first | subst eo149 | (injection eo149 with f1_ f2_ f3_; have f4_ := f1_.symm; have f5_ := f3_.symm; clear f1_ f2_ f3_; subst f4_; subst f5_))
                                 have p269 : 0 ≤ (x166_8 : Int) := of_decide_eq_true (by first | (with_reducible assumption) | assumption)
                                 have q269 : x166_8 < (t260.length : Int) := of_decide_eq_true (by first | (with_reducible assumption) | assumption)
                                 obtain ⟨ad269, e269, hx269_0⟩ := Kd.at_int (Kd.R_reads' HO_17.out).2.2 x166_8 p269 q269
                                 cases e269
                                 replace p269 := eq_true p269
                                 replace q269 := eq_true q269
                                 obtain ⟨Ao150, co150, eo150⟩ := Kd.R_slice HO_19.out
                                 (first | subst eo150 | (injection eo150 with f1_ f2_ f3_; have f4_ := f1_.symm; have f5_ := f3_.symm; clear f1_ f2_ f3_; subst f4_; subst f5_))
                                 have p270 : 0 ≤ (x166_8 : Int) := of_decide_eq_true (by first | (with_reducible assumption) | assumption)
                                 have q270 : x166_8 < (t264.length : Int) := of_decide_eq_true (by first | (with_reducible assumption) | assumption)
                                 obtain ⟨ad270, e270, hx270_0⟩ := Kd.at_int (Kd.R_reads' HO_19.out).2.2 x166_8 p270 q270
                                 cases e270
                                 replace p270 := eq_true p270
                                 replace q270 := eq_true q270
                                 have p147 : 0 ≤ ((ji144) : Int) := of_decide_eq_true (by first | (with_reducible assumption) | assumption)
                                 have q147 : ((ji144) : Int) < ((x9_8.length : Int) : Int) := of_decide_eq_true (by first | (with_reducible assumption) | assumption)
                                 obtain ⟨go147, co147, eo147, gb147, gl147, cl147, HG147⟩ := Kd.R_form HO_9.out (by omega)
                                 (first | cases eo147 | (injection eo147 with ea_ en_ ec_; (first | subst ea_ | (injection ea_ with ea_; subst ea_)); subst ec_; clear en_))
                                 have GB147 := AX gb147
                                 have GG147 := AX HG147
                                 clear gb147 gl147 HG147
                                 obtain ⟨ce147, hcl147, hM147, hcc147, hfr147⟩ := Kd.R_elem HO_9.out z45 ((ji144) : Int) p147 q147
                                 obtain rfl := k45_openM hM147
                                 have hx147_0 : World.cell? _ ⟨go147, ((ji144) : Int).toNat * 5, none⟩ = some (.int .i64 ((rd_T45 x9_8 (ji144)).f0)) := hcc147 0 _ rfl
                                 have hx147_1 : World.cell? _ ⟨go147, ((ji144) : Int).toNat * 5 + 1, none⟩ = some (.int .i64 ((rd_T45 x9_8 (ji144)).f1)) := hcc147 1 _ rfl
                                 have hx147_2 : World.cell? _ ⟨go147, ((ji144) : Int).toNat * 5 + 2, none⟩ = some (.int .i64 ((rd_T45 x9_8 (ji144)).f2)) := hcc147 2 _ rfl
                                 have hx147_3 : World.cell? _ ⟨go147, ((ji144) : Int).toNat * 5 + 3, none⟩ = some (.int .i64 ((rd_T45 x9_8 (ji144)).f3)) := hcc147 3 _ rfl
                                 have hx147_4 : World.cell? _ ⟨go147, ((ji144) : Int).toNat * 5 + 4, none⟩ = some (.int .u8 ((rd_T45 x9_8 (ji144)).f4)) := hcc147 4 _ rfl
                                 have hf147_0 : World.frozen? _ ⟨go147, ((ji144) : Int).toNat * 5, none⟩ = false := hfr147 0
                                 have hf147_1 : World.frozen? _ ⟨go147, ((ji144) : Int).toNat * 5 + 1, none⟩ = false := hfr147 1
                                 have hf147_2 : World.frozen? _ ⟨go147, ((ji144) : Int).toNat * 5 + 2, none⟩ = false := hfr147 2
                                 have hf147_3 : World.frozen? _ ⟨go147, ((ji144) : Int).toNat * 5 + 3, none⟩ = false := hfr147 3
                                 have hf147_4 : World.frozen? _ ⟨go147, ((ji144) : Int).toNat * 5 + 4, none⟩ = false := hfr147 4
                                 clear hcl147 hcc147 hfr147 hM147
                                 replace p147 := eq_true p147
                                 replace q147 := eq_true q147
                                 obtain ⟨ce151, hcl151, hM151, hcc151, hfr151⟩ := Kd.R_elem HO_9.out z45 ((ji144) : Int) (of_decide_eq_true (by first | (with_reducible assumption) | assumption)) (by have h_ : ((ji144) : Int) < ((x9_8.length : Int) : Int) := of_decide_eq_true (by first | (with_reducible assumption) | assumption); first | exact h_ | (have e_ := (Kd.R_reads' HO_9.out).1; omega) | simpa using h_)
                                 obtain rfl := k45_openM hM151
                                 have HP151 := (Kd.R_seg HO_9.out ((ji144) : Int) (of_decide_eq_true (by first | (with_reducible assumption) | assumption)) (by have h_ : ((ji144) : Int) < ((x9_8.length : Int) : Int) := of_decide_eq_true (by first | (with_reducible assumption) | assumption); first | exact h_ | (have e_ := (Kd.R_reads' HO_9.out).1; omega) | simpa using h_) (seg := [.int .i64 ji144, .int .i64 (rd t256 x166_8), .int .i64 (rd t260 x166_8), .int .i64 (rd t264 x166_8), .int .u8 70]) (j := 0) hcl151 hcc151 (show 5 ≤ 5 from by decide) (x' := (⟨ji144, rd t256 x166_8, rd t260 x166_8, rd t264 x166_8, 70⟩ : S45)) (k45_mkM _ _ _ (⟨ji144, rd t256 x166_8, rd t260 x166_8, rd t264 x166_8, 70⟩ : S45) ) (fun _ hk => hk)).1
                                 rw [← Ny271.out] at HP151
                                 have HQ151 := AX HP151
                                 clear hcl151 hcc151 hfr151 hM151 HP151
                                 refine start_ (n := 24) (S := fun w' => w'.cell? ⟨gb250, 0, none⟩ = some (.int .i64 ((rd_T43 t233 x76_3).f0)) ∧ w'.cell? ⟨gb250, 1, none⟩ = some (.int .i64 ((rd_T43 t233 x76_3).f1)) ∧ w'.cell? (ad268.add (x166_8).toNat) = some (.int .i64 (rd t256 x166_8)) ∧ w'.cell? (ad269.add (x166_8).toNat) = some (.int .i64 (rd t260 x166_8)) ∧ w'.cell? (ad270.add (x166_8).toNat) = some (.int .i64 (rd t264 x166_8))) (ds := [23]) #[false, false, false, false, false, false, false, false, false, false, false, false, false, false, false, false, false, false, false, false, false, false, false, false] (by kernel_rfl) rfl rfl ⟨(blk_cell BK250.out 0).trans rfl, (blk_cell BK250.out 1).trans rfl, hx268_0, hx269_0, hx270_0⟩ (fun hHeld => ?_); refine with_tabW pylonref11_Fill.tab35 pylonref11_Fill.bits35 (fun HT_ HW_ => ?_)
                                 generalize wr.drew = w148 at HO_6 HO_8 HO_9 HO_15 HO_17 HO_19 BK232 BK250 BK251 BK252 HB GG147 HQ151 hf147_0 hf147_1 hf147_2 hf147_3 hf147_4 hx147_0 hx147_1 hx147_2 hx147_3 hx147_4 hx268_0 hx269_0 hx270_0 hHeld ⊢
                                 refine pure_ (i := 0) (N := some 169) (v := ?_) (a' := ?_) #[true, false, false, false, false, false, false, false, false, false, false, false, false, false, false, false, false, false, false, false, false, false, false, false] rfl rfl (any_of HT_.out (by kernel_rfl)) (fun _ _ _ h => h) (Or.inl ⟨by rfl, ?_⟩) ?_ ?_
                                 rotate_left
                                 ·intro w'
                                  go_simp
                                  with_reducible rfl
                                 rotate_left
                                 ·simp only [Act.put, List.setIfInBounds_toArray, List.set_cons_zero, List.set_cons_succ, i64_w, i32_w]
                                  rfl
                                 refine pure_ (i := 1) (N := some 170) (v := ?_) (a' := ?_) #[true, true, false, false, false, false, false, false, false, false, false, false, false, false, false, false, false, false, false, false, false, false, false, false] rfl rfl (any_of HT_.out (by kernel_rfl)) (fun _ _ _ h => h) (Or.inl ⟨by rfl, ?_⟩) ?_ ?_
                                 rotate_left
                                 ·intro w'
                                  go_simp
                                  with_reducible rfl
                                 rotate_left
                                 ·simp only [Act.put, List.setIfInBounds_toArray, List.set_cons_zero, List.set_cons_succ, i64_w, i32_w]
                                  rfl
                                 refine pure_ (i := 3) (N := some 172) (v := ?_) (a' := ?_) #[true, true, false, true, false, false, false, false, false, false, false, false, false, false, false, false, false, false, false, false, false, false, false, false] rfl rfl (any_of HT_.out (by kernel_rfl)) (fun _ _ _ h => h) (Or.inl ⟨by rfl, ?_⟩) ?_ ?_
                                 rotate_left
                                 ·intro w'
                                  go_simp
                                  with_reducible rfl
                                 rotate_left
                                 ·simp only [Act.put, List.setIfInBounds_toArray, List.set_cons_zero, List.set_cons_succ, i64_w, i32_w]
                                  rfl
                                 refine pure_ (i := 5) (N := some 174) (v := ?_) (a' := ?_) #[true, true, false, true, false, true, false, false, false, false, false, false, false, false, false, false, false, false, false, false, false, false, false, false] rfl rfl (any_of HT_.out (by kernel_rfl)) (fun _ _ _ h => h) (Or.inl ⟨by rfl, ?_⟩) ?_ ?_
                                 rotate_left
                                 ·intro w'
                                  go_simp
                                  with_reducible rfl
                                 rotate_left
                                 ·simp only [Act.put, List.setIfInBounds_toArray, List.set_cons_zero, List.set_cons_succ, i64_w, i32_w]
                                  rfl
                                 refine pure_ (i := 7) (N := some 176) (v := ?_) (a' := ?_) #[true, true, false, true, false, true, false, true, false, false, false, false, false, false, false, false, false, false, false, false, false, false, false, false] rfl rfl (any_of HT_.out (by kernel_rfl)) (fun _ _ _ h => h) (Or.inl ⟨by rfl, ?_⟩) ?_ ?_
                                 rotate_left
                                 ·intro w'
                                  go_simp
                                  with_reducible rfl
                                 rotate_left
                                 ·simp only [Act.put, List.setIfInBounds_toArray, List.set_cons_zero, List.set_cons_succ, i64_w, i32_w]
                                  rfl
                                 refine pure_ (i := 9) (N := some 178) (v := ?_) (a' := ?_) #[true, true, false, true, false, true, false, true, false, true, false, false, false, false, false, false, false, false, false, false, false, false, false, false] rfl rfl (any_of HT_.out (by kernel_rfl)) (fun _ _ _ h => h) (Or.inl ⟨by rfl, ?_⟩) ?_ ?_
                                 rotate_left
                                 ·intro w'
                                  go_simp
                                  with_reducible rfl
                                 rotate_left
                                 ·simp only [Act.put, List.setIfInBounds_toArray, List.set_cons_zero, List.set_cons_succ, i64_w, i32_w]
                                  rfl
                                 refine pure_ (i := 10) (N := some 179) (v := ?_) (a' := ?_) #[true, true, false, true, false, true, false, true, false, true, true, false, false, false, false, false, false, false, false, false, false, false, false, false] rfl rfl (any_of HT_.out (by kernel_rfl)) (fun _ _ _ h => h) (Or.inl ⟨by rfl, ?_⟩) ?_ ?_
                                 rotate_left
                                 ·intro w'
                                  go_simp
                                  with_reducible rfl
                                 rotate_left
                                 ·simp only [Act.put, List.setIfInBounds_toArray, List.set_cons_zero, List.set_cons_succ, i64_w, i32_w]
                                  rfl
                                 refine pure_ (i := 11) (N := some 180) (v := ?_) (a' := ?_) #[true, true, false, true, false, true, false, true, false, true, true, true, false, false, false, false, false, false, false, false, false, false, false, false] rfl rfl (any_of HT_.out (by kernel_rfl)) (fun _ _ _ h => h) (Or.inl ⟨by rfl, ?_⟩) ?_ ?_
                                 rotate_left
                                 ·intro w'
                                  go_simp
                                  with_reducible rfl
                                 rotate_left
                                 ·simp only [Act.put, List.setIfInBounds_toArray, List.set_cons_zero, List.set_cons_succ, i64_w, i32_w]
                                  rfl
                                 refine pure_ (i := 13) (N := some 182) (v := ?_) (a' := ?_) #[true, true, false, true, false, true, false, true, false, true, true, true, false, true, false, false, false, false, false, false, false, false, false, false] rfl rfl (any_of HT_.out (by kernel_rfl)) (fun _ _ _ h => h) (Or.inl ⟨by rfl, ?_⟩) ?_ ?_
                                 rotate_left
                                 ·intro w'
                                  go_simp
                                  with_reducible rfl
                                 rotate_left
                                 ·simp only [Act.put, List.setIfInBounds_toArray, List.set_cons_zero, List.set_cons_succ, i64_w, i32_w]
                                  rfl
                                 refine pure_ (i := 14) (N := some 183) (v := ?_) (a' := ?_) #[true, true, false, true, false, true, false, true, false, true, true, true, false, true, true, false, false, false, false, false, false, false, false, false] rfl rfl (any_of HT_.out (by kernel_rfl)) (fun _ _ _ h => h) (Or.inl ⟨by rfl, ?_⟩) ?_ ?_
                                 rotate_left
                                 ·intro w'
                                  go_simp
                                  with_reducible rfl
                                 rotate_left
                                 ·simp only [Act.put, List.setIfInBounds_toArray, List.set_cons_zero, List.set_cons_succ, i64_w, i32_w]
                                  rfl
                                 refine pure_ (i := 15) (N := some 184) (v := ?_) (a' := ?_) #[true, true, false, true, false, true, false, true, false, true, true, true, false, true, true, true, false, false, false, false, false, false, false, false] rfl rfl (any_of HT_.out (by kernel_rfl)) (fun _ _ _ h => h) (Or.inl ⟨by rfl, ?_⟩) ?_ ?_
                                 rotate_left
                                 ·intro w'
                                  go_simp
                                  with_reducible rfl
                                 rotate_left
                                 ·simp only [Act.put, List.setIfInBounds_toArray, List.set_cons_zero, List.set_cons_succ, i64_w, i32_w]
                                  rfl
                                 refine pure_ (i := 17) (N := some 186) (v := ?_) (a' := ?_) #[true, true, false, true, false, true, false, true, false, true, true, true, false, true, true, true, false, true, false, false, false, false, false, false] rfl rfl (any_of HT_.out (by kernel_rfl)) (fun _ _ _ h => h) (Or.inl ⟨by rfl, ?_⟩) ?_ ?_
                                 rotate_left
                                 ·intro w'
                                  go_simp
                                  with_reducible rfl
                                 rotate_left
                                 ·simp only [Act.put, List.setIfInBounds_toArray, List.set_cons_zero, List.set_cons_succ, i64_w, i32_w]
                                  rfl
                                 refine pure_ (i := 18) (N := some 187) (v := ?_) (a' := ?_) #[true, true, false, true, false, true, false, true, false, true, true, true, false, true, true, true, false, true, true, false, false, false, false, false] rfl rfl (any_of HT_.out (by kernel_rfl)) (fun _ _ _ h => h) (Or.inl ⟨by rfl, ?_⟩) ?_ ?_
                                 rotate_left
                                 ·intro w'
                                  go_simp
                                  with_reducible rfl
                                 rotate_left
                                 ·simp only [Act.put, List.setIfInBounds_toArray, List.set_cons_zero, List.set_cons_succ, i64_w, i32_w]
                                  rfl
                                 refine pure_ (i := 19) (N := some 188) (v := ?_) (a' := ?_) #[true, true, false, true, false, true, false, true, false, true, true, true, false, true, true, true, false, true, true, true, false, false, false, false] rfl rfl (any_of HT_.out (by kernel_rfl)) (fun _ _ _ h => h) (Or.inl ⟨by rfl, ?_⟩) ?_ ?_
                                 rotate_left
                                 ·intro w'
                                  go_simp
                                  with_reducible rfl
                                 rotate_left
                                 ·simp only [Act.put, List.setIfInBounds_toArray, List.set_cons_zero, List.set_cons_succ, i64_w, i32_w]
                                  rfl
                                 refine take_ (i := 2) (N := some 171) (v := ?_) (a' := ?_) #[true, true, true, true, false, true, false, true, false, true, true, true, false, true, true, true, false, true, true, true, false, false, false, false] rfl rfl (take_ofW HT_.out HW_.out (by kernel_rfl)) (fun _ _ _ h => h) (Or.inl ⟨by rfl, ?_⟩) hHeld ?_ ?_
                                 rotate_left
                                 ·rintro w' ⟨s0, s1, s2, s3, s4⟩
                                  go_simp
                                  with_reducible rfl
                                 rotate_left
                                 ·simp only [Act.put, List.setIfInBounds_toArray, List.set_cons_zero, List.set_cons_succ, i64_w, i32_w]
                                  rfl
                                 refine pure_ (i := 4) (N := some 173) (v := ?_) (a' := ?_) #[true, true, true, true, true, true, false, true, false, true, true, true, false, true, true, true, false, true, true, true, false, false, false, false] rfl rfl (any_of HT_.out (by kernel_rfl)) (fun _ _ _ h => h) (Or.inl ⟨by rfl, ?_⟩) ?_ ?_
                                 rotate_left
                                 ·intro w'
                                  go_simp
                                  with_reducible rfl
                                 rotate_left
                                 ·simp only [Act.put, List.setIfInBounds_toArray, List.set_cons_zero, List.set_cons_succ, i64_w, i32_w]
                                  rfl
                                 refine take_ (i := 6) (N := some 175) (v := ?_) (a' := ?_) #[true, true, true, true, true, true, true, true, false, true, true, true, false, true, true, true, false, true, true, true, false, false, false, false] rfl rfl (take_ofW HT_.out HW_.out (by kernel_rfl)) (fun _ _ _ h => h) (Or.inl ⟨by rfl, ?_⟩) hHeld ?_ ?_
                                 rotate_left
                                 ·rintro w' ⟨s0, s1, s2, s3, s4⟩
                                  go_simp
                                  with_reducible rfl
                                 rotate_left
                                 ·simp only [Act.put, List.setIfInBounds_toArray, List.set_cons_zero, List.set_cons_succ, i64_w, i32_w]
                                  rfl
                                 refine pure_ (i := 8) (N := some 177) (v := ?_) (a' := ?_) #[true, true, true, true, true, true, true, true, true, true, true, true, false, true, true, true, false, true, true, true, false, false, false, false] rfl rfl (any_of HT_.out (by kernel_rfl)) (fun _ _ _ h => h) (Or.inl ⟨by rfl, ?_⟩) ?_ ?_
                                 rotate_left
                                 ·intro w'
                                  go_simp
                                  with_reducible rfl
                                 rotate_left
                                 ·simp only [Act.put, List.setIfInBounds_toArray, List.set_cons_zero, List.set_cons_succ, i64_w, i32_w]
                                  rfl
                                 refine take_ (i := 12) (N := some 181) (v := ?_) (a' := ?_) #[true, true, true, true, true, true, true, true, true, true, true, true, true, true, true, true, false, true, true, true, false, false, false, false] rfl rfl (take_ofW HT_.out HW_.out (by kernel_rfl)) (fun _ _ _ h => h) (Or.inl ⟨by rfl, ?_⟩) hHeld ?_ ?_
                                 rotate_left
                                 ·rintro w' ⟨s0, s1, s2, s3, s4⟩
                                  go_simp
                                  with_reducible rfl
                                 rotate_left
                                 ·simp only [Act.put, List.setIfInBounds_toArray, List.set_cons_zero, List.set_cons_succ, i64_w, i32_w]
                                  rfl
                                 refine take_ (i := 16) (N := some 185) (v := ?_) (a' := ?_) #[true, true, true, true, true, true, true, true, true, true, true, true, true, true, true, true, true, true, true, true, false, false, false, false] rfl rfl (take_ofW HT_.out HW_.out (by kernel_rfl)) (fun _ _ _ h => h) (Or.inl ⟨by rfl, ?_⟩) hHeld ?_ ?_
                                 rotate_left
                                 ·rintro w' ⟨s0, s1, s2, s3, s4⟩
                                  go_simp
                                  with_reducible rfl
                                 rotate_left
                                 ·simp only [Act.put, List.setIfInBounds_toArray, List.set_cons_zero, List.set_cons_succ, i64_w, i32_w]
                                  rfl
                                 refine take_ (i := 20) (N := some 189) (v := ?_) (a' := ?_) #[true, true, true, true, true, true, true, true, true, true, true, true, true, true, true, true, true, true, true, true, true, false, false, false] rfl rfl (take_ofW HT_.out HW_.out (by kernel_rfl)) (fun _ _ _ h => h) (Or.inl ⟨by rfl, ?_⟩) hHeld ?_ ?_
                                 rotate_left
                                 ·rintro w' ⟨s0, s1, s2, s3, s4⟩
                                  go_simp
                                  with_reducible rfl
                                 rotate_left
                                 ·simp only [Act.put, List.setIfInBounds_toArray, List.set_cons_zero, List.set_cons_succ, i64_w, i32_w]
                                  rfl
                                 refine pure_ (i := 21) (N := some 190) (v := ?_) (a' := ?_) #[true, true, true, true, true, true, true, true, true, true, true, true, true, true, true, true, true, true, true, true, true, true, false, false] rfl rfl (any_of HT_.out (by kernel_rfl)) (fun _ _ _ h => h) (Or.inl ⟨by rfl, ?_⟩) ?_ ?_
                                 rotate_left
                                 ·intro w'
                                  go_simp
                                  with_reducible rfl
                                 rotate_left
                                 ·simp only [Act.put, List.setIfInBounds_toArray, List.set_cons_zero, List.set_cons_succ, i64_w, i32_w]
                                  rfl
                                 refine pure_ (i := 22) (N := some 191) (v := ?_) (a' := ?_) #[true, true, true, true, true, true, true, true, true, true, true, true, true, true, true, true, true, true, true, true, true, true, true, false] rfl rfl (any_of HT_.out (by kernel_rfl)) (fun _ _ _ h => h) (Or.inl ⟨by rfl, ?_⟩) ?_ ?_
                                 rotate_left
                                 ·intro w'
                                  go_simp
                                  with_reducible rfl
                                 rotate_left
                                 ·simp only [Act.put, List.setIfInBounds_toArray, List.set_cons_zero, List.set_cons_succ, i64_w, i32_w]
                                  rfl
                                 refine last_ (i := 23) (N := none) #[true, true, true, true, true, true, true, true, true, true, true, true, true, true, true, true, true, true, true, true, true, true, true, true] rfl rfl (one_of HT_.out (by kernel_rfl)) (by decide) (fun K hK => ?_)
                                 refine skip_ (w1 := ?_) (by rfl) rfl ?_ ?_
                                 rotate_left
                                 ·go_simp
                                  rfl
                                 refine hK.out _ _ ?_
                                 clear hK K
                                 refine done_ (done_of HT_.out (by kernel_rfl)) ?_
                                 try go_wp2
                                 go_roundg k8
                                 case measure => have := HJ4.out; have := HK2.out; have := HK3.out; have := HJ42.out; have := HJ68.out; have := HJ87.out; have := HJ100.out; have := HK8.out; omega
                                 case rel => exact ⟨(y271), (wrap64 (x166_8 + 1)), (x252000_8), (x252001_8), (x252002_8), (x252003_8), (x252004_8), (x253000_8), (x253001_8), (x253002_8), (x253003_8), (x253004_8), (by first | rfl | (simp; done) | (simp [*]; done)), H', ⟨by have := HJ4.out; have := HK2.out; have := HK3.out; have := HJ42.out; have := HJ68.out; have := HJ87.out; have := HJ100.out; have := HK8.out; omega⟩, ⟨by (with_reducible repeat (first | apply Kd.R_alloc | apply Kd.R_drewN | apply Kd.R_drew)); exact Kd.R_mono (Kd.R_far (p := ⟨go147, ((ji144) : Int).toNat * 5 + 4, none⟩) (Kd.R_far (p := ⟨go147, ((ji144) : Int).toNat * 5 + 3, none⟩) (Kd.R_far (p := ⟨go147, ((ji144) : Int).toNat * 5 + 2, none⟩) (Kd.R_far (p := ⟨go147, ((ji144) : Int).toNat * 5 + 1, none⟩) (Kd.R_far (p := ⟨go147, ((ji144) : Int).toNat * 5, none⟩) (Kd.R_types HO_6.out GG147.out (by decide)) (fun _ hk => hk.2) (.int .i64 ji144)) (fun _ hk => hk.2) (.int .i64 (rd t256 x166_8))) (fun _ hk => hk.2) (.int .i64 (rd t260 x166_8))) (fun _ hk => hk.2) (.int .i64 (rd t264 x166_8))) (fun _ hk => hk.2) (.int .u8 70)) (fun _ hk => hk.1)⟩, ⟨by (with_reducible repeat (first | apply Kd.R_alloc | apply Kd.R_drewN | apply Kd.R_drew)); exact Kd.R_mono (Kd.R_far (p := ⟨go147, ((ji144) : Int).toNat * 5 + 4, none⟩) (Kd.R_far (p := ⟨go147, ((ji144) : Int).toNat * 5 + 3, none⟩) (Kd.R_far (p := ⟨go147, ((ji144) : Int).toNat * 5 + 2, none⟩) (Kd.R_far (p := ⟨go147, ((ji144) : Int).toNat * 5 + 1, none⟩) (Kd.R_far (p := ⟨go147, ((ji144) : Int).toNat * 5, none⟩) (Kd.R_types HO_8.out GG147.out (by decide)) (fun _ hk => hk.2) (.int .i64 ji144)) (fun _ hk => hk.2) (.int .i64 (rd t256 x166_8))) (fun _ hk => hk.2) (.int .i64 (rd t260 x166_8))) (fun _ hk => hk.2) (.int .i64 (rd t264 x166_8))) (fun _ hk => hk.2) (.int .u8 70)) (fun _ hk => trivial)⟩, ⟨kr HQ151⟩, ⟨by (with_reducible repeat (first | apply Kd.R_alloc | apply Kd.R_drewN | apply Kd.R_drew)); exact Kd.R_mono (Kd.R_far (p := ⟨go147, ((ji144) : Int).toNat * 5 + 4, none⟩) (Kd.R_far (p := ⟨go147, ((ji144) : Int).toNat * 5 + 3, none⟩) (Kd.R_far (p := ⟨go147, ((ji144) : Int).toNat * 5 + 2, none⟩) (Kd.R_far (p := ⟨go147, ((ji144) : Int).toNat * 5 + 1, none⟩) (Kd.R_far (p := ⟨go147, ((ji144) : Int).toNat * 5, none⟩) (Kd.R_types HO_15.out GG147.out (by decide)) (fun _ hk => hk.2) (.int .i64 ji144)) (fun _ hk => hk.2) (.int .i64 (rd t256 x166_8))) (fun _ hk => hk.2) (.int .i64 (rd t260 x166_8))) (fun _ hk => hk.2) (.int .i64 (rd t264 x166_8))) (fun _ hk => hk.2) (.int .u8 70)) (fun _ hk => ⟨hk.1.1, hk.1.2⟩)⟩, ⟨by (with_reducible repeat (first | apply Kd.R_alloc | apply Kd.R_drewN | apply Kd.R_drew)); exact Kd.R_mono (Kd.R_far (p := ⟨go147, ((ji144) : Int).toNat * 5 + 4, none⟩) (Kd.R_far (p := ⟨go147, ((ji144) : Int).toNat * 5 + 3, none⟩) (Kd.R_far (p := ⟨go147, ((ji144) : Int).toNat * 5 + 2, none⟩) (Kd.R_far (p := ⟨go147, ((ji144) : Int).toNat * 5 + 1, none⟩) (Kd.R_far (p := ⟨go147, ((ji144) : Int).toNat * 5, none⟩) (Kd.R_types HO_17.out GG147.out (by decide)) (fun _ hk => hk.2) (.int .i64 ji144)) (fun _ hk => hk.2) (.int .i64 (rd t256 x166_8))) (fun _ hk => hk.2) (.int .i64 (rd t260 x166_8))) (fun _ hk => hk.2) (.int .i64 (rd t264 x166_8))) (fun _ hk => hk.2) (.int .u8 70)) (fun _ hk => ⟨hk.1.1, hk.1.2⟩)⟩, ⟨by (with_reducible repeat (first | apply Kd.R_alloc | apply Kd.R_drewN | apply Kd.R_drew)); exact Kd.R_mono (Kd.R_far (p := ⟨go147, ((ji144) : Int).toNat * 5 + 4, none⟩) (Kd.R_far (p := ⟨go147, ((ji144) : Int).toNat * 5 + 3, none⟩) (Kd.R_far (p := ⟨go147, ((ji144) : Int).toNat * 5 + 2, none⟩) (Kd.R_far (p := ⟨go147, ((ji144) : Int).toNat * 5 + 1, none⟩) (Kd.R_far (p := ⟨go147, ((ji144) : Int).toNat * 5, none⟩) (Kd.R_types HO_19.out GG147.out (by decide)) (fun _ hk => hk.2) (.int .i64 ji144)) (fun _ hk => hk.2) (.int .i64 (rd t256 x166_8))) (fun _ hk => hk.2) (.int .i64 (rd t260 x166_8))) (fun _ hk => hk.2) (.int .i64 (rd t264 x166_8))) (fun _ hk => hk.2) (.int .u8 70)) (fun _ hk => ⟨hk.1.1, hk.1.2⟩)⟩, ⟨by (with_reducible repeat first|refine blk_drewN ?_ _|refine blk_drew ?_|refine blk_alloc ?_ _); refine blk_far ?_ (by have h_ := Kd.R_ne HO_9.out BK232.out (by decide); intro e_; exact h_ (by rw [e_]; rfl)) _; (with_reducible repeat first|refine blk_drewN ?_ _|refine blk_drew ?_|refine blk_alloc ?_ _); refine blk_far ?_ (by have h_ := Kd.R_ne HO_9.out BK232.out (by decide); intro e_; exact h_ (by rw [e_]; rfl)) _; (with_reducible repeat first|refine blk_drewN ?_ _|refine blk_drew ?_|refine blk_alloc ?_ _); refine blk_far ?_ (by have h_ := Kd.R_ne HO_9.out BK232.out (by decide); intro e_; exact h_ (by rw [e_]; rfl)) _; (with_reducible repeat first|refine blk_drewN ?_ _|refine blk_drew ?_|refine blk_alloc ?_ _); refine blk_far ?_ (by have h_ := Kd.R_ne HO_9.out BK232.out (by decide); intro e_; exact h_ (by rw [e_]; rfl)) _; (with_reducible repeat first|refine blk_drewN ?_ _|refine blk_drew ?_|refine blk_alloc ?_ _); refine blk_far ?_ (by have h_ := Kd.R_ne HO_9.out BK232.out (by decide); intro e_; exact h_ (by rw [e_]; rfl)) _; (with_reducible repeat first|refine blk_drewN ?_ _|refine blk_drew ?_|refine blk_alloc ?_ _); exact BK232.out⟩, ⟨by (with_reducible repeat first|refine blk_drewN ?_ _|refine blk_drew ?_|refine blk_alloc ?_ _); refine blk_far ?_ (by have h_ := Kd.R_ne HO_9.out BK250.out (by decide); intro e_; exact h_ (by rw [e_]; rfl)) _; (with_reducible repeat first|refine blk_drewN ?_ _|refine blk_drew ?_|refine blk_alloc ?_ _); refine blk_far ?_ (by have h_ := Kd.R_ne HO_9.out BK250.out (by decide); intro e_; exact h_ (by rw [e_]; rfl)) _; (with_reducible repeat first|refine blk_drewN ?_ _|refine blk_drew ?_|refine blk_alloc ?_ _); refine blk_far ?_ (by have h_ := Kd.R_ne HO_9.out BK250.out (by decide); intro e_; exact h_ (by rw [e_]; rfl)) _; (with_reducible repeat first|refine blk_drewN ?_ _|refine blk_drew ?_|refine blk_alloc ?_ _); refine blk_far ?_ (by have h_ := Kd.R_ne HO_9.out BK250.out (by decide); intro e_; exact h_ (by rw [e_]; rfl)) _; (with_reducible repeat first|refine blk_drewN ?_ _|refine blk_drew ?_|refine blk_alloc ?_ _); refine blk_far ?_ (by have h_ := Kd.R_ne HO_9.out BK250.out (by decide); intro e_; exact h_ (by rw [e_]; rfl)) _; (with_reducible repeat first|refine blk_drewN ?_ _|refine blk_drew ?_|refine blk_alloc ?_ _); exact BK250.out⟩, ⟨by (with_reducible repeat first|refine blk_drewN ?_ _|refine blk_drew ?_|refine blk_alloc ?_ _); refine blk_far ?_ (by have h_ := Kd.R_away HO_9.out (fun _ hk => hk.1); intro e_; exact h_ (by rw [e_]; rfl)) _; (with_reducible repeat first|refine blk_drewN ?_ _|refine blk_drew ?_|refine blk_alloc ?_ _); refine blk_far ?_ (by have h_ := Kd.R_away HO_9.out (fun _ hk => hk.1); intro e_; exact h_ (by rw [e_]; rfl)) _; (with_reducible repeat first|refine blk_drewN ?_ _|refine blk_drew ?_|refine blk_alloc ?_ _); refine blk_far ?_ (by have h_ := Kd.R_away HO_9.out (fun _ hk => hk.1); intro e_; exact h_ (by rw [e_]; rfl)) _; (with_reducible repeat first|refine blk_drewN ?_ _|refine blk_drew ?_|refine blk_alloc ?_ _); refine blk_far ?_ (by have h_ := Kd.R_away HO_9.out (fun _ hk => hk.1); intro e_; exact h_ (by rw [e_]; rfl)) _; (with_reducible repeat first|refine blk_drewN ?_ _|refine blk_drew ?_|refine blk_alloc ?_ _); refine blk_far ?_ (by have h_ := Kd.R_away HO_9.out (fun _ hk => hk.1); intro e_; exact h_ (by rw [e_]; rfl)) _; (with_reducible repeat first|refine blk_drewN ?_ _|refine blk_drew ?_|refine blk_alloc ?_ _); exact BK251.out⟩, ⟨by (with_reducible repeat first|refine blk_drewN ?_ _|refine blk_drew ?_|refine blk_alloc ?_ _); refine blk_far ?_ (by have h_ := Kd.R_away HO_9.out (fun _ hk => hk.2); intro e_; exact h_ (by rw [e_]; rfl)) _; (with_reducible repeat first|refine blk_drewN ?_ _|refine blk_drew ?_|refine blk_alloc ?_ _); refine blk_far ?_ (by have h_ := Kd.R_away HO_9.out (fun _ hk => hk.2); intro e_; exact h_ (by rw [e_]; rfl)) _; (with_reducible repeat first|refine blk_drewN ?_ _|refine blk_drew ?_|refine blk_alloc ?_ _); refine blk_far ?_ (by have h_ := Kd.R_away HO_9.out (fun _ hk => hk.2); intro e_; exact h_ (by rw [e_]; rfl)) _; (with_reducible repeat first|refine blk_drewN ?_ _|refine blk_drew ?_|refine blk_alloc ?_ _); refine blk_far ?_ (by have h_ := Kd.R_away HO_9.out (fun _ hk => hk.2); intro e_; exact h_ (by rw [e_]; rfl)) _; (with_reducible repeat first|refine blk_drewN ?_ _|refine blk_drew ?_|refine blk_alloc ?_ _); refine blk_far ?_ (by have h_ := Kd.R_away HO_9.out (fun _ hk => hk.2); intro e_; exact h_ (by rw [e_]; rfl)) _; (with_reducible repeat first|refine blk_drewN ?_ _|refine blk_drew ?_|refine blk_alloc ?_ _); exact BK252.out⟩, ⟨bw⟩⟩
                                ·rw [if_neg c146] at H
                                 exact absurd H (by simp)
                               ·rw [if_neg c145] at H
                                exact absurd H (by simp)
                              ·rw [if_neg c143] at H
                               exact absurd H (by simp)
                             ·rw [if_neg c142] at H
                              exact absurd H (by simp)
                            ·rw [if_neg c141] at H
                             exact absurd H (by simp)
                           ·rw [if_neg c140] at H
                            exact absurd H (by simp)
                          ·rw [if_neg c139] at H
                           have c139b0 : decide (x166_8 < (t256.length : Int)) = false := decide_eq_false c139
                           clear c139
                           have H' := AX H
                           clear H
                           go_wp2
                           go_roundg k8
                           case measure => have := HJ4.out; have := HK2.out; have := HK3.out; have := HJ42.out; have := HJ68.out; have := HJ87.out; have := HJ100.out; have := HK8.out; omega
                           case rel => exact ⟨(x9_8), (wrap64 (x76_3 + 1)), (by first | rfl | (simp; done) | (simp [*]; done)), H', ⟨by have := HJ4.out; have := HK2.out; have := HK3.out; have := HJ42.out; have := HJ68.out; have := HJ87.out; have := HJ100.out; have := HK8.out; omega⟩, ⟨by (with_reducible repeat (first | apply Kd.R_alloc | apply Kd.R_drewN | apply Kd.R_drew)); exact Kd.R_mono HO_6.out (fun _ hk => trivial)⟩, ⟨kr HO_8⟩, ⟨by (with_reducible repeat (first | apply Kd.R_alloc | apply Kd.R_drewN | apply Kd.R_drew)); exact Kd.R_mono HO_9.out (fun _ hk => trivial)⟩, ⟨bkn BK232⟩, ⟨bw⟩⟩
              ·rw [if_neg c38] at H
               exact absurd H (by simp)
             ·rw [if_neg c37] at H
              exact absurd H (by simp)
            ·rw [if_neg c36] at H
             have c36b0 : decide (x76_3 < (t233.length : Int)) = false := decide_eq_false c36
             clear c36
             simp only [Option.some.injEq, Prod.mk.injEq] at H
             obtain ⟨rfl, rfl⟩ := H
             go_wp2
             go_ret2
             exact ⟨_, by first | rfl | (simp [errW_none, errW_some] <;> rfl) | (simp [*, errW_none, errW_some] <;> rfl), kr HO_9, bw⟩
      ·rw [if_neg c18] at H
       exact absurd H (by simp)
     ·rw [if_neg c17] at H
      exact absurd H (by simp)
 ·rw [if_neg c4] at H
  have c4b0 : (t236 == 0) = false := beq_eq_false_iff_ne.mpr c4
  have c4b1 : (t236 != 0) = true := bne_iff_ne.mpr c4
  simp only [Option.some.injEq, Prod.mk.injEq] at H
  obtain ⟨rfl, rfl⟩ := H
  go_enter Try.func18, Try.ntmps18
  go_wp2_with (first | ((with_reducible refine gate_dst (N := 2) rfl ?_); refine bx 2 #[.string a0_0, .int .i64 a0_1, .int .i64 a0_2, .int .i64 a0_3, .int .i64 a0_4, .int .i64 a0_5, .slice A0_6 l0_6.length c0_6] 31 ?_; intro gb232 hg w152 hbox hb; have BK232 := AX (hbox); have GW232 := gwl (w := w) hg bw; have GE232 := GW232; replace HB := AX (below_step bw hb); clear hb hbox hg; obtain ⟨hcz153_0, hcz153_1, hcz153_2, hcz153_3, hcz153_4, hcz153_5, hcz153_6⟩ := blkC7 (w := w152) BK232.out; obtain ⟨hfz153_0, hfz153_1, hfz153_2, hfz153_3, hfz153_4, hfz153_5, hfz153_6⟩ := blkF7 BK232.out) | ((with_reducible refine gate_callee (f := 14) rfl ?_); refine gL (some 24) Try.func14 #[.agg #[.string a0_0, .int .i64 a0_1, .int .i64 a0_2, .int .i64 a0_3, .int .i64 a0_4, .int .i64 a0_5, .slice A0_6 l0_6.length c0_6]] ?_; (with_reducible refine (pylonref11_Gaps.calls k a0_0 a0_1 a0_2 a0_3 a0_4 a0_5 _ _ l0_6 t233 t236 _ ?side1 ?side2 A3.out).mono ?_); (case side1 => repeat (first | exact (Kd.C_below HR0_6.out HB.out) | (with_reducible refine Kd.C_alloc ?_ _) | (with_reducible refine Kd.C_drewN ?_ _) | (with_reducible refine Kd.C_drew ?_))); (case side2 => exact HC0_6.out); rintro e w154 ⟨v234, rfl, ho0, hb⟩; refine ⟨_, rfl, ?_⟩; have HO235 := AX (Kd.R_lower ho0 (below_size bw)); replace BK232 := AX (bkb BK232 hb); replace HB := AX (below_step bw hb); (try clear hb); (try clear hb2); (try clear hk); (try clear hi); (try clear ho0)))
  go_ret2
  exact ⟨_, by first | rfl | (simp [errW_none, errW_some] <;> rfl) | (simp [*, errW_none, errW_some] <;> rfl), by first | exact Kd.R_nil _ _ _ _ _ | exact Kd.N_nil _ _ _ _ _ | exact Kd.V_nil _ _ _ _ _ | exact Kd.Q_nil _ _ _ _ _ | exact Kd.S_nil _ _ _ _ _, bw⟩

end Go.Proofs.Ythhifeefkmaeiaa.PX
