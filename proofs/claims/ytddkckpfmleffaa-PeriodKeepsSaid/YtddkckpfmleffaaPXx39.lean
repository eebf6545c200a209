/- Functions of the program as plain Lean functions, each with a proof that the call in the machine answers just what the plain function says; condition: the plain function answers at all. -/
import Derived.Test.YtddkckpfmleffaaPXx0
import Derived.Test.YtddkckpfmleffaaPXx22
import Derived.Test.YtddkckpfmleffaaPXx23
import Derived.Test.YtddkckpfmleffaaPXx25
import Derived.Test.YtddkckpfmleffaaPXx27
import Derived.Test.YtddkckpfmleffaaPXx28
namespace Go.Proofs.Ytddkckpfmleffaa.PX
open Go.RowKit Go.Proofs.YtddkckpfmleffaaW.PrintWords Go.Proofs.YtddkckpfmleffaaW.PrintLast Go.Proofs.YtddkckpfmleffaaW.PrintMore
attribute [local go_sem] max2_int min2_int max_two min_two max_three min_three max_four min_four   -- for this text's walks alone
set_option linter.unusedVariables false
set_option linter.unusedSimpArgs false

/-! ### pylonlaw13_PeriodKeeps: function 13 -/
mutual
def pylonlaw13_PeriodKeeps.l0 : Nat → List (S74) → List (S33) → List (S74) → List (S33) → List (S33) → List (S33) → List (S74) → List (S33) → List (S33) → Int → Int → Option (Bool)
 | 0, _, _, _, _, _, _, _, _, _, _, _ => none
 | k + 1, x5, x6, x8, x9, x11, x13, x15, x16, x18, x106, x107 => if x107 < x106 then (if 0 ≤ x107 then (if x107 < (x5.length : Int) then (pylonlaw13_PeriodKeeps.l0 k (x5.set (x107 : Int).toNat (⟨(-7), (rd_T74 x5 x107).f1⟩ : S74)) x6 x8 x9 x11 x13 x15 x16 x18 x106 (wrap64 (x107 + 1))) else (none)) else (none)) else (pylonlaw13_PeriodKeeps.l1 k x5 x6 x8 x9 x11 x13 x15 x16 x18 (x6.length : Int) 0)
def pylonlaw13_PeriodKeeps.l1 : Nat → List (S74) → List (S33) → List (S74) → List (S33) → List (S33) → List (S33) → List (S74) → List (S33) → List (S33) → Int → Int → Option (Bool)
 | 0, _, _, _, _, _, _, _, _, _, _, _ => none
 | k + 1, x5, x6, x8, x9, x11, x13, x15, x16, x18, x116, x117 => if x117 < x116 then (if 0 ≤ x117 then (if x117 < (x6.length : Int) then (pylonlaw13_PeriodKeeps.l1 k x5 (x6.set (x117 : Int).toNat (⟨(-7), (rd_T33 x6 x117).f1, (rd_T33 x6 x117).f2⟩ : S33)) x8 x9 x11 x13 x15 x16 x18 x116 (wrap64 (x117 + 1))) else (none)) else (none)) else (pylonlaw13_PeriodKeeps.l2 k x5 x6 x8 x9 x11 x13 x15 x16 x18 (x11.length : Int) 0)
def pylonlaw13_PeriodKeeps.l2 : Nat → List (S74) → List (S33) → List (S74) → List (S33) → List (S33) → List (S33) → List (S74) → List (S33) → List (S33) → Int → Int → Option (Bool)
 | 0, _, _, _, _, _, _, _, _, _, _, _ => none
 | k + 1, x5, x6, x8, x9, x11, x13, x15, x16, x18, x126, x127 => if x127 < x126 then (if 0 ≤ x127 then (if x127 < (x11.length : Int) then (pylonlaw13_PeriodKeeps.l2 k x5 x6 x8 x9 (x11.set (x127 : Int).toNat (⟨(-7), (rd_T33 x11 x127).f1, (rd_T33 x11 x127).f2⟩ : S33)) x13 x15 x16 x18 x126 (wrap64 (x127 + 1))) else (none)) else (none)) else (pylonlaw13_PeriodKeeps.l3 k x5 x6 x8 x9 x11 x13 x15 x16 x18 0)
def pylonlaw13_PeriodKeeps.l3 : Nat → List (S74) → List (S33) → List (S74) → List (S33) → List (S33) → List (S33) → List (S74) → List (S33) → List (S33) → Int → Option (Bool)
 | 0, _, _, _, _, _, _, _, _, _, _ => none
 | k + 1, x5, x6, x8, x9, x11, x13, x15, x16, x18, x135 => if x135 < 20 then (if x5.length < 8796093022208 then (if x6.length < 5864062014805 then (if x11.length < 5864062014805 then (pylonlaw13_PeriodKeeps.l3 k (x5 ++ [(⟨(-7), 0⟩ : S74)]) (x6 ++ [(⟨(-7), 0, 0⟩ : S33)]) x8 x9 (x11 ++ [(⟨(-7), 0, 0⟩ : S33)]) x13 x15 x16 x18 (wrap64 (x135 + 1))) else (none)) else (none)) else (none)) else ((pylonref11_SameSpans.f k x8 x15).bind fun t846 => (if t846 = true then ((pylonref13_SameDates.f k x9 x16).bind fun t847 => (if t847 = true then ((pylonref13_SameDates.f k x13 x18).bind fun t848 => (pylonlaw13_PeriodKeeps.j4 k t848)) else (pylonlaw13_PeriodKeeps.j4 k false))) else (pylonlaw13_PeriodKeeps.j4 k false)))
def pylonlaw13_PeriodKeeps.j4 : Nat → Bool → Option (Bool)
 | 0, _ => none
 | k + 1, x4 => some x4
end
def pylonlaw13_PeriodKeeps.f (k : Nat) (a0_0 : Int) (a0_1 : Int) (a0_2 : Int) (a0_3 : Int) (a0_4 : Int) (a0_5 : Int) (a0_6 : Int) (a0_7 : Int) (a0_8 : Int) (a0_9 : Int) (a0_10 : Int) (a0_11 : Int) (a0_12 : Int) (a1 : Int) : Option (Bool) := (pylonlaw13_awake.f k).bind fun t787 => (if t787 = true then ((pylonlaw13_Slots_cut.f a0_0 a0_1 a0_2 a0_3 a0_4 a0_5 a0_6 a0_7 a0_8 a0_9 a0_10 a0_11 a0_12).bind fun bt788 => ((period_Spans.f k bt788.1 bt788.2.1 bt788.2.2.1 bt788.2.2.2.1 bt788.2.2.2.2.1 bt788.2.2.2.2.2.1 bt788.2.2.2.2.2.2.1 bt788.2.2.2.2.2.2.2.1 bt788.2.2.2.2.2.2.2.2.1 bt788.2.2.2.2.2.2.2.2.2.1 a1 bt788.2.2.2.2.2.2.2.2.2.2.1 bt788.2.2.2.2.2.2.2.2.2.2.2.1 bt788.2.2.2.2.2.2.2.2.2.2.2.2).bind fun bt801 => ((period_Spans.f k bt788.1 bt788.2.1 bt788.2.2.1 bt788.2.2.2.1 bt788.2.2.2.2.1 bt788.2.2.2.2.2.1 bt788.2.2.2.2.2.2.1 bt788.2.2.2.2.2.2.2.1 bt788.2.2.2.2.2.2.2.2.1 bt788.2.2.2.2.2.2.2.2.2.1 a1 bt788.2.2.2.2.2.2.2.2.2.2.1 bt788.2.2.2.2.2.2.2.2.2.2.2.1 bt788.2.2.2.2.2.2.2.2.2.2.2.2).bind fun bt808 => ((period_Dates.f k bt788.1 bt788.2.1 bt788.2.2.1 bt788.2.2.2.1 bt788.2.2.2.2.1 bt788.2.2.2.2.2.1 bt788.2.2.2.2.2.2.1 bt788.2.2.2.2.2.2.2.1 bt788.2.2.2.2.2.2.2.2.1 bt788.2.2.2.2.2.2.2.2.2.1 bt788.2.2.2.2.2.2.2.2.2.2.1 bt788.2.2.2.2.2.2.2.2.2.2.2.1 bt788.2.2.2.2.2.2.2.2.2.2.2.2).bind fun bt815 => ((period_Dates.f k bt788.1 bt788.2.1 bt788.2.2.1 bt788.2.2.2.1 bt788.2.2.2.2.1 bt788.2.2.2.2.2.1 bt788.2.2.2.2.2.2.1 bt788.2.2.2.2.2.2.2.1 bt788.2.2.2.2.2.2.2.2.1 bt788.2.2.2.2.2.2.2.2.2.1 bt788.2.2.2.2.2.2.2.2.2.2.1 bt788.2.2.2.2.2.2.2.2.2.2.2.1 bt788.2.2.2.2.2.2.2.2.2.2.2.2).bind fun bt819 => ((pylonref13_Spans.f k bt788.1 bt788.2.1 bt788.2.2.1 bt788.2.2.2.1 bt788.2.2.2.2.1 bt788.2.2.2.2.2.1 bt788.2.2.2.2.2.2.1 bt788.2.2.2.2.2.2.2.1 bt788.2.2.2.2.2.2.2.2.1 bt788.2.2.2.2.2.2.2.2.2.1 a1 bt788.2.2.2.2.2.2.2.2.2.2.1 bt788.2.2.2.2.2.2.2.2.2.2.2.1 bt788.2.2.2.2.2.2.2.2.2.2.2.2).bind fun bt823 => ((pylonref13_Dates.f k bt788.1 bt788.2.1 bt788.2.2.1 bt788.2.2.2.1 bt788.2.2.2.2.1 bt788.2.2.2.2.2.1 bt788.2.2.2.2.2.2.1 bt788.2.2.2.2.2.2.2.1 bt788.2.2.2.2.2.2.2.2.1 bt788.2.2.2.2.2.2.2.2.2.1 bt788.2.2.2.2.2.2.2.2.2.2.1 bt788.2.2.2.2.2.2.2.2.2.2.2.1 bt788.2.2.2.2.2.2.2.2.2.2.2.2).bind fun bt830 => (pylonlaw13_PeriodKeeps.l0 k bt801.1 bt801.2.1 bt808.1 bt808.2.1 bt815.1 bt819.1 bt823.1 bt823.2.1 bt830.1 (bt801.1.length : Int) 0)))))))) else (some false))
theorem pylonlaw13_PeriodKeeps.mono_l : ∀ k, (∀ y0 y1 y2 y3 y4 y5 y6 y7 y8 y9 y10, LeO (pylonlaw13_PeriodKeeps.l0 k y0 y1 y2 y3 y4 y5 y6 y7 y8 y9 y10) (pylonlaw13_PeriodKeeps.l0 (k + 1) y0 y1 y2 y3 y4 y5 y6 y7 y8 y9 y10)) ∧ (∀ y0 y1 y2 y3 y4 y5 y6 y7 y8 y9 y10, LeO (pylonlaw13_PeriodKeeps.l1 k y0 y1 y2 y3 y4 y5 y6 y7 y8 y9 y10) (pylonlaw13_PeriodKeeps.l1 (k + 1) y0 y1 y2 y3 y4 y5 y6 y7 y8 y9 y10)) ∧ (∀ y0 y1 y2 y3 y4 y5 y6 y7 y8 y9 y10, LeO (pylonlaw13_PeriodKeeps.l2 k y0 y1 y2 y3 y4 y5 y6 y7 y8 y9 y10) (pylonlaw13_PeriodKeeps.l2 (k + 1) y0 y1 y2 y3 y4 y5 y6 y7 y8 y9 y10)) ∧ (∀ y0 y1 y2 y3 y4 y5 y6 y7 y8 y9, LeO (pylonlaw13_PeriodKeeps.l3 k y0 y1 y2 y3 y4 y5 y6 y7 y8 y9) (pylonlaw13_PeriodKeeps.l3 (k + 1) y0 y1 y2 y3 y4 y5 y6 y7 y8 y9)) ∧ (∀ y0, LeO (pylonlaw13_PeriodKeeps.j4 k y0) (pylonlaw13_PeriodKeeps.j4 (k + 1) y0))
 | 0 => ⟨fun _ _ _ _ _ _ _ _ _ _ _ r h => by simp [pylonlaw13_PeriodKeeps.l0] at h, fun _ _ _ _ _ _ _ _ _ _ _ r h => by simp [pylonlaw13_PeriodKeeps.l1] at h, fun _ _ _ _ _ _ _ _ _ _ _ r h => by simp [pylonlaw13_PeriodKeeps.l2] at h, fun _ _ _ _ _ _ _ _ _ _ r h => by simp [pylonlaw13_PeriodKeeps.l3] at h, fun _ r h => by simp [pylonlaw13_PeriodKeeps.j4] at h⟩
 | k + 1 => by
  obtain ⟨ih0, ih1, ih2, ih3, ih4⟩ := pylonlaw13_PeriodKeeps.mono_l k
  refine ⟨?_, ?_, ?_, ?_, ?_⟩
  ·intro y0 y1 y2 y3 y4 y5 y6 y7 y8 y9 y10
   unfold pylonlaw13_PeriodKeeps.l0
   repeat' first
   | (with_reducible exact ih0 _ _ _ _ _ _ _ _ _ _ _)
   | (with_reducible exact ih1 _ _ _ _ _ _ _ _ _ _ _)
   | (with_reducible exact ih2 _ _ _ _ _ _ _ _ _ _ _)
   | (with_reducible exact ih3 _ _ _ _ _ _ _ _ _ _)
   | (with_reducible exact ih4 _)
   | (with_reducible exact period_Dates.mono _ _ _ _ _ _ _ _ _ _ _ _ _ _)
   | (with_reducible exact period_Spans.mono _ _ _ _ _ _ _ _ _ _ _ _ _ _ _)
   | (with_reducible exact pylonlaw13_awake.mono _)
   | (with_reducible exact pylonref11_SameSpans.mono _ _ _)
   | (with_reducible exact pylonref13_Dates.mono _ _ _ _ _ _ _ _ _ _ _ _ _ _)
   | (with_reducible exact pylonref13_SameDates.mono _ _ _)
   | (with_reducible exact pylonref13_Spans.mono _ _ _ _ _ _ _ _ _ _ _ _ _ _ _)
   | (with_reducible exact LeO.refl _)
   | (with_reducible exact LeO.none _)
   | (with_reducible refine LeO.ite ?_ ?_)
   | (with_reducible refine LeO.bind ?_ (fun _ => ?_))
   | exact ih0 _ _ _ _ _ _ _ _ _ _ _
   | exact ih1 _ _ _ _ _ _ _ _ _ _ _
   | exact ih2 _ _ _ _ _ _ _ _ _ _ _
   | exact ih3 _ _ _ _ _ _ _ _ _ _
   | exact ih4 _
   | exact period_Dates.mono _ _ _ _ _ _ _ _ _ _ _ _ _ _
   | exact period_Spans.mono _ _ _ _ _ _ _ _ _ _ _ _ _ _ _
   | exact pylonlaw13_awake.mono _
   | exact pylonref11_SameSpans.mono _ _ _
   | exact pylonref13_Dates.mono _ _ _ _ _ _ _ _ _ _ _ _ _ _
   | exact pylonref13_SameDates.mono _ _ _
   | exact pylonref13_Spans.mono _ _ _ _ _ _ _ _ _ _ _ _ _ _ _
   | exact LeO.none _
   | refine LeO.ite ?_ ?_
   | refine LeO.bind ?_ (fun _ => ?_)
  ·intro y0 y1 y2 y3 y4 y5 y6 y7 y8 y9 y10
   unfold pylonlaw13_PeriodKeeps.l1
   repeat' first
   | (with_reducible exact ih0 _ _ _ _ _ _ _ _ _ _ _)
   | (with_reducible exact ih1 _ _ _ _ _ _ _ _ _ _ _)
   | (with_reducible exact ih2 _ _ _ _ _ _ _ _ _ _ _)
   | (with_reducible exact ih3 _ _ _ _ _ _ _ _ _ _)
   | (with_reducible exact ih4 _)
   | (with_reducible exact period_Dates.mono _ _ _ _ _ _ _ _ _ _ _ _ _ _)
   | (with_reducible exact period_Spans.mono _ _ _ _ _ _ _ _ _ _ _ _ _ _ _)
   | (with_reducible exact pylonlaw13_awake.mono _)
   | (with_reducible exact pylonref11_SameSpans.mono _ _ _)
   | (with_reducible exact pylonref13_Dates.mono _ _ _ _ _ _ _ _ _ _ _ _ _ _)
   | (with_reducible exact pylonref13_SameDates.mono _ _ _)
   | (with_reducible exact pylonref13_Spans.mono _ _ _ _ _ _ _ _ _ _ _ _ _ _ _)
   | (with_reducible exact LeO.refl _)
   | (with_reducible exact LeO.none _)
   | (with_reducible refine LeO.ite ?_ ?_)
   | (with_reducible refine LeO.bind ?_ (fun _ => ?_))
   | exact ih0 _ _ _ _ _ _ _ _ _ _ _
   | exact ih1 _ _ _ _ _ _ _ _ _ _ _
   | exact ih2 _ _ _ _ _ _ _ _ _ _ _
   | exact ih3 _ _ _ _ _ _ _ _ _ _
   | exact ih4 _
   | exact period_Dates.mono _ _ _ _ _ _ _ _ _ _ _ _ _ _
   | exact period_Spans.mono _ _ _ _ _ _ _ _ _ _ _ _ _ _ _
   | exact pylonlaw13_awake.mono _
   | exact pylonref11_SameSpans.mono _ _ _
   | exact pylonref13_Dates.mono _ _ _ _ _ _ _ _ _ _ _ _ _ _
   | exact pylonref13_SameDates.mono _ _ _
   | exact pylonref13_Spans.mono _ _ _ _ _ _ _ _ _ _ _ _ _ _ _
   | exact LeO.none _
   | refine LeO.ite ?_ ?_
   | refine LeO.bind ?_ (fun _ => ?_)
  ·intro y0 y1 y2 y3 y4 y5 y6 y7 y8 y9 y10
   unfold pylonlaw13_PeriodKeeps.l2
   repeat' first
   | (with_reducible exact ih0 _ _ _ _ _ _ _ _ _ _ _)
   | (with_reducible exact ih1 _ _ _ _ _ _ _ _ _ _ _)
   | (with_reducible exact ih2 _ _ _ _ _ _ _ _ _ _ _)
   | (with_reducible exact ih3 _ _ _ _ _ _ _ _ _ _)
   | (with_reducible exact ih4 _)
   | (with_reducible exact period_Dates.mono _ _ _ _ _ _ _ _ _ _ _ _ _ _)
   | (with_reducible exact period_Spans.mono _ _ _ _ _ _ _ _ _ _ _ _ _ _ _)
   | (with_reducible exact pylonlaw13_awake.mono _)
   | (with_reducible exact pylonref11_SameSpans.mono _ _ _)
   | (with_reducible exact pylonref13_Dates.mono _ _ _ _ _ _ _ _ _ _ _ _ _ _)
   | (with_reducible exact pylonref13_SameDates.mono _ _ _)
   | (with_reducible exact pylonref13_Spans.mono _ _ _ _ _ _ _ _ _ _ _ _ _ _ _)
   | (with_reducible exact LeO.refl _)
   | (with_reducible exact LeO.none _)
   | (with_reducible refine LeO.ite ?_ ?_)
   | (with_reducible refine LeO.bind ?_ (fun _ => ?_))
   | exact ih0 _ _ _ _ _ _ _ _ _ _ _
   | exact ih1 _ _ _ _ _ _ _ _ _ _ _
   | exact ih2 _ _ _ _ _ _ _ _ _ _ _
   | exact ih3 _ _ _ _ _ _ _ _ _ _
   | exact ih4 _
   | exact period_Dates.mono _ _ _ _ _ _ _ _ _ _ _ _ _ _
   | exact period_Spans.mono _ _ _ _ _ _ _ _ _ _ _ _ _ _ _
   | exact pylonlaw13_awake.mono _
   | exact pylonref11_SameSpans.mono _ _ _
   | exact pylonref13_Dates.mono _ _ _ _ _ _ _ _ _ _ _ _ _ _
   | exact pylonref13_SameDates.mono _ _ _
   | exact pylonref13_Spans.mono _ _ _ _ _ _ _ _ _ _ _ _ _ _ _
   | exact LeO.none _
   | refine LeO.ite ?_ ?_
   | refine LeO.bind ?_ (fun _ => ?_)
  ·intro y0 y1 y2 y3 y4 y5 y6 y7 y8 y9
   unfold pylonlaw13_PeriodKeeps.l3
   repeat' first
   | (with_reducible exact ih0 _ _ _ _ _ _ _ _ _ _ _)
   | (with_reducible exact ih1 _ _ _ _ _ _ _ _ _ _ _)
   | (with_reducible exact ih2 _ _ _ _ _ _ _ _ _ _ _)
   | (with_reducible exact ih3 _ _ _ _ _ _ _ _ _ _)
   | (with_reducible exact ih4 _)
   | (with_reducible exact period_Dates.mono _ _ _ _ _ _ _ _ _ _ _ _ _ _)
   | (with_reducible exact period_Spans.mono _ _ _ _ _ _ _ _ _ _ _ _ _ _ _)
   | (with_reducible exact pylonlaw13_awake.mono _)
   | (with_reducible exact pylonref11_SameSpans.mono _ _ _)
   | (with_reducible exact pylonref13_Dates.mono _ _ _ _ _ _ _ _ _ _ _ _ _ _)
   | (with_reducible exact pylonref13_SameDates.mono _ _ _)
   | (with_reducible exact pylonref13_Spans.mono _ _ _ _ _ _ _ _ _ _ _ _ _ _ _)
   | (with_reducible exact LeO.refl _)
   | (with_reducible exact LeO.none _)
   | (with_reducible refine LeO.ite ?_ ?_)
   | (with_reducible refine LeO.bind ?_ (fun _ => ?_))
   | exact ih0 _ _ _ _ _ _ _ _ _ _ _
   | exact ih1 _ _ _ _ _ _ _ _ _ _ _
   | exact ih2 _ _ _ _ _ _ _ _ _ _ _
   | exact ih3 _ _ _ _ _ _ _ _ _ _
   | exact ih4 _
   | exact period_Dates.mono _ _ _ _ _ _ _ _ _ _ _ _ _ _
   | exact period_Spans.mono _ _ _ _ _ _ _ _ _ _ _ _ _ _ _
   | exact pylonlaw13_awake.mono _
   | exact pylonref11_SameSpans.mono _ _ _
   | exact pylonref13_Dates.mono _ _ _ _ _ _ _ _ _ _ _ _ _ _
   | exact pylonref13_SameDates.mono _ _ _
   | exact pylonref13_Spans.mono _ _ _ _ _ _ _ _ _ _ _ _ _ _ _
   | exact LeO.none _
   | refine LeO.ite ?_ ?_
   | refine LeO.bind ?_ (fun _ => ?_)
  ·intro y0
   unfold pylonlaw13_PeriodKeeps.j4
   repeat' first
   | (with_reducible exact ih0 _ _ _ _ _ _ _ _ _ _ _)
   | (with_reducible exact ih1 _ _ _ _ _ _ _ _ _ _ _)
   | (with_reducible exact ih2 _ _ _ _ _ _ _ _ _ _ _)
   | (with_reducible exact ih3 _ _ _ _ _ _ _ _ _ _)
   | (with_reducible exact ih4 _)
   | (with_reducible exact period_Dates.mono _ _ _ _ _ _ _ _ _ _ _ _ _ _)
   | (with_reducible exact period_Spans.mono _ _ _ _ _ _ _ _ _ _ _ _ _ _ _)
   | (with_reducible exact pylonlaw13_awake.mono _)
   | (with_reducible exact pylonref11_SameSpans.mono _ _ _)
   | (with_reducible exact pylonref13_Dates.mono _ _ _ _ _ _ _ _ _ _ _ _ _ _)
   | (with_reducible exact pylonref13_SameDates.mono _ _ _)
   | (with_reducible exact pylonref13_Spans.mono _ _ _ _ _ _ _ _ _ _ _ _ _ _ _)
   | (with_reducible exact LeO.refl _)
   | (with_reducible exact LeO.none _)
   | (with_reducible refine LeO.ite ?_ ?_)
   | (with_reducible refine LeO.bind ?_ (fun _ => ?_))
   | exact ih0 _ _ _ _ _ _ _ _ _ _ _
   | exact ih1 _ _ _ _ _ _ _ _ _ _ _
   | exact ih2 _ _ _ _ _ _ _ _ _ _ _
   | exact ih3 _ _ _ _ _ _ _ _ _ _
   | exact ih4 _
   | exact period_Dates.mono _ _ _ _ _ _ _ _ _ _ _ _ _ _
   | exact period_Spans.mono _ _ _ _ _ _ _ _ _ _ _ _ _ _ _
   | exact pylonlaw13_awake.mono _
   | exact pylonref11_SameSpans.mono _ _ _
   | exact pylonref13_Dates.mono _ _ _ _ _ _ _ _ _ _ _ _ _ _
   | exact pylonref13_SameDates.mono _ _ _
   | exact pylonref13_Spans.mono _ _ _ _ _ _ _ _ _ _ _ _ _ _ _
   | exact LeO.none _
   | refine LeO.ite ?_ ?_
   | refine LeO.bind ?_ (fun _ => ?_)
theorem pylonlaw13_PeriodKeeps.mono : ∀ a0 a1 a2 a3 a4 a5 a6 a7 a8 a9 a10 a11 a12 a13 k, LeO (pylonlaw13_PeriodKeeps.f k a0 a1 a2 a3 a4 a5 a6 a7 a8 a9 a10 a11 a12 a13) (pylonlaw13_PeriodKeeps.f (k + 1) a0 a1 a2 a3 a4 a5 a6 a7 a8 a9 a10 a11 a12 a13) := by
 intro a0 a1 a2 a3 a4 a5 a6 a7 a8 a9 a10 a11 a12 a13 k
 obtain ⟨ih0, ih1, ih2, ih3, ih4⟩ := pylonlaw13_PeriodKeeps.mono_l k
 unfold pylonlaw13_PeriodKeeps.f
 repeat' first
   | (with_reducible exact ih0 _ _ _ _ _ _ _ _ _ _ _)
   | (with_reducible exact ih1 _ _ _ _ _ _ _ _ _ _ _)
   | (with_reducible exact ih2 _ _ _ _ _ _ _ _ _ _ _)
   | (with_reducible exact ih3 _ _ _ _ _ _ _ _ _ _)
   | (with_reducible exact ih4 _)
   | (with_reducible exact period_Dates.mono _ _ _ _ _ _ _ _ _ _ _ _ _ _)
   | (with_reducible exact period_Spans.mono _ _ _ _ _ _ _ _ _ _ _ _ _ _ _)
   | (with_reducible exact pylonlaw13_awake.mono _)
   | (with_reducible exact pylonref11_SameSpans.mono _ _ _)
   | (with_reducible exact pylonref13_Dates.mono _ _ _ _ _ _ _ _ _ _ _ _ _ _)
   | (with_reducible exact pylonref13_SameDates.mono _ _ _)
   | (with_reducible exact pylonref13_Spans.mono _ _ _ _ _ _ _ _ _ _ _ _ _ _ _)
   | (with_reducible exact LeO.refl _)
   | (with_reducible exact LeO.none _)
   | (with_reducible refine LeO.ite ?_ ?_)
   | (with_reducible refine LeO.bind ?_ (fun _ => ?_))
   | exact ih0 _ _ _ _ _ _ _ _ _ _ _
   | exact ih1 _ _ _ _ _ _ _ _ _ _ _
   | exact ih2 _ _ _ _ _ _ _ _ _ _ _
   | exact ih3 _ _ _ _ _ _ _ _ _ _
   | exact ih4 _
   | exact period_Dates.mono _ _ _ _ _ _ _ _ _ _ _ _ _ _
   | exact period_Spans.mono _ _ _ _ _ _ _ _ _ _ _ _ _ _ _
   | exact pylonlaw13_awake.mono _
   | exact pylonref11_SameSpans.mono _ _ _
   | exact pylonref13_Dates.mono _ _ _ _ _ _ _ _ _ _ _ _ _ _
   | exact pylonref13_SameDates.mono _ _ _
   | exact pylonref13_Spans.mono _ _ _ _ _ _ _ _ _ _ _ _ _ _ _
   | exact LeO.none _
   | refine LeO.ite ?_ ?_
   | refine LeO.bind ?_ (fun _ => ?_)
set_option maxHeartbeats 8000000 in
set_option maxRecDepth 100000 in
theorem pylonlaw13_PeriodKeeps.calls (k : Nat) (a0_0 : Int) (a0_1 : Int) (a0_2 : Int) (a0_3 : Int) (a0_4 : Int) (a0_5 : Int) (a0_6 : Int) (a0_7 : Int) (a0_8 : Int) (a0_9 : Int) (a0_10 : Int) (a0_11 : Int) (a0_12 : Int) (a1 : Int) (r : Bool) (w : World) (h : pylonlaw13_PeriodKeeps.f k a0_0 a0_1 a0_2 a0_3 a0_4 a0_5 a0_6 a0_7 a0_8 a0_9 a0_10 a0_11 a0_12 a1 = some r) :
  Calls Try.prog 13 #[.agg #[.int .i64 a0_0, .int .i64 a0_1, .int .i64 a0_2, .int .i64 a0_3, .int .i64 a0_4, .int .i64 a0_5, .int .i64 a0_6, .int .i64 a0_7, .int .i64 a0_8, .int .i64 a0_9, .int .i64 a0_10, .int .i64 a0_11, .int .i64 a0_12], .int .i64 a1] w fun e w' => e = .returned (.bool r) ∧ Below w.heap.size w w' := by
 have hu61 := Try.underlying61
 have hu25 := Try.underlying25
 have hu74 := Try.underlying74
 have hu33 := Try.underlying33
 have HB := AX (Below.refl w.heap.size w)
 have H : ((pylonlaw13_awake.f k).bind fun t787 => (if t787 = true then ((pylonlaw13_Slots_cut.f a0_0 a0_1 a0_2 a0_3 a0_4 a0_5 a0_6 a0_7 a0_8 a0_9 a0_10 a0_11 a0_12).bind fun bt788 => ((period_Spans.f k bt788.1 bt788.2.1 bt788.2.2.1 bt788.2.2.2.1 bt788.2.2.2.2.1 bt788.2.2.2.2.2.1 bt788.2.2.2.2.2.2.1 bt788.2.2.2.2.2.2.2.1 bt788.2.2.2.2.2.2.2.2.1 bt788.2.2.2.2.2.2.2.2.2.1 a1 bt788.2.2.2.2.2.2.2.2.2.2.1 bt788.2.2.2.2.2.2.2.2.2.2.2.1 bt788.2.2.2.2.2.2.2.2.2.2.2.2).bind fun bt801 => ((period_Spans.f k bt788.1 bt788.2.1 bt788.2.2.1 bt788.2.2.2.1 bt788.2.2.2.2.1 bt788.2.2.2.2.2.1 bt788.2.2.2.2.2.2.1 bt788.2.2.2.2.2.2.2.1 bt788.2.2.2.2.2.2.2.2.1 bt788.2.2.2.2.2.2.2.2.2.1 a1 bt788.2.2.2.2.2.2.2.2.2.2.1 bt788.2.2.2.2.2.2.2.2.2.2.2.1 bt788.2.2.2.2.2.2.2.2.2.2.2.2).bind fun bt808 => ((period_Dates.f k bt788.1 bt788.2.1 bt788.2.2.1 bt788.2.2.2.1 bt788.2.2.2.2.1 bt788.2.2.2.2.2.1 bt788.2.2.2.2.2.2.1 bt788.2.2.2.2.2.2.2.1 bt788.2.2.2.2.2.2.2.2.1 bt788.2.2.2.2.2.2.2.2.2.1 bt788.2.2.2.2.2.2.2.2.2.2.1 bt788.2.2.2.2.2.2.2.2.2.2.2.1 bt788.2.2.2.2.2.2.2.2.2.2.2.2).bind fun bt815 => ((period_Dates.f k bt788.1 bt788.2.1 bt788.2.2.1 bt788.2.2.2.1 bt788.2.2.2.2.1 bt788.2.2.2.2.2.1 bt788.2.2.2.2.2.2.1 bt788.2.2.2.2.2.2.2.1 bt788.2.2.2.2.2.2.2.2.1 bt788.2.2.2.2.2.2.2.2.2.1 bt788.2.2.2.2.2.2.2.2.2.2.1 bt788.2.2.2.2.2.2.2.2.2.2.2.1 bt788.2.2.2.2.2.2.2.2.2.2.2.2).bind fun bt819 => ((pylonref13_Spans.f k bt788.1 bt788.2.1 bt788.2.2.1 bt788.2.2.2.1 bt788.2.2.2.2.1 bt788.2.2.2.2.2.1 bt788.2.2.2.2.2.2.1 bt788.2.2.2.2.2.2.2.1 bt788.2.2.2.2.2.2.2.2.1 bt788.2.2.2.2.2.2.2.2.2.1 a1 bt788.2.2.2.2.2.2.2.2.2.2.1 bt788.2.2.2.2.2.2.2.2.2.2.2.1 bt788.2.2.2.2.2.2.2.2.2.2.2.2).bind fun bt823 => ((pylonref13_Dates.f k bt788.1 bt788.2.1 bt788.2.2.1 bt788.2.2.2.1 bt788.2.2.2.2.1 bt788.2.2.2.2.2.1 bt788.2.2.2.2.2.2.1 bt788.2.2.2.2.2.2.2.1 bt788.2.2.2.2.2.2.2.2.1 bt788.2.2.2.2.2.2.2.2.2.1 bt788.2.2.2.2.2.2.2.2.2.2.1 bt788.2.2.2.2.2.2.2.2.2.2.2.1 bt788.2.2.2.2.2.2.2.2.2.2.2.2).bind fun bt830 => (pylonlaw13_PeriodKeeps.l0 k bt801.1 bt801.2.1 bt808.1 bt808.2.1 bt815.1 bt819.1 bt823.1 bt823.2.1 bt830.1 (bt801.1.length : Int) 0)))))))) else (some false))) = some r := h
 clear h
 replace H := Option.bind_eq_some_iff.mp H
 obtain ⟨t787, A30, H⟩ := H
 replace H : (if t787 = true then ((pylonlaw13_Slots_cut.f a0_0 a0_1 a0_2 a0_3 a0_4 a0_5 a0_6 a0_7 a0_8 a0_9 a0_10 a0_11 a0_12).bind fun bt788 => ((period_Spans.f k bt788.1 bt788.2.1 bt788.2.2.1 bt788.2.2.2.1 bt788.2.2.2.2.1 bt788.2.2.2.2.2.1 bt788.2.2.2.2.2.2.1 bt788.2.2.2.2.2.2.2.1 bt788.2.2.2.2.2.2.2.2.1 bt788.2.2.2.2.2.2.2.2.2.1 a1 bt788.2.2.2.2.2.2.2.2.2.2.1 bt788.2.2.2.2.2.2.2.2.2.2.2.1 bt788.2.2.2.2.2.2.2.2.2.2.2.2).bind fun bt801 => ((period_Spans.f k bt788.1 bt788.2.1 bt788.2.2.1 bt788.2.2.2.1 bt788.2.2.2.2.1 bt788.2.2.2.2.2.1 bt788.2.2.2.2.2.2.1 bt788.2.2.2.2.2.2.2.1 bt788.2.2.2.2.2.2.2.2.1 bt788.2.2.2.2.2.2.2.2.2.1 a1 bt788.2.2.2.2.2.2.2.2.2.2.1 bt788.2.2.2.2.2.2.2.2.2.2.2.1 bt788.2.2.2.2.2.2.2.2.2.2.2.2).bind fun bt808 => ((period_Dates.f k bt788.1 bt788.2.1 bt788.2.2.1 bt788.2.2.2.1 bt788.2.2.2.2.1 bt788.2.2.2.2.2.1 bt788.2.2.2.2.2.2.1 bt788.2.2.2.2.2.2.2.1 bt788.2.2.2.2.2.2.2.2.1 bt788.2.2.2.2.2.2.2.2.2.1 bt788.2.2.2.2.2.2.2.2.2.2.1 bt788.2.2.2.2.2.2.2.2.2.2.2.1 bt788.2.2.2.2.2.2.2.2.2.2.2.2).bind fun bt815 => ((period_Dates.f k bt788.1 bt788.2.1 bt788.2.2.1 bt788.2.2.2.1 bt788.2.2.2.2.1 bt788.2.2.2.2.2.1 bt788.2.2.2.2.2.2.1 bt788.2.2.2.2.2.2.2.1 bt788.2.2.2.2.2.2.2.2.1 bt788.2.2.2.2.2.2.2.2.2.1 bt788.2.2.2.2.2.2.2.2.2.2.1 bt788.2.2.2.2.2.2.2.2.2.2.2.1 bt788.2.2.2.2.2.2.2.2.2.2.2.2).bind fun bt819 => ((pylonref13_Spans.f k bt788.1 bt788.2.1 bt788.2.2.1 bt788.2.2.2.1 bt788.2.2.2.2.1 bt788.2.2.2.2.2.1 bt788.2.2.2.2.2.2.1 bt788.2.2.2.2.2.2.2.1 bt788.2.2.2.2.2.2.2.2.1 bt788.2.2.2.2.2.2.2.2.2.1 a1 bt788.2.2.2.2.2.2.2.2.2.2.1 bt788.2.2.2.2.2.2.2.2.2.2.2.1 bt788.2.2.2.2.2.2.2.2.2.2.2.2).bind fun bt823 => ((pylonref13_Dates.f k bt788.1 bt788.2.1 bt788.2.2.1 bt788.2.2.2.1 bt788.2.2.2.2.1 bt788.2.2.2.2.2.1 bt788.2.2.2.2.2.2.1 bt788.2.2.2.2.2.2.2.1 bt788.2.2.2.2.2.2.2.2.1 bt788.2.2.2.2.2.2.2.2.2.1 bt788.2.2.2.2.2.2.2.2.2.2.1 bt788.2.2.2.2.2.2.2.2.2.2.2.1 bt788.2.2.2.2.2.2.2.2.2.2.2.2).bind fun bt830 => (pylonlaw13_PeriodKeeps.l0 k bt801.1 bt801.2.1 bt808.1 bt808.2.1 bt815.1 bt819.1 bt823.1 bt823.2.1 bt830.1 (bt801.1.length : Int) 0)))))))) else (some false)) = some r := H
 have A3 := AX A30
 clear A30
 by_cases c4 : t787 = true
 ·subst c4
  have H1 : ((pylonlaw13_Slots_cut.f a0_0 a0_1 a0_2 a0_3 a0_4 a0_5 a0_6 a0_7 a0_8 a0_9 a0_10 a0_11 a0_12).bind fun bt788 => ((period_Spans.f k bt788.1 bt788.2.1 bt788.2.2.1 bt788.2.2.2.1 bt788.2.2.2.2.1 bt788.2.2.2.2.2.1 bt788.2.2.2.2.2.2.1 bt788.2.2.2.2.2.2.2.1 bt788.2.2.2.2.2.2.2.2.1 bt788.2.2.2.2.2.2.2.2.2.1 a1 bt788.2.2.2.2.2.2.2.2.2.2.1 bt788.2.2.2.2.2.2.2.2.2.2.2.1 bt788.2.2.2.2.2.2.2.2.2.2.2.2).bind fun bt801 => ((period_Spans.f k bt788.1 bt788.2.1 bt788.2.2.1 bt788.2.2.2.1 bt788.2.2.2.2.1 bt788.2.2.2.2.2.1 bt788.2.2.2.2.2.2.1 bt788.2.2.2.2.2.2.2.1 bt788.2.2.2.2.2.2.2.2.1 bt788.2.2.2.2.2.2.2.2.2.1 a1 bt788.2.2.2.2.2.2.2.2.2.2.1 bt788.2.2.2.2.2.2.2.2.2.2.2.1 bt788.2.2.2.2.2.2.2.2.2.2.2.2).bind fun bt808 => ((period_Dates.f k bt788.1 bt788.2.1 bt788.2.2.1 bt788.2.2.2.1 bt788.2.2.2.2.1 bt788.2.2.2.2.2.1 bt788.2.2.2.2.2.2.1 bt788.2.2.2.2.2.2.2.1 bt788.2.2.2.2.2.2.2.2.1 bt788.2.2.2.2.2.2.2.2.2.1 bt788.2.2.2.2.2.2.2.2.2.2.1 bt788.2.2.2.2.2.2.2.2.2.2.2.1 bt788.2.2.2.2.2.2.2.2.2.2.2.2).bind fun bt815 => ((period_Dates.f k bt788.1 bt788.2.1 bt788.2.2.1 bt788.2.2.2.1 bt788.2.2.2.2.1 bt788.2.2.2.2.2.1 bt788.2.2.2.2.2.2.1 bt788.2.2.2.2.2.2.2.1 bt788.2.2.2.2.2.2.2.2.1 bt788.2.2.2.2.2.2.2.2.2.1 bt788.2.2.2.2.2.2.2.2.2.2.1 bt788.2.2.2.2.2.2.2.2.2.2.2.1 bt788.2.2.2.2.2.2.2.2.2.2.2.2).bind fun bt819 => ((pylonref13_Spans.f k bt788.1 bt788.2.1 bt788.2.2.1 bt788.2.2.2.1 bt788.2.2.2.2.1 bt788.2.2.2.2.2.1 bt788.2.2.2.2.2.2.1 bt788.2.2.2.2.2.2.2.1 bt788.2.2.2.2.2.2.2.2.1 bt788.2.2.2.2.2.2.2.2.2.1 a1 bt788.2.2.2.2.2.2.2.2.2.2.1 bt788.2.2.2.2.2.2.2.2.2.2.2.1 bt788.2.2.2.2.2.2.2.2.2.2.2.2).bind fun bt823 => ((pylonref13_Dates.f k bt788.1 bt788.2.1 bt788.2.2.1 bt788.2.2.2.1 bt788.2.2.2.2.1 bt788.2.2.2.2.2.1 bt788.2.2.2.2.2.2.1 bt788.2.2.2.2.2.2.2.1 bt788.2.2.2.2.2.2.2.2.1 bt788.2.2.2.2.2.2.2.2.2.1 bt788.2.2.2.2.2.2.2.2.2.2.1 bt788.2.2.2.2.2.2.2.2.2.2.2.1 bt788.2.2.2.2.2.2.2.2.2.2.2.2).bind fun bt830 => (pylonlaw13_PeriodKeeps.l0 k bt801.1 bt801.2.1 bt808.1 bt808.2.1 bt815.1 bt819.1 bt823.1 bt823.2.1 bt830.1 (bt801.1.length : Int) 0)))))))) = some r := by rw [if_pos rfl] at H; exact H
  clear H
  have H := H1
  clear H1
  replace H := Option.bind_eq_some_iff.mp H
  obtain ⟨⟨t788, t789, t790, t791, t792, t793, t794, t795, t796, t797, t798, t799, t800⟩, A50, H⟩ := H
  replace H : ((period_Spans.f k t788 t789 t790 t791 t792 t793 t794 t795 t796 t797 a1 t798 t799 t800).bind fun bt801 => ((period_Spans.f k t788 t789 t790 t791 t792 t793 t794 t795 t796 t797 a1 t798 t799 t800).bind fun bt808 => ((period_Dates.f k t788 t789 t790 t791 t792 t793 t794 t795 t796 t797 t798 t799 t800).bind fun bt815 => ((period_Dates.f k t788 t789 t790 t791 t792 t793 t794 t795 t796 t797 t798 t799 t800).bind fun bt819 => ((pylonref13_Spans.f k t788 t789 t790 t791 t792 t793 t794 t795 t796 t797 a1 t798 t799 t800).bind fun bt823 => ((pylonref13_Dates.f k t788 t789 t790 t791 t792 t793 t794 t795 t796 t797 t798 t799 t800).bind fun bt830 => (pylonlaw13_PeriodKeeps.l0 k bt801.1 bt801.2.1 bt808.1 bt808.2.1 bt815.1 bt819.1 bt823.1 bt823.2.1 bt830.1 (bt801.1.length : Int) 0))))))) = some r := H
  have A5 := AX A50
  clear A50
  replace H := Option.bind_eq_some_iff.mp H
  obtain ⟨⟨t801, t804, t807⟩, A60, H⟩ := H
  replace H : ((period_Spans.f k t788 t789 t790 t791 t792 t793 t794 t795 t796 t797 a1 t798 t799 t800).bind fun bt808 => ((period_Dates.f k t788 t789 t790 t791 t792 t793 t794 t795 t796 t797 t798 t799 t800).bind fun bt815 => ((period_Dates.f k t788 t789 t790 t791 t792 t793 t794 t795 t796 t797 t798 t799 t800).bind fun bt819 => ((pylonref13_Spans.f k t788 t789 t790 t791 t792 t793 t794 t795 t796 t797 a1 t798 t799 t800).bind fun bt823 => ((pylonref13_Dates.f k t788 t789 t790 t791 t792 t793 t794 t795 t796 t797 t798 t799 t800).bind fun bt830 => (pylonlaw13_PeriodKeeps.l0 k t801 t804 bt808.1 bt808.2.1 bt815.1 bt819.1 bt823.1 bt823.2.1 bt830.1 (t801.length : Int) 0)))))) = some r := H
  have A6 := AX A60
  clear A60
  replace H := Option.bind_eq_some_iff.mp H
  obtain ⟨⟨t808, t811, t814⟩, A70, H⟩ := H
  replace H : ((period_Dates.f k t788 t789 t790 t791 t792 t793 t794 t795 t796 t797 t798 t799 t800).bind fun bt815 => ((period_Dates.f k t788 t789 t790 t791 t792 t793 t794 t795 t796 t797 t798 t799 t800).bind fun bt819 => ((pylonref13_Spans.f k t788 t789 t790 t791 t792 t793 t794 t795 t796 t797 a1 t798 t799 t800).bind fun bt823 => ((pylonref13_Dates.f k t788 t789 t790 t791 t792 t793 t794 t795 t796 t797 t798 t799 t800).bind fun bt830 => (pylonlaw13_PeriodKeeps.l0 k t801 t804 t808 t811 bt815.1 bt819.1 bt823.1 bt823.2.1 bt830.1 (t801.length : Int) 0))))) = some r := H
  have A7 := AX A70
  clear A70
  replace H := Option.bind_eq_some_iff.mp H
  obtain ⟨⟨t815, t818⟩, A80, H⟩ := H
  replace H : ((period_Dates.f k t788 t789 t790 t791 t792 t793 t794 t795 t796 t797 t798 t799 t800).bind fun bt819 => ((pylonref13_Spans.f k t788 t789 t790 t791 t792 t793 t794 t795 t796 t797 a1 t798 t799 t800).bind fun bt823 => ((pylonref13_Dates.f k t788 t789 t790 t791 t792 t793 t794 t795 t796 t797 t798 t799 t800).bind fun bt830 => (pylonlaw13_PeriodKeeps.l0 k t801 t804 t808 t811 t815 bt819.1 bt823.1 bt823.2.1 bt830.1 (t801.length : Int) 0)))) = some r := H
  have A8 := AX A80
  clear A80
  replace H := Option.bind_eq_some_iff.mp H
  obtain ⟨⟨t819, t822⟩, A90, H⟩ := H
  replace H : ((pylonref13_Spans.f k t788 t789 t790 t791 t792 t793 t794 t795 t796 t797 a1 t798 t799 t800).bind fun bt823 => ((pylonref13_Dates.f k t788 t789 t790 t791 t792 t793 t794 t795 t796 t797 t798 t799 t800).bind fun bt830 => (pylonlaw13_PeriodKeeps.l0 k t801 t804 t808 t811 t815 t819 bt823.1 bt823.2.1 bt830.1 (t801.length : Int) 0))) = some r := H
  have A9 := AX A90
  clear A90
  replace H := Option.bind_eq_some_iff.mp H
  obtain ⟨⟨t823, t826, t829⟩, A100, H⟩ := H
  replace H : ((pylonref13_Dates.f k t788 t789 t790 t791 t792 t793 t794 t795 t796 t797 t798 t799 t800).bind fun bt830 => (pylonlaw13_PeriodKeeps.l0 k t801 t804 t808 t811 t815 t819 t823 t826 bt830.1 (t801.length : Int) 0)) = some r := H
  have A10 := AX A100
  clear A100
  replace H := Option.bind_eq_some_iff.mp H
  obtain ⟨⟨t830, t833⟩, A110, H⟩ := H
  replace H : (pylonlaw13_PeriodKeeps.l0 k t801 t804 t808 t811 t815 t819 t823 t826 t830 (t801.length : Int) 0) = some r := H
  have A11 := AX A110
  clear A110
  have H' := AX H
  clear H
  go_enter Try.func13, Try.ntmps13
  go_wp2_with (first | ((with_reducible refine gate_dst (N := 2) rfl ?_); refine box_event ?hg (N := 2) ?hd (cs := #[.int .i64 a0_0, .int .i64 a0_1, .int .i64 a0_2, .int .i64 a0_3, .int .i64 a0_4, .int .i64 a0_5, .int .i64 a0_6, .int .i64 a0_7, .int .i64 a0_8, .int .i64 a0_9, .int .i64 a0_10, .int .i64 a0_11, .int .i64 a0_12]) (t := 61) ?hr ?_; (case hd => rfl); (case hg => rfl); (case hr => first | (go_simp; done) | (go_simp; rfl)); intro gb786 hg w12 hbox hb; have n0_ := AX (below_step bw hb); have n1_ := AX (hbox); have n2_ := AX ((by rw [hg]; exact (below_size bw) : w.heap.size ≤ gb786)); have n3_ := n2_; clear HB; have HB := n0_; have BK786 := n1_; have GW786 := n2_; have GE786 := n3_; clear n0_ n1_ n2_ n3_; clear hb hbox hg) | ((with_reducible refine gate_callee (f := 29) rfl ?_); refine goesL_ (some 23) rfl rfl Try.func29 (by kernel_rfl) rfl #[] rfl (by (try simp only [List.map_toArray, List.map_cons, List.map_nil]); first | done | rfl | (simp only [List.length_drop, List.length_take]; rfl)) ?_; (with_reducible refine (pylonlaw13_awake.calls k  true _ A3.out).mono ?_); rintro e w13 ⟨rfl, hb⟩; refine ⟨_, rfl, ?_⟩; have n0_ := AX (bkb BK786 hb); have n1_ := AX (below_step bw hb); clear BK786; clear HB; have BK786 := n0_; have HB := n1_; clear n0_ n1_; (try clear hb); obtain ⟨hcz14_0, hcz14_1, hcz14_2, hcz14_3, hcz14_4, hcz14_5, hcz14_6, hcz14_7, hcz14_8, hcz14_9, hcz14_10, hcz14_11, hcz14_12⟩ := blkC13 (w := w13) BK786.out; obtain ⟨hfz14_0, hfz14_1, hfz14_2, hfz14_3, hfz14_4, hfz14_5, hfz14_6, hfz14_7, hfz14_8, hfz14_9, hfz14_10, hfz14_11, hfz14_12⟩ := blkF13 BK786.out) | ((with_reducible refine gate_callee (f := 30) rfl ?_); refine goesL_ (some 26) rfl rfl Try.func30 (by kernel_rfl) rfl #[.agg #[.int .i64 a0_0, .int .i64 a0_1, .int .i64 a0_2, .int .i64 a0_3, .int .i64 a0_4, .int .i64 a0_5, .int .i64 a0_6, .int .i64 a0_7, .int .i64 a0_8, .int .i64 a0_9, .int .i64 a0_10, .int .i64 a0_11, .int .i64 a0_12]] rfl (by (try simp only [List.map_toArray, List.map_cons, List.map_nil]); first | done | rfl | (simp only [List.length_drop, List.length_take]; rfl)) ?_; (with_reducible refine (pylonlaw13_Slots_cut.calls a0_0 a0_1 a0_2 a0_3 a0_4 a0_5 a0_6 a0_7 a0_8 a0_9 a0_10 a0_11 a0_12 t788 t789 t790 t791 t792 t793 t794 t795 t796 t797 t798 t799 t800 _ A5.out).mono ?_); rintro e w15 ⟨rfl, hb⟩; refine ⟨_, rfl, ?_⟩; have n0_ := AX (bkb BK786 hb); have n1_ := AX (below_step bw hb); clear BK786; clear HB; have BK786 := n0_; have HB := n1_; clear n0_ n1_; (try clear hb); obtain ⟨hcz16_0, hcz16_1, hcz16_2, hcz16_3, hcz16_4, hcz16_5, hcz16_6, hcz16_7, hcz16_8, hcz16_9, hcz16_10, hcz16_11, hcz16_12⟩ := blkC13 (w := w15) BK786.out; obtain ⟨hfz16_0, hfz16_1, hfz16_2, hfz16_3, hfz16_4, hfz16_5, hfz16_6, hfz16_7, hfz16_8, hfz16_9, hfz16_10, hfz16_11, hfz16_12⟩ := blkF13 BK786.out) | ((with_reducible refine gate_callee (f := 35) rfl ?_); refine goesL_ (some 37) rfl rfl Try.func35 (by kernel_rfl) rfl #[.agg #[.int .i64 t788, .int .i64 t789, .int .i64 t790, .int .i64 t791, .int .i64 t792, .int .i64 t793, .int .i64 t794, .int .i64 t795, .int .i64 t796, .int .i64 t797], .int .i64 a1, .int .i64 t798, .int .i64 t799, .int .i64 t800] rfl (by (try simp only [List.map_toArray, List.map_cons, List.map_nil]); first | done | rfl | (simp only [List.length_drop, List.length_take]; rfl)) ?_; (with_reducible refine (period_Spans.calls k t788 t789 t790 t791 t792 t793 t794 t795 t796 t797 a1 t798 t799 t800 t801 t804 t807 _ A6.out).mono ?_); rintro e w17 ⟨v802, v805, rfl, ho0, ho1, hb⟩; refine ⟨_, rfl, ?_⟩; have n0_ := AX (Kd.R_lower ho0 (below_size bw)); have n1_ := AX (Kd.R_lower ho1 (below_size bw)); have n2_ := AX (blk_below (g := gb786) (o := .cells #[.int .i64 t788, .int .i64 t789, .int .i64 t790, .int .i64 t791, .int .i64 t792, .int .i64 t793, .int .i64 t794, .int .i64 t795, .int .i64 t796, .int .i64 t797, .int .i64 t798, .int .i64 t799, .int .i64 t800] 61 (0, 0)) (by (with_reducible repeat first|refine blk_drewN ?_ _|refine blk_drew ?_|refine blk_alloc ?_ _); refine blk_put (cs := #[.int .i64 t788, .int .i64 t789, .int .i64 t790, .int .i64 t791, .int .i64 t792, .int .i64 t793, .int .i64 t794, .int .i64 t795, .int .i64 t796, .int .i64 t797, .int .i64 t798, .int .i64 t799, .int .i64 a0_12]) ?_ 12 _ rfl; (with_reducible repeat first|refine blk_drewN ?_ _|refine blk_drew ?_|refine blk_alloc ?_ _); refine blk_put (cs := #[.int .i64 t788, .int .i64 t789, .int .i64 t790, .int .i64 t791, .int .i64 t792, .int .i64 t793, .int .i64 t794, .int .i64 t795, .int .i64 t796, .int .i64 t797, .int .i64 t798, .int .i64 a0_11, .int .i64 a0_12]) ?_ 11 _ rfl; (with_reducible repeat first|refine blk_drewN ?_ _|refine blk_drew ?_|refine blk_alloc ?_ _); refine blk_put (cs := #[.int .i64 t788, .int .i64 t789, .int .i64 t790, .int .i64 t791, .int .i64 t792, .int .i64 t793, .int .i64 t794, .int .i64 t795, .int .i64 t796, .int .i64 t797, .int .i64 a0_10, .int .i64 a0_11, .int .i64 a0_12]) ?_ 10 _ rfl; (with_reducible repeat first|refine blk_drewN ?_ _|refine blk_drew ?_|refine blk_alloc ?_ _); refine blk_put (cs := #[.int .i64 t788, .int .i64 t789, .int .i64 t790, .int .i64 t791, .int .i64 t792, .int .i64 t793, .int .i64 t794, .int .i64 t795, .int .i64 t796, .int .i64 a0_9, .int .i64 a0_10, .int .i64 a0_11, .int .i64 a0_12]) ?_ 9 _ rfl; (with_reducible repeat first|refine blk_drewN ?_ _|refine blk_drew ?_|refine blk_alloc ?_ _); refine blk_put (cs := #[.int .i64 t788, .int .i64 t789, .int .i64 t790, .int .i64 t791, .int .i64 t792, .int .i64 t793, .int .i64 t794, .int .i64 t795, .int .i64 a0_8, .int .i64 a0_9, .int .i64 a0_10, .int .i64 a0_11, .int .i64 a0_12]) ?_ 8 _ rfl; (with_reducible repeat first|refine blk_drewN ?_ _|refine blk_drew ?_|refine blk_alloc ?_ _); refine blk_put (cs := #[.int .i64 t788, .int .i64 t789, .int .i64 t790, .int .i64 t791, .int .i64 t792, .int .i64 t793, .int .i64 t794, .int .i64 a0_7, .int .i64 a0_8, .int .i64 a0_9, .int .i64 a0_10, .int .i64 a0_11, .int .i64 a0_12]) ?_ 7 _ rfl; (with_reducible repeat first|refine blk_drewN ?_ _|refine blk_drew ?_|refine blk_alloc ?_ _); refine blk_put (cs := #[.int .i64 t788, .int .i64 t789, .int .i64 t790, .int .i64 t791, .int .i64 t792, .int .i64 t793, .int .i64 a0_6, .int .i64 a0_7, .int .i64 a0_8, .int .i64 a0_9, .int .i64 a0_10, .int .i64 a0_11, .int .i64 a0_12]) ?_ 6 _ rfl; (with_reducible repeat first|refine blk_drewN ?_ _|refine blk_drew ?_|refine blk_alloc ?_ _); refine blk_put (cs := #[.int .i64 t788, .int .i64 t789, .int .i64 t790, .int .i64 t791, .int .i64 t792, .int .i64 a0_5, .int .i64 a0_6, .int .i64 a0_7, .int .i64 a0_8, .int .i64 a0_9, .int .i64 a0_10, .int .i64 a0_11, .int .i64 a0_12]) ?_ 5 _ rfl; (with_reducible repeat first|refine blk_drewN ?_ _|refine blk_drew ?_|refine blk_alloc ?_ _); refine blk_put (cs := #[.int .i64 t788, .int .i64 t789, .int .i64 t790, .int .i64 t791, .int .i64 a0_4, .int .i64 a0_5, .int .i64 a0_6, .int .i64 a0_7, .int .i64 a0_8, .int .i64 a0_9, .int .i64 a0_10, .int .i64 a0_11, .int .i64 a0_12]) ?_ 4 _ rfl; (with_reducible repeat first|refine blk_drewN ?_ _|refine blk_drew ?_|refine blk_alloc ?_ _); refine blk_put (cs := #[.int .i64 t788, .int .i64 t789, .int .i64 t790, .int .i64 a0_3, .int .i64 a0_4, .int .i64 a0_5, .int .i64 a0_6, .int .i64 a0_7, .int .i64 a0_8, .int .i64 a0_9, .int .i64 a0_10, .int .i64 a0_11, .int .i64 a0_12]) ?_ 3 _ rfl; (with_reducible repeat first|refine blk_drewN ?_ _|refine blk_drew ?_|refine blk_alloc ?_ _); refine blk_put (cs := #[.int .i64 t788, .int .i64 t789, .int .i64 a0_2, .int .i64 a0_3, .int .i64 a0_4, .int .i64 a0_5, .int .i64 a0_6, .int .i64 a0_7, .int .i64 a0_8, .int .i64 a0_9, .int .i64 a0_10, .int .i64 a0_11, .int .i64 a0_12]) ?_ 2 _ rfl; (with_reducible repeat first|refine blk_drewN ?_ _|refine blk_drew ?_|refine blk_alloc ?_ _); refine blk_put (cs := #[.int .i64 t788, .int .i64 a0_1, .int .i64 a0_2, .int .i64 a0_3, .int .i64 a0_4, .int .i64 a0_5, .int .i64 a0_6, .int .i64 a0_7, .int .i64 a0_8, .int .i64 a0_9, .int .i64 a0_10, .int .i64 a0_11, .int .i64 a0_12]) ?_ 1 _ rfl; (with_reducible repeat first|refine blk_drewN ?_ _|refine blk_drew ?_|refine blk_alloc ?_ _); refine blk_put (cs := #[.int .i64 a0_0, .int .i64 a0_1, .int .i64 a0_2, .int .i64 a0_3, .int .i64 a0_4, .int .i64 a0_5, .int .i64 a0_6, .int .i64 a0_7, .int .i64 a0_8, .int .i64 a0_9, .int .i64 a0_10, .int .i64 a0_11, .int .i64 a0_12]) ?_ 0 _ rfl; (with_reducible repeat first|refine blk_drewN ?_ _|refine blk_drew ?_|refine blk_alloc ?_ _); exact BK786.out) hb); have n3_ := AX (below_step bw hb); clear BK786; clear HB; have HO803 := n0_; have HO806 := n1_; have BK786 := n2_; have HB := n3_; clear n0_ n1_ n2_ n3_; (try clear hb); (try clear hb2); (try clear hk); (try clear hi); (try clear ho0); (try clear ho1); obtain ⟨hcz18_0, hcz18_1, hcz18_2, hcz18_3, hcz18_4, hcz18_5, hcz18_6, hcz18_7, hcz18_8, hcz18_9, hcz18_10, hcz18_11, hcz18_12⟩ := blkC13 (w := w17) BK786.out; obtain ⟨hfz18_0, hfz18_1, hfz18_2, hfz18_3, hfz18_4, hfz18_5, hfz18_6, hfz18_7, hfz18_8, hfz18_9, hfz18_10, hfz18_11, hfz18_12⟩ := blkF13 BK786.out) | ((with_reducible refine gate_callee (f := 35) rfl ?_); refine goesL_ (some 51) rfl rfl Try.func35 (by kernel_rfl) rfl #[.agg #[.int .i64 t788, .int .i64 t789, .int .i64 t790, .int .i64 t791, .int .i64 t792, .int .i64 t793, .int .i64 t794, .int .i64 t795, .int .i64 t796, .int .i64 t797], .int .i64 a1, .int .i64 t798, .int .i64 t799, .int .i64 t800] rfl (by (try simp only [List.map_toArray, List.map_cons, List.map_nil]); first | done | rfl | (simp only [List.length_drop, List.length_take]; rfl)) ?_; (with_reducible refine (period_Spans.calls k t788 t789 t790 t791 t792 t793 t794 t795 t796 t797 a1 t798 t799 t800 t808 t811 t814 _ A7.out).mono ?_); rintro e w19 ⟨v809, v812, rfl, ho0, ho1, hb⟩; refine ⟨_, rfl, ?_⟩; have n0_ := AX (Kd.R_elder' (kr HO803) (Kd.R_base ho0) hb); have n1_ := AX (Kd.R_elder' (kr HO806) (Kd.R_base ho1) hb); have n2_ := AX (Kd.R_lower (Kd.R_new' ho0 (Kd.R_lt (kr HO803))) (below_size bw)); have n3_ := AX (Kd.R_lower (Kd.R_new' ho1 (Kd.R_lt (kr HO806))) (below_size bw)); have n4_ := AX (bkb BK786 hb); have n5_ := AX (below_step bw hb); clear HO803; clear HO806; clear BK786; clear HB; have HO803 := n0_; have HO806 := n1_; have HO810 := n2_; have HO813 := n3_; have BK786 := n4_; have HB := n5_; clear n0_ n1_ n2_ n3_ n4_ n5_; (try clear hb); (try clear hb2); (try clear hk); (try clear hi); (try clear ho0); (try clear ho1); obtain ⟨hcz20_0, hcz20_1, hcz20_2, hcz20_3, hcz20_4, hcz20_5, hcz20_6, hcz20_7, hcz20_8, hcz20_9, hcz20_10, hcz20_11, hcz20_12⟩ := blkC13 (w := w19) BK786.out; obtain ⟨hfz20_0, hfz20_1, hfz20_2, hfz20_3, hfz20_4, hfz20_5, hfz20_6, hfz20_7, hfz20_8, hfz20_9, hfz20_10, hfz20_11, hfz20_12⟩ := blkF13 BK786.out) | ((with_reducible refine gate_callee (f := 32) rfl ?_); refine goesL_ (some 64) rfl rfl Try.func32 (by kernel_rfl) rfl #[.agg #[.int .i64 t788, .int .i64 t789, .int .i64 t790, .int .i64 t791, .int .i64 t792, .int .i64 t793, .int .i64 t794, .int .i64 t795, .int .i64 t796, .int .i64 t797], .int .i64 t798, .int .i64 t799, .int .i64 t800] rfl (by (try simp only [List.map_toArray, List.map_cons, List.map_nil]); first | done | rfl | (simp only [List.length_drop, List.length_take]; rfl)) ?_; (with_reducible refine (period_Dates.calls k t788 t789 t790 t791 t792 t793 t794 t795 t796 t797 t798 t799 t800 t815 t818 _ A8.out).mono ?_); rintro e w21 ⟨v816, rfl, ho0, hb⟩; refine ⟨_, rfl, ?_⟩; have n0_ := AX (Kd.R_below (kr HO803) hb); have n1_ := AX (Kd.R_elder' (kr HO806) (Kd.R_base ho0) hb); have n2_ := AX (Kd.R_below (kr HO810) hb); have n3_ := AX (Kd.R_elder' (kr HO813) (Kd.R_base ho0) hb); have n4_ := AX (Kd.R_lower (Kd.R_new' (Kd.R_new' ho0 (Kd.R_lt (kr HO806))) (Kd.R_lt (kr HO813))) (below_size bw)); have n5_ := AX (bkb BK786 hb); have n6_ := AX (below_step bw hb); clear HO803; clear HO806; clear HO810; clear HO813; clear BK786; clear HB; have HO803 := n0_; have HO806 := n1_; have HO810 := n2_; have HO813 := n3_; have HO817 := n4_; have BK786 := n5_; have HB := n6_; clear n0_ n1_ n2_ n3_ n4_ n5_ n6_; (try clear hb); (try clear hb2); (try clear hk); (try clear hi); (try clear ho0); obtain ⟨hcz22_0, hcz22_1, hcz22_2, hcz22_3, hcz22_4, hcz22_5, hcz22_6, hcz22_7, hcz22_8, hcz22_9, hcz22_10, hcz22_11, hcz22_12⟩ := blkC13 (w := w21) BK786.out; obtain ⟨hfz22_0, hfz22_1, hfz22_2, hfz22_3, hfz22_4, hfz22_5, hfz22_6, hfz22_7, hfz22_8, hfz22_9, hfz22_10, hfz22_11, hfz22_12⟩ := blkF13 BK786.out) | ((with_reducible refine gate_callee (f := 32) rfl ?_); refine goesL_ (some 76) rfl rfl Try.func32 (by kernel_rfl) rfl #[.agg #[.int .i64 t788, .int .i64 t789, .int .i64 t790, .int .i64 t791, .int .i64 t792, .int .i64 t793, .int .i64 t794, .int .i64 t795, .int .i64 t796, .int .i64 t797], .int .i64 t798, .int .i64 t799, .int .i64 t800] rfl (by (try simp only [List.map_toArray, List.map_cons, List.map_nil]); first | done | rfl | (simp only [List.length_drop, List.length_take]; rfl)) ?_; (with_reducible refine (period_Dates.calls k t788 t789 t790 t791 t792 t793 t794 t795 t796 t797 t798 t799 t800 t819 t822 _ A9.out).mono ?_); rintro e w23 ⟨v820, rfl, ho0, hb⟩; refine ⟨_, rfl, ?_⟩; have n0_ := AX (Kd.R_below (kr HO803) hb); have n1_ := AX (Kd.R_elder' (kr HO806) (Kd.R_base ho0) hb); have n2_ := AX (Kd.R_below (kr HO810) hb); have n3_ := AX (Kd.R_elder' (kr HO813) (Kd.R_base ho0) hb); have n4_ := AX (Kd.R_elder' (kr HO817) (Kd.R_base ho0) hb); have n5_ := AX (Kd.R_lower (Kd.R_new' (Kd.R_new' (Kd.R_new' ho0 (Kd.R_lt (kr HO806))) (Kd.R_lt (kr HO813))) (Kd.R_lt (kr HO817))) (below_size bw)); have n6_ := AX (bkb BK786 hb); have n7_ := AX (below_step bw hb); clear HO803; clear HO806; clear HO810; clear HO813; clear HO817; clear BK786; clear HB; have HO803 := n0_; have HO806 := n1_; have HO810 := n2_; have HO813 := n3_; have HO817 := n4_; have HO821 := n5_; have BK786 := n6_; have HB := n7_; clear n0_ n1_ n2_ n3_ n4_ n5_ n6_ n7_; (try clear hb); (try clear hb2); (try clear hk); (try clear hi); (try clear ho0); obtain ⟨hcz24_0, hcz24_1, hcz24_2, hcz24_3, hcz24_4, hcz24_5, hcz24_6, hcz24_7, hcz24_8, hcz24_9, hcz24_10, hcz24_11, hcz24_12⟩ := blkC13 (w := w23) BK786.out; obtain ⟨hfz24_0, hfz24_1, hfz24_2, hfz24_3, hfz24_4, hfz24_5, hfz24_6, hfz24_7, hfz24_8, hfz24_9, hfz24_10, hfz24_11, hfz24_12⟩ := blkF13 BK786.out) | ((with_reducible refine gate_callee (f := 34) rfl ?_); refine goesL_ (some 89) rfl rfl Try.func34 (by kernel_rfl) rfl #[.agg #[.int .i64 t788, .int .i64 t789, .int .i64 t790, .int .i64 t791, .int .i64 t792, .int .i64 t793, .int .i64 t794, .int .i64 t795, .int .i64 t796, .int .i64 t797], .int .i64 a1, .int .i64 t798, .int .i64 t799, .int .i64 t800] rfl (by (try simp only [List.map_toArray, List.map_cons, List.map_nil]); first | done | rfl | (simp only [List.length_drop, List.length_take]; rfl)) ?_; (with_reducible refine (pylonref13_Spans.calls k t788 t789 t790 t791 t792 t793 t794 t795 t796 t797 a1 t798 t799 t800 t823 t826 t829 _ A10.out).mono ?_); rintro e w25 ⟨v824, v827, rfl, ho0, ho1, hb⟩; refine ⟨_, rfl, ?_⟩; have n0_ := AX (Kd.R_elder' (kr HO803) (Kd.R_base ho0) hb); have n1_ := AX (Kd.R_elder' (kr HO806) (Kd.R_base ho1) hb); have n2_ := AX (Kd.R_elder' (kr HO810) (Kd.R_base ho0) hb); have n3_ := AX (Kd.R_elder' (kr HO813) (Kd.R_base ho1) hb); have n4_ := AX (Kd.R_elder' (kr HO817) (Kd.R_base ho1) hb); have n5_ := AX (Kd.R_elder' (kr HO821) (Kd.R_base ho1) hb); have n6_ := AX (Kd.R_lower (Kd.R_new' (Kd.R_new' ho0 (Kd.R_lt (kr HO803))) (Kd.R_lt (kr HO810))) (below_size bw)); have n7_ := AX (Kd.R_lower (Kd.R_new' (Kd.R_new' (Kd.R_new' (Kd.R_new' ho1 (Kd.R_lt (kr HO806))) (Kd.R_lt (kr HO813))) (Kd.R_lt (kr HO817))) (Kd.R_lt (kr HO821))) (below_size bw)); have n8_ := AX (bkb BK786 hb); have n9_ := AX (below_step bw hb); clear HO803; clear HO806; clear HO810; clear HO813; clear HO817; clear HO821; clear BK786; clear HB; have HO803 := n0_; have HO806 := n1_; have HO810 := n2_; have HO813 := n3_; have HO817 := n4_; have HO821 := n5_; have HO825 := n6_; have HO828 := n7_; have BK786 := n8_; have HB := n9_; clear n0_ n1_ n2_ n3_ n4_ n5_ n6_ n7_ n8_ n9_; (try clear hb); (try clear hb2); (try clear hk); (try clear hi); (try clear ho0); (try clear ho1); obtain ⟨hcz26_0, hcz26_1, hcz26_2, hcz26_3, hcz26_4, hcz26_5, hcz26_6, hcz26_7, hcz26_8, hcz26_9, hcz26_10, hcz26_11, hcz26_12⟩ := blkC13 (w := w25) BK786.out; obtain ⟨hfz26_0, hfz26_1, hfz26_2, hfz26_3, hfz26_4, hfz26_5, hfz26_6, hfz26_7, hfz26_8, hfz26_9, hfz26_10, hfz26_11, hfz26_12⟩ := blkF13 BK786.out) | ((with_reducible refine gate_callee (f := 31) rfl ?_); refine goesL_ (some 102) rfl rfl Try.func31 (by kernel_rfl) rfl #[.agg #[.int .i64 t788, .int .i64 t789, .int .i64 t790, .int .i64 t791, .int .i64 t792, .int .i64 t793, .int .i64 t794, .int .i64 t795, .int .i64 t796, .int .i64 t797], .int .i64 t798, .int .i64 t799, .int .i64 t800] rfl (by (try simp only [List.map_toArray, List.map_cons, List.map_nil]); first | done | rfl | (simp only [List.length_drop, List.length_take]; rfl)) ?_; (with_reducible refine (pylonref13_Dates.calls k t788 t789 t790 t791 t792 t793 t794 t795 t796 t797 t798 t799 t800 t830 t833 _ A11.out).mono ?_); rintro e w27 ⟨v831, rfl, ho0, hb⟩; refine ⟨_, rfl, ?_⟩; have n0_ := AX (Kd.R_below (kr HO803) hb); have n1_ := AX (Kd.R_elder' (kr HO806) (Kd.R_base ho0) hb); have n2_ := AX (Kd.R_below (kr HO810) hb); have n3_ := AX (Kd.R_elder' (kr HO813) (Kd.R_base ho0) hb); have n4_ := AX (Kd.R_elder' (kr HO817) (Kd.R_base ho0) hb); have n5_ := AX (Kd.R_elder' (kr HO821) (Kd.R_base ho0) hb); have n6_ := AX (Kd.R_below (kr HO825) hb); have n7_ := AX (Kd.R_elder' (kr HO828) (Kd.R_base ho0) hb); have n8_ := AX (Kd.R_lower (Kd.R_new' (Kd.R_new' (Kd.R_new' (Kd.R_new' (Kd.R_new' ho0 (Kd.R_lt (kr HO806))) (Kd.R_lt (kr HO813))) (Kd.R_lt (kr HO817))) (Kd.R_lt (kr HO821))) (Kd.R_lt (kr HO828))) (below_size bw)); have n9_ := AX (bkb BK786 hb); have n10_ := AX (below_step bw hb); clear HO803; clear HO806; clear HO810; clear HO813; clear HO817; clear HO821; clear HO825; clear HO828; clear BK786; clear HB; have HO803 := n0_; have HO806 := n1_; have HO810 := n2_; have HO813 := n3_; have HO817 := n4_; have HO821 := n5_; have HO825 := n6_; have HO828 := n7_; have HO832 := n8_; have BK786 := n9_; have HB := n10_; clear n0_ n1_ n2_ n3_ n4_ n5_ n6_ n7_ n8_ n9_ n10_; (try clear hb); (try clear hb2); (try clear hk); (try clear hi); (try clear ho0); obtain ⟨Ao28, co28, eo28⟩ := Kd.R_slice HO803.out; subst eo28))
  go_loopg [107] k (fun kq v107 w' => ∃ (x5_1 : List (S74)) (x107_1 : Int), v107 = .int .i64 x107_1 ∧ Aside0 (pylonlaw13_PeriodKeeps.l0 kq x5_1 t804 t808 t811 t815 t819 t823 t826 t830 (t801.length : Int) x107_1 = some r) ∧ Aside0 (kq ≤ k) ∧ Aside0 (Kd.R k74 74 w' w.heap.size (fun k_ => some k_ ≠ (v809 : Value).ownBlock ∧ some k_ ≠ (v824 : Value).ownBlock) (.slice Ao28 t801.length co28) x5_1) ∧ Aside0 (Kd.R k33 33 w' w.heap.size (fun k_ => some k_ ≠ (v812 : Value).ownBlock ∧ some k_ ≠ (v816 : Value).ownBlock ∧ some k_ ≠ (v820 : Value).ownBlock ∧ some k_ ≠ (v827 : Value).ownBlock ∧ some k_ ≠ (v831 : Value).ownBlock) v805 t804) ∧ Aside0 (Kd.R k74 74 w' w.heap.size (fun k_ => some k_ ≠ ((.slice Ao28 t801.length co28) : Value).ownBlock ∧ some k_ ≠ (v824 : Value).ownBlock) v809 t808) ∧ Aside0 (Kd.R k33 33 w' w.heap.size (fun k_ => some k_ ≠ (v805 : Value).ownBlock ∧ some k_ ≠ (v816 : Value).ownBlock ∧ some k_ ≠ (v820 : Value).ownBlock ∧ some k_ ≠ (v827 : Value).ownBlock ∧ some k_ ≠ (v831 : Value).ownBlock) v812 t811) ∧ Aside0 (Kd.R k33 33 w' w.heap.size (fun k_ => some k_ ≠ (v805 : Value).ownBlock ∧ some k_ ≠ (v812 : Value).ownBlock ∧ some k_ ≠ (v820 : Value).ownBlock ∧ some k_ ≠ (v827 : Value).ownBlock ∧ some k_ ≠ (v831 : Value).ownBlock) v816 t815) ∧ Aside0 (Kd.R k33 33 w' w.heap.size (fun k_ => some k_ ≠ (v805 : Value).ownBlock ∧ some k_ ≠ (v812 : Value).ownBlock ∧ some k_ ≠ (v816 : Value).ownBlock ∧ some k_ ≠ (v827 : Value).ownBlock ∧ some k_ ≠ (v831 : Value).ownBlock) v820 t819) ∧ Aside0 (Kd.R k74 74 w' w.heap.size (fun k_ => some k_ ≠ ((.slice Ao28 t801.length co28) : Value).ownBlock ∧ some k_ ≠ (v809 : Value).ownBlock) v824 t823) ∧ Aside0 (Kd.R k33 33 w' w.heap.size (fun k_ => some k_ ≠ (v805 : Value).ownBlock ∧ some k_ ≠ (v812 : Value).ownBlock ∧ some k_ ≠ (v816 : Value).ownBlock ∧ some k_ ≠ (v820 : Value).ownBlock ∧ some k_ ≠ (v831 : Value).ownBlock) v827 t826) ∧ Aside0 (Kd.R k33 33 w' w.heap.size (fun k_ => some k_ ≠ (v805 : Value).ownBlock ∧ some k_ ≠ (v812 : Value).ownBlock ∧ some k_ ≠ (v816 : Value).ownBlock ∧ some k_ ≠ (v820 : Value).ownBlock ∧ some k_ ≠ (v827 : Value).ownBlock) v831 t830) ∧ Aside0 (w'.heap[gb786]? = some (.cells #[.int .i64 t788, .int .i64 t789, .int .i64 t790, .int .i64 t791, .int .i64 t792, .int .i64 t793, .int .i64 t794, .int .i64 t795, .int .i64 t796, .int .i64 t797, .int .i64 t798, .int .i64 t799, .int .i64 t800] 61 (0, 0))) ∧ Aside0 (Below w.heap.size w w'))
  case atStart => exact ⟨(t801), (0), (by first | rfl | (simp; done) | (simp [*]; done)), H', ⟨Nat.le_refl _⟩, ⟨by (with_reducible repeat (first | apply Kd.R_alloc | apply Kd.R_drewN | apply Kd.R_drew)); exact Kd.R_mono HO803.out (fun _ hk => ⟨hk.1.2, hk.2⟩)⟩, ⟨by (with_reducible repeat (first | apply Kd.R_alloc | apply Kd.R_drewN | apply Kd.R_drew)); exact Kd.R_mono HO806.out (fun _ hk => ⟨hk.1.1.1.1.2, ⟨hk.1.1.1.2, ⟨hk.1.1.2, ⟨hk.1.2, hk.2⟩⟩⟩⟩)⟩, ⟨by (with_reducible repeat (first | apply Kd.R_alloc | apply Kd.R_drewN | apply Kd.R_drew)); exact Kd.R_mono HO810.out (fun _ hk => ⟨hk.1.2, hk.2⟩)⟩, ⟨by (with_reducible repeat (first | apply Kd.R_alloc | apply Kd.R_drewN | apply Kd.R_drew)); exact Kd.R_mono HO813.out (fun _ hk => ⟨hk.1.1.1.1.2, ⟨hk.1.1.1.2, ⟨hk.1.1.2, ⟨hk.1.2, hk.2⟩⟩⟩⟩)⟩, ⟨by (with_reducible repeat (first | apply Kd.R_alloc | apply Kd.R_drewN | apply Kd.R_drew)); exact Kd.R_mono HO817.out (fun _ hk => ⟨hk.1.1.1.1.2, ⟨hk.1.1.1.2, ⟨hk.1.1.2, ⟨hk.1.2, hk.2⟩⟩⟩⟩)⟩, ⟨by (with_reducible repeat (first | apply Kd.R_alloc | apply Kd.R_drewN | apply Kd.R_drew)); exact Kd.R_mono HO821.out (fun _ hk => ⟨hk.1.1.1.1.2, ⟨hk.1.1.1.2, ⟨hk.1.1.2, ⟨hk.1.2, hk.2⟩⟩⟩⟩)⟩, ⟨by (with_reducible repeat (first | apply Kd.R_alloc | apply Kd.R_drewN | apply Kd.R_drew)); exact Kd.R_mono HO825.out (fun _ hk => ⟨hk.1.2, hk.2⟩)⟩, ⟨by (with_reducible repeat (first | apply Kd.R_alloc | apply Kd.R_drewN | apply Kd.R_drew)); exact Kd.R_mono HO828.out (fun _ hk => ⟨hk.1.1.1.1.2, ⟨hk.1.1.1.2, ⟨hk.1.1.2, ⟨hk.1.2, hk.2⟩⟩⟩⟩)⟩, ⟨by (with_reducible repeat (first | apply Kd.R_alloc | apply Kd.R_drewN | apply Kd.R_drew)); exact Kd.R_mono HO832.out (fun _ hk => ⟨hk.1.1.1.1.2, ⟨hk.1.1.1.2, ⟨hk.1.1.2, ⟨hk.1.2, hk.2⟩⟩⟩⟩)⟩, ⟨bkn BK786⟩, ⟨bw⟩⟩
  case round =>
   clear H'
   try clear c4
   try clear hcz14_0 hcz14_1
   try clear hcz14_10 hcz14_11 hcz14_12
   try clear hcz14_2 hcz14_3 hcz14_4 hcz14_5 hcz14_6 hcz14_7 hcz14_8 hcz14_9
   try clear hcz16_0 hcz16_1
   try clear hcz16_10 hcz16_11 hcz16_12
   try clear hcz16_2 hcz16_3 hcz16_4 hcz16_5 hcz16_6 hcz16_7 hcz16_8 hcz16_9
   try clear hcz18_0 hcz18_1
   try clear hcz18_10 hcz18_11 hcz18_12
   try clear hcz18_2 hcz18_3 hcz18_4 hcz18_5 hcz18_6 hcz18_7 hcz18_8 hcz18_9
   try clear hcz20_0 hcz20_1
   try clear hcz20_10 hcz20_11 hcz20_12
   try clear hcz20_2 hcz20_3 hcz20_4 hcz20_5 hcz20_6 hcz20_7 hcz20_8 hcz20_9
   try clear hcz22_0 hcz22_1
   try clear hcz22_10 hcz22_11 hcz22_12
   try clear hcz22_2 hcz22_3 hcz22_4 hcz22_5 hcz22_6 hcz22_7 hcz22_8 hcz22_9
   try clear hcz24_0 hcz24_1
   try clear hcz24_10 hcz24_11 hcz24_12
   try clear hcz24_2 hcz24_3 hcz24_4 hcz24_5 hcz24_6 hcz24_7 hcz24_8 hcz24_9
   try clear hcz26_0 hcz26_1
   try clear hcz26_10 hcz26_11 hcz26_12
   try clear hcz26_2 hcz26_3 hcz26_4 hcz26_5 hcz26_6 hcz26_7 hcz26_8 hcz26_9
   try clear hfz14_0 hfz14_1
   try clear hfz14_10 hfz14_11 hfz14_12
   try clear hfz14_2 hfz14_3 hfz14_4 hfz14_5 hfz14_6 hfz14_7 hfz14_8 hfz14_9
   try clear hfz16_0 hfz16_1
   try clear hfz16_10 hfz16_11 hfz16_12
   try clear hfz16_2 hfz16_3 hfz16_4 hfz16_5 hfz16_6 hfz16_7 hfz16_8 hfz16_9
   try clear hfz18_0 hfz18_1
   try clear hfz18_10 hfz18_11 hfz18_12
   try clear hfz18_2 hfz18_3 hfz18_4 hfz18_5 hfz18_6 hfz18_7 hfz18_8 hfz18_9
   try clear hfz20_0 hfz20_1
   try clear hfz20_10 hfz20_11 hfz20_12
   try clear hfz20_2 hfz20_3 hfz20_4 hfz20_5 hfz20_6 hfz20_7 hfz20_8 hfz20_9
   try clear hfz22_0 hfz22_1
   try clear hfz22_10 hfz22_11 hfz22_12
   try clear hfz22_2 hfz22_3 hfz22_4 hfz22_5 hfz22_6 hfz22_7 hfz22_8 hfz22_9
   try clear hfz24_0 hfz24_1
   try clear hfz24_10 hfz24_11 hfz24_12
   try clear hfz24_2 hfz24_3 hfz24_4 hfz24_5 hfz24_6 hfz24_7 hfz24_8 hfz24_9
   try clear hfz26_0 hfz26_1
   try clear hfz26_10 hfz26_11 hfz26_12
   try clear hfz26_2 hfz26_3 hfz26_4 hfz26_5 hfz26_6 hfz26_7 hfz26_8 hfz26_9
   obtain ⟨x5_1, x107_1, rfl, HA, HK1, HO_5, HO_6, HO_8, HO_9, HO_11, HO_13, HO_15, HO_16, HO_18, BK786, HB⟩ := hrel
   have hl5_1 := (Kd.R_reads' HO_5.out).1
   rw [hl5_1] at HO_5
   (try simp only [hl5_1])
   (try simp only [hl5_1] at BK786)
   (try simp only [hl5_1] at HO_6)
   (try simp only [hl5_1] at HO_8)
   (try simp only [hl5_1] at HO_9)
   (try simp only [hl5_1] at HO_11)
   (try simp only [hl5_1] at HO_13)
   (try simp only [hl5_1] at HO_15)
   (try simp only [hl5_1] at HO_16)
   (try simp only [hl5_1] at HO_18)
   cases gk with
   | zero => exact absurd HA.out (by simp [pylonlaw13_PeriodKeeps.l0])
   | succ k1 =>
    have H := HA.out
    clear HA
    simp only [pylonlaw13_PeriodKeeps.l0] at H
    by_cases c29 : x107_1 < (t801.length : Int)
    ·rw [if_pos c29] at H
     have c29b0 : decide (x107_1 < (t801.length : Int)) = true := decide_eq_true c29
     (try have c29bx : decide (x107_1 < (x5_1.length : Int)) = true := by rw [← hl5_1]; exact c29b0)
     clear c29
     by_cases c30 : 0 ≤ x107_1
     ·rw [if_pos c30] at H
      have c30b0 : decide (0 ≤ x107_1) = true := decide_eq_true c30
      clear c30
      by_cases c31 : x107_1 < (x5_1.length : Int)
      ·rw [if_pos c31] at H
       have c31b0 : decide (x107_1 < (x5_1.length : Int)) = true := decide_eq_true c31
       clear c31
       obtain ⟨y834, hy834⟩ : ∃ y_ : List (S74), y_ = (x5_1.set (x107_1 : Int).toNat (⟨(-7), (rd_T74 x5_1 x107_1).f1⟩ : S74)) := ⟨_, rfl⟩
       replace H : (pylonlaw13_PeriodKeeps.l0 k1 y834 t804 t808 t811 t815 t819 t823 t826 t830 (t801.length : Int) (wrap64 (x107_1 + 1))) = some r := by first | (rw [hy834]; with_reducible exact H) | (have H2_ := (Option.bind_some _ _).symm.trans H; rw [hy834]; with_reducible exact H2_) | (have H2_ := (Option.bind_some _ _).symm.trans H; with_reducible exact H2_) | with_reducible exact H | (rw [hy834]; exact H) | exact H
       have Ny834 := AX hy834
       clear hy834
       have H' := AX H
       clear H
       have p32 : 0 ≤ (x107_1 : Int) := of_decide_eq_true (by first | (with_reducible assumption) | assumption)
       have q32 : (x107_1 : Int) < ((x5_1.length : Int) : Int) := of_decide_eq_true (by first | (with_reducible assumption) | assumption)
       obtain ⟨go32, co32, eo32, gb32, gl32, cl32, HG32⟩ := Kd.R_form HO_5.out (by omega)
       (first | cases eo32 | (injection eo32 with ea_ en_ ec_; (first | subst ea_ | (injection ea_ with ea_; subst ea_)); subst ec_; clear en_))
       have GB32 := AX gb32
       have GG32 := AX HG32
       clear gb32 gl32 HG32
       obtain ⟨ce32, hcl32, hM32, hcc32, hfr32⟩ := Kd.R_elem HO_5.out z74 (x107_1 : Int) p32 q32
       obtain rfl := k74_openM hM32
       have hx32_0 : wr.cell? ⟨go32, (x107_1 : Int).toNat * 2, none⟩ = some (.int .i64 ((rd_T74 x5_1 x107_1).f0)) := hcc32 0 _ rfl
       have hx32_1 : wr.cell? ⟨go32, (x107_1 : Int).toNat * 2 + 1, none⟩ = some (.int .i64 ((rd_T74 x5_1 x107_1).f1)) := hcc32 1 _ rfl
       have hf32_0 : wr.frozen? ⟨go32, (x107_1 : Int).toNat * 2, none⟩ = false := hfr32 0
       have hf32_1 : wr.frozen? ⟨go32, (x107_1 : Int).toNat * 2 + 1, none⟩ = false := hfr32 1
       clear hcl32 hcc32 hfr32 hM32
       replace p32 := eq_true p32
       replace q32 := eq_true q32
       have HX33 := AX (show Kd.R k74 74 wr w.heap.size (fun k_ => some k_ ≠ (v809 : Value).ownBlock ∧ some k_ ≠ (v824 : Value).ownBlock) (.slice (some ⟨go32, 0, none⟩) x5_1.length co28) x5_1 from (kr HO_5))
       obtain ⟨ce33, hcl33, hM33, hcc33, hfr33⟩ := Kd.R_elem HX33.out z74 (x107_1 : Int) (of_decide_eq_true (by first | (with_reducible assumption) | assumption)) (by have h_ : (x107_1 : Int) < ((x5_1.length : Int) : Int) := of_decide_eq_true (by first | (with_reducible assumption) | assumption); first | exact h_ | (have e_ := (Kd.R_reads' HO_5.out).1; omega) | simpa using h_)
       obtain rfl := k74_openM hM33
       have HP33 := Kd.R_seg HX33.out (x107_1 : Int) (of_decide_eq_true (by first | (with_reducible assumption) | assumption)) (by have h_ : (x107_1 : Int) < ((x5_1.length : Int) : Int) := of_decide_eq_true (by first | (with_reducible assumption) | assumption); first | exact h_ | (have e_ := (Kd.R_reads' HO_5.out).1; omega) | simpa using h_) (seg := [.int .i64 (-7)]) (j := 0) hcl33 hcc33 (show 1 ≤ 2 from by decide) (x' := (⟨(-7), (rd_T74 x5_1 x107_1).f1⟩ : S74)) (k74_mkM _ _ _ (⟨(-7), (rd_T74 x5_1 x107_1).f1⟩ : S74) ) (fun _ hk => hk)
       have hx33_0 := hcc33 0 _ rfl
       (try simp only [show (k74).sz = 2 from rfl, Nat.mul_one, Nat.add_zero] at hx33_0)
       have hf33_0 := hfr33 0
       (try simp only [show (k74).sz = 2 from rfl, Nat.mul_one, Nat.add_zero] at hf33_0)
       clear hcl33 hcc33 hfr33 hM33
       go_wp2_with (first | ((with_reducible refine gate_store (t := 3) (p := 113) rfl ?_); refine store_event (t := 3) (p := 113) (v := ?vo_w34) (w1 := (wr.setCell ⟨go32, (x107_1 : Int).toNat * 2, none⟩ (.int .i64 (-7)))) ?hg ?ho ?hn ?hr ?_; (case ho => rfl); (case hg => rfl); (case hn => rfl); (case hr => first | (go_simp; done) | (go_simp; rfl)); intro w34 hw; have hg : wr.grownBy w34 (some go32) := (by rw [hw]; exact HP33.2); have hp_ : Kd.R k74 74 w34 w.heap.size (fun k_ => some k_ ≠ (v809 : Value).ownBlock ∧ some k_ ≠ (v824 : Value).ownBlock) (.slice (some ⟨go32, 0, none⟩) x5_1.length co28) y834 := (by rw [hw, Ny834.out]; exact HP33.1); clear HP33; have n0_ := AX (hp_); have n1_ := AX (Kd.R_over' (v := (.slice (some ⟨go32, 0, none⟩) x5_1.length co28)) (kr HO_6) (Kd.R_typed HO_5.out) (by decide) hg); have n2_ := AX (Kd.R_after (v := (.slice (some ⟨go32, 0, none⟩) x5_1.length co28)) (v1 := (.slice (some ⟨go32, 0, none⟩) x5_1.length co28)) (ok := (fun k_ => some k_ ≠ (v824 : Value).ownBlock)) (by (with_reducible repeat (first | apply Kd.R_alloc | apply Kd.R_drewN | apply Kd.R_drew)); exact Kd.R_mono HO_8.out (fun _ hk => ⟨hk.2, hk.1⟩)) hg (.inl rfl)); have n3_ := AX (Kd.R_over' (v := (.slice (some ⟨go32, 0, none⟩) x5_1.length co28)) (kr HO_9) (Kd.R_typed HO_5.out) (by decide) hg); have n4_ := AX (Kd.R_over' (v := (.slice (some ⟨go32, 0, none⟩) x5_1.length co28)) (kr HO_11) (Kd.R_typed HO_5.out) (by decide) hg); have n5_ := AX (Kd.R_over' (v := (.slice (some ⟨go32, 0, none⟩) x5_1.length co28)) (kr HO_13) (Kd.R_typed HO_5.out) (by decide) hg); have n6_ := AX (Kd.R_after (v := (.slice (some ⟨go32, 0, none⟩) x5_1.length co28)) (v1 := (.slice (some ⟨go32, 0, none⟩) x5_1.length co28)) (ok := (fun k_ => some k_ ≠ (v809 : Value).ownBlock)) (by (with_reducible repeat (first | apply Kd.R_alloc | apply Kd.R_drewN | apply Kd.R_drew)); exact Kd.R_mono HO_15.out (fun _ hk => ⟨hk.2, hk.1⟩)) hg (.inl rfl)); have n7_ := AX (Kd.R_over' (v := (.slice (some ⟨go32, 0, none⟩) x5_1.length co28)) (kr HO_16) (Kd.R_typed HO_5.out) (by decide) hg); have n8_ := AX (Kd.R_over' (v := (.slice (some ⟨go32, 0, none⟩) x5_1.length co28)) (kr HO_18) (Kd.R_typed HO_5.out) (by decide) hg); have n9_ := AX (blk_grown (g := gb786) (o := .cells #[.int .i64 t788, .int .i64 t789, .int .i64 t790, .int .i64 t791, .int .i64 t792, .int .i64 t793, .int .i64 t794, .int .i64 t795, .int .i64 t796, .int .i64 t797, .int .i64 t798, .int .i64 t799, .int .i64 t800] 61 (0, 0)) (bkn BK786) hg (by first | exact Kd.R_ne HO_5.out BK786.out (by decide) | exact fun e_ => (And.left HO_5.out _ e_.symm).2 rfl | exact fun e_ => (And.left HO_5.out _ e_.symm).1.2 rfl | exact fun e_ => (And.left HO_5.out _ e_.symm).2.1 rfl | exact fun e_ => (And.left HO_5.out _ e_.symm).2.2 rfl)); have n10_ := AX ((by rw [hw]; exact below_set (HB.out) GB32.out : Below w.heap.size w w34)); clear HO_5; clear HO_6; clear HO_8; clear HO_9; clear HO_11; clear HO_13; clear HO_15; clear HO_16; clear HO_18; clear BK786; clear HB; have HO_5 := n0_; have HO_6 := n1_; have HO_8 := n2_; have HO_9 := n3_; have HO_11 := n4_; have HO_13 := n5_; have HO_15 := n6_; have HO_16 := n7_; have HO_18 := n8_; have BK786 := n9_; have HB := n10_; clear n0_ n1_ n2_ n3_ n4_ n5_ n6_ n7_ n8_ n9_ n10_; clear hg hw hp_))
       (try simp only [← hl5_1])
       go_roundg k1
       case measure => have := HK1.out; omega
       case rel => exact ⟨(y834), (wrap64 (x107_1 + 1)), (by first | rfl | (simp; done) | (simp [*]; done)), H', ⟨by have := HK1.out; omega⟩, ⟨by (try simp only [hl5_1]); (with_reducible repeat (first | apply Kd.R_alloc | apply Kd.R_drewN | apply Kd.R_drew)); exact HO_5.out⟩, ⟨by (try simp only [hl5_1]); (with_reducible repeat (first | apply Kd.R_alloc | apply Kd.R_drewN | apply Kd.R_drew)); exact HO_6.out⟩, ⟨by (try simp only [hl5_1]); (with_reducible repeat (first | apply Kd.R_alloc | apply Kd.R_drewN | apply Kd.R_drew)); exact Kd.R_mono HO_8.out (fun _ hk => ⟨hk.2, hk.1⟩)⟩, ⟨by (try simp only [hl5_1]); (with_reducible repeat (first | apply Kd.R_alloc | apply Kd.R_drewN | apply Kd.R_drew)); exact HO_9.out⟩, ⟨by (try simp only [hl5_1]); (with_reducible repeat (first | apply Kd.R_alloc | apply Kd.R_drewN | apply Kd.R_drew)); exact HO_11.out⟩, ⟨by (try simp only [hl5_1]); (with_reducible repeat (first | apply Kd.R_alloc | apply Kd.R_drewN | apply Kd.R_drew)); exact HO_13.out⟩, ⟨by (try simp only [hl5_1]); (with_reducible repeat (first | apply Kd.R_alloc | apply Kd.R_drewN | apply Kd.R_drew)); exact Kd.R_mono HO_15.out (fun _ hk => ⟨hk.2, hk.1⟩)⟩, ⟨by (try simp only [hl5_1]); (with_reducible repeat (first | apply Kd.R_alloc | apply Kd.R_drewN | apply Kd.R_drew)); exact HO_16.out⟩, ⟨by (try simp only [hl5_1]); (with_reducible repeat (first | apply Kd.R_alloc | apply Kd.R_drewN | apply Kd.R_drew)); exact HO_18.out⟩, ⟨by (try simp only [hl5_1]); (with_reducible repeat first|refine blk_drewN ?_ _|refine blk_drew ?_|refine blk_alloc ?_ _); exact BK786.out⟩, ⟨bw⟩⟩
      ·rw [if_neg c31] at H
       exact absurd H (by simp)
     ·rw [if_neg c30] at H
      exact absurd H (by simp)
    ·rw [if_neg c29] at H
     have c29b0 : decide (x107_1 < (t801.length : Int)) = false := decide_eq_false c29
     (try have c29bx : decide (x107_1 < (x5_1.length : Int)) = false := by rw [← hl5_1]; exact c29b0)
     clear c29
     have H' := AX H
     clear H
     obtain ⟨Ao35, co35, eo35⟩ := Kd.R_slice HO_6.out
     subst eo35
     go_wp2
     go_loopg [117] k1 (fun kq v117 w' => ∃ (x6_2 : List (S33)) (x117_2 : Int), v117 = .int .i64 x117_2 ∧ Aside0 (pylonlaw13_PeriodKeeps.l1 kq x5_1 x6_2 t808 t811 t815 t819 t823 t826 t830 (t804.length : Int) x117_2 = some r) ∧ Aside0 (kq ≤ k1) ∧ Aside0 (Kd.R k74 74 w' w.heap.size (fun k_ => some k_ ≠ (v809 : Value).ownBlock ∧ some k_ ≠ (v824 : Value).ownBlock) (.slice Ao28 x5_1.length co28) x5_1) ∧ Aside0 (Kd.R k33 33 w' w.heap.size (fun k_ => some k_ ≠ (v812 : Value).ownBlock ∧ some k_ ≠ (v816 : Value).ownBlock ∧ some k_ ≠ (v820 : Value).ownBlock ∧ some k_ ≠ (v827 : Value).ownBlock ∧ some k_ ≠ (v831 : Value).ownBlock) (.slice Ao35 t804.length co35) x6_2) ∧ Aside0 (Kd.R k74 74 w' w.heap.size (fun k_ => some k_ ≠ ((.slice Ao28 x5_1.length co28) : Value).ownBlock ∧ some k_ ≠ (v824 : Value).ownBlock) v809 t808) ∧ Aside0 (Kd.R k33 33 w' w.heap.size (fun k_ => some k_ ≠ ((.slice Ao35 t804.length co35) : Value).ownBlock ∧ some k_ ≠ (v816 : Value).ownBlock ∧ some k_ ≠ (v820 : Value).ownBlock ∧ some k_ ≠ (v827 : Value).ownBlock ∧ some k_ ≠ (v831 : Value).ownBlock) v812 t811) ∧ Aside0 (Kd.R k33 33 w' w.heap.size (fun k_ => some k_ ≠ ((.slice Ao35 t804.length co35) : Value).ownBlock ∧ some k_ ≠ (v812 : Value).ownBlock ∧ some k_ ≠ (v820 : Value).ownBlock ∧ some k_ ≠ (v827 : Value).ownBlock ∧ some k_ ≠ (v831 : Value).ownBlock) v816 t815) ∧ Aside0 (Kd.R k33 33 w' w.heap.size (fun k_ => some k_ ≠ ((.slice Ao35 t804.length co35) : Value).ownBlock ∧ some k_ ≠ (v812 : Value).ownBlock ∧ some k_ ≠ (v816 : Value).ownBlock ∧ some k_ ≠ (v827 : Value).ownBlock ∧ some k_ ≠ (v831 : Value).ownBlock) v820 t819) ∧ Aside0 (Kd.R k74 74 w' w.heap.size (fun k_ => some k_ ≠ ((.slice Ao28 x5_1.length co28) : Value).ownBlock ∧ some k_ ≠ (v809 : Value).ownBlock) v824 t823) ∧ Aside0 (Kd.R k33 33 w' w.heap.size (fun k_ => some k_ ≠ ((.slice Ao35 t804.length co35) : Value).ownBlock ∧ some k_ ≠ (v812 : Value).ownBlock ∧ some k_ ≠ (v816 : Value).ownBlock ∧ some k_ ≠ (v820 : Value).ownBlock ∧ some k_ ≠ (v831 : Value).ownBlock) v827 t826) ∧ Aside0 (Kd.R k33 33 w' w.heap.size (fun k_ => some k_ ≠ ((.slice Ao35 t804.length co35) : Value).ownBlock ∧ some k_ ≠ (v812 : Value).ownBlock ∧ some k_ ≠ (v816 : Value).ownBlock ∧ some k_ ≠ (v820 : Value).ownBlock ∧ some k_ ≠ (v827 : Value).ownBlock) v831 t830) ∧ Aside0 (w'.heap[gb786]? = some (.cells #[.int .i64 t788, .int .i64 t789, .int .i64 t790, .int .i64 t791, .int .i64 t792, .int .i64 t793, .int .i64 t794, .int .i64 t795, .int .i64 t796, .int .i64 t797, .int .i64 t798, .int .i64 t799, .int .i64 t800] 61 (0, 0))) ∧ Aside0 (Below w.heap.size w w'))
     case atStart => exact ⟨(t804), (0), (by first | rfl | (simp; done) | (simp [*]; done)), H', ⟨Nat.le_refl _⟩, ⟨by (try simp only [hl5_1]); (with_reducible repeat (first | apply Kd.R_alloc | apply Kd.R_drewN | apply Kd.R_drew)); exact HO_5.out⟩, ⟨by (try simp only [hl5_1]); (with_reducible repeat (first | apply Kd.R_alloc | apply Kd.R_drewN | apply Kd.R_drew)); exact HO_6.out⟩, ⟨by (try simp only [hl5_1]); (with_reducible repeat (first | apply Kd.R_alloc | apply Kd.R_drewN | apply Kd.R_drew)); exact HO_8.out⟩, ⟨by (try simp only [hl5_1]); (with_reducible repeat (first | apply Kd.R_alloc | apply Kd.R_drewN | apply Kd.R_drew)); exact HO_9.out⟩, ⟨by (try simp only [hl5_1]); (with_reducible repeat (first | apply Kd.R_alloc | apply Kd.R_drewN | apply Kd.R_drew)); exact HO_11.out⟩, ⟨by (try simp only [hl5_1]); (with_reducible repeat (first | apply Kd.R_alloc | apply Kd.R_drewN | apply Kd.R_drew)); exact HO_13.out⟩, ⟨by (try simp only [hl5_1]); (with_reducible repeat (first | apply Kd.R_alloc | apply Kd.R_drewN | apply Kd.R_drew)); exact HO_15.out⟩, ⟨by (try simp only [hl5_1]); (with_reducible repeat (first | apply Kd.R_alloc | apply Kd.R_drewN | apply Kd.R_drew)); exact HO_16.out⟩, ⟨by (try simp only [hl5_1]); (with_reducible repeat (first | apply Kd.R_alloc | apply Kd.R_drewN | apply Kd.R_drew)); exact HO_18.out⟩, ⟨by (try simp only [hl5_1]); (with_reducible repeat first|refine blk_drewN ?_ _|refine blk_drew ?_|refine blk_alloc ?_ _); exact BK786.out⟩, ⟨bw⟩⟩
     case round =>
      clear H'
      try clear c4
      try clear c29
      try clear c29b0
      try clear hcz14_0 hcz14_1
      try clear hcz14_10 hcz14_11 hcz14_12
      try clear hcz14_2 hcz14_3 hcz14_4 hcz14_5 hcz14_6 hcz14_7 hcz14_8 hcz14_9
      try clear hcz16_0 hcz16_1
      try clear hcz16_10 hcz16_11 hcz16_12
      try clear hcz16_2 hcz16_3 hcz16_4 hcz16_5 hcz16_6 hcz16_7 hcz16_8 hcz16_9
      try clear hcz18_0 hcz18_1
      try clear hcz18_10 hcz18_11 hcz18_12
      try clear hcz18_2 hcz18_3 hcz18_4 hcz18_5 hcz18_6 hcz18_7 hcz18_8 hcz18_9
      try clear hcz20_0 hcz20_1
      try clear hcz20_10 hcz20_11 hcz20_12
      try clear hcz20_2 hcz20_3 hcz20_4 hcz20_5 hcz20_6 hcz20_7 hcz20_8 hcz20_9
      try clear hcz22_0 hcz22_1
      try clear hcz22_10 hcz22_11 hcz22_12
      try clear hcz22_2 hcz22_3 hcz22_4 hcz22_5 hcz22_6 hcz22_7 hcz22_8 hcz22_9
      try clear hcz24_0 hcz24_1
      try clear hcz24_10 hcz24_11 hcz24_12
      try clear hcz24_2 hcz24_3 hcz24_4 hcz24_5 hcz24_6 hcz24_7 hcz24_8 hcz24_9
      try clear hcz26_0 hcz26_1
      try clear hcz26_10 hcz26_11 hcz26_12
      try clear hcz26_2 hcz26_3 hcz26_4 hcz26_5 hcz26_6 hcz26_7 hcz26_8 hcz26_9
      try clear hfz14_0 hfz14_1
      try clear hfz14_10 hfz14_11 hfz14_12
      try clear hfz14_2 hfz14_3 hfz14_4 hfz14_5 hfz14_6 hfz14_7 hfz14_8 hfz14_9
      try clear hfz16_0 hfz16_1
      try clear hfz16_10 hfz16_11 hfz16_12
      try clear hfz16_2 hfz16_3 hfz16_4 hfz16_5 hfz16_6 hfz16_7 hfz16_8 hfz16_9
      try clear hfz18_0 hfz18_1
      try clear hfz18_10 hfz18_11 hfz18_12
      try clear hfz18_2 hfz18_3 hfz18_4 hfz18_5 hfz18_6 hfz18_7 hfz18_8 hfz18_9
      try clear hfz20_0 hfz20_1
      try clear hfz20_10 hfz20_11 hfz20_12
      try clear hfz20_2 hfz20_3 hfz20_4 hfz20_5 hfz20_6 hfz20_7 hfz20_8 hfz20_9
      try clear hfz22_0 hfz22_1
      try clear hfz22_10 hfz22_11 hfz22_12
      try clear hfz22_2 hfz22_3 hfz22_4 hfz22_5 hfz22_6 hfz22_7 hfz22_8 hfz22_9
      try clear hfz24_0 hfz24_1
      try clear hfz24_10 hfz24_11 hfz24_12
      try clear hfz24_2 hfz24_3 hfz24_4 hfz24_5 hfz24_6 hfz24_7 hfz24_8 hfz24_9
      try clear hfz26_0 hfz26_1
      try clear hfz26_10 hfz26_11 hfz26_12
      try clear hfz26_2 hfz26_3 hfz26_4 hfz26_5 hfz26_6 hfz26_7 hfz26_8 hfz26_9
      obtain ⟨x6_2, x117_2, rfl, HA, HK2, HO_5, HO_6, HO_8, HO_9, HO_11, HO_13, HO_15, HO_16, HO_18, BK786, HB⟩ := hrel
      have hl6_2 := (Kd.R_reads' HO_6.out).1
      rw [hl6_2] at HO_6
      (try simp only [hl6_2])
      (try simp only [hl6_2] at BK786)
      (try simp only [hl6_2] at HO_5)
      (try simp only [hl6_2] at HO_8)
      (try simp only [hl6_2] at HO_9)
      (try simp only [hl6_2] at HO_11)
      (try simp only [hl6_2] at HO_13)
      (try simp only [hl6_2] at HO_15)
      (try simp only [hl6_2] at HO_16)
      (try simp only [hl6_2] at HO_18)
      cases gk with
      | zero => exact absurd HA.out (by simp [pylonlaw13_PeriodKeeps.l1])
      | succ k2 =>
       have H := HA.out
       clear HA
       simp only [pylonlaw13_PeriodKeeps.l1] at H
       by_cases c36 : x117_2 < (t804.length : Int)
       ·rw [if_pos c36] at H
        have c36b0 : decide (x117_2 < (t804.length : Int)) = true := decide_eq_true c36
        (try have c36bx : decide (x117_2 < (x6_2.length : Int)) = true := by rw [← hl6_2]; exact c36b0)
        clear c36
        by_cases c37 : 0 ≤ x117_2
        ·rw [if_pos c37] at H
         have c37b0 : decide (0 ≤ x117_2) = true := decide_eq_true c37
         clear c37
         by_cases c38 : x117_2 < (x6_2.length : Int)
         ·rw [if_pos c38] at H
          have c38b0 : decide (x117_2 < (x6_2.length : Int)) = true := decide_eq_true c38
          clear c38
          obtain ⟨y835, hy835⟩ : ∃ y_ : List (S33), y_ = (x6_2.set (x117_2 : Int).toNat (⟨(-7), (rd_T33 x6_2 x117_2).f1, (rd_T33 x6_2 x117_2).f2⟩ : S33)) := ⟨_, rfl⟩
          replace H : (pylonlaw13_PeriodKeeps.l1 k2 x5_1 y835 t808 t811 t815 t819 t823 t826 t830 (t804.length : Int) (wrap64 (x117_2 + 1))) = some r := by first | (rw [hy835]; with_reducible exact H) | (have H2_ := (Option.bind_some _ _).symm.trans H; rw [hy835]; with_reducible exact H2_) | (have H2_ := (Option.bind_some _ _).symm.trans H; with_reducible exact H2_) | with_reducible exact H | (rw [hy835]; exact H) | exact H
          have Ny835 := AX hy835
          clear hy835
          have H' := AX H
          clear H
          have p39 : 0 ≤ (x117_2 : Int) := of_decide_eq_true (by first | (with_reducible assumption) | assumption)
          have q39 : (x117_2 : Int) < ((x6_2.length : Int) : Int) := of_decide_eq_true (by first | (with_reducible assumption) | assumption)
          obtain ⟨go39, co39, eo39, gb39, gl39, cl39, HG39⟩ := Kd.R_form HO_6.out (by omega)
          (first | cases eo39 | (injection eo39 with ea_ en_ ec_; (first | subst ea_ | (injection ea_ with ea_; subst ea_)); subst ec_; clear en_))
          have GB39 := AX gb39
          have GG39 := AX HG39
          clear gb39 gl39 HG39
          obtain ⟨ce39, hcl39, hM39, hcc39, hfr39⟩ := Kd.R_elem HO_6.out z33 (x117_2 : Int) p39 q39
          obtain rfl := k33_openM hM39
          have hx39_0 : wr.cell? ⟨go39, (x117_2 : Int).toNat * 3, none⟩ = some (.int .i64 ((rd_T33 x6_2 x117_2).f0)) := hcc39 0 _ rfl
          have hx39_1 : wr.cell? ⟨go39, (x117_2 : Int).toNat * 3 + 1, none⟩ = some (.int .i64 ((rd_T33 x6_2 x117_2).f1)) := hcc39 1 _ rfl
          have hx39_2 : wr.cell? ⟨go39, (x117_2 : Int).toNat * 3 + 2, none⟩ = some (.int .i64 ((rd_T33 x6_2 x117_2).f2)) := hcc39 2 _ rfl
          have hf39_0 : wr.frozen? ⟨go39, (x117_2 : Int).toNat * 3, none⟩ = false := hfr39 0
          have hf39_1 : wr.frozen? ⟨go39, (x117_2 : Int).toNat * 3 + 1, none⟩ = false := hfr39 1
          have hf39_2 : wr.frozen? ⟨go39, (x117_2 : Int).toNat * 3 + 2, none⟩ = false := hfr39 2
          clear hcl39 hcc39 hfr39 hM39
          replace p39 := eq_true p39
          replace q39 := eq_true q39
          have HX40 := AX (show Kd.R k33 33 wr w.heap.size (fun k_ => some k_ ≠ (v812 : Value).ownBlock ∧ some k_ ≠ (v816 : Value).ownBlock ∧ some k_ ≠ (v820 : Value).ownBlock ∧ some k_ ≠ (v827 : Value).ownBlock ∧ some k_ ≠ (v831 : Value).ownBlock) (.slice (some ⟨go39, 0, none⟩) x6_2.length co35) x6_2 from (kr HO_6))
          obtain ⟨ce40, hcl40, hM40, hcc40, hfr40⟩ := Kd.R_elem HX40.out z33 (x117_2 : Int) (of_decide_eq_true (by first | (with_reducible assumption) | assumption)) (by have h_ : (x117_2 : Int) < ((x6_2.length : Int) : Int) := of_decide_eq_true (by first | (with_reducible assumption) | assumption); first | exact h_ | (have e_ := (Kd.R_reads' HO_6.out).1; omega) | simpa using h_)
          obtain rfl := k33_openM hM40
          have HP40 := Kd.R_seg HX40.out (x117_2 : Int) (of_decide_eq_true (by first | (with_reducible assumption) | assumption)) (by have h_ : (x117_2 : Int) < ((x6_2.length : Int) : Int) := of_decide_eq_true (by first | (with_reducible assumption) | assumption); first | exact h_ | (have e_ := (Kd.R_reads' HO_6.out).1; omega) | simpa using h_) (seg := [.int .i64 (-7)]) (j := 0) hcl40 hcc40 (show 1 ≤ 3 from by decide) (x' := (⟨(-7), (rd_T33 x6_2 x117_2).f1, (rd_T33 x6_2 x117_2).f2⟩ : S33)) (k33_mkM _ _ _ (⟨(-7), (rd_T33 x6_2 x117_2).f1, (rd_T33 x6_2 x117_2).f2⟩ : S33) ) (fun _ hk => hk)
          have hx40_0 := hcc40 0 _ rfl
          (try simp only [show (k33).sz = 3 from rfl, Nat.mul_one, Nat.add_zero] at hx40_0)
          have hf40_0 := hfr40 0
          (try simp only [show (k33).sz = 3 from rfl, Nat.mul_one, Nat.add_zero] at hf40_0)
          clear hcl40 hcc40 hfr40 hM40
          go_wp2_with (first | ((with_reducible refine gate_store (t := 3) (p := 123) rfl ?_); refine store_event (t := 3) (p := 123) (v := ?vo_w41) (w1 := (wr.setCell ⟨go39, (x117_2 : Int).toNat * 3, none⟩ (.int .i64 (-7)))) ?hg ?ho ?hn ?hr ?_; (case ho => rfl); (case hg => rfl); (case hn => rfl); (case hr => first | (go_simp; done) | (go_simp; rfl)); intro w41 hw; have hg : wr.grownBy w41 (some go39) := (by rw [hw]; exact HP40.2); have hp_ : Kd.R k33 33 w41 w.heap.size (fun k_ => some k_ ≠ (v812 : Value).ownBlock ∧ some k_ ≠ (v816 : Value).ownBlock ∧ some k_ ≠ (v820 : Value).ownBlock ∧ some k_ ≠ (v827 : Value).ownBlock ∧ some k_ ≠ (v831 : Value).ownBlock) (.slice (some ⟨go39, 0, none⟩) x6_2.length co35) y835 := (by rw [hw, Ny835.out]; exact HP40.1); clear HP40; have n0_ := AX (Kd.R_over' (v := (.slice (some ⟨go39, 0, none⟩) x6_2.length co35)) (kr HO_5) (Kd.R_typed HO_6.out) (by decide) hg); have n1_ := AX (hp_); have n2_ := AX (Kd.R_over' (v := (.slice (some ⟨go39, 0, none⟩) x6_2.length co35)) (kr HO_8) (Kd.R_typed HO_6.out) (by decide) hg); have n3_ := AX (Kd.R_after (v := (.slice (some ⟨go39, 0, none⟩) x6_2.length co35)) (v1 := (.slice (some ⟨go39, 0, none⟩) x6_2.length co35)) (ok := (fun k_ => some k_ ≠ (v816 : Value).ownBlock ∧ some k_ ≠ (v820 : Value).ownBlock ∧ some k_ ≠ (v827 : Value).ownBlock ∧ some k_ ≠ (v831 : Value).ownBlock)) (by (with_reducible repeat (first | apply Kd.R_alloc | apply Kd.R_drewN | apply Kd.R_drew)); exact Kd.R_mono HO_9.out (fun _ hk => ⟨⟨hk.2.1, ⟨hk.2.2.1, ⟨hk.2.2.2.1, hk.2.2.2.2⟩⟩⟩, hk.1⟩)) hg (.inl rfl)); have n4_ := AX (Kd.R_after (v := (.slice (some ⟨go39, 0, none⟩) x6_2.length co35)) (v1 := (.slice (some ⟨go39, 0, none⟩) x6_2.length co35)) (ok := (fun k_ => some k_ ≠ (v812 : Value).ownBlock ∧ some k_ ≠ (v820 : Value).ownBlock ∧ some k_ ≠ (v827 : Value).ownBlock ∧ some k_ ≠ (v831 : Value).ownBlock)) (by (with_reducible repeat (first | apply Kd.R_alloc | apply Kd.R_drewN | apply Kd.R_drew)); exact Kd.R_mono HO_11.out (fun _ hk => ⟨⟨hk.2.1, ⟨hk.2.2.1, ⟨hk.2.2.2.1, hk.2.2.2.2⟩⟩⟩, hk.1⟩)) hg (.inl rfl)); have n5_ := AX (Kd.R_after (v := (.slice (some ⟨go39, 0, none⟩) x6_2.length co35)) (v1 := (.slice (some ⟨go39, 0, none⟩) x6_2.length co35)) (ok := (fun k_ => some k_ ≠ (v812 : Value).ownBlock ∧ some k_ ≠ (v816 : Value).ownBlock ∧ some k_ ≠ (v827 : Value).ownBlock ∧ some k_ ≠ (v831 : Value).ownBlock)) (by (with_reducible repeat (first | apply Kd.R_alloc | apply Kd.R_drewN | apply Kd.R_drew)); exact Kd.R_mono HO_13.out (fun _ hk => ⟨⟨hk.2.1, ⟨hk.2.2.1, ⟨hk.2.2.2.1, hk.2.2.2.2⟩⟩⟩, hk.1⟩)) hg (.inl rfl)); have n6_ := AX (Kd.R_over' (v := (.slice (some ⟨go39, 0, none⟩) x6_2.length co35)) (kr HO_15) (Kd.R_typed HO_6.out) (by decide) hg); have n7_ := AX (Kd.R_after (v := (.slice (some ⟨go39, 0, none⟩) x6_2.length co35)) (v1 := (.slice (some ⟨go39, 0, none⟩) x6_2.length co35)) (ok := (fun k_ => some k_ ≠ (v812 : Value).ownBlock ∧ some k_ ≠ (v816 : Value).ownBlock ∧ some k_ ≠ (v820 : Value).ownBlock ∧ some k_ ≠ (v831 : Value).ownBlock)) (by (with_reducible repeat (first | apply Kd.R_alloc | apply Kd.R_drewN | apply Kd.R_drew)); exact Kd.R_mono HO_16.out (fun _ hk => ⟨⟨hk.2.1, ⟨hk.2.2.1, ⟨hk.2.2.2.1, hk.2.2.2.2⟩⟩⟩, hk.1⟩)) hg (.inl rfl)); have n8_ := AX (Kd.R_after (v := (.slice (some ⟨go39, 0, none⟩) x6_2.length co35)) (v1 := (.slice (some ⟨go39, 0, none⟩) x6_2.length co35)) (ok := (fun k_ => some k_ ≠ (v812 : Value).ownBlock ∧ some k_ ≠ (v816 : Value).ownBlock ∧ some k_ ≠ (v820 : Value).ownBlock ∧ some k_ ≠ (v827 : Value).ownBlock)) (by (with_reducible repeat (first | apply Kd.R_alloc | apply Kd.R_drewN | apply Kd.R_drew)); exact Kd.R_mono HO_18.out (fun _ hk => ⟨⟨hk.2.1, ⟨hk.2.2.1, ⟨hk.2.2.2.1, hk.2.2.2.2⟩⟩⟩, hk.1⟩)) hg (.inl rfl)); have n9_ := AX (blk_grown (g := gb786) (o := .cells #[.int .i64 t788, .int .i64 t789, .int .i64 t790, .int .i64 t791, .int .i64 t792, .int .i64 t793, .int .i64 t794, .int .i64 t795, .int .i64 t796, .int .i64 t797, .int .i64 t798, .int .i64 t799, .int .i64 t800] 61 (0, 0)) (bkn BK786) hg (by first | exact Kd.R_ne HO_6.out BK786.out (by decide) | exact fun e_ => (And.left HO_6.out _ e_.symm).2 rfl | exact fun e_ => (And.left HO_6.out _ e_.symm).1.2 rfl | exact fun e_ => (And.left HO_6.out _ e_.symm).2.1 rfl | exact fun e_ => (And.left HO_6.out _ e_.symm).2.2 rfl)); have n10_ := AX ((by rw [hw]; exact below_set (HB.out) GB39.out : Below w.heap.size w w41)); clear HO_5; clear HO_6; clear HO_8; clear HO_9; clear HO_11; clear HO_13; clear HO_15; clear HO_16; clear HO_18; clear BK786; clear HB; have HO_5 := n0_; have HO_6 := n1_; have HO_8 := n2_; have HO_9 := n3_; have HO_11 := n4_; have HO_13 := n5_; have HO_15 := n6_; have HO_16 := n7_; have HO_18 := n8_; have BK786 := n9_; have HB := n10_; clear n0_ n1_ n2_ n3_ n4_ n5_ n6_ n7_ n8_ n9_ n10_; clear hg hw hp_))
          (try simp only [← hl6_2])
          go_roundg k2
          case measure => have := HK1.out; have := HK2.out; omega
          case rel => exact ⟨(y835), (wrap64 (x117_2 + 1)), (by first | rfl | (simp; done) | (simp [*]; done)), H', ⟨by have := HK1.out; have := HK2.out; omega⟩, ⟨by (try simp only [hl5_1]); (try simp only [hl6_2]); (with_reducible repeat (first | apply Kd.R_alloc | apply Kd.R_drewN | apply Kd.R_drew)); exact HO_5.out⟩, ⟨by (try simp only [hl5_1]); (try simp only [hl6_2]); (with_reducible repeat (first | apply Kd.R_alloc | apply Kd.R_drewN | apply Kd.R_drew)); exact HO_6.out⟩, ⟨by (try simp only [hl5_1]); (try simp only [hl6_2]); (with_reducible repeat (first | apply Kd.R_alloc | apply Kd.R_drewN | apply Kd.R_drew)); exact HO_8.out⟩, ⟨by (try simp only [hl5_1]); (try simp only [hl6_2]); (with_reducible repeat (first | apply Kd.R_alloc | apply Kd.R_drewN | apply Kd.R_drew)); exact Kd.R_mono HO_9.out (fun _ hk => ⟨hk.2, ⟨hk.1.1, ⟨hk.1.2.1, ⟨hk.1.2.2.1, hk.1.2.2.2⟩⟩⟩⟩)⟩, ⟨by (try simp only [hl5_1]); (try simp only [hl6_2]); (with_reducible repeat (first | apply Kd.R_alloc | apply Kd.R_drewN | apply Kd.R_drew)); exact Kd.R_mono HO_11.out (fun _ hk => ⟨hk.2, ⟨hk.1.1, ⟨hk.1.2.1, ⟨hk.1.2.2.1, hk.1.2.2.2⟩⟩⟩⟩)⟩, ⟨by (try simp only [hl5_1]); (try simp only [hl6_2]); (with_reducible repeat (first | apply Kd.R_alloc | apply Kd.R_drewN | apply Kd.R_drew)); exact Kd.R_mono HO_13.out (fun _ hk => ⟨hk.2, ⟨hk.1.1, ⟨hk.1.2.1, ⟨hk.1.2.2.1, hk.1.2.2.2⟩⟩⟩⟩)⟩, ⟨by (try simp only [hl5_1]); (try simp only [hl6_2]); (with_reducible repeat (first | apply Kd.R_alloc | apply Kd.R_drewN | apply Kd.R_drew)); exact HO_15.out⟩, ⟨by (try simp only [hl5_1]); (try simp only [hl6_2]); (with_reducible repeat (first | apply Kd.R_alloc | apply Kd.R_drewN | apply Kd.R_drew)); exact Kd.R_mono HO_16.out (fun _ hk => ⟨hk.2, ⟨hk.1.1, ⟨hk.1.2.1, ⟨hk.1.2.2.1, hk.1.2.2.2⟩⟩⟩⟩)⟩, ⟨by (try simp only [hl5_1]); (try simp only [hl6_2]); (with_reducible repeat (first | apply Kd.R_alloc | apply Kd.R_drewN | apply Kd.R_drew)); exact Kd.R_mono HO_18.out (fun _ hk => ⟨hk.2, ⟨hk.1.1, ⟨hk.1.2.1, ⟨hk.1.2.2.1, hk.1.2.2.2⟩⟩⟩⟩)⟩, ⟨by (try simp only [hl5_1]); (try simp only [hl6_2]); (with_reducible repeat first|refine blk_drewN ?_ _|refine blk_drew ?_|refine blk_alloc ?_ _); exact BK786.out⟩, ⟨bw⟩⟩
         ·rw [if_neg c38] at H
          exact absurd H (by simp)
        ·rw [if_neg c37] at H
         exact absurd H (by simp)
       ·rw [if_neg c36] at H
        have c36b0 : decide (x117_2 < (t804.length : Int)) = false := decide_eq_false c36
        (try have c36bx : decide (x117_2 < (x6_2.length : Int)) = false := by rw [← hl6_2]; exact c36b0)
        clear c36
        have H' := AX H
        clear H
        obtain ⟨Ao42, co42, eo42⟩ := Kd.R_slice HO_11.out
        subst eo42
        go_wp2
        go_loopg [127] k2 (fun kq v127 w' => ∃ (x11_3 : List (S33)) (x127_3 : Int), v127 = .int .i64 x127_3 ∧ Aside0 (pylonlaw13_PeriodKeeps.l2 kq x5_1 x6_2 t808 t811 x11_3 t819 t823 t826 t830 (t815.length : Int) x127_3 = some r) ∧ Aside0 (kq ≤ k2) ∧ Aside0 (Kd.R k74 74 w' w.heap.size (fun k_ => some k_ ≠ (v809 : Value).ownBlock ∧ some k_ ≠ (v824 : Value).ownBlock) (.slice Ao28 x5_1.length co28) x5_1) ∧ Aside0 (Kd.R k33 33 w' w.heap.size (fun k_ => some k_ ≠ (v812 : Value).ownBlock ∧ some k_ ≠ ((.slice Ao42 t815.length co42) : Value).ownBlock ∧ some k_ ≠ (v820 : Value).ownBlock ∧ some k_ ≠ (v827 : Value).ownBlock ∧ some k_ ≠ (v831 : Value).ownBlock) (.slice Ao35 x6_2.length co35) x6_2) ∧ Aside0 (Kd.R k74 74 w' w.heap.size (fun k_ => some k_ ≠ ((.slice Ao28 x5_1.length co28) : Value).ownBlock ∧ some k_ ≠ (v824 : Value).ownBlock) v809 t808) ∧ Aside0 (Kd.R k33 33 w' w.heap.size (fun k_ => some k_ ≠ ((.slice Ao35 x6_2.length co35) : Value).ownBlock ∧ some k_ ≠ ((.slice Ao42 t815.length co42) : Value).ownBlock ∧ some k_ ≠ (v820 : Value).ownBlock ∧ some k_ ≠ (v827 : Value).ownBlock ∧ some k_ ≠ (v831 : Value).ownBlock) v812 t811) ∧ Aside0 (Kd.R k33 33 w' w.heap.size (fun k_ => some k_ ≠ ((.slice Ao35 x6_2.length co35) : Value).ownBlock ∧ some k_ ≠ (v812 : Value).ownBlock ∧ some k_ ≠ (v820 : Value).ownBlock ∧ some k_ ≠ (v827 : Value).ownBlock ∧ some k_ ≠ (v831 : Value).ownBlock) (.slice Ao42 t815.length co42) x11_3) ∧ Aside0 (Kd.R k33 33 w' w.heap.size (fun k_ => some k_ ≠ ((.slice Ao35 x6_2.length co35) : Value).ownBlock ∧ some k_ ≠ (v812 : Value).ownBlock ∧ some k_ ≠ ((.slice Ao42 t815.length co42) : Value).ownBlock ∧ some k_ ≠ (v827 : Value).ownBlock ∧ some k_ ≠ (v831 : Value).ownBlock) v820 t819) ∧ Aside0 (Kd.R k74 74 w' w.heap.size (fun k_ => some k_ ≠ ((.slice Ao28 x5_1.length co28) : Value).ownBlock ∧ some k_ ≠ (v809 : Value).ownBlock) v824 t823) ∧ Aside0 (Kd.R k33 33 w' w.heap.size (fun k_ => some k_ ≠ ((.slice Ao35 x6_2.length co35) : Value).ownBlock ∧ some k_ ≠ (v812 : Value).ownBlock ∧ some k_ ≠ ((.slice Ao42 t815.length co42) : Value).ownBlock ∧ some k_ ≠ (v820 : Value).ownBlock ∧ some k_ ≠ (v831 : Value).ownBlock) v827 t826) ∧ Aside0 (Kd.R k33 33 w' w.heap.size (fun k_ => some k_ ≠ ((.slice Ao35 x6_2.length co35) : Value).ownBlock ∧ some k_ ≠ (v812 : Value).ownBlock ∧ some k_ ≠ ((.slice Ao42 t815.length co42) : Value).ownBlock ∧ some k_ ≠ (v820 : Value).ownBlock ∧ some k_ ≠ (v827 : Value).ownBlock) v831 t830) ∧ Aside0 (w'.heap[gb786]? = some (.cells #[.int .i64 t788, .int .i64 t789, .int .i64 t790, .int .i64 t791, .int .i64 t792, .int .i64 t793, .int .i64 t794, .int .i64 t795, .int .i64 t796, .int .i64 t797, .int .i64 t798, .int .i64 t799, .int .i64 t800] 61 (0, 0))) ∧ Aside0 (Below w.heap.size w w'))
        case atStart => exact ⟨(t815), (0), (by first | rfl | (simp; done) | (simp [*]; done)), H', ⟨Nat.le_refl _⟩, ⟨by (try simp only [hl5_1]); (try simp only [hl6_2]); (with_reducible repeat (first | apply Kd.R_alloc | apply Kd.R_drewN | apply Kd.R_drew)); exact HO_5.out⟩, ⟨by (try simp only [hl5_1]); (try simp only [hl6_2]); (with_reducible repeat (first | apply Kd.R_alloc | apply Kd.R_drewN | apply Kd.R_drew)); exact HO_6.out⟩, ⟨by (try simp only [hl5_1]); (try simp only [hl6_2]); (with_reducible repeat (first | apply Kd.R_alloc | apply Kd.R_drewN | apply Kd.R_drew)); exact HO_8.out⟩, ⟨by (try simp only [hl5_1]); (try simp only [hl6_2]); (with_reducible repeat (first | apply Kd.R_alloc | apply Kd.R_drewN | apply Kd.R_drew)); exact HO_9.out⟩, ⟨by (try simp only [hl5_1]); (try simp only [hl6_2]); (with_reducible repeat (first | apply Kd.R_alloc | apply Kd.R_drewN | apply Kd.R_drew)); exact HO_11.out⟩, ⟨by (try simp only [hl5_1]); (try simp only [hl6_2]); (with_reducible repeat (first | apply Kd.R_alloc | apply Kd.R_drewN | apply Kd.R_drew)); exact HO_13.out⟩, ⟨by (try simp only [hl5_1]); (try simp only [hl6_2]); (with_reducible repeat (first | apply Kd.R_alloc | apply Kd.R_drewN | apply Kd.R_drew)); exact HO_15.out⟩, ⟨by (try simp only [hl5_1]); (try simp only [hl6_2]); (with_reducible repeat (first | apply Kd.R_alloc | apply Kd.R_drewN | apply Kd.R_drew)); exact HO_16.out⟩, ⟨by (try simp only [hl5_1]); (try simp only [hl6_2]); (with_reducible repeat (first | apply Kd.R_alloc | apply Kd.R_drewN | apply Kd.R_drew)); exact HO_18.out⟩, ⟨by (try simp only [hl5_1]); (try simp only [hl6_2]); (with_reducible repeat first|refine blk_drewN ?_ _|refine blk_drew ?_|refine blk_alloc ?_ _); exact BK786.out⟩, ⟨bw⟩⟩
        case round =>
         clear H'
         try clear c4
         try clear c29
         try clear c29b0
         try clear c36
         try clear c36b0
         try clear hcz14_0 hcz14_1
         try clear hcz14_10 hcz14_11 hcz14_12
         try clear hcz14_2 hcz14_3 hcz14_4 hcz14_5 hcz14_6 hcz14_7 hcz14_8 hcz14_9
         try clear hcz16_0 hcz16_1
         try clear hcz16_10 hcz16_11 hcz16_12
         try clear hcz16_2 hcz16_3 hcz16_4 hcz16_5 hcz16_6 hcz16_7 hcz16_8 hcz16_9
         try clear hcz18_0 hcz18_1
         try clear hcz18_10 hcz18_11 hcz18_12
         try clear hcz18_2 hcz18_3 hcz18_4 hcz18_5 hcz18_6 hcz18_7 hcz18_8 hcz18_9
         try clear hcz20_0 hcz20_1
         try clear hcz20_10 hcz20_11 hcz20_12
         try clear hcz20_2 hcz20_3 hcz20_4 hcz20_5 hcz20_6 hcz20_7 hcz20_8 hcz20_9
         try clear hcz22_0 hcz22_1
         try clear hcz22_10 hcz22_11 hcz22_12
         try clear hcz22_2 hcz22_3 hcz22_4 hcz22_5 hcz22_6 hcz22_7 hcz22_8 hcz22_9
         try clear hcz24_0 hcz24_1
         try clear hcz24_10 hcz24_11 hcz24_12
         try clear hcz24_2 hcz24_3 hcz24_4 hcz24_5 hcz24_6 hcz24_7 hcz24_8 hcz24_9
         try clear hcz26_0 hcz26_1
         try clear hcz26_10 hcz26_11 hcz26_12
         try clear hcz26_2 hcz26_3 hcz26_4 hcz26_5 hcz26_6 hcz26_7 hcz26_8 hcz26_9
         try clear hfz14_0 hfz14_1
         try clear hfz14_10 hfz14_11 hfz14_12
         try clear hfz14_2 hfz14_3 hfz14_4 hfz14_5 hfz14_6 hfz14_7 hfz14_8 hfz14_9
         try clear hfz16_0 hfz16_1
         try clear hfz16_10 hfz16_11 hfz16_12
         try clear hfz16_2 hfz16_3 hfz16_4 hfz16_5 hfz16_6 hfz16_7 hfz16_8 hfz16_9
         try clear hfz18_0 hfz18_1
         try clear hfz18_10 hfz18_11 hfz18_12
         try clear hfz18_2 hfz18_3 hfz18_4 hfz18_5 hfz18_6 hfz18_7 hfz18_8 hfz18_9
         try clear hfz20_0 hfz20_1
         try clear hfz20_10 hfz20_11 hfz20_12
         try clear hfz20_2 hfz20_3 hfz20_4 hfz20_5 hfz20_6 hfz20_7 hfz20_8 hfz20_9
         try clear hfz22_0 hfz22_1
         try clear hfz22_10 hfz22_11 hfz22_12
         try clear hfz22_2 hfz22_3 hfz22_4 hfz22_5 hfz22_6 hfz22_7 hfz22_8 hfz22_9
         try clear hfz24_0 hfz24_1
         try clear hfz24_10 hfz24_11 hfz24_12
         try clear hfz24_2 hfz24_3 hfz24_4 hfz24_5 hfz24_6 hfz24_7 hfz24_8 hfz24_9
         try clear hfz26_0 hfz26_1
         try clear hfz26_10 hfz26_11 hfz26_12
         try clear hfz26_2 hfz26_3 hfz26_4 hfz26_5 hfz26_6 hfz26_7 hfz26_8 hfz26_9
         obtain ⟨x11_3, x127_3, rfl, HA, HK3, HO_5, HO_6, HO_8, HO_9, HO_11, HO_13, HO_15, HO_16, HO_18, BK786, HB⟩ := hrel
         have hl11_3 := (Kd.R_reads' HO_11.out).1
         rw [hl11_3] at HO_11
         (try simp only [hl11_3])
         (try simp only [hl11_3] at BK786)
         (try simp only [hl11_3] at HO_5)
         (try simp only [hl11_3] at HO_6)
         (try simp only [hl11_3] at HO_8)
         (try simp only [hl11_3] at HO_9)
         (try simp only [hl11_3] at HO_13)
         (try simp only [hl11_3] at HO_15)
         (try simp only [hl11_3] at HO_16)
         (try simp only [hl11_3] at HO_18)
         cases gk with
         | zero => exact absurd HA.out (by simp [pylonlaw13_PeriodKeeps.l2])
         | succ k3 =>
          have H := HA.out
          clear HA
          simp only [pylonlaw13_PeriodKeeps.l2] at H
          by_cases c43 : x127_3 < (t815.length : Int)
          ·rw [if_pos c43] at H
           have c43b0 : decide (x127_3 < (t815.length : Int)) = true := decide_eq_true c43
           (try have c43bx : decide (x127_3 < (x11_3.length : Int)) = true := by rw [← hl11_3]; exact c43b0)
           clear c43
           by_cases c44 : 0 ≤ x127_3
           ·rw [if_pos c44] at H
            have c44b0 : decide (0 ≤ x127_3) = true := decide_eq_true c44
            clear c44
            by_cases c45 : x127_3 < (x11_3.length : Int)
            ·rw [if_pos c45] at H
             have c45b0 : decide (x127_3 < (x11_3.length : Int)) = true := decide_eq_true c45
             clear c45
             obtain ⟨y836, hy836⟩ : ∃ y_ : List (S33), y_ = (x11_3.set (x127_3 : Int).toNat (⟨(-7), (rd_T33 x11_3 x127_3).f1, (rd_T33 x11_3 x127_3).f2⟩ : S33)) := ⟨_, rfl⟩
             replace H : (pylonlaw13_PeriodKeeps.l2 k3 x5_1 x6_2 t808 t811 y836 t819 t823 t826 t830 (t815.length : Int) (wrap64 (x127_3 + 1))) = some r := by first | (rw [hy836]; with_reducible exact H) | (have H2_ := (Option.bind_some _ _).symm.trans H; rw [hy836]; with_reducible exact H2_) | (have H2_ := (Option.bind_some _ _).symm.trans H; with_reducible exact H2_) | with_reducible exact H | (rw [hy836]; exact H) | exact H
             have Ny836 := AX hy836
             clear hy836
             have H' := AX H
             clear H
             have p46 : 0 ≤ (x127_3 : Int) := of_decide_eq_true (by first | (with_reducible assumption) | assumption)
             have q46 : (x127_3 : Int) < ((x11_3.length : Int) : Int) := of_decide_eq_true (by first | (with_reducible assumption) | assumption)
             obtain ⟨go46, co46, eo46, gb46, gl46, cl46, HG46⟩ := Kd.R_form HO_11.out (by omega)
             (first | cases eo46 | (injection eo46 with ea_ en_ ec_; (first | subst ea_ | (injection ea_ with ea_; subst ea_)); subst ec_; clear en_))
             have GB46 := AX gb46
             have GG46 := AX HG46
             clear gb46 gl46 HG46
             obtain ⟨ce46, hcl46, hM46, hcc46, hfr46⟩ := Kd.R_elem HO_11.out z33 (x127_3 : Int) p46 q46
             obtain rfl := k33_openM hM46
             have hx46_0 : wr.cell? ⟨go46, (x127_3 : Int).toNat * 3, none⟩ = some (.int .i64 ((rd_T33 x11_3 x127_3).f0)) := hcc46 0 _ rfl
             have hx46_1 : wr.cell? ⟨go46, (x127_3 : Int).toNat * 3 + 1, none⟩ = some (.int .i64 ((rd_T33 x11_3 x127_3).f1)) := hcc46 1 _ rfl
             have hx46_2 : wr.cell? ⟨go46, (x127_3 : Int).toNat * 3 + 2, none⟩ = some (.int .i64 ((rd_T33 x11_3 x127_3).f2)) := hcc46 2 _ rfl
             have hf46_0 : wr.frozen? ⟨go46, (x127_3 : Int).toNat * 3, none⟩ = false := hfr46 0
             have hf46_1 : wr.frozen? ⟨go46, (x127_3 : Int).toNat * 3 + 1, none⟩ = false := hfr46 1
             have hf46_2 : wr.frozen? ⟨go46, (x127_3 : Int).toNat * 3 + 2, none⟩ = false := hfr46 2
             clear hcl46 hcc46 hfr46 hM46
             replace p46 := eq_true p46
             replace q46 := eq_true q46
             have HX47 := AX (show Kd.R k33 33 wr w.heap.size (fun k_ => some k_ ≠ (.slice Ao35 x6_2.length co35 : Value).ownBlock ∧ some k_ ≠ (v812 : Value).ownBlock ∧ some k_ ≠ (v820 : Value).ownBlock ∧ some k_ ≠ (v827 : Value).ownBlock ∧ some k_ ≠ (v831 : Value).ownBlock) (.slice (some ⟨go46, 0, none⟩) x11_3.length co42) x11_3 from (kr HO_11))
             obtain ⟨ce47, hcl47, hM47, hcc47, hfr47⟩ := Kd.R_elem HX47.out z33 (x127_3 : Int) (of_decide_eq_true (by first | (with_reducible assumption) | assumption)) (by have h_ : (x127_3 : Int) < ((x11_3.length : Int) : Int) := of_decide_eq_true (by first | (with_reducible assumption) | assumption); first | exact h_ | (have e_ := (Kd.R_reads' HO_11.out).1; omega) | simpa using h_)
             obtain rfl := k33_openM hM47
             have HP47 := Kd.R_seg HX47.out (x127_3 : Int) (of_decide_eq_true (by first | (with_reducible assumption) | assumption)) (by have h_ : (x127_3 : Int) < ((x11_3.length : Int) : Int) := of_decide_eq_true (by first | (with_reducible assumption) | assumption); first | exact h_ | (have e_ := (Kd.R_reads' HO_11.out).1; omega) | simpa using h_) (seg := [.int .i64 (-7)]) (j := 0) hcl47 hcc47 (show 1 ≤ 3 from by decide) (x' := (⟨(-7), (rd_T33 x11_3 x127_3).f1, (rd_T33 x11_3 x127_3).f2⟩ : S33)) (k33_mkM _ _ _ (⟨(-7), (rd_T33 x11_3 x127_3).f1, (rd_T33 x11_3 x127_3).f2⟩ : S33) ) (fun _ hk => hk)
             have hx47_0 := hcc47 0 _ rfl
             (try simp only [show (k33).sz = 3 from rfl, Nat.mul_one, Nat.add_zero] at hx47_0)
             have hf47_0 := hfr47 0
             (try simp only [show (k33).sz = 3 from rfl, Nat.mul_one, Nat.add_zero] at hf47_0)
             clear hcl47 hcc47 hfr47 hM47
             go_wp2_with (first | ((with_reducible refine gate_store (t := 3) (p := 133) rfl ?_); refine store_event (t := 3) (p := 133) (v := ?vo_w48) (w1 := (wr.setCell ⟨go46, (x127_3 : Int).toNat * 3, none⟩ (.int .i64 (-7)))) ?hg ?ho ?hn ?hr ?_; (case ho => rfl); (case hg => rfl); (case hn => rfl); (case hr => first | (go_simp; done) | (go_simp; rfl)); intro w48 hw; have hg : wr.grownBy w48 (some go46) := (by rw [hw]; exact HP47.2); have hp_ : Kd.R k33 33 w48 w.heap.size (fun k_ => some k_ ≠ (.slice Ao35 x6_2.length co35 : Value).ownBlock ∧ some k_ ≠ (v812 : Value).ownBlock ∧ some k_ ≠ (v820 : Value).ownBlock ∧ some k_ ≠ (v827 : Value).ownBlock ∧ some k_ ≠ (v831 : Value).ownBlock) (.slice (some ⟨go46, 0, none⟩) x11_3.length co42) y836 := (by rw [hw, Ny836.out]; exact HP47.1); clear HP47; have n0_ := AX (Kd.R_over' (v := (.slice (some ⟨go46, 0, none⟩) x11_3.length co42)) (kr HO_5) (Kd.R_typed HO_11.out) (by decide) hg); have n1_ := AX (Kd.R_after (v := (.slice (some ⟨go46, 0, none⟩) x11_3.length co42)) (v1 := (.slice (some ⟨go46, 0, none⟩) x11_3.length co42)) (ok := (fun k_ => some k_ ≠ (v812 : Value).ownBlock ∧ some k_ ≠ (v820 : Value).ownBlock ∧ some k_ ≠ (v827 : Value).ownBlock ∧ some k_ ≠ (v831 : Value).ownBlock)) (by (with_reducible repeat (first | apply Kd.R_alloc | apply Kd.R_drewN | apply Kd.R_drew)); exact Kd.R_mono HO_6.out (fun _ hk => ⟨⟨hk.1, ⟨hk.2.2.1, ⟨hk.2.2.2.1, hk.2.2.2.2⟩⟩⟩, hk.2.1⟩)) hg (.inl rfl)); have n2_ := AX (Kd.R_over' (v := (.slice (some ⟨go46, 0, none⟩) x11_3.length co42)) (kr HO_8) (Kd.R_typed HO_11.out) (by decide) hg); have n3_ := AX (Kd.R_after (v := (.slice (some ⟨go46, 0, none⟩) x11_3.length co42)) (v1 := (.slice (some ⟨go46, 0, none⟩) x11_3.length co42)) (ok := (fun k_ => some k_ ≠ (.slice Ao35 x6_2.length co35 : Value).ownBlock ∧ some k_ ≠ (v820 : Value).ownBlock ∧ some k_ ≠ (v827 : Value).ownBlock ∧ some k_ ≠ (v831 : Value).ownBlock)) (by (with_reducible repeat (first | apply Kd.R_alloc | apply Kd.R_drewN | apply Kd.R_drew)); exact Kd.R_mono HO_9.out (fun _ hk => ⟨⟨hk.1, ⟨hk.2.2.1, ⟨hk.2.2.2.1, hk.2.2.2.2⟩⟩⟩, hk.2.1⟩)) hg (.inl rfl)); have n4_ := AX (hp_); have n5_ := AX (Kd.R_after (v := (.slice (some ⟨go46, 0, none⟩) x11_3.length co42)) (v1 := (.slice (some ⟨go46, 0, none⟩) x11_3.length co42)) (ok := (fun k_ => some k_ ≠ (.slice Ao35 x6_2.length co35 : Value).ownBlock ∧ some k_ ≠ (v812 : Value).ownBlock ∧ some k_ ≠ (v827 : Value).ownBlock ∧ some k_ ≠ (v831 : Value).ownBlock)) (by (with_reducible repeat (first | apply Kd.R_alloc | apply Kd.R_drewN | apply Kd.R_drew)); exact Kd.R_mono HO_13.out (fun _ hk => ⟨⟨hk.1, ⟨hk.2.1, ⟨hk.2.2.2.1, hk.2.2.2.2⟩⟩⟩, hk.2.2.1⟩)) hg (.inl rfl)); have n6_ := AX (Kd.R_over' (v := (.slice (some ⟨go46, 0, none⟩) x11_3.length co42)) (kr HO_15) (Kd.R_typed HO_11.out) (by decide) hg); have n7_ := AX (Kd.R_after (v := (.slice (some ⟨go46, 0, none⟩) x11_3.length co42)) (v1 := (.slice (some ⟨go46, 0, none⟩) x11_3.length co42)) (ok := (fun k_ => some k_ ≠ (.slice Ao35 x6_2.length co35 : Value).ownBlock ∧ some k_ ≠ (v812 : Value).ownBlock ∧ some k_ ≠ (v820 : Value).ownBlock ∧ some k_ ≠ (v831 : Value).ownBlock)) (by (with_reducible repeat (first | apply Kd.R_alloc | apply Kd.R_drewN | apply Kd.R_drew)); exact Kd.R_mono HO_16.out (fun _ hk => ⟨⟨hk.1, ⟨hk.2.1, ⟨hk.2.2.2.1, hk.2.2.2.2⟩⟩⟩, hk.2.2.1⟩)) hg (.inl rfl)); have n8_ := AX (Kd.R_after (v := (.slice (some ⟨go46, 0, none⟩) x11_3.length co42)) (v1 := (.slice (some ⟨go46, 0, none⟩) x11_3.length co42)) (ok := (fun k_ => some k_ ≠ (.slice Ao35 x6_2.length co35 : Value).ownBlock ∧ some k_ ≠ (v812 : Value).ownBlock ∧ some k_ ≠ (v820 : Value).ownBlock ∧ some k_ ≠ (v827 : Value).ownBlock)) (by (with_reducible repeat (first | apply Kd.R_alloc | apply Kd.R_drewN | apply Kd.R_drew)); exact Kd.R_mono HO_18.out (fun _ hk => ⟨⟨hk.1, ⟨hk.2.1, ⟨hk.2.2.2.1, hk.2.2.2.2⟩⟩⟩, hk.2.2.1⟩)) hg (.inl rfl)); have n9_ := AX (blk_grown (g := gb786) (o := .cells #[.int .i64 t788, .int .i64 t789, .int .i64 t790, .int .i64 t791, .int .i64 t792, .int .i64 t793, .int .i64 t794, .int .i64 t795, .int .i64 t796, .int .i64 t797, .int .i64 t798, .int .i64 t799, .int .i64 t800] 61 (0, 0)) (bkn BK786) hg (by first | exact Kd.R_ne HO_11.out BK786.out (by decide) | exact fun e_ => (And.left HO_11.out _ e_.symm).2 rfl | exact fun e_ => (And.left HO_11.out _ e_.symm).1.2 rfl | exact fun e_ => (And.left HO_11.out _ e_.symm).2.1 rfl | exact fun e_ => (And.left HO_11.out _ e_.symm).2.2 rfl)); have n10_ := AX ((by rw [hw]; exact below_set (HB.out) GB46.out : Below w.heap.size w w48)); clear HO_5; clear HO_6; clear HO_8; clear HO_9; clear HO_11; clear HO_13; clear HO_15; clear HO_16; clear HO_18; clear BK786; clear HB; have HO_5 := n0_; have HO_6 := n1_; have HO_8 := n2_; have HO_9 := n3_; have HO_11 := n4_; have HO_13 := n5_; have HO_15 := n6_; have HO_16 := n7_; have HO_18 := n8_; have BK786 := n9_; have HB := n10_; clear n0_ n1_ n2_ n3_ n4_ n5_ n6_ n7_ n8_ n9_ n10_; clear hg hw hp_))
             (try simp only [← hl11_3])
             go_roundg k3
             case measure => have := HK1.out; have := HK2.out; have := HK3.out; omega
             case rel => exact ⟨(y836), (wrap64 (x127_3 + 1)), (by first | rfl | (simp; done) | (simp [*]; done)), H', ⟨by have := HK1.out; have := HK2.out; have := HK3.out; omega⟩, ⟨by (try simp only [hl5_1]); (try simp only [hl6_2]); (try simp only [hl11_3]); (with_reducible repeat (first | apply Kd.R_alloc | apply Kd.R_drewN | apply Kd.R_drew)); exact HO_5.out⟩, ⟨by (try simp only [hl5_1]); (try simp only [hl6_2]); (try simp only [hl11_3]); (with_reducible repeat (first | apply Kd.R_alloc | apply Kd.R_drewN | apply Kd.R_drew)); exact Kd.R_mono HO_6.out (fun _ hk => ⟨hk.1.1, ⟨hk.2, ⟨hk.1.2.1, ⟨hk.1.2.2.1, hk.1.2.2.2⟩⟩⟩⟩)⟩, ⟨by (try simp only [hl5_1]); (try simp only [hl6_2]); (try simp only [hl11_3]); (with_reducible repeat (first | apply Kd.R_alloc | apply Kd.R_drewN | apply Kd.R_drew)); exact HO_8.out⟩, ⟨by (try simp only [hl5_1]); (try simp only [hl6_2]); (try simp only [hl11_3]); (with_reducible repeat (first | apply Kd.R_alloc | apply Kd.R_drewN | apply Kd.R_drew)); exact Kd.R_mono HO_9.out (fun _ hk => ⟨hk.1.1, ⟨hk.2, ⟨hk.1.2.1, ⟨hk.1.2.2.1, hk.1.2.2.2⟩⟩⟩⟩)⟩, ⟨by (try simp only [hl5_1]); (try simp only [hl6_2]); (try simp only [hl11_3]); (with_reducible repeat (first | apply Kd.R_alloc | apply Kd.R_drewN | apply Kd.R_drew)); exact HO_11.out⟩, ⟨by (try simp only [hl5_1]); (try simp only [hl6_2]); (try simp only [hl11_3]); (with_reducible repeat (first | apply Kd.R_alloc | apply Kd.R_drewN | apply Kd.R_drew)); exact Kd.R_mono HO_13.out (fun _ hk => ⟨hk.1.1, ⟨hk.1.2.1, ⟨hk.2, ⟨hk.1.2.2.1, hk.1.2.2.2⟩⟩⟩⟩)⟩, ⟨by (try simp only [hl5_1]); (try simp only [hl6_2]); (try simp only [hl11_3]); (with_reducible repeat (first | apply Kd.R_alloc | apply Kd.R_drewN | apply Kd.R_drew)); exact HO_15.out⟩, ⟨by (try simp only [hl5_1]); (try simp only [hl6_2]); (try simp only [hl11_3]); (with_reducible repeat (first | apply Kd.R_alloc | apply Kd.R_drewN | apply Kd.R_drew)); exact Kd.R_mono HO_16.out (fun _ hk => ⟨hk.1.1, ⟨hk.1.2.1, ⟨hk.2, ⟨hk.1.2.2.1, hk.1.2.2.2⟩⟩⟩⟩)⟩, ⟨by (try simp only [hl5_1]); (try simp only [hl6_2]); (try simp only [hl11_3]); (with_reducible repeat (first | apply Kd.R_alloc | apply Kd.R_drewN | apply Kd.R_drew)); exact Kd.R_mono HO_18.out (fun _ hk => ⟨hk.1.1, ⟨hk.1.2.1, ⟨hk.2, ⟨hk.1.2.2.1, hk.1.2.2.2⟩⟩⟩⟩)⟩, ⟨by (try simp only [hl5_1]); (try simp only [hl6_2]); (try simp only [hl11_3]); (with_reducible repeat first|refine blk_drewN ?_ _|refine blk_drew ?_|refine blk_alloc ?_ _); exact BK786.out⟩, ⟨bw⟩⟩
            ·rw [if_neg c45] at H
             exact absurd H (by simp)
           ·rw [if_neg c44] at H
            exact absurd H (by simp)
          ·rw [if_neg c43] at H
           have c43b0 : decide (x127_3 < (t815.length : Int)) = false := decide_eq_false c43
           (try have c43bx : decide (x127_3 < (x11_3.length : Int)) = false := by rw [← hl11_3]; exact c43b0)
           clear c43
           have H' := AX H
           clear H
           go_wp2
           go_loopg [5, 6, 11, 135] k3 (fun kq v5 v6 v11 v135 w' => ∃ (x5_4 : List (S74)) (x6_4 : List (S33)) (x11_4 : List (S33)) (x135_4 : Int), v135 = .int .i64 x135_4 ∧ Aside0 (pylonlaw13_PeriodKeeps.l3 kq x5_4 x6_4 t808 t811 x11_4 t819 t823 t826 t830 x135_4 = some r) ∧ Aside0 (kq ≤ k3) ∧ Aside0 (Kd.R k74 74 w' w.heap.size (fun k_ => some k_ ≠ (v809 : Value).ownBlock ∧ some k_ ≠ (v824 : Value).ownBlock) v5 x5_4) ∧ Aside0 (Kd.R k33 33 w' w.heap.size (fun k_ => some k_ ≠ (v812 : Value).ownBlock ∧ some k_ ≠ (v11 : Value).ownBlock ∧ some k_ ≠ (v820 : Value).ownBlock ∧ some k_ ≠ (v827 : Value).ownBlock ∧ some k_ ≠ (v831 : Value).ownBlock) v6 x6_4) ∧ Aside0 (Kd.R k74 74 w' w.heap.size (fun k_ => some k_ ≠ (v5 : Value).ownBlock ∧ some k_ ≠ (v824 : Value).ownBlock) v809 t808) ∧ Aside0 (Kd.R k33 33 w' w.heap.size (fun k_ => some k_ ≠ (v6 : Value).ownBlock ∧ some k_ ≠ (v11 : Value).ownBlock ∧ some k_ ≠ (v820 : Value).ownBlock ∧ some k_ ≠ (v827 : Value).ownBlock ∧ some k_ ≠ (v831 : Value).ownBlock) v812 t811) ∧ Aside0 (Kd.R k33 33 w' w.heap.size (fun k_ => some k_ ≠ (v6 : Value).ownBlock ∧ some k_ ≠ (v812 : Value).ownBlock ∧ some k_ ≠ (v820 : Value).ownBlock ∧ some k_ ≠ (v827 : Value).ownBlock ∧ some k_ ≠ (v831 : Value).ownBlock) v11 x11_4) ∧ Aside0 (Kd.R k33 33 w' w.heap.size (fun k_ => some k_ ≠ (v6 : Value).ownBlock ∧ some k_ ≠ (v812 : Value).ownBlock ∧ some k_ ≠ (v11 : Value).ownBlock ∧ some k_ ≠ (v827 : Value).ownBlock ∧ some k_ ≠ (v831 : Value).ownBlock) v820 t819) ∧ Aside0 (Kd.R k74 74 w' w.heap.size (fun k_ => some k_ ≠ (v5 : Value).ownBlock ∧ some k_ ≠ (v809 : Value).ownBlock) v824 t823) ∧ Aside0 (Kd.R k33 33 w' w.heap.size (fun k_ => some k_ ≠ (v6 : Value).ownBlock ∧ some k_ ≠ (v812 : Value).ownBlock ∧ some k_ ≠ (v11 : Value).ownBlock ∧ some k_ ≠ (v820 : Value).ownBlock ∧ some k_ ≠ (v831 : Value).ownBlock) v827 t826) ∧ Aside0 (Kd.R k33 33 w' w.heap.size (fun k_ => some k_ ≠ (v6 : Value).ownBlock ∧ some k_ ≠ (v812 : Value).ownBlock ∧ some k_ ≠ (v11 : Value).ownBlock ∧ some k_ ≠ (v820 : Value).ownBlock ∧ some k_ ≠ (v827 : Value).ownBlock) v831 t830) ∧ Aside0 (w'.heap[gb786]? = some (.cells #[.int .i64 t788, .int .i64 t789, .int .i64 t790, .int .i64 t791, .int .i64 t792, .int .i64 t793, .int .i64 t794, .int .i64 t795, .int .i64 t796, .int .i64 t797, .int .i64 t798, .int .i64 t799, .int .i64 t800] 61 (0, 0))) ∧ Aside0 (Below w.heap.size w w'))
           case atStart => exact ⟨(x5_1), (x6_2), (x11_3), (0), (by first | rfl | (simp; done) | (simp [*]; done)), H', ⟨Nat.le_refl _⟩, ⟨by (try simp only [hl5_1]); (try simp only [hl6_2]); (try simp only [hl11_3]); (with_reducible repeat (first | apply Kd.R_alloc | apply Kd.R_drewN | apply Kd.R_drew)); exact HO_5.out⟩, ⟨by (try simp only [hl5_1]); (try simp only [hl6_2]); (try simp only [hl11_3]); (with_reducible repeat (first | apply Kd.R_alloc | apply Kd.R_drewN | apply Kd.R_drew)); exact HO_6.out⟩, ⟨by (try simp only [hl5_1]); (try simp only [hl6_2]); (try simp only [hl11_3]); (with_reducible repeat (first | apply Kd.R_alloc | apply Kd.R_drewN | apply Kd.R_drew)); exact HO_8.out⟩, ⟨by (try simp only [hl5_1]); (try simp only [hl6_2]); (try simp only [hl11_3]); (with_reducible repeat (first | apply Kd.R_alloc | apply Kd.R_drewN | apply Kd.R_drew)); exact HO_9.out⟩, ⟨by (try simp only [hl5_1]); (try simp only [hl6_2]); (try simp only [hl11_3]); (with_reducible repeat (first | apply Kd.R_alloc | apply Kd.R_drewN | apply Kd.R_drew)); exact HO_11.out⟩, ⟨by (try simp only [hl5_1]); (try simp only [hl6_2]); (try simp only [hl11_3]); (with_reducible repeat (first | apply Kd.R_alloc | apply Kd.R_drewN | apply Kd.R_drew)); exact HO_13.out⟩, ⟨by (try simp only [hl5_1]); (try simp only [hl6_2]); (try simp only [hl11_3]); (with_reducible repeat (first | apply Kd.R_alloc | apply Kd.R_drewN | apply Kd.R_drew)); exact HO_15.out⟩, ⟨by (try simp only [hl5_1]); (try simp only [hl6_2]); (try simp only [hl11_3]); (with_reducible repeat (first | apply Kd.R_alloc | apply Kd.R_drewN | apply Kd.R_drew)); exact HO_16.out⟩, ⟨by (try simp only [hl5_1]); (try simp only [hl6_2]); (try simp only [hl11_3]); (with_reducible repeat (first | apply Kd.R_alloc | apply Kd.R_drewN | apply Kd.R_drew)); exact HO_18.out⟩, ⟨by (try simp only [hl5_1]); (try simp only [hl6_2]); (try simp only [hl11_3]); (with_reducible repeat first|refine blk_drewN ?_ _|refine blk_drew ?_|refine blk_alloc ?_ _); exact BK786.out⟩, ⟨bw⟩⟩
           case round =>
            clear H'
            try clear c4
            try clear c29
            try clear c29b0
            try clear c36
            try clear c36b0
            try clear c43
            try clear c43b0
            try clear hcz14_0 hcz14_1
            try clear hcz14_10 hcz14_11 hcz14_12
            try clear hcz14_2 hcz14_3 hcz14_4 hcz14_5 hcz14_6 hcz14_7 hcz14_8 hcz14_9
            try clear hcz16_0 hcz16_1
            try clear hcz16_10 hcz16_11 hcz16_12
            try clear hcz16_2 hcz16_3 hcz16_4 hcz16_5 hcz16_6 hcz16_7 hcz16_8 hcz16_9
            try clear hcz18_0 hcz18_1
            try clear hcz18_10 hcz18_11 hcz18_12
            try clear hcz18_2 hcz18_3 hcz18_4 hcz18_5 hcz18_6 hcz18_7 hcz18_8 hcz18_9
            try clear hcz20_0 hcz20_1
            try clear hcz20_10 hcz20_11 hcz20_12
            try clear hcz20_2 hcz20_3 hcz20_4 hcz20_5 hcz20_6 hcz20_7 hcz20_8 hcz20_9
            try clear hcz22_0 hcz22_1
            try clear hcz22_10 hcz22_11 hcz22_12
            try clear hcz22_2 hcz22_3 hcz22_4 hcz22_5 hcz22_6 hcz22_7 hcz22_8 hcz22_9
            try clear hcz24_0 hcz24_1
            try clear hcz24_10 hcz24_11 hcz24_12
            try clear hcz24_2 hcz24_3 hcz24_4 hcz24_5 hcz24_6 hcz24_7 hcz24_8 hcz24_9
            try clear hcz26_0 hcz26_1
            try clear hcz26_10 hcz26_11 hcz26_12
            try clear hcz26_2 hcz26_3 hcz26_4 hcz26_5 hcz26_6 hcz26_7 hcz26_8 hcz26_9
            try clear hfz14_0 hfz14_1
            try clear hfz14_10 hfz14_11 hfz14_12
            try clear hfz14_2 hfz14_3 hfz14_4 hfz14_5 hfz14_6 hfz14_7 hfz14_8 hfz14_9
            try clear hfz16_0 hfz16_1
            try clear hfz16_10 hfz16_11 hfz16_12
            try clear hfz16_2 hfz16_3 hfz16_4 hfz16_5 hfz16_6 hfz16_7 hfz16_8 hfz16_9
            try clear hfz18_0 hfz18_1
            try clear hfz18_10 hfz18_11 hfz18_12
            try clear hfz18_2 hfz18_3 hfz18_4 hfz18_5 hfz18_6 hfz18_7 hfz18_8 hfz18_9
            try clear hfz20_0 hfz20_1
            try clear hfz20_10 hfz20_11 hfz20_12
            try clear hfz20_2 hfz20_3 hfz20_4 hfz20_5 hfz20_6 hfz20_7 hfz20_8 hfz20_9
            try clear hfz22_0 hfz22_1
            try clear hfz22_10 hfz22_11 hfz22_12
            try clear hfz22_2 hfz22_3 hfz22_4 hfz22_5 hfz22_6 hfz22_7 hfz22_8 hfz22_9
            try clear hfz24_0 hfz24_1
            try clear hfz24_10 hfz24_11 hfz24_12
            try clear hfz24_2 hfz24_3 hfz24_4 hfz24_5 hfz24_6 hfz24_7 hfz24_8 hfz24_9
            try clear hfz26_0 hfz26_1
            try clear hfz26_10 hfz26_11 hfz26_12
            try clear hfz26_2 hfz26_3 hfz26_4 hfz26_5 hfz26_6 hfz26_7 hfz26_8 hfz26_9
            obtain ⟨x5_4, x6_4, x11_4, x135_4, rfl, HA, HK4, HO_5, HO_6, HO_8, HO_9, HO_11, HO_13, HO_15, HO_16, HO_18, BK786, HB⟩ := hrel
            cases gk with
            | zero => exact absurd HA.out (by simp [pylonlaw13_PeriodKeeps.l3])
            | succ k4 =>
             have H := HA.out
             clear HA
             simp only [pylonlaw13_PeriodKeeps.l3] at H
             by_cases c49 : x135_4 < 20
             ·rw [if_pos c49] at H
              have c49b0 : decide (x135_4 < 20) = true := decide_eq_true c49
              clear c49
              by_cases c50 : x5_4.length < 8796093022208
              ·rw [if_pos c50] at H
               have LMc50 := AX c50
               clear c50
               obtain ⟨y837, hy837⟩ : ∃ y_ : List (S74), y_ = (x5_4 ++ [(⟨(-7), 0⟩ : S74)]) := ⟨_, rfl⟩
               replace H : (if x6_4.length < 5864062014805 then (if x11_4.length < 5864062014805 then (pylonlaw13_PeriodKeeps.l3 k4 y837 (x6_4 ++ [(⟨(-7), 0, 0⟩ : S33)]) t808 t811 (x11_4 ++ [(⟨(-7), 0, 0⟩ : S33)]) t819 t823 t826 t830 (wrap64 (x135_4 + 1))) else (none)) else (none)) = some r := by first | (rw [hy837]; with_reducible exact H) | (have H2_ := (Option.bind_some _ _).symm.trans H; rw [hy837]; with_reducible exact H2_) | (have H2_ := (Option.bind_some _ _).symm.trans H; with_reducible exact H2_) | with_reducible exact H | (rw [hy837]; exact H) | exact H
               have Ny837 := AX hy837
               clear hy837
               by_cases c51 : x6_4.length < 5864062014805
               ·rw [if_pos c51] at H
                have LMc51 := AX c51
                clear c51
                obtain ⟨y840, hy840⟩ : ∃ y_ : List (S33), y_ = (x6_4 ++ [(⟨(-7), 0, 0⟩ : S33)]) := ⟨_, rfl⟩
                replace H : (if x11_4.length < 5864062014805 then (pylonlaw13_PeriodKeeps.l3 k4 y837 y840 t808 t811 (x11_4 ++ [(⟨(-7), 0, 0⟩ : S33)]) t819 t823 t826 t830 (wrap64 (x135_4 + 1))) else (none)) = some r := by first | (rw [hy840]; with_reducible exact H) | (have H2_ := (Option.bind_some _ _).symm.trans H; rw [hy840]; with_reducible exact H2_) | (have H2_ := (Option.bind_some _ _).symm.trans H; with_reducible exact H2_) | with_reducible exact H | (rw [hy840]; exact H) | exact H
                have Ny840 := AX hy840
                clear hy840
                by_cases c52 : x11_4.length < 5864062014805
                ·rw [if_pos c52] at H
                 have LMc52 := AX c52
                 clear c52
                 obtain ⟨y843, hy843⟩ : ∃ y_ : List (S33), y_ = (x11_4 ++ [(⟨(-7), 0, 0⟩ : S33)]) := ⟨_, rfl⟩
                 replace H : (pylonlaw13_PeriodKeeps.l3 k4 y837 y840 t808 t811 y843 t819 t823 t826 t830 (wrap64 (x135_4 + 1))) = some r := by first | (rw [hy843]; with_reducible exact H) | (have H2_ := (Option.bind_some _ _).symm.trans H; rw [hy843]; with_reducible exact H2_) | (have H2_ := (Option.bind_some _ _).symm.trans H; with_reducible exact H2_) | with_reducible exact H | (rw [hy843]; exact H) | exact H
                 have Ny843 := AX hy843
                 clear hy843
                 have H' := AX H
                 clear H
                 go_wp2_with (first | ((with_reducible refine gate_builtin (b := .append) (xs := #[.tmp 137, .tmp 139]) rfl ?_); at_builtin; refine Kd.R_append k74 (w0 := w) w.heap.size rfl (.tmp 137) (.tmp 139) 68 74 (.agg #[(.int .i64 0), (.int .i64 0)]) 16 rfl Try.underlying68 info74 rfl (by decide) (by omega) u5 x5_4 (⟨(-7), 0⟩ : S74) [.int .i64 (-7), .int .i64 0] (fun k_ => some k_ ≠ (v809 : Value).ownBlock ∧ some k_ ≠ (v824 : Value).ownBlock) (fun _ => False) rfl rfl ?aP (fun _ hk => hk.elim) ?aF ?aO ?aB ?aS ?aL ?_; (case aP => exact k74_mkM _ _ _ (⟨(-7), 0⟩ : S74)); (case aB => exact bw); (case aF => exact (fun k_ hk => ⟨Kd.fresh' (Kd.R_lt (kr HO_8)) k_ hk, Kd.fresh' (Kd.R_lt (kr HO_15)) k_ hk⟩)); (case aO => exact (kr HO_5)); (case aS => exact (below_size bw)); (case aL => have := LMc50.out; omega); intro v838 w53 ho hb hg hat; rw [← Ny837.out] at ho; have n0_ := AX (Kd.R_over' (kr HO_6) (Kd.R_typed (kr HO_5)) (by decide) hg); have n1_ := AX (Kd.R_after (ok := (fun k_ => some k_ ≠ (v824 : Value).ownBlock)) (by (with_reducible repeat (first | apply Kd.R_alloc | apply Kd.R_drewN | apply Kd.R_drew)); exact Kd.R_mono HO_8.out (fun _ hk => ⟨hk.2, hk.1⟩)) hg hat); have n2_ := AX (Kd.R_over' (kr HO_9) (Kd.R_typed (kr HO_5)) (by decide) hg); have n3_ := AX (Kd.R_over' (kr HO_11) (Kd.R_typed (kr HO_5)) (by decide) hg); have n4_ := AX (Kd.R_over' (kr HO_13) (Kd.R_typed (kr HO_5)) (by decide) hg); have n5_ := AX (Kd.R_after (ok := (fun k_ => some k_ ≠ (v809 : Value).ownBlock)) (by (with_reducible repeat (first | apply Kd.R_alloc | apply Kd.R_drewN | apply Kd.R_drew)); exact Kd.R_mono HO_15.out (fun _ hk => ⟨hk.2, hk.1⟩)) hg hat); have n6_ := AX (Kd.R_over' (kr HO_16) (Kd.R_typed (kr HO_5)) (by decide) hg); have n7_ := AX (Kd.R_over' (kr HO_18) (Kd.R_typed (kr HO_5)) (by decide) hg); have n8_ := AX (blk_grown (g := gb786) (o := .cells #[.int .i64 t788, .int .i64 t789, .int .i64 t790, .int .i64 t791, .int .i64 t792, .int .i64 t793, .int .i64 t794, .int .i64 t795, .int .i64 t796, .int .i64 t797, .int .i64 t798, .int .i64 t799, .int .i64 t800] 61 (0, 0)) (bkn BK786) hg (by first | exact Kd.R_ne HO_5.out BK786.out (by decide) | exact fun e_ => (And.left HO_5.out _ e_.symm).2 rfl | exact fun e_ => (And.left HO_5.out _ e_.symm).1.2 rfl | exact fun e_ => (And.left HO_5.out _ e_.symm).2.1 rfl | exact fun e_ => (And.left HO_5.out _ e_.symm).2.2 rfl)); have n9_ := AX (hb); have n10_ := AX (ho); clear HO_6; clear HO_8; clear HO_9; clear HO_11; clear HO_13; clear HO_15; clear HO_16; clear HO_18; clear BK786; clear HB; clear HO_5; have HO_6 := n0_; have HO_8 := n1_; have HO_9 := n2_; have HO_11 := n3_; have HO_13 := n4_; have HO_15 := n5_; have HO_16 := n6_; have HO_18 := n7_; have BK786 := n8_; have HB := n9_; have HO839 := n10_; clear n0_ n1_ n2_ n3_ n4_ n5_ n6_ n7_ n8_ n9_ n10_; clear ho hb hg hat) | ((with_reducible refine gate_builtin (b := .append) (xs := #[.tmp 141, .tmp 143]) rfl ?_); at_builtin; refine Kd.R_append k33 (w0 := w) w.heap.size rfl (.tmp 141) (.tmp 143) 63 33 (.agg #[(.int .i64 0), (.int .i64 0), (.int .i64 0)]) 24 rfl Try.underlying63 info33 rfl (by decide) (by omega) u6 x6_4 (⟨(-7), 0, 0⟩ : S33) [.int .i64 (-7), .int .i64 0, .int .i64 0] (fun k_ => some k_ ≠ (v812 : Value).ownBlock ∧ some k_ ≠ (u11 : Value).ownBlock ∧ some k_ ≠ (v820 : Value).ownBlock ∧ some k_ ≠ (v827 : Value).ownBlock ∧ some k_ ≠ (v831 : Value).ownBlock) (fun _ => False) rfl rfl ?aP (fun _ hk => hk.elim) ?aF ?aO ?aB ?aS ?aL ?_; (case aP => exact k33_mkM _ _ _ (⟨(-7), 0, 0⟩ : S33)); (case aB => exact bw); (case aF => exact (fun k_ hk => ⟨Kd.fresh' (Kd.R_lt (kr HO_9)) k_ hk, Kd.fresh' (Kd.R_lt (kr HO_11)) k_ hk, Kd.fresh' (Kd.R_lt (kr HO_13)) k_ hk, Kd.fresh' (Kd.R_lt (kr HO_16)) k_ hk, Kd.fresh' (Kd.R_lt (kr HO_18)) k_ hk⟩)); (case aO => exact (kr HO_6)); (case aS => exact (below_size bw)); (case aL => have := LMc51.out; omega); intro v841 w54 ho hb hg hat; rw [← Ny840.out] at ho; have n0_ := AX (Kd.R_over' (kr HO_8) (Kd.R_typed (kr HO_6)) (by decide) hg); have n1_ := AX (Kd.R_after (ok := (fun k_ => some k_ ≠ (u11 : Value).ownBlock ∧ some k_ ≠ (v820 : Value).ownBlock ∧ some k_ ≠ (v827 : Value).ownBlock ∧ some k_ ≠ (v831 : Value).ownBlock)) (by (with_reducible repeat (first | apply Kd.R_alloc | apply Kd.R_drewN | apply Kd.R_drew)); exact Kd.R_mono HO_9.out (fun _ hk => ⟨⟨hk.2.1, ⟨hk.2.2.1, ⟨hk.2.2.2.1, hk.2.2.2.2⟩⟩⟩, hk.1⟩)) hg hat); have n2_ := AX (Kd.R_after (ok := (fun k_ => some k_ ≠ (v812 : Value).ownBlock ∧ some k_ ≠ (v820 : Value).ownBlock ∧ some k_ ≠ (v827 : Value).ownBlock ∧ some k_ ≠ (v831 : Value).ownBlock)) (by (with_reducible repeat (first | apply Kd.R_alloc | apply Kd.R_drewN | apply Kd.R_drew)); exact Kd.R_mono HO_11.out (fun _ hk => ⟨⟨hk.2.1, ⟨hk.2.2.1, ⟨hk.2.2.2.1, hk.2.2.2.2⟩⟩⟩, hk.1⟩)) hg hat); have n3_ := AX (Kd.R_after (ok := (fun k_ => some k_ ≠ (v812 : Value).ownBlock ∧ some k_ ≠ (u11 : Value).ownBlock ∧ some k_ ≠ (v827 : Value).ownBlock ∧ some k_ ≠ (v831 : Value).ownBlock)) (by (with_reducible repeat (first | apply Kd.R_alloc | apply Kd.R_drewN | apply Kd.R_drew)); exact Kd.R_mono HO_13.out (fun _ hk => ⟨⟨hk.2.1, ⟨hk.2.2.1, ⟨hk.2.2.2.1, hk.2.2.2.2⟩⟩⟩, hk.1⟩)) hg hat); have n4_ := AX (Kd.R_over' (kr HO_15) (Kd.R_typed (kr HO_6)) (by decide) hg); have n5_ := AX (Kd.R_after (ok := (fun k_ => some k_ ≠ (v812 : Value).ownBlock ∧ some k_ ≠ (u11 : Value).ownBlock ∧ some k_ ≠ (v820 : Value).ownBlock ∧ some k_ ≠ (v831 : Value).ownBlock)) (by (with_reducible repeat (first | apply Kd.R_alloc | apply Kd.R_drewN | apply Kd.R_drew)); exact Kd.R_mono HO_16.out (fun _ hk => ⟨⟨hk.2.1, ⟨hk.2.2.1, ⟨hk.2.2.2.1, hk.2.2.2.2⟩⟩⟩, hk.1⟩)) hg hat); have n6_ := AX (Kd.R_after (ok := (fun k_ => some k_ ≠ (v812 : Value).ownBlock ∧ some k_ ≠ (u11 : Value).ownBlock ∧ some k_ ≠ (v820 : Value).ownBlock ∧ some k_ ≠ (v827 : Value).ownBlock)) (by (with_reducible repeat (first | apply Kd.R_alloc | apply Kd.R_drewN | apply Kd.R_drew)); exact Kd.R_mono HO_18.out (fun _ hk => ⟨⟨hk.2.1, ⟨hk.2.2.1, ⟨hk.2.2.2.1, hk.2.2.2.2⟩⟩⟩, hk.1⟩)) hg hat); have n7_ := AX (blk_grown (g := gb786) (o := .cells #[.int .i64 t788, .int .i64 t789, .int .i64 t790, .int .i64 t791, .int .i64 t792, .int .i64 t793, .int .i64 t794, .int .i64 t795, .int .i64 t796, .int .i64 t797, .int .i64 t798, .int .i64 t799, .int .i64 t800] 61 (0, 0)) (bkn BK786) hg (by first | exact Kd.R_ne HO_6.out BK786.out (by decide) | exact fun e_ => (And.left HO_6.out _ e_.symm).2 rfl | exact fun e_ => (And.left HO_6.out _ e_.symm).1.2 rfl | exact fun e_ => (And.left HO_6.out _ e_.symm).2.1 rfl | exact fun e_ => (And.left HO_6.out _ e_.symm).2.2 rfl)); have n8_ := AX (Kd.R_over' (kr HO839) (Kd.R_typed (kr HO_6)) (by decide) hg); have n9_ := AX (hb); have n10_ := AX (ho); clear HO_8; clear HO_9; clear HO_11; clear HO_13; clear HO_15; clear HO_16; clear HO_18; clear BK786; clear HO839; clear HB; clear HO_6; have HO_8 := n0_; have HO_9 := n1_; have HO_11 := n2_; have HO_13 := n3_; have HO_15 := n4_; have HO_16 := n5_; have HO_18 := n6_; have BK786 := n7_; have HO839 := n8_; have HB := n9_; have HO842 := n10_; clear n0_ n1_ n2_ n3_ n4_ n5_ n6_ n7_ n8_ n9_ n10_; clear ho hb hg hat) | ((with_reducible refine gate_builtin (b := .append) (xs := #[.tmp 145, .tmp 147]) rfl ?_); at_builtin; refine Kd.R_append k33 (w0 := w) w.heap.size rfl (.tmp 145) (.tmp 147) 63 33 (.agg #[(.int .i64 0), (.int .i64 0), (.int .i64 0)]) 24 rfl Try.underlying63 info33 rfl (by decide) (by omega) u11 x11_4 (⟨(-7), 0, 0⟩ : S33) [.int .i64 (-7), .int .i64 0, .int .i64 0] (fun k_ => some k_ ≠ (v812 : Value).ownBlock ∧ some k_ ≠ (v820 : Value).ownBlock ∧ some k_ ≠ (v827 : Value).ownBlock ∧ some k_ ≠ (v831 : Value).ownBlock ∧ some k_ ≠ (v841 : Value).ownBlock) (fun _ => False) rfl rfl ?aP (fun _ hk => hk.elim) ?aF ?aO ?aB ?aS ?aL ?_; (case aP => exact k33_mkM _ _ _ (⟨(-7), 0, 0⟩ : S33)); (case aB => exact bw); (case aF => exact (fun k_ hk => ⟨Kd.fresh' (Kd.R_lt (kr HO_9)) k_ hk, Kd.fresh' (Kd.R_lt (kr HO_13)) k_ hk, Kd.fresh' (Kd.R_lt (kr HO_16)) k_ hk, Kd.fresh' (Kd.R_lt (kr HO_18)) k_ hk, Kd.fresh' (Kd.R_lt (kr HO842)) k_ hk⟩)); (case aO => exact (by (with_reducible repeat (first | apply Kd.R_alloc | apply Kd.R_drewN | apply Kd.R_drew)); exact Kd.R_mono HO_11.out (fun _ hk => ⟨hk.1.1, ⟨hk.1.2.1, ⟨hk.1.2.2.1, ⟨hk.1.2.2.2, hk.2⟩⟩⟩⟩))); (case aS => exact (below_size bw)); (case aL => have := LMc52.out; omega); intro v844 w55 ho hb hg hat; rw [← Ny843.out] at ho; have n0_ := AX (Kd.R_over' (kr HO_8) (Kd.R_typed (kr HO_11)) (by decide) hg); have n1_ := AX (Kd.R_after (ok := (fun k_ => some k_ ≠ (v820 : Value).ownBlock ∧ some k_ ≠ (v827 : Value).ownBlock ∧ some k_ ≠ (v831 : Value).ownBlock ∧ some k_ ≠ (v841 : Value).ownBlock)) (by (with_reducible repeat (first | apply Kd.R_alloc | apply Kd.R_drewN | apply Kd.R_drew)); exact Kd.R_mono HO_9.out (fun _ hk => ⟨⟨hk.1.2.1, ⟨hk.1.2.2.1, ⟨hk.1.2.2.2, hk.2⟩⟩⟩, hk.1.1⟩)) hg hat); have n2_ := AX (Kd.R_after (ok := (fun k_ => some k_ ≠ (v812 : Value).ownBlock ∧ some k_ ≠ (v827 : Value).ownBlock ∧ some k_ ≠ (v831 : Value).ownBlock ∧ some k_ ≠ (v841 : Value).ownBlock)) (by (with_reducible repeat (first | apply Kd.R_alloc | apply Kd.R_drewN | apply Kd.R_drew)); exact Kd.R_mono HO_13.out (fun _ hk => ⟨⟨hk.1.1, ⟨hk.1.2.2.1, ⟨hk.1.2.2.2, hk.2⟩⟩⟩, hk.1.2.1⟩)) hg hat); have n3_ := AX (Kd.R_over' (kr HO_15) (Kd.R_typed (kr HO_11)) (by decide) hg); have n4_ := AX (Kd.R_after (ok := (fun k_ => some k_ ≠ (v812 : Value).ownBlock ∧ some k_ ≠ (v820 : Value).ownBlock ∧ some k_ ≠ (v831 : Value).ownBlock ∧ some k_ ≠ (v841 : Value).ownBlock)) (by (with_reducible repeat (first | apply Kd.R_alloc | apply Kd.R_drewN | apply Kd.R_drew)); exact Kd.R_mono HO_16.out (fun _ hk => ⟨⟨hk.1.1, ⟨hk.1.2.2.1, ⟨hk.1.2.2.2, hk.2⟩⟩⟩, hk.1.2.1⟩)) hg hat); have n5_ := AX (Kd.R_after (ok := (fun k_ => some k_ ≠ (v812 : Value).ownBlock ∧ some k_ ≠ (v820 : Value).ownBlock ∧ some k_ ≠ (v827 : Value).ownBlock ∧ some k_ ≠ (v841 : Value).ownBlock)) (by (with_reducible repeat (first | apply Kd.R_alloc | apply Kd.R_drewN | apply Kd.R_drew)); exact Kd.R_mono HO_18.out (fun _ hk => ⟨⟨hk.1.1, ⟨hk.1.2.2.1, ⟨hk.1.2.2.2, hk.2⟩⟩⟩, hk.1.2.1⟩)) hg hat); have n6_ := AX (blk_grown (g := gb786) (o := .cells #[.int .i64 t788, .int .i64 t789, .int .i64 t790, .int .i64 t791, .int .i64 t792, .int .i64 t793, .int .i64 t794, .int .i64 t795, .int .i64 t796, .int .i64 t797, .int .i64 t798, .int .i64 t799, .int .i64 t800] 61 (0, 0)) (bkn BK786) hg (by first | exact Kd.R_ne HO_11.out BK786.out (by decide) | exact fun e_ => (And.left HO_11.out _ e_.symm).2 rfl | exact fun e_ => (And.left HO_11.out _ e_.symm).1.2 rfl | exact fun e_ => (And.left HO_11.out _ e_.symm).2.1 rfl | exact fun e_ => (And.left HO_11.out _ e_.symm).2.2 rfl)); have n7_ := AX (Kd.R_over' (kr HO839) (Kd.R_typed (kr HO_11)) (by decide) hg); have n8_ := AX (Kd.R_after (ok := (fun k_ => some k_ ≠ (v812 : Value).ownBlock ∧ some k_ ≠ (v820 : Value).ownBlock ∧ some k_ ≠ (v827 : Value).ownBlock ∧ some k_ ≠ (v831 : Value).ownBlock)) (by (with_reducible repeat (first | apply Kd.R_alloc | apply Kd.R_drewN | apply Kd.R_drew)); exact Kd.R_mono HO842.out (fun _ hk => ⟨⟨hk.1, ⟨hk.2.2.1, ⟨hk.2.2.2.1, hk.2.2.2.2⟩⟩⟩, hk.2.1⟩)) hg hat); have n9_ := AX (hb); have n10_ := AX (ho); clear HO_8; clear HO_9; clear HO_13; clear HO_15; clear HO_16; clear HO_18; clear BK786; clear HO839; clear HO842; clear HB; clear HO_11; have HO_8 := n0_; have HO_9 := n1_; have HO_13 := n2_; have HO_15 := n3_; have HO_16 := n4_; have HO_18 := n5_; have BK786 := n6_; have HO839 := n7_; have HO842 := n8_; have HB := n9_; have HO845 := n10_; clear n0_ n1_ n2_ n3_ n4_ n5_ n6_ n7_ n8_ n9_ n10_; clear ho hb hg hat))
                 go_roundg k4
                 case measure => have := HK1.out; have := HK2.out; have := HK3.out; have := HK4.out; omega
                 case rel => exact ⟨(y837), (y840), (y843), (wrap64 (x135_4 + 1)), (by first | rfl | (simp; done) | (simp [*]; done)), H', ⟨by have := HK1.out; have := HK2.out; have := HK3.out; have := HK4.out; omega⟩, ⟨by (try simp only [hl5_1]); (try simp only [hl6_2]); (try simp only [hl11_3]); (with_reducible repeat (first | apply Kd.R_alloc | apply Kd.R_drewN | apply Kd.R_drew)); exact HO839.out⟩, ⟨by (try simp only [hl5_1]); (try simp only [hl6_2]); (try simp only [hl11_3]); (with_reducible repeat (first | apply Kd.R_alloc | apply Kd.R_drewN | apply Kd.R_drew)); exact Kd.R_mono HO842.out (fun _ hk => ⟨hk.1.1, ⟨hk.2, ⟨hk.1.2.1, ⟨hk.1.2.2.1, hk.1.2.2.2⟩⟩⟩⟩)⟩, ⟨by (try simp only [hl5_1]); (try simp only [hl6_2]); (try simp only [hl11_3]); (with_reducible repeat (first | apply Kd.R_alloc | apply Kd.R_drewN | apply Kd.R_drew)); exact Kd.R_mono HO_8.out (fun _ hk => ⟨hk.2, hk.1⟩)⟩, ⟨by (try simp only [hl5_1]); (try simp only [hl6_2]); (try simp only [hl11_3]); (with_reducible repeat (first | apply Kd.R_alloc | apply Kd.R_drewN | apply Kd.R_drew)); exact Kd.R_mono HO_9.out (fun _ hk => ⟨hk.1.2.2.2, ⟨hk.2, ⟨hk.1.1, ⟨hk.1.2.1, hk.1.2.2.1⟩⟩⟩⟩)⟩, ⟨by (try simp only [hl5_1]); (try simp only [hl6_2]); (try simp only [hl11_3]); (with_reducible repeat (first | apply Kd.R_alloc | apply Kd.R_drewN | apply Kd.R_drew)); exact Kd.R_mono HO845.out (fun _ hk => ⟨hk.2.2.2.2, ⟨hk.1, ⟨hk.2.1, ⟨hk.2.2.1, hk.2.2.2.1⟩⟩⟩⟩)⟩, ⟨by (try simp only [hl5_1]); (try simp only [hl6_2]); (try simp only [hl11_3]); (with_reducible repeat (first | apply Kd.R_alloc | apply Kd.R_drewN | apply Kd.R_drew)); exact Kd.R_mono HO_13.out (fun _ hk => ⟨hk.1.2.2.2, ⟨hk.1.1, ⟨hk.2, ⟨hk.1.2.1, hk.1.2.2.1⟩⟩⟩⟩)⟩, ⟨by (try simp only [hl5_1]); (try simp only [hl6_2]); (try simp only [hl11_3]); (with_reducible repeat (first | apply Kd.R_alloc | apply Kd.R_drewN | apply Kd.R_drew)); exact Kd.R_mono HO_15.out (fun _ hk => ⟨hk.2, hk.1⟩)⟩, ⟨by (try simp only [hl5_1]); (try simp only [hl6_2]); (try simp only [hl11_3]); (with_reducible repeat (first | apply Kd.R_alloc | apply Kd.R_drewN | apply Kd.R_drew)); exact Kd.R_mono HO_16.out (fun _ hk => ⟨hk.1.2.2.2, ⟨hk.1.1, ⟨hk.2, ⟨hk.1.2.1, hk.1.2.2.1⟩⟩⟩⟩)⟩, ⟨by (try simp only [hl5_1]); (try simp only [hl6_2]); (try simp only [hl11_3]); (with_reducible repeat (first | apply Kd.R_alloc | apply Kd.R_drewN | apply Kd.R_drew)); exact Kd.R_mono HO_18.out (fun _ hk => ⟨hk.1.2.2.2, ⟨hk.1.1, ⟨hk.2, ⟨hk.1.2.1, hk.1.2.2.1⟩⟩⟩⟩)⟩, ⟨by (try simp only [hl5_1]); (try simp only [hl6_2]); (try simp only [hl11_3]); (with_reducible repeat first|refine blk_drewN ?_ _|refine blk_drew ?_|refine blk_alloc ?_ _); exact BK786.out⟩, ⟨bw⟩⟩
                ·rw [if_neg c52] at H
                 exact absurd H (by simp)
               ·rw [if_neg c51] at H
                exact absurd H (by simp)
              ·rw [if_neg c50] at H
               exact absurd H (by simp)
             ·rw [if_neg c49] at H
              have c49b0 : decide (x135_4 < 20) = false := decide_eq_false c49
              clear c49
              have HC56 := AX H
              clear H
              go_upto_region 31 with (fail)
              go_cut [4] (fun v4 wc => ∃ (kq : Nat) (x4_55 : Bool), v4 = .bool x4_55 ∧ Aside0 (pylonlaw13_PeriodKeeps.j4 kq x4_55 = some r) ∧ Aside0 (kq ≤ k4) ∧ Aside0 (wc.heap[gb786]? = some (.cells #[.int .i64 t788, .int .i64 t789, .int .i64 t790, .int .i64 t791, .int .i64 t792, .int .i64 t793, .int .i64 t794, .int .i64 t795, .int .i64 t796, .int .i64 t797, .int .i64 t798, .int .i64 t799, .int .i64 t800] 61 (0, 0))) ∧ Aside0 (Below w.heap.size w wc))
              case first =>
               have H := HC56.out
               clear HC56
               replace H := Option.bind_eq_some_iff.mp H
               obtain ⟨t846, A570, H⟩ := H
               replace H : (if t846 = true then ((pylonref13_SameDates.f k4 t811 t826).bind fun t847 => (if t847 = true then ((pylonref13_SameDates.f k4 t819 t830).bind fun t848 => (pylonlaw13_PeriodKeeps.j4 k4 t848)) else (pylonlaw13_PeriodKeeps.j4 k4 false))) else (pylonlaw13_PeriodKeeps.j4 k4 false)) = some r := H
               have A57 := AX A570
               clear A570
               by_cases c58 : t846 = true
               ·subst c58
                have H1 : ((pylonref13_SameDates.f k4 t811 t826).bind fun t847 => (if t847 = true then ((pylonref13_SameDates.f k4 t819 t830).bind fun t848 => (pylonlaw13_PeriodKeeps.j4 k4 t848)) else (pylonlaw13_PeriodKeeps.j4 k4 false))) = some r := by rw [if_pos rfl] at H; exact H
                clear H
                have H := H1
                clear H1
                replace H := Option.bind_eq_some_iff.mp H
                obtain ⟨t847, A590, H⟩ := H
                replace H : (if t847 = true then ((pylonref13_SameDates.f k4 t819 t830).bind fun t848 => (pylonlaw13_PeriodKeeps.j4 k4 t848)) else (pylonlaw13_PeriodKeeps.j4 k4 false)) = some r := H
                have A59 := AX A590
                clear A590
                by_cases c60 : t847 = true
                ·subst c60
                 have H1 : ((pylonref13_SameDates.f k4 t819 t830).bind fun t848 => (pylonlaw13_PeriodKeeps.j4 k4 t848)) = some r := by rw [if_pos rfl] at H; exact H
                 clear H
                 have H := H1
                 clear H1
                 replace H := Option.bind_eq_some_iff.mp H
                 obtain ⟨t848, A610, H⟩ := H
                 replace H : (pylonlaw13_PeriodKeeps.j4 k4 t848) = some r := H
                 have A61 := AX A610
                 clear A610
                 have H' := AX H
                 clear H
                 obtain ⟨Ao62, co62, eo62⟩ := Kd.R_slice HO_8.out
                 subst eo62
                 obtain ⟨Ao63, co63, eo63⟩ := Kd.R_slice HO_15.out
                 subst eo63
                 go_wp2_with (first | ((with_reducible refine gate_callee (f := 36) rfl ?_); refine goesL_ (some 152) rfl rfl Try.func36 (by kernel_rfl) rfl #[.slice Ao62 t808.length co62, .slice Ao63 t823.length co63] rfl (by (try simp only [List.map_toArray, List.map_cons, List.map_nil]); first | done | rfl | (simp only [List.length_drop, List.length_take]; rfl)) ?_; (with_reducible refine (pylonref11_SameSpans.calls k4 _ _ t808 _ _ t823 true _ ?side1 ?side2 ?side3 ?side4 A57.out).mono ?_); (case side1 => repeat (first | exact (Kd.R_reads' HO_8.out).2.2 | (with_reducible refine Kd.C_alloc ?_ _) | (with_reducible refine Kd.C_drewN ?_ _) | (with_reducible refine Kd.C_drew ?_))); (case side2 => exact (Kd.R_reads' HO_8.out).2.1); (case side3 => repeat (first | exact (Kd.R_reads' HO_15.out).2.2 | (with_reducible refine Kd.C_alloc ?_ _) | (with_reducible refine Kd.C_drewN ?_ _) | (with_reducible refine Kd.C_drew ?_))); (case side4 => exact (Kd.R_reads' HO_15.out).2.1); rintro e w' ⟨rfl, ⟨nd, rfl⟩⟩; refine ⟨_, rfl, ?_⟩; obtain ⟨Ao64, co64, eo64⟩ := Kd.R_slice HO_9.out; subst eo64; obtain ⟨Ao65, co65, eo65⟩ := Kd.R_slice HO_16.out; subst eo65) | (go_at_call 33; (with_reducible refine (pylonref13_SameDates.calls k4 _ _ t811 _ _ t826 true _ ?side1 ?side2 ?side3 ?side4 A59.out).mono ?_); (case side1 => repeat (first | exact (Kd.R_reads' HO_9.out).2.2 | (with_reducible refine Kd.C_alloc ?_ _) | (with_reducible refine Kd.C_drewN ?_ _) | (with_reducible refine Kd.C_drew ?_))); (case side2 => exact (Kd.R_reads' HO_9.out).2.1); (case side3 => repeat (first | exact (Kd.R_reads' HO_16.out).2.2 | (with_reducible refine Kd.C_alloc ?_ _) | (with_reducible refine Kd.C_drewN ?_ _) | (with_reducible refine Kd.C_drew ?_))); (case side4 => exact (Kd.R_reads' HO_16.out).2.1); rintro e w' ⟨rfl, ⟨nd, rfl⟩⟩; obtain ⟨Ao66, co66, eo66⟩ := Kd.R_slice HO_13.out; subst eo66; obtain ⟨Ao67, co67, eo67⟩ := Kd.R_slice HO_18.out; subst eo67) | (go_at_call 33; (with_reducible refine (pylonref13_SameDates.calls k4 _ _ t819 _ _ t830 t848 _ ?side1 ?side2 ?side3 ?side4 A61.out).mono ?_); (case side1 => repeat (first | exact (Kd.R_reads' HO_13.out).2.2 | (with_reducible refine Kd.C_alloc ?_ _) | (with_reducible refine Kd.C_drewN ?_ _) | (with_reducible refine Kd.C_drew ?_))); (case side2 => exact (Kd.R_reads' HO_13.out).2.1); (case side3 => repeat (first | exact (Kd.R_reads' HO_18.out).2.2 | (with_reducible refine Kd.C_alloc ?_ _) | (with_reducible refine Kd.C_drewN ?_ _) | (with_reducible refine Kd.C_drew ?_))); (case side4 => exact (Kd.R_reads' HO_18.out).2.1); rintro e w' ⟨rfl, ⟨nd, rfl⟩⟩))
                 go_meet
                 case rel => exact ⟨_, (t848), (by first | rfl | (simp; done) | (simp [*]; done)), H', ⟨by have := HK1.out; have := HK2.out; have := HK3.out; have := HK4.out; first | omega | exact Nat.le_refl _⟩, ⟨by (try simp only [hl5_1]); (try simp only [hl6_2]); (try simp only [hl11_3]); (with_reducible repeat first|refine blk_drewN ?_ _|refine blk_drew ?_|refine blk_alloc ?_ _); exact BK786.out⟩, ⟨bw⟩⟩
                ·replace c60 := Bool.eq_false_iff.mpr c60
                 subst c60
                 have H1 : (pylonlaw13_PeriodKeeps.j4 k4 false) = some r := by rw [if_neg (show ¬ (false = true) by decide)] at H; exact H
                 clear H
                 have H := H1
                 clear H1
                 have H' := AX H
                 clear H
                 obtain ⟨Ao68, co68, eo68⟩ := Kd.R_slice HO_8.out
                 subst eo68
                 obtain ⟨Ao69, co69, eo69⟩ := Kd.R_slice HO_15.out
                 subst eo69
                 go_wp2_with (first | ((with_reducible refine gate_callee (f := 36) rfl ?_); refine goesL_ (some 152) rfl rfl Try.func36 (by kernel_rfl) rfl #[.slice Ao68 t808.length co68, .slice Ao69 t823.length co69] rfl (by (try simp only [List.map_toArray, List.map_cons, List.map_nil]); first | done | rfl | (simp only [List.length_drop, List.length_take]; rfl)) ?_; (with_reducible refine (pylonref11_SameSpans.calls k4 _ _ t808 _ _ t823 true _ ?side1 ?side2 ?side3 ?side4 A57.out).mono ?_); (case side1 => repeat (first | exact (Kd.R_reads' HO_8.out).2.2 | (with_reducible refine Kd.C_alloc ?_ _) | (with_reducible refine Kd.C_drewN ?_ _) | (with_reducible refine Kd.C_drew ?_))); (case side2 => exact (Kd.R_reads' HO_8.out).2.1); (case side3 => repeat (first | exact (Kd.R_reads' HO_15.out).2.2 | (with_reducible refine Kd.C_alloc ?_ _) | (with_reducible refine Kd.C_drewN ?_ _) | (with_reducible refine Kd.C_drew ?_))); (case side4 => exact (Kd.R_reads' HO_15.out).2.1); rintro e w' ⟨rfl, ⟨nd, rfl⟩⟩; refine ⟨_, rfl, ?_⟩; obtain ⟨Ao70, co70, eo70⟩ := Kd.R_slice HO_9.out; subst eo70; obtain ⟨Ao71, co71, eo71⟩ := Kd.R_slice HO_16.out; subst eo71) | (go_at_call 33; (with_reducible refine (pylonref13_SameDates.calls k4 _ _ t811 _ _ t826 false _ ?side1 ?side2 ?side3 ?side4 A59.out).mono ?_); (case side1 => repeat (first | exact (Kd.R_reads' HO_9.out).2.2 | (with_reducible refine Kd.C_alloc ?_ _) | (with_reducible refine Kd.C_drewN ?_ _) | (with_reducible refine Kd.C_drew ?_))); (case side2 => exact (Kd.R_reads' HO_9.out).2.1); (case side3 => repeat (first | exact (Kd.R_reads' HO_16.out).2.2 | (with_reducible refine Kd.C_alloc ?_ _) | (with_reducible refine Kd.C_drewN ?_ _) | (with_reducible refine Kd.C_drew ?_))); (case side4 => exact (Kd.R_reads' HO_16.out).2.1); rintro e w' ⟨rfl, ⟨nd, rfl⟩⟩))
                 go_meet
                 case rel => exact ⟨_, (false), (by first | rfl | (simp; done) | (simp [*]; done)), H', ⟨by have := HK1.out; have := HK2.out; have := HK3.out; have := HK4.out; first | omega | exact Nat.le_refl _⟩, ⟨by (try simp only [hl5_1]); (try simp only [hl6_2]); (try simp only [hl11_3]); (with_reducible repeat first|refine blk_drewN ?_ _|refine blk_drew ?_|refine blk_alloc ?_ _); exact BK786.out⟩, ⟨bw⟩⟩
               ·replace c58 := Bool.eq_false_iff.mpr c58
                subst c58
                have H1 : (pylonlaw13_PeriodKeeps.j4 k4 false) = some r := by rw [if_neg (show ¬ (false = true) by decide)] at H; exact H
                clear H
                have H := H1
                clear H1
                have H' := AX H
                clear H
                obtain ⟨Ao72, co72, eo72⟩ := Kd.R_slice HO_8.out
                subst eo72
                obtain ⟨Ao73, co73, eo73⟩ := Kd.R_slice HO_15.out
                subst eo73
                go_wp2_with (first | ((with_reducible refine gate_callee (f := 36) rfl ?_); refine goesL_ (some 152) rfl rfl Try.func36 (by kernel_rfl) rfl #[.slice Ao72 t808.length co72, .slice Ao73 t823.length co73] rfl (by (try simp only [List.map_toArray, List.map_cons, List.map_nil]); first | done | rfl | (simp only [List.length_drop, List.length_take]; rfl)) ?_; (with_reducible refine (pylonref11_SameSpans.calls k4 _ _ t808 _ _ t823 false _ ?side1 ?side2 ?side3 ?side4 A57.out).mono ?_); (case side1 => repeat (first | exact (Kd.R_reads' HO_8.out).2.2 | (with_reducible refine Kd.C_alloc ?_ _) | (with_reducible refine Kd.C_drewN ?_ _) | (with_reducible refine Kd.C_drew ?_))); (case side2 => exact (Kd.R_reads' HO_8.out).2.1); (case side3 => repeat (first | exact (Kd.R_reads' HO_15.out).2.2 | (with_reducible refine Kd.C_alloc ?_ _) | (with_reducible refine Kd.C_drewN ?_ _) | (with_reducible refine Kd.C_drew ?_))); (case side4 => exact (Kd.R_reads' HO_15.out).2.1); rintro e w' ⟨rfl, ⟨nd, rfl⟩⟩; refine ⟨_, rfl, ?_⟩))
                go_meet
                case rel => exact ⟨_, (false), (by first | rfl | (simp; done) | (simp [*]; done)), H', ⟨by have := HK1.out; have := HK2.out; have := HK3.out; have := HK4.out; first | omega | exact Nat.le_refl _⟩, ⟨by (try simp only [hl5_1]); (try simp only [hl6_2]); (try simp only [hl11_3]); (with_reducible repeat first|refine blk_drewN ?_ _|refine blk_drew ?_|refine blk_alloc ?_ _); exact BK786.out⟩, ⟨bw⟩⟩
              case rest =>
               clear HC56
               try clear c4
               try clear c29
               try clear c29b0
               try clear c36
               try clear c36b0
               try clear c43
               try clear c43b0
               try clear c49
               try clear c49b0
               try clear hcz14_0 hcz14_1
               try clear hcz14_10 hcz14_11 hcz14_12
               try clear hcz14_2 hcz14_3 hcz14_4 hcz14_5 hcz14_6 hcz14_7 hcz14_8 hcz14_9
               try clear hcz16_0 hcz16_1
               try clear hcz16_10 hcz16_11 hcz16_12
               try clear hcz16_2 hcz16_3 hcz16_4 hcz16_5 hcz16_6 hcz16_7 hcz16_8 hcz16_9
               try clear hcz18_0 hcz18_1
               try clear hcz18_10 hcz18_11 hcz18_12
               try clear hcz18_2 hcz18_3 hcz18_4 hcz18_5 hcz18_6 hcz18_7 hcz18_8 hcz18_9
               try clear hcz20_0 hcz20_1
               try clear hcz20_10 hcz20_11 hcz20_12
               try clear hcz20_2 hcz20_3 hcz20_4 hcz20_5 hcz20_6 hcz20_7 hcz20_8 hcz20_9
               try clear hcz22_0 hcz22_1
               try clear hcz22_10 hcz22_11 hcz22_12
               try clear hcz22_2 hcz22_3 hcz22_4 hcz22_5 hcz22_6 hcz22_7 hcz22_8 hcz22_9
               try clear hcz24_0 hcz24_1
               try clear hcz24_10 hcz24_11 hcz24_12
               try clear hcz24_2 hcz24_3 hcz24_4 hcz24_5 hcz24_6 hcz24_7 hcz24_8 hcz24_9
               try clear hcz26_0 hcz26_1
               try clear hcz26_10 hcz26_11 hcz26_12
               try clear hcz26_2 hcz26_3 hcz26_4 hcz26_5 hcz26_6 hcz26_7 hcz26_8 hcz26_9
               try clear hfz14_0 hfz14_1
               try clear hfz14_10 hfz14_11 hfz14_12
               try clear hfz14_2 hfz14_3 hfz14_4 hfz14_5 hfz14_6 hfz14_7 hfz14_8 hfz14_9
               try clear hfz16_0 hfz16_1
               try clear hfz16_10 hfz16_11 hfz16_12
               try clear hfz16_2 hfz16_3 hfz16_4 hfz16_5 hfz16_6 hfz16_7 hfz16_8 hfz16_9
               try clear hfz18_0 hfz18_1
               try clear hfz18_10 hfz18_11 hfz18_12
               try clear hfz18_2 hfz18_3 hfz18_4 hfz18_5 hfz18_6 hfz18_7 hfz18_8 hfz18_9
               try clear hfz20_0 hfz20_1
               try clear hfz20_10 hfz20_11 hfz20_12
               try clear hfz20_2 hfz20_3 hfz20_4 hfz20_5 hfz20_6 hfz20_7 hfz20_8 hfz20_9
               try clear hfz22_0 hfz22_1
               try clear hfz22_10 hfz22_11 hfz22_12
               try clear hfz22_2 hfz22_3 hfz22_4 hfz22_5 hfz22_6 hfz22_7 hfz22_8 hfz22_9
               try clear hfz24_0 hfz24_1
               try clear hfz24_10 hfz24_11 hfz24_12
               try clear hfz24_2 hfz24_3 hfz24_4 hfz24_5 hfz24_6 hfz24_7 hfz24_8 hfz24_9
               try clear hfz26_0 hfz26_1
               try clear hfz26_10 hfz26_11 hfz26_12
               try clear hfz26_2 hfz26_3 hfz26_4 hfz26_5 hfz26_6 hfz26_7 hfz26_8 hfz26_9
               obtain ⟨kq, x4_55, rfl, HA, HJ55, BK786, HB⟩ := hcut
               cases kq with
               | zero => exact absurd HA.out (by simp [pylonlaw13_PeriodKeeps.j4])
               | succ kj55 =>
                have H := HA.out
                clear HA
                simp only [pylonlaw13_PeriodKeeps.j4] at H
                obtain rfl := Option.some.inj H
                go_wp2
                go_ret
                exact ⟨by first | rfl | (simp [errW_none, errW_some] <;> rfl) | (simp [*, errW_none, errW_some] <;> rfl), bw⟩
 ·replace c4 := Bool.eq_false_iff.mpr c4
  subst c4
  have H1 : (some false) = some r := by rw [if_neg (show ¬ (false = true) by decide)] at H; exact H
  clear H
  have H := H1
  clear H1
  obtain rfl := Option.some.inj H
  go_enter Try.func13, Try.ntmps13
  go_wp2_with (first | ((with_reducible refine gate_dst (N := 2) rfl ?_); refine box_event ?hg (N := 2) ?hd (cs := #[.int .i64 a0_0, .int .i64 a0_1, .int .i64 a0_2, .int .i64 a0_3, .int .i64 a0_4, .int .i64 a0_5, .int .i64 a0_6, .int .i64 a0_7, .int .i64 a0_8, .int .i64 a0_9, .int .i64 a0_10, .int .i64 a0_11, .int .i64 a0_12]) (t := 61) ?hr ?_; (case hd => rfl); (case hg => rfl); (case hr => first | (go_simp; done) | (go_simp; rfl)); intro gb786 hg w74 hbox hb; have n0_ := AX (below_step bw hb); have n1_ := AX (hbox); have n2_ := AX ((by rw [hg]; exact (below_size bw) : w.heap.size ≤ gb786)); have n3_ := n2_; clear HB; have HB := n0_; have BK786 := n1_; have GW786 := n2_; have GE786 := n3_; clear n0_ n1_ n2_ n3_; clear hb hbox hg) | ((with_reducible refine gate_callee (f := 29) rfl ?_); refine goesL_ (some 23) rfl rfl Try.func29 (by kernel_rfl) rfl #[] rfl (by (try simp only [List.map_toArray, List.map_cons, List.map_nil]); first | done | rfl | (simp only [List.length_drop, List.length_take]; rfl)) ?_; (with_reducible refine (pylonlaw13_awake.calls k  false _ A3.out).mono ?_); rintro e w75 ⟨rfl, hb⟩; refine ⟨_, rfl, ?_⟩; have n0_ := AX (bkb BK786 hb); have n1_ := AX (below_step bw hb); clear BK786; clear HB; have BK786 := n0_; have HB := n1_; clear n0_ n1_; (try clear hb)))
  go_ret
  exact ⟨by first | rfl | (simp [errW_none, errW_some] <;> rfl) | (simp [*, errW_none, errW_some] <;> rfl), bw⟩

end Go.Proofs.Ytddkckpfmleffaa.PX
