/- Functions of the program as plain Lean functions, each with a proof that the call in the machine answers just what the plain function says; condition: the plain function answers at all. -/
import Derived.Test.YtddkckpfmleffaaPXx0
import Derived.Test.YtddkckpfmleffaaPXx1
import Derived.Test.YtddkckpfmleffaaPXx5
import Derived.Test.YtddkckpfmleffaaPXx7
namespace Go.Proofs.Ytddkckpfmleffaa.PX
open Go.RowKit Go.Proofs.YtddkckpfmleffaaW.PrintWords Go.Proofs.YtddkckpfmleffaaW.PrintLast Go.Proofs.YtddkckpfmleffaaW.PrintMore
attribute [local go_sem] max2_int min2_int max_two min_two max_three min_three max_four min_four   -- for this text's walks alone
set_option linter.unusedVariables false
set_option linter.unusedSimpArgs false

attribute [local go_sem high] eqA33
/-! ### period_good: function 56 -/
def period_good.f (a0 : Int) (a1 : Int) (a2 : Int) : Option (Bool) := if a1 = 15 then (if a2 ≥ 0 then (if a2 ≤ 40000 then (if a0 ≥ 0 then (if a0 ≤ 253402300799 then (some (decide ((wrap64 ((wrap64 (a0 + (wrap64 ((wrap64 (60 * a1)) * a2)))) - 1)) ≤ 253402300799))) else (some false)) else (some false)) else (some false)) else (some false)) else (if a1 = 30 then (if a2 ≥ 0 then (if a2 ≤ 40000 then (if a0 ≥ 0 then (if a0 ≤ 253402300799 then (some (decide ((wrap64 ((wrap64 (a0 + (wrap64 ((wrap64 (60 * a1)) * a2)))) - 1)) ≤ 253402300799))) else (some false)) else (some false)) else (some false)) else (some false)) else (if a1 = 60 then (if a2 ≥ 0 then (if a2 ≤ 40000 then (if a0 ≥ 0 then (if a0 ≤ 253402300799 then (some (decide ((wrap64 ((wrap64 (a0 + (wrap64 ((wrap64 (60 * a1)) * a2)))) - 1)) ≤ 253402300799))) else (some false)) else (some false)) else (some false)) else (some false)) else (some false)))
set_option maxHeartbeats 8000000 in
set_option maxRecDepth 100000 in
theorem period_good.calls (a0 : Int) (a1 : Int) (a2 : Int) (r : Bool) (w : World) (h : period_good.f a0 a1 a2 = some r) :
  Calls Try.prog 56 #[.int .i64 a0, .int .i64 a1, .int .i64 a2] w fun e w' => e = .returned (.bool r) ∧ Drawn0 w w' := by
 have H : (if a1 = 15 then (if a2 ≥ 0 then (if a2 ≤ 40000 then (if a0 ≥ 0 then (if a0 ≤ 253402300799 then (some (decide ((wrap64 ((wrap64 (a0 + (wrap64 ((wrap64 (60 * a1)) * a2)))) - 1)) ≤ 253402300799))) else (some false)) else (some false)) else (some false)) else (some false)) else (if a1 = 30 then (if a2 ≥ 0 then (if a2 ≤ 40000 then (if a0 ≥ 0 then (if a0 ≤ 253402300799 then (some (decide ((wrap64 ((wrap64 (a0 + (wrap64 ((wrap64 (60 * a1)) * a2)))) - 1)) ≤ 253402300799))) else (some false)) else (some false)) else (some false)) else (some false)) else (if a1 = 60 then (if a2 ≥ 0 then (if a2 ≤ 40000 then (if a0 ≥ 0 then (if a0 ≤ 253402300799 then (some (decide ((wrap64 ((wrap64 (a0 + (wrap64 ((wrap64 (60 * a1)) * a2)))) - 1)) ≤ 253402300799))) else (some false)) else (some false)) else (some false)) else (some false)) else (some false)))) = some r := h
 clear h
 by_cases c4 : a1 = 15
 ·rw [if_pos c4] at H
  have c4b0 : (a1 == 15) = true := beq_iff_eq.mpr c4
  have c4b1 : (a1 != 15) = false := bne_eq_false_iff_eq.mpr c4
  clear c4
  by_cases c5 : a2 ≥ 0
  ·rw [if_pos c5] at H
   have c5b0 : decide (0 ≤ a2) = true := decide_eq_true c5
   clear c5
   by_cases c6 : a2 ≤ 40000
   ·rw [if_pos c6] at H
    have c6b0 : decide (a2 ≤ 40000) = true := decide_eq_true c6
    clear c6
    by_cases c7 : a0 ≥ 0
    ·rw [if_pos c7] at H
     have c7b0 : decide (0 ≤ a0) = true := decide_eq_true c7
     clear c7
     by_cases c8 : a0 ≤ 253402300799
     ·rw [if_pos c8] at H
      have c8b0 : decide (a0 ≤ 253402300799) = true := decide_eq_true c8
      clear c8
      obtain rfl := Option.some.inj H
      go_enter Try.func56, Try.ntmps56
      go_wp2
      go_ret
      exact ⟨by first | rfl | (simp; done) | (simp [*]; done), by repeat (first | exact Drawn0.refl _ | apply Drawn0.step)⟩
     ·rw [if_neg c8] at H
      have c8b0 : decide (a0 ≤ 253402300799) = false := decide_eq_false c8
      clear c8
      obtain rfl := Option.some.inj H
      go_enter Try.func56, Try.ntmps56
      go_wp2
      go_ret
      exact ⟨by first | rfl | (simp; done) | (simp [*]; done), by repeat (first | exact Drawn0.refl _ | apply Drawn0.step)⟩
    ·rw [if_neg c7] at H
     have c7b0 : decide (0 ≤ a0) = false := decide_eq_false c7
     clear c7
     obtain rfl := Option.some.inj H
     go_enter Try.func56, Try.ntmps56
     go_wp2
     go_ret
     exact ⟨by first | rfl | (simp; done) | (simp [*]; done), by repeat (first | exact Drawn0.refl _ | apply Drawn0.step)⟩
   ·rw [if_neg c6] at H
    have c6b0 : decide (a2 ≤ 40000) = false := decide_eq_false c6
    clear c6
    obtain rfl := Option.some.inj H
    go_enter Try.func56, Try.ntmps56
    go_wp2
    go_ret
    exact ⟨by first | rfl | (simp; done) | (simp [*]; done), by repeat (first | exact Drawn0.refl _ | apply Drawn0.step)⟩
  ·rw [if_neg c5] at H
   have c5b0 : decide (0 ≤ a2) = false := decide_eq_false c5
   clear c5
   obtain rfl := Option.some.inj H
   go_enter Try.func56, Try.ntmps56
   go_wp2
   go_ret
   exact ⟨by first | rfl | (simp; done) | (simp [*]; done), by repeat (first | exact Drawn0.refl _ | apply Drawn0.step)⟩
 ·rw [if_neg c4] at H
  have c4b0 : (a1 == 15) = false := beq_eq_false_iff_ne.mpr c4
  have c4b1 : (a1 != 15) = true := bne_iff_ne.mpr c4
  by_cases c9 : a1 = 30
  ·rw [if_pos c9] at H
   have c9b0 : (a1 == 30) = true := beq_iff_eq.mpr c9
   have c9b1 : (a1 != 30) = false := bne_eq_false_iff_eq.mpr c9
   clear c9
   by_cases c10 : a2 ≥ 0
   ·rw [if_pos c10] at H
    have c10b0 : decide (0 ≤ a2) = true := decide_eq_true c10
    clear c10
    by_cases c11 : a2 ≤ 40000
    ·rw [if_pos c11] at H
     have c11b0 : decide (a2 ≤ 40000) = true := decide_eq_true c11
     clear c11
     by_cases c12 : a0 ≥ 0
     ·rw [if_pos c12] at H
      have c12b0 : decide (0 ≤ a0) = true := decide_eq_true c12
      clear c12
      by_cases c13 : a0 ≤ 253402300799
      ·rw [if_pos c13] at H
       have c13b0 : decide (a0 ≤ 253402300799) = true := decide_eq_true c13
       clear c13
       obtain rfl := Option.some.inj H
       go_enter Try.func56, Try.ntmps56
       go_wp2
       go_ret
       exact ⟨by first | rfl | (simp; done) | (simp [*]; done), by repeat (first | exact Drawn0.refl _ | apply Drawn0.step)⟩
      ·rw [if_neg c13] at H
       have c13b0 : decide (a0 ≤ 253402300799) = false := decide_eq_false c13
       clear c13
       obtain rfl := Option.some.inj H
       go_enter Try.func56, Try.ntmps56
       go_wp2
       go_ret
       exact ⟨by first | rfl | (simp; done) | (simp [*]; done), by repeat (first | exact Drawn0.refl _ | apply Drawn0.step)⟩
     ·rw [if_neg c12] at H
      have c12b0 : decide (0 ≤ a0) = false := decide_eq_false c12
      clear c12
      obtain rfl := Option.some.inj H
      go_enter Try.func56, Try.ntmps56
      go_wp2
      go_ret
      exact ⟨by first | rfl | (simp; done) | (simp [*]; done), by repeat (first | exact Drawn0.refl _ | apply Drawn0.step)⟩
    ·rw [if_neg c11] at H
     have c11b0 : decide (a2 ≤ 40000) = false := decide_eq_false c11
     clear c11
     obtain rfl := Option.some.inj H
     go_enter Try.func56, Try.ntmps56
     go_wp2
     go_ret
     exact ⟨by first | rfl | (simp; done) | (simp [*]; done), by repeat (first | exact Drawn0.refl _ | apply Drawn0.step)⟩
   ·rw [if_neg c10] at H
    have c10b0 : decide (0 ≤ a2) = false := decide_eq_false c10
    clear c10
    obtain rfl := Option.some.inj H
    go_enter Try.func56, Try.ntmps56
    go_wp2
    go_ret
    exact ⟨by first | rfl | (simp; done) | (simp [*]; done), by repeat (first | exact Drawn0.refl _ | apply Drawn0.step)⟩
  ·rw [if_neg c9] at H
   have c9b0 : (a1 == 30) = false := beq_eq_false_iff_ne.mpr c9
   have c9b1 : (a1 != 30) = true := bne_iff_ne.mpr c9
   by_cases c14 : a1 = 60
   ·rw [if_pos c14] at H
    have c14b0 : (a1 == 60) = true := beq_iff_eq.mpr c14
    have c14b1 : (a1 != 60) = false := bne_eq_false_iff_eq.mpr c14
    clear c14
    by_cases c15 : a2 ≥ 0
    ·rw [if_pos c15] at H
     have c15b0 : decide (0 ≤ a2) = true := decide_eq_true c15
     clear c15
     by_cases c16 : a2 ≤ 40000
     ·rw [if_pos c16] at H
      have c16b0 : decide (a2 ≤ 40000) = true := decide_eq_true c16
      clear c16
      by_cases c17 : a0 ≥ 0
      ·rw [if_pos c17] at H
       have c17b0 : decide (0 ≤ a0) = true := decide_eq_true c17
       clear c17
       by_cases c18 : a0 ≤ 253402300799
       ·rw [if_pos c18] at H
        have c18b0 : decide (a0 ≤ 253402300799) = true := decide_eq_true c18
        clear c18
        obtain rfl := Option.some.inj H
        go_enter Try.func56, Try.ntmps56
        go_wp2
        go_ret
        exact ⟨by first | rfl | (simp; done) | (simp [*]; done), by repeat (first | exact Drawn0.refl _ | apply Drawn0.step)⟩
       ·rw [if_neg c18] at H
        have c18b0 : decide (a0 ≤ 253402300799) = false := decide_eq_false c18
        clear c18
        obtain rfl := Option.some.inj H
        go_enter Try.func56, Try.ntmps56
        go_wp2
        go_ret
        exact ⟨by first | rfl | (simp; done) | (simp [*]; done), by repeat (first | exact Drawn0.refl _ | apply Drawn0.step)⟩
      ·rw [if_neg c17] at H
       have c17b0 : decide (0 ≤ a0) = false := decide_eq_false c17
       clear c17
       obtain rfl := Option.some.inj H
       go_enter Try.func56, Try.ntmps56
       go_wp2
       go_ret
       exact ⟨by first | rfl | (simp; done) | (simp [*]; done), by repeat (first | exact Drawn0.refl _ | apply Drawn0.step)⟩
     ·rw [if_neg c16] at H
      have c16b0 : decide (a2 ≤ 40000) = false := decide_eq_false c16
      clear c16
      obtain rfl := Option.some.inj H
      go_enter Try.func56, Try.ntmps56
      go_wp2
      go_ret
      exact ⟨by first | rfl | (simp; done) | (simp [*]; done), by repeat (first | exact Drawn0.refl _ | apply Drawn0.step)⟩
    ·rw [if_neg c15] at H
     have c15b0 : decide (0 ≤ a2) = false := decide_eq_false c15
     clear c15
     obtain rfl := Option.some.inj H
     go_enter Try.func56, Try.ntmps56
     go_wp2
     go_ret
     exact ⟨by first | rfl | (simp; done) | (simp [*]; done), by repeat (first | exact Drawn0.refl _ | apply Drawn0.step)⟩
   ·rw [if_neg c14] at H
    have c14b0 : (a1 == 60) = false := beq_eq_false_iff_ne.mpr c14
    have c14b1 : (a1 != 60) = true := bne_iff_ne.mpr c14
    obtain rfl := Option.some.inj H
    go_enter Try.func56, Try.ntmps56
    go_wp2
    go_ret
    exact ⟨by first | rfl | (simp; done) | (simp [*]; done), by repeat (first | exact Drawn0.refl _ | apply Drawn0.step)⟩

/-! ### period_Dates: function 32 -/
mutual
def period_Dates.j0 : Nat → Int → Int → Int → Bool → Int → Int → Int → Int → Int → Int → Int → Int → Int → Int → Option ((List (S33)) × Int)
 | 0, _, _, _, _, _, _, _, _, _, _, _, _, _, _ => none
 | k + 1, x1, x2, x3, x23, x583000, x583001, x583002, x583003, x583004, x583005, x583006, x583007, x583008, x583009 => if x23 = true then (some (([] : List (S33)), 8)) else (if 0 ≤ x3 then (if (x3 : Int).toNat ≤ 11728124029610 then ((some (List.replicate (x3 : Int).toNat z33 : List (S33))).bind fun y585 => (period_Dates.l0 k x1 x2 y585 (y585.length : Int) 0 x583000 x583001 x583002 x583003 x583004 x583005 x583006 x583007 x583008 x583009)) else (none)) else (none))
def period_Dates.l0 : Nat → Int → Int → List (S33) → Int → Int → Int → Int → Int → Int → Int → Int → Int → Int → Int → Int → Option ((List (S33)) × Int)
 | 0, _, _, _, _, _, _, _, _, _, _, _, _, _, _, _ => none
 | k + 1, x1, x2, x10, x27, x28, x583000, x583001, x583002, x583003, x583004, x583005, x583006, x583007, x583008, x583009 => if x28 < x27 then ((zone_At.f k x583000 x583001 x583002 x583003 x583004 x583005 x583006 x583007 x583008 x583009 (wrap64 (x1 + (wrap64 ((wrap64 (60 * x2)) * x28))))).bind fun bt588 => (if bt588.2.2.2.2.2 = 0 then (if 0 ≤ x28 then (if x28 < (x10.length : Int) then (period_Dates.l0 k x1 x2 (x10.set (x28 : Int).toNat (⟨bt588.1, bt588.2.1, bt588.2.2.1⟩ : S33)) x27 (wrap64 (x28 + 1)) x583000 x583001 x583002 x583003 x583004 x583005 x583006 x583007 x583008 x583009) else (none)) else (none)) else (some (([] : List (S33)), bt588.2.2.2.2.2)))) else (some (x10, 0))
end
def period_Dates.f (k : Nat) (a0_0 : Int) (a0_1 : Int) (a0_2 : Int) (a0_3 : Int) (a0_4 : Int) (a0_5 : Int) (a0_6 : Int) (a0_7 : Int) (a0_8 : Int) (a0_9 : Int) (a1 : Int) (a2 : Int) (a3 : Int) : Option ((List (S33)) × Int) := (zone_Check.f k a0_0 a0_1 a0_2 a0_3 a0_4 a0_5 a0_6 a0_7 a0_8 a0_9).bind fun t583 => (if t583 = 0 then ((period_good.f a1 a2 a3).bind fun t584 => (period_Dates.j0 k a1 a2 a3 (!t584) a0_0 a0_1 a0_2 a0_3 a0_4 a0_5 a0_6 a0_7 a0_8 a0_9)) else (period_Dates.j0 k a1 a2 a3 true a0_0 a0_1 a0_2 a0_3 a0_4 a0_5 a0_6 a0_7 a0_8 a0_9))
theorem period_Dates.mono_l : ∀ k, (∀ y0 y1 y2 y3 y4 y5 y6 y7 y8 y9 y10 y11 y12 y13, LeO (period_Dates.j0 k y0 y1 y2 y3 y4 y5 y6 y7 y8 y9 y10 y11 y12 y13) (period_Dates.j0 (k + 1) y0 y1 y2 y3 y4 y5 y6 y7 y8 y9 y10 y11 y12 y13)) ∧ (∀ y0 y1 y2 y3 y4 y5 y6 y7 y8 y9 y10 y11 y12 y13 y14, LeO (period_Dates.l0 k y0 y1 y2 y3 y4 y5 y6 y7 y8 y9 y10 y11 y12 y13 y14) (period_Dates.l0 (k + 1) y0 y1 y2 y3 y4 y5 y6 y7 y8 y9 y10 y11 y12 y13 y14))
 | 0 => ⟨fun _ _ _ _ _ _ _ _ _ _ _ _ _ _ r h => by simp [period_Dates.j0] at h, fun _ _ _ _ _ _ _ _ _ _ _ _ _ _ _ r h => by simp [period_Dates.l0] at h⟩
 | k + 1 => by
  obtain ⟨ih0, ih1⟩ := period_Dates.mono_l k
  refine ⟨?_, ?_⟩
  ·intro y0 y1 y2 y3 y4 y5 y6 y7 y8 y9 y10 y11 y12 y13
   unfold period_Dates.j0
   repeat' first
   | (with_reducible exact ih0 _ _ _ _ _ _ _ _ _ _ _ _ _ _)
   | (with_reducible exact ih1 _ _ _ _ _ _ _ _ _ _ _ _ _ _ _)
   | (with_reducible exact zone_At.mono _ _ _ _ _ _ _ _ _ _ _ _)
   | (with_reducible exact zone_Check.mono _ _ _ _ _ _ _ _ _ _ _)
   | (with_reducible exact LeO.refl _)
   | (with_reducible exact LeO.none _)
   | (with_reducible refine LeO.ite ?_ ?_)
   | (with_reducible refine LeO.bind ?_ (fun _ => ?_))
   | exact ih0 _ _ _ _ _ _ _ _ _ _ _ _ _ _
   | exact ih1 _ _ _ _ _ _ _ _ _ _ _ _ _ _ _
   | exact zone_At.mono _ _ _ _ _ _ _ _ _ _ _ _
   | exact zone_Check.mono _ _ _ _ _ _ _ _ _ _ _
   | exact LeO.none _
   | refine LeO.ite ?_ ?_
   | refine LeO.bind ?_ (fun _ => ?_)
  ·intro y0 y1 y2 y3 y4 y5 y6 y7 y8 y9 y10 y11 y12 y13 y14
   unfold period_Dates.l0
   repeat' first
   | (with_reducible exact ih0 _ _ _ _ _ _ _ _ _ _ _ _ _ _)
   | (with_reducible exact ih1 _ _ _ _ _ _ _ _ _ _ _ _ _ _ _)
   | (with_reducible exact zone_At.mono _ _ _ _ _ _ _ _ _ _ _ _)
   | (with_reducible exact zone_Check.mono _ _ _ _ _ _ _ _ _ _ _)
   | (with_reducible exact LeO.refl _)
   | (with_reducible exact LeO.none _)
   | (with_reducible refine LeO.ite ?_ ?_)
   | (with_reducible refine LeO.bind ?_ (fun _ => ?_))
   | exact ih0 _ _ _ _ _ _ _ _ _ _ _ _ _ _
   | exact ih1 _ _ _ _ _ _ _ _ _ _ _ _ _ _ _
   | exact zone_At.mono _ _ _ _ _ _ _ _ _ _ _ _
   | exact zone_Check.mono _ _ _ _ _ _ _ _ _ _ _
   | exact LeO.none _
   | refine LeO.ite ?_ ?_
   | refine LeO.bind ?_ (fun _ => ?_)
theorem period_Dates.mono : ∀ a0 a1 a2 a3 a4 a5 a6 a7 a8 a9 a10 a11 a12 k, LeO (period_Dates.f k a0 a1 a2 a3 a4 a5 a6 a7 a8 a9 a10 a11 a12) (period_Dates.f (k + 1) a0 a1 a2 a3 a4 a5 a6 a7 a8 a9 a10 a11 a12) := by
 intro a0 a1 a2 a3 a4 a5 a6 a7 a8 a9 a10 a11 a12 k
 obtain ⟨ih0, ih1⟩ := period_Dates.mono_l k
 unfold period_Dates.f
 repeat' first
   | (with_reducible exact ih0 _ _ _ _ _ _ _ _ _ _ _ _ _ _)
   | (with_reducible exact ih1 _ _ _ _ _ _ _ _ _ _ _ _ _ _ _)
   | (with_reducible exact zone_At.mono _ _ _ _ _ _ _ _ _ _ _ _)
   | (with_reducible exact zone_Check.mono _ _ _ _ _ _ _ _ _ _ _)
   | (with_reducible exact LeO.refl _)
   | (with_reducible exact LeO.none _)
   | (with_reducible refine LeO.ite ?_ ?_)
   | (with_reducible refine LeO.bind ?_ (fun _ => ?_))
   | exact ih0 _ _ _ _ _ _ _ _ _ _ _ _ _ _
   | exact ih1 _ _ _ _ _ _ _ _ _ _ _ _ _ _ _
   | exact zone_At.mono _ _ _ _ _ _ _ _ _ _ _ _
   | exact zone_Check.mono _ _ _ _ _ _ _ _ _ _ _
   | exact LeO.none _
   | refine LeO.ite ?_ ?_
   | refine LeO.bind ?_ (fun _ => ?_)
set_option maxHeartbeats 8000000 in
set_option maxRecDepth 100000 in
theorem period_Dates.calls (k : Nat) (a0_0 : Int) (a0_1 : Int) (a0_2 : Int) (a0_3 : Int) (a0_4 : Int) (a0_5 : Int) (a0_6 : Int) (a0_7 : Int) (a0_8 : Int) (a0_9 : Int) (a1 : Int) (a2 : Int) (a3 : Int) (r1 : List (S33)) (r2 : Int) (w : World) (h : period_Dates.f k a0_0 a0_1 a0_2 a0_3 a0_4 a0_5 a0_6 a0_7 a0_8 a0_9 a1 a2 a3 = some (r1, r2)) :
  Calls Try.prog 32 #[.agg #[.int .i64 a0_0, .int .i64 a0_1, .int .i64 a0_2, .int .i64 a0_3, .int .i64 a0_4, .int .i64 a0_5, .int .i64 a0_6, .int .i64 a0_7, .int .i64 a0_8, .int .i64 a0_9], .int .i64 a1, .int .i64 a2, .int .i64 a3] w fun e w' => ∃ v0_ : Value, e = .returned (.tuple #[v0_, .int .i64 r2]) ∧ Kd.R k33 33 w' w.heap.size (fun _ => True) v0_ r1 ∧ Below w.heap.size w w' := by
 have hu25 := Try.underlying25
 have hu35 := Try.underlying35
 have hu33 := Try.underlying33
 have HB := AX (Below.refl w.heap.size w)
 have H : ((zone_Check.f k a0_0 a0_1 a0_2 a0_3 a0_4 a0_5 a0_6 a0_7 a0_8 a0_9).bind fun t583 => (if t583 = 0 then ((period_good.f a1 a2 a3).bind fun t584 => (period_Dates.j0 k a1 a2 a3 (!t584) a0_0 a0_1 a0_2 a0_3 a0_4 a0_5 a0_6 a0_7 a0_8 a0_9)) else (period_Dates.j0 k a1 a2 a3 true a0_0 a0_1 a0_2 a0_3 a0_4 a0_5 a0_6 a0_7 a0_8 a0_9))) = some (r1, r2) := h
 clear h
 have HC5 := AX H
 clear H
 go_enter Try.func32, Try.ntmps32
 go_upto_region 1 with (first | ((with_reducible refine gate_dst (N := 4) rfl ?_); refine box_event ?hg (N := 4) ?hd (cs := #[.int .i64 a0_0, .int .i64 a0_1, .int .i64 a0_2, .int .i64 a0_3, .int .i64 a0_4, .int .i64 a0_5, .int .i64 a0_6, .int .i64 a0_7, .int .i64 a0_8, .int .i64 a0_9]) (t := 25) ?hr ?_; (case hd => rfl); (case hg => rfl); (case hr => first | (go_simp; done) | (go_simp; rfl)); intro gb582 hg w6 hbox hb; have n0_ := AX (below_step bw hb); have n1_ := AX (hbox); have n2_ := AX ((by rw [hg]; exact (below_size bw) : w.heap.size ≤ gb582)); have n3_ := n2_; clear HB; have HB := n0_; have BK582 := n1_; have GW582 := n2_; have GE582 := n3_; clear n0_ n1_ n2_ n3_; clear hb hbox hg))
 (try simp only [Act.put, List.setIfInBounds_toArray, List.set_cons_zero, List.set_cons_succ])
 go_cut [23] (fun v23 wc => ∃ (kq : Nat) (x23_4 : Bool), v23 = .bool x23_4 ∧ Aside0 (period_Dates.j0 kq a1 a2 a3 x23_4 a0_0 a0_1 a0_2 a0_3 a0_4 a0_5 a0_6 a0_7 a0_8 a0_9 = some (r1, r2)) ∧ Aside0 (kq ≤ k) ∧ Aside0 (wc.heap[gb582]? = some (.cells #[.int .i64 a0_0, .int .i64 a0_1, .int .i64 a0_2, .int .i64 a0_3, .int .i64 a0_4, .int .i64 a0_5, .int .i64 a0_6, .int .i64 a0_7, .int .i64 a0_8, .int .i64 a0_9] 25 (0, 0))) ∧ Aside0 (Below w.heap.size w wc))
 case first =>
  have H := HC5.out
  clear HC5
  replace H := Option.bind_eq_some_iff.mp H
  obtain ⟨t583, A70, H⟩ := H
  replace H : (if t583 = 0 then ((period_good.f a1 a2 a3).bind fun t584 => (period_Dates.j0 k a1 a2 a3 (!t584) a0_0 a0_1 a0_2 a0_3 a0_4 a0_5 a0_6 a0_7 a0_8 a0_9)) else (period_Dates.j0 k a1 a2 a3 true a0_0 a0_1 a0_2 a0_3 a0_4 a0_5 a0_6 a0_7 a0_8 a0_9)) = some (r1, r2) := H
  have A7 := AX A70
  clear A70
  by_cases c8 : t583 = 0
  ·rw [if_pos c8] at H
   have c8b0 : (t583 == 0) = true := beq_iff_eq.mpr c8
   have c8b1 : (t583 != 0) = false := bne_eq_false_iff_eq.mpr c8
   clear c8
   (first | rw [c8b0] | (simp only [i64_w, i32_w]; rw [c8b0]) | skip)
   replace H := Option.bind_eq_some_iff.mp H
   obtain ⟨t584, A90, H⟩ := H
   replace H : (period_Dates.j0 k a1 a2 a3 (!t584) a0_0 a0_1 a0_2 a0_3 a0_4 a0_5 a0_6 a0_7 a0_8 a0_9) = some (r1, r2) := H
   have A9 := AX A90
   clear A90
   have H' := AX H
   clear H
   obtain ⟨hcz10_0, hcz10_1, hcz10_2, hcz10_3, hcz10_4, hcz10_5, hcz10_6, hcz10_7, hcz10_8, hcz10_9⟩ := blkC10 (w := w6) BK582.out
   obtain ⟨hfz10_0, hfz10_1, hfz10_2, hfz10_3, hfz10_4, hfz10_5, hfz10_6, hfz10_7, hfz10_8, hfz10_9⟩ := blkF10 BK582.out
   go_wp2_with (first | ((with_reducible refine gate_callee (f := 19) rfl ?_); refine goesL_ (some 15) rfl rfl Try.func19 (by kernel_rfl) rfl #[.agg #[.int .i64 a0_0, .int .i64 a0_1, .int .i64 a0_2, .int .i64 a0_3, .int .i64 a0_4, .int .i64 a0_5, .int .i64 a0_6, .int .i64 a0_7, .int .i64 a0_8, .int .i64 a0_9]] rfl (by (try simp only [List.map_toArray, List.map_cons, List.map_nil]); first | done | rfl | (simp only [List.length_drop, List.length_take]; rfl)) ?_; (with_reducible refine (zone_Check.calls k a0_0 a0_1 a0_2 a0_3 a0_4 a0_5 a0_6 a0_7 a0_8 a0_9 t583 _ A7.out).mono ?_); rintro e w11 ⟨rfl, hb⟩; refine ⟨_, rfl, ?_⟩; have n0_ := AX (bkb BK582 hb); have n1_ := AX (below_step bw hb); clear BK582; clear HB; have BK582 := n0_; have HB := n1_; clear n0_ n1_; (try clear hb)) | (go_at_call 56; (with_reducible refine (period_good.calls a1 a2 a3 t584 _ A9.out).mono ?_); rintro e w' ⟨rfl, ⟨nd, rfl⟩⟩))
   go_meet
   case rel => exact ⟨_, (!t584), (by first | rfl | (simp; done) | (simp [*]; done)), H', ⟨by first | omega | exact Nat.le_refl _⟩, ⟨bkn BK582⟩, ⟨bw⟩⟩
  ·rw [if_neg c8] at H
   have c8b0 : (t583 == 0) = false := beq_eq_false_iff_ne.mpr c8
   have c8b1 : (t583 != 0) = true := bne_iff_ne.mpr c8
   (first | rw [c8b0] | (simp only [i64_w, i32_w]; rw [c8b0]) | skip)
   have H' := AX H
   clear H
   obtain ⟨hcz12_0, hcz12_1, hcz12_2, hcz12_3, hcz12_4, hcz12_5, hcz12_6, hcz12_7, hcz12_8, hcz12_9⟩ := blkC10 (w := w6) BK582.out
   obtain ⟨hfz12_0, hfz12_1, hfz12_2, hfz12_3, hfz12_4, hfz12_5, hfz12_6, hfz12_7, hfz12_8, hfz12_9⟩ := blkF10 BK582.out
   go_wp2_with (first | ((with_reducible refine gate_callee (f := 19) rfl ?_); refine goesL_ (some 15) rfl rfl Try.func19 (by kernel_rfl) rfl #[.agg #[.int .i64 a0_0, .int .i64 a0_1, .int .i64 a0_2, .int .i64 a0_3, .int .i64 a0_4, .int .i64 a0_5, .int .i64 a0_6, .int .i64 a0_7, .int .i64 a0_8, .int .i64 a0_9]] rfl (by (try simp only [List.map_toArray, List.map_cons, List.map_nil]); first | done | rfl | (simp only [List.length_drop, List.length_take]; rfl)) ?_; (with_reducible refine (zone_Check.calls k a0_0 a0_1 a0_2 a0_3 a0_4 a0_5 a0_6 a0_7 a0_8 a0_9 t583 _ A7.out).mono ?_); rintro e w13 ⟨rfl, hb⟩; refine ⟨_, rfl, ?_⟩; have n0_ := AX (bkb BK582 hb); have n1_ := AX (below_step bw hb); clear BK582; clear HB; have BK582 := n0_; have HB := n1_; clear n0_ n1_; (try clear hb)))
   go_meet
   case rel => exact ⟨_, (true), (by first | rfl | (simp; done) | (simp [*]; done)), H', ⟨by first | omega | exact Nat.le_refl _⟩, ⟨bkn BK582⟩, ⟨bw⟩⟩
 case rest =>
  clear HC5
  obtain ⟨kq, x23_4, rfl, HA, HJ4, BK582, HB⟩ := hcut
  cases kq with
  | zero => exact absurd HA.out (by simp [period_Dates.j0])
  | succ kj4 =>
   have H := HA.out
   clear HA
   simp only [period_Dates.j0] at H
   by_cases c14 : x23_4 = true
   ·subst c14
    have H1 : (some (([] : List (S33)), 8)) = some (r1, r2) := by rw [if_pos rfl] at H; exact H
    clear H
    have H := H1
    clear H1
    simp only [Option.some.injEq, Prod.mk.injEq] at H
    obtain ⟨rfl, rfl⟩ := H
    go_wp2
    go_ret2
    exact ⟨_, by first | rfl | (simp [errW_none, errW_some] <;> rfl) | (simp [*, errW_none, errW_some] <;> rfl), by first | exact Kd.R_nil _ _ _ _ _ | exact Kd.N_nil _ _ _ _ _ | exact Kd.V_nil _ _ _ _ _ | exact Kd.Q_nil _ _ _ _ _ | exact Kd.S_nil _ _ _ _ _, bw⟩
   ·replace c14 := Bool.eq_false_iff.mpr c14
    subst c14
    have H1 : (if 0 ≤ a3 then (if (a3 : Int).toNat ≤ 11728124029610 then ((some (List.replicate (a3 : Int).toNat z33 : List (S33))).bind fun y585 => (period_Dates.l0 kj4 a1 a2 y585 (y585.length : Int) 0 a0_0 a0_1 a0_2 a0_3 a0_4 a0_5 a0_6 a0_7 a0_8 a0_9)) else (none)) else (none)) = some (r1, r2) := by rw [if_neg (show ¬ (false = true) by decide)] at H; exact H
    clear H
    have H := H1
    clear H1
    by_cases c15 : 0 ≤ a3
    ·rw [if_pos c15] at H
     have c15b0 := eq_true c15
     have c15b1 : decide (0 ≤ a3) = true := decide_eq_true c15
     clear c15
     by_cases c16 : (a3 : Int).toNat ≤ 11728124029610
     ·rw [if_pos c16] at H
      have c16b0 := eq_true c16
      have c16b1 : decide ((a3 : Int).toNat ≤ 11728124029610) = true := decide_eq_true c16
      clear c16
      obtain ⟨y585, hy585⟩ : ∃ y_ : List (S33), y_ = (List.replicate (a3 : Int).toNat z33) := ⟨_, rfl⟩
      replace H : (period_Dates.l0 kj4 a1 a2 y585 (y585.length : Int) 0 a0_0 a0_1 a0_2 a0_3 a0_4 a0_5 a0_6 a0_7 a0_8 a0_9) = some (r1, r2) := by first | (rw [hy585]; with_reducible exact H) | (have H2_ := (Option.bind_some _ _).symm.trans H; rw [hy585]; with_reducible exact H2_) | (have H2_ := (Option.bind_some _ _).symm.trans H; with_reducible exact H2_) | with_reducible exact H | (rw [hy585]; exact H) | exact H
      have Ny585 := AX hy585
      clear hy585
      have H' := AX H
      clear H
      go_wp2_with (first | ((with_reducible refine gate_dst (N := 25) rfl ?_); refine Kd.R_make k33 _ 33 rfl (N := 25) rfl 63 _ _ rfl a3 rfl rfl Try.underlying63 (.agg #[(.int .i64 0), (.int .i64 0), (.int .i64 0)]) 24 info33 rfl (by decide) (by omega) z33 (ok := fun _ => True) (okp := fun _ => True) (k33_mkM _ _ _ z33 ) (fun _ hk => hk) trivial (of_decide_eq_true (by first | (with_reducible assumption) | assumption)) (Nat.le_trans (Nat.mul_le_mul_right _ (of_decide_eq_true (by first | (with_reducible assumption) | assumption) : a3.toNat ≤ 11728124029610)) (by omega)) (Below.refl _ _) (Nat.le_refl _) ?_; intro v586 w17 ho18 hb hg_ hnew_; clear hg_ hnew_; (first | rw [← Ny585.out] at ho18 | (simp only [Int.reduceToNat] at ho18; rw [← Ny585.out] at ho18)); have n0_ := AX (Kd.R_lower ho18 (below_size bw)); have n1_ := AX (bkb BK582 hb); have n2_ := AX (below_step bw hb); clear BK582; clear HB; have HO587 := n0_; have BK582 := n1_; have HB := n2_; clear n0_ n1_ n2_; clear hb ho18; obtain ⟨Ao19, co19, eo19⟩ := Kd.R_slice HO587.out; subst eo19))
      go_loopg [28] kj4 (fun kq v28 w' => ∃ (x10_2 : List (S33)) (x28_2 : Int), v28 = .int .i64 x28_2 ∧ Aside0 (period_Dates.l0 kq a1 a2 x10_2 (y585.length : Int) x28_2 a0_0 a0_1 a0_2 a0_3 a0_4 a0_5 a0_6 a0_7 a0_8 a0_9 = some (r1, r2)) ∧ Aside0 (kq ≤ kj4) ∧ Aside0 (Kd.R k33 33 w' w.heap.size (fun _ => True) (.slice Ao19 y585.length co19) x10_2) ∧ Aside0 (w'.heap[gb582]? = some (.cells #[.int .i64 a0_0, .int .i64 a0_1, .int .i64 a0_2, .int .i64 a0_3, .int .i64 a0_4, .int .i64 a0_5, .int .i64 a0_6, .int .i64 a0_7, .int .i64 a0_8, .int .i64 a0_9] 25 (0, 0))) ∧ Aside0 (Below w.heap.size w w'))
      case atStart => exact ⟨(y585), (0), (by first | rfl | (simp; done) | (simp [*]; done)), H', ⟨Nat.le_refl _⟩, ⟨kr HO587⟩, ⟨bkn BK582⟩, ⟨bw⟩⟩
      case round =>
       clear H'
       try clear c14
       try clear c15
       try clear c15b0
       try clear c15b1
       try clear c16
       try clear c16b0
       try clear c16b1
       obtain ⟨x10_2, x28_2, rfl, HA, HK2, HO_10, BK582, HB⟩ := hrel
       have hl10_2 := (Kd.R_reads' HO_10.out).1
       rw [hl10_2] at HO_10
       (try simp only [hl10_2])
       (try simp only [hl10_2] at BK582)
       cases gk with
       | zero => exact absurd HA.out (by simp [period_Dates.l0])
       | succ k2 =>
        have H := HA.out
        clear HA
        simp only [period_Dates.l0] at H
        by_cases c20 : x28_2 < (y585.length : Int)
        ·rw [if_pos c20] at H
         have c20b0 : decide (x28_2 < (y585.length : Int)) = true := decide_eq_true c20
         (try have c20bx : decide (x28_2 < (x10_2.length : Int)) = true := by rw [← hl10_2]; exact c20b0)
         clear c20
         replace H := Option.bind_eq_some_iff.mp H
         obtain ⟨⟨t588, t589, t590, t591, t592, t593⟩, A210, H⟩ := H
         replace H : (if t593 = 0 then (if 0 ≤ x28_2 then (if x28_2 < (x10_2.length : Int) then (period_Dates.l0 k2 a1 a2 (x10_2.set (x28_2 : Int).toNat (⟨t588, t589, t590⟩ : S33)) (y585.length : Int) (wrap64 (x28_2 + 1)) a0_0 a0_1 a0_2 a0_3 a0_4 a0_5 a0_6 a0_7 a0_8 a0_9) else (none)) else (none)) else (some (([] : List (S33)), t593))) = some (r1, r2) := H
         have A21 := AX A210
         clear A210
         by_cases c22 : t593 = 0
         ·rw [if_pos c22] at H
          have c22b0 : (t593 == 0) = true := beq_iff_eq.mpr c22
          have c22b1 : (t593 != 0) = false := bne_eq_false_iff_eq.mpr c22
          clear c22
          by_cases c23 : 0 ≤ x28_2
          ·rw [if_pos c23] at H
           have c23b0 : decide (0 ≤ x28_2) = true := decide_eq_true c23
           clear c23
           by_cases c24 : x28_2 < (x10_2.length : Int)
           ·rw [if_pos c24] at H
            have c24b0 : decide (x28_2 < (x10_2.length : Int)) = true := decide_eq_true c24
            clear c24
            obtain ⟨y595, hy595⟩ : ∃ y_ : List (S33), y_ = (x10_2.set (x28_2 : Int).toNat (⟨t588, t589, t590⟩ : S33)) := ⟨_, rfl⟩
            replace H : (period_Dates.l0 k2 a1 a2 y595 (y585.length : Int) (wrap64 (x28_2 + 1)) a0_0 a0_1 a0_2 a0_3 a0_4 a0_5 a0_6 a0_7 a0_8 a0_9) = some (r1, r2) := by first | (rw [hy595]; with_reducible exact H) | (have H2_ := (Option.bind_some _ _).symm.trans H; rw [hy595]; with_reducible exact H2_) | (have H2_ := (Option.bind_some _ _).symm.trans H; with_reducible exact H2_) | with_reducible exact H | (rw [hy595]; exact H) | exact H
            have Ny595 := AX hy595
            clear hy595
            have H' := AX H
            clear H
            obtain ⟨hcz26_0, hcz26_1, hcz26_2, hcz26_3, hcz26_4, hcz26_5, hcz26_6, hcz26_7, hcz26_8, hcz26_9⟩ := blkC10 (w := wr) BK582.out
            obtain ⟨hfz26_0, hfz26_1, hfz26_2, hfz26_3, hfz26_4, hfz26_5, hfz26_6, hfz26_7, hfz26_8, hfz26_9⟩ := blkF10 BK582.out
            go_wp2_with (first | ((with_reducible refine gate_callee (f := 17) rfl ?_); refine goesL_ (some 39) rfl rfl Try.func17 (by kernel_rfl) rfl #[.agg #[.int .i64 a0_0, .int .i64 a0_1, .int .i64 a0_2, .int .i64 a0_3, .int .i64 a0_4, .int .i64 a0_5, .int .i64 a0_6, .int .i64 a0_7, .int .i64 a0_8, .int .i64 a0_9], .int .i64 (wrap64 (a1 + (wrap64 ((wrap64 (60 * a2)) * x28_2))))] rfl (by (try simp only [List.map_toArray, List.map_cons, List.map_nil]); first | done | rfl | (simp only [List.length_drop, List.length_take]; rfl)) ?_; (with_reducible refine (zone_At.calls k2 a0_0 a0_1 a0_2 a0_3 a0_4 a0_5 a0_6 a0_7 a0_8 a0_9 (wrap64 (a1 + (wrap64 ((wrap64 (60 * a2)) * x28_2)))) t588 t589 t590 t591 t592 t593 _ A21.out).mono ?_); rintro e w27 ⟨rfl, hb⟩; refine ⟨_, rfl, ?_⟩; have n0_ := AX (Kd.R_below (kr HO_10) hb); have n1_ := AX (bkb BK582 hb); have n2_ := AX (below_step bw hb); clear HO_10; clear BK582; clear HB; have HO_10 := n0_; have BK582 := n1_; have HB := n2_; clear n0_ n1_ n2_; (try clear hb)) | ((with_reducible refine gate_dst (N := 12) rfl ?_); refine box_event ?hg (N := 12) ?hd (cs := #[.int .i64 0, .int .i64 0, .int .i64 0, .int .i64 0, .int .i64 0]) (t := 35) ?hr ?_; (case hd => rfl); (case hg => rfl); (case hr => first | (go_simp; done) | (go_simp; rfl)); intro gb594 hg w28 hbox hb; have n0_ := AX (Kd.R_below (kr HO_10) hb); have n1_ := AX (bkb BK582 hb); have n2_ := AX (below_step bw hb); have n3_ := AX (hbox); have n4_ := AX ((by rw [hg]; exact (below_size bw) : w.heap.size ≤ gb594)); have n5_ := n4_; have n6_ := AX ((by rw [hg]; exact Nat.ne_of_lt (blk_lt (bkn BK582)) : gb582 ≠ gb594)); have n7_ := AX ((by rw [hg]; exact Nat.ne_of_gt (blk_lt (bkn BK582)) : gb594 ≠ gb582)); clear HO_10; clear BK582; clear HB; have HO_10 := n0_; have BK582 := n1_; have HB := n2_; have BK594 := n3_; have GW594 := n4_; have GE594 := n5_; have NB582_594 := n6_; have NB594_582 := n7_; clear n0_ n1_ n2_ n3_ n4_ n5_ n6_ n7_; clear hb hbox hg; have hnb29 := NB594_582.out; have hnc29 := NB582_594.out; obtain ⟨hcz30_0, hcz30_1, hcz30_2, hcz30_3, hcz30_4⟩ := blkC5 (w := w28) BK594.out; obtain ⟨hfz30_0, hfz30_1, hfz30_2, hfz30_3, hfz30_4⟩ := blkF5 BK594.out) | ((with_reducible refine gate_store (t := 35) (p := 12) rfl ?_); refine store_event (t := 35) (p := 12) (v := ?vo_w31) (w1 := (((((w28.setCell ⟨gb594, 0, none⟩ (.int .i64 t588)).setCell ⟨gb594, 1, none⟩ (.int .i64 t589)).setCell ⟨gb594, 2, none⟩ (.int .i64 t590)).setCell ⟨gb594, 3, none⟩ (.int .i64 t591)).setCell ⟨gb594, 4, none⟩ (.int .i64 t592))) ?hg ?ho ?hn ?hr ?_; (case ho => rfl); (case hg => rfl); (case hn => rfl); (case hr => first | (go_simp; done) | (go_simp; rfl)); intro w31 hw; have n0_ : Aside0 (Kd.R k33 33 w31 w.heap.size (fun _ => True) (.slice Ao19 x10_2.length co19) x10_2) := ⟨(by rw [hw]; exact (by (with_reducible repeat (first | apply Kd.R_alloc | apply Kd.R_drewN | apply Kd.R_drew)); exact Kd.R_mono (Kd.R_far (p := ⟨gb594, 4, none⟩) (Kd.R_far (p := ⟨gb594, 3, none⟩) (Kd.R_far (p := ⟨gb594, 2, none⟩) (Kd.R_far (p := ⟨gb594, 1, none⟩) (Kd.R_far (p := ⟨gb594, 0, none⟩) (Kd.R_types HO_10.out BK594.out (by decide)) (fun _ hk => hk.2) (.int .i64 t588)) (fun _ hk => hk.2) (.int .i64 t589)) (fun _ hk => hk.2) (.int .i64 t590)) (fun _ hk => hk.2) (.int .i64 t591)) (fun _ hk => hk.2) (.int .i64 t592)) (fun _ hk => trivial)))⟩; have n1_ : Aside0 (w31.heap[gb582]? = some (.cells #[.int .i64 a0_0, .int .i64 a0_1, .int .i64 a0_2, .int .i64 a0_3, .int .i64 a0_4, .int .i64 a0_5, .int .i64 a0_6, .int .i64 a0_7, .int .i64 a0_8, .int .i64 a0_9] 25 (0, 0))) := ⟨(by rw [hw]; exact (by (with_reducible repeat first|refine blk_drewN ?_ _|refine blk_drew ?_|refine blk_alloc ?_ _|refine blk_far ?_ NB582_594.out _); exact BK582.out))⟩; have n2_ : Aside0 (w31.heap[gb594]? = some (.cells #[.int .i64 t588, .int .i64 t589, .int .i64 t590, .int .i64 t591, .int .i64 t592] 35 (0, 0))) := ⟨(by rw [hw]; exact (by (with_reducible repeat first|refine blk_drewN ?_ _|refine blk_drew ?_|refine blk_alloc ?_ _); refine blk_put (cs := #[.int .i64 t588, .int .i64 t589, .int .i64 t590, .int .i64 t591, .int .i64 0]) ?_ 4 _ rfl; (with_reducible repeat first|refine blk_drewN ?_ _|refine blk_drew ?_|refine blk_alloc ?_ _); refine blk_put (cs := #[.int .i64 t588, .int .i64 t589, .int .i64 t590, .int .i64 0, .int .i64 0]) ?_ 3 _ rfl; (with_reducible repeat first|refine blk_drewN ?_ _|refine blk_drew ?_|refine blk_alloc ?_ _); refine blk_put (cs := #[.int .i64 t588, .int .i64 t589, .int .i64 0, .int .i64 0, .int .i64 0]) ?_ 2 _ rfl; (with_reducible repeat first|refine blk_drewN ?_ _|refine blk_drew ?_|refine blk_alloc ?_ _); refine blk_put (cs := #[.int .i64 t588, .int .i64 0, .int .i64 0, .int .i64 0, .int .i64 0]) ?_ 1 _ rfl; (with_reducible repeat first|refine blk_drewN ?_ _|refine blk_drew ?_|refine blk_alloc ?_ _); refine blk_put (cs := #[.int .i64 0, .int .i64 0, .int .i64 0, .int .i64 0, .int .i64 0]) ?_ 0 _ rfl; (with_reducible repeat first|refine blk_drewN ?_ _|refine blk_drew ?_|refine blk_alloc ?_ _); exact BK594.out))⟩; have n3_ : Aside0 (Below w.heap.size w w31) := ⟨(by rw [hw]; exact bw)⟩; clear hw; clear HO_10; clear BK582; clear BK594; clear HB; have HO_10 := n0_; have BK582 := n1_; have BK594 := n2_; have HB := n3_; clear n0_ n1_ n2_ n3_; obtain ⟨hcz32_0, hcz32_1, hcz32_2, hcz32_3, hcz32_4⟩ := blkC5 (w := w31) BK594.out; obtain ⟨hfz32_0, hfz32_1, hfz32_2, hfz32_3, hfz32_4⟩ := blkF5 BK594.out; have p25 : 0 ≤ (x28_2 : Int) := of_decide_eq_true (by first | (with_reducible assumption) | assumption); have q25 : (x28_2 : Int) < ((x10_2.length : Int) : Int) := of_decide_eq_true (by first | (with_reducible assumption) | assumption); obtain ⟨go25, co25, eo25, gb25, gl25, cl25, HG25⟩ := Kd.R_form HO_10.out (by omega); (first | cases eo25 | (injection eo25 with ea_ en_ ec_; (first | subst ea_ | (injection ea_ with ea_; subst ea_)); subst ec_; clear en_)); have GB25 := AX gb25; have GG25 := AX HG25; clear gb25 gl25 HG25; obtain ⟨ce25, hcl25, hM25, hcc25, hfr25⟩ := Kd.R_elem HO_10.out z33 (x28_2 : Int) p25 q25; obtain rfl := k33_openM hM25; have hx25_0 : w31.cell? ⟨go25, (x28_2 : Int).toNat * 3, none⟩ = some (.int .i64 ((rd_T33 x10_2 x28_2).f0)) := hcc25 0 _ rfl; have hx25_1 : w31.cell? ⟨go25, (x28_2 : Int).toNat * 3 + 1, none⟩ = some (.int .i64 ((rd_T33 x10_2 x28_2).f1)) := hcc25 1 _ rfl; have hx25_2 : w31.cell? ⟨go25, (x28_2 : Int).toNat * 3 + 2, none⟩ = some (.int .i64 ((rd_T33 x10_2 x28_2).f2)) := hcc25 2 _ rfl; have hf25_0 : w31.frozen? ⟨go25, (x28_2 : Int).toNat * 3, none⟩ = false := hfr25 0; have hf25_1 : w31.frozen? ⟨go25, (x28_2 : Int).toNat * 3 + 1, none⟩ = false := hfr25 1; have hf25_2 : w31.frozen? ⟨go25, (x28_2 : Int).toNat * 3 + 2, none⟩ = false := hfr25 2; clear hcl25 hcc25 hfr25 hM25; replace p25 := eq_true p25; replace q25 := eq_true q25; have HX33 := AX (show Kd.R k33 33 w31 w.heap.size (fun _ => True) (.slice (some ⟨go25, 0, none⟩) x10_2.length co19) x10_2 from (kr HO_10)); obtain ⟨ce33, hcl33, hM33, hcc33, hfr33⟩ := Kd.R_elem HX33.out z33 (x28_2 : Int) (of_decide_eq_true (by first | (with_reducible assumption) | assumption)) (by have h_ : (x28_2 : Int) < ((x10_2.length : Int) : Int) := of_decide_eq_true (by first | (with_reducible assumption) | assumption); first | exact h_ | (have e_ := (Kd.R_reads' HO_10.out).1; omega) | simpa using h_); obtain rfl := k33_openM hM33; have HP33 := Kd.R_seg HX33.out (x28_2 : Int) (of_decide_eq_true (by first | (with_reducible assumption) | assumption)) (by have h_ : (x28_2 : Int) < ((x10_2.length : Int) : Int) := of_decide_eq_true (by first | (with_reducible assumption) | assumption); first | exact h_ | (have e_ := (Kd.R_reads' HO_10.out).1; omega) | simpa using h_) (seg := [.int .i64 t588, .int .i64 t589, .int .i64 t590]) (j := 0) hcl33 hcc33 (show 3 ≤ 3 from by decide) (x' := (⟨t588, t589, t590⟩ : S33)) (k33_mkM _ _ _ (⟨t588, t589, t590⟩ : S33) ) (fun _ hk => hk); have hx33_0 := hcc33 0 _ rfl; (try simp only [show (k33).sz = 3 from rfl, Nat.mul_one, Nat.add_zero] at hx33_0); have hf33_0 := hfr33 0; (try simp only [show (k33).sz = 3 from rfl, Nat.mul_one, Nat.add_zero] at hf33_0); have hx33_1 := hcc33 1 _ rfl; (try simp only [show (k33).sz = 3 from rfl, Nat.mul_one, Nat.add_zero] at hx33_1); have hf33_1 := hfr33 1; (try simp only [show (k33).sz = 3 from rfl, Nat.mul_one, Nat.add_zero] at hf33_1); have hx33_2 := hcc33 2 _ rfl; (try simp only [show (k33).sz = 3 from rfl, Nat.mul_one, Nat.add_zero] at hx33_2); have hf33_2 := hfr33 2; (try simp only [show (k33).sz = 3 from rfl, Nat.mul_one, Nat.add_zero] at hf33_2); clear hcl33 hcc33 hfr33 hM33) | ((with_reducible refine gate_store (t := 33) (p := 49) rfl ?_); refine store_event (t := 33) (p := 49) (v := ?vo_w34) (w1 := (((w31.setCell ⟨go25, (x28_2 : Int).toNat * 3, none⟩ (.int .i64 t588)).setCell ⟨go25, (x28_2 : Int).toNat * 3 + 1, none⟩ (.int .i64 t589)).setCell ⟨go25, (x28_2 : Int).toNat * 3 + 2, none⟩ (.int .i64 t590))) ?hg ?ho ?hn ?hr ?_; (case ho => rfl); (case hg => rfl); (case hn => rfl); (case hr => first | (go_simp; done) | (go_simp; rfl)); intro w34 hw; have hg : w31.grownBy w34 (some go25) := (by rw [hw]; exact HP33.2); have hp_ : Kd.R k33 33 w34 w.heap.size (fun _ => True) (.slice (some ⟨go25, 0, none⟩) x10_2.length co19) y595 := (by rw [hw, Ny595.out]; exact HP33.1); clear HP33; have n0_ := AX (hp_); have n1_ := AX (blk_grown (g := gb582) (o := .cells #[.int .i64 a0_0, .int .i64 a0_1, .int .i64 a0_2, .int .i64 a0_3, .int .i64 a0_4, .int .i64 a0_5, .int .i64 a0_6, .int .i64 a0_7, .int .i64 a0_8, .int .i64 a0_9] 25 (0, 0)) (bkn BK582) hg (Kd.R_ne HO_10.out BK582.out (by decide))); have n2_ := AX (blk_grown (g := gb594) (o := .cells #[.int .i64 t588, .int .i64 t589, .int .i64 t590, .int .i64 t591, .int .i64 t592] 35 (0, 0)) (bkn BK594) hg (Kd.R_ne HO_10.out BK594.out (by decide))); have n3_ := AX ((by rw [hw]; exact below_set (below_set (below_set (HB.out) GB25.out) GB25.out) GB25.out : Below w.heap.size w w34)); clear HO_10; clear BK582; clear BK594; clear HB; have HO_10 := n0_; have BK582 := n1_; have BK594 := n2_; have HB := n3_; clear n0_ n1_ n2_ n3_; clear hg hw hp_))
            (try simp only [← hl10_2])
            go_roundg k2
            case measure => have := HJ4.out; have := HK2.out; omega
            case rel => exact ⟨(y595), (wrap64 (x28_2 + 1)), (by first | rfl | (simp; done) | (simp [*]; done)), H', ⟨by have := HJ4.out; have := HK2.out; omega⟩, ⟨by (try simp only [hl10_2]); (with_reducible repeat (first | apply Kd.R_alloc | apply Kd.R_drewN | apply Kd.R_drew)); exact HO_10.out⟩, ⟨by (try simp only [hl10_2]); (with_reducible repeat first|refine blk_drewN ?_ _|refine blk_drew ?_|refine blk_alloc ?_ _); exact BK582.out⟩, ⟨bw⟩⟩
           ·rw [if_neg c24] at H
            exact absurd H (by simp)
          ·rw [if_neg c23] at H
           exact absurd H (by simp)
         ·rw [if_neg c22] at H
          have c22b0 : (t593 == 0) = false := beq_eq_false_iff_ne.mpr c22
          have c22b1 : (t593 != 0) = true := bne_iff_ne.mpr c22
          simp only [Option.some.injEq, Prod.mk.injEq] at H
          obtain ⟨rfl, rfl⟩ := H
          obtain ⟨hcz35_0, hcz35_1, hcz35_2, hcz35_3, hcz35_4, hcz35_5, hcz35_6, hcz35_7, hcz35_8, hcz35_9⟩ := blkC10 (w := wr) BK582.out
          obtain ⟨hfz35_0, hfz35_1, hfz35_2, hfz35_3, hfz35_4, hfz35_5, hfz35_6, hfz35_7, hfz35_8, hfz35_9⟩ := blkF10 BK582.out
          go_wp2_with (first | ((with_reducible refine gate_callee (f := 17) rfl ?_); refine goesL_ (some 39) rfl rfl Try.func17 (by kernel_rfl) rfl #[.agg #[.int .i64 a0_0, .int .i64 a0_1, .int .i64 a0_2, .int .i64 a0_3, .int .i64 a0_4, .int .i64 a0_5, .int .i64 a0_6, .int .i64 a0_7, .int .i64 a0_8, .int .i64 a0_9], .int .i64 (wrap64 (a1 + (wrap64 ((wrap64 (60 * a2)) * x28_2))))] rfl (by (try simp only [List.map_toArray, List.map_cons, List.map_nil]); first | done | rfl | (simp only [List.length_drop, List.length_take]; rfl)) ?_; (with_reducible refine (zone_At.calls k2 a0_0 a0_1 a0_2 a0_3 a0_4 a0_5 a0_6 a0_7 a0_8 a0_9 (wrap64 (a1 + (wrap64 ((wrap64 (60 * a2)) * x28_2)))) t588 t589 t590 t591 t592 t593 _ A21.out).mono ?_); rintro e w36 ⟨rfl, hb⟩; refine ⟨_, rfl, ?_⟩; have n0_ := AX (Kd.R_below (kr HO_10) hb); have n1_ := AX (bkb BK582 hb); have n2_ := AX (below_step bw hb); clear HO_10; clear BK582; clear HB; have HO_10 := n0_; have BK582 := n1_; have HB := n2_; clear n0_ n1_ n2_; (try clear hb)) | ((with_reducible refine gate_dst (N := 12) rfl ?_); refine box_event ?hg (N := 12) ?hd (cs := #[.int .i64 0, .int .i64 0, .int .i64 0, .int .i64 0, .int .i64 0]) (t := 35) ?hr ?_; (case hd => rfl); (case hg => rfl); (case hr => first | (go_simp; done) | (go_simp; rfl)); intro gb594 hg w37 hbox hb; have n0_ := AX (Kd.R_below (kr HO_10) hb); have n1_ := AX (bkb BK582 hb); have n2_ := AX (below_step bw hb); have n3_ := AX (hbox); have n4_ := AX ((by rw [hg]; exact (below_size bw) : w.heap.size ≤ gb594)); have n5_ := n4_; have n6_ := AX ((by rw [hg]; exact Nat.ne_of_lt (blk_lt (bkn BK582)) : gb582 ≠ gb594)); have n7_ := AX ((by rw [hg]; exact Nat.ne_of_gt (blk_lt (bkn BK582)) : gb594 ≠ gb582)); clear HO_10; clear BK582; clear HB; have HO_10 := n0_; have BK582 := n1_; have HB := n2_; have BK594 := n3_; have GW594 := n4_; have GE594 := n5_; have NB582_594 := n6_; have NB594_582 := n7_; clear n0_ n1_ n2_ n3_ n4_ n5_ n6_ n7_; clear hb hbox hg; have hnb38 := NB594_582.out; have hnc38 := NB582_594.out; obtain ⟨hcz39_0, hcz39_1, hcz39_2, hcz39_3, hcz39_4⟩ := blkC5 (w := w37) BK594.out; obtain ⟨hfz39_0, hfz39_1, hfz39_2, hfz39_3, hfz39_4⟩ := blkF5 BK594.out))
          go_ret2
          exact ⟨_, by first | rfl | (simp [errW_none, errW_some] <;> rfl) | (simp [*, errW_none, errW_some] <;> rfl), by first | exact Kd.R_nil _ _ _ _ _ | exact Kd.N_nil _ _ _ _ _ | exact Kd.V_nil _ _ _ _ _ | exact Kd.Q_nil _ _ _ _ _ | exact Kd.S_nil _ _ _ _ _, bw⟩
        ·rw [if_neg c20] at H
         have c20b0 : decide (x28_2 < (y585.length : Int)) = false := decide_eq_false c20
         (try have c20bx : decide (x28_2 < (x10_2.length : Int)) = false := by rw [← hl10_2]; exact c20b0)
         clear c20
         simp only [Option.some.injEq, Prod.mk.injEq] at H
         obtain ⟨rfl, rfl⟩ := H
         go_wp2
         go_ret2
         exact ⟨_, by first | rfl | (simp [errW_none, errW_some] <;> rfl) | (simp [*, errW_none, errW_some] <;> rfl), kr HO_10, bw⟩
     ·rw [if_neg c16] at H
      exact absurd H (by simp)
    ·rw [if_neg c15] at H
     exact absurd H (by simp)

/-! ### pylonref13_SameDates: function 33 -/
def pylonref13_SameDates.l0 : Nat → List (S33) → List (S33) → Int → Int → Option (Bool)
 | 0, _, _, _, _ => none
 | k + 1, x0, x1, x12, x13 => if x13 < x12 then (if 0 ≤ x13 then (if x13 < (x0.length : Int) then (if x13 < (x1.length : Int) then (if (!(((rd_T33 x0 x13).f0) == ((rd_T33 x1 x13).f0)) || (!(((rd_T33 x0 x13).f1) == ((rd_T33 x1 x13).f1)) || (!(((rd_T33 x0 x13).f2) == ((rd_T33 x1 x13).f2))))) = true then (some false) else (pylonref13_SameDates.l0 k x0 x1 x12 (wrap64 (x13 + 1)))) else (none)) else (none)) else (none)) else (some true)
def pylonref13_SameDates.f (k : Nat) (l0 : List (S33)) (l1 : List (S33)) : Option (Bool) := if (l0.length : Int) = (l1.length : Int) then (pylonref13_SameDates.l0 k l0 l1 (l0.length : Int) 0) else (some false)
theorem pylonref13_SameDates.mono_l : ∀ k, (∀ y0 y1 y2 y3, LeO (pylonref13_SameDates.l0 k y0 y1 y2 y3) (pylonref13_SameDates.l0 (k + 1) y0 y1 y2 y3))
 | 0 => fun _ _ _ _ r h => by simp [pylonref13_SameDates.l0] at h
 | k + 1 => by
  have ih0 := pylonref13_SameDates.mono_l k
  ·intro y0 y1 y2 y3
   unfold pylonref13_SameDates.l0
   repeat' first
   | (with_reducible exact ih0 _ _ _ _)
   | (with_reducible exact LeO.refl _)
   | (with_reducible exact LeO.none _)
   | (with_reducible refine LeO.ite ?_ ?_)
   | (with_reducible refine LeO.bind ?_ (fun _ => ?_))
   | exact ih0 _ _ _ _
   | exact LeO.none _
   | refine LeO.ite ?_ ?_
   | refine LeO.bind ?_ (fun _ => ?_)
theorem pylonref13_SameDates.mono : ∀ a0 a1 k, LeO (pylonref13_SameDates.f k a0 a1) (pylonref13_SameDates.f (k + 1) a0 a1) := by
 intro a0 a1 k
 have ih0 := pylonref13_SameDates.mono_l k
 unfold pylonref13_SameDates.f
 repeat' first
   | (with_reducible exact ih0 _ _ _ _)
   | (with_reducible exact LeO.refl _)
   | (with_reducible exact LeO.none _)
   | (with_reducible refine LeO.ite ?_ ?_)
   | (with_reducible refine LeO.bind ?_ (fun _ => ?_))
   | exact ih0 _ _ _ _
   | exact LeO.none _
   | refine LeO.ite ?_ ?_
   | refine LeO.bind ?_ (fun _ => ?_)
set_option maxHeartbeats 8000000 in
set_option maxRecDepth 100000 in
theorem pylonref13_SameDates.calls (k : Nat) (A0 : Option Addr) (c0 : Nat) (l0 : List (S33)) (A1 : Option Addr) (c1 : Nat) (l1 : List (S33)) (r : Bool) (w : World) (hr0 : Kd.C k33 w A0 l0.length l0) (hc0 : l0.length ≤ c0) (hr1 : Kd.C k33 w A1 l1.length l1) (hc1 : l1.length ≤ c1) (h : pylonref13_SameDates.f k l0 l1 = some r) :
  Calls Try.prog 33 #[.slice A0 l0.length c0, .slice A1 l1.length c1] w fun e w' => e = .returned (.bool r) ∧ Drawn0 w w' := by
 have hu33 := Try.underlying33
 have HR0 := AX hr0
 have HC0 := AX hc0
 clear hr0 hc0
 have HR1 := AX hr1
 have HC1 := AX hc1
 clear hr1 hc1
 have H : (if (l0.length : Int) = (l1.length : Int) then (pylonref13_SameDates.l0 k l0 l1 (l0.length : Int) 0) else (some false)) = some r := h
 clear h
 by_cases c3 : (l0.length : Int) = (l1.length : Int)
 ·rw [if_pos c3] at H
  have c3b0 : ((l0.length : Int) == (l1.length : Int)) = true := beq_iff_eq.mpr c3
  have c3b1 : ((l0.length : Int) != (l1.length : Int)) = false := bne_eq_false_iff_eq.mpr c3
  have c3b2 : (l0.length == l1.length) = true := by first | simpa using c3 | (simp at c3 ⊢; omega)
  clear c3
  have H' := AX H
  clear H
  go_enter Try.func33, Try.ntmps33
  go_wp2
  repeat (go_quiet (fail); try go_wp2)
  go_loopg [13] k (fun kq v13 w' => ∃ (x13_1 : Int), v13 = .int .i64 x13_1 ∧ Aside0 (pylonref13_SameDates.l0 kq l0 l1 (l0.length : Int) x13_1 = some r) ∧ Aside0 (kq ≤ k) ∧ Drawn0 w w')
  case atStart => exact ⟨(0), (by first | rfl | (simp; done) | (simp [*]; done)), H', ⟨Nat.le_refl _⟩, by repeat (first | exact Drawn0.refl _ | apply Drawn0.step)⟩
  case round =>
   clear H'
   try clear c1
   try clear c3
   try clear c3b0
   try clear c3b1
   try clear c3b2
   obtain ⟨x13_1, rfl, HA, HK1, ⟨m1, rfl⟩⟩ := hrel
   cases gk with
   | zero => exact absurd HA.out (by simp [pylonref13_SameDates.l0])
   | succ k1 =>
    have H := HA.out
    clear HA
    simp only [pylonref13_SameDates.l0] at H
    by_cases c4 : x13_1 < (l0.length : Int)
    ·rw [if_pos c4] at H
     have c4b0 : decide (x13_1 < (l0.length : Int)) = true := decide_eq_true c4
     clear c4
     by_cases c5 : 0 ≤ x13_1
     ·rw [if_pos c5] at H
      have c5b0 : decide (0 ≤ x13_1) = true := decide_eq_true c5
      clear c5
      by_cases c6 : x13_1 < (l0.length : Int)
      ·rw [if_pos c6] at H
       have c6b0 : decide (x13_1 < (l0.length : Int)) = true := decide_eq_true c6
       clear c6
       by_cases c7 : x13_1 < (l1.length : Int)
       ·rw [if_pos c7] at H
        have c7b0 : decide (x13_1 < (l1.length : Int)) = true := decide_eq_true c7
        clear c7
        by_cases c8 : (!(((rd_T33 l0 x13_1).f0) == ((rd_T33 l1 x13_1).f0)) || (!(((rd_T33 l0 x13_1).f1) == ((rd_T33 l1 x13_1).f1)) || (!(((rd_T33 l0 x13_1).f2) == ((rd_T33 l1 x13_1).f2))))) = true
        ·rw [if_pos c8] at H
         have c8b0 : (!(((rd_T33 l0 x13_1).f0) == ((rd_T33 l1 x13_1).f0)) || (!(((rd_T33 l0 x13_1).f1) == ((rd_T33 l1 x13_1).f1)) || (!(((rd_T33 l0 x13_1).f2) == ((rd_T33 l1 x13_1).f2))))) = true := c8
         clear c8
         obtain rfl := Option.some.inj H
         have p596 : 0 ≤ (x13_1 : Int) := of_decide_eq_true (by first | (with_reducible assumption) | assumption)
         have q596 : x13_1 < (l0.length : Int) := of_decide_eq_true (by first | (with_reducible assumption) | assumption)
         obtain ⟨ad596, e596, hx596_0, hx596_1, hx596_2⟩ := at_T33 HR0.out x13_1 p596 q596
         cases e596
         replace p596 := eq_true p596
         replace q596 := eq_true q596
         have p597 : 0 ≤ (x13_1 : Int) := of_decide_eq_true (by first | (with_reducible assumption) | assumption)
         have q597 : x13_1 < (l1.length : Int) := of_decide_eq_true (by first | (with_reducible assumption) | assumption)
         obtain ⟨ad597, e597, hx597_0, hx597_1, hx597_2⟩ := at_T33 HR1.out x13_1 p597 q597
         cases e597
         replace p597 := eq_true p597
         replace q597 := eq_true q597
         go_wp2
         repeat (go_quiet (fail); try go_wp2)
         go_ret
         exact ⟨by first | rfl | (simp; done) | (simp [*]; done), by repeat (first | exact Drawn0.refl _ | apply Drawn0.step)⟩
        ·rw [if_neg c8] at H
         have c8b0 : (!(((rd_T33 l0 x13_1).f0) == ((rd_T33 l1 x13_1).f0)) || (!(((rd_T33 l0 x13_1).f1) == ((rd_T33 l1 x13_1).f1)) || (!(((rd_T33 l0 x13_1).f2) == ((rd_T33 l1 x13_1).f2))))) = false := by simpa using c8
         clear c8
         have H' := AX H
         clear H
         have p596 : 0 ≤ (x13_1 : Int) := of_decide_eq_true (by first | (with_reducible assumption) | assumption)
         have q596 : x13_1 < (l0.length : Int) := of_decide_eq_true (by first | (with_reducible assumption) | assumption)
         obtain ⟨ad596, e596, hx596_0, hx596_1, hx596_2⟩ := at_T33 HR0.out x13_1 p596 q596
         cases e596
         replace p596 := eq_true p596
         replace q596 := eq_true q596
         have p597 : 0 ≤ (x13_1 : Int) := of_decide_eq_true (by first | (with_reducible assumption) | assumption)
         have q597 : x13_1 < (l1.length : Int) := of_decide_eq_true (by first | (with_reducible assumption) | assumption)
         obtain ⟨ad597, e597, hx597_0, hx597_1, hx597_2⟩ := at_T33 HR1.out x13_1 p597 q597
         cases e597
         replace p597 := eq_true p597
         replace q597 := eq_true q597
         go_wp2
         repeat (go_quiet (fail); try go_wp2)
         go_roundg k1
         case measure => have := HK1.out; omega
         case rel => exact ⟨(wrap64 (x13_1 + 1)), (by first | rfl | (simp; done) | (simp [*]; done)), H', ⟨by have := HK1.out; omega⟩, by repeat (first | exact Drawn0.refl _ | apply Drawn0.step)⟩
       ·rw [if_neg c7] at H
        exact absurd H (by simp)
      ·rw [if_neg c6] at H
       exact absurd H (by simp)
     ·rw [if_neg c5] at H
      exact absurd H (by simp)
    ·rw [if_neg c4] at H
     have c4b0 : decide (x13_1 < (l0.length : Int)) = false := decide_eq_false c4
     clear c4
     obtain rfl := Option.some.inj H
     go_wp2
     repeat (go_quiet (fail); try go_wp2)
     go_ret
     exact ⟨by first | rfl | (simp; done) | (simp [*]; done), by repeat (first | exact Drawn0.refl _ | apply Drawn0.step)⟩
 ·rw [if_neg c3] at H
  have c3b0 : ((l0.length : Int) == (l1.length : Int)) = false := beq_eq_false_iff_ne.mpr c3
  have c3b1 : ((l0.length : Int) != (l1.length : Int)) = true := bne_iff_ne.mpr c3
  have c3b2 : (l0.length == l1.length) = false := by first | simpa using c3 | (simp at c3 ⊢; omega)
  obtain rfl := Option.some.inj H
  go_enter Try.func33, Try.ntmps33
  go_wp2
  repeat (go_quiet (fail); try go_wp2)
  go_ret
  exact ⟨by first | rfl | (simp; done) | (simp [*]; done), by repeat (first | exact Drawn0.refl _ | apply Drawn0.step)⟩

end Go.Proofs.Ytddkckpfmleffaa.PX
