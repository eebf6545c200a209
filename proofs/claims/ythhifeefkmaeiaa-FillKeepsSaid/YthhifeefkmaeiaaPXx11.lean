/- Functions of the program as plain Lean functions, each with a proof that the call in the machine answers just what the plain function says; condition: the plain function answers at all. -/
import Derived.Test.YthhifeefkmaeiaaPXx0
import Derived.Test.YthhifeefkmaeiaaPXx2
namespace Go.Proofs.Ythhifeefkmaeiaa.PX
open Go.RowKit Go.Proofs.YthhifeefkmaeiaaW.PrintWords Go.Proofs.YthhifeefkmaeiaaW.PrintLast Go.Proofs.YthhifeefkmaeiaaW.PrintMore
attribute [local go_sem] max2_int min2_int max_two min_two max_three min_three max_four min_four   -- for this text's walks alone
set_option linter.unusedVariables false
set_option linter.unusedSimpArgs false

attribute [local go_sem high] eqA45
/-! ### pylonref11_SameReads: function 20 -/
def pylonref11_SameReads.l0 : Nat → List (S45) → List (S45) → Int → Int → Option (Bool)
 | 0, _, _, _, _ => none
 | k + 1, x0, x1, x12, x13 => if x13 < x12 then (if 0 ≤ x13 then (if x13 < (x0.length : Int) then (if x13 < (x1.length : Int) then (if (!(((rd_T45 x0 x13).f0) == ((rd_T45 x1 x13).f0)) || (!(((rd_T45 x0 x13).f1) == ((rd_T45 x1 x13).f1)) || (!(((rd_T45 x0 x13).f2) == ((rd_T45 x1 x13).f2)) || (!(((rd_T45 x0 x13).f3) == ((rd_T45 x1 x13).f3)) || (!(((rd_T45 x0 x13).f4) == ((rd_T45 x1 x13).f4))))))) = true then (some false) else (pylonref11_SameReads.l0 k x0 x1 x12 (wrap64 (x13 + 1)))) else (none)) else (none)) else (none)) else (some true)
def pylonref11_SameReads.f (k : Nat) (l0 : List (S45)) (l1 : List (S45)) : Option (Bool) := if (l0.length : Int) = (l1.length : Int) then (pylonref11_SameReads.l0 k l0 l1 (l0.length : Int) 0) else (some false)
theorem pylonref11_SameReads.mono_l : ∀ k, (∀ y0 y1 y2 y3, LeO (pylonref11_SameReads.l0 k y0 y1 y2 y3) (pylonref11_SameReads.l0 (k + 1) y0 y1 y2 y3))
 | 0 => fun _ _ _ _ r h => by simp [pylonref11_SameReads.l0] at h
 | k + 1 => by
  have ih0 := pylonref11_SameReads.mono_l k
  ·intro y0 y1 y2 y3
   unfold pylonref11_SameReads.l0
   repeat' first
   | (with_reducible exact ih0 _ _ _ _)
   | (with_reducible exact LeO.refl _)
   | (with_reducible exact LeO.none _)
   | (with_reducible refine LeO.ite ?_ ?_)
   | (with_reducible refine LeO.bind ?_ (fun _ => ?_))
theorem pylonref11_SameReads.mono : ∀ a0 a1 k, LeO (pylonref11_SameReads.f k a0 a1) (pylonref11_SameReads.f (k + 1) a0 a1) := by
 intro a0 a1 k
 have ih0 := pylonref11_SameReads.mono_l k
 unfold pylonref11_SameReads.f
 repeat' first
   | (with_reducible exact ih0 _ _ _ _)
   | (with_reducible exact LeO.refl _)
   | (with_reducible exact LeO.none _)
   | (with_reducible refine LeO.ite ?_ ?_)
   | (with_reducible refine LeO.bind ?_ (fun _ => ?_))
set_option maxHeartbeats 8000000 in
set_option maxRecDepth 100000 in
theorem pylonref11_SameReads.calls (k : Nat) (A0 : Option Addr) (c0 : Nat) (l0 : List (S45)) (A1 : Option Addr) (c1 : Nat) (l1 : List (S45)) (r : Bool) (w : World) (hr0 : Kd.C k45 w A0 l0.length l0) (hc0 : l0.length ≤ c0) (hr1 : Kd.C k45 w A1 l1.length l1) (hc1 : l1.length ≤ c1) (h : pylonref11_SameReads.f k l0 l1 = some r) :
  Calls Try.prog 20 #[.slice A0 l0.length c0, .slice A1 l1.length c1] w fun e w' => e = .returned (.bool r) ∧ Drawn0 w w' := by
 have hu45 := Try.underlying45
 have HR0 := AX hr0
 have HC0 := AX hc0
 clear hr0 hc0
 have HR1 := AX hr1
 have HC1 := AX hc1
 clear hr1 hc1
 have H : (if (l0.length : Int) = (l1.length : Int) then (pylonref11_SameReads.l0 k l0 l1 (l0.length : Int) 0) else (some false)) = some r := h
 clear h
 by_cases c3 : (l0.length : Int) = (l1.length : Int)
 ·rw [if_pos c3] at H
  have c3b0 : ((l0.length : Int) == (l1.length : Int)) = true := beq_iff_eq.mpr c3
  have c3b1 : ((l0.length : Int) != (l1.length : Int)) = false := bne_eq_false_iff_eq.mpr c3
  have c3b2 : (l0.length == l1.length) = true := by first | simpa using c3 | (simp at c3 ⊢; omega)
  clear c3
  have H' := AX H
  clear H
  go_enter Try.func20, Try.ntmps20
  go_wp2
  repeat (go_quiet (fail); try go_wp2)
  go_loopg [13] k (fun kq v13 w' => ∃ (x13_1 : Int), v13 = .int .i64 x13_1 ∧ Aside0 (pylonref11_SameReads.l0 kq l0 l1 (l0.length : Int) x13_1 = some r) ∧ Aside0 (kq ≤ k) ∧ Drawn0 w w')
  case atStart => exact ⟨(0), (by first | rfl | (simp; done) | (simp [*]; done)), H', ⟨Nat.le_refl _⟩, by repeat (first | exact Drawn0.refl _ | apply Drawn0.step)⟩
  case round =>
   clear H'
   try clear c1
   try clear c3b0 c3b1 c3b2
   obtain ⟨x13_1, rfl, HA, HK1, ⟨m1, rfl⟩⟩ := hrel
   cases gk with
   | zero => exact absurd HA.out (by simp [pylonref11_SameReads.l0])
   | succ k1 =>
    have H := HA.out
    clear HA
    simp only [pylonref11_SameReads.l0] at H
    by_cases c4 : x13_1 < (l0.length : Int)
    ·rw [if_pos c4] at H
     have c4b0 : decide (x13_1 < (l0.length : Int)) = true := decide_eq_true c4
     clear c4
     by_cases c5 : 0 ≤ x13_1
     ·rw [if_pos c5] at H
      have c5b0 : decide (0 ≤ x13_1) = true := decide_eq_true c5
      clear c5
      by_cases c6 : x13_1 < (l0.length : Int)
      ·rw [if_pos c6] at H
       have c6b0 : decide (x13_1 < (l0.length : Int)) = true := decide_eq_true c6
       clear c6
       by_cases c7 : x13_1 < (l1.length : Int)
       ·rw [if_pos c7] at H
        have c7b0 : decide (x13_1 < (l1.length : Int)) = true := decide_eq_true c7
        clear c7
        by_cases c8 : (!(((rd_T45 l0 x13_1).f0) == ((rd_T45 l1 x13_1).f0)) || (!(((rd_T45 l0 x13_1).f1) == ((rd_T45 l1 x13_1).f1)) || (!(((rd_T45 l0 x13_1).f2) == ((rd_T45 l1 x13_1).f2)) || (!(((rd_T45 l0 x13_1).f3) == ((rd_T45 l1 x13_1).f3)) || (!(((rd_T45 l0 x13_1).f4) == ((rd_T45 l1 x13_1).f4))))))) = true
        ·rw [if_pos c8] at H
         have c8b0 : (!(((rd_T45 l0 x13_1).f0) == ((rd_T45 l1 x13_1).f0)) || (!(((rd_T45 l0 x13_1).f1) == ((rd_T45 l1 x13_1).f1)) || (!(((rd_T45 l0 x13_1).f2) == ((rd_T45 l1 x13_1).f2)) || (!(((rd_T45 l0 x13_1).f3) == ((rd_T45 l1 x13_1).f3)) || (!(((rd_T45 l0 x13_1).f4) == ((rd_T45 l1 x13_1).f4))))))) = true := c8
         clear c8
         obtain rfl := Option.some.inj H
         have p272 : 0 ≤ (x13_1 : Int) := of_decide_eq_true (by first | (with_reducible assumption) | assumption)
         have q272 : x13_1 < (l0.length : Int) := of_decide_eq_true (by first | (with_reducible assumption) | assumption)
         obtain ⟨ad272, e272, hx272_0, hx272_1, hx272_2, hx272_3, hx272_4⟩ := at_T45 HR0.out x13_1 p272 q272
         cases e272
         replace p272 := eq_true p272
         replace q272 := eq_true q272
         have p273 : 0 ≤ (x13_1 : Int) := of_decide_eq_true (by first | (with_reducible assumption) | assumption)
         have q273 : x13_1 < (l1.length : Int) := of_decide_eq_true (by first | (with_reducible assumption) | assumption)
         obtain ⟨ad273, e273, hx273_0, hx273_1, hx273_2, hx273_3, hx273_4⟩ := at_T45 HR1.out x13_1 p273 q273
         cases e273
         replace p273 := eq_true p273
         replace q273 := eq_true q273
         go_wp2
         repeat (go_quiet (fail); try go_wp2)
         go_ret
         exact ⟨by first | rfl | (simp; done) | (simp [*]; done), by repeat (first | exact Drawn0.refl _ | apply Drawn0.step)⟩
        ·rw [if_neg c8] at H
         have c8b0 : (!(((rd_T45 l0 x13_1).f0) == ((rd_T45 l1 x13_1).f0)) || (!(((rd_T45 l0 x13_1).f1) == ((rd_T45 l1 x13_1).f1)) || (!(((rd_T45 l0 x13_1).f2) == ((rd_T45 l1 x13_1).f2)) || (!(((rd_T45 l0 x13_1).f3) == ((rd_T45 l1 x13_1).f3)) || (!(((rd_T45 l0 x13_1).f4) == ((rd_T45 l1 x13_1).f4))))))) = false := by simpa using c8
         clear c8
         have H' := AX H
         clear H
         have p272 : 0 ≤ (x13_1 : Int) := of_decide_eq_true (by first | (with_reducible assumption) | assumption)
         have q272 : x13_1 < (l0.length : Int) := of_decide_eq_true (by first | (with_reducible assumption) | assumption)
         obtain ⟨ad272, e272, hx272_0, hx272_1, hx272_2, hx272_3, hx272_4⟩ := at_T45 HR0.out x13_1 p272 q272
         cases e272
         replace p272 := eq_true p272
         replace q272 := eq_true q272
         have p273 : 0 ≤ (x13_1 : Int) := of_decide_eq_true (by first | (with_reducible assumption) | assumption)
         have q273 : x13_1 < (l1.length : Int) := of_decide_eq_true (by first | (with_reducible assumption) | assumption)
         obtain ⟨ad273, e273, hx273_0, hx273_1, hx273_2, hx273_3, hx273_4⟩ := at_T45 HR1.out x13_1 p273 q273
         cases e273
         replace p273 := eq_true p273
         replace q273 := eq_true q273
         go_wp2
         repeat (go_quiet (fail); try go_wp2)
         go_roundg k1
         case measure => have := HK1.out; omega
         case rel => exact ⟨(wrap64 (x13_1 + 1)), (by first | rfl | (simp; done) | (simp [*]; done)), H', ⟨by have := HK1.out; omega⟩, by repeat (first | exact Drawn0.refl _ | apply Drawn0.step)⟩
       ·rw [if_neg c7] at H
        exact absurd H (by simp)
      ·rw [if_neg c6] at H
       exact absurd H (by simp)
     ·rw [if_neg c5] at H
      exact absurd H (by simp)
    ·rw [if_neg c4] at H
     have c4b0 : decide (x13_1 < (l0.length : Int)) = false := decide_eq_false c4
     clear c4
     obtain rfl := Option.some.inj H
     go_wp2
     repeat (go_quiet (fail); try go_wp2)
     go_ret
     exact ⟨by first | rfl | (simp; done) | (simp [*]; done), by repeat (first | exact Drawn0.refl _ | apply Drawn0.step)⟩
 ·rw [if_neg c3] at H
  have c3b0 : ((l0.length : Int) == (l1.length : Int)) = false := beq_eq_false_iff_ne.mpr c3
  have c3b1 : ((l0.length : Int) != (l1.length : Int)) = true := bne_iff_ne.mpr c3
  have c3b2 : (l0.length == l1.length) = false := by first | simpa using c3 | (simp at c3 ⊢; omega)
  obtain rfl := Option.some.inj H
  go_enter Try.func20, Try.ntmps20
  go_wp2
  repeat (go_quiet (fail); try go_wp2)
  go_ret
  exact ⟨by first | rfl | (simp; done) | (simp [*]; done), by repeat (first | exact Drawn0.refl _ | apply Drawn0.step)⟩

/-! ### pylonref07_Same: function 22 -/
mutual
def pylonref07_Same.j0 : Nat → Bool → ByteArray → Int → Int → Int → Int → Int → List (S45) → ByteArray → Int → Int → Int → Int → Int → List (S45) → Option (Bool)
 | 0, _, _, _, _, _, _, _, _, _, _, _, _, _, _, _ => none
 | k + 1, x54, x390000, x390001, x390002, x390003, x390004, x390005, x390006, x391000, x391001, x391002, x391003, x391004, x391005, x391006 => if x54 = true then (some false) else (pylonref07_Same.l0 k (x390006.length : Int) 0 x390000 x390001 x390002 x390003 x390004 x390005 x390006 x391000 x391001 x391002 x391003 x391004 x391005 x391006)
def pylonref07_Same.l0 : Nat → Int → Int → ByteArray → Int → Int → Int → Int → Int → List (S45) → ByteArray → Int → Int → Int → Int → Int → List (S45) → Option (Bool)
 | 0, _, _, _, _, _, _, _, _, _, _, _, _, _, _, _, _ => none
 | k + 1, x57, x58, x390000, x390001, x390002, x390003, x390004, x390005, x390006, x391000, x391001, x391002, x391003, x391004, x391005, x391006 => if x58 < x57 then (if 0 ≤ x58 then (if x58 < (x390006.length : Int) then (if x58 < (x391006.length : Int) then (if (!(((rd_T45 x390006 x58).f0) == ((rd_T45 x391006 x58).f0)) || (!(((rd_T45 x390006 x58).f1) == ((rd_T45 x391006 x58).f1)) || (!(((rd_T45 x390006 x58).f2) == ((rd_T45 x391006 x58).f2)) || (!(((rd_T45 x390006 x58).f3) == ((rd_T45 x391006 x58).f3)) || (!(((rd_T45 x390006 x58).f4) == ((rd_T45 x391006 x58).f4))))))) = true then (some false) else (pylonref07_Same.l0 k x57 (wrap64 (x58 + 1)) x390000 x390001 x390002 x390003 x390004 x390005 x390006 x391000 x391001 x391002 x391003 x391004 x391005 x391006)) else (none)) else (none)) else (none)) else (some true)
end
def pylonref07_Same.f (k : Nat) (a0_0 : ByteArray) (a0_1 : Int) (a0_2 : Int) (a0_3 : Int) (a0_4 : Int) (a0_5 : Int) (l0_6 : List (S45)) (a1_0 : ByteArray) (a1_1 : Int) (a1_2 : Int) (a1_3 : Int) (a1_4 : Int) (a1_5 : Int) (l1_6 : List (S45)) : Option (Bool) := if a0_0.toList = a1_0.toList then (if a0_1 = a1_1 then (if a0_2 = a1_2 then (if a0_3 = a1_3 then (if a0_4 = a1_4 then (if a0_5 = a1_5 then (pylonref07_Same.j0 k ((l0_6.length : Int) != (l1_6.length : Int)) a0_0 a0_1 a0_2 a0_3 a0_4 a0_5 l0_6 a1_0 a1_1 a1_2 a1_3 a1_4 a1_5 l1_6) else (pylonref07_Same.j0 k true a0_0 a0_1 a0_2 a0_3 a0_4 a0_5 l0_6 a1_0 a1_1 a1_2 a1_3 a1_4 a1_5 l1_6)) else (pylonref07_Same.j0 k true a0_0 a0_1 a0_2 a0_3 a0_4 a0_5 l0_6 a1_0 a1_1 a1_2 a1_3 a1_4 a1_5 l1_6)) else (pylonref07_Same.j0 k true a0_0 a0_1 a0_2 a0_3 a0_4 a0_5 l0_6 a1_0 a1_1 a1_2 a1_3 a1_4 a1_5 l1_6)) else (pylonref07_Same.j0 k true a0_0 a0_1 a0_2 a0_3 a0_4 a0_5 l0_6 a1_0 a1_1 a1_2 a1_3 a1_4 a1_5 l1_6)) else (pylonref07_Same.j0 k true a0_0 a0_1 a0_2 a0_3 a0_4 a0_5 l0_6 a1_0 a1_1 a1_2 a1_3 a1_4 a1_5 l1_6)) else (pylonref07_Same.j0 k true a0_0 a0_1 a0_2 a0_3 a0_4 a0_5 l0_6 a1_0 a1_1 a1_2 a1_3 a1_4 a1_5 l1_6)
theorem pylonref07_Same.mono_l : ∀ k, (∀ y0 y1 y2 y3 y4 y5 y6 y7 y8 y9 y10 y11 y12 y13 y14, LeO (pylonref07_Same.j0 k y0 y1 y2 y3 y4 y5 y6 y7 y8 y9 y10 y11 y12 y13 y14) (pylonref07_Same.j0 (k + 1) y0 y1 y2 y3 y4 y5 y6 y7 y8 y9 y10 y11 y12 y13 y14)) ∧ (∀ y0 y1 y2 y3 y4 y5 y6 y7 y8 y9 y10 y11 y12 y13 y14 y15, LeO (pylonref07_Same.l0 k y0 y1 y2 y3 y4 y5 y6 y7 y8 y9 y10 y11 y12 y13 y14 y15) (pylonref07_Same.l0 (k + 1) y0 y1 y2 y3 y4 y5 y6 y7 y8 y9 y10 y11 y12 y13 y14 y15))
 | 0 => ⟨fun _ _ _ _ _ _ _ _ _ _ _ _ _ _ _ r h => by simp [pylonref07_Same.j0] at h, fun _ _ _ _ _ _ _ _ _ _ _ _ _ _ _ _ r h => by simp [pylonref07_Same.l0] at h⟩
 | k + 1 => by
  obtain ⟨ih0, ih1⟩ := pylonref07_Same.mono_l k
  refine ⟨?_, ?_⟩
  ·intro y0 y1 y2 y3 y4 y5 y6 y7 y8 y9 y10 y11 y12 y13 y14
   unfold pylonref07_Same.j0
   repeat' first
   | (with_reducible exact ih0 _ _ _ _ _ _ _ _ _ _ _ _ _ _ _)
   | (with_reducible exact ih1 _ _ _ _ _ _ _ _ _ _ _ _ _ _ _ _)
   | (with_reducible exact LeO.refl _)
   | (with_reducible exact LeO.none _)
   | (with_reducible refine LeO.ite ?_ ?_)
   | (with_reducible refine LeO.bind ?_ (fun _ => ?_))
  ·intro y0 y1 y2 y3 y4 y5 y6 y7 y8 y9 y10 y11 y12 y13 y14 y15
   unfold pylonref07_Same.l0
   repeat' first
   | (with_reducible exact ih0 _ _ _ _ _ _ _ _ _ _ _ _ _ _ _)
   | (with_reducible exact ih1 _ _ _ _ _ _ _ _ _ _ _ _ _ _ _ _)
   | (with_reducible exact LeO.refl _)
   | (with_reducible exact LeO.none _)
   | (with_reducible refine LeO.ite ?_ ?_)
   | (with_reducible refine LeO.bind ?_ (fun _ => ?_))
theorem pylonref07_Same.mono : ∀ a0 a1 a2 a3 a4 a5 a6 a7 a8 a9 a10 a11 a12 a13 k, LeO (pylonref07_Same.f k a0 a1 a2 a3 a4 a5 a6 a7 a8 a9 a10 a11 a12 a13) (pylonref07_Same.f (k + 1) a0 a1 a2 a3 a4 a5 a6 a7 a8 a9 a10 a11 a12 a13) := by
 intro a0 a1 a2 a3 a4 a5 a6 a7 a8 a9 a10 a11 a12 a13 k
 obtain ⟨ih0, ih1⟩ := pylonref07_Same.mono_l k
 unfold pylonref07_Same.f
 repeat' first
   | (with_reducible exact ih0 _ _ _ _ _ _ _ _ _ _ _ _ _ _ _)
   | (with_reducible exact ih1 _ _ _ _ _ _ _ _ _ _ _ _ _ _ _ _)
   | (with_reducible exact LeO.refl _)
   | (with_reducible exact LeO.none _)
   | (with_reducible refine LeO.ite ?_ ?_)
   | (with_reducible refine LeO.bind ?_ (fun _ => ?_))
set_option maxHeartbeats 8000000 in
set_option maxRecDepth 100000 in
theorem pylonref07_Same.calls (k : Nat) (a0_0 : ByteArray) (a0_1 : Int) (a0_2 : Int) (a0_3 : Int) (a0_4 : Int) (a0_5 : Int) (A0_6 : Option Addr) (c0_6 : Nat) (l0_6 : List (S45)) (a1_0 : ByteArray) (a1_1 : Int) (a1_2 : Int) (a1_3 : Int) (a1_4 : Int) (a1_5 : Int) (A1_6 : Option Addr) (c1_6 : Nat) (l1_6 : List (S45)) (r : Bool) (w : World) (hr0_6 : Kd.C k45 w A0_6 l0_6.length l0_6) (hc0_6 : l0_6.length ≤ c0_6) (hr1_6 : Kd.C k45 w A1_6 l1_6.length l1_6) (hc1_6 : l1_6.length ≤ c1_6) (h : pylonref07_Same.f k a0_0 a0_1 a0_2 a0_3 a0_4 a0_5 l0_6 a1_0 a1_1 a1_2 a1_3 a1_4 a1_5 l1_6 = some r) :
  Calls Try.prog 22 #[.agg #[.string a0_0, .int .i64 a0_1, .int .i64 a0_2, .int .i64 a0_3, .int .i64 a0_4, .int .i64 a0_5, .slice A0_6 l0_6.length c0_6], .agg #[.string a1_0, .int .i64 a1_1, .int .i64 a1_2, .int .i64 a1_3, .int .i64 a1_4, .int .i64 a1_5, .slice A1_6 l1_6.length c1_6]] w fun e w' => e = .returned (.bool r) ∧ Below w.heap.size w w' := by
 have hu31 := Try.underlying31
 have hu45 := Try.underlying45
 have HR0_6 := AX hr0_6
 have HC0_6 := AX hc0_6
 clear hr0_6 hc0_6
 have HR1_6 := AX hr1_6
 have HC1_6 := AX hc1_6
 clear hr1_6 hc1_6
 have HB := AX (Below.refl w.heap.size w)
 have H : (if a0_0.toList = a1_0.toList then (if a0_1 = a1_1 then (if a0_2 = a1_2 then (if a0_3 = a1_3 then (if a0_4 = a1_4 then (if a0_5 = a1_5 then (pylonref07_Same.j0 k ((l0_6.length : Int) != (l1_6.length : Int)) a0_0 a0_1 a0_2 a0_3 a0_4 a0_5 l0_6 a1_0 a1_1 a1_2 a1_3 a1_4 a1_5 l1_6) else (pylonref07_Same.j0 k true a0_0 a0_1 a0_2 a0_3 a0_4 a0_5 l0_6 a1_0 a1_1 a1_2 a1_3 a1_4 a1_5 l1_6)) else (pylonref07_Same.j0 k true a0_0 a0_1 a0_2 a0_3 a0_4 a0_5 l0_6 a1_0 a1_1 a1_2 a1_3 a1_4 a1_5 l1_6)) else (pylonref07_Same.j0 k true a0_0 a0_1 a0_2 a0_3 a0_4 a0_5 l0_6 a1_0 a1_1 a1_2 a1_3 a1_4 a1_5 l1_6)) else (pylonref07_Same.j0 k true a0_0 a0_1 a0_2 a0_3 a0_4 a0_5 l0_6 a1_0 a1_1 a1_2 a1_3 a1_4 a1_5 l1_6)) else (pylonref07_Same.j0 k true a0_0 a0_1 a0_2 a0_3 a0_4 a0_5 l0_6 a1_0 a1_1 a1_2 a1_3 a1_4 a1_5 l1_6)) else (pylonref07_Same.j0 k true a0_0 a0_1 a0_2 a0_3 a0_4 a0_5 l0_6 a1_0 a1_1 a1_2 a1_3 a1_4 a1_5 l1_6)) = some r := h
 clear h
 have HC3 := AX H
 clear H
 go_enter Try.func22, Try.ntmps22
 go_upto_region 1 with (first | ((with_reducible refine gate_dst (N := 2) rfl ?_); (try (refine gate_guard (by rfl) ?_; dsimp only)); refine bx 2 #[.string a0_0, .int .i64 a0_1, .int .i64 a0_2, .int .i64 a0_3, .int .i64 a0_4, .int .i64 a0_5, .slice A0_6 l0_6.length c0_6] 31 ?_; intro gb389 hg w4 hbox hb; have BK389 := AX (hbox); have GW389 := gwl (w := w) hg bw; have GE389 := GW389; replace HB := AX (below_step bw hb); clear hb hbox hg) | ((with_reducible refine gate_dst (N := 3) rfl ?_); (try (refine gate_guard (by rfl) ?_; dsimp only)); refine bx 3 #[.string a1_0, .int .i64 a1_1, .int .i64 a1_2, .int .i64 a1_3, .int .i64 a1_4, .int .i64 a1_5, .slice A1_6 l1_6.length c1_6] 31 ?_; intro gb390 hg w5 hbox hb; have BK390 := AX (hbox); have GW390 := gwl (w := w) hg bw; have GE390 := GW390; have NB389_390 := nbl hg (bkn BK389); have NB390_389 := nbg hg (bkn BK389); replace BK389 := AX (bkb BK389 hb); replace HB := AX (below_step bw hb); clear hb hbox hg))
 repeat (go_quiet (first | ((with_reducible refine gate_dst (N := 2) rfl ?_); (try (refine gate_guard (by rfl) ?_; dsimp only)); refine bx 2 #[.string a0_0, .int .i64 a0_1, .int .i64 a0_2, .int .i64 a0_3, .int .i64 a0_4, .int .i64 a0_5, .slice A0_6 l0_6.length c0_6] 31 ?_; intro gb389 hg w4 hbox hb; have BK389 := AX (hbox); have GW389 := gwl (w := w) hg bw; have GE389 := GW389; replace HB := AX (below_step bw hb); clear hb hbox hg) | ((with_reducible refine gate_dst (N := 3) rfl ?_); (try (refine gate_guard (by rfl) ?_; dsimp only)); refine bx 3 #[.string a1_0, .int .i64 a1_1, .int .i64 a1_2, .int .i64 a1_3, .int .i64 a1_4, .int .i64 a1_5, .slice A1_6 l1_6.length c1_6] 31 ?_; intro gb390 hg w5 hbox hb; have BK390 := AX (hbox); have GW390 := gwl (w := w) hg bw; have GE390 := GW390; have NB389_390 := nbl hg (bkn BK389); have NB390_389 := nbg hg (bkn BK389); replace BK389 := AX (bkb BK389 hb); replace HB := AX (below_step bw hb); clear hb hbox hg)); go_upto_region 1 with (first | ((with_reducible refine gate_dst (N := 2) rfl ?_); (try (refine gate_guard (by rfl) ?_; dsimp only)); refine bx 2 #[.string a0_0, .int .i64 a0_1, .int .i64 a0_2, .int .i64 a0_3, .int .i64 a0_4, .int .i64 a0_5, .slice A0_6 l0_6.length c0_6] 31 ?_; intro gb389 hg w4 hbox hb; have BK389 := AX (hbox); have GW389 := gwl (w := w) hg bw; have GE389 := GW389; replace HB := AX (below_step bw hb); clear hb hbox hg) | ((with_reducible refine gate_dst (N := 3) rfl ?_); (try (refine gate_guard (by rfl) ?_; dsimp only)); refine bx 3 #[.string a1_0, .int .i64 a1_1, .int .i64 a1_2, .int .i64 a1_3, .int .i64 a1_4, .int .i64 a1_5, .slice A1_6 l1_6.length c1_6] 31 ?_; intro gb390 hg w5 hbox hb; have BK390 := AX (hbox); have GW390 := gwl (w := w) hg bw; have GE390 := GW390; have NB389_390 := nbl hg (bkn BK389); have NB390_389 := nbg hg (bkn BK389); replace BK389 := AX (bkb BK389 hb); replace HB := AX (below_step bw hb); clear hb hbox hg)))
 (try simp only [Act.put, List.setIfInBounds_toArray, List.set_cons_zero, List.set_cons_succ])
 go_cut [54] (fun v54 wc => ∃ (kq : Nat) (x54_2 : Bool), v54 = .bool x54_2 ∧ Aside0 (pylonref07_Same.j0 kq x54_2 a0_0 a0_1 a0_2 a0_3 a0_4 a0_5 l0_6 a1_0 a1_1 a1_2 a1_3 a1_4 a1_5 l1_6 = some r) ∧ Aside0 (kq ≤ k) ∧ Aside0 (wc.heap[gb389]? = some (.cells #[.string a0_0, .int .i64 a0_1, .int .i64 a0_2, .int .i64 a0_3, .int .i64 a0_4, .int .i64 a0_5, (.slice A0_6 l0_6.length c0_6)] 31 (0, 0))) ∧ Aside0 (wc.heap[gb390]? = some (.cells #[.string a1_0, .int .i64 a1_1, .int .i64 a1_2, .int .i64 a1_3, .int .i64 a1_4, .int .i64 a1_5, (.slice A1_6 l1_6.length c1_6)] 31 (0, 0))) ∧ Aside0 (Below w.heap.size w wc))
 case first =>
  have H := HC3.out
  clear HC3
  by_cases c6 : a0_0.toList = a1_0.toList
  ·rw [if_pos c6] at H
   have c6b0 : (a0_0.toList == a1_0.toList) = true := beq_iff_eq.mpr c6
   have c6b1 : (a0_0.toList != a1_0.toList) = false := bne_eq_false_iff_eq.mpr c6
   clear c6
   (first | rw [c6b0] | (simp only [i64_w, i32_w]; rw [c6b0]) | skip)
   by_cases c7 : a0_1 = a1_1
   ·rw [if_pos c7] at H
    have c7b0 : (a0_1 == a1_1) = true := beq_iff_eq.mpr c7
    have c7b1 : (a0_1 != a1_1) = false := bne_eq_false_iff_eq.mpr c7
    clear c7
    by_cases c8 : a0_2 = a1_2
    ·rw [if_pos c8] at H
     have c8b0 : (a0_2 == a1_2) = true := beq_iff_eq.mpr c8
     have c8b1 : (a0_2 != a1_2) = false := bne_eq_false_iff_eq.mpr c8
     clear c8
     by_cases c9 : a0_3 = a1_3
     ·rw [if_pos c9] at H
      have c9b0 : (a0_3 == a1_3) = true := beq_iff_eq.mpr c9
      have c9b1 : (a0_3 != a1_3) = false := bne_eq_false_iff_eq.mpr c9
      clear c9
      by_cases c10 : a0_4 = a1_4
      ·rw [if_pos c10] at H
       have c10b0 : (a0_4 == a1_4) = true := beq_iff_eq.mpr c10
       have c10b1 : (a0_4 != a1_4) = false := bne_eq_false_iff_eq.mpr c10
       clear c10
       by_cases c11 : a0_5 = a1_5
       ·rw [if_pos c11] at H
        have c11b0 : (a0_5 == a1_5) = true := beq_iff_eq.mpr c11
        have c11b1 : (a0_5 != a1_5) = false := bne_eq_false_iff_eq.mpr c11
        clear c11
        have H' := AX H
        clear H
        have hnb12 := NB389_390.out
        have hnc12 := NB390_389.out
        obtain ⟨hcz13_0, hcz13_1, hcz13_2, hcz13_3, hcz13_4, hcz13_5, hcz13_6⟩ := blkC7 (w := w5) BK389.out
        obtain ⟨hfz13_0, hfz13_1, hfz13_2, hfz13_3, hfz13_4, hfz13_5, hfz13_6⟩ := blkF7 BK389.out
        obtain ⟨hcz14_0, hcz14_1, hcz14_2, hcz14_3, hcz14_4, hcz14_5, hcz14_6⟩ := blkC7 (w := w5) BK390.out
        obtain ⟨hfz14_0, hfz14_1, hfz14_2, hfz14_3, hfz14_4, hfz14_5, hfz14_6⟩ := blkF7 BK390.out
        go_wp2
        repeat (go_quiet (fail); try go_wp2)
        go_meet
        case rel => exact ⟨_, (((l0_6.length : Int) != (l1_6.length : Int))), (by first | rfl | (simp; done) | (simp [*]; done)), H', ⟨by first | omega | exact Nat.le_refl _⟩, ⟨bkn BK389⟩, ⟨bkn BK390⟩, ⟨bw⟩⟩
       ·rw [if_neg c11] at H
        have c11b0 : (a0_5 == a1_5) = false := beq_eq_false_iff_ne.mpr c11
        have c11b1 : (a0_5 != a1_5) = true := bne_iff_ne.mpr c11
        have H' := AX H
        clear H
        have hnb15 := NB389_390.out
        have hnc15 := NB390_389.out
        obtain ⟨hcz16_0, hcz16_1, hcz16_2, hcz16_3, hcz16_4, hcz16_5, hcz16_6⟩ := blkC7 (w := w5) BK389.out
        obtain ⟨hfz16_0, hfz16_1, hfz16_2, hfz16_3, hfz16_4, hfz16_5, hfz16_6⟩ := blkF7 BK389.out
        obtain ⟨hcz17_0, hcz17_1, hcz17_2, hcz17_3, hcz17_4, hcz17_5, hcz17_6⟩ := blkC7 (w := w5) BK390.out
        obtain ⟨hfz17_0, hfz17_1, hfz17_2, hfz17_3, hfz17_4, hfz17_5, hfz17_6⟩ := blkF7 BK390.out
        go_wp2
        repeat (go_quiet (fail); try go_wp2)
        go_meet
        case rel => exact ⟨_, (true), (by first | rfl | (simp; done) | (simp [*]; done)), H', ⟨by first | omega | exact Nat.le_refl _⟩, ⟨bkn BK389⟩, ⟨bkn BK390⟩, ⟨bw⟩⟩
      ·rw [if_neg c10] at H
       have c10b0 : (a0_4 == a1_4) = false := beq_eq_false_iff_ne.mpr c10
       have c10b1 : (a0_4 != a1_4) = true := bne_iff_ne.mpr c10
       have H' := AX H
       clear H
       have hnb18 := NB389_390.out
       have hnc18 := NB390_389.out
       obtain ⟨hcz19_0, hcz19_1, hcz19_2, hcz19_3, hcz19_4, hcz19_5, hcz19_6⟩ := blkC7 (w := w5) BK389.out
       obtain ⟨hfz19_0, hfz19_1, hfz19_2, hfz19_3, hfz19_4, hfz19_5, hfz19_6⟩ := blkF7 BK389.out
       obtain ⟨hcz20_0, hcz20_1, hcz20_2, hcz20_3, hcz20_4, hcz20_5, hcz20_6⟩ := blkC7 (w := w5) BK390.out
       obtain ⟨hfz20_0, hfz20_1, hfz20_2, hfz20_3, hfz20_4, hfz20_5, hfz20_6⟩ := blkF7 BK390.out
       go_wp2
       repeat (go_quiet (fail); try go_wp2)
       go_meet
       case rel => exact ⟨_, (true), (by first | rfl | (simp; done) | (simp [*]; done)), H', ⟨by first | omega | exact Nat.le_refl _⟩, ⟨bkn BK389⟩, ⟨bkn BK390⟩, ⟨bw⟩⟩
     ·rw [if_neg c9] at H
      have c9b0 : (a0_3 == a1_3) = false := beq_eq_false_iff_ne.mpr c9
      have c9b1 : (a0_3 != a1_3) = true := bne_iff_ne.mpr c9
      have H' := AX H
      clear H
      have hnb21 := NB389_390.out
      have hnc21 := NB390_389.out
      obtain ⟨hcz22_0, hcz22_1, hcz22_2, hcz22_3, hcz22_4, hcz22_5, hcz22_6⟩ := blkC7 (w := w5) BK389.out
      obtain ⟨hfz22_0, hfz22_1, hfz22_2, hfz22_3, hfz22_4, hfz22_5, hfz22_6⟩ := blkF7 BK389.out
      obtain ⟨hcz23_0, hcz23_1, hcz23_2, hcz23_3, hcz23_4, hcz23_5, hcz23_6⟩ := blkC7 (w := w5) BK390.out
      obtain ⟨hfz23_0, hfz23_1, hfz23_2, hfz23_3, hfz23_4, hfz23_5, hfz23_6⟩ := blkF7 BK390.out
      go_wp2
      repeat (go_quiet (fail); try go_wp2)
      go_meet
      case rel => exact ⟨_, (true), (by first | rfl | (simp; done) | (simp [*]; done)), H', ⟨by first | omega | exact Nat.le_refl _⟩, ⟨bkn BK389⟩, ⟨bkn BK390⟩, ⟨bw⟩⟩
    ·rw [if_neg c8] at H
     have c8b0 : (a0_2 == a1_2) = false := beq_eq_false_iff_ne.mpr c8
     have c8b1 : (a0_2 != a1_2) = true := bne_iff_ne.mpr c8
     have H' := AX H
     clear H
     have hnb24 := NB389_390.out
     have hnc24 := NB390_389.out
     obtain ⟨hcz25_0, hcz25_1, hcz25_2, hcz25_3, hcz25_4, hcz25_5, hcz25_6⟩ := blkC7 (w := w5) BK389.out
     obtain ⟨hfz25_0, hfz25_1, hfz25_2, hfz25_3, hfz25_4, hfz25_5, hfz25_6⟩ := blkF7 BK389.out
     obtain ⟨hcz26_0, hcz26_1, hcz26_2, hcz26_3, hcz26_4, hcz26_5, hcz26_6⟩ := blkC7 (w := w5) BK390.out
     obtain ⟨hfz26_0, hfz26_1, hfz26_2, hfz26_3, hfz26_4, hfz26_5, hfz26_6⟩ := blkF7 BK390.out
     go_wp2
     repeat (go_quiet (fail); try go_wp2)
     go_meet
     case rel => exact ⟨_, (true), (by first | rfl | (simp; done) | (simp [*]; done)), H', ⟨by first | omega | exact Nat.le_refl _⟩, ⟨bkn BK389⟩, ⟨bkn BK390⟩, ⟨bw⟩⟩
   ·rw [if_neg c7] at H
    have c7b0 : (a0_1 == a1_1) = false := beq_eq_false_iff_ne.mpr c7
    have c7b1 : (a0_1 != a1_1) = true := bne_iff_ne.mpr c7
    have H' := AX H
    clear H
    have hnb27 := NB389_390.out
    have hnc27 := NB390_389.out
    obtain ⟨hcz28_0, hcz28_1, hcz28_2, hcz28_3, hcz28_4, hcz28_5, hcz28_6⟩ := blkC7 (w := w5) BK389.out
    obtain ⟨hfz28_0, hfz28_1, hfz28_2, hfz28_3, hfz28_4, hfz28_5, hfz28_6⟩ := blkF7 BK389.out
    obtain ⟨hcz29_0, hcz29_1, hcz29_2, hcz29_3, hcz29_4, hcz29_5, hcz29_6⟩ := blkC7 (w := w5) BK390.out
    obtain ⟨hfz29_0, hfz29_1, hfz29_2, hfz29_3, hfz29_4, hfz29_5, hfz29_6⟩ := blkF7 BK390.out
    go_wp2
    repeat (go_quiet (fail); try go_wp2)
    go_meet
    case rel => exact ⟨_, (true), (by first | rfl | (simp; done) | (simp [*]; done)), H', ⟨by first | omega | exact Nat.le_refl _⟩, ⟨bkn BK389⟩, ⟨bkn BK390⟩, ⟨bw⟩⟩
  ·rw [if_neg c6] at H
   have c6b0 : (a0_0.toList == a1_0.toList) = false := beq_eq_false_iff_ne.mpr c6
   have c6b1 : (a0_0.toList != a1_0.toList) = true := bne_iff_ne.mpr c6
   (first | rw [c6b0] | (simp only [i64_w, i32_w]; rw [c6b0]) | skip)
   have H' := AX H
   clear H
   have hnb30 := NB389_390.out
   have hnc30 := NB390_389.out
   obtain ⟨hcz31_0, hcz31_1, hcz31_2, hcz31_3, hcz31_4, hcz31_5, hcz31_6⟩ := blkC7 (w := w5) BK389.out
   obtain ⟨hfz31_0, hfz31_1, hfz31_2, hfz31_3, hfz31_4, hfz31_5, hfz31_6⟩ := blkF7 BK389.out
   obtain ⟨hcz32_0, hcz32_1, hcz32_2, hcz32_3, hcz32_4, hcz32_5, hcz32_6⟩ := blkC7 (w := w5) BK390.out
   obtain ⟨hfz32_0, hfz32_1, hfz32_2, hfz32_3, hfz32_4, hfz32_5, hfz32_6⟩ := blkF7 BK390.out
   go_wp2
   repeat (go_quiet (fail); try go_wp2)
   go_meet
   case rel => exact ⟨_, (true), (by first | rfl | (simp; done) | (simp [*]; done)), H', ⟨by first | omega | exact Nat.le_refl _⟩, ⟨bkn BK389⟩, ⟨bkn BK390⟩, ⟨bw⟩⟩
 case rest =>
  clear HC3
  obtain ⟨kq, x54_2, rfl, HA, HJ2, BK389, BK390, HB⟩ := hcut
  cases kq with
  | zero => exact absurd HA.out (by simp [pylonref07_Same.j0])
  | succ kj2 =>
   have H := HA.out
   clear HA
   simp only [pylonref07_Same.j0] at H
   by_cases c33 : x54_2 = true
   ·subst c33
    have H1 : (some false) = some r := by rw [if_pos rfl] at H; exact H
    clear H
    have H := H1
    clear H1
    obtain rfl := Option.some.inj H
    go_wp2
    repeat (go_quiet (fail); try go_wp2)
    go_ret
    exact ⟨by first | rfl | (simp [errW_none, errW_some] <;> rfl) | (simp [*, errW_none, errW_some] <;> rfl), bw⟩
   ·replace c33 := Bool.eq_false_iff.mpr c33
    subst c33
    have H1 : (pylonref07_Same.l0 kj2 (l0_6.length : Int) 0 a0_0 a0_1 a0_2 a0_3 a0_4 a0_5 l0_6 a1_0 a1_1 a1_2 a1_3 a1_4 a1_5 l1_6) = some r := by rw [if_neg (show ¬ (false = true) by decide)] at H; exact H
    clear H
    have H := H1
    clear H1
    have H' := AX H
    clear H
    have hnb34 := NB389_390.out
    have hnc34 := NB390_389.out
    obtain ⟨hcz35_0, hcz35_1, hcz35_2, hcz35_3, hcz35_4, hcz35_5, hcz35_6⟩ := blkC7 (w := wc) BK389.out
    obtain ⟨hfz35_0, hfz35_1, hfz35_2, hfz35_3, hfz35_4, hfz35_5, hfz35_6⟩ := blkF7 BK389.out
    go_wp2
    repeat (go_quiet (fail); try go_wp2)
    go_loopg [58] kj2 (fun kq v58 w' => ∃ (x58_2 : Int), v58 = .int .i64 x58_2 ∧ Aside0 (pylonref07_Same.l0 kq (l0_6.length : Int) x58_2 a0_0 a0_1 a0_2 a0_3 a0_4 a0_5 l0_6 a1_0 a1_1 a1_2 a1_3 a1_4 a1_5 l1_6 = some r) ∧ Aside0 (kq ≤ kj2) ∧ Aside0 (w'.heap[gb389]? = some (.cells #[.string a0_0, .int .i64 a0_1, .int .i64 a0_2, .int .i64 a0_3, .int .i64 a0_4, .int .i64 a0_5, (.slice A0_6 l0_6.length c0_6)] 31 (0, 0))) ∧ Aside0 (w'.heap[gb390]? = some (.cells #[.string a1_0, .int .i64 a1_1, .int .i64 a1_2, .int .i64 a1_3, .int .i64 a1_4, .int .i64 a1_5, (.slice A1_6 l1_6.length c1_6)] 31 (0, 0))) ∧ Aside0 (Below w.heap.size w w'))
    case atStart => exact ⟨(0), (by first | rfl | (simp; done) | (simp [*]; done)), H', ⟨Nat.le_refl _⟩, ⟨bkn BK389⟩, ⟨bkn BK390⟩, ⟨bw⟩⟩
    case round =>
     clear H'
     try clear c33
     try clear hcz35_0 hcz35_1 hcz35_2 hcz35_3 hcz35_4 hcz35_5 hcz35_6
     try clear hfz35_0 hfz35_1 hfz35_2 hfz35_3 hfz35_4 hfz35_5 hfz35_6
     obtain ⟨x58_2, rfl, HA, HK2, BK389, BK390, HB⟩ := hrel
     cases gk with
     | zero => exact absurd HA.out (by simp [pylonref07_Same.l0])
     | succ k2 =>
      have H := HA.out
      clear HA
      simp only [pylonref07_Same.l0] at H
      by_cases c36 : x58_2 < (l0_6.length : Int)
      ·rw [if_pos c36] at H
       have c36b0 : decide (x58_2 < (l0_6.length : Int)) = true := decide_eq_true c36
       clear c36
       by_cases c37 : 0 ≤ x58_2
       ·rw [if_pos c37] at H
        have c37b0 : decide (0 ≤ x58_2) = true := decide_eq_true c37
        clear c37
        by_cases c38 : x58_2 < (l0_6.length : Int)
        ·rw [if_pos c38] at H
         have c38b0 : decide (x58_2 < (l0_6.length : Int)) = true := decide_eq_true c38
         clear c38
         by_cases c39 : x58_2 < (l1_6.length : Int)
         ·rw [if_pos c39] at H
          have c39b0 : decide (x58_2 < (l1_6.length : Int)) = true := decide_eq_true c39
          clear c39
          by_cases c40 : (!(((rd_T45 l0_6 x58_2).f0) == ((rd_T45 l1_6 x58_2).f0)) || (!(((rd_T45 l0_6 x58_2).f1) == ((rd_T45 l1_6 x58_2).f1)) || (!(((rd_T45 l0_6 x58_2).f2) == ((rd_T45 l1_6 x58_2).f2)) || (!(((rd_T45 l0_6 x58_2).f3) == ((rd_T45 l1_6 x58_2).f3)) || (!(((rd_T45 l0_6 x58_2).f4) == ((rd_T45 l1_6 x58_2).f4))))))) = true
          ·rw [if_pos c40] at H
           have c40b0 : (!(((rd_T45 l0_6 x58_2).f0) == ((rd_T45 l1_6 x58_2).f0)) || (!(((rd_T45 l0_6 x58_2).f1) == ((rd_T45 l1_6 x58_2).f1)) || (!(((rd_T45 l0_6 x58_2).f2) == ((rd_T45 l1_6 x58_2).f2)) || (!(((rd_T45 l0_6 x58_2).f3) == ((rd_T45 l1_6 x58_2).f3)) || (!(((rd_T45 l0_6 x58_2).f4) == ((rd_T45 l1_6 x58_2).f4))))))) = true := c40
           clear c40
           obtain rfl := Option.some.inj H
           have hnb41 := NB389_390.out
           have hnc41 := NB390_389.out
           obtain ⟨hcz42_0, hcz42_1, hcz42_2, hcz42_3, hcz42_4, hcz42_5, hcz42_6⟩ := blkC7 (w := wr) BK389.out
           obtain ⟨hfz42_0, hfz42_1, hfz42_2, hfz42_3, hfz42_4, hfz42_5, hfz42_6⟩ := blkF7 BK389.out
           have p391 : 0 ≤ (x58_2 : Int) := of_decide_eq_true (by first | (with_reducible assumption) | assumption)
           have q391 : x58_2 < (l0_6.length : Int) := of_decide_eq_true (by first | (with_reducible assumption) | assumption)
           obtain ⟨ad391, e391, hx391_0, hx391_1, hx391_2, hx391_3, hx391_4⟩ := at_T45 HR0_6.out x58_2 p391 q391
           cases e391
           replace hx391_0 := bcl HB hx391_0
           replace hx391_1 := bcl HB hx391_1
           replace hx391_2 := bcl HB hx391_2
           replace hx391_3 := bcl HB hx391_3
           replace hx391_4 := bcl HB hx391_4
           replace p391 := eq_true p391
           replace q391 := eq_true q391
           obtain ⟨hcz43_0, hcz43_1, hcz43_2, hcz43_3, hcz43_4, hcz43_5, hcz43_6⟩ := blkC7 (w := wr) BK390.out
           obtain ⟨hfz43_0, hfz43_1, hfz43_2, hfz43_3, hfz43_4, hfz43_5, hfz43_6⟩ := blkF7 BK390.out
           have p392 : 0 ≤ (x58_2 : Int) := of_decide_eq_true (by first | (with_reducible assumption) | assumption)
           have q392 : x58_2 < (l1_6.length : Int) := of_decide_eq_true (by first | (with_reducible assumption) | assumption)
           obtain ⟨ad392, e392, hx392_0, hx392_1, hx392_2, hx392_3, hx392_4⟩ := at_T45 HR1_6.out x58_2 p392 q392
           cases e392
           replace hx392_0 := bcl HB hx392_0
           replace hx392_1 := bcl HB hx392_1
           replace hx392_2 := bcl HB hx392_2
           replace hx392_3 := bcl HB hx392_3
           replace hx392_4 := bcl HB hx392_4
           replace p392 := eq_true p392
           replace q392 := eq_true q392
           go_wp2
           repeat (go_quiet (fail); try go_wp2)
           go_ret
           exact ⟨by first | rfl | (simp [errW_none, errW_some] <;> rfl) | (simp [*, errW_none, errW_some] <;> rfl), bw⟩
          ·rw [if_neg c40] at H
           have c40b0 : (!(((rd_T45 l0_6 x58_2).f0) == ((rd_T45 l1_6 x58_2).f0)) || (!(((rd_T45 l0_6 x58_2).f1) == ((rd_T45 l1_6 x58_2).f1)) || (!(((rd_T45 l0_6 x58_2).f2) == ((rd_T45 l1_6 x58_2).f2)) || (!(((rd_T45 l0_6 x58_2).f3) == ((rd_T45 l1_6 x58_2).f3)) || (!(((rd_T45 l0_6 x58_2).f4) == ((rd_T45 l1_6 x58_2).f4))))))) = false := by simpa using c40
           clear c40
           have H' := AX H
           clear H
           have hnb44 := NB389_390.out
           have hnc44 := NB390_389.out
           obtain ⟨hcz45_0, hcz45_1, hcz45_2, hcz45_3, hcz45_4, hcz45_5, hcz45_6⟩ := blkC7 (w := wr) BK389.out
           obtain ⟨hfz45_0, hfz45_1, hfz45_2, hfz45_3, hfz45_4, hfz45_5, hfz45_6⟩ := blkF7 BK389.out
           have p391 : 0 ≤ (x58_2 : Int) := of_decide_eq_true (by first | (with_reducible assumption) | assumption)
           have q391 : x58_2 < (l0_6.length : Int) := of_decide_eq_true (by first | (with_reducible assumption) | assumption)
           obtain ⟨ad391, e391, hx391_0, hx391_1, hx391_2, hx391_3, hx391_4⟩ := at_T45 HR0_6.out x58_2 p391 q391
           cases e391
           replace hx391_0 := bcl HB hx391_0
           replace hx391_1 := bcl HB hx391_1
           replace hx391_2 := bcl HB hx391_2
           replace hx391_3 := bcl HB hx391_3
           replace hx391_4 := bcl HB hx391_4
           replace p391 := eq_true p391
           replace q391 := eq_true q391
           obtain ⟨hcz46_0, hcz46_1, hcz46_2, hcz46_3, hcz46_4, hcz46_5, hcz46_6⟩ := blkC7 (w := wr) BK390.out
           obtain ⟨hfz46_0, hfz46_1, hfz46_2, hfz46_3, hfz46_4, hfz46_5, hfz46_6⟩ := blkF7 BK390.out
           have p392 : 0 ≤ (x58_2 : Int) := of_decide_eq_true (by first | (with_reducible assumption) | assumption)
           have q392 : x58_2 < (l1_6.length : Int) := of_decide_eq_true (by first | (with_reducible assumption) | assumption)
           obtain ⟨ad392, e392, hx392_0, hx392_1, hx392_2, hx392_3, hx392_4⟩ := at_T45 HR1_6.out x58_2 p392 q392
           cases e392
           replace hx392_0 := bcl HB hx392_0
           replace hx392_1 := bcl HB hx392_1
           replace hx392_2 := bcl HB hx392_2
           replace hx392_3 := bcl HB hx392_3
           replace hx392_4 := bcl HB hx392_4
           replace p392 := eq_true p392
           replace q392 := eq_true q392
           go_wp2
           repeat (go_quiet (fail); try go_wp2)
           go_roundg k2
           case measure => have := HJ2.out; have := HK2.out; omega
           case rel => exact ⟨(wrap64 (x58_2 + 1)), (by first | rfl | (simp; done) | (simp [*]; done)), H', ⟨by have := HJ2.out; have := HK2.out; omega⟩, ⟨bkn BK389⟩, ⟨bkn BK390⟩, ⟨bw⟩⟩
         ·rw [if_neg c39] at H
          exact absurd H (by simp)
        ·rw [if_neg c38] at H
         exact absurd H (by simp)
       ·rw [if_neg c37] at H
        exact absurd H (by simp)
      ·rw [if_neg c36] at H
       have c36b0 : decide (x58_2 < (l0_6.length : Int)) = false := decide_eq_false c36
       clear c36
       obtain rfl := Option.some.inj H
       go_wp2
       repeat (go_quiet (fail); try go_wp2)
       go_ret
       exact ⟨by first | rfl | (simp [errW_none, errW_some] <;> rfl) | (simp [*, errW_none, errW_some] <;> rfl), bw⟩

end Go.Proofs.Ythhifeefkmaeiaa.PX
