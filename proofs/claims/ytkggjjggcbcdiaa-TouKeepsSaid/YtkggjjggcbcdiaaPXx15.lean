/- Functions of the program as plain Lean functions, each with a proof that the call in the machine answers just what the plain function says; condition: the plain function answers at all. -/
import Derived.Test.YtkggjjggcbcdiaaPXx0
import Derived.Test.YtkggjjggcbcdiaaPXx2
import Derived.BigQuiet
import Derived.Deep.MidRow
namespace Go.Proofs.Ytkggjjggcbcdiaa.PX
open Go.RowKit Go.Proofs.YtkggjjggcbcdiaaW.PrintWords Go.Proofs.YtkggjjggcbcdiaaW.PrintLast Go.Proofs.YtkggjjggcbcdiaaW.PrintMore
attribute [local go_sem] max2_int min2_int max_two min_two max_three min_three max_four min_four   -- for this text's walks alone
set_option linter.unusedVariables false
set_option linter.unusedSimpArgs false

attribute [local go_sem high] eqA122
/-! ### pylonref08_SameSteps: function 60 -/
def pylonref08_SameSteps.l0 : Nat → List (S122) → List (S122) → Int → Int → Option (Bool)
 | 0, _, _, _, _ => none
 | k + 1, x0, x1, x12, x13 => if x13 < x12 then (if 0 ≤ x13 then (if x13 < (x0.length : Int) then (if x13 < (x1.length : Int) then (if (!(((rd_T122 x0 x13).f0) == ((rd_T122 x1 x13).f0)) || (!(((rd_T122 x0 x13).f1) == ((rd_T122 x1 x13).f1)))) = true then (some false) else (pylonref08_SameSteps.l0 k x0 x1 x12 (wrap64 (x13 + 1)))) else (none)) else (none)) else (none)) else (some true)
def pylonref08_SameSteps.f (k : Nat) (l0 : List (S122)) (l1 : List (S122)) : Option (Bool) := if (l0.length : Int) = (l1.length : Int) then (pylonref08_SameSteps.l0 k l0 l1 (l0.length : Int) 0) else (some false)
theorem pylonref08_SameSteps.mono_l : ∀ k, (∀ y0 y1 y2 y3, LeO (pylonref08_SameSteps.l0 k y0 y1 y2 y3) (pylonref08_SameSteps.l0 (k + 1) y0 y1 y2 y3))
 | 0 => fun _ _ _ _ r h => by simp [pylonref08_SameSteps.l0] at h
 | k + 1 => by
  have ih0 := pylonref08_SameSteps.mono_l k
  ·intro y0 y1 y2 y3
   unfold pylonref08_SameSteps.l0
   repeat' first
   | (with_reducible exact ih0 _ _ _ _)
   | (with_reducible exact LeO.refl _)
   | (with_reducible exact LeO.none _)
   | (with_reducible refine LeO.ite ?_ ?_)
   | (with_reducible refine LeO.bind ?_ (fun _ => ?_))
theorem pylonref08_SameSteps.mono : ∀ a0 a1 k, LeO (pylonref08_SameSteps.f k a0 a1) (pylonref08_SameSteps.f (k + 1) a0 a1) := by
 intro a0 a1 k
 have ih0 := pylonref08_SameSteps.mono_l k
 unfold pylonref08_SameSteps.f
 repeat' first
   | (with_reducible exact ih0 _ _ _ _)
   | (with_reducible exact LeO.refl _)
   | (with_reducible exact LeO.none _)
   | (with_reducible refine LeO.ite ?_ ?_)
   | (with_reducible refine LeO.bind ?_ (fun _ => ?_))
set_option maxHeartbeats 8000000 in
set_option maxRecDepth 100000 in
theorem pylonref08_SameSteps.calls (k : Nat) (A0 : Option Addr) (c0 : Nat) (l0 : List (S122)) (A1 : Option Addr) (c1 : Nat) (l1 : List (S122)) (r : Bool) (w : World) (hr0 : Kd.C k122 w A0 l0.length l0) (hc0 : l0.length ≤ c0) (hr1 : Kd.C k122 w A1 l1.length l1) (hc1 : l1.length ≤ c1) (h : pylonref08_SameSteps.f k l0 l1 = some r) :
  Calls Try.prog 60 #[.slice A0 l0.length c0, .slice A1 l1.length c1] w fun e w' => e = .returned (.bool r) ∧ Drawn0 w w' := by
 have hu122 := Try.underlying122
 have HR0 := AX hr0
 have HC0 := AX hc0
 clear hr0 hc0
 have HR1 := AX hr1
 have HC1 := AX hc1
 clear hr1 hc1
 have H : (if (l0.length : Int) = (l1.length : Int) then (pylonref08_SameSteps.l0 k l0 l1 (l0.length : Int) 0) else (some false)) = some r := h
 clear h
 by_cases c3 : (l0.length : Int) = (l1.length : Int)
 ·rw [if_pos c3] at H
  have c3b0 : ((l0.length : Int) == (l1.length : Int)) = true := beq_iff_eq.mpr c3
  have c3b1 : ((l0.length : Int) != (l1.length : Int)) = false := bne_eq_false_iff_eq.mpr c3
  have c3b2 : (l0.length == l1.length) = true := by first | simpa using c3 | (simp at c3 ⊢; omega)
  clear c3
  have H' := AX H
  clear H
  go_enter Try.func60, Try.ntmps60
  go_wp2
  repeat (go_quiet (fail); try go_wp2)
  go_loopg [13] k (fun kq v13 w' => ∃ (x13_1 : Int), v13 = .int .i64 x13_1 ∧ Aside0 (pylonref08_SameSteps.l0 kq l0 l1 (l0.length : Int) x13_1 = some r) ∧ Aside0 (kq ≤ k) ∧ Drawn0 w w')
  case atStart => exact ⟨(0), (by first | rfl | (simp; done) | (simp [*]; done)), H', ⟨Nat.le_refl _⟩, by repeat (first | exact Drawn0.refl _ | apply Drawn0.step)⟩
  case round =>
   clear H'
   try clear c1
   try clear c3b0 c3b1 c3b2
   obtain ⟨x13_1, rfl, HA, HK1, ⟨m1, rfl⟩⟩ := hrel
   cases gk with
   | zero => exact absurd HA.out (by simp [pylonref08_SameSteps.l0])
   | succ k1 =>
    have H := HA.out
    clear HA
    simp only [pylonref08_SameSteps.l0] at H
    by_cases c4 : x13_1 < (l0.length : Int)
    ·rw [if_pos c4] at H
     have c4b0 : decide (x13_1 < (l0.length : Int)) = true := decide_eq_true c4
     clear c4
     by_cases c5 : 0 ≤ x13_1
     ·rw [if_pos c5] at H
      have c5b0 : decide (0 ≤ x13_1) = true := decide_eq_true c5
      clear c5
      by_cases c6 : x13_1 < (l0.length : Int)
      ·rw [if_pos c6] at H
       have c6b0 : decide (x13_1 < (l0.length : Int)) = true := decide_eq_true c6
       clear c6
       by_cases c7 : x13_1 < (l1.length : Int)
       ·rw [if_pos c7] at H
        have c7b0 : decide (x13_1 < (l1.length : Int)) = true := decide_eq_true c7
        clear c7
        by_cases c8 : (!(((rd_T122 l0 x13_1).f0) == ((rd_T122 l1 x13_1).f0)) || (!(((rd_T122 l0 x13_1).f1) == ((rd_T122 l1 x13_1).f1)))) = true
        ·rw [if_pos c8] at H
         have c8b0 : (!(((rd_T122 l0 x13_1).f0) == ((rd_T122 l1 x13_1).f0)) || (!(((rd_T122 l0 x13_1).f1) == ((rd_T122 l1 x13_1).f1)))) = true := c8
         clear c8
         obtain rfl := Option.some.inj H
         have p269 : 0 ≤ (x13_1 : Int) := of_decide_eq_true (by first | (with_reducible assumption) | assumption)
         have q269 : x13_1 < (l0.length : Int) := of_decide_eq_true (by first | (with_reducible assumption) | assumption)
         obtain ⟨ad269, e269, hx269_0, hx269_1⟩ := at_T122 HR0.out x13_1 p269 q269
         cases e269
         replace p269 := eq_true p269
         replace q269 := eq_true q269
         have p270 : 0 ≤ (x13_1 : Int) := of_decide_eq_true (by first | (with_reducible assumption) | assumption)
         have q270 : x13_1 < (l1.length : Int) := of_decide_eq_true (by first | (with_reducible assumption) | assumption)
         obtain ⟨ad270, e270, hx270_0, hx270_1⟩ := at_T122 HR1.out x13_1 p270 q270
         cases e270
         replace p270 := eq_true p270
         replace q270 := eq_true q270
         go_wp2
         repeat (go_quiet (fail); try go_wp2)
         go_ret
         exact ⟨by first | rfl | (simp; done) | (simp [*]; done), by repeat (first | exact Drawn0.refl _ | apply Drawn0.step)⟩
        ·rw [if_neg c8] at H
         have c8b0 : (!(((rd_T122 l0 x13_1).f0) == ((rd_T122 l1 x13_1).f0)) || (!(((rd_T122 l0 x13_1).f1) == ((rd_T122 l1 x13_1).f1)))) = false := by simpa using c8
         clear c8
         have H' := AX H
         clear H
         have p269 : 0 ≤ (x13_1 : Int) := of_decide_eq_true (by first | (with_reducible assumption) | assumption)
         have q269 : x13_1 < (l0.length : Int) := of_decide_eq_true (by first | (with_reducible assumption) | assumption)
         obtain ⟨ad269, e269, hx269_0, hx269_1⟩ := at_T122 HR0.out x13_1 p269 q269
         cases e269
         replace p269 := eq_true p269
         replace q269 := eq_true q269
         have p270 : 0 ≤ (x13_1 : Int) := of_decide_eq_true (by first | (with_reducible assumption) | assumption)
         have q270 : x13_1 < (l1.length : Int) := of_decide_eq_true (by first | (with_reducible assumption) | assumption)
         obtain ⟨ad270, e270, hx270_0, hx270_1⟩ := at_T122 HR1.out x13_1 p270 q270
         cases e270
         replace p270 := eq_true p270
         replace q270 := eq_true q270
         go_wp2
         repeat (go_quiet (fail); try go_wp2)
         go_roundg k1
         case measure => have := HK1.out; omega
         case rel => exact ⟨(wrap64 (x13_1 + 1)), (by first | rfl | (simp; done) | (simp [*]; done)), H', ⟨by have := HK1.out; omega⟩, by repeat (first | exact Drawn0.refl _ | apply Drawn0.step)⟩
       ·rw [if_neg c7] at H
        exact absurd H (by simp)
      ·rw [if_neg c6] at H
       exact absurd H (by simp)
     ·rw [if_neg c5] at H
      exact absurd H (by simp)
    ·rw [if_neg c4] at H
     have c4b0 : decide (x13_1 < (l0.length : Int)) = false := decide_eq_false c4
     clear c4
     obtain rfl := Option.some.inj H
     go_wp2
     repeat (go_quiet (fail); try go_wp2)
     go_ret
     exact ⟨by first | rfl | (simp; done) | (simp [*]; done), by repeat (first | exact Drawn0.refl _ | apply Drawn0.step)⟩
 ·rw [if_neg c3] at H
  have c3b0 : ((l0.length : Int) == (l1.length : Int)) = false := beq_eq_false_iff_ne.mpr c3
  have c3b1 : ((l0.length : Int) != (l1.length : Int)) = true := bne_iff_ne.mpr c3
  have c3b2 : (l0.length == l1.length) = false := by first | simpa using c3 | (simp at c3 ⊢; omega)
  obtain rfl := Option.some.inj H
  go_enter Try.func60, Try.ntmps60
  go_wp2
  repeat (go_quiet (fail); try go_wp2)
  go_ret
  exact ⟨by first | rfl | (simp; done) | (simp [*]; done), by repeat (first | exact Drawn0.refl _ | apply Drawn0.step)⟩

/-! ### pylonref08_Same: function 29 -/
theorem sm_at {w w' : World} {g : Nat} {o : Obj} (h : w.heap[g]? = some o) (hB : Below w.heap.size w w') : w'.heap[g]? = some o := (hB.block g (Array.getElem?_eq_some_iff.1 h).1).trans h
theorem sm_cell {w : World} {g t j : Nat} {C : Array Value} {v : Value} (h : w.heap[g]? = some (.cells C t (0, 0))) (h2 : C[j]? = some v) : w.cell? ⟨g, j, none⟩ = some v := by simp [World.cell?, h, h2]
theorem sm_dr {b : Nat} {w w' : World} (h : Below b w w') (q : Nat) : Below b w (w'.drewN q) := ⟨h.os, h.tape, h.output, h.size, h.block⟩
theorem sm_sz (w : World) (o : Obj) : (w.alloc o).heap.size = w.heap.size + 1 := Array.size_push _
theorem eqs40 (d : Nat) (w : World) (x0 y0 : Int) (x1 y1 : Int) (x2 y2 : Int) (x3 y3 : Int) :
    (Op.equalIn (d + 2) 40 (.agg #[.int .i64 x0, .int .i64 x1, .int .i64 x2, .int .i64 x3]) (.agg #[.int .i64 y0, .int .i64 y1, .int .i64 y2, .int .i64 y3])).run Try.prog w = .ok (x0 == y0 && (x1 == y1 && (x2 == y2 && (x3 == y3)))) w := by
  refine eqA_of Try.underlying40 (by kernel_rfl) ?_
  refine eqf_cons (by rfl) (by go_simp; rfl) (by go_simp; rfl) (by go_simp) ?_
  refine eqf_cons (by rfl) (by go_simp; rfl) (by go_simp; rfl) (by go_simp) ?_
  refine eqf_cons (by rfl) (by go_simp; rfl) (by go_simp; rfl) (by go_simp) ?_
  exact eqf_last (by rfl) (by go_simp; rfl) (by go_simp; rfl) (by go_simp)
theorem eqs42 (d : Nat) (w : World) (x0 y0 : Int) (x1 y1 : Int) (x2 y2 : Int) (x3 y3 : Int) (x4 y4 : Int) (x5 y5 : Int) (x6 y6 : Int) (x7 y7 : Int) (x8 y8 : Int) (x9 y9 : Int) :
    (Op.equalIn (d + 3) 42 (.agg #[.int .i64 x0, .int .i64 x1, .int .i64 x2, .int .i64 x3, .int .i64 x4, .int .i64 x5, .int .i64 x6, .int .i64 x7, .int .i64 x8, .int .i64 x9]) (.agg #[.int .i64 y0, .int .i64 y1, .int .i64 y2, .int .i64 y3, .int .i64 y4, .int .i64 y5, .int .i64 y6, .int .i64 y7, .int .i64 y8, .int .i64 y9])).run Try.prog w = .ok (x0 == y0 && (x1 == y1 && ((x2 == y2 && (x3 == y3 && (x4 == y4 && (x5 == y5)))) && ((x6 == y6 && (x7 == y7 && (x8 == y8 && (x9 == y9)))))))) w := by
  refine eqA_of Try.underlying42 (by kernel_rfl) ?_
  refine eqf_cons (by rfl) (by go_simp; rfl) (by go_simp; rfl) (by go_simp) ?_
  refine eqf_cons (by rfl) (by go_simp; rfl) (by go_simp; rfl) (by go_simp) ?_
  refine eqf_cons (by rfl) (by go_simp) (by go_simp) (eqs40 (d + 0) w _ _ _ _ _ _ _ _) ?_
  exact eqf_last (by rfl) (by go_simp) (by go_simp) (eqs40 (d + 0) w _ _ _ _ _ _ _ _)
theorem eqs45 (d : Nat) (w : World) (x0 y0 : Int) (x1 y1 : Int) (x2 y2 : Int) (x3 y3 : Int) :
    (Op.equalIn (d + 2) 45 (.agg #[.int .i64 x0, .int .i64 x1, .int .i64 x2, .int .i64 x3]) (.agg #[.int .i64 y0, .int .i64 y1, .int .i64 y2, .int .i64 y3])).run Try.prog w = .ok (x0 == y0 && (x1 == y1 && (x2 == y2 && (x3 == y3)))) w := by
  refine eqA_of Try.underlying45 (by kernel_rfl) ?_
  refine eqf_cons (by rfl) (by go_simp; rfl) (by go_simp; rfl) (by go_simp) ?_
  refine eqf_cons (by rfl) (by go_simp; rfl) (by go_simp; rfl) (by go_simp) ?_
  refine eqf_cons (by rfl) (by go_simp; rfl) (by go_simp; rfl) (by go_simp) ?_
  exact eqf_last (by rfl) (by go_simp; rfl) (by go_simp; rfl) (by go_simp)
theorem eqs58 (d : Nat) (w : World) (x0 y0 : ByteArray) (x1 y1 : Int) (x2 y2 : Int) :
    (Op.equalIn (d + 2) 58 (.agg #[.string x0, .int .i64 x1, .int .i64 x2]) (.agg #[.string y0, .int .i64 y1, .int .i64 y2])).run Try.prog w = .ok (x0.toList == y0.toList && (x1 == y1 && (x2 == y2))) w := by
  refine eqA_of Try.underlying58 (by kernel_rfl) ?_
  refine eqf_cons (by rfl) (by go_simp; rfl) (by go_simp; rfl) (by go_simp) ?_
  refine eqf_cons (by rfl) (by go_simp; rfl) (by go_simp; rfl) (by go_simp) ?_
  exact eqf_last (by rfl) (by go_simp; rfl) (by go_simp; rfl) (by go_simp)
theorem eqs60 (d : Nat) (w : World) (x0 y0 : ByteArray) (x1 y1 : Int) (x2 y2 : Int) (x3 y3 : Int) (x4 y4 : ByteArray) :
    (Op.equalIn (d + 2) 60 (.agg #[.string x0, .int .i64 x1, .int .i64 x2, .int .i64 x3, .string x4]) (.agg #[.string y0, .int .i64 y1, .int .i64 y2, .int .i64 y3, .string y4])).run Try.prog w = .ok (x0.toList == y0.toList && (x1 == y1 && (x2 == y2 && (x3 == y3 && (x4.toList == y4.toList))))) w := by
  refine eqA_of Try.underlying60 (by kernel_rfl) ?_
  refine eqf_cons (by rfl) (by go_simp; rfl) (by go_simp; rfl) (by go_simp) ?_
  refine eqf_cons (by rfl) (by go_simp; rfl) (by go_simp; rfl) (by go_simp) ?_
  refine eqf_cons (by rfl) (by go_simp; rfl) (by go_simp; rfl) (by go_simp) ?_
  refine eqf_cons (by rfl) (by go_simp; rfl) (by go_simp; rfl) (by go_simp) ?_
  exact eqf_last (by rfl) (by go_simp; rfl) (by go_simp; rfl) (by go_simp)
theorem eqs65 (d : Nat) (w : World) (x0 y0 : Int) (x1 y1 : Int) (x2 y2 : Int) (x3 y3 : Int) :
    (Op.equalIn (d + 2) 65 (.agg #[.int .i64 x0, .int .i64 x1, .int .i64 x2, .int .i64 x3]) (.agg #[.int .i64 y0, .int .i64 y1, .int .i64 y2, .int .i64 y3])).run Try.prog w = .ok (x0 == y0 && (x1 == y1 && (x2 == y2 && (x3 == y3)))) w := by
  refine eqA_of Try.underlying65 (by kernel_rfl) ?_
  refine eqf_cons (by rfl) (by go_simp; rfl) (by go_simp; rfl) (by go_simp) ?_
  refine eqf_cons (by rfl) (by go_simp; rfl) (by go_simp; rfl) (by go_simp) ?_
  refine eqf_cons (by rfl) (by go_simp; rfl) (by go_simp; rfl) (by go_simp) ?_
  exact eqf_last (by rfl) (by go_simp; rfl) (by go_simp; rfl) (by go_simp)
attribute [local go_sem high] eqs40 eqs42 eqs45 eqs58 eqs60 eqs65
set_option maxHeartbeats 16000000 in
set_option maxRecDepth 100000 in
theorem pylonref08_Same.calls (k : Nat) (a0_0 : ByteArray) (a0_1 : Int) (a0_2 : Int) (a0_3 : Int) (a0_4 : Int) (a0_5 : Int) (a0_6 : Int) (a0_7 : Int) (a0_8 : Int) (a0_9 : Int) (a0_10 : Int) (a0_11 : Int) (a0_12 : Int) (a0_13 : Int) (a0_14 : Int) (A0_15 : Option Addr) (c0_15 : Nat) (l0_15 : List (S58)) (A0_16 : Option Addr) (c0_16 : Nat) (l0_16 : List (S65)) (A0_17 : Option Addr) (c0_17 : Nat) (l0_17 : List (S60)) (A0_18 : Option Addr) (c0_18 : Nat) (l0_18 : List (S63)) (a0_19 : Int) (a0_20 : Int) (a0_21 : Int) (a0_22 : Int) (a0_23 : Int) (a0_24 : Int) (a0_25 : Int) (a0_26 : Int) (a0_27 : Int) (A1_15 : Option Addr) (c1_15 : Nat) (A1_16 : Option Addr) (c1_16 : Nat) (A1_17 : Option Addr) (c1_17 : Nat) (A1_18 : Option Addr) (c1_18 : Nat) (w : World) (hr0_15 : Kd.C k58 w A0_15 l0_15.length l0_15) (hc0_15 : l0_15.length ≤ c0_15) (hr0_16 : Kd.C k65 w A0_16 l0_16.length l0_16) (hc0_16 : l0_16.length ≤ c0_16) (hr0_17 : Kd.C k60 w A0_17 l0_17.length l0_17) (hc0_17 : l0_17.length ≤ c0_17) (hr0_18 : Kd.C k63 w A0_18 l0_18.length l0_18) (hc0_18 : l0_18.length ≤ c0_18) (hr1_15 : Kd.C k58 w A1_15 l0_15.length l0_15) (hc1_15 : l0_15.length ≤ c1_15) (hr1_16 : Kd.C k65 w A1_16 l0_16.length l0_16) (hc1_16 : l0_16.length ≤ c1_16) (hr1_17 : Kd.C k60 w A1_17 l0_17.length l0_17) (hc1_17 : l0_17.length ≤ c1_17) (hr1_18 : Kd.C k63 w A1_18 l0_18.length l0_18) (hc1_18 : l0_18.length ≤ c1_18) (hst : ∀ x ∈ l0_18, pylonref08_SameSteps.f k x.f1 x.f1 = some true) :
  Calls Try.prog 29 #[.agg #[.string a0_0, .int .i64 a0_1, .int .i64 a0_2, .int .i64 a0_3, .int .i64 a0_4, .int .i64 a0_5, .int .i64 a0_6, .int .i64 a0_7, .int .i64 a0_8, .int .i64 a0_9, .int .i64 a0_10, .int .i64 a0_11, .int .i64 a0_12, .int .i64 a0_13, .int .i64 a0_14, .slice A0_15 l0_15.length c0_15, .slice A0_16 l0_16.length c0_16, .slice A0_17 l0_17.length c0_17, .slice A0_18 l0_18.length c0_18, .int .i64 a0_19, .int .i64 a0_20, .int .i64 a0_21, .int .i64 a0_22, .int .i64 a0_23, .int .i64 a0_24, .int .i64 a0_25, .int .i64 a0_26, .int .i64 a0_27], .agg #[.string a0_0, .int .i64 a0_1, .int .i64 a0_2, .int .i64 a0_3, .int .i64 a0_4, .int .i64 a0_5, .int .i64 a0_6, .int .i64 a0_7, .int .i64 a0_8, .int .i64 a0_9, .int .i64 a0_10, .int .i64 a0_11, .int .i64 a0_12, .int .i64 a0_13, .int .i64 a0_14, .slice A1_15 l0_15.length c1_15, .slice A1_16 l0_16.length c1_16, .slice A1_17 l0_17.length c1_17, .slice A1_18 l0_18.length c1_18, .int .i64 a0_19, .int .i64 a0_20, .int .i64 a0_21, .int .i64 a0_22, .int .i64 a0_23, .int .i64 a0_24, .int .i64 a0_25, .int .i64 a0_26, .int .i64 a0_27]] w fun e w' => e = .returned (.bool true) ∧ Below w.heap.size w w' := by
  obtain ⟨C, hC⟩ : ∃ C : Array Value, (#[.string a0_0, .int .i64 a0_1, .int .i64 a0_2, .int .i64 a0_3, .int .i64 a0_4, .int .i64 a0_5, .int .i64 a0_6, .int .i64 a0_7, .int .i64 a0_8, .int .i64 a0_9, .int .i64 a0_10, .int .i64 a0_11, .int .i64 a0_12, .int .i64 a0_13, .int .i64 a0_14, .slice A0_15 l0_15.length c0_15, .slice A0_16 l0_16.length c0_16, .slice A0_17 l0_17.length c0_17, .slice A0_18 l0_18.length c0_18, .int .i64 a0_19, .int .i64 a0_20, .int .i64 a0_21, .int .i64 a0_22, .int .i64 a0_23, .int .i64 a0_24, .int .i64 a0_25, .int .i64 a0_26, .int .i64 a0_27] : Array Value) = C := ⟨_, rfl⟩
  obtain ⟨D, hD⟩ : ∃ D : Array Value, (#[.string a0_0, .int .i64 a0_1, .int .i64 a0_2, .int .i64 a0_3, .int .i64 a0_4, .int .i64 a0_5, .int .i64 a0_6, .int .i64 a0_7, .int .i64 a0_8, .int .i64 a0_9, .int .i64 a0_10, .int .i64 a0_11, .int .i64 a0_12, .int .i64 a0_13, .int .i64 a0_14, .slice A1_15 l0_15.length c1_15, .slice A1_16 l0_16.length c1_16, .slice A1_17 l0_17.length c1_17, .slice A1_18 l0_18.length c1_18, .int .i64 a0_19, .int .i64 a0_20, .int .i64 a0_21, .int .i64 a0_22, .int .i64 a0_23, .int .i64 a0_24, .int .i64 a0_25, .int .i64 a0_26, .int .i64 a0_27] : Array Value) = D := ⟨_, rfl⟩
  have E0 := AX (show C[0]? = some (.string a0_0) by rw [← hC]; rfl)
  have G0 := AX (show D[0]? = some (.string a0_0) by rw [← hD]; rfl)
  have E1 := AX (show C[1]? = some (.int .i64 a0_1) by rw [← hC]; rfl)
  have G1 := AX (show D[1]? = some (.int .i64 a0_1) by rw [← hD]; rfl)
  have E2 := AX (show C[2]? = some (.int .i64 a0_2) by rw [← hC]; rfl)
  have G2 := AX (show D[2]? = some (.int .i64 a0_2) by rw [← hD]; rfl)
  have E3 := AX (show C[3]? = some (.int .i64 a0_3) by rw [← hC]; rfl)
  have G3 := AX (show D[3]? = some (.int .i64 a0_3) by rw [← hD]; rfl)
  have E4 := AX (show C[4]? = some (.int .i64 a0_4) by rw [← hC]; rfl)
  have G4 := AX (show D[4]? = some (.int .i64 a0_4) by rw [← hD]; rfl)
  have E5 := AX (show C[5]? = some (.int .i64 a0_5) by rw [← hC]; rfl)
  have G5 := AX (show D[5]? = some (.int .i64 a0_5) by rw [← hD]; rfl)
  have E6 := AX (show C[6]? = some (.int .i64 a0_6) by rw [← hC]; rfl)
  have G6 := AX (show D[6]? = some (.int .i64 a0_6) by rw [← hD]; rfl)
  have E7 := AX (show C[7]? = some (.int .i64 a0_7) by rw [← hC]; rfl)
  have G7 := AX (show D[7]? = some (.int .i64 a0_7) by rw [← hD]; rfl)
  have E8 := AX (show C[8]? = some (.int .i64 a0_8) by rw [← hC]; rfl)
  have G8 := AX (show D[8]? = some (.int .i64 a0_8) by rw [← hD]; rfl)
  have E9 := AX (show C[9]? = some (.int .i64 a0_9) by rw [← hC]; rfl)
  have G9 := AX (show D[9]? = some (.int .i64 a0_9) by rw [← hD]; rfl)
  have E10 := AX (show C[10]? = some (.int .i64 a0_10) by rw [← hC]; rfl)
  have G10 := AX (show D[10]? = some (.int .i64 a0_10) by rw [← hD]; rfl)
  have E11 := AX (show C[11]? = some (.int .i64 a0_11) by rw [← hC]; rfl)
  have G11 := AX (show D[11]? = some (.int .i64 a0_11) by rw [← hD]; rfl)
  have E12 := AX (show C[12]? = some (.int .i64 a0_12) by rw [← hC]; rfl)
  have G12 := AX (show D[12]? = some (.int .i64 a0_12) by rw [← hD]; rfl)
  have E13 := AX (show C[13]? = some (.int .i64 a0_13) by rw [← hC]; rfl)
  have G13 := AX (show D[13]? = some (.int .i64 a0_13) by rw [← hD]; rfl)
  have E14 := AX (show C[14]? = some (.int .i64 a0_14) by rw [← hC]; rfl)
  have G14 := AX (show D[14]? = some (.int .i64 a0_14) by rw [← hD]; rfl)
  have E15 := AX (show C[15]? = some (.slice A0_15 l0_15.length c0_15) by rw [← hC]; rfl)
  have G15 := AX (show D[15]? = some (.slice A1_15 l0_15.length c1_15) by rw [← hD]; rfl)
  have E16 := AX (show C[16]? = some (.slice A0_16 l0_16.length c0_16) by rw [← hC]; rfl)
  have G16 := AX (show D[16]? = some (.slice A1_16 l0_16.length c1_16) by rw [← hD]; rfl)
  have E17 := AX (show C[17]? = some (.slice A0_17 l0_17.length c0_17) by rw [← hC]; rfl)
  have G17 := AX (show D[17]? = some (.slice A1_17 l0_17.length c1_17) by rw [← hD]; rfl)
  have E18 := AX (show C[18]? = some (.slice A0_18 l0_18.length c0_18) by rw [← hC]; rfl)
  have G18 := AX (show D[18]? = some (.slice A1_18 l0_18.length c1_18) by rw [← hD]; rfl)
  have E19 := AX (show C[19]? = some (.int .i64 a0_19) by rw [← hC]; rfl)
  have G19 := AX (show D[19]? = some (.int .i64 a0_19) by rw [← hD]; rfl)
  have E20 := AX (show C[20]? = some (.int .i64 a0_20) by rw [← hC]; rfl)
  have G20 := AX (show D[20]? = some (.int .i64 a0_20) by rw [← hD]; rfl)
  have E21 := AX (show C[21]? = some (.int .i64 a0_21) by rw [← hC]; rfl)
  have G21 := AX (show D[21]? = some (.int .i64 a0_21) by rw [← hD]; rfl)
  have E22 := AX (show C[22]? = some (.int .i64 a0_22) by rw [← hC]; rfl)
  have G22 := AX (show D[22]? = some (.int .i64 a0_22) by rw [← hD]; rfl)
  have E23 := AX (show C[23]? = some (.int .i64 a0_23) by rw [← hC]; rfl)
  have G23 := AX (show D[23]? = some (.int .i64 a0_23) by rw [← hD]; rfl)
  have E24 := AX (show C[24]? = some (.int .i64 a0_24) by rw [← hC]; rfl)
  have G24 := AX (show D[24]? = some (.int .i64 a0_24) by rw [← hD]; rfl)
  have E25 := AX (show C[25]? = some (.int .i64 a0_25) by rw [← hC]; rfl)
  have G25 := AX (show D[25]? = some (.int .i64 a0_25) by rw [← hD]; rfl)
  have E26 := AX (show C[26]? = some (.int .i64 a0_26) by rw [← hC]; rfl)
  have G26 := AX (show D[26]? = some (.int .i64 a0_26) by rw [← hD]; rfl)
  have E27 := AX (show C[27]? = some (.int .i64 a0_27) by rw [← hC]; rfl)
  have G27 := AX (show D[27]? = some (.int .i64 a0_27) by rw [← hD]; rfl)
  have HR15 := AX hr0_15
  have HS15 := AX hr1_15
  have hl15 := hr0_15.2.1
  have HR16 := AX hr0_16
  have HS16 := AX hr1_16
  have hl16 := hr0_16.2.1
  have HR17 := AX hr0_17
  have HS17 := AX hr1_17
  have hl17 := hr0_17.2.1
  have HR18 := AX hr0_18
  have HS18 := AX hr1_18
  have hl18 := hr0_18.2.1
  have HST := AX hst
  clear hr0_15 hc0_15 hr1_15 hc1_15 hr0_16 hc0_16 hr1_16 hc1_16 hr0_17 hc0_17 hr1_17 hc1_17 hr0_18 hc0_18 hr1_18 hc1_18 hst
  have HB1 := AX ((Below.refl w.heap.size w).alloc (Nat.le_refl _) (.cells C 47))
  have BK := AX (heap_alloc_new w (.cells C 47))
  go_enter Try.func29, Try.ntmps29
  go_upto_region 1 with (fail)
  clear hC hD
  obtain ⟨W, hW⟩ : ∃ W : World, ((w.alloc (.cells C 47)).alloc (.cells D 47)) = W := ⟨_, rfl⟩
  have hb2 := (Below.refl (w.alloc (.cells C 47)).heap.size (w.alloc (.cells C 47))).alloc (Nat.le_refl _) (.cells D 47)
  have BKA := AX (hW ▸ sm_at BK.out hb2 : W.heap[w.heap.size]? = some (.cells C 47))
  have BKB := AX (show W.heap[w.heap.size + 1]? = some (.cells D 47) by
    have := heap_alloc_new (w.alloc (.cells C 47)) (.cells D 47)
    rw [hW, sm_sz] at this
    exact this)
  have HBW := AX (show Below w.heap.size w W from hW ▸ HB1.out.trans (hb2.mono HB1.out.size))
  rw [hW]
  clear hW hb2 HB1 BK
  obtain ⟨ga, hga⟩ : ∃ g, w.heap.size = g := ⟨_, rfl⟩
  have HG := AX hga
  rw [hga] at BKA BKB ⊢
  clear hga
  obtain ⟨gb, hgb⟩ : ∃ g, ga + 1 = g := ⟨_, rfl⟩
  rw [hgb] at BKB ⊢
  clear hgb
  have HL := AX (Below.refl W.heap.size W)
  go_cut [90] (fun v wx => v = .bool false ∧ Aside0 (Below W.heap.size W wx))
  case first =>
    have c0 := sm_cell (sm_at BKA.out HL.out) E0.out
    have d0 := sm_cell (sm_at BKB.out HL.out) G0.out
    have c1 := sm_cell (sm_at BKA.out HL.out) E1.out
    have d1 := sm_cell (sm_at BKB.out HL.out) G1.out
    have c2 := sm_cell (sm_at BKA.out HL.out) E2.out
    have d2 := sm_cell (sm_at BKB.out HL.out) G2.out
    have c3 := sm_cell (sm_at BKA.out HL.out) E3.out
    have d3 := sm_cell (sm_at BKB.out HL.out) G3.out
    have c4 := sm_cell (sm_at BKA.out HL.out) E4.out
    have d4 := sm_cell (sm_at BKB.out HL.out) G4.out
    have c5 := sm_cell (sm_at BKA.out HL.out) E5.out
    have d5 := sm_cell (sm_at BKB.out HL.out) G5.out
    have c6 := sm_cell (sm_at BKA.out HL.out) E6.out
    have d6 := sm_cell (sm_at BKB.out HL.out) G6.out
    have c7 := sm_cell (sm_at BKA.out HL.out) E7.out
    have d7 := sm_cell (sm_at BKB.out HL.out) G7.out
    have c8 := sm_cell (sm_at BKA.out HL.out) E8.out
    have d8 := sm_cell (sm_at BKB.out HL.out) G8.out
    have c9 := sm_cell (sm_at BKA.out HL.out) E9.out
    have d9 := sm_cell (sm_at BKB.out HL.out) G9.out
    have c10 := sm_cell (sm_at BKA.out HL.out) E10.out
    have d10 := sm_cell (sm_at BKB.out HL.out) G10.out
    have c11 := sm_cell (sm_at BKA.out HL.out) E11.out
    have d11 := sm_cell (sm_at BKB.out HL.out) G11.out
    have c12 := sm_cell (sm_at BKA.out HL.out) E12.out
    have d12 := sm_cell (sm_at BKB.out HL.out) G12.out
    have c13 := sm_cell (sm_at BKA.out HL.out) E13.out
    have d13 := sm_cell (sm_at BKB.out HL.out) G13.out
    have c14 := sm_cell (sm_at BKA.out HL.out) E14.out
    have d14 := sm_cell (sm_at BKB.out HL.out) G14.out
    have c19 := sm_cell (sm_at BKA.out HL.out) E19.out
    have d19 := sm_cell (sm_at BKB.out HL.out) G19.out
    have c20 := sm_cell (sm_at BKA.out HL.out) E20.out
    have d20 := sm_cell (sm_at BKB.out HL.out) G20.out
    have c21 := sm_cell (sm_at BKA.out HL.out) E21.out
    have d21 := sm_cell (sm_at BKB.out HL.out) G21.out
    have c22 := sm_cell (sm_at BKA.out HL.out) E22.out
    have d22 := sm_cell (sm_at BKB.out HL.out) G22.out
    have c23 := sm_cell (sm_at BKA.out HL.out) E23.out
    have d23 := sm_cell (sm_at BKB.out HL.out) G23.out
    have c24 := sm_cell (sm_at BKA.out HL.out) E24.out
    have d24 := sm_cell (sm_at BKB.out HL.out) G24.out
    have c25 := sm_cell (sm_at BKA.out HL.out) E25.out
    have d25 := sm_cell (sm_at BKB.out HL.out) G25.out
    have c26 := sm_cell (sm_at BKA.out HL.out) E26.out
    have d26 := sm_cell (sm_at BKB.out HL.out) G26.out
    have c27 := sm_cell (sm_at BKA.out HL.out) E27.out
    have d27 := sm_cell (sm_at BKB.out HL.out) G27.out
    go_wp2
    repeat (go_quiet (fail); try go_wp2)
    go_meet
    exact ⟨rfl, AX (by first | exact HL.out | exact sm_dr HL.out _ | exact sm_dr (sm_dr HL.out _) _ | exact sm_dr (sm_dr (sm_dr HL.out _) _) _)⟩
  case rest =>
    obtain ⟨rfl, HL'⟩ := hcut
    clear HL
    have HL := HL'
    clear HL'
    obtain ⟨W1, hW1⟩ : ∃ x : World, x = wc := ⟨_, rfl⟩
    subst hW1
    go_upto_region 3 with (fail)
    go_cut [124] (fun v wx => v = .bool false ∧ Aside0 (Below W.heap.size W wx))
    case first =>
      have c15 := sm_cell (sm_at BKA.out HL.out) E15.out
      have d15 := sm_cell (sm_at BKB.out HL.out) G15.out
      have c16 := sm_cell (sm_at BKA.out HL.out) E16.out
      have d16 := sm_cell (sm_at BKB.out HL.out) G16.out
      have c17 := sm_cell (sm_at BKA.out HL.out) E17.out
      have d17 := sm_cell (sm_at BKB.out HL.out) G17.out
      have c18 := sm_cell (sm_at BKA.out HL.out) E18.out
      have d18 := sm_cell (sm_at BKB.out HL.out) G18.out
      go_wp2
      repeat (go_quiet (fail); try go_wp2)
      go_meet
      exact ⟨rfl, AX (by first | exact HL.out | exact sm_dr HL.out _ | exact sm_dr (sm_dr HL.out _) _ | exact sm_dr (sm_dr (sm_dr HL.out _) _) _)⟩
    case rest =>
      obtain ⟨rfl, HL'⟩ := hcut
      clear HL
      have HL := HL'
      clear HL'
      obtain ⟨W2, hW2⟩ : ∃ x : World, x = wc := ⟨_, rfl⟩
      subst hW2
      have c15 := sm_cell (sm_at BKA.out HL.out) E15.out
      have d15 := sm_cell (sm_at BKB.out HL.out) G15.out
      go_wp2
      try (repeat (go_quiet (fail); try go_wp2))
      clear c15 d15
      go_loopw [128] (fun vi wr => ∃ i : Nat, vi = .int .i64 i ∧ i ≤ l0_15.length ∧ Aside0 (Below W.heap.size W wr)) (fun vi _ => l0_15.length - (intOf vi).toNat)
      case atStart => exact ⟨0, rfl, by omega, AX (by first | exact HL.out | exact sm_dr HL.out _ | exact sm_dr (sm_dr HL.out _) _)⟩
      case round =>
        clear HL
        obtain ⟨i, rfl, hi, HL⟩ := hrel
        have c15 := sm_cell (sm_at BKA.out HL.out) E15.out
        have d15 := sm_cell (sm_at BKB.out HL.out) G15.out
        by_cases hlt : i < l0_15.length
        · obtain ⟨ad, eA, z0, z1, z2⟩ := at_T58 (Kd.C_below HR15.out (HBW.out.trans (HL.out.mono HBW.out.size))) (i : Int) (by omega) (by omega)
          obtain ⟨ad', eB, y0, y1, y2⟩ := at_T58 (Kd.C_below HS15.out (HBW.out.trans (HL.out.mono HBW.out.size))) (i : Int) (by omega) (by omega)
          obtain ⟨⟨f0, f1, f2⟩, hrd⟩ : ∃ s, rd_T58 l0_15 (i : Int) = s := ⟨_, rfl⟩
          rw [hrd] at z0 z1 z2 y0 y1 y2
          simp only [Int.toNat_natCast] at z0 z1 z2 y0 y1 y2
          clear hrd
          subst eA eB
          go_wp2
          repeat (go_quiet (fail); try go_wp2)
          go_roundw
          case rel => exact ⟨i + 1, by go_num, by omega, AX (by first | exact HL.out | exact sm_dr HL.out _ | exact sm_dr (sm_dr HL.out _) _)⟩
          case measure => simp [intOf]; omega
        · obtain rfl : i = l0_15.length := by omega
          clear c15 d15
          obtain ⟨Wn15, hWn⟩ : ∃ x : World, x = wr := ⟨_, rfl⟩
          subst hWn
          have c16 := sm_cell (sm_at BKA.out HL.out) E16.out
          have d16 := sm_cell (sm_at BKB.out HL.out) G16.out
          go_wp2
          try (repeat (go_quiet (fail); try go_wp2))
          clear c16 d16
          go_loopw [146] (fun vi wr => ∃ i : Nat, vi = .int .i64 i ∧ i ≤ l0_16.length ∧ Aside0 (Below W.heap.size W wr)) (fun vi _ => l0_16.length - (intOf vi).toNat)
          case atStart => exact ⟨0, rfl, by omega, AX (by first | exact HL.out | exact sm_dr HL.out _ | exact sm_dr (sm_dr HL.out _) _)⟩
          case round =>
            clear HL
            obtain ⟨i, rfl, hi, HL⟩ := hrel
            have c16 := sm_cell (sm_at BKA.out HL.out) E16.out
            have d16 := sm_cell (sm_at BKB.out HL.out) G16.out
            by_cases hlt : i < l0_16.length
            · obtain ⟨ad, eA, z0, z1, z2, z3⟩ := at_T65 (Kd.C_below HR16.out (HBW.out.trans (HL.out.mono HBW.out.size))) (i : Int) (by omega) (by omega)
              obtain ⟨ad', eB, y0, y1, y2, y3⟩ := at_T65 (Kd.C_below HS16.out (HBW.out.trans (HL.out.mono HBW.out.size))) (i : Int) (by omega) (by omega)
              obtain ⟨⟨f0, f1, f2, f3⟩, hrd⟩ : ∃ s, rd_T65 l0_16 (i : Int) = s := ⟨_, rfl⟩
              rw [hrd] at z0 z1 z2 z3 y0 y1 y2 y3
              simp only [Int.toNat_natCast] at z0 z1 z2 z3 y0 y1 y2 y3
              clear hrd
              subst eA eB
              go_wp2
              repeat (go_quiet (fail); try go_wp2)
              go_roundw
              case rel => exact ⟨i + 1, by go_num, by omega, AX (by first | exact HL.out | exact sm_dr HL.out _ | exact sm_dr (sm_dr HL.out _) _)⟩
              case measure => simp [intOf]; omega
            · obtain rfl : i = l0_16.length := by omega
              clear c16 d16
              obtain ⟨Wn16, hWn⟩ : ∃ x : World, x = wr := ⟨_, rfl⟩
              subst hWn
              have c17 := sm_cell (sm_at BKA.out HL.out) E17.out
              have d17 := sm_cell (sm_at BKB.out HL.out) G17.out
              go_wp2
              try (repeat (go_quiet (fail); try go_wp2))
              clear c17 d17
              go_loopw [164] (fun vi wr => ∃ i : Nat, vi = .int .i64 i ∧ i ≤ l0_17.length ∧ Aside0 (Below W.heap.size W wr)) (fun vi _ => l0_17.length - (intOf vi).toNat)
              case atStart => exact ⟨0, rfl, by omega, AX (by first | exact HL.out | exact sm_dr HL.out _ | exact sm_dr (sm_dr HL.out _) _)⟩
              case round =>
                clear HL
                obtain ⟨i, rfl, hi, HL⟩ := hrel
                have c17 := sm_cell (sm_at BKA.out HL.out) E17.out
                have d17 := sm_cell (sm_at BKB.out HL.out) G17.out
                by_cases hlt : i < l0_17.length
                · obtain ⟨ad, eA, z0, z1, z2, z3, z4⟩ := at_T60 (Kd.C_below HR17.out (HBW.out.trans (HL.out.mono HBW.out.size))) (i : Int) (by omega) (by omega)
                  obtain ⟨ad', eB, y0, y1, y2, y3, y4⟩ := at_T60 (Kd.C_below HS17.out (HBW.out.trans (HL.out.mono HBW.out.size))) (i : Int) (by omega) (by omega)
                  obtain ⟨⟨f0, f1, f2, f3, f4⟩, hrd⟩ : ∃ s, rd_T60 l0_17 (i : Int) = s := ⟨_, rfl⟩
                  rw [hrd] at z0 z1 z2 z3 z4 y0 y1 y2 y3 y4
                  simp only [Int.toNat_natCast] at z0 z1 z2 z3 z4 y0 y1 y2 y3 y4
                  clear hrd
                  subst eA eB
                  go_wp2
                  repeat (go_quiet (fail); try go_wp2)
                  go_roundw
                  case rel => exact ⟨i + 1, by go_num, by omega, AX (by first | exact HL.out | exact sm_dr HL.out _ | exact sm_dr (sm_dr HL.out _) _)⟩
                  case measure => simp [intOf]; omega
                · obtain rfl : i = l0_17.length := by omega
                  clear c17 d17
                  obtain ⟨Wn17, hWn⟩ : ∃ x : World, x = wr := ⟨_, rfl⟩
                  subst hWn
                  have c18 := sm_cell (sm_at BKA.out HL.out) E18.out
                  have d18 := sm_cell (sm_at BKB.out HL.out) G18.out
                  go_wp2
                  try (repeat (go_quiet (fail); try go_wp2))
                  clear c18 d18
                  go_loopw [182] (fun vi wr => ∃ i : Nat, vi = .int .i64 i ∧ i ≤ l0_18.length ∧ Aside0 (Below W.heap.size W wr)) (fun vi _ => l0_18.length - (intOf vi).toNat)
                  case atStart => exact ⟨0, rfl, by omega, AX (by first | exact HL.out | exact sm_dr HL.out _ | exact sm_dr (sm_dr HL.out _) _)⟩
                  case round =>
                    clear HL
                    obtain ⟨i, rfl, hi, HL⟩ := hrel
                    have c18 := sm_cell (sm_at BKA.out HL.out) E18.out
                    have d18 := sm_cell (sm_at BKB.out HL.out) G18.out
                    by_cases hlt : i < l0_18.length
                    · obtain ⟨ad, N1, n1, eA, z0, z1, z2, z3⟩ := at_T63 (Kd.C_below HR18.out (HBW.out.trans (HL.out.mono HBW.out.size))) (i : Int) (by omega) (by omega)
                      obtain ⟨ad', N2, n2, eB, y0, y1, y2, y3⟩ := at_T63 (Kd.C_below HS18.out (HBW.out.trans (HL.out.mono HBW.out.size))) (i : Int) (by omega) (by omega)
                      have hst := HST.out (rd_T63 l0_18 (i : Int)) (by unfold rd_T63; simp [List.getD_eq_getElem?_getD, hlt])
                      obtain ⟨⟨f0, f1⟩, hrd⟩ : ∃ s, rd_T63 l0_18 (i : Int) = s := ⟨_, rfl⟩
                      rw [hrd] at z0 z1 z2 z3 y0 y1 y2 y3 hst
                      simp only [Int.toNat_natCast] at z0 z1 y0 y1
                      have HX := AX (And.intro z2 (And.intro z3 (And.intro y2 (And.intro y3 hst))))
                      clear hrd z2 z3 y2 y3 hst
                      subst eA eB
                      go_wp2
                      repeat (go_quiet (first | (go_at_call 60; refine (pylonref08_SameSteps.calls k _ _ f1 _ _ f1 true _ ?s1 ?s2 ?s3 ?s4 HX.out.2.2.2.2).mono ?_; (case s1 => repeat (first | exact HX.out.2.1 | (with_reducible refine Kd.C_drewN ?_ _) | (with_reducible refine Kd.C_drew ?_))); (case s2 => exact HX.out.1); (case s3 => repeat (first | exact HX.out.2.2.2.1 | (with_reducible refine Kd.C_drewN ?_ _) | (with_reducible refine Kd.C_drew ?_))); (case s4 => exact HX.out.2.2.1); rintro e w' ⟨rfl, ⟨nd, rfl⟩⟩; (try first | exact ⟨rfl, _, World.drewN_drewN _ _ _⟩ | exact ⟨rfl, _, Eq.trans (World.drewN_drewN _ _ _) (congrArg (World.drewN _) (Nat.add_assoc _ _ _))⟩))); try go_wp2)
                      go_roundw
                      case rel => exact ⟨i + 1, by go_num, by omega, AX (by first | exact HL.out | exact sm_dr HL.out _ | exact sm_dr (sm_dr HL.out _) _)⟩
                      case measure => simp [intOf]; omega
                    · obtain rfl : i = l0_18.length := by omega
                      clear c18 d18
                      go_wp2
                      go_ret
                      exact ⟨rfl, HG.out ▸ HBW.out.trans (HL.out.mono HBW.out.size)⟩

end Go.Proofs.Ytkggjjggcbcdiaa.PX
