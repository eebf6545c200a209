/- Functions of the program as plain Lean functions, each with a proof that the call in the machine answers just what the plain function says; condition: the plain function answers at all. -/
import Derived.Test.YtkggjjggcbcdiaaPXx0
import Derived.Test.YtkggjjggcbcdiaaPXx3
import Derived.Test.YtkggjjggcbcdiaaPXx10
namespace Go.Proofs.Ytkggjjggcbcdiaa.PX
open Go.RowKit Go.Proofs.YtkggjjggcbcdiaaW.PrintWords Go.Proofs.YtkggjjggcbcdiaaW.PrintLast Go.Proofs.YtkggjjggcbcdiaaW.PrintMore
attribute [local go_sem] max2_int min2_int max_two min_two max_three min_three max_four min_four   -- for this text's walks alone
set_option linter.unusedVariables false
set_option linter.unusedSimpArgs false

/-! ### sound_Day: function 75 -/
def sound_Day.f (a0 : Int) : Option (Int × Int) := (civil_YearDay.f 2000 (wrap64 (Int.tdiv a0 100)) (Int.tmod a0 100)).bind fun bt189 => (if bt189.2 = 0 then (some (bt189.1, 0)) else (some (0, 8)))
set_option maxHeartbeats 8000000 in
set_option maxRecDepth 100000 in
theorem sound_Day.calls (a0 : Int) (r1 : Int) (r2 : Int) (w : World) (h : sound_Day.f a0 = some (r1, r2)) :
  Calls Try.prog 75 #[.int .i64 a0] w fun e w' => e = .returned (.tuple #[.int .i64 r1, .int .i64 r2]) ∧ Below w.heap.size w w' := by
 have hu24 := Try.underlying24
 have HB := AX (Below.refl w.heap.size w)
 have H : ((civil_YearDay.f 2000 (wrap64 (Int.tdiv a0 100)) (Int.tmod a0 100)).bind fun bt189 => (if bt189.2 = 0 then (some (bt189.1, 0)) else (some (0, 8)))) = some (r1, r2) := h
 clear h
 replace H := Option.bind_eq_some_iff.mp H
 obtain ⟨⟨t189, t190⟩, A20, H⟩ := H
 replace H : (if t190 = 0 then (some (t189, 0)) else (some (0, 8))) = some (r1, r2) := H
 have A2 := AX A20
 clear A20
 by_cases c3 : t190 = 0
 ·rw [if_pos c3] at H
  have c3b0 : (t190 == 0) = true := beq_iff_eq.mpr c3
  have c3b1 : (t190 != 0) = false := bne_eq_false_iff_eq.mpr c3
  clear c3
  simp only [Option.some.injEq, Prod.mk.injEq] at H
  obtain ⟨rfl, rfl⟩ := H
  go_enter Try.func75, Try.ntmps75
  go_wp2_with (first | ((with_reducible refine gate_callee (f := 93) rfl ?_); refine gL (some 12) Try.func93 #[.agg #[.int .i64 2000, .int .i64 (wrap64 (Int.tdiv a0 100)), .int .i64 (Int.tmod a0 100)]] ?_; (with_reducible refine (civil_YearDay.calls 2000 (wrap64 (Int.tdiv a0 100)) (Int.tmod a0 100) t189 t190 _ A2.out).mono ?_); rintro e w4 ⟨rfl, hb⟩; refine ⟨_, rfl, ?_⟩; replace HB := AX (below_step bw hb); (try clear hb)))
  go_ret2
  exact ⟨by first | rfl | (simp [errW_none, errW_some] <;> rfl) | (simp [*, errW_none, errW_some] <;> rfl), bw⟩
 ·rw [if_neg c3] at H
  have c3b0 : (t190 == 0) = false := beq_eq_false_iff_ne.mpr c3
  have c3b1 : (t190 != 0) = true := bne_iff_ne.mpr c3
  simp only [Option.some.injEq, Prod.mk.injEq] at H
  obtain ⟨rfl, rfl⟩ := H
  go_enter Try.func75, Try.ntmps75
  go_wp2_with (first | ((with_reducible refine gate_callee (f := 93) rfl ?_); refine gL (some 12) Try.func93 #[.agg #[.int .i64 2000, .int .i64 (wrap64 (Int.tdiv a0 100)), .int .i64 (Int.tmod a0 100)]] ?_; (with_reducible refine (civil_YearDay.calls 2000 (wrap64 (Int.tdiv a0 100)) (Int.tmod a0 100) t189 t190 _ A2.out).mono ?_); rintro e w5 ⟨rfl, hb⟩; refine ⟨_, rfl, ?_⟩; replace HB := AX (below_step bw hb); (try clear hb)))
  go_ret2
  exact ⟨by first | rfl | (simp [errW_none, errW_some] <;> rfl) | (simp [*, errW_none, errW_some] <;> rfl), bw⟩

/-! ### sound_Holds: function 49 -/
def sound_Holds.j0 : Nat → Int → Int → Int → Bool → Option (Bool)
 | 0, _, _, _, _ => none
 | k + 1, x5, x7, x9, x28 => if x28 = true then (some false) else (if x7 ≤ x9 then (if x7 ≤ x5 then (some (decide (x5 ≤ x9))) else (some false)) else (if x7 ≤ x5 then (some true) else (some (decide (x5 ≤ x9)))))
def sound_Holds.f (k : Nat) (a0_0 : ByteArray) (a0_1 : Int) (a0_2 : Int) (a1 : Int) : Option (Bool) := (sound_Day.f a1).bind fun bt192 => ((sound_Day.f a0_1).bind fun bt194 => ((sound_Day.f a0_2).bind fun bt196 => (if bt192.2 = 0 then (if bt194.2 = 0 then (sound_Holds.j0 k bt192.1 bt194.1 bt196.1 (bt196.2 != 0)) else (sound_Holds.j0 k bt192.1 bt194.1 bt196.1 true)) else (sound_Holds.j0 k bt192.1 bt194.1 bt196.1 true))))
theorem sound_Holds.mono_l : ∀ k, (∀ y0 y1 y2 y3, LeO (sound_Holds.j0 k y0 y1 y2 y3) (sound_Holds.j0 (k + 1) y0 y1 y2 y3))
 | 0 => fun _ _ _ _ r h => by simp [sound_Holds.j0] at h
 | k + 1 => by
  have ih0 := sound_Holds.mono_l k
  ·intro y0 y1 y2 y3
   unfold sound_Holds.j0
   repeat' first
   | (with_reducible exact ih0 _ _ _ _)
   | (with_reducible exact LeO.refl _)
   | (with_reducible exact LeO.none _)
   | (with_reducible refine LeO.ite ?_ ?_)
   | (with_reducible refine LeO.bind ?_ (fun _ => ?_))
theorem sound_Holds.mono : ∀ a0 a1 a2 a3 k, LeO (sound_Holds.f k a0 a1 a2 a3) (sound_Holds.f (k + 1) a0 a1 a2 a3) := by
 intro a0 a1 a2 a3 k
 have ih0 := sound_Holds.mono_l k
 unfold sound_Holds.f
 repeat' first
   | (with_reducible exact ih0 _ _ _ _)
   | (with_reducible exact LeO.refl _)
   | (with_reducible exact LeO.none _)
   | (with_reducible refine LeO.ite ?_ ?_)
   | (with_reducible refine LeO.bind ?_ (fun _ => ?_))
set_option maxHeartbeats 8000000 in
set_option maxRecDepth 100000 in
theorem sound_Holds.calls (k : Nat) (a0_0 : ByteArray) (a0_1 : Int) (a0_2 : Int) (a1 : Int) (r : Bool) (w : World) (h : sound_Holds.f k a0_0 a0_1 a0_2 a1 = some r) :
  Calls Try.prog 49 #[.agg #[.string a0_0, .int .i64 a0_1, .int .i64 a0_2], .int .i64 a1] w fun e w' => e = .returned (.bool r) ∧ Below w.heap.size w w' := by
 have hu58 := Try.underlying58
 have HB := AX (Below.refl w.heap.size w)
 have H : ((sound_Day.f a1).bind fun bt192 => ((sound_Day.f a0_1).bind fun bt194 => ((sound_Day.f a0_2).bind fun bt196 => (if bt192.2 = 0 then (if bt194.2 = 0 then (sound_Holds.j0 k bt192.1 bt194.1 bt196.1 (bt196.2 != 0)) else (sound_Holds.j0 k bt192.1 bt194.1 bt196.1 true)) else (sound_Holds.j0 k bt192.1 bt194.1 bt196.1 true))))) = some r := h
 clear h
 replace H := Option.bind_eq_some_iff.mp H
 obtain ⟨⟨t192, t193⟩, A30, H⟩ := H
 replace H : ((sound_Day.f a0_1).bind fun bt194 => ((sound_Day.f a0_2).bind fun bt196 => (if t193 = 0 then (if bt194.2 = 0 then (sound_Holds.j0 k t192 bt194.1 bt196.1 (bt196.2 != 0)) else (sound_Holds.j0 k t192 bt194.1 bt196.1 true)) else (sound_Holds.j0 k t192 bt194.1 bt196.1 true)))) = some r := H
 have A3 := AX A30
 clear A30
 replace H := Option.bind_eq_some_iff.mp H
 obtain ⟨⟨t194, t195⟩, A40, H⟩ := H
 replace H : ((sound_Day.f a0_2).bind fun bt196 => (if t193 = 0 then (if t195 = 0 then (sound_Holds.j0 k t192 t194 bt196.1 (bt196.2 != 0)) else (sound_Holds.j0 k t192 t194 bt196.1 true)) else (sound_Holds.j0 k t192 t194 bt196.1 true))) = some r := H
 have A4 := AX A40
 clear A40
 replace H := Option.bind_eq_some_iff.mp H
 obtain ⟨⟨t196, t197⟩, A50, H⟩ := H
 replace H : (if t193 = 0 then (if t195 = 0 then (sound_Holds.j0 k t192 t194 t196 (t197 != 0)) else (sound_Holds.j0 k t192 t194 t196 true)) else (sound_Holds.j0 k t192 t194 t196 true)) = some r := H
 have A5 := AX A50
 clear A50
 have HC6 := AX H
 clear H
 go_enter Try.func49, Try.ntmps49
 go_upto_region 4 with (first | ((with_reducible refine gate_dst (N := 2) rfl ?_); refine bx 2 #[.string a0_0, .int .i64 a0_1, .int .i64 a0_2] 58 ?_; intro gb191 hg w7 hbox hb; have BK191 := AX (hbox); have GW191 := gwl (w := w) hg bw; have GE191 := GW191; replace HB := AX (below_step bw hb); clear hb hbox hg) | ((with_reducible refine gate_callee (f := 75) rfl ?_); refine gL (some 13) Try.func75 #[.int .i64 a1] ?_; (with_reducible refine (sound_Day.calls a1 t192 t193 _ A3.out).mono ?_); rintro e w8 ⟨rfl, hb⟩; refine ⟨_, rfl, ?_⟩; replace BK191 := AX (bkb BK191 hb); replace HB := AX (below_step bw hb); (try clear hb); obtain ⟨hcz9_0, hcz9_1, hcz9_2⟩ := blkC3 (w := w8) BK191.out; obtain ⟨hfz9_0, hfz9_1, hfz9_2⟩ := blkF3 BK191.out) | ((with_reducible refine gate_callee (f := 75) rfl ?_); refine gL (some 19) Try.func75 #[.int .i64 a0_1] ?_; (with_reducible refine (sound_Day.calls a0_1 t194 t195 _ A4.out).mono ?_); rintro e w10 ⟨rfl, hb⟩; refine ⟨_, rfl, ?_⟩; replace BK191 := AX (bkb BK191 hb); replace HB := AX (below_step bw hb); (try clear hb); obtain ⟨hcz11_0, hcz11_1, hcz11_2⟩ := blkC3 (w := w10) BK191.out; obtain ⟨hfz11_0, hfz11_1, hfz11_2⟩ := blkF3 BK191.out) | ((with_reducible refine gate_callee (f := 75) rfl ?_); refine gL (some 25) Try.func75 #[.int .i64 a0_2] ?_; (with_reducible refine (sound_Day.calls a0_2 t196 t197 _ A5.out).mono ?_); rintro e w12 ⟨rfl, hb⟩; refine ⟨_, rfl, ?_⟩; replace BK191 := AX (bkb BK191 hb); replace HB := AX (below_step bw hb); (try clear hb)))
 (try simp only [Act.put, List.setIfInBounds_toArray, List.set_cons_zero, List.set_cons_succ])
 go_cut [28] (fun v28 wc => ∃ (kq : Nat) (x28_5 : Bool), v28 = .bool x28_5 ∧ Aside0 (sound_Holds.j0 kq t192 t194 t196 x28_5 = some r) ∧ Aside0 (kq ≤ k) ∧ Aside0 (wc.heap[gb191]? = some (.cells #[.string a0_0, .int .i64 a0_1, .int .i64 a0_2] 58 (0, 0))) ∧ Aside0 (Below w.heap.size w wc))
 case first =>
  have H := HC6.out
  clear HC6
  by_cases c13 : t193 = 0
  ·rw [if_pos c13] at H
   have c13b0 : (t193 == 0) = true := beq_iff_eq.mpr c13
   have c13b1 : (t193 != 0) = false := bne_eq_false_iff_eq.mpr c13
   clear c13
   (first | rw [c13b0] | (simp only [i64_w, i32_w]; rw [c13b0]) | skip)
   by_cases c14 : t195 = 0
   ·rw [if_pos c14] at H
    have c14b0 : (t195 == 0) = true := beq_iff_eq.mpr c14
    have c14b1 : (t195 != 0) = false := bne_eq_false_iff_eq.mpr c14
    clear c14
    have H' := AX H
    clear H
    go_wp2
    go_meet
    case rel => exact ⟨_, ((t197 != 0)), (by first | rfl | (simp; done) | (simp [*]; done)), H', ⟨by first | omega | exact Nat.le_refl _⟩, ⟨bkn BK191⟩, ⟨bw⟩⟩
   ·rw [if_neg c14] at H
    have c14b0 : (t195 == 0) = false := beq_eq_false_iff_ne.mpr c14
    have c14b1 : (t195 != 0) = true := bne_iff_ne.mpr c14
    have H' := AX H
    clear H
    go_wp2
    go_meet
    case rel => exact ⟨_, (true), (by first | rfl | (simp; done) | (simp [*]; done)), H', ⟨by first | omega | exact Nat.le_refl _⟩, ⟨bkn BK191⟩, ⟨bw⟩⟩
  ·rw [if_neg c13] at H
   have c13b0 : (t193 == 0) = false := beq_eq_false_iff_ne.mpr c13
   have c13b1 : (t193 != 0) = true := bne_iff_ne.mpr c13
   (first | rw [c13b0] | (simp only [i64_w, i32_w]; rw [c13b0]) | skip)
   have H' := AX H
   clear H
   go_wp2
   go_meet
   case rel => exact ⟨_, (true), (by first | rfl | (simp; done) | (simp [*]; done)), H', ⟨by first | omega | exact Nat.le_refl _⟩, ⟨bkn BK191⟩, ⟨bw⟩⟩
 case rest =>
  clear HC6
  try clear hcz11_0 hcz11_1 hcz11_2
  try clear hcz9_0 hcz9_1 hcz9_2
  try clear hfz11_0 hfz11_1 hfz11_2
  try clear hfz9_0 hfz9_1 hfz9_2
  obtain ⟨kq, x28_5, rfl, HA, HJ5, BK191, HB⟩ := hcut
  cases kq with
  | zero => exact absurd HA.out (by simp [sound_Holds.j0])
  | succ kj5 =>
   have H := HA.out
   clear HA
   simp only [sound_Holds.j0] at H
   by_cases c15 : x28_5 = true
   ·subst c15
    have H1 : (some false) = some r := by rw [if_pos rfl] at H; exact H
    clear H
    have H := H1
    clear H1
    obtain rfl := Option.some.inj H
    go_wp2
    go_ret
    exact ⟨by first | rfl | (simp [errW_none, errW_some] <;> rfl) | (simp [*, errW_none, errW_some] <;> rfl), bw⟩
   ·replace c15 := Bool.eq_false_iff.mpr c15
    subst c15
    have H1 : (if t194 ≤ t196 then (if t194 ≤ t192 then (some (decide (t192 ≤ t196))) else (some false)) else (if t194 ≤ t192 then (some true) else (some (decide (t192 ≤ t196))))) = some r := by rw [if_neg (show ¬ (false = true) by decide)] at H; exact H
    clear H
    have H := H1
    clear H1
    by_cases c16 : t194 ≤ t196
    ·rw [if_pos c16] at H
     have c16b0 : decide (t194 ≤ t196) = true := decide_eq_true c16
     clear c16
     by_cases c17 : t194 ≤ t192
     ·rw [if_pos c17] at H
      have c17b0 : decide (t194 ≤ t192) = true := decide_eq_true c17
      clear c17
      obtain rfl := Option.some.inj H
      go_wp2
      go_ret
      exact ⟨by first | rfl | (simp [errW_none, errW_some] <;> rfl) | (simp [*, errW_none, errW_some] <;> rfl), bw⟩
     ·rw [if_neg c17] at H
      have c17b0 : decide (t194 ≤ t192) = false := decide_eq_false c17
      clear c17
      obtain rfl := Option.some.inj H
      go_wp2
      go_ret
      exact ⟨by first | rfl | (simp [errW_none, errW_some] <;> rfl) | (simp [*, errW_none, errW_some] <;> rfl), bw⟩
    ·rw [if_neg c16] at H
     have c16b0 : decide (t194 ≤ t196) = false := decide_eq_false c16
     clear c16
     by_cases c18 : t194 ≤ t192
     ·rw [if_pos c18] at H
      have c18b0 : decide (t194 ≤ t192) = true := decide_eq_true c18
      clear c18
      obtain rfl := Option.some.inj H
      go_wp2
      go_ret
      exact ⟨by first | rfl | (simp [errW_none, errW_some] <;> rfl) | (simp [*, errW_none, errW_some] <;> rfl), bw⟩
     ·rw [if_neg c18] at H
      have c18b0 : decide (t194 ≤ t192) = false := decide_eq_false c18
      clear c18
      obtain rfl := Option.some.inj H
      go_wp2
      go_ret
      exact ⟨by first | rfl | (simp [errW_none, errW_some] <;> rfl) | (simp [*, errW_none, errW_some] <;> rfl), bw⟩

/-! ### tou_Season: function 23 -/
def tou_Season.l0 : Nat → List (S58) → Int → Int → Int → Int → Int → Option (Int × Int)
 | 0, _, _, _, _, _, _ => none
 | k + 1, x18, x19, x20, x199000, x199001, x199002 => if x20 < x19 then (if 0 ≤ x20 then (if x20 < (x18.length : Int) then ((sound_Holds.f k ((rd_T58 x18 x20).f0) ((rd_T58 x18 x20).f1) ((rd_T58 x18 x20).f2) (wrap64 ((wrap64 (100 * x199001)) + x199002))).bind fun t203 => (if t203 = true then (some (x20, 0)) else (tou_Season.l0 k x18 x19 (wrap64 (x20 + 1)) x199000 x199001 x199002))) else (none)) else (none)) else (some (0, 7))
def tou_Season.f (k : Nat) (l0 : List (S58)) (a1_0 : Int) (a1_1 : Int) (a1_2 : Int) : Option (Int × Int) := (civil_Days.f a1_0 a1_1 a1_2).bind fun bt199 => (if bt199.2 = 0 then (tou_Season.l0 k l0 (l0.length : Int) 0 a1_0 a1_1 a1_2) else (some (0, bt199.2)))
theorem tou_Season.mono_l : ∀ k, (∀ y0 y1 y2 y3 y4 y5, LeO (tou_Season.l0 k y0 y1 y2 y3 y4 y5) (tou_Season.l0 (k + 1) y0 y1 y2 y3 y4 y5))
 | 0 => fun _ _ _ _ _ _ r h => by simp [tou_Season.l0] at h
 | k + 1 => by
  have ih0 := tou_Season.mono_l k
  ·intro y0 y1 y2 y3 y4 y5
   unfold tou_Season.l0
   repeat' first
   | (with_reducible exact ih0 _ _ _ _ _ _)
   | (with_reducible exact sound_Holds.mono _ _ _ _ _)
   | (with_reducible exact LeO.refl _)
   | (with_reducible exact LeO.none _)
   | (with_reducible refine LeO.ite ?_ ?_)
   | (with_reducible refine LeO.bind ?_ (fun _ => ?_))
theorem tou_Season.mono : ∀ a0 a1 a2 a3 k, LeO (tou_Season.f k a0 a1 a2 a3) (tou_Season.f (k + 1) a0 a1 a2 a3) := by
 intro a0 a1 a2 a3 k
 have ih0 := tou_Season.mono_l k
 unfold tou_Season.f
 repeat' first
   | (with_reducible exact ih0 _ _ _ _ _ _)
   | (with_reducible exact sound_Holds.mono _ _ _ _ _)
   | (with_reducible exact LeO.refl _)
   | (with_reducible exact LeO.none _)
   | (with_reducible refine LeO.ite ?_ ?_)
   | (with_reducible refine LeO.bind ?_ (fun _ => ?_))
set_option maxHeartbeats 8000000 in
set_option maxRecDepth 100000 in
theorem tou_Season.calls (k : Nat) (A0 : Option Addr) (c0 : Nat) (l0 : List (S58)) (a1_0 : Int) (a1_1 : Int) (a1_2 : Int) (r1 : Int) (r2 : Int) (w : World) (hr0 : Kd.C k58 w A0 l0.length l0) (hc0 : l0.length ≤ c0) (h : tou_Season.f k l0 a1_0 a1_1 a1_2 = some (r1, r2)) :
  Calls Try.prog 23 #[.slice A0 l0.length c0, .agg #[.int .i64 a1_0, .int .i64 a1_1, .int .i64 a1_2]] w fun e w' => e = .returned (.tuple #[.int .i64 r1, .int .i64 r2]) ∧ Below w.heap.size w w' := by
 have hu24 := Try.underlying24
 have hu58 := Try.underlying58
 have HR0 := AX hr0
 have HC0 := AX hc0
 clear hr0 hc0
 have HB := AX (Below.refl w.heap.size w)
 have H : ((civil_Days.f a1_0 a1_1 a1_2).bind fun bt199 => (if bt199.2 = 0 then (tou_Season.l0 k l0 (l0.length : Int) 0 a1_0 a1_1 a1_2) else (some (0, bt199.2)))) = some (r1, r2) := h
 clear h
 replace H := Option.bind_eq_some_iff.mp H
 obtain ⟨⟨t199, t200⟩, A30, H⟩ := H
 replace H : (if t200 = 0 then (tou_Season.l0 k l0 (l0.length : Int) 0 a1_0 a1_1 a1_2) else (some (0, t200))) = some (r1, r2) := H
 have A3 := AX A30
 clear A30
 by_cases c4 : t200 = 0
 ·rw [if_pos c4] at H
  have c4b0 : (t200 == 0) = true := beq_iff_eq.mpr c4
  have c4b1 : (t200 != 0) = false := bne_eq_false_iff_eq.mpr c4
  clear c4
  have H' := AX H
  clear H
  go_enter Try.func23, Try.ntmps23
  go_wp2_with (first | ((with_reducible refine gate_dst (N := 3) rfl ?_); refine bx 3 #[.int .i64 a1_0, .int .i64 a1_1, .int .i64 a1_2] 24 ?_; intro gb198 hg w5 hbox hb; have BK198 := AX (hbox); have GW198 := gwl (w := w) hg bw; have GE198 := GW198; replace HB := AX (below_step bw hb); clear hb hbox hg; obtain ⟨hcz6_0, hcz6_1, hcz6_2⟩ := blkC3 (w := w5) BK198.out; obtain ⟨hfz6_0, hfz6_1, hfz6_2⟩ := blkF3 BK198.out) | ((with_reducible refine gate_callee (f := 48) rfl ?_); refine gL (some 12) Try.func48 #[.agg #[.int .i64 a1_0, .int .i64 a1_1, .int .i64 a1_2]] ?_; (with_reducible refine (civil_Days.calls a1_0 a1_1 a1_2 t199 t200 _ A3.out).mono ?_); rintro e w7 ⟨rfl, hb⟩; refine ⟨_, rfl, ?_⟩; replace BK198 := AX (bkb BK198 hb); replace HB := AX (below_step bw hb); (try clear hb)))
  go_loopg [20] k (fun kq v20 w' => ∃ (x20_1 : Int), v20 = .int .i64 x20_1 ∧ Aside0 (tou_Season.l0 kq l0 (l0.length : Int) x20_1 a1_0 a1_1 a1_2 = some (r1, r2)) ∧ Aside0 (kq ≤ k) ∧ Aside0 (w'.heap[gb198]? = some (.cells #[.int .i64 a1_0, .int .i64 a1_1, .int .i64 a1_2] 24 (0, 0))) ∧ Aside0 (Below w.heap.size w w'))
  case atStart => exact ⟨(0), (by first | rfl | (simp; done) | (simp [*]; done)), H', ⟨Nat.le_refl _⟩, ⟨bkn BK198⟩, ⟨bw⟩⟩
  case round =>
   clear H'
   try clear c4b0 c4b1
   try clear hcz6_0 hcz6_1 hcz6_2
   try clear hfz6_0 hfz6_1 hfz6_2
   obtain ⟨x20_1, rfl, HA, HK1, BK198, HB⟩ := hrel
   cases gk with
   | zero => exact absurd HA.out (by simp [tou_Season.l0])
   | succ k1 =>
    have H := HA.out
    clear HA
    simp only [tou_Season.l0] at H
    by_cases c8 : x20_1 < (l0.length : Int)
    ·rw [if_pos c8] at H
     have c8b0 : decide (x20_1 < (l0.length : Int)) = true := decide_eq_true c8
     clear c8
     by_cases c9 : 0 ≤ x20_1
     ·rw [if_pos c9] at H
      have c9b0 : decide (0 ≤ x20_1) = true := decide_eq_true c9
      clear c9
      by_cases c10 : x20_1 < (l0.length : Int)
      ·rw [if_pos c10] at H
       have c10b0 : decide (x20_1 < (l0.length : Int)) = true := decide_eq_true c10
       clear c10
       replace H := Option.bind_eq_some_iff.mp H
       obtain ⟨t203, A110, H⟩ := H
       replace H : (if t203 = true then (some (x20_1, 0)) else (tou_Season.l0 k1 l0 (l0.length : Int) (wrap64 (x20_1 + 1)) a1_0 a1_1 a1_2)) = some (r1, r2) := H
       have A11 := AX A110
       clear A110
       by_cases c12 : t203 = true
       ·subst c12
        have H1 : (some (x20_1, 0)) = some (r1, r2) := by rw [if_pos rfl] at H; exact H
        clear H
        have H := H1
        clear H1
        simp only [Option.some.injEq, Prod.mk.injEq] at H
        obtain ⟨rfl, rfl⟩ := H
        have p201 : 0 ≤ (x20_1 : Int) := of_decide_eq_true (by first | (with_reducible assumption) | assumption)
        have q201 : x20_1 < (l0.length : Int) := of_decide_eq_true (by first | (with_reducible assumption) | assumption)
        obtain ⟨ad201, e201, hx201_0, hx201_1, hx201_2⟩ := at_T58 HR0.out x20_1 p201 q201
        cases e201
        replace hx201_0 := bcl HB hx201_0
        replace hx201_1 := bcl HB hx201_1
        replace hx201_2 := bcl HB hx201_2
        replace p201 := eq_true p201
        replace q201 := eq_true q201
        go_wp2_with (first | ((with_reducible refine gate_dst (N := 9) rfl ?_); refine bx 9 #[.string (⟨#[]⟩ : ByteArray), .int .i64 0, .int .i64 0] 58 ?_; intro gb202 hg w13 hbox hb; have BK202 := AX (hbox); have GW202 := gwl (w := w) hg bw; have GE202 := GW202; have NB198_202 := nbl hg (bkn BK198); have NB202_198 := nbg hg (bkn BK198); replace BK198 := AX (bkb BK198 hb); replace HB := AX (below_step bw hb); clear hb hbox hg; have hnb14 := NB202_198.out; have hnc14 := NB198_202.out; obtain ⟨hcz15_0, hcz15_1, hcz15_2⟩ := blkC3 (w := w13) BK202.out; obtain ⟨hfz15_0, hfz15_1, hfz15_2⟩ := blkF3 BK202.out; obtain ⟨hcz16_0, hcz16_1, hcz16_2⟩ := blkC3 (w := w13) BK198.out; obtain ⟨hfz16_0, hfz16_1, hfz16_2⟩ := blkF3 BK198.out) | ((with_reducible refine gate_callee (f := 49) rfl ?_); refine gL (some 32) Try.func49 #[.agg #[.string ((rd_T58 l0 x20_1).f0), .int .i64 ((rd_T58 l0 x20_1).f1), .int .i64 ((rd_T58 l0 x20_1).f2)], .int .i64 (wrap64 ((wrap64 (100 * a1_1)) + a1_2))] ?_; (with_reducible refine (sound_Holds.calls k1 ((rd_T58 l0 x20_1).f0) ((rd_T58 l0 x20_1).f1) ((rd_T58 l0 x20_1).f2) (wrap64 ((wrap64 (100 * a1_1)) + a1_2)) true _ A11.out).mono ?_); rintro e w17 ⟨rfl, hb⟩; refine ⟨_, rfl, ?_⟩; replace BK198 := AX (blk_below (g := gb198) (o := .cells #[.int .i64 a1_0, .int .i64 a1_1, .int .i64 a1_2] 24 (0, 0)) (by (with_reducible repeat first|refine blk_drewN ?_ _|refine blk_drew ?_|refine blk_alloc ?_ _|refine blk_far ?_ NB198_202.out _); exact BK198.out) hb); replace BK202 := AX (blk_below (g := gb202) (o := .cells #[.string ((rd_T58 l0 x20_1).f0), .int .i64 ((rd_T58 l0 x20_1).f1), .int .i64 ((rd_T58 l0 x20_1).f2)] 58 (0, 0)) (by (with_reducible repeat first|refine blk_drewN ?_ _|refine blk_drew ?_|refine blk_alloc ?_ _); refine blk_put (cs := #[.string ((rd_T58 l0 x20_1).f0), .int .i64 ((rd_T58 l0 x20_1).f1), .int .i64 0]) ?_ 2 _ rfl; (with_reducible repeat first|refine blk_drewN ?_ _|refine blk_drew ?_|refine blk_alloc ?_ _); refine blk_put (cs := #[.string ((rd_T58 l0 x20_1).f0), .int .i64 0, .int .i64 0]) ?_ 1 _ rfl; (with_reducible repeat first|refine blk_drewN ?_ _|refine blk_drew ?_|refine blk_alloc ?_ _); refine blk_put (cs := #[.string (⟨#[]⟩ : ByteArray), .int .i64 0, .int .i64 0]) ?_ 0 _ rfl; (with_reducible repeat first|refine blk_drewN ?_ _|refine blk_drew ?_|refine blk_alloc ?_ _); exact BK202.out) hb); replace HB := AX (below_step bw hb); (try clear hb)))
        go_ret2
        exact ⟨by first | rfl | (simp [errW_none, errW_some] <;> rfl) | (simp [*, errW_none, errW_some] <;> rfl), bw⟩
       ·replace c12 := Bool.eq_false_iff.mpr c12
        subst c12
        have H1 : (tou_Season.l0 k1 l0 (l0.length : Int) (wrap64 (x20_1 + 1)) a1_0 a1_1 a1_2) = some (r1, r2) := by rw [if_neg (show ¬ (false = true) by decide)] at H; exact H
        clear H
        have H := H1
        clear H1
        have H' := AX H
        clear H
        have p201 : 0 ≤ (x20_1 : Int) := of_decide_eq_true (by first | (with_reducible assumption) | assumption)
        have q201 : x20_1 < (l0.length : Int) := of_decide_eq_true (by first | (with_reducible assumption) | assumption)
        obtain ⟨ad201, e201, hx201_0, hx201_1, hx201_2⟩ := at_T58 HR0.out x20_1 p201 q201
        cases e201
        replace hx201_0 := bcl HB hx201_0
        replace hx201_1 := bcl HB hx201_1
        replace hx201_2 := bcl HB hx201_2
        replace p201 := eq_true p201
        replace q201 := eq_true q201
        go_wp2_with (first | ((with_reducible refine gate_dst (N := 9) rfl ?_); refine bx 9 #[.string (⟨#[]⟩ : ByteArray), .int .i64 0, .int .i64 0] 58 ?_; intro gb202 hg w18 hbox hb; have BK202 := AX (hbox); have GW202 := gwl (w := w) hg bw; have GE202 := GW202; have NB198_202 := nbl hg (bkn BK198); have NB202_198 := nbg hg (bkn BK198); replace BK198 := AX (bkb BK198 hb); replace HB := AX (below_step bw hb); clear hb hbox hg; have hnb19 := NB202_198.out; have hnc19 := NB198_202.out; obtain ⟨hcz20_0, hcz20_1, hcz20_2⟩ := blkC3 (w := w18) BK202.out; obtain ⟨hfz20_0, hfz20_1, hfz20_2⟩ := blkF3 BK202.out; obtain ⟨hcz21_0, hcz21_1, hcz21_2⟩ := blkC3 (w := w18) BK198.out; obtain ⟨hfz21_0, hfz21_1, hfz21_2⟩ := blkF3 BK198.out) | ((with_reducible refine gate_callee (f := 49) rfl ?_); refine gL (some 32) Try.func49 #[.agg #[.string ((rd_T58 l0 x20_1).f0), .int .i64 ((rd_T58 l0 x20_1).f1), .int .i64 ((rd_T58 l0 x20_1).f2)], .int .i64 (wrap64 ((wrap64 (100 * a1_1)) + a1_2))] ?_; (with_reducible refine (sound_Holds.calls k1 ((rd_T58 l0 x20_1).f0) ((rd_T58 l0 x20_1).f1) ((rd_T58 l0 x20_1).f2) (wrap64 ((wrap64 (100 * a1_1)) + a1_2)) false _ A11.out).mono ?_); rintro e w22 ⟨rfl, hb⟩; refine ⟨_, rfl, ?_⟩; replace BK198 := AX (blk_below (g := gb198) (o := .cells #[.int .i64 a1_0, .int .i64 a1_1, .int .i64 a1_2] 24 (0, 0)) (by (with_reducible repeat first|refine blk_drewN ?_ _|refine blk_drew ?_|refine blk_alloc ?_ _|refine blk_far ?_ NB198_202.out _); exact BK198.out) hb); replace BK202 := AX (blk_below (g := gb202) (o := .cells #[.string ((rd_T58 l0 x20_1).f0), .int .i64 ((rd_T58 l0 x20_1).f1), .int .i64 ((rd_T58 l0 x20_1).f2)] 58 (0, 0)) (by (with_reducible repeat first|refine blk_drewN ?_ _|refine blk_drew ?_|refine blk_alloc ?_ _); refine blk_put (cs := #[.string ((rd_T58 l0 x20_1).f0), .int .i64 ((rd_T58 l0 x20_1).f1), .int .i64 0]) ?_ 2 _ rfl; (with_reducible repeat first|refine blk_drewN ?_ _|refine blk_drew ?_|refine blk_alloc ?_ _); refine blk_put (cs := #[.string ((rd_T58 l0 x20_1).f0), .int .i64 0, .int .i64 0]) ?_ 1 _ rfl; (with_reducible repeat first|refine blk_drewN ?_ _|refine blk_drew ?_|refine blk_alloc ?_ _); refine blk_put (cs := #[.string (⟨#[]⟩ : ByteArray), .int .i64 0, .int .i64 0]) ?_ 0 _ rfl; (with_reducible repeat first|refine blk_drewN ?_ _|refine blk_drew ?_|refine blk_alloc ?_ _); exact BK202.out) hb); replace HB := AX (below_step bw hb); (try clear hb)))
        go_roundg k1
        case measure => have := HK1.out; omega
        case rel => exact ⟨(wrap64 (x20_1 + 1)), (by first | rfl | (simp; done) | (simp [*]; done)), H', ⟨by have := HK1.out; omega⟩, ⟨bkn BK198⟩, ⟨bw⟩⟩
      ·rw [if_neg c10] at H
       exact absurd H (by simp)
     ·rw [if_neg c9] at H
      exact absurd H (by simp)
    ·rw [if_neg c8] at H
     have c8b0 : decide (x20_1 < (l0.length : Int)) = false := decide_eq_false c8
     clear c8
     simp only [Option.some.injEq, Prod.mk.injEq] at H
     obtain ⟨rfl, rfl⟩ := H
     go_wp2
     go_ret2
     exact ⟨by first | rfl | (simp [errW_none, errW_some] <;> rfl) | (simp [*, errW_none, errW_some] <;> rfl), bw⟩
 ·rw [if_neg c4] at H
  have c4b0 : (t200 == 0) = false := beq_eq_false_iff_ne.mpr c4
  have c4b1 : (t200 != 0) = true := bne_iff_ne.mpr c4
  simp only [Option.some.injEq, Prod.mk.injEq] at H
  obtain ⟨rfl, rfl⟩ := H
  go_enter Try.func23, Try.ntmps23
  go_wp2_with (first | ((with_reducible refine gate_dst (N := 3) rfl ?_); refine bx 3 #[.int .i64 a1_0, .int .i64 a1_1, .int .i64 a1_2] 24 ?_; intro gb198 hg w23 hbox hb; have BK198 := AX (hbox); have GW198 := gwl (w := w) hg bw; have GE198 := GW198; replace HB := AX (below_step bw hb); clear hb hbox hg; obtain ⟨hcz24_0, hcz24_1, hcz24_2⟩ := blkC3 (w := w23) BK198.out; obtain ⟨hfz24_0, hfz24_1, hfz24_2⟩ := blkF3 BK198.out) | ((with_reducible refine gate_callee (f := 48) rfl ?_); refine gL (some 12) Try.func48 #[.agg #[.int .i64 a1_0, .int .i64 a1_1, .int .i64 a1_2]] ?_; (with_reducible refine (civil_Days.calls a1_0 a1_1 a1_2 t199 t200 _ A3.out).mono ?_); rintro e w25 ⟨rfl, hb⟩; refine ⟨_, rfl, ?_⟩; replace BK198 := AX (bkb BK198 hb); replace HB := AX (below_step bw hb); (try clear hb)))
  go_ret2
  exact ⟨by first | rfl | (simp [errW_none, errW_some] <;> rfl) | (simp [*, errW_none, errW_some] <;> rfl), bw⟩

/-! ### zone_good: function 94 -/
def zone_good.f (k : Nat) (a0_0 : Int) (a0_1 : Int) (a0_2 : Int) (a0_3 : Int) : Option (Bool) := (civil_Nth.f k 2000 a0_0 a0_1 a0_2).bind fun bt205 => (if bt205.2.2.2 = 0 then (if a0_3 ≥ 60 then (some (decide (a0_3 ≤ 1380))) else (some false)) else (some false))
theorem zone_good.mono : ∀ a0 a1 a2 a3 k, LeO (zone_good.f k a0 a1 a2 a3) (zone_good.f (k + 1) a0 a1 a2 a3) := by
 intro a0 a1 a2 a3 k
 unfold zone_good.f
 repeat' first
   | (with_reducible exact civil_Nth.mono _ _ _ _ _)
   | (with_reducible exact LeO.refl _)
   | (with_reducible exact LeO.none _)
   | (with_reducible refine LeO.ite ?_ ?_)
   | (with_reducible refine LeO.bind ?_ (fun _ => ?_))
set_option maxHeartbeats 8000000 in
set_option maxRecDepth 100000 in
theorem zone_good.calls (k : Nat) (a0_0 : Int) (a0_1 : Int) (a0_2 : Int) (a0_3 : Int) (r : Bool) (w : World) (h : zone_good.f k a0_0 a0_1 a0_2 a0_3 = some r) :
  Calls Try.prog 94 #[.agg #[.int .i64 a0_0, .int .i64 a0_1, .int .i64 a0_2, .int .i64 a0_3]] w fun e w' => e = .returned (.bool r) ∧ Below w.heap.size w w' := by
 have hu40 := Try.underlying40
 have hu24 := Try.underlying24
 have HB := AX (Below.refl w.heap.size w)
 have H : ((civil_Nth.f k 2000 a0_0 a0_1 a0_2).bind fun bt205 => (if bt205.2.2.2 = 0 then (if a0_3 ≥ 60 then (some (decide (a0_3 ≤ 1380))) else (some false)) else (some false))) = some r := h
 clear h
 replace H := Option.bind_eq_some_iff.mp H
 obtain ⟨⟨t205, t206, t207, t208⟩, A20, H⟩ := H
 replace H : (if t208 = 0 then (if a0_3 ≥ 60 then (some (decide (a0_3 ≤ 1380))) else (some false)) else (some false)) = some r := H
 have A2 := AX A20
 clear A20
 by_cases c3 : t208 = 0
 ·rw [if_pos c3] at H
  have c3b0 : (t208 == 0) = true := beq_iff_eq.mpr c3
  have c3b1 : (t208 != 0) = false := bne_eq_false_iff_eq.mpr c3
  clear c3
  by_cases c4 : a0_3 ≥ 60
  ·rw [if_pos c4] at H
   have c4b0 : decide (60 ≤ a0_3) = true := decide_eq_true c4
   clear c4
   obtain rfl := Option.some.inj H
   go_enter Try.func94, Try.ntmps94
   go_wp2_with (first | ((with_reducible refine gate_dst (N := 1) rfl ?_); refine bx 1 #[.int .i64 a0_0, .int .i64 a0_1, .int .i64 a0_2, .int .i64 a0_3] 40 ?_; intro gb204 hg w5 hbox hb; have BK204 := AX (hbox); have GW204 := gwl (w := w) hg bw; have GE204 := GW204; replace HB := AX (below_step bw hb); clear hb hbox hg; obtain ⟨hcz6_0, hcz6_1, hcz6_2, hcz6_3⟩ := blkC4 (w := w5) BK204.out; obtain ⟨hfz6_0, hfz6_1, hfz6_2, hfz6_3⟩ := blkF4 BK204.out) | ((with_reducible refine gate_callee (f := 66) rfl ?_); refine gL (some 12) Try.func66 #[.int .i64 2000, .int .i64 a0_0, .int .i64 a0_1, .int .i64 a0_2] ?_; (with_reducible refine (civil_Nth.calls k 2000 a0_0 a0_1 a0_2 t205 t206 t207 t208 _ A2.out).mono ?_); rintro e w7 ⟨rfl, hb⟩; refine ⟨_, rfl, ?_⟩; replace BK204 := AX (bkb BK204 hb); replace HB := AX (below_step bw hb); (try clear hb)) | ((with_reducible refine gate_dst (N := 3) rfl ?_); refine bx 3 #[.int .i64 0, .int .i64 0, .int .i64 0] 24 ?_; intro gb209 hg w8 hbox hb; have BK209 := AX (hbox); have GW209 := gwl (w := w) hg bw; have GE209 := GW209; have NB204_209 := nbl hg (bkn BK204); have NB209_204 := nbg hg (bkn BK204); replace BK204 := AX (bkb BK204 hb); replace HB := AX (below_step bw hb); clear hb hbox hg; have hnb9 := NB209_204.out; have hnc9 := NB204_209.out; obtain ⟨hcz10_0, hcz10_1, hcz10_2⟩ := blkC3 (w := w8) BK209.out; obtain ⟨hfz10_0, hfz10_1, hfz10_2⟩ := blkF3 BK209.out; obtain ⟨hcz11_0, hcz11_1, hcz11_2, hcz11_3⟩ := blkC4 (w := w8) BK204.out; obtain ⟨hfz11_0, hfz11_1, hfz11_2, hfz11_3⟩ := blkF4 BK204.out))
   go_ret
   exact ⟨by first | rfl | (simp [errW_none, errW_some] <;> rfl) | (simp [*, errW_none, errW_some] <;> rfl), bw⟩
  ·rw [if_neg c4] at H
   have c4b0 : decide (60 ≤ a0_3) = false := decide_eq_false c4
   clear c4
   obtain rfl := Option.some.inj H
   go_enter Try.func94, Try.ntmps94
   go_wp2_with (first | ((with_reducible refine gate_dst (N := 1) rfl ?_); refine bx 1 #[.int .i64 a0_0, .int .i64 a0_1, .int .i64 a0_2, .int .i64 a0_3] 40 ?_; intro gb204 hg w12 hbox hb; have BK204 := AX (hbox); have GW204 := gwl (w := w) hg bw; have GE204 := GW204; replace HB := AX (below_step bw hb); clear hb hbox hg; obtain ⟨hcz13_0, hcz13_1, hcz13_2, hcz13_3⟩ := blkC4 (w := w12) BK204.out; obtain ⟨hfz13_0, hfz13_1, hfz13_2, hfz13_3⟩ := blkF4 BK204.out) | ((with_reducible refine gate_callee (f := 66) rfl ?_); refine gL (some 12) Try.func66 #[.int .i64 2000, .int .i64 a0_0, .int .i64 a0_1, .int .i64 a0_2] ?_; (with_reducible refine (civil_Nth.calls k 2000 a0_0 a0_1 a0_2 t205 t206 t207 t208 _ A2.out).mono ?_); rintro e w14 ⟨rfl, hb⟩; refine ⟨_, rfl, ?_⟩; replace BK204 := AX (bkb BK204 hb); replace HB := AX (below_step bw hb); (try clear hb)) | ((with_reducible refine gate_dst (N := 3) rfl ?_); refine bx 3 #[.int .i64 0, .int .i64 0, .int .i64 0] 24 ?_; intro gb209 hg w15 hbox hb; have BK209 := AX (hbox); have GW209 := gwl (w := w) hg bw; have GE209 := GW209; have NB204_209 := nbl hg (bkn BK204); have NB209_204 := nbg hg (bkn BK204); replace BK204 := AX (bkb BK204 hb); replace HB := AX (below_step bw hb); clear hb hbox hg; have hnb16 := NB209_204.out; have hnc16 := NB204_209.out; obtain ⟨hcz17_0, hcz17_1, hcz17_2⟩ := blkC3 (w := w15) BK209.out; obtain ⟨hfz17_0, hfz17_1, hfz17_2⟩ := blkF3 BK209.out; obtain ⟨hcz18_0, hcz18_1, hcz18_2, hcz18_3⟩ := blkC4 (w := w15) BK204.out; obtain ⟨hfz18_0, hfz18_1, hfz18_2, hfz18_3⟩ := blkF4 BK204.out))
   go_ret
   exact ⟨by first | rfl | (simp [errW_none, errW_some] <;> rfl) | (simp [*, errW_none, errW_some] <;> rfl), bw⟩
 ·rw [if_neg c3] at H
  have c3b0 : (t208 == 0) = false := beq_eq_false_iff_ne.mpr c3
  have c3b1 : (t208 != 0) = true := bne_iff_ne.mpr c3
  obtain rfl := Option.some.inj H
  go_enter Try.func94, Try.ntmps94
  go_wp2_with (first | ((with_reducible refine gate_dst (N := 1) rfl ?_); refine bx 1 #[.int .i64 a0_0, .int .i64 a0_1, .int .i64 a0_2, .int .i64 a0_3] 40 ?_; intro gb204 hg w19 hbox hb; have BK204 := AX (hbox); have GW204 := gwl (w := w) hg bw; have GE204 := GW204; replace HB := AX (below_step bw hb); clear hb hbox hg; obtain ⟨hcz20_0, hcz20_1, hcz20_2, hcz20_3⟩ := blkC4 (w := w19) BK204.out; obtain ⟨hfz20_0, hfz20_1, hfz20_2, hfz20_3⟩ := blkF4 BK204.out) | ((with_reducible refine gate_callee (f := 66) rfl ?_); refine gL (some 12) Try.func66 #[.int .i64 2000, .int .i64 a0_0, .int .i64 a0_1, .int .i64 a0_2] ?_; (with_reducible refine (civil_Nth.calls k 2000 a0_0 a0_1 a0_2 t205 t206 t207 t208 _ A2.out).mono ?_); rintro e w21 ⟨rfl, hb⟩; refine ⟨_, rfl, ?_⟩; replace BK204 := AX (bkb BK204 hb); replace HB := AX (below_step bw hb); (try clear hb)) | ((with_reducible refine gate_dst (N := 3) rfl ?_); refine bx 3 #[.int .i64 0, .int .i64 0, .int .i64 0] 24 ?_; intro gb209 hg w22 hbox hb; have BK209 := AX (hbox); have GW209 := gwl (w := w) hg bw; have GE209 := GW209; have NB204_209 := nbl hg (bkn BK204); have NB209_204 := nbg hg (bkn BK204); replace BK204 := AX (bkb BK204 hb); replace HB := AX (below_step bw hb); clear hb hbox hg; have hnb23 := NB209_204.out; have hnc23 := NB204_209.out; obtain ⟨hcz24_0, hcz24_1, hcz24_2⟩ := blkC3 (w := w22) BK209.out; obtain ⟨hfz24_0, hfz24_1, hfz24_2⟩ := blkF3 BK209.out))
  go_ret
  exact ⟨by first | rfl | (simp [errW_none, errW_some] <;> rfl) | (simp [*, errW_none, errW_some] <;> rfl), bw⟩

/-! ### zone_Check: function 76 -/
mutual
def zone_Check.j0 : Nat → Bool → Int → Int → Int → Int → Int → Int → Int → Int → Int → Int → Option (Int)
 | 0, _, _, _, _, _, _, _, _, _, _, _ => none
 | k + 1, x3, x211000, x211001, x211002, x211003, x211004, x211005, x211006, x211007, x211008, x211009 => if x3 = true then (some 8) else (if x211001 = 0 then (some 0) else (if x211001 = 30 then (zone_Check.j1 k false x211000 x211001 x211002 x211003 x211004 x211005 x211006 x211007 x211008 x211009) else (zone_Check.j1 k (x211001 != 60) x211000 x211001 x211002 x211003 x211004 x211005 x211006 x211007 x211008 x211009)))
def zone_Check.j1 : Nat → Bool → Int → Int → Int → Int → Int → Int → Int → Int → Int → Int → Option (Int)
 | 0, _, _, _, _, _, _, _, _, _, _, _ => none
 | k + 1, x22, x211000, x211001, x211002, x211003, x211004, x211005, x211006, x211007, x211008, x211009 => if x22 = true then (some 8) else ((zone_good.f k x211002 x211003 x211004 x211005).bind fun t211 => (if t211 = true then ((zone_good.f k x211006 x211007 x211008 x211009).bind fun t212 => (if t212 = true then (if x211002 = x211006 then (some 8) else (some 0)) else (some 8))) else (some 8)))
end
def zone_Check.f (k : Nat) (a0_0 : Int) (a0_1 : Int) (a0_2 : Int) (a0_3 : Int) (a0_4 : Int) (a0_5 : Int) (a0_6 : Int) (a0_7 : Int) (a0_8 : Int) (a0_9 : Int) : Option (Int) := if a0_0 < (-720) then (zone_Check.j0 k true a0_0 a0_1 a0_2 a0_3 a0_4 a0_5 a0_6 a0_7 a0_8 a0_9) else (if a0_0 > 840 then (zone_Check.j0 k true a0_0 a0_1 a0_2 a0_3 a0_4 a0_5 a0_6 a0_7 a0_8 a0_9) else (zone_Check.j0 k ((Int.tmod a0_0 15) != 0) a0_0 a0_1 a0_2 a0_3 a0_4 a0_5 a0_6 a0_7 a0_8 a0_9))
theorem zone_Check.mono_l : ∀ k, (∀ y0 y1 y2 y3 y4 y5 y6 y7 y8 y9 y10, LeO (zone_Check.j0 k y0 y1 y2 y3 y4 y5 y6 y7 y8 y9 y10) (zone_Check.j0 (k + 1) y0 y1 y2 y3 y4 y5 y6 y7 y8 y9 y10)) ∧ (∀ y0 y1 y2 y3 y4 y5 y6 y7 y8 y9 y10, LeO (zone_Check.j1 k y0 y1 y2 y3 y4 y5 y6 y7 y8 y9 y10) (zone_Check.j1 (k + 1) y0 y1 y2 y3 y4 y5 y6 y7 y8 y9 y10))
 | 0 => ⟨fun _ _ _ _ _ _ _ _ _ _ _ r h => by simp [zone_Check.j0] at h, fun _ _ _ _ _ _ _ _ _ _ _ r h => by simp [zone_Check.j1] at h⟩
 | k + 1 => by
  obtain ⟨ih0, ih1⟩ := zone_Check.mono_l k
  refine ⟨?_, ?_⟩
  ·intro y0 y1 y2 y3 y4 y5 y6 y7 y8 y9 y10
   unfold zone_Check.j0
   repeat' first
   | (with_reducible exact ih0 _ _ _ _ _ _ _ _ _ _ _)
   | (with_reducible exact ih1 _ _ _ _ _ _ _ _ _ _ _)
   | (with_reducible exact zone_good.mono _ _ _ _ _)
   | (with_reducible exact LeO.refl _)
   | (with_reducible exact LeO.none _)
   | (with_reducible refine LeO.ite ?_ ?_)
   | (with_reducible refine LeO.bind ?_ (fun _ => ?_))
  ·intro y0 y1 y2 y3 y4 y5 y6 y7 y8 y9 y10
   unfold zone_Check.j1
   repeat' first
   | (with_reducible exact ih0 _ _ _ _ _ _ _ _ _ _ _)
   | (with_reducible exact ih1 _ _ _ _ _ _ _ _ _ _ _)
   | (with_reducible exact zone_good.mono _ _ _ _ _)
   | (with_reducible exact LeO.refl _)
   | (with_reducible exact LeO.none _)
   | (with_reducible refine LeO.ite ?_ ?_)
   | (with_reducible refine LeO.bind ?_ (fun _ => ?_))
theorem zone_Check.mono : ∀ a0 a1 a2 a3 a4 a5 a6 a7 a8 a9 k, LeO (zone_Check.f k a0 a1 a2 a3 a4 a5 a6 a7 a8 a9) (zone_Check.f (k + 1) a0 a1 a2 a3 a4 a5 a6 a7 a8 a9) := by
 intro a0 a1 a2 a3 a4 a5 a6 a7 a8 a9 k
 obtain ⟨ih0, ih1⟩ := zone_Check.mono_l k
 unfold zone_Check.f
 repeat' first
   | (with_reducible exact ih0 _ _ _ _ _ _ _ _ _ _ _)
   | (with_reducible exact ih1 _ _ _ _ _ _ _ _ _ _ _)
   | (with_reducible exact zone_good.mono _ _ _ _ _)
   | (with_reducible exact LeO.refl _)
   | (with_reducible exact LeO.none _)
   | (with_reducible refine LeO.ite ?_ ?_)
   | (with_reducible refine LeO.bind ?_ (fun _ => ?_))
set_option maxHeartbeats 8000000 in
set_option maxRecDepth 100000 in
theorem zone_Check.calls (k : Nat) (a0_0 : Int) (a0_1 : Int) (a0_2 : Int) (a0_3 : Int) (a0_4 : Int) (a0_5 : Int) (a0_6 : Int) (a0_7 : Int) (a0_8 : Int) (a0_9 : Int) (r : Int) (w : World) (h : zone_Check.f k a0_0 a0_1 a0_2 a0_3 a0_4 a0_5 a0_6 a0_7 a0_8 a0_9 = some r) :
  Calls Try.prog 76 #[.agg #[.int .i64 a0_0, .int .i64 a0_1, .int .i64 a0_2, .int .i64 a0_3, .int .i64 a0_4, .int .i64 a0_5, .int .i64 a0_6, .int .i64 a0_7, .int .i64 a0_8, .int .i64 a0_9]] w fun e w' => e = .returned (.int .i64 r) ∧ Below w.heap.size w w' := by
 have hu42 := Try.underlying42
 have hu40 := Try.underlying40
 have HB := AX (Below.refl w.heap.size w)
 have H : (if a0_0 < (-720) then (zone_Check.j0 k true a0_0 a0_1 a0_2 a0_3 a0_4 a0_5 a0_6 a0_7 a0_8 a0_9) else (if a0_0 > 840 then (zone_Check.j0 k true a0_0 a0_1 a0_2 a0_3 a0_4 a0_5 a0_6 a0_7 a0_8 a0_9) else (zone_Check.j0 k ((Int.tmod a0_0 15) != 0) a0_0 a0_1 a0_2 a0_3 a0_4 a0_5 a0_6 a0_7 a0_8 a0_9))) = some r := h
 clear h
 have HC2 := AX H
 clear H
 go_enter Try.func76, Try.ntmps76
 go_upto_region 1 with (first | ((with_reducible refine gate_dst (N := 1) rfl ?_); refine bx 1 #[.int .i64 a0_0, .int .i64 a0_1, .int .i64 a0_2, .int .i64 a0_3, .int .i64 a0_4, .int .i64 a0_5, .int .i64 a0_6, .int .i64 a0_7, .int .i64 a0_8, .int .i64 a0_9] 42 ?_; intro gb210 hg w3 hbox hb; have BK210 := AX (hbox); have GW210 := gwl (w := w) hg bw; have GE210 := GW210; replace HB := AX (below_step bw hb); clear hb hbox hg))
 (try simp only [Act.put, List.setIfInBounds_toArray, List.set_cons_zero, List.set_cons_succ])
 go_cut [3] (fun v3 wc => ∃ (kq : Nat) (x3_1 : Bool), v3 = .bool x3_1 ∧ Aside0 (zone_Check.j0 kq x3_1 a0_0 a0_1 a0_2 a0_3 a0_4 a0_5 a0_6 a0_7 a0_8 a0_9 = some r) ∧ Aside0 (kq ≤ k) ∧ Aside0 (wc.heap[gb210]? = some (.cells #[.int .i64 a0_0, .int .i64 a0_1, .int .i64 a0_2, .int .i64 a0_3, .int .i64 a0_4, .int .i64 a0_5, .int .i64 a0_6, .int .i64 a0_7, .int .i64 a0_8, .int .i64 a0_9] 42 (0, 0))) ∧ Aside0 (Below w.heap.size w wc))
 case first =>
  have H := HC2.out
  clear HC2
  by_cases c4 : a0_0 < (-720)
  ·rw [if_pos c4] at H
   have c4b0 : decide (a0_0 < (-720)) = true := decide_eq_true c4
   clear c4
   (first | rw [c4b0] | (simp only [i64_w, i32_w]; rw [c4b0]) | skip)
   have H' := AX H
   clear H
   obtain ⟨hcz5_0, hcz5_1, hcz5_2, hcz5_3, hcz5_4, hcz5_5, hcz5_6, hcz5_7, hcz5_8, hcz5_9⟩ := blkC10 (w := w3) BK210.out
   obtain ⟨hfz5_0, hfz5_1, hfz5_2, hfz5_3, hfz5_4, hfz5_5, hfz5_6, hfz5_7, hfz5_8, hfz5_9⟩ := blkF10 BK210.out
   go_wp2
   go_meet
   case rel => exact ⟨_, (true), (by first | rfl | (simp; done) | (simp [*]; done)), H', ⟨by first | omega | exact Nat.le_refl _⟩, ⟨bkn BK210⟩, ⟨bw⟩⟩
  ·rw [if_neg c4] at H
   have c4b0 : decide (a0_0 < (-720)) = false := decide_eq_false c4
   clear c4
   (first | rw [c4b0] | (simp only [i64_w, i32_w]; rw [c4b0]) | skip)
   by_cases c6 : a0_0 > 840
   ·rw [if_pos c6] at H
    have c6b0 : decide (840 < a0_0) = true := decide_eq_true c6
    clear c6
    have H' := AX H
    clear H
    obtain ⟨hcz7_0, hcz7_1, hcz7_2, hcz7_3, hcz7_4, hcz7_5, hcz7_6, hcz7_7, hcz7_8, hcz7_9⟩ := blkC10 (w := w3) BK210.out
    obtain ⟨hfz7_0, hfz7_1, hfz7_2, hfz7_3, hfz7_4, hfz7_5, hfz7_6, hfz7_7, hfz7_8, hfz7_9⟩ := blkF10 BK210.out
    go_wp2
    go_meet
    case rel => exact ⟨_, (true), (by first | rfl | (simp; done) | (simp [*]; done)), H', ⟨by first | omega | exact Nat.le_refl _⟩, ⟨bkn BK210⟩, ⟨bw⟩⟩
   ·rw [if_neg c6] at H
    have c6b0 : decide (840 < a0_0) = false := decide_eq_false c6
    clear c6
    have H' := AX H
    clear H
    obtain ⟨hcz8_0, hcz8_1, hcz8_2, hcz8_3, hcz8_4, hcz8_5, hcz8_6, hcz8_7, hcz8_8, hcz8_9⟩ := blkC10 (w := w3) BK210.out
    obtain ⟨hfz8_0, hfz8_1, hfz8_2, hfz8_3, hfz8_4, hfz8_5, hfz8_6, hfz8_7, hfz8_8, hfz8_9⟩ := blkF10 BK210.out
    go_wp2
    go_meet
    case rel => exact ⟨_, (((Int.tmod a0_0 15) != 0)), (by first | rfl | (simp; done) | (simp [*]; done)), H', ⟨by first | omega | exact Nat.le_refl _⟩, ⟨bkn BK210⟩, ⟨bw⟩⟩
 case rest =>
  clear HC2
  obtain ⟨kq, x3_1, rfl, HA, HJ1, BK210, HB⟩ := hcut
  cases kq with
  | zero => exact absurd HA.out (by simp [zone_Check.j0])
  | succ kj1 =>
   have H := HA.out
   clear HA
   simp only [zone_Check.j0] at H
   by_cases c9 : x3_1 = true
   ·subst c9
    have H1 : (some 8) = some r := by rw [if_pos rfl] at H; exact H
    clear H
    have H := H1
    clear H1
    obtain rfl := Option.some.inj H
    go_wp2
    go_ret
    exact ⟨by first | rfl | (simp [errW_none, errW_some] <;> rfl) | (simp [*, errW_none, errW_some] <;> rfl), bw⟩
   ·replace c9 := Bool.eq_false_iff.mpr c9
    subst c9
    have H1 : (if a0_1 = 0 then (some 0) else (if a0_1 = 30 then (zone_Check.j1 kj1 false a0_0 a0_1 a0_2 a0_3 a0_4 a0_5 a0_6 a0_7 a0_8 a0_9) else (zone_Check.j1 kj1 (a0_1 != 60) a0_0 a0_1 a0_2 a0_3 a0_4 a0_5 a0_6 a0_7 a0_8 a0_9))) = some r := by rw [if_neg (show ¬ (false = true) by decide)] at H; exact H
    clear H
    have H := H1
    clear H1
    by_cases c10 : a0_1 = 0
    ·rw [if_pos c10] at H
     have c10b0 : (a0_1 == 0) = true := beq_iff_eq.mpr c10
     have c10b1 : (a0_1 != 0) = false := bne_eq_false_iff_eq.mpr c10
     clear c10
     obtain rfl := Option.some.inj H
     obtain ⟨hcz11_0, hcz11_1, hcz11_2, hcz11_3, hcz11_4, hcz11_5, hcz11_6, hcz11_7, hcz11_8, hcz11_9⟩ := blkC10 (w := wc) BK210.out
     obtain ⟨hfz11_0, hfz11_1, hfz11_2, hfz11_3, hfz11_4, hfz11_5, hfz11_6, hfz11_7, hfz11_8, hfz11_9⟩ := blkF10 BK210.out
     go_wp2
     go_ret
     exact ⟨by first | rfl | (simp [errW_none, errW_some] <;> rfl) | (simp [*, errW_none, errW_some] <;> rfl), bw⟩
    ·rw [if_neg c10] at H
     have c10b0 : (a0_1 == 0) = false := beq_eq_false_iff_ne.mpr c10
     have c10b1 : (a0_1 != 0) = true := bne_iff_ne.mpr c10
     have HC12 := AX H
     clear H
     obtain ⟨hcz13_0, hcz13_1, hcz13_2, hcz13_3, hcz13_4, hcz13_5, hcz13_6, hcz13_7, hcz13_8, hcz13_9⟩ := blkC10 (w := wc) BK210.out
     obtain ⟨hfz13_0, hfz13_1, hfz13_2, hfz13_3, hfz13_4, hfz13_5, hfz13_6, hfz13_7, hfz13_8, hfz13_9⟩ := blkF10 BK210.out
     go_upto_region 5 with (fail)
     go_cut [22] (fun v22 wc => ∃ (kq : Nat) (x22_11 : Bool), v22 = .bool x22_11 ∧ Aside0 (zone_Check.j1 kq x22_11 a0_0 a0_1 a0_2 a0_3 a0_4 a0_5 a0_6 a0_7 a0_8 a0_9 = some r) ∧ Aside0 (kq ≤ kj1) ∧ Aside0 (wc.heap[gb210]? = some (.cells #[.int .i64 a0_0, .int .i64 a0_1, .int .i64 a0_2, .int .i64 a0_3, .int .i64 a0_4, .int .i64 a0_5, .int .i64 a0_6, .int .i64 a0_7, .int .i64 a0_8, .int .i64 a0_9] 42 (0, 0))) ∧ Aside0 (Below w.heap.size w wc))
     case first =>
      have H := HC12.out
      clear HC12
      by_cases c14 : a0_1 = 30
      ·rw [if_pos c14] at H
       have c14b0 : (a0_1 == 30) = true := beq_iff_eq.mpr c14
       have c14b1 : (a0_1 != 30) = false := bne_eq_false_iff_eq.mpr c14
       clear c14
       (first | rw [c14b0] | (simp only [i64_w, i32_w]; rw [c14b0]) | skip)
       have H' := AX H
       clear H
       obtain ⟨hcz15_0, hcz15_1, hcz15_2, hcz15_3, hcz15_4, hcz15_5, hcz15_6, hcz15_7, hcz15_8, hcz15_9⟩ := blkC10 (w := wc) BK210.out
       obtain ⟨hfz15_0, hfz15_1, hfz15_2, hfz15_3, hfz15_4, hfz15_5, hfz15_6, hfz15_7, hfz15_8, hfz15_9⟩ := blkF10 BK210.out
       go_wp2
       go_meet
       case rel => exact ⟨_, (false), (by first | rfl | (simp; done) | (simp [*]; done)), H', ⟨by have := HJ1.out; first | omega | exact Nat.le_refl _⟩, ⟨bkn BK210⟩, ⟨bw⟩⟩
      ·rw [if_neg c14] at H
       have c14b0 : (a0_1 == 30) = false := beq_eq_false_iff_ne.mpr c14
       have c14b1 : (a0_1 != 30) = true := bne_iff_ne.mpr c14
       (first | rw [c14b0] | (simp only [i64_w, i32_w]; rw [c14b0]) | skip)
       have H' := AX H
       clear H
       obtain ⟨hcz16_0, hcz16_1, hcz16_2, hcz16_3, hcz16_4, hcz16_5, hcz16_6, hcz16_7, hcz16_8, hcz16_9⟩ := blkC10 (w := wc) BK210.out
       obtain ⟨hfz16_0, hfz16_1, hfz16_2, hfz16_3, hfz16_4, hfz16_5, hfz16_6, hfz16_7, hfz16_8, hfz16_9⟩ := blkF10 BK210.out
       go_wp2
       go_meet
       case rel => exact ⟨_, ((a0_1 != 60)), (by first | rfl | (simp; done) | (simp [*]; done)), H', ⟨by have := HJ1.out; first | omega | exact Nat.le_refl _⟩, ⟨bkn BK210⟩, ⟨bw⟩⟩
     case rest =>
      clear HC12
      try clear c9
      try clear c10
      try clear c10b0 c10b1
      try clear hcz13_0 hcz13_1 hcz13_2 hcz13_3 hcz13_4 hcz13_5 hcz13_6 hcz13_7 hcz13_8 hcz13_9
      try clear hfz13_0 hfz13_1 hfz13_2 hfz13_3 hfz13_4 hfz13_5 hfz13_6 hfz13_7 hfz13_8 hfz13_9
      obtain ⟨kq, x22_11, rfl, HA, HJ11, BK210, HB⟩ := hcut
      cases kq with
      | zero => exact absurd HA.out (by simp [zone_Check.j1])
      | succ kj11 =>
       have H := HA.out
       clear HA
       simp only [zone_Check.j1] at H
       by_cases c17 : x22_11 = true
       ·subst c17
        have H1 : (some 8) = some r := by rw [if_pos rfl] at H; exact H
        clear H
        have H := H1
        clear H1
        obtain rfl := Option.some.inj H
        go_wp2
        go_ret
        exact ⟨by first | rfl | (simp [errW_none, errW_some] <;> rfl) | (simp [*, errW_none, errW_some] <;> rfl), bw⟩
       ·replace c17 := Bool.eq_false_iff.mpr c17
        subst c17
        have H1 : ((zone_good.f kj11 a0_2 a0_3 a0_4 a0_5).bind fun t211 => (if t211 = true then ((zone_good.f kj11 a0_6 a0_7 a0_8 a0_9).bind fun t212 => (if t212 = true then (if a0_2 = a0_6 then (some 8) else (some 0)) else (some 8))) else (some 8))) = some r := by rw [if_neg (show ¬ (false = true) by decide)] at H; exact H
        clear H
        have H := H1
        clear H1
        replace H := Option.bind_eq_some_iff.mp H
        obtain ⟨t211, A180, H⟩ := H
        replace H : (if t211 = true then ((zone_good.f kj11 a0_6 a0_7 a0_8 a0_9).bind fun t212 => (if t212 = true then (if a0_2 = a0_6 then (some 8) else (some 0)) else (some 8))) else (some 8)) = some r := H
        have A18 := AX A180
        clear A180
        by_cases c19 : t211 = true
        ·subst c19
         have H1 : ((zone_good.f kj11 a0_6 a0_7 a0_8 a0_9).bind fun t212 => (if t212 = true then (if a0_2 = a0_6 then (some 8) else (some 0)) else (some 8))) = some r := by rw [if_pos rfl] at H; exact H
         clear H
         have H := H1
         clear H1
         replace H := Option.bind_eq_some_iff.mp H
         obtain ⟨t212, A200, H⟩ := H
         replace H : (if t212 = true then (if a0_2 = a0_6 then (some 8) else (some 0)) else (some 8)) = some r := H
         have A20 := AX A200
         clear A200
         by_cases c21 : t212 = true
         ·subst c21
          have H1 : (if a0_2 = a0_6 then (some 8) else (some 0)) = some r := by rw [if_pos rfl] at H; exact H
          clear H
          have H := H1
          clear H1
          by_cases c22 : a0_2 = a0_6
          ·rw [if_pos c22] at H
           have c22b0 : (a0_2 == a0_6) = true := beq_iff_eq.mpr c22
           have c22b1 : (a0_2 != a0_6) = false := bne_eq_false_iff_eq.mpr c22
           clear c22
           obtain rfl := Option.some.inj H
           obtain ⟨hcz23_0, hcz23_1, hcz23_2, hcz23_3, hcz23_4, hcz23_5, hcz23_6, hcz23_7, hcz23_8, hcz23_9⟩ := blkC10 (w := wc) BK210.out
           obtain ⟨hfz23_0, hfz23_1, hfz23_2, hfz23_3, hfz23_4, hfz23_5, hfz23_6, hfz23_7, hfz23_8, hfz23_9⟩ := blkF10 BK210.out
           go_wp2_with (first | ((with_reducible refine gate_callee (f := 94) rfl ?_); refine gL (some 33) Try.func94 #[.agg #[.int .i64 a0_2, .int .i64 a0_3, .int .i64 a0_4, .int .i64 a0_5]] ?_; (with_reducible refine (zone_good.calls kj11 a0_2 a0_3 a0_4 a0_5 true _ A18.out).mono ?_); rintro e w24 ⟨rfl, hb⟩; refine ⟨_, rfl, ?_⟩; replace BK210 := AX (bkb BK210 hb); replace HB := AX (below_step bw hb); (try clear hb); obtain ⟨hcz25_0, hcz25_1, hcz25_2, hcz25_3, hcz25_4, hcz25_5, hcz25_6, hcz25_7, hcz25_8, hcz25_9⟩ := blkC10 (w := w24) BK210.out; obtain ⟨hfz25_0, hfz25_1, hfz25_2, hfz25_3, hfz25_4, hfz25_5, hfz25_6, hfz25_7, hfz25_8, hfz25_9⟩ := blkF10 BK210.out) | ((with_reducible refine gate_callee (f := 94) rfl ?_); refine gL (some 37) Try.func94 #[.agg #[.int .i64 a0_6, .int .i64 a0_7, .int .i64 a0_8, .int .i64 a0_9]] ?_; (with_reducible refine (zone_good.calls kj11 a0_6 a0_7 a0_8 a0_9 true _ A20.out).mono ?_); rintro e w26 ⟨rfl, hb⟩; refine ⟨_, rfl, ?_⟩; replace BK210 := AX (bkb BK210 hb); replace HB := AX (below_step bw hb); (try clear hb); obtain ⟨hcz27_0, hcz27_1, hcz27_2, hcz27_3, hcz27_4, hcz27_5, hcz27_6, hcz27_7, hcz27_8, hcz27_9⟩ := blkC10 (w := w26) BK210.out; obtain ⟨hfz27_0, hfz27_1, hfz27_2, hfz27_3, hfz27_4, hfz27_5, hfz27_6, hfz27_7, hfz27_8, hfz27_9⟩ := blkF10 BK210.out))
           go_ret
           exact ⟨by first | rfl | (simp [errW_none, errW_some] <;> rfl) | (simp [*, errW_none, errW_some] <;> rfl), bw⟩
          ·rw [if_neg c22] at H
           have c22b0 : (a0_2 == a0_6) = false := beq_eq_false_iff_ne.mpr c22
           have c22b1 : (a0_2 != a0_6) = true := bne_iff_ne.mpr c22
           obtain rfl := Option.some.inj H
           obtain ⟨hcz28_0, hcz28_1, hcz28_2, hcz28_3, hcz28_4, hcz28_5, hcz28_6, hcz28_7, hcz28_8, hcz28_9⟩ := blkC10 (w := wc) BK210.out
           obtain ⟨hfz28_0, hfz28_1, hfz28_2, hfz28_3, hfz28_4, hfz28_5, hfz28_6, hfz28_7, hfz28_8, hfz28_9⟩ := blkF10 BK210.out
           go_wp2_with (first | ((with_reducible refine gate_callee (f := 94) rfl ?_); refine gL (some 33) Try.func94 #[.agg #[.int .i64 a0_2, .int .i64 a0_3, .int .i64 a0_4, .int .i64 a0_5]] ?_; (with_reducible refine (zone_good.calls kj11 a0_2 a0_3 a0_4 a0_5 true _ A18.out).mono ?_); rintro e w29 ⟨rfl, hb⟩; refine ⟨_, rfl, ?_⟩; replace BK210 := AX (bkb BK210 hb); replace HB := AX (below_step bw hb); (try clear hb); obtain ⟨hcz30_0, hcz30_1, hcz30_2, hcz30_3, hcz30_4, hcz30_5, hcz30_6, hcz30_7, hcz30_8, hcz30_9⟩ := blkC10 (w := w29) BK210.out; obtain ⟨hfz30_0, hfz30_1, hfz30_2, hfz30_3, hfz30_4, hfz30_5, hfz30_6, hfz30_7, hfz30_8, hfz30_9⟩ := blkF10 BK210.out) | ((with_reducible refine gate_callee (f := 94) rfl ?_); refine gL (some 37) Try.func94 #[.agg #[.int .i64 a0_6, .int .i64 a0_7, .int .i64 a0_8, .int .i64 a0_9]] ?_; (with_reducible refine (zone_good.calls kj11 a0_6 a0_7 a0_8 a0_9 true _ A20.out).mono ?_); rintro e w31 ⟨rfl, hb⟩; refine ⟨_, rfl, ?_⟩; replace BK210 := AX (bkb BK210 hb); replace HB := AX (below_step bw hb); (try clear hb); obtain ⟨hcz32_0, hcz32_1, hcz32_2, hcz32_3, hcz32_4, hcz32_5, hcz32_6, hcz32_7, hcz32_8, hcz32_9⟩ := blkC10 (w := w31) BK210.out; obtain ⟨hfz32_0, hfz32_1, hfz32_2, hfz32_3, hfz32_4, hfz32_5, hfz32_6, hfz32_7, hfz32_8, hfz32_9⟩ := blkF10 BK210.out))
           go_ret
           exact ⟨by first | rfl | (simp [errW_none, errW_some] <;> rfl) | (simp [*, errW_none, errW_some] <;> rfl), bw⟩
         ·replace c21 := Bool.eq_false_iff.mpr c21
          subst c21
          have H1 : (some 8) = some r := by rw [if_neg (show ¬ (false = true) by decide)] at H; exact H
          clear H
          have H := H1
          clear H1
          obtain rfl := Option.some.inj H
          obtain ⟨hcz33_0, hcz33_1, hcz33_2, hcz33_3, hcz33_4, hcz33_5, hcz33_6, hcz33_7, hcz33_8, hcz33_9⟩ := blkC10 (w := wc) BK210.out
          obtain ⟨hfz33_0, hfz33_1, hfz33_2, hfz33_3, hfz33_4, hfz33_5, hfz33_6, hfz33_7, hfz33_8, hfz33_9⟩ := blkF10 BK210.out
          go_wp2_with (first | ((with_reducible refine gate_callee (f := 94) rfl ?_); refine gL (some 33) Try.func94 #[.agg #[.int .i64 a0_2, .int .i64 a0_3, .int .i64 a0_4, .int .i64 a0_5]] ?_; (with_reducible refine (zone_good.calls kj11 a0_2 a0_3 a0_4 a0_5 true _ A18.out).mono ?_); rintro e w34 ⟨rfl, hb⟩; refine ⟨_, rfl, ?_⟩; replace BK210 := AX (bkb BK210 hb); replace HB := AX (below_step bw hb); (try clear hb); obtain ⟨hcz35_0, hcz35_1, hcz35_2, hcz35_3, hcz35_4, hcz35_5, hcz35_6, hcz35_7, hcz35_8, hcz35_9⟩ := blkC10 (w := w34) BK210.out; obtain ⟨hfz35_0, hfz35_1, hfz35_2, hfz35_3, hfz35_4, hfz35_5, hfz35_6, hfz35_7, hfz35_8, hfz35_9⟩ := blkF10 BK210.out) | ((with_reducible refine gate_callee (f := 94) rfl ?_); refine gL (some 37) Try.func94 #[.agg #[.int .i64 a0_6, .int .i64 a0_7, .int .i64 a0_8, .int .i64 a0_9]] ?_; (with_reducible refine (zone_good.calls kj11 a0_6 a0_7 a0_8 a0_9 false _ A20.out).mono ?_); rintro e w36 ⟨rfl, hb⟩; refine ⟨_, rfl, ?_⟩; replace BK210 := AX (bkb BK210 hb); replace HB := AX (below_step bw hb); (try clear hb)))
          go_ret
          exact ⟨by first | rfl | (simp [errW_none, errW_some] <;> rfl) | (simp [*, errW_none, errW_some] <;> rfl), bw⟩
        ·replace c19 := Bool.eq_false_iff.mpr c19
         subst c19
         have H1 : (some 8) = some r := by rw [if_neg (show ¬ (false = true) by decide)] at H; exact H
         clear H
         have H := H1
         clear H1
         obtain rfl := Option.some.inj H
         obtain ⟨hcz37_0, hcz37_1, hcz37_2, hcz37_3, hcz37_4, hcz37_5, hcz37_6, hcz37_7, hcz37_8, hcz37_9⟩ := blkC10 (w := wc) BK210.out
         obtain ⟨hfz37_0, hfz37_1, hfz37_2, hfz37_3, hfz37_4, hfz37_5, hfz37_6, hfz37_7, hfz37_8, hfz37_9⟩ := blkF10 BK210.out
         go_wp2_with (first | ((with_reducible refine gate_callee (f := 94) rfl ?_); refine gL (some 33) Try.func94 #[.agg #[.int .i64 a0_2, .int .i64 a0_3, .int .i64 a0_4, .int .i64 a0_5]] ?_; (with_reducible refine (zone_good.calls kj11 a0_2 a0_3 a0_4 a0_5 false _ A18.out).mono ?_); rintro e w38 ⟨rfl, hb⟩; refine ⟨_, rfl, ?_⟩; replace BK210 := AX (bkb BK210 hb); replace HB := AX (below_step bw hb); (try clear hb)))
         go_ret
         exact ⟨by first | rfl | (simp [errW_none, errW_some] <;> rfl) | (simp [*, errW_none, errW_some] <;> rfl), bw⟩

end Go.Proofs.Ytkggjjggcbcdiaa.PX
