/- Functions of the program as plain Lean functions, each with a proof that the call in the machine answers just what the plain function says; condition: the plain function answers at all. -/
import Derived.Test.YtegedhnbmclbkaaPXx0
import Derived.Test.YtegedhnbmclbkaaPXx1
import Derived.Test.YtegedhnbmclbkaaPXx2
import Derived.Test.YtegedhnbmclbkaaPXx6
import Derived.Test.YtegedhnbmclbkaaPXx8
import Derived.Test.YtegedhnbmclbkaaPXx13
namespace Go.Proofs.Ytegedhnbmclbkaa.PX
open Go.RowKit Go.Proofs.YtegedhnbmclbkaaW.PrintWords Go.Proofs.YtegedhnbmclbkaaW.PrintLast Go.Proofs.YtegedhnbmclbkaaW.PrintMore
attribute [local go_sem] max2_int min2_int max_two min_two max_three min_three max_four min_four   -- for this text's walks alone
set_option linter.unusedVariables false
set_option linter.unusedSimpArgs false

/-! ### pylonlaw05_HolidayAll: function 5 -/
attribute [local go_sem high] eqA33
def pylonlaw05_HolidayAll.l0 : Nat → List (S43) → Int → Int → Option (Bool)
 | 0, _, _, _ => none
 | k + 1, x0, x9, x10 => if x10 < x9 then (if 0 ≤ x10 then (if x10 < (x0.length : Int) then ((pylonlaw05_plays.f k ((rd_T43 x0 x10).f0) ((rd_T43 x0 x10).f1.f0) ((rd_T43 x0 x10).f1.f1) ((rd_T43 x0 x10).f1.f2) ((rd_T43 x0 x10).f1.f3) ((rd_T43 x0 x10).f2) ((rd_T43 x0 x10).f3) ((rd_T43 x0 x10).f4.f0) ((rd_T43 x0 x10).f4.f1) ((rd_T43 x0 x10).f4.f2)).bind fun bt293 => ((pylonlaw05_wants.f k ((rd_T43 x0 x10).f0) ((rd_T43 x0 x10).f1.f0) ((rd_T43 x0 x10).f1.f1) ((rd_T43 x0 x10).f1.f2) ((rd_T43 x0 x10).f1.f3) ((rd_T43 x0 x10).f2) ((rd_T43 x0 x10).f3) ((rd_T43 x0 x10).f4.f0) ((rd_T43 x0 x10).f4.f1) ((rd_T43 x0 x10).f4.f2)).bind fun bt302 => (if (!(bt293.1 == bt302.1) || (!(bt293.2.1 == bt302.2.1) || (!(bt293.2.2.1 == bt302.2.2.1)))) = true then (none) else (if (bt293.2.2.2.2.1 != bt302.2.2.2.2.1) = true then (none) else (if bt293.2.2.2.2.2 = bt302.2.2.2.2.2 then ((pylonref13_SameDates.f k bt293.2.2.2.1 bt302.2.2.2.1).bind fun t312 => (if t312 = true then (pylonlaw05_HolidayAll.l0 k x0 x9 (wrap64 (x10 + 1))) else (none))) else (none)))))) else (none)) else (none)) else (some true)
def pylonlaw05_HolidayAll.f (k : Nat) (l0 : List (S43)) : Option (Bool) := (pylonlaw05_awake.f).bind fun t291 => (if t291 = true then (pylonlaw05_HolidayAll.l0 k l0 (l0.length : Int) 0) else (none))
theorem pylonlaw05_HolidayAll.mono_l : ∀ k, (∀ y0 y1 y2, LeO (pylonlaw05_HolidayAll.l0 k y0 y1 y2) (pylonlaw05_HolidayAll.l0 (k + 1) y0 y1 y2))
 | 0 => fun _ _ _ r h => by simp [pylonlaw05_HolidayAll.l0] at h
 | k + 1 => by
  have ih0 := pylonlaw05_HolidayAll.mono_l k
  ·intro y0 y1 y2
   unfold pylonlaw05_HolidayAll.l0
   repeat' first
   | (with_reducible exact ih0 _ _ _)
   | (with_reducible exact pylonlaw05_plays.mono _ _ _ _ _ _ _ _ _ _ _)
   | (with_reducible exact pylonlaw05_wants.mono _ _ _ _ _ _ _ _ _ _ _)
   | (with_reducible exact pylonref13_SameDates.mono _ _ _)
   | (with_reducible exact LeO.refl _)
   | (with_reducible exact LeO.none _)
   | (with_reducible refine LeO.ite ?_ ?_)
   | (with_reducible refine LeO.bind ?_ (fun _ => ?_))
theorem pylonlaw05_HolidayAll.mono : ∀ a0 k, LeO (pylonlaw05_HolidayAll.f k a0) (pylonlaw05_HolidayAll.f (k + 1) a0) := by
 intro a0 k
 have ih0 := pylonlaw05_HolidayAll.mono_l k
 unfold pylonlaw05_HolidayAll.f
 repeat' first
   | (with_reducible exact ih0 _ _ _)
   | (with_reducible exact pylonlaw05_plays.mono _ _ _ _ _ _ _ _ _ _ _)
   | (with_reducible exact pylonlaw05_wants.mono _ _ _ _ _ _ _ _ _ _ _)
   | (with_reducible exact pylonref13_SameDates.mono _ _ _)
   | (with_reducible exact LeO.refl _)
   | (with_reducible exact LeO.none _)
   | (with_reducible refine LeO.ite ?_ ?_)
   | (with_reducible refine LeO.bind ?_ (fun _ => ?_))
def pylonlaw05_HolidayAll.T6 : Bool × List (List Nat × List Nat) := (true, [([], []), ([], []), ([0, 1], [0, 1]), ([2], [2]), ([3], [3]), ([], []), ([], []), ([5, 6], [5, 6]), ([7], [7]), ([8, 4], [8]), ([], []), ([], []), ([10, 4, 9, 0, 1, 2, 3, 4, 10, 11], [4, 10]), ([11, 9, 12, 0, 1, 2, 3, 4, 5, 6, 7, 8, 9, 10, 11, 12], [9, 11])])
def pylonlaw05_HolidayAll.B6 : List Nat := [0, 0, 3, 7, 15, 0, 0, 96, 224, 511, 0, 0, 4095, 8191]
theorem pylonlaw05_HolidayAll.tab6 : rtab .any (opsOf Try.f5 6) = pylonlaw05_HolidayAll.T6 := by kernel_rfl
theorem pylonlaw05_HolidayAll.bits6 : waitsOk pylonlaw05_HolidayAll.T6.2 pylonlaw05_HolidayAll.B6 = true := by kernel_rfl
def pylonlaw05_HolidayAll.q0 : Array Bool := #[false, false, false, false, false, false, false, false, false, false, false, false, false, false]
def pylonlaw05_HolidayAll.q1 : Array Bool := #[true, false, false, false, false, false, false, false, false, false, false, false, false, false]
def pylonlaw05_HolidayAll.q2 : Array Bool := #[true, true, false, false, false, false, false, false, false, false, false, false, false, false]
def pylonlaw05_HolidayAll.q3 : Array Bool := #[true, true, true, false, false, false, false, false, false, false, false, false, false, false]
def pylonlaw05_HolidayAll.q4 : Array Bool := #[true, true, true, false, false, true, false, false, false, false, false, false, false, false]
def pylonlaw05_HolidayAll.q5 : Array Bool := #[true, true, true, false, false, true, true, false, false, false, false, false, false, false]
def pylonlaw05_HolidayAll.q6 : Array Bool := #[true, true, true, false, false, true, true, true, false, false, false, false, false, false]
def pylonlaw05_HolidayAll.q7 : Array Bool := #[true, true, true, true, false, true, true, true, false, false, false, false, false, false]
def pylonlaw05_HolidayAll.q8 : Array Bool := #[true, true, true, true, false, true, true, true, true, false, false, false, false, false]
def pylonlaw05_HolidayAll.q9 : Array Bool := #[true, true, true, true, true, true, true, true, true, true, true, true, false, false]
def pylonlaw05_HolidayAll.q10 : Array Bool := #[true, true, true, true, true, true, true, true, true, true, true, false, false, false]
def pylonlaw05_HolidayAll.q11 : Array Bool := #[true, true, true, true, true, true, true, true, true, true, false, true, false, false]
def pylonlaw05_HolidayAll.q12 : Array Bool := #[true, true, true, true, true, true, true, true, true, false, true, true, false, false]
def pylonlaw05_HolidayAll.q13 : Array Bool := #[true, true, true, true, true, true, true, true, true, true, false, false, false, false]
def pylonlaw05_HolidayAll.q14 : Array Bool := #[true, true, true, true, true, true, true, true, true, false, true, false, false, false]
def pylonlaw05_HolidayAll.q15 : Array Bool := #[true, true, true, true, true, true, true, true, true, false, false, true, false, false]
def pylonlaw05_HolidayAll.q16 : Array Bool := #[true, true, true, true, false, true, true, true, true, false, true, true, false, false]
def pylonlaw05_HolidayAll.q17 : Array Bool := #[true, true, true, true, true, true, true, true, true, false, false, false, false, false]
def pylonlaw05_HolidayAll.q18 : Array Bool := #[true, true, true, true, false, true, true, true, true, false, true, false, false, false]
def pylonlaw05_HolidayAll.q19 : Array Bool := #[true, true, true, true, false, true, true, true, true, false, false, true, false, false]
def pylonlaw05_HolidayAll.q20 : Array Bool := #[true, true, true, true, true, true, true, true, true, true, true, true, true, false]
def pylonlaw05_HolidayAll.q21 : Array Bool := #[true, true, true, true, true, true, true, true, true, true, true, true, true, true]
set_option maxHeartbeats 8000000 in
set_option maxRecDepth 100000 in
theorem pylonlaw05_HolidayAll.calls (k : Nat) (A0 : Option Addr) (c0 : Nat) (l0 : List (S43)) (r : Bool) (w : World) (hr0 : Kd.C k43 w A0 l0.length l0) (hc0 : l0.length ≤ c0) (h : pylonlaw05_HolidayAll.f k l0 = some r) :
  Calls Try.prog 5 #[.slice A0 l0.length c0] w fun e w' => e = .returned (.bool r) ∧ Below w.heap.size w w' := by
 have hu43 := Try.underlying43
 have hu40 := Try.underlying40
 have hu33 := Try.underlying33
 have HR0 := AX hr0
 have HC0 := AX hc0
 clear hr0 hc0
 have HB := AX (Below.refl w.heap.size w)
 have H : ((pylonlaw05_awake.f).bind fun t291 => (if t291 = true then (pylonlaw05_HolidayAll.l0 k l0 (l0.length : Int) 0) else (none))) = some r := h
 clear h
 replace H := Option.bind_eq_some_iff.mp H
 obtain ⟨t291, A20, H⟩ := H
 replace H : (if t291 = true then (pylonlaw05_HolidayAll.l0 k l0 (l0.length : Int) 0) else (none)) = some r := H
 have A2 := AX A20
 clear A20
 by_cases c3 : t291 = true
 ·subst c3
  have H1 : (pylonlaw05_HolidayAll.l0 k l0 (l0.length : Int) 0) = some r := by rw [if_pos rfl] at H; exact H
  clear H
  have H := H1
  clear H1
  have H' := AX H
  clear H
  go_enter Try.func5, Try.ntmps5
  go_wp2_with (first | ((with_reducible refine gate_callee (f := 8) rfl ?_); refine gL (some 6) Try.func8 #[] ?_; (with_reducible refine (pylonlaw05_awake.calls  true _ A2.out).mono ?_); rintro e w4 ⟨rfl, hb⟩; refine ⟨_, rfl, ?_⟩; replace HB := AX (below_step bw hb); (try clear hb)))
  go_loopg [10] k (fun kq v10 w' => ∃ (x10_1 : Int), v10 = .int .i64 x10_1 ∧ Aside0 (pylonlaw05_HolidayAll.l0 kq l0 (l0.length : Int) x10_1 = some r) ∧ Aside0 (kq ≤ k) ∧ Aside0 (Below w.heap.size w w'))
  case atStart => exact ⟨(0), (by first | rfl | (simp; done) | (simp [*]; done)), H', ⟨Nat.le_refl _⟩, ⟨bw⟩⟩
  case round =>
   clear H'
   try clear c3
   obtain ⟨x10_1, rfl, HA, HK1, HB⟩ := hrel
   cases gk with
   | zero => exact absurd HA.out (by simp [pylonlaw05_HolidayAll.l0])
   | succ k1 =>
    have H := HA.out
    clear HA
    simp only [pylonlaw05_HolidayAll.l0] at H
    by_cases c5 : x10_1 < (l0.length : Int)
    ·rw [if_pos c5] at H
     have c5b0 : decide (x10_1 < (l0.length : Int)) = true := decide_eq_true c5
     clear c5
     by_cases c6 : 0 ≤ x10_1
     ·rw [if_pos c6] at H
      have c6b0 : decide (0 ≤ x10_1) = true := decide_eq_true c6
      clear c6
      by_cases c7 : x10_1 < (l0.length : Int)
      ·rw [if_pos c7] at H
       have c7b0 : decide (x10_1 < (l0.length : Int)) = true := decide_eq_true c7
       clear c7
       replace H := Option.bind_eq_some_iff.mp H
       obtain ⟨⟨t293, t294, t295, t296, t299, t300⟩, A80, H⟩ := H
       replace H : ((pylonlaw05_wants.f k1 ((rd_T43 l0 x10_1).f0) ((rd_T43 l0 x10_1).f1.f0) ((rd_T43 l0 x10_1).f1.f1) ((rd_T43 l0 x10_1).f1.f2) ((rd_T43 l0 x10_1).f1.f3) ((rd_T43 l0 x10_1).f2) ((rd_T43 l0 x10_1).f3) ((rd_T43 l0 x10_1).f4.f0) ((rd_T43 l0 x10_1).f4.f1) ((rd_T43 l0 x10_1).f4.f2)).bind fun bt302 => (if (!(t293 == bt302.1) || (!(t294 == bt302.2.1) || (!(t295 == bt302.2.2.1)))) = true then (none) else (if (t299 != bt302.2.2.2.2.1) = true then (none) else (if t300 = bt302.2.2.2.2.2 then ((pylonref13_SameDates.f k1 t296 bt302.2.2.2.1).bind fun t312 => (if t312 = true then (pylonlaw05_HolidayAll.l0 k1 l0 (l0.length : Int) (wrap64 (x10_1 + 1))) else (none))) else (none))))) = some r := H
       have A8 := AX A80
       clear A80
       replace H := Option.bind_eq_some_iff.mp H
       obtain ⟨⟨t302, t303, t304, t305, t308, t309⟩, A90, H⟩ := H
       replace H : (if (!(t293 == t302) || (!(t294 == t303) || (!(t295 == t304)))) = true then (none) else (if (t299 != t308) = true then (none) else (if t300 = t309 then ((pylonref13_SameDates.f k1 t296 t305).bind fun t312 => (if t312 = true then (pylonlaw05_HolidayAll.l0 k1 l0 (l0.length : Int) (wrap64 (x10_1 + 1))) else (none))) else (none)))) = some r := H
       have A9 := AX A90
       clear A90
       by_cases c10 : (!(t293 == t302) || (!(t294 == t303) || (!(t295 == t304)))) = true
       ·rw [if_pos c10] at H
        exact absurd H (by simp)
       ·rw [if_neg c10] at H
        have c10b0 : (!(t293 == t302) || (!(t294 == t303) || (!(t295 == t304)))) = false := by simpa using c10
        clear c10
        by_cases c34 : (t299 != t308) = true
        ·rw [if_pos c34] at H
         exact absurd H (by simp)
        ·rw [if_neg c34] at H
         have c34b0 : (t299 != t308) = false := by simpa using c34
         (try (have c34b1 : decide (t299 = t308) = true := by simpa using c34))
         (try (have c34b2 : (t299 == t308) = true := by simpa using c34))
         clear c34
         by_cases c58 : t300 = t309
         ·rw [if_pos c58] at H
          have c58b0 : (t300 == t309) = true := beq_iff_eq.mpr c58
          have c58b1 : (t300 != t309) = false := bne_eq_false_iff_eq.mpr c58
          clear c58
          replace H := Option.bind_eq_some_iff.mp H
          obtain ⟨t312, A590, H⟩ := H
          replace H : (if t312 = true then (pylonlaw05_HolidayAll.l0 k1 l0 (l0.length : Int) (wrap64 (x10_1 + 1))) else (none)) = some r := H
          have A59 := AX A590
          clear A590
          by_cases c60 : t312 = true
          ·subst c60
           have H1 : (pylonlaw05_HolidayAll.l0 k1 l0 (l0.length : Int) (wrap64 (x10_1 + 1))) = some r := by rw [if_pos rfl] at H; exact H
           clear H
           have H := H1
           clear H1
           have H' := AX H
           clear H
           try go_wp2
           have n0_ := AX (below_drew1 HB.out)
           clear HB
           have HB := n0_
           clear n0_
           have p292 : 0 ≤ (x10_1 : Int) := of_decide_eq_true (by first | (with_reducible assumption) | assumption)
           have q292 : x10_1 < (l0.length : Int) := of_decide_eq_true (by first | (with_reducible assumption) | assumption)
           obtain ⟨ad292, A292_5, c292_5, e292, hx292_0, hx292_1, hx292_2, hx292_3, hx292_4, hx292_5, hx292_6, hx292_7, hx292_8, hx292_9, hl292_5, hi292_5⟩ := at_T43 HR0.out x10_1 p292 q292
           have hw292_9 := hx292_9
           have hw292_8 := hx292_8
           have hw292_7 := hx292_7
           have hw292_6 := hx292_6
           have hw292_5 := hx292_5
           have hw292_4 := hx292_4
           have hw292_3 := hx292_3
           have hw292_2 := hx292_2
           have hw292_1 := hx292_1
           have hw292_0 := hx292_0
           cases e292
           replace hx292_0 := bcl HB hx292_0
           replace hx292_1 := bcl HB hx292_1
           replace hx292_2 := bcl HB hx292_2
           replace hx292_3 := bcl HB hx292_3
           replace hx292_4 := bcl HB hx292_4
           replace hx292_5 := bcl HB hx292_5
           replace hx292_6 := bcl HB hx292_6
           replace hx292_7 := bcl HB hx292_7
           replace hx292_8 := bcl HB hx292_8
           replace hx292_9 := bcl HB hx292_9
           have HR292_5 := AX hi292_5
           have HC292_5 := AX hl292_5
           clear hi292_5 hl292_5
           replace p292 := eq_true p292
           replace q292 := eq_true q292
           have p301 : 0 ≤ (x10_1 : Int) := of_decide_eq_true (by first | (with_reducible assumption) | assumption)
           have q301 : x10_1 < (l0.length : Int) := of_decide_eq_true (by first | (with_reducible assumption) | assumption)
           obtain ⟨ad301, A301_5, c301_5, e301, hx301_0, hx301_1, hx301_2, hx301_3, hx301_4, hx301_5, hx301_6, hx301_7, hx301_8, hx301_9, hl301_5, hi301_5⟩ := at_T43 HR0.out x10_1 p301 q301
           have hw301_9 := hx301_9
           have hw301_8 := hx301_8
           have hw301_7 := hx301_7
           have hw301_6 := hx301_6
           have hw301_5 := hx301_5
           have hw301_4 := hx301_4
           have hw301_3 := hx301_3
           have hw301_2 := hx301_2
           have hw301_1 := hx301_1
           have hw301_0 := hx301_0
           obtain rfl : ad292 = ad301 := (by injection e301)
           replace hx301_0 := bcl HB hx301_0
           replace hx301_1 := bcl HB hx301_1
           replace hx301_2 := bcl HB hx301_2
           replace hx301_3 := bcl HB hx301_3
           replace hx301_4 := bcl HB hx301_4
           replace hx301_5 := bcl HB hx301_5
           replace hx301_6 := bcl HB hx301_6
           replace hx301_7 := bcl HB hx301_7
           replace hx301_8 := bcl HB hx301_8
           replace hx301_9 := bcl HB hx301_9
           have HR301_5 := AX hi301_5
           have HC301_5 := AX hl301_5
           clear hi301_5 hl301_5
           replace p301 := eq_true p301
           replace q301 := eq_true q301
           have ea_ := Option.some.inj (hx292_5.symm.trans hx301_5)
           injection ea_ with ea_ en_ ec_
           subst ea_
           subst ec_
           clear en_
           refine start_ (n := 14) (S := fun w' => w'.cell? (ad292.add ((x10_1).toNat * 10)) = some (.int .i64 ((rd_T43 l0 x10_1).f0)) ∧ w'.cell? ⟨(ad292.add ((x10_1).toNat * 10)).block, (ad292.add ((x10_1).toNat * 10)).off + 1, none⟩ = some (.int .i64 ((rd_T43 l0 x10_1).f1.f0)) ∧ w'.cell? ⟨(ad292.add ((x10_1).toNat * 10)).block, (ad292.add ((x10_1).toNat * 10)).off + 2, none⟩ = some (.int .i64 ((rd_T43 l0 x10_1).f1.f1)) ∧ w'.cell? ⟨(ad292.add ((x10_1).toNat * 10)).block, (ad292.add ((x10_1).toNat * 10)).off + 3, none⟩ = some (.int .i64 ((rd_T43 l0 x10_1).f1.f2)) ∧ w'.cell? ⟨(ad292.add ((x10_1).toNat * 10)).block, (ad292.add ((x10_1).toNat * 10)).off + 4, none⟩ = some (.int .i64 ((rd_T43 l0 x10_1).f1.f3)) ∧ w'.cell? ⟨(ad292.add ((x10_1).toNat * 10)).block, (ad292.add ((x10_1).toNat * 10)).off + 5, none⟩ = some (.slice A292_5 ((rd_T43 l0 x10_1).f2).length c292_5) ∧ w'.cell? ⟨(ad292.add ((x10_1).toNat * 10)).block, (ad292.add ((x10_1).toNat * 10)).off + 6, none⟩ = some (.int .i64 ((rd_T43 l0 x10_1).f3)) ∧ w'.cell? ⟨(ad292.add ((x10_1).toNat * 10)).block, (ad292.add ((x10_1).toNat * 10)).off + 7, none⟩ = some (.int .i64 ((rd_T43 l0 x10_1).f4.f0)) ∧ w'.cell? ⟨(ad292.add ((x10_1).toNat * 10)).block, (ad292.add ((x10_1).toNat * 10)).off + 8, none⟩ = some (.int .i64 ((rd_T43 l0 x10_1).f4.f1)) ∧ w'.cell? ⟨(ad292.add ((x10_1).toNat * 10)).block, (ad292.add ((x10_1).toNat * 10)).off + 9, none⟩ = some (.int .i64 ((rd_T43 l0 x10_1).f4.f2)) ∧ w'.cell? (ad292.add ((x10_1).toNat * 10)) = some (.int .i64 ((rd_T43 l0 x10_1).f0)) ∧ w'.cell? ⟨(ad292.add ((x10_1).toNat * 10)).block, (ad292.add ((x10_1).toNat * 10)).off + 1, none⟩ = some (.int .i64 ((rd_T43 l0 x10_1).f1.f0)) ∧ w'.cell? ⟨(ad292.add ((x10_1).toNat * 10)).block, (ad292.add ((x10_1).toNat * 10)).off + 2, none⟩ = some (.int .i64 ((rd_T43 l0 x10_1).f1.f1)) ∧ w'.cell? ⟨(ad292.add ((x10_1).toNat * 10)).block, (ad292.add ((x10_1).toNat * 10)).off + 3, none⟩ = some (.int .i64 ((rd_T43 l0 x10_1).f1.f2)) ∧ w'.cell? ⟨(ad292.add ((x10_1).toNat * 10)).block, (ad292.add ((x10_1).toNat * 10)).off + 4, none⟩ = some (.int .i64 ((rd_T43 l0 x10_1).f1.f3)) ∧ w'.cell? ⟨(ad292.add ((x10_1).toNat * 10)).block, (ad292.add ((x10_1).toNat * 10)).off + 5, none⟩ = some (.slice A292_5 ((rd_T43 l0 x10_1).f2).length c292_5) ∧ w'.cell? ⟨(ad292.add ((x10_1).toNat * 10)).block, (ad292.add ((x10_1).toNat * 10)).off + 6, none⟩ = some (.int .i64 ((rd_T43 l0 x10_1).f3)) ∧ w'.cell? ⟨(ad292.add ((x10_1).toNat * 10)).block, (ad292.add ((x10_1).toNat * 10)).off + 7, none⟩ = some (.int .i64 ((rd_T43 l0 x10_1).f4.f0)) ∧ w'.cell? ⟨(ad292.add ((x10_1).toNat * 10)).block, (ad292.add ((x10_1).toNat * 10)).off + 8, none⟩ = some (.int .i64 ((rd_T43 l0 x10_1).f4.f1)) ∧ w'.cell? ⟨(ad292.add ((x10_1).toNat * 10)).block, (ad292.add ((x10_1).toNat * 10)).off + 9, none⟩ = some (.int .i64 ((rd_T43 l0 x10_1).f4.f2))) (ds := []) pylonlaw05_HolidayAll.q0 (by kernel_rfl) rfl rfl ⟨(bcl HB hw292_0), (bcl HB hw292_1), (bcl HB hw292_2), (bcl HB hw292_3), (bcl HB hw292_4), (bcl HB hw292_5), (bcl HB hw292_6), (bcl HB hw292_7), (bcl HB hw292_8), (bcl HB hw292_9), (bcl HB hw301_0), (bcl HB hw301_1), (bcl HB hw301_2), (bcl HB hw301_3), (bcl HB hw301_4), (bcl HB hw301_5), (bcl HB hw301_6), (bcl HB hw301_7), (bcl HB hw301_8), (bcl HB hw301_9)⟩ (fun hHeld => ?_); refine with_tabW pylonlaw05_HolidayAll.tab6 pylonlaw05_HolidayAll.bits6 (fun HT_ HW_ => ?_)
           generalize wr.drew = w61 at HB HR292_5 HR301_5 hx292_0 hx292_1 hx292_2 hx292_3 hx292_4 hx292_5 hx292_6 hx292_7 hx292_8 hx292_9 hx301_0 hx301_1 hx301_2 hx301_3 hx301_4 hx301_5 hx301_6 hx301_7 hx301_8 hx301_9 hHeld ⊢
           refine pure_ (i := 0) (N := some 13) (v := ?_) (a' := ?_) pylonlaw05_HolidayAll.q1 rfl rfl (any_of HT_.out (by kernel_rfl)) (fun _ _ _ h => h) (Or.inl ⟨by rfl, ?_⟩) ?_ ?_
           rotate_left
           ·intro w'
            go_simp
            with_reducible rfl
           rotate_left
           ·simp only [Act.put, List.setIfInBounds_toArray, List.set_cons_zero, List.set_cons_succ, i64_w, i32_w]
            rfl
           refine pure_ (i := 1) (N := some 14) (v := ?_) (a' := ?_) pylonlaw05_HolidayAll.q2 rfl rfl (any_of HT_.out (by kernel_rfl)) (fun _ _ _ h => h) (Or.inl ⟨by rfl, ?_⟩) ?_ ?_
           rotate_left
           ·intro w'
            go_simp
            with_reducible rfl
           rotate_left
           ·simp only [Act.put, List.setIfInBounds_toArray, List.set_cons_zero, List.set_cons_succ, i64_w, i32_w]
            rfl
           refine pure_ (i := 2) (N := some 15) (v := ?_) (a' := ?_) pylonlaw05_HolidayAll.q3 rfl rfl (any_of HT_.out (by kernel_rfl)) (fun _ _ _ h => h) (Or.inl ⟨by rfl, ?_⟩) ?_ ?_
           rotate_left
           ·intro w'
            go_simp
            with_reducible rfl
           rotate_left
           ·simp only [Act.put, List.setIfInBounds_toArray, List.set_cons_zero, List.set_cons_succ, i64_w, i32_w]
            rfl
           refine pure_ (i := 5) (N := some 18) (v := ?_) (a' := ?_) pylonlaw05_HolidayAll.q4 rfl rfl (any_of HT_.out (by kernel_rfl)) (fun _ _ _ h => h) (Or.inl ⟨by rfl, ?_⟩) ?_ ?_
           rotate_left
           ·intro w'
            go_simp
            with_reducible rfl
           rotate_left
           ·simp only [Act.put, List.setIfInBounds_toArray, List.set_cons_zero, List.set_cons_succ, i64_w, i32_w]
            rfl
           refine pure_ (i := 6) (N := some 19) (v := ?_) (a' := ?_) pylonlaw05_HolidayAll.q5 rfl rfl (any_of HT_.out (by kernel_rfl)) (fun _ _ _ h => h) (Or.inl ⟨by rfl, ?_⟩) ?_ ?_
           rotate_left
           ·intro w'
            go_simp
            with_reducible rfl
           rotate_left
           ·simp only [Act.put, List.setIfInBounds_toArray, List.set_cons_zero, List.set_cons_succ, i64_w, i32_w]
            rfl
           refine pure_ (i := 7) (N := some 20) (v := ?_) (a' := ?_) pylonlaw05_HolidayAll.q6 rfl rfl (any_of HT_.out (by kernel_rfl)) (fun _ _ _ h => h) (Or.inl ⟨by rfl, ?_⟩) ?_ ?_
           rotate_left
           ·intro w'
            go_simp
            with_reducible rfl
           rotate_left
           ·simp only [Act.put, List.setIfInBounds_toArray, List.set_cons_zero, List.set_cons_succ, i64_w, i32_w]
            rfl
           refine take_ (i := 3) (N := some 16) (v := ?_) (a' := ?_) pylonlaw05_HolidayAll.q7 rfl rfl (take_ofW HT_.out HW_.out (by kernel_rfl)) (fun _ _ _ h => h) (Or.inl ⟨by rfl, ?_⟩) hHeld ?_ ?_
           rotate_left
           ·rintro w' ⟨s0, s1, s2, s3, s4, s5, s6, s7, s8, s9, s10, s11, s12, s13, s14, s15, s16, s17, s18, s19⟩
            go_simp
            with_reducible rfl
           rotate_left
           ·simp only [Act.put, List.setIfInBounds_toArray, List.set_cons_zero, List.set_cons_succ, i64_w, i32_w]
            rfl
           refine take_ (i := 8) (N := some 21) (v := ?_) (a' := ?_) pylonlaw05_HolidayAll.q8 rfl rfl (take_ofW HT_.out HW_.out (by kernel_rfl)) (fun _ _ _ h => h) (Or.inl ⟨by rfl, ?_⟩) hHeld ?_ ?_
           rotate_left
           ·rintro w' ⟨s0, s1, s2, s3, s4, s5, s6, s7, s8, s9, s10, s11, s12, s13, s14, s15, s16, s17, s18, s19⟩
            go_simp
            with_reducible rfl
           rotate_left
           ·simp only [Act.put, List.setIfInBounds_toArray, List.set_cons_zero, List.set_cons_succ, i64_w, i32_w]
            rfl
           refine join_ (σ := Value × Value × Nat × Nat) 2 pylonlaw05_HolidayAll.q9 (fun s_ => [(17, .agg #[.int .i64 t293, .int .i64 t294, .int .i64 t295, s_.1, .bool t299, .int .i64 t300]), (22, .agg #[.int .i64 t302, .int .i64 t303, .int .i64 t304, s_.2.1, .bool t308, .int .i64 t309]), (4, .pointer (some ⟨s_.2.2.1, 0, none⟩)), (5, .pointer (some ⟨s_.2.2.2, 0, none⟩))]) (fun s_ w' => (w'.cell? (ad292.add ((x10_1).toNat * 10)) = some (.int .i64 ((rd_T43 l0 x10_1).f0)) ∧ w'.cell? ⟨(ad292.add ((x10_1).toNat * 10)).block, (ad292.add ((x10_1).toNat * 10)).off + 1, none⟩ = some (.int .i64 ((rd_T43 l0 x10_1).f1.f0)) ∧ w'.cell? ⟨(ad292.add ((x10_1).toNat * 10)).block, (ad292.add ((x10_1).toNat * 10)).off + 2, none⟩ = some (.int .i64 ((rd_T43 l0 x10_1).f1.f1)) ∧ w'.cell? ⟨(ad292.add ((x10_1).toNat * 10)).block, (ad292.add ((x10_1).toNat * 10)).off + 3, none⟩ = some (.int .i64 ((rd_T43 l0 x10_1).f1.f2)) ∧ w'.cell? ⟨(ad292.add ((x10_1).toNat * 10)).block, (ad292.add ((x10_1).toNat * 10)).off + 4, none⟩ = some (.int .i64 ((rd_T43 l0 x10_1).f1.f3)) ∧ w'.cell? ⟨(ad292.add ((x10_1).toNat * 10)).block, (ad292.add ((x10_1).toNat * 10)).off + 5, none⟩ = some (.slice A292_5 ((rd_T43 l0 x10_1).f2).length c292_5) ∧ w'.cell? ⟨(ad292.add ((x10_1).toNat * 10)).block, (ad292.add ((x10_1).toNat * 10)).off + 6, none⟩ = some (.int .i64 ((rd_T43 l0 x10_1).f3)) ∧ w'.cell? ⟨(ad292.add ((x10_1).toNat * 10)).block, (ad292.add ((x10_1).toNat * 10)).off + 7, none⟩ = some (.int .i64 ((rd_T43 l0 x10_1).f4.f0)) ∧ w'.cell? ⟨(ad292.add ((x10_1).toNat * 10)).block, (ad292.add ((x10_1).toNat * 10)).off + 8, none⟩ = some (.int .i64 ((rd_T43 l0 x10_1).f4.f1)) ∧ w'.cell? ⟨(ad292.add ((x10_1).toNat * 10)).block, (ad292.add ((x10_1).toNat * 10)).off + 9, none⟩ = some (.int .i64 ((rd_T43 l0 x10_1).f4.f2)) ∧ w'.cell? (ad292.add ((x10_1).toNat * 10)) = some (.int .i64 ((rd_T43 l0 x10_1).f0)) ∧ w'.cell? ⟨(ad292.add ((x10_1).toNat * 10)).block, (ad292.add ((x10_1).toNat * 10)).off + 1, none⟩ = some (.int .i64 ((rd_T43 l0 x10_1).f1.f0)) ∧ w'.cell? ⟨(ad292.add ((x10_1).toNat * 10)).block, (ad292.add ((x10_1).toNat * 10)).off + 2, none⟩ = some (.int .i64 ((rd_T43 l0 x10_1).f1.f1)) ∧ w'.cell? ⟨(ad292.add ((x10_1).toNat * 10)).block, (ad292.add ((x10_1).toNat * 10)).off + 3, none⟩ = some (.int .i64 ((rd_T43 l0 x10_1).f1.f2)) ∧ w'.cell? ⟨(ad292.add ((x10_1).toNat * 10)).block, (ad292.add ((x10_1).toNat * 10)).off + 4, none⟩ = some (.int .i64 ((rd_T43 l0 x10_1).f1.f3)) ∧ w'.cell? ⟨(ad292.add ((x10_1).toNat * 10)).block, (ad292.add ((x10_1).toNat * 10)).off + 5, none⟩ = some (.slice A292_5 ((rd_T43 l0 x10_1).f2).length c292_5) ∧ w'.cell? ⟨(ad292.add ((x10_1).toNat * 10)).block, (ad292.add ((x10_1).toNat * 10)).off + 6, none⟩ = some (.int .i64 ((rd_T43 l0 x10_1).f3)) ∧ w'.cell? ⟨(ad292.add ((x10_1).toNat * 10)).block, (ad292.add ((x10_1).toNat * 10)).off + 7, none⟩ = some (.int .i64 ((rd_T43 l0 x10_1).f4.f0)) ∧ w'.cell? ⟨(ad292.add ((x10_1).toNat * 10)).block, (ad292.add ((x10_1).toNat * 10)).off + 8, none⟩ = some (.int .i64 ((rd_T43 l0 x10_1).f4.f1)) ∧ w'.cell? ⟨(ad292.add ((x10_1).toNat * 10)).block, (ad292.add ((x10_1).toNat * 10)).off + 9, none⟩ = some (.int .i64 ((rd_T43 l0 x10_1).f4.f2))) ∧ (Kd.R k33 33 w' w.heap.size (fun k_ => some k_ ≠ (s_.2.1 : Value).ownBlock) s_.1 t296) ∧ (Kd.R k33 33 w' w.heap.size (fun k_ => some k_ ≠ (s_.1 : Value).ownBlock) s_.2.1 t305) ∧ (w'.heap[s_.2.2.1]? = some (.cells #[.int .i64 0, .int .i64 0, .int .i64 0, .slice none 0 0, .bool false, .int .i64 0] 40 (0, 0))) ∧ (w'.heap[s_.2.2.2]? = some (.cells #[.int .i64 0, .int .i64 0, .int .i64 0, .slice none 0 0, .bool false, .int .i64 0] 40 (0, 0))) ∧ (w.heap.size ≤ s_.2.2.1) ∧ (w.heap.size ≤ s_.2.2.1) ∧ (s_.2.2.2 ≠ s_.2.2.1) ∧ (s_.2.2.1 ≠ s_.2.2.2) ∧ (w.heap.size ≤ s_.2.2.2) ∧ (w.heap.size ≤ s_.2.2.2) ∧ (Below w.heap.size w w')) ?_ ?_
           rotate_left
           ·intro hJ4_9_10_11
            refine join_ (σ := Value × Value × Nat) 3 pylonlaw05_HolidayAll.q10 (fun s_ => [(17, .agg #[.int .i64 t293, .int .i64 t294, .int .i64 t295, s_.1, .bool t299, .int .i64 t300]), (22, .agg #[.int .i64 t302, .int .i64 t303, .int .i64 t304, s_.2.1, .bool t308, .int .i64 t309]), (4, .pointer (some ⟨s_.2.2, 0, none⟩))]) (fun s_ w' => (w'.cell? (ad292.add ((x10_1).toNat * 10)) = some (.int .i64 ((rd_T43 l0 x10_1).f0)) ∧ w'.cell? ⟨(ad292.add ((x10_1).toNat * 10)).block, (ad292.add ((x10_1).toNat * 10)).off + 1, none⟩ = some (.int .i64 ((rd_T43 l0 x10_1).f1.f0)) ∧ w'.cell? ⟨(ad292.add ((x10_1).toNat * 10)).block, (ad292.add ((x10_1).toNat * 10)).off + 2, none⟩ = some (.int .i64 ((rd_T43 l0 x10_1).f1.f1)) ∧ w'.cell? ⟨(ad292.add ((x10_1).toNat * 10)).block, (ad292.add ((x10_1).toNat * 10)).off + 3, none⟩ = some (.int .i64 ((rd_T43 l0 x10_1).f1.f2)) ∧ w'.cell? ⟨(ad292.add ((x10_1).toNat * 10)).block, (ad292.add ((x10_1).toNat * 10)).off + 4, none⟩ = some (.int .i64 ((rd_T43 l0 x10_1).f1.f3)) ∧ w'.cell? ⟨(ad292.add ((x10_1).toNat * 10)).block, (ad292.add ((x10_1).toNat * 10)).off + 5, none⟩ = some (.slice A292_5 ((rd_T43 l0 x10_1).f2).length c292_5) ∧ w'.cell? ⟨(ad292.add ((x10_1).toNat * 10)).block, (ad292.add ((x10_1).toNat * 10)).off + 6, none⟩ = some (.int .i64 ((rd_T43 l0 x10_1).f3)) ∧ w'.cell? ⟨(ad292.add ((x10_1).toNat * 10)).block, (ad292.add ((x10_1).toNat * 10)).off + 7, none⟩ = some (.int .i64 ((rd_T43 l0 x10_1).f4.f0)) ∧ w'.cell? ⟨(ad292.add ((x10_1).toNat * 10)).block, (ad292.add ((x10_1).toNat * 10)).off + 8, none⟩ = some (.int .i64 ((rd_T43 l0 x10_1).f4.f1)) ∧ w'.cell? ⟨(ad292.add ((x10_1).toNat * 10)).block, (ad292.add ((x10_1).toNat * 10)).off + 9, none⟩ = some (.int .i64 ((rd_T43 l0 x10_1).f4.f2)) ∧ w'.cell? (ad292.add ((x10_1).toNat * 10)) = some (.int .i64 ((rd_T43 l0 x10_1).f0)) ∧ w'.cell? ⟨(ad292.add ((x10_1).toNat * 10)).block, (ad292.add ((x10_1).toNat * 10)).off + 1, none⟩ = some (.int .i64 ((rd_T43 l0 x10_1).f1.f0)) ∧ w'.cell? ⟨(ad292.add ((x10_1).toNat * 10)).block, (ad292.add ((x10_1).toNat * 10)).off + 2, none⟩ = some (.int .i64 ((rd_T43 l0 x10_1).f1.f1)) ∧ w'.cell? ⟨(ad292.add ((x10_1).toNat * 10)).block, (ad292.add ((x10_1).toNat * 10)).off + 3, none⟩ = some (.int .i64 ((rd_T43 l0 x10_1).f1.f2)) ∧ w'.cell? ⟨(ad292.add ((x10_1).toNat * 10)).block, (ad292.add ((x10_1).toNat * 10)).off + 4, none⟩ = some (.int .i64 ((rd_T43 l0 x10_1).f1.f3)) ∧ w'.cell? ⟨(ad292.add ((x10_1).toNat * 10)).block, (ad292.add ((x10_1).toNat * 10)).off + 5, none⟩ = some (.slice A292_5 ((rd_T43 l0 x10_1).f2).length c292_5) ∧ w'.cell? ⟨(ad292.add ((x10_1).toNat * 10)).block, (ad292.add ((x10_1).toNat * 10)).off + 6, none⟩ = some (.int .i64 ((rd_T43 l0 x10_1).f3)) ∧ w'.cell? ⟨(ad292.add ((x10_1).toNat * 10)).block, (ad292.add ((x10_1).toNat * 10)).off + 7, none⟩ = some (.int .i64 ((rd_T43 l0 x10_1).f4.f0)) ∧ w'.cell? ⟨(ad292.add ((x10_1).toNat * 10)).block, (ad292.add ((x10_1).toNat * 10)).off + 8, none⟩ = some (.int .i64 ((rd_T43 l0 x10_1).f4.f1)) ∧ w'.cell? ⟨(ad292.add ((x10_1).toNat * 10)).block, (ad292.add ((x10_1).toNat * 10)).off + 9, none⟩ = some (.int .i64 ((rd_T43 l0 x10_1).f4.f2))) ∧ (Kd.R k33 33 w' w.heap.size (fun k_ => some k_ ≠ (s_.2.1 : Value).ownBlock) s_.1 t296) ∧ (Kd.R k33 33 w' w.heap.size (fun k_ => some k_ ≠ (s_.1 : Value).ownBlock) s_.2.1 t305) ∧ (w'.heap[s_.2.2]? = some (.cells #[.int .i64 0, .int .i64 0, .int .i64 0, .slice none 0 0, .bool false, .int .i64 0] 40 (0, 0))) ∧ (w.heap.size ≤ s_.2.2) ∧ (w.heap.size ≤ s_.2.2) ∧ (Below w.heap.size w w')) ?_ ?_
            rotate_left
            ·intro hJ4_9_10
             refine join_ (σ := Value × Value × Nat) 3 pylonlaw05_HolidayAll.q11 (fun s_ => [(17, .agg #[.int .i64 t293, .int .i64 t294, .int .i64 t295, s_.1, .bool t299, .int .i64 t300]), (22, .agg #[.int .i64 t302, .int .i64 t303, .int .i64 t304, s_.2.1, .bool t308, .int .i64 t309]), (5, .pointer (some ⟨s_.2.2, 0, none⟩))]) (fun s_ w' => (w'.cell? (ad292.add ((x10_1).toNat * 10)) = some (.int .i64 ((rd_T43 l0 x10_1).f0)) ∧ w'.cell? ⟨(ad292.add ((x10_1).toNat * 10)).block, (ad292.add ((x10_1).toNat * 10)).off + 1, none⟩ = some (.int .i64 ((rd_T43 l0 x10_1).f1.f0)) ∧ w'.cell? ⟨(ad292.add ((x10_1).toNat * 10)).block, (ad292.add ((x10_1).toNat * 10)).off + 2, none⟩ = some (.int .i64 ((rd_T43 l0 x10_1).f1.f1)) ∧ w'.cell? ⟨(ad292.add ((x10_1).toNat * 10)).block, (ad292.add ((x10_1).toNat * 10)).off + 3, none⟩ = some (.int .i64 ((rd_T43 l0 x10_1).f1.f2)) ∧ w'.cell? ⟨(ad292.add ((x10_1).toNat * 10)).block, (ad292.add ((x10_1).toNat * 10)).off + 4, none⟩ = some (.int .i64 ((rd_T43 l0 x10_1).f1.f3)) ∧ w'.cell? ⟨(ad292.add ((x10_1).toNat * 10)).block, (ad292.add ((x10_1).toNat * 10)).off + 5, none⟩ = some (.slice A292_5 ((rd_T43 l0 x10_1).f2).length c292_5) ∧ w'.cell? ⟨(ad292.add ((x10_1).toNat * 10)).block, (ad292.add ((x10_1).toNat * 10)).off + 6, none⟩ = some (.int .i64 ((rd_T43 l0 x10_1).f3)) ∧ w'.cell? ⟨(ad292.add ((x10_1).toNat * 10)).block, (ad292.add ((x10_1).toNat * 10)).off + 7, none⟩ = some (.int .i64 ((rd_T43 l0 x10_1).f4.f0)) ∧ w'.cell? ⟨(ad292.add ((x10_1).toNat * 10)).block, (ad292.add ((x10_1).toNat * 10)).off + 8, none⟩ = some (.int .i64 ((rd_T43 l0 x10_1).f4.f1)) ∧ w'.cell? ⟨(ad292.add ((x10_1).toNat * 10)).block, (ad292.add ((x10_1).toNat * 10)).off + 9, none⟩ = some (.int .i64 ((rd_T43 l0 x10_1).f4.f2)) ∧ w'.cell? (ad292.add ((x10_1).toNat * 10)) = some (.int .i64 ((rd_T43 l0 x10_1).f0)) ∧ w'.cell? ⟨(ad292.add ((x10_1).toNat * 10)).block, (ad292.add ((x10_1).toNat * 10)).off + 1, none⟩ = some (.int .i64 ((rd_T43 l0 x10_1).f1.f0)) ∧ w'.cell? ⟨(ad292.add ((x10_1).toNat * 10)).block, (ad292.add ((x10_1).toNat * 10)).off + 2, none⟩ = some (.int .i64 ((rd_T43 l0 x10_1).f1.f1)) ∧ w'.cell? ⟨(ad292.add ((x10_1).toNat * 10)).block, (ad292.add ((x10_1).toNat * 10)).off + 3, none⟩ = some (.int .i64 ((rd_T43 l0 x10_1).f1.f2)) ∧ w'.cell? ⟨(ad292.add ((x10_1).toNat * 10)).block, (ad292.add ((x10_1).toNat * 10)).off + 4, none⟩ = some (.int .i64 ((rd_T43 l0 x10_1).f1.f3)) ∧ w'.cell? ⟨(ad292.add ((x10_1).toNat * 10)).block, (ad292.add ((x10_1).toNat * 10)).off + 5, none⟩ = some (.slice A292_5 ((rd_T43 l0 x10_1).f2).length c292_5) ∧ w'.cell? ⟨(ad292.add ((x10_1).toNat * 10)).block, (ad292.add ((x10_1).toNat * 10)).off + 6, none⟩ = some (.int .i64 ((rd_T43 l0 x10_1).f3)) ∧ w'.cell? ⟨(ad292.add ((x10_1).toNat * 10)).block, (ad292.add ((x10_1).toNat * 10)).off + 7, none⟩ = some (.int .i64 ((rd_T43 l0 x10_1).f4.f0)) ∧ w'.cell? ⟨(ad292.add ((x10_1).toNat * 10)).block, (ad292.add ((x10_1).toNat * 10)).off + 8, none⟩ = some (.int .i64 ((rd_T43 l0 x10_1).f4.f1)) ∧ w'.cell? ⟨(ad292.add ((x10_1).toNat * 10)).block, (ad292.add ((x10_1).toNat * 10)).off + 9, none⟩ = some (.int .i64 ((rd_T43 l0 x10_1).f4.f2))) ∧ (Kd.R k33 33 w' w.heap.size (fun k_ => some k_ ≠ (s_.2.1 : Value).ownBlock) s_.1 t296) ∧ (Kd.R k33 33 w' w.heap.size (fun k_ => some k_ ≠ (s_.1 : Value).ownBlock) s_.2.1 t305) ∧ (w'.heap[s_.2.2]? = some (.cells #[.int .i64 0, .int .i64 0, .int .i64 0, .slice none 0 0, .bool false, .int .i64 0] 40 (0, 0))) ∧ (w.heap.size ≤ s_.2.2) ∧ (w.heap.size ≤ s_.2.2) ∧ (Below w.heap.size w w')) ?_ ?_
             rotate_left
             ·intro hJ4_9_11
              refine join_ (σ := Value × Nat × Nat) 3 pylonlaw05_HolidayAll.q12 (fun s_ => [(17, .agg #[.int .i64 t293, .int .i64 t294, .int .i64 t295, s_.1, .bool t299, .int .i64 t300]), (4, .pointer (some ⟨s_.2.1, 0, none⟩)), (5, .pointer (some ⟨s_.2.2, 0, none⟩))]) (fun s_ w' => (w'.cell? (ad292.add ((x10_1).toNat * 10)) = some (.int .i64 ((rd_T43 l0 x10_1).f0)) ∧ w'.cell? ⟨(ad292.add ((x10_1).toNat * 10)).block, (ad292.add ((x10_1).toNat * 10)).off + 1, none⟩ = some (.int .i64 ((rd_T43 l0 x10_1).f1.f0)) ∧ w'.cell? ⟨(ad292.add ((x10_1).toNat * 10)).block, (ad292.add ((x10_1).toNat * 10)).off + 2, none⟩ = some (.int .i64 ((rd_T43 l0 x10_1).f1.f1)) ∧ w'.cell? ⟨(ad292.add ((x10_1).toNat * 10)).block, (ad292.add ((x10_1).toNat * 10)).off + 3, none⟩ = some (.int .i64 ((rd_T43 l0 x10_1).f1.f2)) ∧ w'.cell? ⟨(ad292.add ((x10_1).toNat * 10)).block, (ad292.add ((x10_1).toNat * 10)).off + 4, none⟩ = some (.int .i64 ((rd_T43 l0 x10_1).f1.f3)) ∧ w'.cell? ⟨(ad292.add ((x10_1).toNat * 10)).block, (ad292.add ((x10_1).toNat * 10)).off + 5, none⟩ = some (.slice A292_5 ((rd_T43 l0 x10_1).f2).length c292_5) ∧ w'.cell? ⟨(ad292.add ((x10_1).toNat * 10)).block, (ad292.add ((x10_1).toNat * 10)).off + 6, none⟩ = some (.int .i64 ((rd_T43 l0 x10_1).f3)) ∧ w'.cell? ⟨(ad292.add ((x10_1).toNat * 10)).block, (ad292.add ((x10_1).toNat * 10)).off + 7, none⟩ = some (.int .i64 ((rd_T43 l0 x10_1).f4.f0)) ∧ w'.cell? ⟨(ad292.add ((x10_1).toNat * 10)).block, (ad292.add ((x10_1).toNat * 10)).off + 8, none⟩ = some (.int .i64 ((rd_T43 l0 x10_1).f4.f1)) ∧ w'.cell? ⟨(ad292.add ((x10_1).toNat * 10)).block, (ad292.add ((x10_1).toNat * 10)).off + 9, none⟩ = some (.int .i64 ((rd_T43 l0 x10_1).f4.f2)) ∧ w'.cell? (ad292.add ((x10_1).toNat * 10)) = some (.int .i64 ((rd_T43 l0 x10_1).f0)) ∧ w'.cell? ⟨(ad292.add ((x10_1).toNat * 10)).block, (ad292.add ((x10_1).toNat * 10)).off + 1, none⟩ = some (.int .i64 ((rd_T43 l0 x10_1).f1.f0)) ∧ w'.cell? ⟨(ad292.add ((x10_1).toNat * 10)).block, (ad292.add ((x10_1).toNat * 10)).off + 2, none⟩ = some (.int .i64 ((rd_T43 l0 x10_1).f1.f1)) ∧ w'.cell? ⟨(ad292.add ((x10_1).toNat * 10)).block, (ad292.add ((x10_1).toNat * 10)).off + 3, none⟩ = some (.int .i64 ((rd_T43 l0 x10_1).f1.f2)) ∧ w'.cell? ⟨(ad292.add ((x10_1).toNat * 10)).block, (ad292.add ((x10_1).toNat * 10)).off + 4, none⟩ = some (.int .i64 ((rd_T43 l0 x10_1).f1.f3)) ∧ w'.cell? ⟨(ad292.add ((x10_1).toNat * 10)).block, (ad292.add ((x10_1).toNat * 10)).off + 5, none⟩ = some (.slice A292_5 ((rd_T43 l0 x10_1).f2).length c292_5) ∧ w'.cell? ⟨(ad292.add ((x10_1).toNat * 10)).block, (ad292.add ((x10_1).toNat * 10)).off + 6, none⟩ = some (.int .i64 ((rd_T43 l0 x10_1).f3)) ∧ w'.cell? ⟨(ad292.add ((x10_1).toNat * 10)).block, (ad292.add ((x10_1).toNat * 10)).off + 7, none⟩ = some (.int .i64 ((rd_T43 l0 x10_1).f4.f0)) ∧ w'.cell? ⟨(ad292.add ((x10_1).toNat * 10)).block, (ad292.add ((x10_1).toNat * 10)).off + 8, none⟩ = some (.int .i64 ((rd_T43 l0 x10_1).f4.f1)) ∧ w'.cell? ⟨(ad292.add ((x10_1).toNat * 10)).block, (ad292.add ((x10_1).toNat * 10)).off + 9, none⟩ = some (.int .i64 ((rd_T43 l0 x10_1).f4.f2))) ∧ (Kd.R k33 33 w' w.heap.size (fun _ => True) s_.1 t296) ∧ (w'.heap[s_.2.1]? = some (.cells #[.int .i64 0, .int .i64 0, .int .i64 0, .slice none 0 0, .bool false, .int .i64 0] 40 (0, 0))) ∧ (w'.heap[s_.2.2]? = some (.cells #[.int .i64 0, .int .i64 0, .int .i64 0, .slice none 0 0, .bool false, .int .i64 0] 40 (0, 0))) ∧ (w.heap.size ≤ s_.2.1) ∧ (w.heap.size ≤ s_.2.1) ∧ (s_.2.2 ≠ s_.2.1) ∧ (s_.2.1 ≠ s_.2.2) ∧ (w.heap.size ≤ s_.2.2) ∧ (w.heap.size ≤ s_.2.2) ∧ (Below w.heap.size w w')) ?_ ?_
              rotate_left
              ·intro hJ4_10_11
               refine join_ (σ := Value × Value) 4 pylonlaw05_HolidayAll.q13 (fun s_ => [(17, .agg #[.int .i64 t293, .int .i64 t294, .int .i64 t295, s_.1, .bool t299, .int .i64 t300]), (22, .agg #[.int .i64 t302, .int .i64 t303, .int .i64 t304, s_.2, .bool t308, .int .i64 t309])]) (fun s_ w' => (w'.cell? (ad292.add ((x10_1).toNat * 10)) = some (.int .i64 ((rd_T43 l0 x10_1).f0)) ∧ w'.cell? ⟨(ad292.add ((x10_1).toNat * 10)).block, (ad292.add ((x10_1).toNat * 10)).off + 1, none⟩ = some (.int .i64 ((rd_T43 l0 x10_1).f1.f0)) ∧ w'.cell? ⟨(ad292.add ((x10_1).toNat * 10)).block, (ad292.add ((x10_1).toNat * 10)).off + 2, none⟩ = some (.int .i64 ((rd_T43 l0 x10_1).f1.f1)) ∧ w'.cell? ⟨(ad292.add ((x10_1).toNat * 10)).block, (ad292.add ((x10_1).toNat * 10)).off + 3, none⟩ = some (.int .i64 ((rd_T43 l0 x10_1).f1.f2)) ∧ w'.cell? ⟨(ad292.add ((x10_1).toNat * 10)).block, (ad292.add ((x10_1).toNat * 10)).off + 4, none⟩ = some (.int .i64 ((rd_T43 l0 x10_1).f1.f3)) ∧ w'.cell? ⟨(ad292.add ((x10_1).toNat * 10)).block, (ad292.add ((x10_1).toNat * 10)).off + 5, none⟩ = some (.slice A292_5 ((rd_T43 l0 x10_1).f2).length c292_5) ∧ w'.cell? ⟨(ad292.add ((x10_1).toNat * 10)).block, (ad292.add ((x10_1).toNat * 10)).off + 6, none⟩ = some (.int .i64 ((rd_T43 l0 x10_1).f3)) ∧ w'.cell? ⟨(ad292.add ((x10_1).toNat * 10)).block, (ad292.add ((x10_1).toNat * 10)).off + 7, none⟩ = some (.int .i64 ((rd_T43 l0 x10_1).f4.f0)) ∧ w'.cell? ⟨(ad292.add ((x10_1).toNat * 10)).block, (ad292.add ((x10_1).toNat * 10)).off + 8, none⟩ = some (.int .i64 ((rd_T43 l0 x10_1).f4.f1)) ∧ w'.cell? ⟨(ad292.add ((x10_1).toNat * 10)).block, (ad292.add ((x10_1).toNat * 10)).off + 9, none⟩ = some (.int .i64 ((rd_T43 l0 x10_1).f4.f2)) ∧ w'.cell? (ad292.add ((x10_1).toNat * 10)) = some (.int .i64 ((rd_T43 l0 x10_1).f0)) ∧ w'.cell? ⟨(ad292.add ((x10_1).toNat * 10)).block, (ad292.add ((x10_1).toNat * 10)).off + 1, none⟩ = some (.int .i64 ((rd_T43 l0 x10_1).f1.f0)) ∧ w'.cell? ⟨(ad292.add ((x10_1).toNat * 10)).block, (ad292.add ((x10_1).toNat * 10)).off + 2, none⟩ = some (.int .i64 ((rd_T43 l0 x10_1).f1.f1)) ∧ w'.cell? ⟨(ad292.add ((x10_1).toNat * 10)).block, (ad292.add ((x10_1).toNat * 10)).off + 3, none⟩ = some (.int .i64 ((rd_T43 l0 x10_1).f1.f2)) ∧ w'.cell? ⟨(ad292.add ((x10_1).toNat * 10)).block, (ad292.add ((x10_1).toNat * 10)).off + 4, none⟩ = some (.int .i64 ((rd_T43 l0 x10_1).f1.f3)) ∧ w'.cell? ⟨(ad292.add ((x10_1).toNat * 10)).block, (ad292.add ((x10_1).toNat * 10)).off + 5, none⟩ = some (.slice A292_5 ((rd_T43 l0 x10_1).f2).length c292_5) ∧ w'.cell? ⟨(ad292.add ((x10_1).toNat * 10)).block, (ad292.add ((x10_1).toNat * 10)).off + 6, none⟩ = some (.int .i64 ((rd_T43 l0 x10_1).f3)) ∧ w'.cell? ⟨(ad292.add ((x10_1).toNat * 10)).block, (ad292.add ((x10_1).toNat * 10)).off + 7, none⟩ = some (.int .i64 ((rd_T43 l0 x10_1).f4.f0)) ∧ w'.cell? ⟨(ad292.add ((x10_1).toNat * 10)).block, (ad292.add ((x10_1).toNat * 10)).off + 8, none⟩ = some (.int .i64 ((rd_T43 l0 x10_1).f4.f1)) ∧ w'.cell? ⟨(ad292.add ((x10_1).toNat * 10)).block, (ad292.add ((x10_1).toNat * 10)).off + 9, none⟩ = some (.int .i64 ((rd_T43 l0 x10_1).f4.f2))) ∧ (Kd.R k33 33 w' w.heap.size (fun k_ => some k_ ≠ (s_.2 : Value).ownBlock) s_.1 t296) ∧ (Kd.R k33 33 w' w.heap.size (fun k_ => some k_ ≠ (s_.1 : Value).ownBlock) s_.2 t305) ∧ (Below w.heap.size w w')) ?_ ?_
               rotate_left
               ·intro hJ4_9
                refine join_ (σ := Value × Nat) 4 pylonlaw05_HolidayAll.q14 (fun s_ => [(17, .agg #[.int .i64 t293, .int .i64 t294, .int .i64 t295, s_.1, .bool t299, .int .i64 t300]), (4, .pointer (some ⟨s_.2, 0, none⟩))]) (fun s_ w' => (w'.cell? (ad292.add ((x10_1).toNat * 10)) = some (.int .i64 ((rd_T43 l0 x10_1).f0)) ∧ w'.cell? ⟨(ad292.add ((x10_1).toNat * 10)).block, (ad292.add ((x10_1).toNat * 10)).off + 1, none⟩ = some (.int .i64 ((rd_T43 l0 x10_1).f1.f0)) ∧ w'.cell? ⟨(ad292.add ((x10_1).toNat * 10)).block, (ad292.add ((x10_1).toNat * 10)).off + 2, none⟩ = some (.int .i64 ((rd_T43 l0 x10_1).f1.f1)) ∧ w'.cell? ⟨(ad292.add ((x10_1).toNat * 10)).block, (ad292.add ((x10_1).toNat * 10)).off + 3, none⟩ = some (.int .i64 ((rd_T43 l0 x10_1).f1.f2)) ∧ w'.cell? ⟨(ad292.add ((x10_1).toNat * 10)).block, (ad292.add ((x10_1).toNat * 10)).off + 4, none⟩ = some (.int .i64 ((rd_T43 l0 x10_1).f1.f3)) ∧ w'.cell? ⟨(ad292.add ((x10_1).toNat * 10)).block, (ad292.add ((x10_1).toNat * 10)).off + 5, none⟩ = some (.slice A292_5 ((rd_T43 l0 x10_1).f2).length c292_5) ∧ w'.cell? ⟨(ad292.add ((x10_1).toNat * 10)).block, (ad292.add ((x10_1).toNat * 10)).off + 6, none⟩ = some (.int .i64 ((rd_T43 l0 x10_1).f3)) ∧ w'.cell? ⟨(ad292.add ((x10_1).toNat * 10)).block, (ad292.add ((x10_1).toNat * 10)).off + 7, none⟩ = some (.int .i64 ((rd_T43 l0 x10_1).f4.f0)) ∧ w'.cell? ⟨(ad292.add ((x10_1).toNat * 10)).block, (ad292.add ((x10_1).toNat * 10)).off + 8, none⟩ = some (.int .i64 ((rd_T43 l0 x10_1).f4.f1)) ∧ w'.cell? ⟨(ad292.add ((x10_1).toNat * 10)).block, (ad292.add ((x10_1).toNat * 10)).off + 9, none⟩ = some (.int .i64 ((rd_T43 l0 x10_1).f4.f2)) ∧ w'.cell? (ad292.add ((x10_1).toNat * 10)) = some (.int .i64 ((rd_T43 l0 x10_1).f0)) ∧ w'.cell? ⟨(ad292.add ((x10_1).toNat * 10)).block, (ad292.add ((x10_1).toNat * 10)).off + 1, none⟩ = some (.int .i64 ((rd_T43 l0 x10_1).f1.f0)) ∧ w'.cell? ⟨(ad292.add ((x10_1).toNat * 10)).block, (ad292.add ((x10_1).toNat * 10)).off + 2, none⟩ = some (.int .i64 ((rd_T43 l0 x10_1).f1.f1)) ∧ w'.cell? ⟨(ad292.add ((x10_1).toNat * 10)).block, (ad292.add ((x10_1).toNat * 10)).off + 3, none⟩ = some (.int .i64 ((rd_T43 l0 x10_1).f1.f2)) ∧ w'.cell? ⟨(ad292.add ((x10_1).toNat * 10)).block, (ad292.add ((x10_1).toNat * 10)).off + 4, none⟩ = some (.int .i64 ((rd_T43 l0 x10_1).f1.f3)) ∧ w'.cell? ⟨(ad292.add ((x10_1).toNat * 10)).block, (ad292.add ((x10_1).toNat * 10)).off + 5, none⟩ = some (.slice A292_5 ((rd_T43 l0 x10_1).f2).length c292_5) ∧ w'.cell? ⟨(ad292.add ((x10_1).toNat * 10)).block, (ad292.add ((x10_1).toNat * 10)).off + 6, none⟩ = some (.int .i64 ((rd_T43 l0 x10_1).f3)) ∧ w'.cell? ⟨(ad292.add ((x10_1).toNat * 10)).block, (ad292.add ((x10_1).toNat * 10)).off + 7, none⟩ = some (.int .i64 ((rd_T43 l0 x10_1).f4.f0)) ∧ w'.cell? ⟨(ad292.add ((x10_1).toNat * 10)).block, (ad292.add ((x10_1).toNat * 10)).off + 8, none⟩ = some (.int .i64 ((rd_T43 l0 x10_1).f4.f1)) ∧ w'.cell? ⟨(ad292.add ((x10_1).toNat * 10)).block, (ad292.add ((x10_1).toNat * 10)).off + 9, none⟩ = some (.int .i64 ((rd_T43 l0 x10_1).f4.f2))) ∧ (Kd.R k33 33 w' w.heap.size (fun _ => True) s_.1 t296) ∧ (w'.heap[s_.2]? = some (.cells #[.int .i64 0, .int .i64 0, .int .i64 0, .slice none 0 0, .bool false, .int .i64 0] 40 (0, 0))) ∧ (w.heap.size ≤ s_.2) ∧ (w.heap.size ≤ s_.2) ∧ (Below w.heap.size w w')) ?_ ?_
                rotate_left
                ·intro hJ4_10
                 refine join_ (σ := Value × Nat) 4 pylonlaw05_HolidayAll.q15 (fun s_ => [(17, .agg #[.int .i64 t293, .int .i64 t294, .int .i64 t295, s_.1, .bool t299, .int .i64 t300]), (5, .pointer (some ⟨s_.2, 0, none⟩))]) (fun s_ w' => (w'.cell? (ad292.add ((x10_1).toNat * 10)) = some (.int .i64 ((rd_T43 l0 x10_1).f0)) ∧ w'.cell? ⟨(ad292.add ((x10_1).toNat * 10)).block, (ad292.add ((x10_1).toNat * 10)).off + 1, none⟩ = some (.int .i64 ((rd_T43 l0 x10_1).f1.f0)) ∧ w'.cell? ⟨(ad292.add ((x10_1).toNat * 10)).block, (ad292.add ((x10_1).toNat * 10)).off + 2, none⟩ = some (.int .i64 ((rd_T43 l0 x10_1).f1.f1)) ∧ w'.cell? ⟨(ad292.add ((x10_1).toNat * 10)).block, (ad292.add ((x10_1).toNat * 10)).off + 3, none⟩ = some (.int .i64 ((rd_T43 l0 x10_1).f1.f2)) ∧ w'.cell? ⟨(ad292.add ((x10_1).toNat * 10)).block, (ad292.add ((x10_1).toNat * 10)).off + 4, none⟩ = some (.int .i64 ((rd_T43 l0 x10_1).f1.f3)) ∧ w'.cell? ⟨(ad292.add ((x10_1).toNat * 10)).block, (ad292.add ((x10_1).toNat * 10)).off + 5, none⟩ = some (.slice A292_5 ((rd_T43 l0 x10_1).f2).length c292_5) ∧ w'.cell? ⟨(ad292.add ((x10_1).toNat * 10)).block, (ad292.add ((x10_1).toNat * 10)).off + 6, none⟩ = some (.int .i64 ((rd_T43 l0 x10_1).f3)) ∧ w'.cell? ⟨(ad292.add ((x10_1).toNat * 10)).block, (ad292.add ((x10_1).toNat * 10)).off + 7, none⟩ = some (.int .i64 ((rd_T43 l0 x10_1).f4.f0)) ∧ w'.cell? ⟨(ad292.add ((x10_1).toNat * 10)).block, (ad292.add ((x10_1).toNat * 10)).off + 8, none⟩ = some (.int .i64 ((rd_T43 l0 x10_1).f4.f1)) ∧ w'.cell? ⟨(ad292.add ((x10_1).toNat * 10)).block, (ad292.add ((x10_1).toNat * 10)).off + 9, none⟩ = some (.int .i64 ((rd_T43 l0 x10_1).f4.f2)) ∧ w'.cell? (ad292.add ((x10_1).toNat * 10)) = some (.int .i64 ((rd_T43 l0 x10_1).f0)) ∧ w'.cell? ⟨(ad292.add ((x10_1).toNat * 10)).block, (ad292.add ((x10_1).toNat * 10)).off + 1, none⟩ = some (.int .i64 ((rd_T43 l0 x10_1).f1.f0)) ∧ w'.cell? ⟨(ad292.add ((x10_1).toNat * 10)).block, (ad292.add ((x10_1).toNat * 10)).off + 2, none⟩ = some (.int .i64 ((rd_T43 l0 x10_1).f1.f1)) ∧ w'.cell? ⟨(ad292.add ((x10_1).toNat * 10)).block, (ad292.add ((x10_1).toNat * 10)).off + 3, none⟩ = some (.int .i64 ((rd_T43 l0 x10_1).f1.f2)) ∧ w'.cell? ⟨(ad292.add ((x10_1).toNat * 10)).block, (ad292.add ((x10_1).toNat * 10)).off + 4, none⟩ = some (.int .i64 ((rd_T43 l0 x10_1).f1.f3)) ∧ w'.cell? ⟨(ad292.add ((x10_1).toNat * 10)).block, (ad292.add ((x10_1).toNat * 10)).off + 5, none⟩ = some (.slice A292_5 ((rd_T43 l0 x10_1).f2).length c292_5) ∧ w'.cell? ⟨(ad292.add ((x10_1).toNat * 10)).block, (ad292.add ((x10_1).toNat * 10)).off + 6, none⟩ = some (.int .i64 ((rd_T43 l0 x10_1).f3)) ∧ w'.cell? ⟨(ad292.add ((x10_1).toNat * 10)).block, (ad292.add ((x10_1).toNat * 10)).off + 7, none⟩ = some (.int .i64 ((rd_T43 l0 x10_1).f4.f0)) ∧ w'.cell? ⟨(ad292.add ((x10_1).toNat * 10)).block, (ad292.add ((x10_1).toNat * 10)).off + 8, none⟩ = some (.int .i64 ((rd_T43 l0 x10_1).f4.f1)) ∧ w'.cell? ⟨(ad292.add ((x10_1).toNat * 10)).block, (ad292.add ((x10_1).toNat * 10)).off + 9, none⟩ = some (.int .i64 ((rd_T43 l0 x10_1).f4.f2))) ∧ (Kd.R k33 33 w' w.heap.size (fun _ => True) s_.1 t296) ∧ (w'.heap[s_.2]? = some (.cells #[.int .i64 0, .int .i64 0, .int .i64 0, .slice none 0 0, .bool false, .int .i64 0] 40 (0, 0))) ∧ (w.heap.size ≤ s_.2) ∧ (w.heap.size ≤ s_.2) ∧ (Below w.heap.size w w')) ?_ ?_
                 rotate_left
                 ·intro hJ4_11
                  refine join_ (σ := Nat × Nat) 4 pylonlaw05_HolidayAll.q16 (fun s_ => [(4, .pointer (some ⟨s_.1, 0, none⟩)), (5, .pointer (some ⟨s_.2, 0, none⟩))]) (fun s_ w' => (w'.cell? (ad292.add ((x10_1).toNat * 10)) = some (.int .i64 ((rd_T43 l0 x10_1).f0)) ∧ w'.cell? ⟨(ad292.add ((x10_1).toNat * 10)).block, (ad292.add ((x10_1).toNat * 10)).off + 1, none⟩ = some (.int .i64 ((rd_T43 l0 x10_1).f1.f0)) ∧ w'.cell? ⟨(ad292.add ((x10_1).toNat * 10)).block, (ad292.add ((x10_1).toNat * 10)).off + 2, none⟩ = some (.int .i64 ((rd_T43 l0 x10_1).f1.f1)) ∧ w'.cell? ⟨(ad292.add ((x10_1).toNat * 10)).block, (ad292.add ((x10_1).toNat * 10)).off + 3, none⟩ = some (.int .i64 ((rd_T43 l0 x10_1).f1.f2)) ∧ w'.cell? ⟨(ad292.add ((x10_1).toNat * 10)).block, (ad292.add ((x10_1).toNat * 10)).off + 4, none⟩ = some (.int .i64 ((rd_T43 l0 x10_1).f1.f3)) ∧ w'.cell? ⟨(ad292.add ((x10_1).toNat * 10)).block, (ad292.add ((x10_1).toNat * 10)).off + 5, none⟩ = some (.slice A292_5 ((rd_T43 l0 x10_1).f2).length c292_5) ∧ w'.cell? ⟨(ad292.add ((x10_1).toNat * 10)).block, (ad292.add ((x10_1).toNat * 10)).off + 6, none⟩ = some (.int .i64 ((rd_T43 l0 x10_1).f3)) ∧ w'.cell? ⟨(ad292.add ((x10_1).toNat * 10)).block, (ad292.add ((x10_1).toNat * 10)).off + 7, none⟩ = some (.int .i64 ((rd_T43 l0 x10_1).f4.f0)) ∧ w'.cell? ⟨(ad292.add ((x10_1).toNat * 10)).block, (ad292.add ((x10_1).toNat * 10)).off + 8, none⟩ = some (.int .i64 ((rd_T43 l0 x10_1).f4.f1)) ∧ w'.cell? ⟨(ad292.add ((x10_1).toNat * 10)).block, (ad292.add ((x10_1).toNat * 10)).off + 9, none⟩ = some (.int .i64 ((rd_T43 l0 x10_1).f4.f2)) ∧ w'.cell? (ad292.add ((x10_1).toNat * 10)) = some (.int .i64 ((rd_T43 l0 x10_1).f0)) ∧ w'.cell? ⟨(ad292.add ((x10_1).toNat * 10)).block, (ad292.add ((x10_1).toNat * 10)).off + 1, none⟩ = some (.int .i64 ((rd_T43 l0 x10_1).f1.f0)) ∧ w'.cell? ⟨(ad292.add ((x10_1).toNat * 10)).block, (ad292.add ((x10_1).toNat * 10)).off + 2, none⟩ = some (.int .i64 ((rd_T43 l0 x10_1).f1.f1)) ∧ w'.cell? ⟨(ad292.add ((x10_1).toNat * 10)).block, (ad292.add ((x10_1).toNat * 10)).off + 3, none⟩ = some (.int .i64 ((rd_T43 l0 x10_1).f1.f2)) ∧ w'.cell? ⟨(ad292.add ((x10_1).toNat * 10)).block, (ad292.add ((x10_1).toNat * 10)).off + 4, none⟩ = some (.int .i64 ((rd_T43 l0 x10_1).f1.f3)) ∧ w'.cell? ⟨(ad292.add ((x10_1).toNat * 10)).block, (ad292.add ((x10_1).toNat * 10)).off + 5, none⟩ = some (.slice A292_5 ((rd_T43 l0 x10_1).f2).length c292_5) ∧ w'.cell? ⟨(ad292.add ((x10_1).toNat * 10)).block, (ad292.add ((x10_1).toNat * 10)).off + 6, none⟩ = some (.int .i64 ((rd_T43 l0 x10_1).f3)) ∧ w'.cell? ⟨(ad292.add ((x10_1).toNat * 10)).block, (ad292.add ((x10_1).toNat * 10)).off + 7, none⟩ = some (.int .i64 ((rd_T43 l0 x10_1).f4.f0)) ∧ w'.cell? ⟨(ad292.add ((x10_1).toNat * 10)).block, (ad292.add ((x10_1).toNat * 10)).off + 8, none⟩ = some (.int .i64 ((rd_T43 l0 x10_1).f4.f1)) ∧ w'.cell? ⟨(ad292.add ((x10_1).toNat * 10)).block, (ad292.add ((x10_1).toNat * 10)).off + 9, none⟩ = some (.int .i64 ((rd_T43 l0 x10_1).f4.f2))) ∧ (w'.heap[s_.1]? = some (.cells #[.int .i64 0, .int .i64 0, .int .i64 0, .slice none 0 0, .bool false, .int .i64 0] 40 (0, 0))) ∧ (w'.heap[s_.2]? = some (.cells #[.int .i64 0, .int .i64 0, .int .i64 0, .slice none 0 0, .bool false, .int .i64 0] 40 (0, 0))) ∧ (w.heap.size ≤ s_.1) ∧ (w.heap.size ≤ s_.1) ∧ (s_.2 ≠ s_.1) ∧ (s_.1 ≠ s_.2) ∧ (w.heap.size ≤ s_.2) ∧ (w.heap.size ≤ s_.2) ∧ (Below w.heap.size w w')) ?_ ?_
                  rotate_left
                  ·intro hJ10_11
                   refine join_ (σ := Value) 5 pylonlaw05_HolidayAll.q17 (fun s_ => [(17, .agg #[.int .i64 t293, .int .i64 t294, .int .i64 t295, s_, .bool t299, .int .i64 t300])]) (fun s_ w' => (w'.cell? (ad292.add ((x10_1).toNat * 10)) = some (.int .i64 ((rd_T43 l0 x10_1).f0)) ∧ w'.cell? ⟨(ad292.add ((x10_1).toNat * 10)).block, (ad292.add ((x10_1).toNat * 10)).off + 1, none⟩ = some (.int .i64 ((rd_T43 l0 x10_1).f1.f0)) ∧ w'.cell? ⟨(ad292.add ((x10_1).toNat * 10)).block, (ad292.add ((x10_1).toNat * 10)).off + 2, none⟩ = some (.int .i64 ((rd_T43 l0 x10_1).f1.f1)) ∧ w'.cell? ⟨(ad292.add ((x10_1).toNat * 10)).block, (ad292.add ((x10_1).toNat * 10)).off + 3, none⟩ = some (.int .i64 ((rd_T43 l0 x10_1).f1.f2)) ∧ w'.cell? ⟨(ad292.add ((x10_1).toNat * 10)).block, (ad292.add ((x10_1).toNat * 10)).off + 4, none⟩ = some (.int .i64 ((rd_T43 l0 x10_1).f1.f3)) ∧ w'.cell? ⟨(ad292.add ((x10_1).toNat * 10)).block, (ad292.add ((x10_1).toNat * 10)).off + 5, none⟩ = some (.slice A292_5 ((rd_T43 l0 x10_1).f2).length c292_5) ∧ w'.cell? ⟨(ad292.add ((x10_1).toNat * 10)).block, (ad292.add ((x10_1).toNat * 10)).off + 6, none⟩ = some (.int .i64 ((rd_T43 l0 x10_1).f3)) ∧ w'.cell? ⟨(ad292.add ((x10_1).toNat * 10)).block, (ad292.add ((x10_1).toNat * 10)).off + 7, none⟩ = some (.int .i64 ((rd_T43 l0 x10_1).f4.f0)) ∧ w'.cell? ⟨(ad292.add ((x10_1).toNat * 10)).block, (ad292.add ((x10_1).toNat * 10)).off + 8, none⟩ = some (.int .i64 ((rd_T43 l0 x10_1).f4.f1)) ∧ w'.cell? ⟨(ad292.add ((x10_1).toNat * 10)).block, (ad292.add ((x10_1).toNat * 10)).off + 9, none⟩ = some (.int .i64 ((rd_T43 l0 x10_1).f4.f2)) ∧ w'.cell? (ad292.add ((x10_1).toNat * 10)) = some (.int .i64 ((rd_T43 l0 x10_1).f0)) ∧ w'.cell? ⟨(ad292.add ((x10_1).toNat * 10)).block, (ad292.add ((x10_1).toNat * 10)).off + 1, none⟩ = some (.int .i64 ((rd_T43 l0 x10_1).f1.f0)) ∧ w'.cell? ⟨(ad292.add ((x10_1).toNat * 10)).block, (ad292.add ((x10_1).toNat * 10)).off + 2, none⟩ = some (.int .i64 ((rd_T43 l0 x10_1).f1.f1)) ∧ w'.cell? ⟨(ad292.add ((x10_1).toNat * 10)).block, (ad292.add ((x10_1).toNat * 10)).off + 3, none⟩ = some (.int .i64 ((rd_T43 l0 x10_1).f1.f2)) ∧ w'.cell? ⟨(ad292.add ((x10_1).toNat * 10)).block, (ad292.add ((x10_1).toNat * 10)).off + 4, none⟩ = some (.int .i64 ((rd_T43 l0 x10_1).f1.f3)) ∧ w'.cell? ⟨(ad292.add ((x10_1).toNat * 10)).block, (ad292.add ((x10_1).toNat * 10)).off + 5, none⟩ = some (.slice A292_5 ((rd_T43 l0 x10_1).f2).length c292_5) ∧ w'.cell? ⟨(ad292.add ((x10_1).toNat * 10)).block, (ad292.add ((x10_1).toNat * 10)).off + 6, none⟩ = some (.int .i64 ((rd_T43 l0 x10_1).f3)) ∧ w'.cell? ⟨(ad292.add ((x10_1).toNat * 10)).block, (ad292.add ((x10_1).toNat * 10)).off + 7, none⟩ = some (.int .i64 ((rd_T43 l0 x10_1).f4.f0)) ∧ w'.cell? ⟨(ad292.add ((x10_1).toNat * 10)).block, (ad292.add ((x10_1).toNat * 10)).off + 8, none⟩ = some (.int .i64 ((rd_T43 l0 x10_1).f4.f1)) ∧ w'.cell? ⟨(ad292.add ((x10_1).toNat * 10)).block, (ad292.add ((x10_1).toNat * 10)).off + 9, none⟩ = some (.int .i64 ((rd_T43 l0 x10_1).f4.f2))) ∧ (Kd.R k33 33 w' w.heap.size (fun _ => True) s_ t296) ∧ (Below w.heap.size w w')) ?_ ?_
                   rotate_left
                   ·intro hJ4
                    refine join_ (σ := Nat) 5 pylonlaw05_HolidayAll.q18 (fun s_ => [(4, .pointer (some ⟨s_, 0, none⟩))]) (fun s_ w' => (w'.cell? (ad292.add ((x10_1).toNat * 10)) = some (.int .i64 ((rd_T43 l0 x10_1).f0)) ∧ w'.cell? ⟨(ad292.add ((x10_1).toNat * 10)).block, (ad292.add ((x10_1).toNat * 10)).off + 1, none⟩ = some (.int .i64 ((rd_T43 l0 x10_1).f1.f0)) ∧ w'.cell? ⟨(ad292.add ((x10_1).toNat * 10)).block, (ad292.add ((x10_1).toNat * 10)).off + 2, none⟩ = some (.int .i64 ((rd_T43 l0 x10_1).f1.f1)) ∧ w'.cell? ⟨(ad292.add ((x10_1).toNat * 10)).block, (ad292.add ((x10_1).toNat * 10)).off + 3, none⟩ = some (.int .i64 ((rd_T43 l0 x10_1).f1.f2)) ∧ w'.cell? ⟨(ad292.add ((x10_1).toNat * 10)).block, (ad292.add ((x10_1).toNat * 10)).off + 4, none⟩ = some (.int .i64 ((rd_T43 l0 x10_1).f1.f3)) ∧ w'.cell? ⟨(ad292.add ((x10_1).toNat * 10)).block, (ad292.add ((x10_1).toNat * 10)).off + 5, none⟩ = some (.slice A292_5 ((rd_T43 l0 x10_1).f2).length c292_5) ∧ w'.cell? ⟨(ad292.add ((x10_1).toNat * 10)).block, (ad292.add ((x10_1).toNat * 10)).off + 6, none⟩ = some (.int .i64 ((rd_T43 l0 x10_1).f3)) ∧ w'.cell? ⟨(ad292.add ((x10_1).toNat * 10)).block, (ad292.add ((x10_1).toNat * 10)).off + 7, none⟩ = some (.int .i64 ((rd_T43 l0 x10_1).f4.f0)) ∧ w'.cell? ⟨(ad292.add ((x10_1).toNat * 10)).block, (ad292.add ((x10_1).toNat * 10)).off + 8, none⟩ = some (.int .i64 ((rd_T43 l0 x10_1).f4.f1)) ∧ w'.cell? ⟨(ad292.add ((x10_1).toNat * 10)).block, (ad292.add ((x10_1).toNat * 10)).off + 9, none⟩ = some (.int .i64 ((rd_T43 l0 x10_1).f4.f2)) ∧ w'.cell? (ad292.add ((x10_1).toNat * 10)) = some (.int .i64 ((rd_T43 l0 x10_1).f0)) ∧ w'.cell? ⟨(ad292.add ((x10_1).toNat * 10)).block, (ad292.add ((x10_1).toNat * 10)).off + 1, none⟩ = some (.int .i64 ((rd_T43 l0 x10_1).f1.f0)) ∧ w'.cell? ⟨(ad292.add ((x10_1).toNat * 10)).block, (ad292.add ((x10_1).toNat * 10)).off + 2, none⟩ = some (.int .i64 ((rd_T43 l0 x10_1).f1.f1)) ∧ w'.cell? ⟨(ad292.add ((x10_1).toNat * 10)).block, (ad292.add ((x10_1).toNat * 10)).off + 3, none⟩ = some (.int .i64 ((rd_T43 l0 x10_1).f1.f2)) ∧ w'.cell? ⟨(ad292.add ((x10_1).toNat * 10)).block, (ad292.add ((x10_1).toNat * 10)).off + 4, none⟩ = some (.int .i64 ((rd_T43 l0 x10_1).f1.f3)) ∧ w'.cell? ⟨(ad292.add ((x10_1).toNat * 10)).block, (ad292.add ((x10_1).toNat * 10)).off + 5, none⟩ = some (.slice A292_5 ((rd_T43 l0 x10_1).f2).length c292_5) ∧ w'.cell? ⟨(ad292.add ((x10_1).toNat * 10)).block, (ad292.add ((x10_1).toNat * 10)).off + 6, none⟩ = some (.int .i64 ((rd_T43 l0 x10_1).f3)) ∧ w'.cell? ⟨(ad292.add ((x10_1).toNat * 10)).block, (ad292.add ((x10_1).toNat * 10)).off + 7, none⟩ = some (.int .i64 ((rd_T43 l0 x10_1).f4.f0)) ∧ w'.cell? ⟨(ad292.add ((x10_1).toNat * 10)).block, (ad292.add ((x10_1).toNat * 10)).off + 8, none⟩ = some (.int .i64 ((rd_T43 l0 x10_1).f4.f1)) ∧ w'.cell? ⟨(ad292.add ((x10_1).toNat * 10)).block, (ad292.add ((x10_1).toNat * 10)).off + 9, none⟩ = some (.int .i64 ((rd_T43 l0 x10_1).f4.f2))) ∧ (w'.heap[s_]? = some (.cells #[.int .i64 0, .int .i64 0, .int .i64 0, .slice none 0 0, .bool false, .int .i64 0] 40 (0, 0))) ∧ (w.heap.size ≤ s_) ∧ (w.heap.size ≤ s_) ∧ (Below w.heap.size w w')) ?_ ?_
                    rotate_left
                    ·intro hJ10
                     refine join_ (σ := Nat) 5 pylonlaw05_HolidayAll.q19 (fun s_ => [(5, .pointer (some ⟨s_, 0, none⟩))]) (fun s_ w' => (w'.cell? (ad292.add ((x10_1).toNat * 10)) = some (.int .i64 ((rd_T43 l0 x10_1).f0)) ∧ w'.cell? ⟨(ad292.add ((x10_1).toNat * 10)).block, (ad292.add ((x10_1).toNat * 10)).off + 1, none⟩ = some (.int .i64 ((rd_T43 l0 x10_1).f1.f0)) ∧ w'.cell? ⟨(ad292.add ((x10_1).toNat * 10)).block, (ad292.add ((x10_1).toNat * 10)).off + 2, none⟩ = some (.int .i64 ((rd_T43 l0 x10_1).f1.f1)) ∧ w'.cell? ⟨(ad292.add ((x10_1).toNat * 10)).block, (ad292.add ((x10_1).toNat * 10)).off + 3, none⟩ = some (.int .i64 ((rd_T43 l0 x10_1).f1.f2)) ∧ w'.cell? ⟨(ad292.add ((x10_1).toNat * 10)).block, (ad292.add ((x10_1).toNat * 10)).off + 4, none⟩ = some (.int .i64 ((rd_T43 l0 x10_1).f1.f3)) ∧ w'.cell? ⟨(ad292.add ((x10_1).toNat * 10)).block, (ad292.add ((x10_1).toNat * 10)).off + 5, none⟩ = some (.slice A292_5 ((rd_T43 l0 x10_1).f2).length c292_5) ∧ w'.cell? ⟨(ad292.add ((x10_1).toNat * 10)).block, (ad292.add ((x10_1).toNat * 10)).off + 6, none⟩ = some (.int .i64 ((rd_T43 l0 x10_1).f3)) ∧ w'.cell? ⟨(ad292.add ((x10_1).toNat * 10)).block, (ad292.add ((x10_1).toNat * 10)).off + 7, none⟩ = some (.int .i64 ((rd_T43 l0 x10_1).f4.f0)) ∧ w'.cell? ⟨(ad292.add ((x10_1).toNat * 10)).block, (ad292.add ((x10_1).toNat * 10)).off + 8, none⟩ = some (.int .i64 ((rd_T43 l0 x10_1).f4.f1)) ∧ w'.cell? ⟨(ad292.add ((x10_1).toNat * 10)).block, (ad292.add ((x10_1).toNat * 10)).off + 9, none⟩ = some (.int .i64 ((rd_T43 l0 x10_1).f4.f2)) ∧ w'.cell? (ad292.add ((x10_1).toNat * 10)) = some (.int .i64 ((rd_T43 l0 x10_1).f0)) ∧ w'.cell? ⟨(ad292.add ((x10_1).toNat * 10)).block, (ad292.add ((x10_1).toNat * 10)).off + 1, none⟩ = some (.int .i64 ((rd_T43 l0 x10_1).f1.f0)) ∧ w'.cell? ⟨(ad292.add ((x10_1).toNat * 10)).block, (ad292.add ((x10_1).toNat * 10)).off + 2, none⟩ = some (.int .i64 ((rd_T43 l0 x10_1).f1.f1)) ∧ w'.cell? ⟨(ad292.add ((x10_1).toNat * 10)).block, (ad292.add ((x10_1).toNat * 10)).off + 3, none⟩ = some (.int .i64 ((rd_T43 l0 x10_1).f1.f2)) ∧ w'.cell? ⟨(ad292.add ((x10_1).toNat * 10)).block, (ad292.add ((x10_1).toNat * 10)).off + 4, none⟩ = some (.int .i64 ((rd_T43 l0 x10_1).f1.f3)) ∧ w'.cell? ⟨(ad292.add ((x10_1).toNat * 10)).block, (ad292.add ((x10_1).toNat * 10)).off + 5, none⟩ = some (.slice A292_5 ((rd_T43 l0 x10_1).f2).length c292_5) ∧ w'.cell? ⟨(ad292.add ((x10_1).toNat * 10)).block, (ad292.add ((x10_1).toNat * 10)).off + 6, none⟩ = some (.int .i64 ((rd_T43 l0 x10_1).f3)) ∧ w'.cell? ⟨(ad292.add ((x10_1).toNat * 10)).block, (ad292.add ((x10_1).toNat * 10)).off + 7, none⟩ = some (.int .i64 ((rd_T43 l0 x10_1).f4.f0)) ∧ w'.cell? ⟨(ad292.add ((x10_1).toNat * 10)).block, (ad292.add ((x10_1).toNat * 10)).off + 8, none⟩ = some (.int .i64 ((rd_T43 l0 x10_1).f4.f1)) ∧ w'.cell? ⟨(ad292.add ((x10_1).toNat * 10)).block, (ad292.add ((x10_1).toNat * 10)).off + 9, none⟩ = some (.int .i64 ((rd_T43 l0 x10_1).f4.f2))) ∧ (w'.heap[s_]? = some (.cells #[.int .i64 0, .int .i64 0, .int .i64 0, .slice none 0 0, .bool false, .int .i64 0] 40 (0, 0))) ∧ (w.heap.size ≤ s_) ∧ (w.heap.size ≤ s_) ∧ (Below w.heap.size w w')) ?_ ?_
                     rotate_left
                     ·intro hJ11
                      refine three_ (i := 4) (j := 10) (k := 11) (Ni := some 17) (Nj := some 4) (Nk := some 5) pylonlaw05_HolidayAll.q17 pylonlaw05_HolidayAll.q18 pylonlaw05_HolidayAll.q19 rfl rfl rfl rfl rfl rfl (three_of HT_.out (by kernel_rfl)) (by decide) (by decide) (by decide) (fun K hK => ?_) (fun K hK => ?_) (fun K hK => ?_)
                      ·skip
                       refine goes_ Try.func13 (by kernel_rfl) rfl #[.agg #[.int .i64 ((rd_T43 l0 x10_1).f0), .int .i64 ((rd_T43 l0 x10_1).f1.f0), .int .i64 ((rd_T43 l0 x10_1).f1.f1), .int .i64 ((rd_T43 l0 x10_1).f1.f2), .int .i64 ((rd_T43 l0 x10_1).f1.f3), .slice A292_5 ((rd_T43 l0 x10_1).f2).length c292_5, .int .i64 ((rd_T43 l0 x10_1).f3), .int .i64 ((rd_T43 l0 x10_1).f4.f0), .int .i64 ((rd_T43 l0 x10_1).f4.f1), .int .i64 ((rd_T43 l0 x10_1).f4.f2)]] (by rfl) rfl rfl (by (try simp only [List.map_toArray, List.map_cons, List.map_nil]); first | done | rfl | (simp only [List.length_drop, List.length_take]; rfl)) ?_
                       with_reducible refine (pylonlaw05_plays.calls k1 ((rd_T43 l0 x10_1).f0) ((rd_T43 l0 x10_1).f1.f0) ((rd_T43 l0 x10_1).f1.f1) ((rd_T43 l0 x10_1).f1.f2) ((rd_T43 l0 x10_1).f1.f3) _ _ ((rd_T43 l0 x10_1).f2) ((rd_T43 l0 x10_1).f3) ((rd_T43 l0 x10_1).f4.f0) ((rd_T43 l0 x10_1).f4.f1) ((rd_T43 l0 x10_1).f4.f2) t293 t294 t295 t296 t299 t300 _ ?side1 ?side2 A8.out).mono ?_
                       (case side1 => repeat (first | exact (Kd.C_below HR292_5.out HB.out) | (with_reducible refine Kd.C_alloc ?_ _) | (with_reducible refine Kd.C_drewN ?_ _) | (with_reducible refine Kd.C_drew ?_)))
                       (case side2 => exact HC292_5.out)
                       rintro e w62 ⟨v297, rfl, ho0, hb⟩
                       refine ⟨_, rfl, ?_⟩
                       have n0_ := AX (Kd.R_lower ho0 (below_size bw))
                       have n1_ := AX (below_step bw hb)
                       clear HB
                       have HO298 := n0_
                       have HB := n1_
                       clear n0_ n1_
                       (try clear hb)
                       (try clear hb2)
                       (try clear hk)
                       (try clear hi)
                       (try clear ho0)
                       refine hK.out _ _ ⟨(bcl HB hw292_0), (bcl HB hw292_1), (bcl HB hw292_2), (bcl HB hw292_3), (bcl HB hw292_4), (bcl HB hw292_5), (bcl HB hw292_6), (bcl HB hw292_7), (bcl HB hw292_8), (bcl HB hw292_9), (bcl HB hw301_0), (bcl HB hw301_1), (bcl HB hw301_2), (bcl HB hw301_3), (bcl HB hw301_4), (bcl HB hw301_5), (bcl HB hw301_6), (bcl HB hw301_7), (bcl HB hw301_8), (bcl HB hw301_9)⟩ (fun hHeld => ?_)
                       clear hK K
                       refine norm_ (a' := ?_) ?_ ?_
                       rotate_left
                       ·show Act.put _ (some 17) _ = _
                        simp only [Act.put, List.setIfInBounds_toArray, List.set_cons_zero, List.set_cons_succ, i64_w, i32_w]
                        rfl
                       exact norm_ (by first | (simp only [putAll, Act.put, List.setIfInBounds_toArray, List.set_cons_zero, List.set_cons_succ]; done) | (simp only [putAll, Act.put, List.setIfInBounds_toArray, List.set_cons_zero, List.set_cons_succ]; rfl)) (hJ4 (v297) _ ⟨hHeld, (kr HO298), bw⟩)
                      ·skip
                       refine box_step ?hg (N := 4) ?hd (cs := #[.int .i64 0, .int .i64 0, .int .i64 0, .slice none 0 0, .bool false, .int .i64 0]) (t := 40) ?hr ?_; (case hd => rfl); (case hg => rfl); (case hr => first | (go_simp; done) | (go_simp; rfl))
                       intro gb310 hg w62 hbox hb
                       have n0_ := AX (below_step bw hb)
                       have n1_ := AX (hbox)
                       have n2_ := gwl (w := w) hg bw
                       have n3_ := gwl (w := w) hg bw
                       clear HB
                       have HB := n0_
                       have BK310 := n1_
                       have GW310 := n2_
                       have GE310 := n3_
                       clear n0_ n1_ n2_ n3_
                       clear hb hbox hg
                       refine hK.out _ _ ⟨(bcl HB hw292_0), (bcl HB hw292_1), (bcl HB hw292_2), (bcl HB hw292_3), (bcl HB hw292_4), (bcl HB hw292_5), (bcl HB hw292_6), (bcl HB hw292_7), (bcl HB hw292_8), (bcl HB hw292_9), (bcl HB hw301_0), (bcl HB hw301_1), (bcl HB hw301_2), (bcl HB hw301_3), (bcl HB hw301_4), (bcl HB hw301_5), (bcl HB hw301_6), (bcl HB hw301_7), (bcl HB hw301_8), (bcl HB hw301_9)⟩ (fun hHeld => ?_)
                       clear hK K
                       refine norm_ (a' := ?_) ?_ ?_
                       rotate_left
                       ·show Act.put _ (some 4) _ = _
                        simp only [Act.put, List.setIfInBounds_toArray, List.set_cons_zero, List.set_cons_succ, i64_w, i32_w]
                        rfl
                       exact norm_ (by first | (simp only [putAll, Act.put, List.setIfInBounds_toArray, List.set_cons_zero, List.set_cons_succ]; done) | (simp only [putAll, Act.put, List.setIfInBounds_toArray, List.set_cons_zero, List.set_cons_succ]; rfl)) (hJ10 (gb310) _ ⟨hHeld, (bkn BK310), GW310.out, GE310.out, bw⟩)
                      ·skip
                       refine box_step ?hg (N := 5) ?hd (cs := #[.int .i64 0, .int .i64 0, .int .i64 0, .slice none 0 0, .bool false, .int .i64 0]) (t := 40) ?hr ?_; (case hd => rfl); (case hg => rfl); (case hr => first | (go_simp; done) | (go_simp; rfl))
                       intro gb311 hg w62 hbox hb
                       have n0_ := AX (below_step bw hb)
                       have n1_ := AX (hbox)
                       have n2_ := gwl (w := w) hg bw
                       have n3_ := gwl (w := w) hg bw
                       clear HB
                       have HB := n0_
                       have BK311 := n1_
                       have GW311 := n2_
                       have GE311 := n3_
                       clear n0_ n1_ n2_ n3_
                       clear hb hbox hg
                       refine hK.out _ _ ⟨(bcl HB hw292_0), (bcl HB hw292_1), (bcl HB hw292_2), (bcl HB hw292_3), (bcl HB hw292_4), (bcl HB hw292_5), (bcl HB hw292_6), (bcl HB hw292_7), (bcl HB hw292_8), (bcl HB hw292_9), (bcl HB hw301_0), (bcl HB hw301_1), (bcl HB hw301_2), (bcl HB hw301_3), (bcl HB hw301_4), (bcl HB hw301_5), (bcl HB hw301_6), (bcl HB hw301_7), (bcl HB hw301_8), (bcl HB hw301_9)⟩ (fun hHeld => ?_)
                       clear hK K
                       refine norm_ (a' := ?_) ?_ ?_
                       rotate_left
                       ·show Act.put _ (some 5) _ = _
                        simp only [Act.put, List.setIfInBounds_toArray, List.set_cons_zero, List.set_cons_succ, i64_w, i32_w]
                        rfl
                       exact norm_ (by first | (simp only [putAll, Act.put, List.setIfInBounds_toArray, List.set_cons_zero, List.set_cons_succ]; done) | (simp only [putAll, Act.put, List.setIfInBounds_toArray, List.set_cons_zero, List.set_cons_succ]; rfl)) (hJ11 (gb311) _ ⟨hHeld, (bkn BK311), GW311.out, GE311.out, bw⟩)
                     ·skip
                      rintro gb311 w63 ⟨hS_, h0_, h1_, h2_, h3_⟩
                      have n0_ : Aside0 (w63.heap[gb311]? = some (.cells #[.int .i64 0, .int .i64 0, .int .i64 0, .slice none 0 0, .bool false, .int .i64 0] 40 (0, 0))) := ⟨h0_⟩
                      have n1_ : Aside0 (w.heap.size ≤ gb311) := ⟨h1_⟩
                      have n2_ : Aside0 (w.heap.size ≤ gb311) := ⟨h2_⟩
                      have n3_ : Aside0 (Below w.heap.size w w63) := ⟨h3_⟩
                      clear HB
                      clear h0_ h1_ h2_ h3_
                      have BK311 := n0_
                      have GW311 := n1_
                      have GE311 := n2_
                      have HB := n3_
                      clear n0_ n1_ n2_ n3_
                      have hHeld := hS_
                      refine norm_ (a' := ?_) ?_ ?_
                      rotate_left
                      ·simp only [putAll, Act.put, List.setIfInBounds_toArray, List.set_cons_zero, List.set_cons_succ]
                       rfl
                      refine two_ (i := 4) (j := 10) (Ni := some 17) (Nj := some 4) pylonlaw05_HolidayAll.q15 pylonlaw05_HolidayAll.q16 rfl rfl rfl rfl (two_of HT_.out (by kernel_rfl)) (by decide) (by decide) (fun K hK => ?_) (fun K hK => ?_)
                      ·skip
                       refine goes_ Try.func13 (by kernel_rfl) rfl #[.agg #[.int .i64 ((rd_T43 l0 x10_1).f0), .int .i64 ((rd_T43 l0 x10_1).f1.f0), .int .i64 ((rd_T43 l0 x10_1).f1.f1), .int .i64 ((rd_T43 l0 x10_1).f1.f2), .int .i64 ((rd_T43 l0 x10_1).f1.f3), .slice A292_5 ((rd_T43 l0 x10_1).f2).length c292_5, .int .i64 ((rd_T43 l0 x10_1).f3), .int .i64 ((rd_T43 l0 x10_1).f4.f0), .int .i64 ((rd_T43 l0 x10_1).f4.f1), .int .i64 ((rd_T43 l0 x10_1).f4.f2)]] (by rfl) rfl rfl (by (try simp only [List.map_toArray, List.map_cons, List.map_nil]); first | done | rfl | (simp only [List.length_drop, List.length_take]; rfl)) ?_
                       with_reducible refine (pylonlaw05_plays.calls k1 ((rd_T43 l0 x10_1).f0) ((rd_T43 l0 x10_1).f1.f0) ((rd_T43 l0 x10_1).f1.f1) ((rd_T43 l0 x10_1).f1.f2) ((rd_T43 l0 x10_1).f1.f3) _ _ ((rd_T43 l0 x10_1).f2) ((rd_T43 l0 x10_1).f3) ((rd_T43 l0 x10_1).f4.f0) ((rd_T43 l0 x10_1).f4.f1) ((rd_T43 l0 x10_1).f4.f2) t293 t294 t295 t296 t299 t300 _ ?side1 ?side2 A8.out).mono ?_
                       (case side1 => repeat (first | exact (Kd.C_below HR292_5.out HB.out) | (with_reducible refine Kd.C_alloc ?_ _) | (with_reducible refine Kd.C_drewN ?_ _) | (with_reducible refine Kd.C_drew ?_)))
                       (case side2 => exact HC292_5.out)
                       rintro e w64 ⟨v297, rfl, ho0, hb⟩
                       refine ⟨_, rfl, ?_⟩
                       have n0_ := AX (Kd.R_lower ho0 (below_size bw))
                       have n1_ := AX (bkb BK311 hb)
                       have n2_ := AX (below_step bw hb)
                       clear BK311
                       clear HB
                       have HO298 := n0_
                       have BK311 := n1_
                       have HB := n2_
                       clear n0_ n1_ n2_
                       (try clear hb)
                       (try clear hb2)
                       (try clear hk)
                       (try clear hi)
                       (try clear ho0)
                       refine hK.out _ _ ⟨(bcl HB hw292_0), (bcl HB hw292_1), (bcl HB hw292_2), (bcl HB hw292_3), (bcl HB hw292_4), (bcl HB hw292_5), (bcl HB hw292_6), (bcl HB hw292_7), (bcl HB hw292_8), (bcl HB hw292_9), (bcl HB hw301_0), (bcl HB hw301_1), (bcl HB hw301_2), (bcl HB hw301_3), (bcl HB hw301_4), (bcl HB hw301_5), (bcl HB hw301_6), (bcl HB hw301_7), (bcl HB hw301_8), (bcl HB hw301_9)⟩ (fun hHeld => ?_)
                       clear hK K
                       refine norm_ (a' := ?_) ?_ ?_
                       rotate_left
                       ·show Act.put _ (some 17) _ = _
                        simp only [Act.put, List.setIfInBounds_toArray, List.set_cons_zero, List.set_cons_succ, i64_w, i32_w]
                        rfl
                       exact norm_ (by first | (simp only [putAll, Act.put, List.setIfInBounds_toArray, List.set_cons_zero, List.set_cons_succ]; done) | (simp only [putAll, Act.put, List.setIfInBounds_toArray, List.set_cons_zero, List.set_cons_succ]; rfl)) (hJ4_11 (v297, gb311) _ ⟨hHeld, (kr HO298), (bkn BK311), GW311.out, GE311.out, bw⟩)
                      ·skip
                       refine box_step ?hg (N := 4) ?hd (cs := #[.int .i64 0, .int .i64 0, .int .i64 0, .slice none 0 0, .bool false, .int .i64 0]) (t := 40) ?hr ?_; (case hd => rfl); (case hg => rfl); (case hr => first | (go_simp; done) | (go_simp; rfl))
                       intro gb310 hg w64 hbox hb
                       have n0_ := AX (bkb BK311 hb)
                       have n1_ := AX (below_step bw hb)
                       have n2_ := AX (hbox)
                       have n3_ := gwl (w := w) hg bw
                       have n4_ := gwl (w := w) hg bw
                       have n5_ := nbl hg (bkn BK311)
                       have n6_ := nbg hg (bkn BK311)
                       clear BK311
                       clear HB
                       have BK311 := n0_
                       have HB := n1_
                       have BK310 := n2_
                       have GW310 := n3_
                       have GE310 := n4_
                       have NB311_310 := n5_
                       have NB310_311 := n6_
                       clear n0_ n1_ n2_ n3_ n4_ n5_ n6_
                       clear hb hbox hg
                       refine hK.out _ _ ⟨(bcl HB hw292_0), (bcl HB hw292_1), (bcl HB hw292_2), (bcl HB hw292_3), (bcl HB hw292_4), (bcl HB hw292_5), (bcl HB hw292_6), (bcl HB hw292_7), (bcl HB hw292_8), (bcl HB hw292_9), (bcl HB hw301_0), (bcl HB hw301_1), (bcl HB hw301_2), (bcl HB hw301_3), (bcl HB hw301_4), (bcl HB hw301_5), (bcl HB hw301_6), (bcl HB hw301_7), (bcl HB hw301_8), (bcl HB hw301_9)⟩ (fun hHeld => ?_)
                       clear hK K
                       refine norm_ (a' := ?_) ?_ ?_
                       rotate_left
                       ·show Act.put _ (some 4) _ = _
                        simp only [Act.put, List.setIfInBounds_toArray, List.set_cons_zero, List.set_cons_succ, i64_w, i32_w]
                        rfl
                       exact norm_ (by first | (simp only [putAll, Act.put, List.setIfInBounds_toArray, List.set_cons_zero, List.set_cons_succ]; done) | (simp only [putAll, Act.put, List.setIfInBounds_toArray, List.set_cons_zero, List.set_cons_succ]; rfl)) (hJ10_11 (gb310, gb311) _ ⟨hHeld, (bkn BK310), (bkn BK311), GW310.out, GE310.out, NB311_310.out, NB310_311.out, GW311.out, GE311.out, bw⟩)
                    ·skip
                     rintro gb310 w63 ⟨hS_, h0_, h1_, h2_, h3_⟩
                     have n0_ : Aside0 (w63.heap[gb310]? = some (.cells #[.int .i64 0, .int .i64 0, .int .i64 0, .slice none 0 0, .bool false, .int .i64 0] 40 (0, 0))) := ⟨h0_⟩
                     have n1_ : Aside0 (w.heap.size ≤ gb310) := ⟨h1_⟩
                     have n2_ : Aside0 (w.heap.size ≤ gb310) := ⟨h2_⟩
                     have n3_ : Aside0 (Below w.heap.size w w63) := ⟨h3_⟩
                     clear HB
                     clear h0_ h1_ h2_ h3_
                     have BK310 := n0_
                     have GW310 := n1_
                     have GE310 := n2_
                     have HB := n3_
                     clear n0_ n1_ n2_ n3_
                     have hHeld := hS_
                     refine norm_ (a' := ?_) ?_ ?_
                     rotate_left
                     ·simp only [putAll, Act.put, List.setIfInBounds_toArray, List.set_cons_zero, List.set_cons_succ]
                      rfl
                     refine two_ (i := 4) (j := 11) (Ni := some 17) (Nj := some 5) pylonlaw05_HolidayAll.q14 pylonlaw05_HolidayAll.q16 rfl rfl rfl rfl (two_of HT_.out (by kernel_rfl)) (by decide) (by decide) (fun K hK => ?_) (fun K hK => ?_)
                     ·skip
                      refine goes_ Try.func13 (by kernel_rfl) rfl #[.agg #[.int .i64 ((rd_T43 l0 x10_1).f0), .int .i64 ((rd_T43 l0 x10_1).f1.f0), .int .i64 ((rd_T43 l0 x10_1).f1.f1), .int .i64 ((rd_T43 l0 x10_1).f1.f2), .int .i64 ((rd_T43 l0 x10_1).f1.f3), .slice A292_5 ((rd_T43 l0 x10_1).f2).length c292_5, .int .i64 ((rd_T43 l0 x10_1).f3), .int .i64 ((rd_T43 l0 x10_1).f4.f0), .int .i64 ((rd_T43 l0 x10_1).f4.f1), .int .i64 ((rd_T43 l0 x10_1).f4.f2)]] (by rfl) rfl rfl (by (try simp only [List.map_toArray, List.map_cons, List.map_nil]); first | done | rfl | (simp only [List.length_drop, List.length_take]; rfl)) ?_
                      with_reducible refine (pylonlaw05_plays.calls k1 ((rd_T43 l0 x10_1).f0) ((rd_T43 l0 x10_1).f1.f0) ((rd_T43 l0 x10_1).f1.f1) ((rd_T43 l0 x10_1).f1.f2) ((rd_T43 l0 x10_1).f1.f3) _ _ ((rd_T43 l0 x10_1).f2) ((rd_T43 l0 x10_1).f3) ((rd_T43 l0 x10_1).f4.f0) ((rd_T43 l0 x10_1).f4.f1) ((rd_T43 l0 x10_1).f4.f2) t293 t294 t295 t296 t299 t300 _ ?side1 ?side2 A8.out).mono ?_
                      (case side1 => repeat (first | exact (Kd.C_below HR292_5.out HB.out) | (with_reducible refine Kd.C_alloc ?_ _) | (with_reducible refine Kd.C_drewN ?_ _) | (with_reducible refine Kd.C_drew ?_)))
                      (case side2 => exact HC292_5.out)
                      rintro e w64 ⟨v297, rfl, ho0, hb⟩
                      refine ⟨_, rfl, ?_⟩
                      have n0_ := AX (Kd.R_lower ho0 (below_size bw))
                      have n1_ := AX (bkb BK310 hb)
                      have n2_ := AX (below_step bw hb)
                      clear BK310
                      clear HB
                      have HO298 := n0_
                      have BK310 := n1_
                      have HB := n2_
                      clear n0_ n1_ n2_
                      (try clear hb)
                      (try clear hb2)
                      (try clear hk)
                      (try clear hi)
                      (try clear ho0)
                      refine hK.out _ _ ⟨(bcl HB hw292_0), (bcl HB hw292_1), (bcl HB hw292_2), (bcl HB hw292_3), (bcl HB hw292_4), (bcl HB hw292_5), (bcl HB hw292_6), (bcl HB hw292_7), (bcl HB hw292_8), (bcl HB hw292_9), (bcl HB hw301_0), (bcl HB hw301_1), (bcl HB hw301_2), (bcl HB hw301_3), (bcl HB hw301_4), (bcl HB hw301_5), (bcl HB hw301_6), (bcl HB hw301_7), (bcl HB hw301_8), (bcl HB hw301_9)⟩ (fun hHeld => ?_)
                      clear hK K
                      refine norm_ (a' := ?_) ?_ ?_
                      rotate_left
                      ·show Act.put _ (some 17) _ = _
                       simp only [Act.put, List.setIfInBounds_toArray, List.set_cons_zero, List.set_cons_succ, i64_w, i32_w]
                       rfl
                      exact norm_ (by first | (simp only [putAll, Act.put, List.setIfInBounds_toArray, List.set_cons_zero, List.set_cons_succ]; done) | (simp only [putAll, Act.put, List.setIfInBounds_toArray, List.set_cons_zero, List.set_cons_succ]; rfl)) (hJ4_10 (v297, gb310) _ ⟨hHeld, (kr HO298), (bkn BK310), GW310.out, GE310.out, bw⟩)
                     ·skip
                      refine box_step ?hg (N := 5) ?hd (cs := #[.int .i64 0, .int .i64 0, .int .i64 0, .slice none 0 0, .bool false, .int .i64 0]) (t := 40) ?hr ?_; (case hd => rfl); (case hg => rfl); (case hr => first | (go_simp; done) | (go_simp; rfl))
                      intro gb311 hg w64 hbox hb
                      have n0_ := AX (bkb BK310 hb)
                      have n1_ := AX (below_step bw hb)
                      have n2_ := AX (hbox)
                      have n3_ := gwl (w := w) hg bw
                      have n4_ := gwl (w := w) hg bw
                      have n5_ := nbl hg (bkn BK310)
                      have n6_ := nbg hg (bkn BK310)
                      clear BK310
                      clear HB
                      have BK310 := n0_
                      have HB := n1_
                      have BK311 := n2_
                      have GW311 := n3_
                      have GE311 := n4_
                      have NB310_311 := n5_
                      have NB311_310 := n6_
                      clear n0_ n1_ n2_ n3_ n4_ n5_ n6_
                      clear hb hbox hg
                      refine hK.out _ _ ⟨(bcl HB hw292_0), (bcl HB hw292_1), (bcl HB hw292_2), (bcl HB hw292_3), (bcl HB hw292_4), (bcl HB hw292_5), (bcl HB hw292_6), (bcl HB hw292_7), (bcl HB hw292_8), (bcl HB hw292_9), (bcl HB hw301_0), (bcl HB hw301_1), (bcl HB hw301_2), (bcl HB hw301_3), (bcl HB hw301_4), (bcl HB hw301_5), (bcl HB hw301_6), (bcl HB hw301_7), (bcl HB hw301_8), (bcl HB hw301_9)⟩ (fun hHeld => ?_)
                      clear hK K
                      refine norm_ (a' := ?_) ?_ ?_
                      rotate_left
                      ·show Act.put _ (some 5) _ = _
                       simp only [Act.put, List.setIfInBounds_toArray, List.set_cons_zero, List.set_cons_succ, i64_w, i32_w]
                       rfl
                      exact norm_ (by first | (simp only [putAll, Act.put, List.setIfInBounds_toArray, List.set_cons_zero, List.set_cons_succ]; done) | (simp only [putAll, Act.put, List.setIfInBounds_toArray, List.set_cons_zero, List.set_cons_succ]; rfl)) (hJ10_11 (gb310, gb311) _ ⟨hHeld, (bkn BK310), (bkn BK311), GW310.out, GE310.out, NB311_310.out, NB310_311.out, GW311.out, GE311.out, bw⟩)
                   ·skip
                    rintro v297 w63 ⟨hS_, h0_, h1_⟩
                    have n0_ : Aside0 (Kd.R k33 33 w63 w.heap.size (fun _ => True) v297 t296) := ⟨h0_⟩
                    have n1_ : Aside0 (Below w.heap.size w w63) := ⟨h1_⟩
                    clear HB
                    clear h0_ h1_
                    have HO298 := n0_
                    have HB := n1_
                    clear n0_ n1_
                    have hHeld := hS_
                    refine norm_ (a' := ?_) ?_ ?_
                    rotate_left
                    ·simp only [putAll, Act.put, List.setIfInBounds_toArray, List.set_cons_zero, List.set_cons_succ]
                     rfl
                    refine three_ (i := 9) (j := 10) (k := 11) (Ni := some 22) (Nj := some 4) (Nk := some 5) pylonlaw05_HolidayAll.q13 pylonlaw05_HolidayAll.q14 pylonlaw05_HolidayAll.q15 rfl rfl rfl rfl rfl rfl (three_of HT_.out (by kernel_rfl)) (by decide) (by decide) (by decide) (fun K hK => ?_) (fun K hK => ?_) (fun K hK => ?_)
                    ·skip
                     refine goes_ Try.func14 (by kernel_rfl) rfl #[.agg #[.int .i64 ((rd_T43 l0 x10_1).f0), .int .i64 ((rd_T43 l0 x10_1).f1.f0), .int .i64 ((rd_T43 l0 x10_1).f1.f1), .int .i64 ((rd_T43 l0 x10_1).f1.f2), .int .i64 ((rd_T43 l0 x10_1).f1.f3), .slice A292_5 ((rd_T43 l0 x10_1).f2).length c292_5, .int .i64 ((rd_T43 l0 x10_1).f3), .int .i64 ((rd_T43 l0 x10_1).f4.f0), .int .i64 ((rd_T43 l0 x10_1).f4.f1), .int .i64 ((rd_T43 l0 x10_1).f4.f2)]] (by rfl) rfl rfl (by (try simp only [List.map_toArray, List.map_cons, List.map_nil]); first | done | rfl | (simp only [List.length_drop, List.length_take]; rfl)) ?_
                     with_reducible refine (pylonlaw05_wants.calls k1 ((rd_T43 l0 x10_1).f0) ((rd_T43 l0 x10_1).f1.f0) ((rd_T43 l0 x10_1).f1.f1) ((rd_T43 l0 x10_1).f1.f2) ((rd_T43 l0 x10_1).f1.f3) _ _ ((rd_T43 l0 x10_1).f2) ((rd_T43 l0 x10_1).f3) ((rd_T43 l0 x10_1).f4.f0) ((rd_T43 l0 x10_1).f4.f1) ((rd_T43 l0 x10_1).f4.f2) t302 t303 t304 t305 t308 t309 _ ?side1 ?side2 A9.out).mono ?_
                     (case side1 => repeat (first | exact (Kd.C_below HR301_5.out HB.out) | (with_reducible refine Kd.C_alloc ?_ _) | (with_reducible refine Kd.C_drewN ?_ _) | (with_reducible refine Kd.C_drew ?_)))
                     (case side2 => exact HC301_5.out)
                     rintro e w64 ⟨v306, rfl, ho0, hb⟩
                     refine ⟨_, rfl, ?_⟩
                     have n0_ := AX (Kd.R_elder' (kr HO298) (Kd.R_base ho0) hb)
                     have n1_ := AX (Kd.R_lower (Kd.R_new' ho0 (Kd.R_lt (kr HO298))) (below_size bw))
                     have n2_ := AX (below_step bw hb)
                     clear HO298
                     clear HB
                     have HO298 := n0_
                     have HO307 := n1_
                     have HB := n2_
                     clear n0_ n1_ n2_
                     (try clear hb)
                     (try clear hb2)
                     (try clear hk)
                     (try clear hi)
                     (try clear ho0)
                     refine hK.out _ _ ⟨(bcl HB hw292_0), (bcl HB hw292_1), (bcl HB hw292_2), (bcl HB hw292_3), (bcl HB hw292_4), (bcl HB hw292_5), (bcl HB hw292_6), (bcl HB hw292_7), (bcl HB hw292_8), (bcl HB hw292_9), (bcl HB hw301_0), (bcl HB hw301_1), (bcl HB hw301_2), (bcl HB hw301_3), (bcl HB hw301_4), (bcl HB hw301_5), (bcl HB hw301_6), (bcl HB hw301_7), (bcl HB hw301_8), (bcl HB hw301_9)⟩ (fun hHeld => ?_)
                     clear hK K
                     refine norm_ (a' := ?_) ?_ ?_
                     rotate_left
                     ·show Act.put _ (some 22) _ = _
                      simp only [Act.put, List.setIfInBounds_toArray, List.set_cons_zero, List.set_cons_succ, i64_w, i32_w]
                      rfl
                     exact norm_ (by first | (simp only [putAll, Act.put, List.setIfInBounds_toArray, List.set_cons_zero, List.set_cons_succ]; done) | (simp only [putAll, Act.put, List.setIfInBounds_toArray, List.set_cons_zero, List.set_cons_succ]; rfl)) (hJ4_9 (v297, v306) _ ⟨hHeld, (by (with_reducible repeat (first | apply Kd.R_alloc | apply Kd.R_drewN | apply Kd.R_drew)); exact Kd.R_mono HO298.out (fun _ hk => hk.2)), (by (with_reducible repeat (first | apply Kd.R_alloc | apply Kd.R_drewN | apply Kd.R_drew)); exact Kd.R_mono HO307.out (fun _ hk => hk.2)), bw⟩)
                    ·skip
                     refine box_step ?hg (N := 4) ?hd (cs := #[.int .i64 0, .int .i64 0, .int .i64 0, .slice none 0 0, .bool false, .int .i64 0]) (t := 40) ?hr ?_; (case hd => rfl); (case hg => rfl); (case hr => first | (go_simp; done) | (go_simp; rfl))
                     intro gb310 hg w64 hbox hb
                     have n0_ := AX (Kd.R_below (kr HO298) hb)
                     have n1_ := AX (below_step bw hb)
                     have n2_ := AX (hbox)
                     have n3_ := gwl (w := w) hg bw
                     have n4_ := gwl (w := w) hg bw
                     clear HO298
                     clear HB
                     have HO298 := n0_
                     have HB := n1_
                     have BK310 := n2_
                     have GW310 := n3_
                     have GE310 := n4_
                     clear n0_ n1_ n2_ n3_ n4_
                     clear hb hbox hg
                     refine hK.out _ _ ⟨(bcl HB hw292_0), (bcl HB hw292_1), (bcl HB hw292_2), (bcl HB hw292_3), (bcl HB hw292_4), (bcl HB hw292_5), (bcl HB hw292_6), (bcl HB hw292_7), (bcl HB hw292_8), (bcl HB hw292_9), (bcl HB hw301_0), (bcl HB hw301_1), (bcl HB hw301_2), (bcl HB hw301_3), (bcl HB hw301_4), (bcl HB hw301_5), (bcl HB hw301_6), (bcl HB hw301_7), (bcl HB hw301_8), (bcl HB hw301_9)⟩ (fun hHeld => ?_)
                     clear hK K
                     refine norm_ (a' := ?_) ?_ ?_
                     rotate_left
                     ·show Act.put _ (some 4) _ = _
                      simp only [Act.put, List.setIfInBounds_toArray, List.set_cons_zero, List.set_cons_succ, i64_w, i32_w]
                      rfl
                     exact norm_ (by first | (simp only [putAll, Act.put, List.setIfInBounds_toArray, List.set_cons_zero, List.set_cons_succ]; done) | (simp only [putAll, Act.put, List.setIfInBounds_toArray, List.set_cons_zero, List.set_cons_succ]; rfl)) (hJ4_10 (v297, gb310) _ ⟨hHeld, (kr HO298), (bkn BK310), GW310.out, GE310.out, bw⟩)
                    ·skip
                     refine box_step ?hg (N := 5) ?hd (cs := #[.int .i64 0, .int .i64 0, .int .i64 0, .slice none 0 0, .bool false, .int .i64 0]) (t := 40) ?hr ?_; (case hd => rfl); (case hg => rfl); (case hr => first | (go_simp; done) | (go_simp; rfl))
                     intro gb311 hg w64 hbox hb
                     have n0_ := AX (Kd.R_below (kr HO298) hb)
                     have n1_ := AX (below_step bw hb)
                     have n2_ := AX (hbox)
                     have n3_ := gwl (w := w) hg bw
                     have n4_ := gwl (w := w) hg bw
                     clear HO298
                     clear HB
                     have HO298 := n0_
                     have HB := n1_
                     have BK311 := n2_
                     have GW311 := n3_
                     have GE311 := n4_
                     clear n0_ n1_ n2_ n3_ n4_
                     clear hb hbox hg
                     refine hK.out _ _ ⟨(bcl HB hw292_0), (bcl HB hw292_1), (bcl HB hw292_2), (bcl HB hw292_3), (bcl HB hw292_4), (bcl HB hw292_5), (bcl HB hw292_6), (bcl HB hw292_7), (bcl HB hw292_8), (bcl HB hw292_9), (bcl HB hw301_0), (bcl HB hw301_1), (bcl HB hw301_2), (bcl HB hw301_3), (bcl HB hw301_4), (bcl HB hw301_5), (bcl HB hw301_6), (bcl HB hw301_7), (bcl HB hw301_8), (bcl HB hw301_9)⟩ (fun hHeld => ?_)
                     clear hK K
                     refine norm_ (a' := ?_) ?_ ?_
                     rotate_left
                     ·show Act.put _ (some 5) _ = _
                      simp only [Act.put, List.setIfInBounds_toArray, List.set_cons_zero, List.set_cons_succ, i64_w, i32_w]
                      rfl
                     exact norm_ (by first | (simp only [putAll, Act.put, List.setIfInBounds_toArray, List.set_cons_zero, List.set_cons_succ]; done) | (simp only [putAll, Act.put, List.setIfInBounds_toArray, List.set_cons_zero, List.set_cons_succ]; rfl)) (hJ4_11 (v297, gb311) _ ⟨hHeld, (kr HO298), (bkn BK311), GW311.out, GE311.out, bw⟩)
                  ·skip
                   rintro ⟨gb310, gb311⟩ w64 ⟨hS_, h0_, h1_, h2_, h3_, h4_, h5_, h6_, h7_, h8_⟩
                   have n0_ : Aside0 (w64.heap[gb310]? = some (.cells #[.int .i64 0, .int .i64 0, .int .i64 0, .slice none 0 0, .bool false, .int .i64 0] 40 (0, 0))) := ⟨h0_⟩
                   have n1_ : Aside0 (w64.heap[gb311]? = some (.cells #[.int .i64 0, .int .i64 0, .int .i64 0, .slice none 0 0, .bool false, .int .i64 0] 40 (0, 0))) := ⟨h1_⟩
                   have n2_ : Aside0 (w.heap.size ≤ gb310) := ⟨h2_⟩
                   have n3_ : Aside0 (w.heap.size ≤ gb310) := ⟨h3_⟩
                   have n4_ : Aside0 (gb311 ≠ gb310) := ⟨h4_⟩
                   have n5_ : Aside0 (gb310 ≠ gb311) := ⟨h5_⟩
                   have n6_ : Aside0 (w.heap.size ≤ gb311) := ⟨h6_⟩
                   have n7_ : Aside0 (w.heap.size ≤ gb311) := ⟨h7_⟩
                   have n8_ : Aside0 (Below w.heap.size w w64) := ⟨h8_⟩
                   clear HB
                   clear h0_ h1_ h2_ h3_ h4_ h5_ h6_ h7_ h8_
                   have BK310 := n0_
                   have BK311 := n1_
                   have GW310 := n2_
                   have GE310 := n3_
                   have NB311_310 := n4_
                   have NB310_311 := n5_
                   have GW311 := n6_
                   have GE311 := n7_
                   have HB := n8_
                   clear n0_ n1_ n2_ n3_ n4_ n5_ n6_ n7_ n8_
                   have hHeld := hS_
                   refine norm_ (a' := ?_) ?_ ?_
                   rotate_left
                   ·simp only [putAll, Act.put, List.setIfInBounds_toArray, List.set_cons_zero, List.set_cons_succ]
                    rfl
                   refine one_ (i := 4) (N := some 17) pylonlaw05_HolidayAll.q12 rfl rfl (one_of HT_.out (by kernel_rfl)) (by decide) (fun K hK => ?_)
                   refine goes_ Try.func13 (by kernel_rfl) rfl #[.agg #[.int .i64 ((rd_T43 l0 x10_1).f0), .int .i64 ((rd_T43 l0 x10_1).f1.f0), .int .i64 ((rd_T43 l0 x10_1).f1.f1), .int .i64 ((rd_T43 l0 x10_1).f1.f2), .int .i64 ((rd_T43 l0 x10_1).f1.f3), .slice A292_5 ((rd_T43 l0 x10_1).f2).length c292_5, .int .i64 ((rd_T43 l0 x10_1).f3), .int .i64 ((rd_T43 l0 x10_1).f4.f0), .int .i64 ((rd_T43 l0 x10_1).f4.f1), .int .i64 ((rd_T43 l0 x10_1).f4.f2)]] (by rfl) rfl rfl (by (try simp only [List.map_toArray, List.map_cons, List.map_nil]); first | done | rfl | (simp only [List.length_drop, List.length_take]; rfl)) ?_
                   with_reducible refine (pylonlaw05_plays.calls k1 ((rd_T43 l0 x10_1).f0) ((rd_T43 l0 x10_1).f1.f0) ((rd_T43 l0 x10_1).f1.f1) ((rd_T43 l0 x10_1).f1.f2) ((rd_T43 l0 x10_1).f1.f3) _ _ ((rd_T43 l0 x10_1).f2) ((rd_T43 l0 x10_1).f3) ((rd_T43 l0 x10_1).f4.f0) ((rd_T43 l0 x10_1).f4.f1) ((rd_T43 l0 x10_1).f4.f2) t293 t294 t295 t296 t299 t300 _ ?side1 ?side2 A8.out).mono ?_
                   (case side1 => repeat (first | exact (Kd.C_below HR292_5.out HB.out) | (with_reducible refine Kd.C_alloc ?_ _) | (with_reducible refine Kd.C_drewN ?_ _) | (with_reducible refine Kd.C_drew ?_)))
                   (case side2 => exact HC292_5.out)
                   rintro e w65 ⟨v297, rfl, ho0, hb⟩
                   refine ⟨_, rfl, ?_⟩
                   have n0_ := AX (Kd.R_lower ho0 (below_size bw))
                   have n1_ := AX (bkb BK310 hb)
                   have n2_ := AX (bkb BK311 hb)
                   have n3_ := AX (below_step bw hb)
                   clear BK310
                   clear BK311
                   clear HB
                   have HO298 := n0_
                   have BK310 := n1_
                   have BK311 := n2_
                   have HB := n3_
                   clear n0_ n1_ n2_ n3_
                   (try clear hb)
                   (try clear hb2)
                   (try clear hk)
                   (try clear hi)
                   (try clear ho0)
                   refine hK.out _ _ ⟨(bcl HB hw292_0), (bcl HB hw292_1), (bcl HB hw292_2), (bcl HB hw292_3), (bcl HB hw292_4), (bcl HB hw292_5), (bcl HB hw292_6), (bcl HB hw292_7), (bcl HB hw292_8), (bcl HB hw292_9), (bcl HB hw301_0), (bcl HB hw301_1), (bcl HB hw301_2), (bcl HB hw301_3), (bcl HB hw301_4), (bcl HB hw301_5), (bcl HB hw301_6), (bcl HB hw301_7), (bcl HB hw301_8), (bcl HB hw301_9)⟩ (fun hHeld => ?_)
                   clear hK K
                   refine norm_ (a' := ?_) ?_ ?_
                   rotate_left
                   ·show Act.put _ (some 17) _ = _
                    simp only [Act.put, List.setIfInBounds_toArray, List.set_cons_zero, List.set_cons_succ, i64_w, i32_w]
                    rfl
                   exact norm_ (by first | (simp only [putAll, Act.put, List.setIfInBounds_toArray, List.set_cons_zero, List.set_cons_succ]; done) | (simp only [putAll, Act.put, List.setIfInBounds_toArray, List.set_cons_zero, List.set_cons_succ]; rfl)) (hJ4_10_11 (v297, gb310, gb311) _ ⟨hHeld, (kr HO298), (bkn BK310), (bkn BK311), GW310.out, GE310.out, NB311_310.out, NB310_311.out, GW311.out, GE311.out, bw⟩)
                 ·skip
                  rintro ⟨v297, gb311⟩ w64 ⟨hS_, h0_, h1_, h2_, h3_, h4_⟩
                  have n0_ : Aside0 (Kd.R k33 33 w64 w.heap.size (fun _ => True) v297 t296) := ⟨h0_⟩
                  have n1_ : Aside0 (w64.heap[gb311]? = some (.cells #[.int .i64 0, .int .i64 0, .int .i64 0, .slice none 0 0, .bool false, .int .i64 0] 40 (0, 0))) := ⟨h1_⟩
                  have n2_ : Aside0 (w.heap.size ≤ gb311) := ⟨h2_⟩
                  have n3_ : Aside0 (w.heap.size ≤ gb311) := ⟨h3_⟩
                  have n4_ : Aside0 (Below w.heap.size w w64) := ⟨h4_⟩
                  clear HB
                  clear h0_ h1_ h2_ h3_ h4_
                  have HO298 := n0_
                  have BK311 := n1_
                  have GW311 := n2_
                  have GE311 := n3_
                  have HB := n4_
                  clear n0_ n1_ n2_ n3_ n4_
                  have hHeld := hS_
                  refine norm_ (a' := ?_) ?_ ?_
                  rotate_left
                  ·simp only [putAll, Act.put, List.setIfInBounds_toArray, List.set_cons_zero, List.set_cons_succ]
                   rfl
                  refine two_ (i := 9) (j := 10) (Ni := some 22) (Nj := some 4) pylonlaw05_HolidayAll.q11 pylonlaw05_HolidayAll.q12 rfl rfl rfl rfl (two_of HT_.out (by kernel_rfl)) (by decide) (by decide) (fun K hK => ?_) (fun K hK => ?_)
                  ·skip
                   refine goes_ Try.func14 (by kernel_rfl) rfl #[.agg #[.int .i64 ((rd_T43 l0 x10_1).f0), .int .i64 ((rd_T43 l0 x10_1).f1.f0), .int .i64 ((rd_T43 l0 x10_1).f1.f1), .int .i64 ((rd_T43 l0 x10_1).f1.f2), .int .i64 ((rd_T43 l0 x10_1).f1.f3), .slice A292_5 ((rd_T43 l0 x10_1).f2).length c292_5, .int .i64 ((rd_T43 l0 x10_1).f3), .int .i64 ((rd_T43 l0 x10_1).f4.f0), .int .i64 ((rd_T43 l0 x10_1).f4.f1), .int .i64 ((rd_T43 l0 x10_1).f4.f2)]] (by rfl) rfl rfl (by (try simp only [List.map_toArray, List.map_cons, List.map_nil]); first | done | rfl | (simp only [List.length_drop, List.length_take]; rfl)) ?_
                   with_reducible refine (pylonlaw05_wants.calls k1 ((rd_T43 l0 x10_1).f0) ((rd_T43 l0 x10_1).f1.f0) ((rd_T43 l0 x10_1).f1.f1) ((rd_T43 l0 x10_1).f1.f2) ((rd_T43 l0 x10_1).f1.f3) _ _ ((rd_T43 l0 x10_1).f2) ((rd_T43 l0 x10_1).f3) ((rd_T43 l0 x10_1).f4.f0) ((rd_T43 l0 x10_1).f4.f1) ((rd_T43 l0 x10_1).f4.f2) t302 t303 t304 t305 t308 t309 _ ?side1 ?side2 A9.out).mono ?_
                   (case side1 => repeat (first | exact (Kd.C_below HR301_5.out HB.out) | (with_reducible refine Kd.C_alloc ?_ _) | (with_reducible refine Kd.C_drewN ?_ _) | (with_reducible refine Kd.C_drew ?_)))
                   (case side2 => exact HC301_5.out)
                   rintro e w65 ⟨v306, rfl, ho0, hb⟩
                   refine ⟨_, rfl, ?_⟩
                   have n0_ := AX (Kd.R_elder' (kr HO298) (Kd.R_base ho0) hb)
                   have n1_ := AX (Kd.R_lower (Kd.R_new' ho0 (Kd.R_lt (kr HO298))) (below_size bw))
                   have n2_ := AX (bkb BK311 hb)
                   have n3_ := AX (below_step bw hb)
                   clear HO298
                   clear BK311
                   clear HB
                   have HO298 := n0_
                   have HO307 := n1_
                   have BK311 := n2_
                   have HB := n3_
                   clear n0_ n1_ n2_ n3_
                   (try clear hb)
                   (try clear hb2)
                   (try clear hk)
                   (try clear hi)
                   (try clear ho0)
                   refine hK.out _ _ ⟨(bcl HB hw292_0), (bcl HB hw292_1), (bcl HB hw292_2), (bcl HB hw292_3), (bcl HB hw292_4), (bcl HB hw292_5), (bcl HB hw292_6), (bcl HB hw292_7), (bcl HB hw292_8), (bcl HB hw292_9), (bcl HB hw301_0), (bcl HB hw301_1), (bcl HB hw301_2), (bcl HB hw301_3), (bcl HB hw301_4), (bcl HB hw301_5), (bcl HB hw301_6), (bcl HB hw301_7), (bcl HB hw301_8), (bcl HB hw301_9)⟩ (fun hHeld => ?_)
                   clear hK K
                   refine norm_ (a' := ?_) ?_ ?_
                   rotate_left
                   ·show Act.put _ (some 22) _ = _
                    simp only [Act.put, List.setIfInBounds_toArray, List.set_cons_zero, List.set_cons_succ, i64_w, i32_w]
                    rfl
                   exact norm_ (by first | (simp only [putAll, Act.put, List.setIfInBounds_toArray, List.set_cons_zero, List.set_cons_succ]; done) | (simp only [putAll, Act.put, List.setIfInBounds_toArray, List.set_cons_zero, List.set_cons_succ]; rfl)) (hJ4_9_11 (v297, v306, gb311) _ ⟨hHeld, (by (with_reducible repeat (first | apply Kd.R_alloc | apply Kd.R_drewN | apply Kd.R_drew)); exact Kd.R_mono HO298.out (fun _ hk => hk.2)), (by (with_reducible repeat (first | apply Kd.R_alloc | apply Kd.R_drewN | apply Kd.R_drew)); exact Kd.R_mono HO307.out (fun _ hk => hk.2)), (bkn BK311), GW311.out, GE311.out, bw⟩)
                  ·skip
                   refine box_step ?hg (N := 4) ?hd (cs := #[.int .i64 0, .int .i64 0, .int .i64 0, .slice none 0 0, .bool false, .int .i64 0]) (t := 40) ?hr ?_; (case hd => rfl); (case hg => rfl); (case hr => first | (go_simp; done) | (go_simp; rfl))
                   intro gb310 hg w65 hbox hb
                   have n0_ := AX (Kd.R_below (kr HO298) hb)
                   have n1_ := AX (bkb BK311 hb)
                   have n2_ := AX (below_step bw hb)
                   have n3_ := AX (hbox)
                   have n4_ := gwl (w := w) hg bw
                   have n5_ := gwl (w := w) hg bw
                   have n6_ := nbl hg (bkn BK311)
                   have n7_ := nbg hg (bkn BK311)
                   clear HO298
                   clear BK311
                   clear HB
                   have HO298 := n0_
                   have BK311 := n1_
                   have HB := n2_
                   have BK310 := n3_
                   have GW310 := n4_
                   have GE310 := n5_
                   have NB311_310 := n6_
                   have NB310_311 := n7_
                   clear n0_ n1_ n2_ n3_ n4_ n5_ n6_ n7_
                   clear hb hbox hg
                   refine hK.out _ _ ⟨(bcl HB hw292_0), (bcl HB hw292_1), (bcl HB hw292_2), (bcl HB hw292_3), (bcl HB hw292_4), (bcl HB hw292_5), (bcl HB hw292_6), (bcl HB hw292_7), (bcl HB hw292_8), (bcl HB hw292_9), (bcl HB hw301_0), (bcl HB hw301_1), (bcl HB hw301_2), (bcl HB hw301_3), (bcl HB hw301_4), (bcl HB hw301_5), (bcl HB hw301_6), (bcl HB hw301_7), (bcl HB hw301_8), (bcl HB hw301_9)⟩ (fun hHeld => ?_)
                   clear hK K
                   refine norm_ (a' := ?_) ?_ ?_
                   rotate_left
                   ·show Act.put _ (some 4) _ = _
                    simp only [Act.put, List.setIfInBounds_toArray, List.set_cons_zero, List.set_cons_succ, i64_w, i32_w]
                    rfl
                   exact norm_ (by first | (simp only [putAll, Act.put, List.setIfInBounds_toArray, List.set_cons_zero, List.set_cons_succ]; done) | (simp only [putAll, Act.put, List.setIfInBounds_toArray, List.set_cons_zero, List.set_cons_succ]; rfl)) (hJ4_10_11 (v297, gb310, gb311) _ ⟨hHeld, (kr HO298), (bkn BK310), (bkn BK311), GW310.out, GE310.out, NB311_310.out, NB310_311.out, GW311.out, GE311.out, bw⟩)
                ·skip
                 rintro ⟨v297, gb310⟩ w64 ⟨hS_, h0_, h1_, h2_, h3_, h4_⟩
                 have n0_ : Aside0 (Kd.R k33 33 w64 w.heap.size (fun _ => True) v297 t296) := ⟨h0_⟩
                 have n1_ : Aside0 (w64.heap[gb310]? = some (.cells #[.int .i64 0, .int .i64 0, .int .i64 0, .slice none 0 0, .bool false, .int .i64 0] 40 (0, 0))) := ⟨h1_⟩
                 have n2_ : Aside0 (w.heap.size ≤ gb310) := ⟨h2_⟩
                 have n3_ : Aside0 (w.heap.size ≤ gb310) := ⟨h3_⟩
                 have n4_ : Aside0 (Below w.heap.size w w64) := ⟨h4_⟩
                 clear HB
                 clear h0_ h1_ h2_ h3_ h4_
                 have HO298 := n0_
                 have BK310 := n1_
                 have GW310 := n2_
                 have GE310 := n3_
                 have HB := n4_
                 clear n0_ n1_ n2_ n3_ n4_
                 have hHeld := hS_
                 refine norm_ (a' := ?_) ?_ ?_
                 rotate_left
                 ·simp only [putAll, Act.put, List.setIfInBounds_toArray, List.set_cons_zero, List.set_cons_succ]
                  rfl
                 refine two_ (i := 9) (j := 11) (Ni := some 22) (Nj := some 5) pylonlaw05_HolidayAll.q10 pylonlaw05_HolidayAll.q12 rfl rfl rfl rfl (two_of HT_.out (by kernel_rfl)) (by decide) (by decide) (fun K hK => ?_) (fun K hK => ?_)
                 ·skip
                  refine goes_ Try.func14 (by kernel_rfl) rfl #[.agg #[.int .i64 ((rd_T43 l0 x10_1).f0), .int .i64 ((rd_T43 l0 x10_1).f1.f0), .int .i64 ((rd_T43 l0 x10_1).f1.f1), .int .i64 ((rd_T43 l0 x10_1).f1.f2), .int .i64 ((rd_T43 l0 x10_1).f1.f3), .slice A292_5 ((rd_T43 l0 x10_1).f2).length c292_5, .int .i64 ((rd_T43 l0 x10_1).f3), .int .i64 ((rd_T43 l0 x10_1).f4.f0), .int .i64 ((rd_T43 l0 x10_1).f4.f1), .int .i64 ((rd_T43 l0 x10_1).f4.f2)]] (by rfl) rfl rfl (by (try simp only [List.map_toArray, List.map_cons, List.map_nil]); first | done | rfl | (simp only [List.length_drop, List.length_take]; rfl)) ?_
                  with_reducible refine (pylonlaw05_wants.calls k1 ((rd_T43 l0 x10_1).f0) ((rd_T43 l0 x10_1).f1.f0) ((rd_T43 l0 x10_1).f1.f1) ((rd_T43 l0 x10_1).f1.f2) ((rd_T43 l0 x10_1).f1.f3) _ _ ((rd_T43 l0 x10_1).f2) ((rd_T43 l0 x10_1).f3) ((rd_T43 l0 x10_1).f4.f0) ((rd_T43 l0 x10_1).f4.f1) ((rd_T43 l0 x10_1).f4.f2) t302 t303 t304 t305 t308 t309 _ ?side1 ?side2 A9.out).mono ?_
                  (case side1 => repeat (first | exact (Kd.C_below HR301_5.out HB.out) | (with_reducible refine Kd.C_alloc ?_ _) | (with_reducible refine Kd.C_drewN ?_ _) | (with_reducible refine Kd.C_drew ?_)))
                  (case side2 => exact HC301_5.out)
                  rintro e w65 ⟨v306, rfl, ho0, hb⟩
                  refine ⟨_, rfl, ?_⟩
                  have n0_ := AX (Kd.R_elder' (kr HO298) (Kd.R_base ho0) hb)
                  have n1_ := AX (Kd.R_lower (Kd.R_new' ho0 (Kd.R_lt (kr HO298))) (below_size bw))
                  have n2_ := AX (bkb BK310 hb)
                  have n3_ := AX (below_step bw hb)
                  clear HO298
                  clear BK310
                  clear HB
                  have HO298 := n0_
                  have HO307 := n1_
                  have BK310 := n2_
                  have HB := n3_
                  clear n0_ n1_ n2_ n3_
                  (try clear hb)
                  (try clear hb2)
                  (try clear hk)
                  (try clear hi)
                  (try clear ho0)
                  refine hK.out _ _ ⟨(bcl HB hw292_0), (bcl HB hw292_1), (bcl HB hw292_2), (bcl HB hw292_3), (bcl HB hw292_4), (bcl HB hw292_5), (bcl HB hw292_6), (bcl HB hw292_7), (bcl HB hw292_8), (bcl HB hw292_9), (bcl HB hw301_0), (bcl HB hw301_1), (bcl HB hw301_2), (bcl HB hw301_3), (bcl HB hw301_4), (bcl HB hw301_5), (bcl HB hw301_6), (bcl HB hw301_7), (bcl HB hw301_8), (bcl HB hw301_9)⟩ (fun hHeld => ?_)
                  clear hK K
                  refine norm_ (a' := ?_) ?_ ?_
                  rotate_left
                  ·show Act.put _ (some 22) _ = _
                   simp only [Act.put, List.setIfInBounds_toArray, List.set_cons_zero, List.set_cons_succ, i64_w, i32_w]
                   rfl
                  exact norm_ (by first | (simp only [putAll, Act.put, List.setIfInBounds_toArray, List.set_cons_zero, List.set_cons_succ]; done) | (simp only [putAll, Act.put, List.setIfInBounds_toArray, List.set_cons_zero, List.set_cons_succ]; rfl)) (hJ4_9_10 (v297, v306, gb310) _ ⟨hHeld, (by (with_reducible repeat (first | apply Kd.R_alloc | apply Kd.R_drewN | apply Kd.R_drew)); exact Kd.R_mono HO298.out (fun _ hk => hk.2)), (by (with_reducible repeat (first | apply Kd.R_alloc | apply Kd.R_drewN | apply Kd.R_drew)); exact Kd.R_mono HO307.out (fun _ hk => hk.2)), (bkn BK310), GW310.out, GE310.out, bw⟩)
                 ·skip
                  refine box_step ?hg (N := 5) ?hd (cs := #[.int .i64 0, .int .i64 0, .int .i64 0, .slice none 0 0, .bool false, .int .i64 0]) (t := 40) ?hr ?_; (case hd => rfl); (case hg => rfl); (case hr => first | (go_simp; done) | (go_simp; rfl))
                  intro gb311 hg w65 hbox hb
                  have n0_ := AX (Kd.R_below (kr HO298) hb)
                  have n1_ := AX (bkb BK310 hb)
                  have n2_ := AX (below_step bw hb)
                  have n3_ := AX (hbox)
                  have n4_ := gwl (w := w) hg bw
                  have n5_ := gwl (w := w) hg bw
                  have n6_ := nbl hg (bkn BK310)
                  have n7_ := nbg hg (bkn BK310)
                  clear HO298
                  clear BK310
                  clear HB
                  have HO298 := n0_
                  have BK310 := n1_
                  have HB := n2_
                  have BK311 := n3_
                  have GW311 := n4_
                  have GE311 := n5_
                  have NB310_311 := n6_
                  have NB311_310 := n7_
                  clear n0_ n1_ n2_ n3_ n4_ n5_ n6_ n7_
                  clear hb hbox hg
                  refine hK.out _ _ ⟨(bcl HB hw292_0), (bcl HB hw292_1), (bcl HB hw292_2), (bcl HB hw292_3), (bcl HB hw292_4), (bcl HB hw292_5), (bcl HB hw292_6), (bcl HB hw292_7), (bcl HB hw292_8), (bcl HB hw292_9), (bcl HB hw301_0), (bcl HB hw301_1), (bcl HB hw301_2), (bcl HB hw301_3), (bcl HB hw301_4), (bcl HB hw301_5), (bcl HB hw301_6), (bcl HB hw301_7), (bcl HB hw301_8), (bcl HB hw301_9)⟩ (fun hHeld => ?_)
                  clear hK K
                  refine norm_ (a' := ?_) ?_ ?_
                  rotate_left
                  ·show Act.put _ (some 5) _ = _
                   simp only [Act.put, List.setIfInBounds_toArray, List.set_cons_zero, List.set_cons_succ, i64_w, i32_w]
                   rfl
                  exact norm_ (by first | (simp only [putAll, Act.put, List.setIfInBounds_toArray, List.set_cons_zero, List.set_cons_succ]; done) | (simp only [putAll, Act.put, List.setIfInBounds_toArray, List.set_cons_zero, List.set_cons_succ]; rfl)) (hJ4_10_11 (v297, gb310, gb311) _ ⟨hHeld, (kr HO298), (bkn BK310), (bkn BK311), GW310.out, GE310.out, NB311_310.out, NB310_311.out, GW311.out, GE311.out, bw⟩)
               ·skip
                rintro ⟨v297, v306⟩ w64 ⟨hS_, h0_, h1_, h2_⟩
                have n0_ : Aside0 (Kd.R k33 33 w64 w.heap.size (fun k_ => some k_ ≠ (v306 : Value).ownBlock) v297 t296) := ⟨h0_⟩
                have n1_ : Aside0 (Kd.R k33 33 w64 w.heap.size (fun k_ => some k_ ≠ (v297 : Value).ownBlock) v306 t305) := ⟨h1_⟩
                have n2_ : Aside0 (Below w.heap.size w w64) := ⟨h2_⟩
                clear HB
                clear h0_ h1_ h2_
                have HO298 := n0_
                have HO307 := n1_
                have HB := n2_
                clear n0_ n1_ n2_
                have hHeld := hS_
                refine norm_ (a' := ?_) ?_ ?_
                rotate_left
                ·simp only [putAll, Act.put, List.setIfInBounds_toArray, List.set_cons_zero, List.set_cons_succ]
                 rfl
                refine two_ (i := 10) (j := 11) (Ni := some 4) (Nj := some 5) pylonlaw05_HolidayAll.q10 pylonlaw05_HolidayAll.q11 rfl rfl rfl rfl (two_of HT_.out (by kernel_rfl)) (by decide) (by decide) (fun K hK => ?_) (fun K hK => ?_)
                ·skip
                 refine box_step ?hg (N := 4) ?hd (cs := #[.int .i64 0, .int .i64 0, .int .i64 0, .slice none 0 0, .bool false, .int .i64 0]) (t := 40) ?hr ?_; (case hd => rfl); (case hg => rfl); (case hr => first | (go_simp; done) | (go_simp; rfl))
                 intro gb310 hg w65 hbox hb
                 have n0_ := AX (Kd.R_below (kr HO298) hb)
                 have n1_ := AX (Kd.R_below (kr HO307) hb)
                 have n2_ := AX (below_step bw hb)
                 have n3_ := AX (hbox)
                 have n4_ := gwl (w := w) hg bw
                 have n5_ := gwl (w := w) hg bw
                 clear HO298
                 clear HO307
                 clear HB
                 have HO298 := n0_
                 have HO307 := n1_
                 have HB := n2_
                 have BK310 := n3_
                 have GW310 := n4_
                 have GE310 := n5_
                 clear n0_ n1_ n2_ n3_ n4_ n5_
                 clear hb hbox hg
                 refine hK.out _ _ ⟨(bcl HB hw292_0), (bcl HB hw292_1), (bcl HB hw292_2), (bcl HB hw292_3), (bcl HB hw292_4), (bcl HB hw292_5), (bcl HB hw292_6), (bcl HB hw292_7), (bcl HB hw292_8), (bcl HB hw292_9), (bcl HB hw301_0), (bcl HB hw301_1), (bcl HB hw301_2), (bcl HB hw301_3), (bcl HB hw301_4), (bcl HB hw301_5), (bcl HB hw301_6), (bcl HB hw301_7), (bcl HB hw301_8), (bcl HB hw301_9)⟩ (fun hHeld => ?_)
                 clear hK K
                 refine norm_ (a' := ?_) ?_ ?_
                 rotate_left
                 ·show Act.put _ (some 4) _ = _
                  simp only [Act.put, List.setIfInBounds_toArray, List.set_cons_zero, List.set_cons_succ, i64_w, i32_w]
                  rfl
                 exact norm_ (by first | (simp only [putAll, Act.put, List.setIfInBounds_toArray, List.set_cons_zero, List.set_cons_succ]; done) | (simp only [putAll, Act.put, List.setIfInBounds_toArray, List.set_cons_zero, List.set_cons_succ]; rfl)) (hJ4_9_10 (v297, v306, gb310) _ ⟨hHeld, (kr HO298), (kr HO307), (bkn BK310), GW310.out, GE310.out, bw⟩)
                ·skip
                 refine box_step ?hg (N := 5) ?hd (cs := #[.int .i64 0, .int .i64 0, .int .i64 0, .slice none 0 0, .bool false, .int .i64 0]) (t := 40) ?hr ?_; (case hd => rfl); (case hg => rfl); (case hr => first | (go_simp; done) | (go_simp; rfl))
                 intro gb311 hg w65 hbox hb
                 have n0_ := AX (Kd.R_below (kr HO298) hb)
                 have n1_ := AX (Kd.R_below (kr HO307) hb)
                 have n2_ := AX (below_step bw hb)
                 have n3_ := AX (hbox)
                 have n4_ := gwl (w := w) hg bw
                 have n5_ := gwl (w := w) hg bw
                 clear HO298
                 clear HO307
                 clear HB
                 have HO298 := n0_
                 have HO307 := n1_
                 have HB := n2_
                 have BK311 := n3_
                 have GW311 := n4_
                 have GE311 := n5_
                 clear n0_ n1_ n2_ n3_ n4_ n5_
                 clear hb hbox hg
                 refine hK.out _ _ ⟨(bcl HB hw292_0), (bcl HB hw292_1), (bcl HB hw292_2), (bcl HB hw292_3), (bcl HB hw292_4), (bcl HB hw292_5), (bcl HB hw292_6), (bcl HB hw292_7), (bcl HB hw292_8), (bcl HB hw292_9), (bcl HB hw301_0), (bcl HB hw301_1), (bcl HB hw301_2), (bcl HB hw301_3), (bcl HB hw301_4), (bcl HB hw301_5), (bcl HB hw301_6), (bcl HB hw301_7), (bcl HB hw301_8), (bcl HB hw301_9)⟩ (fun hHeld => ?_)
                 clear hK K
                 refine norm_ (a' := ?_) ?_ ?_
                 rotate_left
                 ·show Act.put _ (some 5) _ = _
                  simp only [Act.put, List.setIfInBounds_toArray, List.set_cons_zero, List.set_cons_succ, i64_w, i32_w]
                  rfl
                 exact norm_ (by first | (simp only [putAll, Act.put, List.setIfInBounds_toArray, List.set_cons_zero, List.set_cons_succ]; done) | (simp only [putAll, Act.put, List.setIfInBounds_toArray, List.set_cons_zero, List.set_cons_succ]; rfl)) (hJ4_9_11 (v297, v306, gb311) _ ⟨hHeld, (kr HO298), (kr HO307), (bkn BK311), GW311.out, GE311.out, bw⟩)
              ·skip
               rintro ⟨v297, gb310, gb311⟩ w65 ⟨hS_, h0_, h1_, h2_, h3_, h4_, h5_, h6_, h7_, h8_, h9_⟩
               have n0_ : Aside0 (Kd.R k33 33 w65 w.heap.size (fun _ => True) v297 t296) := ⟨h0_⟩
               have n1_ : Aside0 (w65.heap[gb310]? = some (.cells #[.int .i64 0, .int .i64 0, .int .i64 0, .slice none 0 0, .bool false, .int .i64 0] 40 (0, 0))) := ⟨h1_⟩
               have n2_ : Aside0 (w65.heap[gb311]? = some (.cells #[.int .i64 0, .int .i64 0, .int .i64 0, .slice none 0 0, .bool false, .int .i64 0] 40 (0, 0))) := ⟨h2_⟩
               have n3_ : Aside0 (w.heap.size ≤ gb310) := ⟨h3_⟩
               have n4_ : Aside0 (w.heap.size ≤ gb310) := ⟨h4_⟩
               have n5_ : Aside0 (gb311 ≠ gb310) := ⟨h5_⟩
               have n6_ : Aside0 (gb310 ≠ gb311) := ⟨h6_⟩
               have n7_ : Aside0 (w.heap.size ≤ gb311) := ⟨h7_⟩
               have n8_ : Aside0 (w.heap.size ≤ gb311) := ⟨h8_⟩
               have n9_ : Aside0 (Below w.heap.size w w65) := ⟨h9_⟩
               clear HB
               clear h0_ h1_ h2_ h3_ h4_ h5_ h6_ h7_ h8_ h9_
               have HO298 := n0_
               have BK310 := n1_
               have BK311 := n2_
               have GW310 := n3_
               have GE310 := n4_
               have NB311_310 := n5_
               have NB310_311 := n6_
               have GW311 := n7_
               have GE311 := n8_
               have HB := n9_
               clear n0_ n1_ n2_ n3_ n4_ n5_ n6_ n7_ n8_ n9_
               have hHeld := hS_
               refine norm_ (a' := ?_) ?_ ?_
               rotate_left
               ·simp only [putAll, Act.put, List.setIfInBounds_toArray, List.set_cons_zero, List.set_cons_succ]
                rfl
               refine one_ (i := 9) (N := some 22) pylonlaw05_HolidayAll.q9 rfl rfl (one_of HT_.out (by kernel_rfl)) (by decide) (fun K hK => ?_)
               refine goes_ Try.func14 (by kernel_rfl) rfl #[.agg #[.int .i64 ((rd_T43 l0 x10_1).f0), .int .i64 ((rd_T43 l0 x10_1).f1.f0), .int .i64 ((rd_T43 l0 x10_1).f1.f1), .int .i64 ((rd_T43 l0 x10_1).f1.f2), .int .i64 ((rd_T43 l0 x10_1).f1.f3), .slice A292_5 ((rd_T43 l0 x10_1).f2).length c292_5, .int .i64 ((rd_T43 l0 x10_1).f3), .int .i64 ((rd_T43 l0 x10_1).f4.f0), .int .i64 ((rd_T43 l0 x10_1).f4.f1), .int .i64 ((rd_T43 l0 x10_1).f4.f2)]] (by rfl) rfl rfl (by (try simp only [List.map_toArray, List.map_cons, List.map_nil]); first | done | rfl | (simp only [List.length_drop, List.length_take]; rfl)) ?_
               with_reducible refine (pylonlaw05_wants.calls k1 ((rd_T43 l0 x10_1).f0) ((rd_T43 l0 x10_1).f1.f0) ((rd_T43 l0 x10_1).f1.f1) ((rd_T43 l0 x10_1).f1.f2) ((rd_T43 l0 x10_1).f1.f3) _ _ ((rd_T43 l0 x10_1).f2) ((rd_T43 l0 x10_1).f3) ((rd_T43 l0 x10_1).f4.f0) ((rd_T43 l0 x10_1).f4.f1) ((rd_T43 l0 x10_1).f4.f2) t302 t303 t304 t305 t308 t309 _ ?side1 ?side2 A9.out).mono ?_
               (case side1 => repeat (first | exact (Kd.C_below HR301_5.out HB.out) | (with_reducible refine Kd.C_alloc ?_ _) | (with_reducible refine Kd.C_drewN ?_ _) | (with_reducible refine Kd.C_drew ?_)))
               (case side2 => exact HC301_5.out)
               rintro e w66 ⟨v306, rfl, ho0, hb⟩
               refine ⟨_, rfl, ?_⟩
               have n0_ := AX (Kd.R_elder' (kr HO298) (Kd.R_base ho0) hb)
               have n1_ := AX (Kd.R_lower (Kd.R_new' ho0 (Kd.R_lt (kr HO298))) (below_size bw))
               have n2_ := AX (bkb BK310 hb)
               have n3_ := AX (bkb BK311 hb)
               have n4_ := AX (below_step bw hb)
               clear HO298
               clear BK310
               clear BK311
               clear HB
               have HO298 := n0_
               have HO307 := n1_
               have BK310 := n2_
               have BK311 := n3_
               have HB := n4_
               clear n0_ n1_ n2_ n3_ n4_
               (try clear hb)
               (try clear hb2)
               (try clear hk)
               (try clear hi)
               (try clear ho0)
               refine hK.out _ _ ⟨(bcl HB hw292_0), (bcl HB hw292_1), (bcl HB hw292_2), (bcl HB hw292_3), (bcl HB hw292_4), (bcl HB hw292_5), (bcl HB hw292_6), (bcl HB hw292_7), (bcl HB hw292_8), (bcl HB hw292_9), (bcl HB hw301_0), (bcl HB hw301_1), (bcl HB hw301_2), (bcl HB hw301_3), (bcl HB hw301_4), (bcl HB hw301_5), (bcl HB hw301_6), (bcl HB hw301_7), (bcl HB hw301_8), (bcl HB hw301_9)⟩ (fun hHeld => ?_)
               clear hK K
               refine norm_ (a' := ?_) ?_ ?_
               rotate_left
               ·show Act.put _ (some 22) _ = _
                simp only [Act.put, List.setIfInBounds_toArray, List.set_cons_zero, List.set_cons_succ, i64_w, i32_w]
                rfl
               exact norm_ (by first | (simp only [putAll, Act.put, List.setIfInBounds_toArray, List.set_cons_zero, List.set_cons_succ]; done) | (simp only [putAll, Act.put, List.setIfInBounds_toArray, List.set_cons_zero, List.set_cons_succ]; rfl)) (hJ4_9_10_11 (v297, v306, gb310, gb311) _ ⟨hHeld, (by (with_reducible repeat (first | apply Kd.R_alloc | apply Kd.R_drewN | apply Kd.R_drew)); exact Kd.R_mono HO298.out (fun _ hk => hk.2)), (by (with_reducible repeat (first | apply Kd.R_alloc | apply Kd.R_drewN | apply Kd.R_drew)); exact Kd.R_mono HO307.out (fun _ hk => hk.2)), (bkn BK310), (bkn BK311), GW310.out, GE310.out, NB311_310.out, NB310_311.out, GW311.out, GE311.out, bw⟩)
             ·skip
              rintro ⟨v297, v306, gb311⟩ w65 ⟨hS_, h0_, h1_, h2_, h3_, h4_, h5_⟩
              have n0_ : Aside0 (Kd.R k33 33 w65 w.heap.size (fun k_ => some k_ ≠ (v306 : Value).ownBlock) v297 t296) := ⟨h0_⟩
              have n1_ : Aside0 (Kd.R k33 33 w65 w.heap.size (fun k_ => some k_ ≠ (v297 : Value).ownBlock) v306 t305) := ⟨h1_⟩
              have n2_ : Aside0 (w65.heap[gb311]? = some (.cells #[.int .i64 0, .int .i64 0, .int .i64 0, .slice none 0 0, .bool false, .int .i64 0] 40 (0, 0))) := ⟨h2_⟩
              have n3_ : Aside0 (w.heap.size ≤ gb311) := ⟨h3_⟩
              have n4_ : Aside0 (w.heap.size ≤ gb311) := ⟨h4_⟩
              have n5_ : Aside0 (Below w.heap.size w w65) := ⟨h5_⟩
              clear HB
              clear h0_ h1_ h2_ h3_ h4_ h5_
              have HO298 := n0_
              have HO307 := n1_
              have BK311 := n2_
              have GW311 := n3_
              have GE311 := n4_
              have HB := n5_
              clear n0_ n1_ n2_ n3_ n4_ n5_
              have hHeld := hS_
              refine norm_ (a' := ?_) ?_ ?_
              rotate_left
              ·simp only [putAll, Act.put, List.setIfInBounds_toArray, List.set_cons_zero, List.set_cons_succ]
               rfl
              refine one_ (i := 10) (N := some 4) pylonlaw05_HolidayAll.q9 rfl rfl (one_of HT_.out (by kernel_rfl)) (by decide) (fun K hK => ?_)
              refine box_step ?hg (N := 4) ?hd (cs := #[.int .i64 0, .int .i64 0, .int .i64 0, .slice none 0 0, .bool false, .int .i64 0]) (t := 40) ?hr ?_; (case hd => rfl); (case hg => rfl); (case hr => first | (go_simp; done) | (go_simp; rfl))
              intro gb310 hg w66 hbox hb
              have n0_ := AX (Kd.R_below (kr HO298) hb)
              have n1_ := AX (Kd.R_below (kr HO307) hb)
              have n2_ := AX (bkb BK311 hb)
              have n3_ := AX (below_step bw hb)
              have n4_ := AX (hbox)
              have n5_ := gwl (w := w) hg bw
              have n6_ := gwl (w := w) hg bw
              have n7_ := nbl hg (bkn BK311)
              have n8_ := nbg hg (bkn BK311)
              clear HO298
              clear HO307
              clear BK311
              clear HB
              have HO298 := n0_
              have HO307 := n1_
              have BK311 := n2_
              have HB := n3_
              have BK310 := n4_
              have GW310 := n5_
              have GE310 := n6_
              have NB311_310 := n7_
              have NB310_311 := n8_
              clear n0_ n1_ n2_ n3_ n4_ n5_ n6_ n7_ n8_
              clear hb hbox hg
              refine hK.out _ _ ⟨(bcl HB hw292_0), (bcl HB hw292_1), (bcl HB hw292_2), (bcl HB hw292_3), (bcl HB hw292_4), (bcl HB hw292_5), (bcl HB hw292_6), (bcl HB hw292_7), (bcl HB hw292_8), (bcl HB hw292_9), (bcl HB hw301_0), (bcl HB hw301_1), (bcl HB hw301_2), (bcl HB hw301_3), (bcl HB hw301_4), (bcl HB hw301_5), (bcl HB hw301_6), (bcl HB hw301_7), (bcl HB hw301_8), (bcl HB hw301_9)⟩ (fun hHeld => ?_)
              clear hK K
              refine norm_ (a' := ?_) ?_ ?_
              rotate_left
              ·show Act.put _ (some 4) _ = _
               simp only [Act.put, List.setIfInBounds_toArray, List.set_cons_zero, List.set_cons_succ, i64_w, i32_w]
               rfl
              exact norm_ (by first | (simp only [putAll, Act.put, List.setIfInBounds_toArray, List.set_cons_zero, List.set_cons_succ]; done) | (simp only [putAll, Act.put, List.setIfInBounds_toArray, List.set_cons_zero, List.set_cons_succ]; rfl)) (hJ4_9_10_11 (v297, v306, gb310, gb311) _ ⟨hHeld, (kr HO298), (kr HO307), (bkn BK310), (bkn BK311), GW310.out, GE310.out, NB311_310.out, NB310_311.out, GW311.out, GE311.out, bw⟩)
            ·skip
             rintro ⟨v297, v306, gb310⟩ w65 ⟨hS_, h0_, h1_, h2_, h3_, h4_, h5_⟩
             have n0_ : Aside0 (Kd.R k33 33 w65 w.heap.size (fun k_ => some k_ ≠ (v306 : Value).ownBlock) v297 t296) := ⟨h0_⟩
             have n1_ : Aside0 (Kd.R k33 33 w65 w.heap.size (fun k_ => some k_ ≠ (v297 : Value).ownBlock) v306 t305) := ⟨h1_⟩
             have n2_ : Aside0 (w65.heap[gb310]? = some (.cells #[.int .i64 0, .int .i64 0, .int .i64 0, .slice none 0 0, .bool false, .int .i64 0] 40 (0, 0))) := ⟨h2_⟩
             have n3_ : Aside0 (w.heap.size ≤ gb310) := ⟨h3_⟩
             have n4_ : Aside0 (w.heap.size ≤ gb310) := ⟨h4_⟩
             have n5_ : Aside0 (Below w.heap.size w w65) := ⟨h5_⟩
             clear HB
             clear h0_ h1_ h2_ h3_ h4_ h5_
             have HO298 := n0_
             have HO307 := n1_
             have BK310 := n2_
             have GW310 := n3_
             have GE310 := n4_
             have HB := n5_
             clear n0_ n1_ n2_ n3_ n4_ n5_
             have hHeld := hS_
             refine norm_ (a' := ?_) ?_ ?_
             rotate_left
             ·simp only [putAll, Act.put, List.setIfInBounds_toArray, List.set_cons_zero, List.set_cons_succ]
              rfl
             refine one_ (i := 11) (N := some 5) pylonlaw05_HolidayAll.q9 rfl rfl (one_of HT_.out (by kernel_rfl)) (by decide) (fun K hK => ?_)
             refine box_step ?hg (N := 5) ?hd (cs := #[.int .i64 0, .int .i64 0, .int .i64 0, .slice none 0 0, .bool false, .int .i64 0]) (t := 40) ?hr ?_; (case hd => rfl); (case hg => rfl); (case hr => first | (go_simp; done) | (go_simp; rfl))
             intro gb311 hg w66 hbox hb
             have n0_ := AX (Kd.R_below (kr HO298) hb)
             have n1_ := AX (Kd.R_below (kr HO307) hb)
             have n2_ := AX (bkb BK310 hb)
             have n3_ := AX (below_step bw hb)
             have n4_ := AX (hbox)
             have n5_ := gwl (w := w) hg bw
             have n6_ := gwl (w := w) hg bw
             have n7_ := nbl hg (bkn BK310)
             have n8_ := nbg hg (bkn BK310)
             clear HO298
             clear HO307
             clear BK310
             clear HB
             have HO298 := n0_
             have HO307 := n1_
             have BK310 := n2_
             have HB := n3_
             have BK311 := n4_
             have GW311 := n5_
             have GE311 := n6_
             have NB310_311 := n7_
             have NB311_310 := n8_
             clear n0_ n1_ n2_ n3_ n4_ n5_ n6_ n7_ n8_
             clear hb hbox hg
             refine hK.out _ _ ⟨(bcl HB hw292_0), (bcl HB hw292_1), (bcl HB hw292_2), (bcl HB hw292_3), (bcl HB hw292_4), (bcl HB hw292_5), (bcl HB hw292_6), (bcl HB hw292_7), (bcl HB hw292_8), (bcl HB hw292_9), (bcl HB hw301_0), (bcl HB hw301_1), (bcl HB hw301_2), (bcl HB hw301_3), (bcl HB hw301_4), (bcl HB hw301_5), (bcl HB hw301_6), (bcl HB hw301_7), (bcl HB hw301_8), (bcl HB hw301_9)⟩ (fun hHeld => ?_)
             clear hK K
             refine norm_ (a' := ?_) ?_ ?_
             rotate_left
             ·show Act.put _ (some 5) _ = _
              simp only [Act.put, List.setIfInBounds_toArray, List.set_cons_zero, List.set_cons_succ, i64_w, i32_w]
              rfl
             exact norm_ (by first | (simp only [putAll, Act.put, List.setIfInBounds_toArray, List.set_cons_zero, List.set_cons_succ]; done) | (simp only [putAll, Act.put, List.setIfInBounds_toArray, List.set_cons_zero, List.set_cons_succ]; rfl)) (hJ4_9_10_11 (v297, v306, gb310, gb311) _ ⟨hHeld, (kr HO298), (kr HO307), (bkn BK310), (bkn BK311), GW310.out, GE310.out, NB311_310.out, NB310_311.out, GW311.out, GE311.out, bw⟩)
           rintro ⟨v297, v306, gb310, gb311⟩ w66 ⟨hS_, h0_, h1_, h2_, h3_, h4_, h5_, h6_, h7_, h8_, h9_, h10_⟩
           have n0_ : Aside0 (Kd.R k33 33 w66 w.heap.size (fun k_ => some k_ ≠ (v306 : Value).ownBlock) v297 t296) := ⟨h0_⟩
           have n1_ : Aside0 (Kd.R k33 33 w66 w.heap.size (fun k_ => some k_ ≠ (v297 : Value).ownBlock) v306 t305) := ⟨h1_⟩
           have n2_ : Aside0 (w66.heap[gb310]? = some (.cells #[.int .i64 0, .int .i64 0, .int .i64 0, .slice none 0 0, .bool false, .int .i64 0] 40 (0, 0))) := ⟨h2_⟩
           have n3_ : Aside0 (w66.heap[gb311]? = some (.cells #[.int .i64 0, .int .i64 0, .int .i64 0, .slice none 0 0, .bool false, .int .i64 0] 40 (0, 0))) := ⟨h3_⟩
           have n4_ : Aside0 (w.heap.size ≤ gb310) := ⟨h4_⟩
           have n5_ : Aside0 (w.heap.size ≤ gb310) := ⟨h5_⟩
           have n6_ : Aside0 (gb311 ≠ gb310) := ⟨h6_⟩
           have n7_ : Aside0 (gb310 ≠ gb311) := ⟨h7_⟩
           have n8_ : Aside0 (w.heap.size ≤ gb311) := ⟨h8_⟩
           have n9_ : Aside0 (w.heap.size ≤ gb311) := ⟨h9_⟩
           have n10_ : Aside0 (Below w.heap.size w w66) := ⟨h10_⟩
           clear HB
           clear h0_ h1_ h2_ h3_ h4_ h5_ h6_ h7_ h8_ h9_ h10_
           have HO298 := n0_
           have HO307 := n1_
           have BK310 := n2_
           have BK311 := n3_
           have GW310 := n4_
           have GE310 := n5_
           have NB311_310 := n6_
           have NB310_311 := n7_
           have GW311 := n8_
           have GE311 := n9_
           have HB := n10_
           clear n0_ n1_ n2_ n3_ n4_ n5_ n6_ n7_ n8_ n9_ n10_
           have hHeld := hS_
           obtain ⟨Ao70, co70, eo70⟩ := Kd.R_slice HO298.out
           (first | subst eo70 | (injection eo70 with f1_ f2_ f3_; have f4_ := f1_.symm; have f5_ := f3_.symm; clear f1_ f2_ f3_; subst f4_; subst f5_))
           obtain ⟨Ao77, co77, eo77⟩ := Kd.R_slice HO307.out
           (first | subst eo77 | (injection eo77 with f1_ f2_ f3_; have f4_ := f1_.symm; have f5_ := f3_.symm; clear f1_ f2_ f3_; subst f4_; subst f5_))
           refine norm_ (a' := ?_) ?_ ?_
           rotate_left
           ·simp only [putAll, Act.put, List.setIfInBounds_toArray, List.set_cons_zero, List.set_cons_succ]
            rfl
           refine one_ (i := 12) (N := none) pylonlaw05_HolidayAll.q20 rfl rfl (one_of HT_.out (by kernel_rfl)) (by decide) (fun K hK => ?_)
           have hs67 : w66.cell? ⟨gb310, 0, none⟩ = some (.int .i64 0) := (blk_cell BK310.out 0).trans rfl
           have hfs67 := blk_frozen BK310.out 0
           have hns67_1 := NB311_310.out
           have hms67_1 := NB310_311.out
           have hs68 : w66.cell? ⟨gb310, 1, none⟩ = some (.int .i64 0) := (blk_cell BK310.out 1).trans rfl
           have hfs68 := blk_frozen BK310.out 1
           have hns68_1 := NB311_310.out
           have hms68_1 := NB310_311.out
           have hs69 : w66.cell? ⟨gb310, 2, none⟩ = some (.int .i64 0) := (blk_cell BK310.out 2).trans rfl
           have hfs69 := blk_frozen BK310.out 2
           have hns69_1 := NB311_310.out
           have hms69_1 := NB310_311.out
           have hs71 : w66.cell? ⟨gb310, 3, none⟩ = some (.slice none 0 0) := (blk_cell BK310.out 3).trans rfl
           have hfs71 := blk_frozen BK310.out 3
           have hns71_1 := NB311_310.out
           have hms71_1 := NB310_311.out
           have hs72 : w66.cell? ⟨gb310, 4, none⟩ = some (.bool false) := (blk_cell BK310.out 4).trans rfl
           have hfs72 := blk_frozen BK310.out 4
           have hns72_1 := NB311_310.out
           have hms72_1 := NB310_311.out
           have hs73 : w66.cell? ⟨gb310, 5, none⟩ = some (.int .i64 0) := (blk_cell BK310.out 5).trans rfl
           have hfs73 := blk_frozen BK310.out 5
           have hns73_1 := NB311_310.out
           have hms73_1 := NB310_311.out
           refine skip_ (w1 := ?_) (by rfl) rfl ?_ ?_
           rotate_left
           ·go_simp
            rfl
           refine hK.out _ _ ⟨(cfx GW310 hw292_0 ((cfx GW310 hw292_0 ((cfx GW310 hw292_0 ((cfx GW310 hw292_0 ((cfx GW310 hw292_0 ((cfx GW310 hw292_0 (hHeld.1)))))))))))), (cfx GW310 hw292_1 ((cfx GW310 hw292_1 ((cfx GW310 hw292_1 ((cfx GW310 hw292_1 ((cfx GW310 hw292_1 ((cfx GW310 hw292_1 (hHeld.2.1)))))))))))), (cfx GW310 hw292_2 ((cfx GW310 hw292_2 ((cfx GW310 hw292_2 ((cfx GW310 hw292_2 ((cfx GW310 hw292_2 ((cfx GW310 hw292_2 (hHeld.2.2.1)))))))))))), (cfx GW310 hw292_3 ((cfx GW310 hw292_3 ((cfx GW310 hw292_3 ((cfx GW310 hw292_3 ((cfx GW310 hw292_3 ((cfx GW310 hw292_3 (hHeld.2.2.2.1)))))))))))), (cfx GW310 hw292_4 ((cfx GW310 hw292_4 ((cfx GW310 hw292_4 ((cfx GW310 hw292_4 ((cfx GW310 hw292_4 ((cfx GW310 hw292_4 (hHeld.2.2.2.2.1)))))))))))), (cfx GW310 hw292_5 ((cfx GW310 hw292_5 ((cfx GW310 hw292_5 ((cfx GW310 hw292_5 ((cfx GW310 hw292_5 ((cfx GW310 hw292_5 (hHeld.2.2.2.2.2.1)))))))))))), (cfx GW310 hw292_6 ((cfx GW310 hw292_6 ((cfx GW310 hw292_6 ((cfx GW310 hw292_6 ((cfx GW310 hw292_6 ((cfx GW310 hw292_6 (hHeld.2.2.2.2.2.2.1)))))))))))), (cfx GW310 hw292_7 ((cfx GW310 hw292_7 ((cfx GW310 hw292_7 ((cfx GW310 hw292_7 ((cfx GW310 hw292_7 ((cfx GW310 hw292_7 (hHeld.2.2.2.2.2.2.2.1)))))))))))), (cfx GW310 hw292_8 ((cfx GW310 hw292_8 ((cfx GW310 hw292_8 ((cfx GW310 hw292_8 ((cfx GW310 hw292_8 ((cfx GW310 hw292_8 (hHeld.2.2.2.2.2.2.2.2.1)))))))))))), (cfx GW310 hw292_9 ((cfx GW310 hw292_9 ((cfx GW310 hw292_9 ((cfx GW310 hw292_9 ((cfx GW310 hw292_9 ((cfx GW310 hw292_9 (hHeld.2.2.2.2.2.2.2.2.2.1)))))))))))), (cfx GW310 hw301_0 ((cfx GW310 hw301_0 ((cfx GW310 hw301_0 ((cfx GW310 hw301_0 ((cfx GW310 hw301_0 ((cfx GW310 hw301_0 (hHeld.2.2.2.2.2.2.2.2.2.2.1)))))))))))), (cfx GW310 hw301_1 ((cfx GW310 hw301_1 ((cfx GW310 hw301_1 ((cfx GW310 hw301_1 ((cfx GW310 hw301_1 ((cfx GW310 hw301_1 (hHeld.2.2.2.2.2.2.2.2.2.2.2.1)))))))))))), (cfx GW310 hw301_2 ((cfx GW310 hw301_2 ((cfx GW310 hw301_2 ((cfx GW310 hw301_2 ((cfx GW310 hw301_2 ((cfx GW310 hw301_2 (hHeld.2.2.2.2.2.2.2.2.2.2.2.2.1)))))))))))), (cfx GW310 hw301_3 ((cfx GW310 hw301_3 ((cfx GW310 hw301_3 ((cfx GW310 hw301_3 ((cfx GW310 hw301_3 ((cfx GW310 hw301_3 (hHeld.2.2.2.2.2.2.2.2.2.2.2.2.2.1)))))))))))), (cfx GW310 hw301_4 ((cfx GW310 hw301_4 ((cfx GW310 hw301_4 ((cfx GW310 hw301_4 ((cfx GW310 hw301_4 ((cfx GW310 hw301_4 (hHeld.2.2.2.2.2.2.2.2.2.2.2.2.2.2.1)))))))))))), (cfx GW310 hw301_5 ((cfx GW310 hw301_5 ((cfx GW310 hw301_5 ((cfx GW310 hw301_5 ((cfx GW310 hw301_5 ((cfx GW310 hw301_5 (hHeld.2.2.2.2.2.2.2.2.2.2.2.2.2.2.2.1)))))))))))), (cfx GW310 hw301_6 ((cfx GW310 hw301_6 ((cfx GW310 hw301_6 ((cfx GW310 hw301_6 ((cfx GW310 hw301_6 ((cfx GW310 hw301_6 (hHeld.2.2.2.2.2.2.2.2.2.2.2.2.2.2.2.2.1)))))))))))), (cfx GW310 hw301_7 ((cfx GW310 hw301_7 ((cfx GW310 hw301_7 ((cfx GW310 hw301_7 ((cfx GW310 hw301_7 ((cfx GW310 hw301_7 (hHeld.2.2.2.2.2.2.2.2.2.2.2.2.2.2.2.2.2.1)))))))))))), (cfx GW310 hw301_8 ((cfx GW310 hw301_8 ((cfx GW310 hw301_8 ((cfx GW310 hw301_8 ((cfx GW310 hw301_8 ((cfx GW310 hw301_8 (hHeld.2.2.2.2.2.2.2.2.2.2.2.2.2.2.2.2.2.2.1)))))))))))), (cfx GW310 hw301_9 ((cfx GW310 hw301_9 ((cfx GW310 hw301_9 ((cfx GW310 hw301_9 ((cfx GW310 hw301_9 ((cfx GW310 hw301_9 (hHeld.2.2.2.2.2.2.2.2.2.2.2.2.2.2.2.2.2.2.2))))))))))))⟩ (fun hHeld => ?_)
           clear hK K
           refine one_ (i := 13) (N := none) pylonlaw05_HolidayAll.q21 rfl rfl (one_of HT_.out (by kernel_rfl)) (by decide) (fun K hK => ?_)
           have hs74 : w66.cell? ⟨gb311, 0, none⟩ = some (.int .i64 0) := (blk_cell BK311.out 0).trans rfl
           have hfs74 := blk_frozen BK311.out 0
           have hns74_0 := NB310_311.out
           have hms74_0 := NB311_310.out
           have hs75 : w66.cell? ⟨gb311, 1, none⟩ = some (.int .i64 0) := (blk_cell BK311.out 1).trans rfl
           have hfs75 := blk_frozen BK311.out 1
           have hns75_0 := NB310_311.out
           have hms75_0 := NB311_310.out
           have hs76 : w66.cell? ⟨gb311, 2, none⟩ = some (.int .i64 0) := (blk_cell BK311.out 2).trans rfl
           have hfs76 := blk_frozen BK311.out 2
           have hns76_0 := NB310_311.out
           have hms76_0 := NB311_310.out
           have hs78 : w66.cell? ⟨gb311, 3, none⟩ = some (.slice none 0 0) := (blk_cell BK311.out 3).trans rfl
           have hfs78 := blk_frozen BK311.out 3
           have hns78_0 := NB310_311.out
           have hms78_0 := NB311_310.out
           have hs79 : w66.cell? ⟨gb311, 4, none⟩ = some (.bool false) := (blk_cell BK311.out 4).trans rfl
           have hfs79 := blk_frozen BK311.out 4
           have hns79_0 := NB310_311.out
           have hms79_0 := NB311_310.out
           have hs80 : w66.cell? ⟨gb311, 5, none⟩ = some (.int .i64 0) := (blk_cell BK311.out 5).trans rfl
           have hfs80 := blk_frozen BK311.out 5
           have hns80_0 := NB310_311.out
           have hms80_0 := NB311_310.out
           refine skip_ (w1 := ?_) (by rfl) rfl ?_ ?_
           rotate_left
           ·go_simp
            rfl
           refine hK.out _ _ ⟨(cfx GW311 hw292_0 ((cfx GW311 hw292_0 ((cfx GW311 hw292_0 ((cfx GW311 hw292_0 ((cfx GW311 hw292_0 ((cfx GW311 hw292_0 (hHeld.1)))))))))))), (cfx GW311 hw292_1 ((cfx GW311 hw292_1 ((cfx GW311 hw292_1 ((cfx GW311 hw292_1 ((cfx GW311 hw292_1 ((cfx GW311 hw292_1 (hHeld.2.1)))))))))))), (cfx GW311 hw292_2 ((cfx GW311 hw292_2 ((cfx GW311 hw292_2 ((cfx GW311 hw292_2 ((cfx GW311 hw292_2 ((cfx GW311 hw292_2 (hHeld.2.2.1)))))))))))), (cfx GW311 hw292_3 ((cfx GW311 hw292_3 ((cfx GW311 hw292_3 ((cfx GW311 hw292_3 ((cfx GW311 hw292_3 ((cfx GW311 hw292_3 (hHeld.2.2.2.1)))))))))))), (cfx GW311 hw292_4 ((cfx GW311 hw292_4 ((cfx GW311 hw292_4 ((cfx GW311 hw292_4 ((cfx GW311 hw292_4 ((cfx GW311 hw292_4 (hHeld.2.2.2.2.1)))))))))))), (cfx GW311 hw292_5 ((cfx GW311 hw292_5 ((cfx GW311 hw292_5 ((cfx GW311 hw292_5 ((cfx GW311 hw292_5 ((cfx GW311 hw292_5 (hHeld.2.2.2.2.2.1)))))))))))), (cfx GW311 hw292_6 ((cfx GW311 hw292_6 ((cfx GW311 hw292_6 ((cfx GW311 hw292_6 ((cfx GW311 hw292_6 ((cfx GW311 hw292_6 (hHeld.2.2.2.2.2.2.1)))))))))))), (cfx GW311 hw292_7 ((cfx GW311 hw292_7 ((cfx GW311 hw292_7 ((cfx GW311 hw292_7 ((cfx GW311 hw292_7 ((cfx GW311 hw292_7 (hHeld.2.2.2.2.2.2.2.1)))))))))))), (cfx GW311 hw292_8 ((cfx GW311 hw292_8 ((cfx GW311 hw292_8 ((cfx GW311 hw292_8 ((cfx GW311 hw292_8 ((cfx GW311 hw292_8 (hHeld.2.2.2.2.2.2.2.2.1)))))))))))), (cfx GW311 hw292_9 ((cfx GW311 hw292_9 ((cfx GW311 hw292_9 ((cfx GW311 hw292_9 ((cfx GW311 hw292_9 ((cfx GW311 hw292_9 (hHeld.2.2.2.2.2.2.2.2.2.1)))))))))))), (cfx GW311 hw301_0 ((cfx GW311 hw301_0 ((cfx GW311 hw301_0 ((cfx GW311 hw301_0 ((cfx GW311 hw301_0 ((cfx GW311 hw301_0 (hHeld.2.2.2.2.2.2.2.2.2.2.1)))))))))))), (cfx GW311 hw301_1 ((cfx GW311 hw301_1 ((cfx GW311 hw301_1 ((cfx GW311 hw301_1 ((cfx GW311 hw301_1 ((cfx GW311 hw301_1 (hHeld.2.2.2.2.2.2.2.2.2.2.2.1)))))))))))), (cfx GW311 hw301_2 ((cfx GW311 hw301_2 ((cfx GW311 hw301_2 ((cfx GW311 hw301_2 ((cfx GW311 hw301_2 ((cfx GW311 hw301_2 (hHeld.2.2.2.2.2.2.2.2.2.2.2.2.1)))))))))))), (cfx GW311 hw301_3 ((cfx GW311 hw301_3 ((cfx GW311 hw301_3 ((cfx GW311 hw301_3 ((cfx GW311 hw301_3 ((cfx GW311 hw301_3 (hHeld.2.2.2.2.2.2.2.2.2.2.2.2.2.1)))))))))))), (cfx GW311 hw301_4 ((cfx GW311 hw301_4 ((cfx GW311 hw301_4 ((cfx GW311 hw301_4 ((cfx GW311 hw301_4 ((cfx GW311 hw301_4 (hHeld.2.2.2.2.2.2.2.2.2.2.2.2.2.2.1)))))))))))), (cfx GW311 hw301_5 ((cfx GW311 hw301_5 ((cfx GW311 hw301_5 ((cfx GW311 hw301_5 ((cfx GW311 hw301_5 ((cfx GW311 hw301_5 (hHeld.2.2.2.2.2.2.2.2.2.2.2.2.2.2.2.1)))))))))))), (cfx GW311 hw301_6 ((cfx GW311 hw301_6 ((cfx GW311 hw301_6 ((cfx GW311 hw301_6 ((cfx GW311 hw301_6 ((cfx GW311 hw301_6 (hHeld.2.2.2.2.2.2.2.2.2.2.2.2.2.2.2.2.1)))))))))))), (cfx GW311 hw301_7 ((cfx GW311 hw301_7 ((cfx GW311 hw301_7 ((cfx GW311 hw301_7 ((cfx GW311 hw301_7 ((cfx GW311 hw301_7 (hHeld.2.2.2.2.2.2.2.2.2.2.2.2.2.2.2.2.2.1)))))))))))), (cfx GW311 hw301_8 ((cfx GW311 hw301_8 ((cfx GW311 hw301_8 ((cfx GW311 hw301_8 ((cfx GW311 hw301_8 ((cfx GW311 hw301_8 (hHeld.2.2.2.2.2.2.2.2.2.2.2.2.2.2.2.2.2.2.1)))))))))))), (cfx GW311 hw301_9 ((cfx GW311 hw301_9 ((cfx GW311 hw301_9 ((cfx GW311 hw301_9 ((cfx GW311 hw301_9 ((cfx GW311 hw301_9 (hHeld.2.2.2.2.2.2.2.2.2.2.2.2.2.2.2.2.2.2.2))))))))))))⟩ (fun hHeld => ?_)
           clear hK K
           refine done_ (done_of HT_.out (by kernel_rfl)) ?_
           have hnb81 := NB310_311.out
           have hnc81 := NB311_310.out
           obtain ⟨hcz82_0, hcz82_1, hcz82_2, hcz82_3, hcz82_4, hcz82_5⟩ := blkC6 (w := w66) BK310.out
           obtain ⟨hfz82_0, hfz82_1, hfz82_2, hfz82_3, hfz82_4, hfz82_5⟩ := blkF6 BK310.out
           obtain ⟨hcz83_0, hcz83_1, hcz83_2, hcz83_3, hcz83_4, hcz83_5⟩ := blkC6 (w := w66) BK311.out
           obtain ⟨hfz83_0, hfz83_1, hfz83_2, hfz83_3, hfz83_4, hfz83_5⟩ := blkF6 BK311.out
           try go_wp2_with (first | (go_at_call 10; (with_reducible refine (pylonref13_SameDates.calls k1 _ _ t296 _ _ t305 true _ ?side1 ?side2 ?side3 ?side4 A59.out).mono ?_); (case side1 => refine (Kd.R_reads' (e := 33) (base := w.heap.size) (ok := fun k_ => some k_ ≠ (.slice Ao77 t305.length co77 : Value).ownBlock) (n := t296.length) (c := co70) ?_).2.2; exact (by (with_reducible repeat (first | apply Kd.R_alloc | apply Kd.R_drewN | apply Kd.R_drew)); exact (Kd.R_mono (Kd.R_mono (Kd.R_far (p := ⟨gb311, 5, none⟩) (Kd.R_far (p := ⟨gb311, 4, none⟩) (Kd.R_far (p := ⟨gb311, 3, none⟩) (Kd.R_far (p := ⟨gb311, 2, none⟩) (Kd.R_far (p := ⟨gb311, 1, none⟩) (Kd.R_far (p := ⟨gb311, 0, none⟩) (Kd.R_far (p := ⟨gb310, 5, none⟩) (Kd.R_far (p := ⟨gb310, 4, none⟩) (Kd.R_far (p := ⟨gb310, 3, none⟩) (Kd.R_far (p := ⟨gb310, 2, none⟩) (Kd.R_far (p := ⟨gb310, 1, none⟩) (Kd.R_far (p := ⟨gb310, 0, none⟩) (Kd.R_types (Kd.R_types HO298.out BK310.out (by decide)) BK311.out (by decide)) (fun _ hk => hk.1.2) (.int .i64 t293)) (fun _ hk => hk.1.2) (.int .i64 t294)) (fun _ hk => hk.1.2) (.int .i64 t295)) (fun _ hk => hk.1.2) (.slice Ao70 t296.length co70)) (fun _ hk => hk.1.2) (.bool t299)) (fun _ hk => hk.1.2) (.int .i64 t300)) (fun _ hk => hk.2) (.int .i64 t302)) (fun _ hk => hk.2) (.int .i64 t303)) (fun _ hk => hk.2) (.int .i64 t304)) (fun _ hk => hk.2) (.slice Ao77 t305.length co77)) (fun _ hk => hk.2) (.bool t308)) (fun _ hk => hk.2) (.int .i64 t309)) (fun _ h_ => h_.1)) (fun _ h_ => h_.1)))); (case side2 => exact (Kd.R_reads' HO298.out).2.1); (case side3 => refine (Kd.R_reads' (e := 33) (base := w.heap.size) (ok := fun k_ => some k_ ≠ (.slice Ao70 t296.length co70 : Value).ownBlock) (n := t305.length) (c := co77) ?_).2.2; exact (by (with_reducible repeat (first | apply Kd.R_alloc | apply Kd.R_drewN | apply Kd.R_drew)); exact (Kd.R_mono (Kd.R_mono (Kd.R_far (p := ⟨gb311, 5, none⟩) (Kd.R_far (p := ⟨gb311, 4, none⟩) (Kd.R_far (p := ⟨gb311, 3, none⟩) (Kd.R_far (p := ⟨gb311, 2, none⟩) (Kd.R_far (p := ⟨gb311, 1, none⟩) (Kd.R_far (p := ⟨gb311, 0, none⟩) (Kd.R_far (p := ⟨gb310, 5, none⟩) (Kd.R_far (p := ⟨gb310, 4, none⟩) (Kd.R_far (p := ⟨gb310, 3, none⟩) (Kd.R_far (p := ⟨gb310, 2, none⟩) (Kd.R_far (p := ⟨gb310, 1, none⟩) (Kd.R_far (p := ⟨gb310, 0, none⟩) (Kd.R_types (Kd.R_types HO307.out BK310.out (by decide)) BK311.out (by decide)) (fun _ hk => hk.1.2) (.int .i64 t293)) (fun _ hk => hk.1.2) (.int .i64 t294)) (fun _ hk => hk.1.2) (.int .i64 t295)) (fun _ hk => hk.1.2) (.slice Ao70 t296.length co70)) (fun _ hk => hk.1.2) (.bool t299)) (fun _ hk => hk.1.2) (.int .i64 t300)) (fun _ hk => hk.2) (.int .i64 t302)) (fun _ hk => hk.2) (.int .i64 t303)) (fun _ hk => hk.2) (.int .i64 t304)) (fun _ hk => hk.2) (.slice Ao77 t305.length co77)) (fun _ hk => hk.2) (.bool t308)) (fun _ hk => hk.2) (.int .i64 t309)) (fun _ h_ => h_.1)) (fun _ h_ => h_.1)))); (case side4 => exact (Kd.R_reads' HO307.out).2.1); rintro e w' ⟨rfl, ⟨nd, rfl⟩⟩))
           go_roundg k1
           case measure => have := HK1.out; omega
           case rel => exact ⟨(wrap64 (x10_1 + 1)), (by first | rfl | (simp; done) | (simp [*]; done)), H', ⟨by have := HK1.out; omega⟩, ⟨bw⟩⟩
          ·rw [if_neg c60] at H
           exact absurd H (by simp)
         ·rw [if_neg c58] at H
          exact absurd H (by simp)
      ·rw [if_neg c7] at H
       exact absurd H (by simp)
     ·rw [if_neg c6] at H
      exact absurd H (by simp)
    ·rw [if_neg c5] at H
     have c5b0 : decide (x10_1 < (l0.length : Int)) = false := decide_eq_false c5
     clear c5
     obtain rfl := Option.some.inj H
     go_wp2
     go_ret
     exact ⟨by first | rfl | (simp [errW_none, errW_some] <;> rfl) | (simp [*, errW_none, errW_some] <;> rfl), bw⟩
 ·rw [if_neg c3] at H
  exact absurd H (by simp)

end Go.Proofs.Ytegedhnbmclbkaa.PX
