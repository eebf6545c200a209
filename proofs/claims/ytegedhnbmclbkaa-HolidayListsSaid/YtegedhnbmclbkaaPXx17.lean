/- Functions of the program as plain Lean functions, each with a proof that the call in the machine answers just what the plain function says; condition: the plain function answers at all. -/
import Derived.Test.YtegedhnbmclbkaaPXx0
import Derived.Test.YtegedhnbmclbkaaPXx1
import Derived.Test.YtegedhnbmclbkaaPXx2
import Derived.Test.YtegedhnbmclbkaaPXx5
import Derived.Test.YtegedhnbmclbkaaPXx7
import Derived.Test.YtegedhnbmclbkaaPXx9
import Derived.Test.YtegedhnbmclbkaaPXx10
import Derived.Test.YtegedhnbmclbkaaPXx13
namespace Go.Proofs.Ytegedhnbmclbkaa.PX
open Go.RowKit Go.Proofs.YtegedhnbmclbkaaW.PrintWords Go.Proofs.YtegedhnbmclbkaaW.PrintLast Go.Proofs.YtegedhnbmclbkaaW.PrintMore
attribute [local go_sem] max2_int min2_int max_two min_two max_three min_three max_four min_four   -- for this text's walks alone
set_option linter.unusedVariables false
set_option linter.unusedSimpArgs false

attribute [local go_sem high] eqA33
/-! ### pylonlaw05_HolidayLists: function 6 -/
mutual
def pylonlaw05_HolidayLists.l0 : Nat → List (S25) → Int → Int → List (S33) → Int → Int → Int → Option (Bool)
 | 0, _, _, _, _, _, _, _ => none
 | k + 1, x0, x1, x2, x7, x8, x35, x36 => if x36 < x35 then (if 0 ≤ x36 then (if x36 < (x0.length : Int) then ((pylonref05_Check.f k ((rd_T25 x0 x36).f0) ((rd_T25 x0 x36).f1) ((rd_T25 x0 x36).f2) ((rd_T25 x0 x36).f3)).bind fun t356 => (if t356 = 0 then (pylonlaw05_HolidayLists.l0 k x0 x1 x2 x7 x8 x35 (wrap64 (x36 + 1))) else (if x8 = 8 then (some ((x7.length : Int) == 0)) else (some false)))) else (none)) else (none)) else (if x8 = 0 then (pylonlaw05_HolidayLists.l1 k x0 x1 x2 x7 (x7.length : Int) 0) else (some false))
def pylonlaw05_HolidayLists.l1 : Nat → List (S25) → Int → Int → List (S33) → Int → Int → Option (Bool)
 | 0, _, _, _, _, _, _ => none
 | k + 1, x0, x1, x2, x7, x56, x57 => if x57 < x56 then (if 0 ≤ x57 then (if x57 < (x7.length : Int) then (if ((rd_T33 x7 x57).f0) = x1 then (if x57 > 0 then (if 0 ≤ (wrap64 (x57 - 1)) then (if (wrap64 (x57 - 1)) < (x7.length : Int) then ((pylonref03_Compare.f ((rd_T33 x7 (wrap64 (x57 - 1))).f0) ((rd_T33 x7 (wrap64 (x57 - 1))).f1) ((rd_T33 x7 (wrap64 (x57 - 1))).f2) ((rd_T33 x7 x57).f0) ((rd_T33 x7 x57).f1) ((rd_T33 x7 x57).f2)).bind fun t360 => (pylonlaw05_HolidayLists.j2 k x0 x1 x2 x7 x57 x56 x57 (decide (t360 ≥ 0)))) else (none)) else (none)) else (pylonlaw05_HolidayLists.j2 k x0 x1 x2 x7 x57 x56 x57 false)) else (pylonlaw05_HolidayLists.j2 k x0 x1 x2 x7 x57 x56 x57 true)) else (none)) else (none)) else ((pylonref03_Days.f k x1 1 1).bind fun bt364 => ((pylonref03_Of.f k (wrap64 (bt364.1 + (wrap64 (Int.tmod (IntKind.u64.wrap (x2)) 365))))).bind fun bt366 => (pylonlaw05_HolidayLists.l2 k x0 x7 false (x7.length : Int) 0 bt366.1 bt366.2.1 bt366.2.2.1)))
def pylonlaw05_HolidayLists.j2 : Nat → List (S25) → Int → Int → List (S33) → Int → Int → Int → Bool → Option (Bool)
 | 0, _, _, _, _, _, _, _, _ => none
 | k + 1, x0, x1, x2, x7, x10, x56, x57, x83 => if x83 = true then (some false) else (if 0 ≤ x10 then (if x10 < (x7.length : Int) then ((holiday_Is.f k x0 ((rd_T33 x7 x10).f0) ((rd_T33 x7 x10).f1) ((rd_T33 x7 x10).f2)).bind fun bt362 => (if bt362.1 = true then (if bt362.2 = 0 then (pylonlaw05_HolidayLists.l1 k x0 x1 x2 x7 x56 (wrap64 (x57 + 1))) else (some false)) else (some false))) else (none)) else (none))
def pylonlaw05_HolidayLists.l2 : Nat → List (S25) → List (S33) → Bool → Int → Int → Int → Int → Int → Option (Bool)
 | 0, _, _, _, _, _, _, _, _ => none
 | k + 1, x0, x7, x17, x117, x118, x371000, x371001, x371002 => if x118 < x117 then (if x17 = true then (pylonlaw05_HolidayLists.l2 k x0 x7 true x117 (wrap64 (x118 + 1)) x371000 x371001 x371002) else (if 0 ≤ x118 then (if x118 < (x7.length : Int) then (pylonlaw05_HolidayLists.l2 k x0 x7 (((rd_T33 x7 x118).f0) == x371000 && (((rd_T33 x7 x118).f1) == x371001 && (((rd_T33 x7 x118).f2) == x371002))) x117 (wrap64 (x118 + 1)) x371000 x371001 x371002) else (none)) else (none))) else ((holiday_Is.f k x0 x371000 x371001 x371002).bind fun bt372 => (if bt372.2 = 0 then (some (bt372.1 == x17)) else (some false)))
end
def pylonlaw05_HolidayLists.f (k : Nat) (l0 : List (S25)) (a1 : Int) (a2 : Int) : Option (Bool) := (pylonlaw05_awake.f).bind fun t350 => (if t350 = true then ((holiday_List.f k l0 (wrap64 (1 + (wrap64 (Int.tmod (IntKind.u64.wrap (a1)) 9999))))).bind fun bt351 => (pylonlaw05_HolidayLists.l0 k l0 (wrap64 (1 + (wrap64 (Int.tmod (IntKind.u64.wrap (a1)) 9999)))) a2 bt351.1 bt351.2 (l0.length : Int) 0)) else (some false))
theorem pylonlaw05_HolidayLists.mono_l : ∀ k, (∀ y0 y1 y2 y3 y4 y5 y6, LeO (pylonlaw05_HolidayLists.l0 k y0 y1 y2 y3 y4 y5 y6) (pylonlaw05_HolidayLists.l0 (k + 1) y0 y1 y2 y3 y4 y5 y6)) ∧ (∀ y0 y1 y2 y3 y4 y5, LeO (pylonlaw05_HolidayLists.l1 k y0 y1 y2 y3 y4 y5) (pylonlaw05_HolidayLists.l1 (k + 1) y0 y1 y2 y3 y4 y5)) ∧ (∀ y0 y1 y2 y3 y4 y5 y6 y7, LeO (pylonlaw05_HolidayLists.j2 k y0 y1 y2 y3 y4 y5 y6 y7) (pylonlaw05_HolidayLists.j2 (k + 1) y0 y1 y2 y3 y4 y5 y6 y7)) ∧ (∀ y0 y1 y2 y3 y4 y5 y6 y7, LeO (pylonlaw05_HolidayLists.l2 k y0 y1 y2 y3 y4 y5 y6 y7) (pylonlaw05_HolidayLists.l2 (k + 1) y0 y1 y2 y3 y4 y5 y6 y7))
 | 0 => ⟨fun _ _ _ _ _ _ _ r h => by simp [pylonlaw05_HolidayLists.l0] at h, fun _ _ _ _ _ _ r h => by simp [pylonlaw05_HolidayLists.l1] at h, fun _ _ _ _ _ _ _ _ r h => by simp [pylonlaw05_HolidayLists.j2] at h, fun _ _ _ _ _ _ _ _ r h => by simp [pylonlaw05_HolidayLists.l2] at h⟩
 | k + 1 => by
  obtain ⟨ih0, ih1, ih2, ih3⟩ := pylonlaw05_HolidayLists.mono_l k
  refine ⟨?_, ?_, ?_, ?_⟩
  ·intro y0 y1 y2 y3 y4 y5 y6
   unfold pylonlaw05_HolidayLists.l0
   repeat' first
   | (with_reducible exact ih0 _ _ _ _ _ _ _)
   | (with_reducible exact ih1 _ _ _ _ _ _)
   | (with_reducible exact ih2 _ _ _ _ _ _ _ _)
   | (with_reducible exact ih3 _ _ _ _ _ _ _ _)
   | (with_reducible exact holiday_Is.mono _ _ _ _ _)
   | (with_reducible exact holiday_List.mono _ _ _)
   | (with_reducible exact pylonref03_Days.mono _ _ _ _)
   | (with_reducible exact pylonref03_Of.mono _ _)
   | (with_reducible exact pylonref05_Check.mono _ _ _ _ _)
   | (with_reducible exact LeO.refl _)
   | (with_reducible exact LeO.none _)
   | (with_reducible refine LeO.ite ?_ ?_)
   | (with_reducible refine LeO.bind ?_ (fun _ => ?_))
  ·intro y0 y1 y2 y3 y4 y5
   unfold pylonlaw05_HolidayLists.l1
   repeat' first
   | (with_reducible exact ih0 _ _ _ _ _ _ _)
   | (with_reducible exact ih1 _ _ _ _ _ _)
   | (with_reducible exact ih2 _ _ _ _ _ _ _ _)
   | (with_reducible exact ih3 _ _ _ _ _ _ _ _)
   | (with_reducible exact holiday_Is.mono _ _ _ _ _)
   | (with_reducible exact holiday_List.mono _ _ _)
   | (with_reducible exact pylonref03_Days.mono _ _ _ _)
   | (with_reducible exact pylonref03_Of.mono _ _)
   | (with_reducible exact pylonref05_Check.mono _ _ _ _ _)
   | (with_reducible exact LeO.refl _)
   | (with_reducible exact LeO.none _)
   | (with_reducible refine LeO.ite ?_ ?_)
   | (with_reducible refine LeO.bind ?_ (fun _ => ?_))
  ·intro y0 y1 y2 y3 y4 y5 y6 y7
   unfold pylonlaw05_HolidayLists.j2
   repeat' first
   | (with_reducible exact ih0 _ _ _ _ _ _ _)
   | (with_reducible exact ih1 _ _ _ _ _ _)
   | (with_reducible exact ih2 _ _ _ _ _ _ _ _)
   | (with_reducible exact ih3 _ _ _ _ _ _ _ _)
   | (with_reducible exact holiday_Is.mono _ _ _ _ _)
   | (with_reducible exact holiday_List.mono _ _ _)
   | (with_reducible exact pylonref03_Days.mono _ _ _ _)
   | (with_reducible exact pylonref03_Of.mono _ _)
   | (with_reducible exact pylonref05_Check.mono _ _ _ _ _)
   | (with_reducible exact LeO.refl _)
   | (with_reducible exact LeO.none _)
   | (with_reducible refine LeO.ite ?_ ?_)
   | (with_reducible refine LeO.bind ?_ (fun _ => ?_))
  ·intro y0 y1 y2 y3 y4 y5 y6 y7
   unfold pylonlaw05_HolidayLists.l2
   repeat' first
   | (with_reducible exact ih0 _ _ _ _ _ _ _)
   | (with_reducible exact ih1 _ _ _ _ _ _)
   | (with_reducible exact ih2 _ _ _ _ _ _ _ _)
   | (with_reducible exact ih3 _ _ _ _ _ _ _ _)
   | (with_reducible exact holiday_Is.mono _ _ _ _ _)
   | (with_reducible exact holiday_List.mono _ _ _)
   | (with_reducible exact pylonref03_Days.mono _ _ _ _)
   | (with_reducible exact pylonref03_Of.mono _ _)
   | (with_reducible exact pylonref05_Check.mono _ _ _ _ _)
   | (with_reducible exact LeO.refl _)
   | (with_reducible exact LeO.none _)
   | (with_reducible refine LeO.ite ?_ ?_)
   | (with_reducible refine LeO.bind ?_ (fun _ => ?_))
theorem pylonlaw05_HolidayLists.mono : ∀ a0 a1 a2 k, LeO (pylonlaw05_HolidayLists.f k a0 a1 a2) (pylonlaw05_HolidayLists.f (k + 1) a0 a1 a2) := by
 intro a0 a1 a2 k
 obtain ⟨ih0, ih1, ih2, ih3⟩ := pylonlaw05_HolidayLists.mono_l k
 unfold pylonlaw05_HolidayLists.f
 repeat' first
   | (with_reducible exact ih0 _ _ _ _ _ _ _)
   | (with_reducible exact ih1 _ _ _ _ _ _)
   | (with_reducible exact ih2 _ _ _ _ _ _ _ _)
   | (with_reducible exact ih3 _ _ _ _ _ _ _ _)
   | (with_reducible exact holiday_Is.mono _ _ _ _ _)
   | (with_reducible exact holiday_List.mono _ _ _)
   | (with_reducible exact pylonref03_Days.mono _ _ _ _)
   | (with_reducible exact pylonref03_Of.mono _ _)
   | (with_reducible exact pylonref05_Check.mono _ _ _ _ _)
   | (with_reducible exact LeO.refl _)
   | (with_reducible exact LeO.none _)
   | (with_reducible refine LeO.ite ?_ ?_)
   | (with_reducible refine LeO.bind ?_ (fun _ => ?_))
def pylonlaw05_HolidayLists.T16 : Bool × List (List Nat × List Nat) := (true, [([], []), ([], []), ([0, 1], [0, 1]), ([2], [2]), ([3], [3]), ([], []), ([4, 5], [4, 5]), ([6], [6]), ([7], [7]), ([8, 7], [7, 8]), ([9, 7, 7], [7, 9]), ([10], [10]), ([10], [10]), ([12, 10], [10, 12]), ([11, 13, 10], [10, 11, 13]), ([14, 10], [10, 14]), ([10], [10]), ([10], [10]), ([16, 17, 10], [10, 16, 17]), ([18, 10], [10, 18]), ([15, 19, 10, 10], [10, 15, 19]), ([20, 10], [10, 20]), ([10, 21, 7], [7, 10, 21]), ([7, 22], [7, 22])])
def pylonlaw05_HolidayLists.B16 : List Nat := [0, 0, 3, 7, 15, 0, 63, 127, 255, 511, 1023, 2047, 2047, 6143, 16383, 32767, 2047, 2047, 198655, 460799, 1048575, 2097151, 4194303, 8388607]
theorem pylonlaw05_HolidayLists.tab16 : rtab .any (opsOf Try.f6 16) = pylonlaw05_HolidayLists.T16 := by kernel_rfl
theorem pylonlaw05_HolidayLists.bits16 : waitsOk pylonlaw05_HolidayLists.T16.2 pylonlaw05_HolidayLists.B16 = true := by kernel_rfl
def pylonlaw05_HolidayLists.T28 : Bool × List (List Nat × List Nat) := (true, [([], []), ([0], [0]), ([1], [1]), ([1], [1]), ([2, 3, 1], [1, 2, 3]), ([4, 1], [1, 4]), ([1], [1]), ([5, 6, 1], [1, 5, 6]), ([1, 7], [1, 7]), ([8, 1, 0, 1, 2, 3, 4, 5, 6, 7, 8], [0, 8])])
def pylonlaw05_HolidayLists.B28 : List Nat := [0, 1, 3, 3, 15, 31, 3, 127, 255, 511]
theorem pylonlaw05_HolidayLists.tab28 : rtab .any (opsOf Try.f6 28) = pylonlaw05_HolidayLists.T28 := by kernel_rfl
theorem pylonlaw05_HolidayLists.bits28 : waitsOk pylonlaw05_HolidayLists.T28.2 pylonlaw05_HolidayLists.B28 = true := by kernel_rfl
set_option maxHeartbeats 8000000 in
set_option maxRecDepth 100000 in
theorem pylonlaw05_HolidayLists.calls (k : Nat) (A0 : Option Addr) (c0 : Nat) (l0 : List (S25)) (a1 : Int) (a2 : Int) (r : Bool) (w : World) (hr0 : Kd.C k25 w A0 l0.length l0) (hc0 : l0.length ≤ c0) (h : pylonlaw05_HolidayLists.f k l0 a1 a2 = some r) :
  Calls Try.prog 6 #[.slice A0 l0.length c0, .int .i64 a1, .int .i64 a2] w fun e w' => e = .returned (.bool r) ∧ Below w.heap.size w w' := by
 have hu25 := Try.underlying25
 have hu33 := Try.underlying33
 have HR0 := AX hr0
 have HC0 := AX hc0
 clear hr0 hc0
 have HB := AX (Below.refl w.heap.size w)
 have H : ((pylonlaw05_awake.f).bind fun t350 => (if t350 = true then ((holiday_List.f k l0 (wrap64 (1 + (wrap64 (Int.tmod (IntKind.u64.wrap (a1)) 9999))))).bind fun bt351 => (pylonlaw05_HolidayLists.l0 k l0 (wrap64 (1 + (wrap64 (Int.tmod (IntKind.u64.wrap (a1)) 9999)))) a2 bt351.1 bt351.2 (l0.length : Int) 0)) else (some false))) = some r := h
 clear h
 replace H := Option.bind_eq_some_iff.mp H
 obtain ⟨t350, A40, H⟩ := H
 replace H : (if t350 = true then ((holiday_List.f k l0 (wrap64 (1 + (wrap64 (Int.tmod (IntKind.u64.wrap (a1)) 9999))))).bind fun bt351 => (pylonlaw05_HolidayLists.l0 k l0 (wrap64 (1 + (wrap64 (Int.tmod (IntKind.u64.wrap (a1)) 9999)))) a2 bt351.1 bt351.2 (l0.length : Int) 0)) else (some false)) = some r := H
 have A4 := AX A40
 clear A40
 by_cases c5 : t350 = true
 ·subst c5
  have H1 : ((holiday_List.f k l0 (wrap64 (1 + (wrap64 (Int.tmod (IntKind.u64.wrap (a1)) 9999))))).bind fun bt351 => (pylonlaw05_HolidayLists.l0 k l0 (wrap64 (1 + (wrap64 (Int.tmod (IntKind.u64.wrap (a1)) 9999)))) a2 bt351.1 bt351.2 (l0.length : Int) 0)) = some r := by rw [if_pos rfl] at H; exact H
  clear H
  have H := H1
  clear H1
  replace H := Option.bind_eq_some_iff.mp H
  obtain ⟨⟨t351, t352⟩, A60, H⟩ := H
  replace H : (pylonlaw05_HolidayLists.l0 k l0 (wrap64 (1 + (wrap64 (Int.tmod (IntKind.u64.wrap (a1)) 9999)))) a2 t351 t352 (l0.length : Int) 0) = some r := H
  have A6 := AX A60
  clear A60
  have H' := AX H
  clear H
  go_enter Try.func6, Try.ntmps6
  go_wp2_with (first | ((with_reducible refine gate_callee (f := 8) rfl ?_); refine gL (some 21) Try.func8 #[] ?_; (with_reducible refine (pylonlaw05_awake.calls  true _ A4.out).mono ?_); rintro e w7 ⟨rfl, hb⟩; refine ⟨_, rfl, ?_⟩; replace HB := AX (below_step bw hb); (try clear hb)) | ((with_reducible refine gate_callee (f := 9) rfl ?_); refine gL (some 31) Try.func9 #[.slice A0 l0.length c0, .int .i64 (wrap64 (1 + (wrap64 (Int.tmod (IntKind.u64.wrap (a1)) 9999))))] ?_; (with_reducible refine (holiday_List.calls k _ _ l0 (wrap64 (1 + (wrap64 (Int.tmod (IntKind.u64.wrap (a1)) 9999)))) t351 t352 _ ?side1 ?side2 A6.out).mono ?_); (case side1 => repeat (first | exact (Kd.C_below HR0.out HB.out) | (with_reducible refine Kd.C_alloc ?_ _) | (with_reducible refine Kd.C_drewN ?_ _) | (with_reducible refine Kd.C_drew ?_))); (case side2 => exact HC0.out); rintro e w8 ⟨v353, rfl, ho0, hb⟩; refine ⟨_, rfl, ?_⟩; have HO354 := AX (Kd.R_lower ho0 (below_size bw)); replace HB := AX (below_step bw hb); (try clear hb); (try clear hb2); (try clear hk); (try clear hi); (try clear ho0)))
  go_loopg [36] k (fun kq v36 w' => ∃ (x36_1 : Int), v36 = .int .i64 x36_1 ∧ Aside0 (pylonlaw05_HolidayLists.l0 kq l0 (wrap64 (1 + (wrap64 (Int.tmod (IntKind.u64.wrap (a1)) 9999)))) a2 t351 t352 (l0.length : Int) x36_1 = some r) ∧ Aside0 (kq ≤ k) ∧ Aside0 (Kd.R k33 33 w' w.heap.size (fun _ => True) v353 t351) ∧ Aside0 (Below w.heap.size w w'))
  case atStart => exact ⟨(0), (by first | rfl | (simp; done) | (simp [*]; done)), H', ⟨Nat.le_refl _⟩, ⟨kr HO354⟩, ⟨bw⟩⟩
  case round =>
   clear H'
   try clear c5
   obtain ⟨x36_1, rfl, HA, HK1, HO_7, HB⟩ := hrel
   cases gk with
   | zero => exact absurd HA.out (by simp [pylonlaw05_HolidayLists.l0])
   | succ k1 =>
    have H := HA.out
    clear HA
    simp only [pylonlaw05_HolidayLists.l0] at H
    by_cases c9 : x36_1 < (l0.length : Int)
    ·rw [if_pos c9] at H
     have c9b0 : decide (x36_1 < (l0.length : Int)) = true := decide_eq_true c9
     clear c9
     by_cases c10 : 0 ≤ x36_1
     ·rw [if_pos c10] at H
      have c10b0 : decide (0 ≤ x36_1) = true := decide_eq_true c10
      clear c10
      by_cases c11 : x36_1 < (l0.length : Int)
      ·rw [if_pos c11] at H
       have c11b0 : decide (x36_1 < (l0.length : Int)) = true := decide_eq_true c11
       clear c11
       replace H := Option.bind_eq_some_iff.mp H
       obtain ⟨t356, A120, H⟩ := H
       replace H : (if t356 = 0 then (pylonlaw05_HolidayLists.l0 k1 l0 (wrap64 (1 + (wrap64 (Int.tmod (IntKind.u64.wrap (a1)) 9999)))) a2 t351 t352 (l0.length : Int) (wrap64 (x36_1 + 1))) else (if t352 = 8 then (some ((t351.length : Int) == 0)) else (some false))) = some r := H
       have A12 := AX A120
       clear A120
       by_cases c13 : t356 = 0
       ·rw [if_pos c13] at H
        have c13b0 : (t356 == 0) = true := beq_iff_eq.mpr c13
        have c13b1 : (t356 != 0) = false := bne_eq_false_iff_eq.mpr c13
        clear c13
        have H' := AX H
        clear H
        have p355 : 0 ≤ (x36_1 : Int) := of_decide_eq_true (by first | (with_reducible assumption) | assumption)
        have q355 : x36_1 < (l0.length : Int) := of_decide_eq_true (by first | (with_reducible assumption) | assumption)
        obtain ⟨ad355, e355, hx355_0, hx355_1, hx355_2, hx355_3⟩ := at_T25 HR0.out x36_1 p355 q355
        cases e355
        replace hx355_0 := bcl HB hx355_0
        replace hx355_1 := bcl HB hx355_1
        replace hx355_2 := bcl HB hx355_2
        replace hx355_3 := bcl HB hx355_3
        replace p355 := eq_true p355
        replace q355 := eq_true q355
        go_wp2_with (first | ((with_reducible refine gate_callee (f := 15) rfl ?_); refine gL (some 43) Try.func15 #[.agg #[.int .i64 ((rd_T25 l0 x36_1).f0), .int .i64 ((rd_T25 l0 x36_1).f1), .int .i64 ((rd_T25 l0 x36_1).f2), .int .i64 ((rd_T25 l0 x36_1).f3)]] ?_; (with_reducible refine (pylonref05_Check.calls k1 ((rd_T25 l0 x36_1).f0) ((rd_T25 l0 x36_1).f1) ((rd_T25 l0 x36_1).f2) ((rd_T25 l0 x36_1).f3) t356 _ A12.out).mono ?_); rintro e w14 ⟨rfl, hb⟩; refine ⟨_, rfl, ?_⟩; replace HO_7 := AX (Kd.R_below (kr HO_7) hb); replace HB := AX (below_step bw hb); (try clear hb)))
        go_roundg k1
        case measure => have := HK1.out; omega
        case rel => exact ⟨(wrap64 (x36_1 + 1)), (by first | rfl | (simp; done) | (simp [*]; done)), H', ⟨by have := HK1.out; omega⟩, ⟨kr HO_7⟩, ⟨bw⟩⟩
       ·rw [if_neg c13] at H
        have c13b0 : (t356 == 0) = false := beq_eq_false_iff_ne.mpr c13
        have c13b1 : (t356 != 0) = true := bne_iff_ne.mpr c13
        by_cases c15 : t352 = 8
        ·rw [if_pos c15] at H
         have c15b0 : (t352 == 8) = true := beq_iff_eq.mpr c15
         have c15b1 : (t352 != 8) = false := bne_eq_false_iff_eq.mpr c15
         clear c15
         obtain rfl := Option.some.inj H
         have p355 : 0 ≤ (x36_1 : Int) := of_decide_eq_true (by first | (with_reducible assumption) | assumption)
         have q355 : x36_1 < (l0.length : Int) := of_decide_eq_true (by first | (with_reducible assumption) | assumption)
         obtain ⟨ad355, e355, hx355_0, hx355_1, hx355_2, hx355_3⟩ := at_T25 HR0.out x36_1 p355 q355
         cases e355
         replace hx355_0 := bcl HB hx355_0
         replace hx355_1 := bcl HB hx355_1
         replace hx355_2 := bcl HB hx355_2
         replace hx355_3 := bcl HB hx355_3
         replace p355 := eq_true p355
         replace q355 := eq_true q355
         go_wp2_with (first | ((with_reducible refine gate_callee (f := 15) rfl ?_); refine gL (some 43) Try.func15 #[.agg #[.int .i64 ((rd_T25 l0 x36_1).f0), .int .i64 ((rd_T25 l0 x36_1).f1), .int .i64 ((rd_T25 l0 x36_1).f2), .int .i64 ((rd_T25 l0 x36_1).f3)]] ?_; (with_reducible refine (pylonref05_Check.calls k1 ((rd_T25 l0 x36_1).f0) ((rd_T25 l0 x36_1).f1) ((rd_T25 l0 x36_1).f2) ((rd_T25 l0 x36_1).f3) t356 _ A12.out).mono ?_); rintro e w16 ⟨rfl, hb⟩; refine ⟨_, rfl, ?_⟩; replace HO_7 := AX (Kd.R_below (kr HO_7) hb); replace HB := AX (below_step bw hb); (try clear hb); obtain ⟨Ao17, co17, eo17⟩ := Kd.R_slice HO_7.out; subst eo17))
         go_ret
         exact ⟨by first | rfl | (simp [errW_none, errW_some] <;> rfl) | (simp [*, errW_none, errW_some] <;> rfl), bw⟩
        ·rw [if_neg c15] at H
         have c15b0 : (t352 == 8) = false := beq_eq_false_iff_ne.mpr c15
         have c15b1 : (t352 != 8) = true := bne_iff_ne.mpr c15
         obtain rfl := Option.some.inj H
         have p355 : 0 ≤ (x36_1 : Int) := of_decide_eq_true (by first | (with_reducible assumption) | assumption)
         have q355 : x36_1 < (l0.length : Int) := of_decide_eq_true (by first | (with_reducible assumption) | assumption)
         obtain ⟨ad355, e355, hx355_0, hx355_1, hx355_2, hx355_3⟩ := at_T25 HR0.out x36_1 p355 q355
         cases e355
         replace hx355_0 := bcl HB hx355_0
         replace hx355_1 := bcl HB hx355_1
         replace hx355_2 := bcl HB hx355_2
         replace hx355_3 := bcl HB hx355_3
         replace p355 := eq_true p355
         replace q355 := eq_true q355
         go_wp2_with (first | ((with_reducible refine gate_callee (f := 15) rfl ?_); refine gL (some 43) Try.func15 #[.agg #[.int .i64 ((rd_T25 l0 x36_1).f0), .int .i64 ((rd_T25 l0 x36_1).f1), .int .i64 ((rd_T25 l0 x36_1).f2), .int .i64 ((rd_T25 l0 x36_1).f3)]] ?_; (with_reducible refine (pylonref05_Check.calls k1 ((rd_T25 l0 x36_1).f0) ((rd_T25 l0 x36_1).f1) ((rd_T25 l0 x36_1).f2) ((rd_T25 l0 x36_1).f3) t356 _ A12.out).mono ?_); rintro e w18 ⟨rfl, hb⟩; refine ⟨_, rfl, ?_⟩; replace HO_7 := AX (Kd.R_below (kr HO_7) hb); replace HB := AX (below_step bw hb); (try clear hb)))
         go_ret
         exact ⟨by first | rfl | (simp [errW_none, errW_some] <;> rfl) | (simp [*, errW_none, errW_some] <;> rfl), bw⟩
      ·rw [if_neg c11] at H
       exact absurd H (by simp)
     ·rw [if_neg c10] at H
      exact absurd H (by simp)
    ·rw [if_neg c9] at H
     have c9b0 : decide (x36_1 < (l0.length : Int)) = false := decide_eq_false c9
     clear c9
     by_cases c19 : t352 = 0
     ·rw [if_pos c19] at H
      have c19b0 : (t352 == 0) = true := beq_iff_eq.mpr c19
      have c19b1 : (t352 != 0) = false := bne_eq_false_iff_eq.mpr c19
      clear c19
      have H' := AX H
      clear H
      obtain ⟨Ao20, co20, eo20⟩ := Kd.R_slice HO_7.out
      subst eo20
      go_wp2
      go_loopg [57] k1 (fun kq v57 w' => ∃ (x57_2 : Int), v57 = .int .i64 x57_2 ∧ Aside0 (pylonlaw05_HolidayLists.l1 kq l0 (wrap64 (1 + (wrap64 (Int.tmod (IntKind.u64.wrap (a1)) 9999)))) a2 t351 (t351.length : Int) x57_2 = some r) ∧ Aside0 (kq ≤ k1) ∧ Aside0 (Kd.R k33 33 w' w.heap.size (fun _ => True) (.slice Ao20 t351.length co20) t351) ∧ Aside0 (Below w.heap.size w w'))
      case atStart => exact ⟨(0), (by first | rfl | (simp; done) | (simp [*]; done)), H', ⟨Nat.le_refl _⟩, ⟨kr HO_7⟩, ⟨bw⟩⟩
      case round =>
       clear H'
       try clear c9b0
       try clear c19b0 c19b1
       obtain ⟨x57_2, rfl, HA, HK2, HO_7, HB⟩ := hrel
       cases gk with
       | zero => exact absurd HA.out (by simp [pylonlaw05_HolidayLists.l1])
       | succ k2 =>
        have H := HA.out
        clear HA
        simp only [pylonlaw05_HolidayLists.l1] at H
        by_cases c21 : x57_2 < (t351.length : Int)
        ·rw [if_pos c21] at H
         have c21b0 : decide (x57_2 < (t351.length : Int)) = true := decide_eq_true c21
         clear c21
         have HC22 := AX H
         clear H
         go_upto_region 16 with (fail)
         go_cut [83] (fun v83 wc => ∃ (kq : Nat) (x83_21 : Bool), v83 = .bool x83_21 ∧ Aside0 (pylonlaw05_HolidayLists.j2 kq l0 (wrap64 (1 + (wrap64 (Int.tmod (IntKind.u64.wrap (a1)) 9999)))) a2 t351 x57_2 (t351.length : Int) x57_2 x83_21 = some r) ∧ Aside0 (kq ≤ k2) ∧ Aside0 (Kd.R k33 33 wc w.heap.size (fun _ => True) (.slice Ao20 t351.length co20) t351) ∧ Aside0 (Below w.heap.size w wc))
         case first =>
          have H := HC22.out
          clear HC22
          by_cases c23 : 0 ≤ x57_2
          ·rw [if_pos c23] at H
           have c23b0 : decide (0 ≤ x57_2) = true := decide_eq_true c23
           clear c23
           (first | rw [c23b0] | (simp only [i64_w, i32_w]; rw [c23b0]) | skip)
           by_cases c24 : x57_2 < (t351.length : Int)
           ·rw [if_pos c24] at H
            have c24b0 : decide (x57_2 < (t351.length : Int)) = true := decide_eq_true c24
            clear c24
            by_cases c25 : ((rd_T33 t351 x57_2).f0) = (wrap64 (1 + (wrap64 (Int.tmod (IntKind.u64.wrap (a1)) 9999))))
            ·rw [if_pos c25] at H
             have c25b0 : (((rd_T33 t351 x57_2).f0) == (wrap64 (1 + (wrap64 (Int.tmod (IntKind.u64.wrap (a1)) 9999))))) = true := beq_iff_eq.mpr c25
             have c25b1 : (((rd_T33 t351 x57_2).f0) != (wrap64 (1 + (wrap64 (Int.tmod (IntKind.u64.wrap (a1)) 9999))))) = false := bne_eq_false_iff_eq.mpr c25
             clear c25
             by_cases c26 : x57_2 > 0
             ·rw [if_pos c26] at H
              have c26b0 : decide (0 < x57_2) = true := decide_eq_true c26
              clear c26
              obtain ⟨ji27, hji27⟩ : ∃ j_ : Int, (wrap64 (x57_2 - 1)) = j_ := ⟨_, rfl⟩
              replace H : (if 0 ≤ (ji27) then (if (ji27) < (t351.length : Int) then ((pylonref03_Compare.f ((rd_T33 t351 (ji27)).f0) ((rd_T33 t351 (ji27)).f1) ((rd_T33 t351 (ji27)).f2) ((rd_T33 t351 x57_2).f0) ((rd_T33 t351 x57_2).f1) ((rd_T33 t351 x57_2).f2)).bind fun t360 => (pylonlaw05_HolidayLists.j2 k2 l0 (wrap64 (1 + (wrap64 (Int.tmod (IntKind.u64.wrap (a1)) 9999)))) a2 t351 x57_2 (t351.length : Int) x57_2 (decide (t360 ≥ 0)))) else (none)) else (none)) = some r := by first | (rw [hji27] at H; exact H) | (simp only [hji27] at H ⊢; exact H)
              have hji27w : (IntKind.i64.wrap (x57_2 - 1)) = ji27 := (i64_w _).trans hji27
              by_cases c28 : 0 ≤ (ji27)
              ·rw [if_pos c28] at H
               have c28b0 : decide (0 ≤ (ji27)) = true := decide_eq_true c28
               clear c28
               by_cases c29 : (ji27) < (t351.length : Int)
               ·rw [if_pos c29] at H
                have c29b0 : decide ((ji27) < (t351.length : Int)) = true := decide_eq_true c29
                clear c29
                replace H := Option.bind_eq_some_iff.mp H
                obtain ⟨t360, A300, H⟩ := H
                replace H : (pylonlaw05_HolidayLists.j2 k2 l0 (wrap64 (1 + (wrap64 (Int.tmod (IntKind.u64.wrap (a1)) 9999)))) a2 t351 x57_2 (t351.length : Int) x57_2 (decide (t360 ≥ 0))) = some r := H
                have A30 := AX A300
                clear A300
                have H' := AX H
                clear H
                try go_wp2
                have n0_ := AX (Kd.R_drew HO_7.out)
                have n1_ := AX (below_drew1 HB.out)
                clear HO_7
                clear HB
                have HO_7 := n0_
                have HB := n1_
                clear n0_ n1_
                have p357 : 0 ≤ (x57_2 : Int) := of_decide_eq_true (by first | (with_reducible assumption) | assumption)
                have q357 : x57_2 < (t351.length : Int) := of_decide_eq_true (by first | (with_reducible assumption) | assumption)
                obtain ⟨ad357, e357, hx357_0, hx357_1, hx357_2⟩ := at_T33 (Kd.R_reads' HO_7.out).2.2 x57_2 p357 q357
                cases e357
                replace p357 := eq_true p357
                replace q357 := eq_true q357
                have p358 : 0 ≤ ((ji27) : Int) := of_decide_eq_true (by first | (with_reducible assumption) | assumption)
                have q358 : (ji27) < (t351.length : Int) := of_decide_eq_true (by first | (with_reducible assumption) | assumption)
                obtain ⟨ad358, e358, hx358_0, hx358_1, hx358_2⟩ := at_T33 (Kd.R_reads' HO_7.out).2.2 (ji27) p358 q358
                obtain rfl : ad357 = ad358 := (by injection e358)
                replace p358 := eq_true p358
                replace q358 := eq_true q358
                have p359 : 0 ≤ (x57_2 : Int) := of_decide_eq_true (by first | (with_reducible assumption) | assumption)
                have q359 : x57_2 < (t351.length : Int) := of_decide_eq_true (by first | (with_reducible assumption) | assumption)
                obtain ⟨ad359, e359, hx359_0, hx359_1, hx359_2⟩ := at_T33 (Kd.R_reads' HO_7.out).2.2 x57_2 p359 q359
                obtain rfl : ad357 = ad359 := (by injection e359)
                replace p359 := eq_true p359
                replace q359 := eq_true q359
                refine start_ (n := 24) (S := fun w' => w'.cell? (ad357.add ((x57_2).toNat * 3)) = some (.int .i64 ((rd_T33 t351 x57_2).f0)) ∧ w'.cell? ⟨(ad357.add ((x57_2).toNat * 3)).block, (ad357.add ((x57_2).toNat * 3)).off + 1, none⟩ = some (.int .i64 ((rd_T33 t351 x57_2).f1)) ∧ w'.cell? ⟨(ad357.add ((x57_2).toNat * 3)).block, (ad357.add ((x57_2).toNat * 3)).off + 2, none⟩ = some (.int .i64 ((rd_T33 t351 x57_2).f2)) ∧ w'.cell? (ad357.add (((ji27)).toNat * 3)) = some (.int .i64 ((rd_T33 t351 (ji27)).f0)) ∧ w'.cell? ⟨(ad357.add (((ji27)).toNat * 3)).block, (ad357.add (((ji27)).toNat * 3)).off + 1, none⟩ = some (.int .i64 ((rd_T33 t351 (ji27)).f1)) ∧ w'.cell? ⟨(ad357.add (((ji27)).toNat * 3)).block, (ad357.add (((ji27)).toNat * 3)).off + 2, none⟩ = some (.int .i64 ((rd_T33 t351 (ji27)).f2)) ∧ w'.cell? (ad357.add ((x57_2).toNat * 3)) = some (.int .i64 ((rd_T33 t351 x57_2).f0)) ∧ w'.cell? ⟨(ad357.add ((x57_2).toNat * 3)).block, (ad357.add ((x57_2).toNat * 3)).off + 1, none⟩ = some (.int .i64 ((rd_T33 t351 x57_2).f1)) ∧ w'.cell? ⟨(ad357.add ((x57_2).toNat * 3)).block, (ad357.add ((x57_2).toNat * 3)).off + 2, none⟩ = some (.int .i64 ((rd_T33 t351 x57_2).f2))) (ds := []) #[false, false, false, false, false, false, false, false, false, false, false, false, false, false, false, false, false, false, false, false, false, false, false, false] (by kernel_rfl) rfl rfl ⟨hx357_0, hx357_1, hx357_2, hx358_0, hx358_1, hx358_2, hx359_0, hx359_1, hx359_2⟩ (fun hHeld => ?_); refine with_tabW pylonlaw05_HolidayLists.tab16 pylonlaw05_HolidayLists.bits16 (fun HT_ HW_ => ?_)
                generalize wr.drew = w31 at HO_7 HB hx357_0 hx357_1 hx357_2 hx358_0 hx358_1 hx358_2 hx359_0 hx359_1 hx359_2 hHeld ⊢
                refine pure_ (i := 0) (N := some 60) (v := ?_) (a' := ?_) #[true, false, false, false, false, false, false, false, false, false, false, false, false, false, false, false, false, false, false, false, false, false, false, false] rfl rfl (any_of HT_.out (by kernel_rfl)) (fun _ _ _ h => h) (Or.inl ⟨by rfl, ?_⟩) ?_ ?_
                rotate_left
                ·intro w'
                 go_simp
                 with_reducible rfl
                rotate_left
                ·simp only [Act.put, List.setIfInBounds_toArray, List.set_cons_zero, List.set_cons_succ, i64_w, i32_w]
                 rfl
                refine pure_ (i := 1) (N := some 61) (v := ?_) (a' := ?_) #[true, true, false, false, false, false, false, false, false, false, false, false, false, false, false, false, false, false, false, false, false, false, false, false] rfl rfl (any_of HT_.out (by kernel_rfl)) (fun _ _ _ h => h) (Or.inl ⟨by rfl, ?_⟩) ?_ ?_
                rotate_left
                ·intro w'
                 go_simp
                 with_reducible rfl
                rotate_left
                ·simp only [Act.put, List.setIfInBounds_toArray, List.set_cons_zero, List.set_cons_succ, i64_w, i32_w]
                 rfl
                refine pure_ (i := 2) (N := some 62) (v := ?_) (a' := ?_) #[true, true, true, false, false, false, false, false, false, false, false, false, false, false, false, false, false, false, false, false, false, false, false, false] rfl rfl (any_of HT_.out (by kernel_rfl)) (fun _ _ _ h => h) (Or.inl ⟨by rfl, ?_⟩) ?_ ?_
                rotate_left
                ·intro w'
                 go_simp
                 with_reducible rfl
                rotate_left
                ·simp only [Act.put, List.setIfInBounds_toArray, List.set_cons_zero, List.set_cons_succ, i64_w, i32_w]
                 rfl
                refine pure_ (i := 3) (N := some 63) (v := ?_) (a' := ?_) #[true, true, true, true, false, false, false, false, false, false, false, false, false, false, false, false, false, false, false, false, false, false, false, false] rfl rfl (any_of HT_.out (by kernel_rfl)) (fun _ _ _ h => h) (Or.inl ⟨by rfl, ?_⟩) ?_ ?_
                rotate_left
                ·intro w'
                 go_simp
                 with_reducible rfl
                rotate_left
                ·simp only [Act.put, List.setIfInBounds_toArray, List.set_cons_zero, List.set_cons_succ, i64_w, i32_w]
                 rfl
                refine pure_ (i := 5) (N := some 65) (v := ?_) (a' := ?_) #[true, true, true, true, false, true, false, false, false, false, false, false, false, false, false, false, false, false, false, false, false, false, false, false] rfl rfl (any_of HT_.out (by kernel_rfl)) (fun _ _ _ h => h) (Or.inl ⟨by rfl, ?_⟩) ?_ ?_
                rotate_left
                ·intro w'
                 go_simp
                 with_reducible rfl
                rotate_left
                ·simp only [Act.put, List.setIfInBounds_toArray, List.set_cons_zero, List.set_cons_succ, i64_w, i32_w]
                 rfl
                refine take_ (i := 4) (N := some 64) (v := ?_) (a' := ?_) #[true, true, true, true, true, true, false, false, false, false, false, false, false, false, false, false, false, false, false, false, false, false, false, false] rfl rfl (take_ofW HT_.out HW_.out (by kernel_rfl)) (fun _ _ _ h => h) (Or.inl ⟨by rfl, ?_⟩) hHeld ?_ ?_
                rotate_left
                ·rintro w' ⟨s0, s1, s2, s3, s4, s5, s6, s7, s8⟩
                 go_simp
                 with_reducible rfl
                rotate_left
                ·simp only [Act.put, List.setIfInBounds_toArray, List.set_cons_zero, List.set_cons_succ, i64_w, i32_w]
                 rfl
                refine pure_ (i := 6) (N := some 66) (v := ?_) (a' := ?_) #[true, true, true, true, true, true, true, false, false, false, false, false, false, false, false, false, false, false, false, false, false, false, false, false] rfl rfl (any_of HT_.out (by kernel_rfl)) (fun _ _ _ h => h) (Or.inl ⟨by rfl, ?_⟩) ?_ ?_
                rotate_left
                ·intro w'
                 go_simp
                 with_reducible rfl
                rotate_left
                ·simp only [Act.put, List.setIfInBounds_toArray, List.set_cons_zero, List.set_cons_succ, i64_w, i32_w]
                 rfl
                refine pure_ (i := 7) (N := some 67) (v := ?_) (a' := ?_) #[true, true, true, true, true, true, true, true, false, false, false, false, false, false, false, false, false, false, false, false, false, false, false, false] rfl rfl (any_of HT_.out (by kernel_rfl)) (fun _ _ _ h => h) (Or.inl ⟨by rfl, ?_⟩) ?_ ?_
                rotate_left
                ·intro w'
                 go_simp
                 with_reducible rfl
                rotate_left
                ·simp only [Act.put, List.setIfInBounds_toArray, List.set_cons_zero, List.set_cons_succ, i64_w, i32_w]
                 rfl
                refine pure_ (i := 8) (N := some 68) (v := ?_) (a' := ?_) #[true, true, true, true, true, true, true, true, true, false, false, false, false, false, false, false, false, false, false, false, false, false, false, false] rfl rfl (any_of HT_.out (by kernel_rfl)) (fun _ _ _ h => h) (Or.inl ⟨by rfl, ?_⟩) ?_ ?_
                rotate_left
                ·intro w'
                 go_simp
                 with_reducible rfl
                rotate_left
                ·simp only [Act.put, List.setIfInBounds_toArray, List.set_cons_zero, List.set_cons_succ, i64_w, i32_w]
                 rfl
                refine pure_ (i := 9) (N := some 69) (v := ?_) (a' := ?_) #[true, true, true, true, true, true, true, true, true, true, false, false, false, false, false, false, false, false, false, false, false, false, false, false] rfl rfl (any_of HT_.out (by kernel_rfl)) (fun _ _ _ h => h) (Or.inl ⟨by rfl, ?_⟩) ?_ ?_
                rotate_left
                ·intro w'
                 go_simp
                 with_reducible rfl
                rotate_left
                ·simp only [Act.put, List.setIfInBounds_toArray, List.set_cons_zero, List.set_cons_succ, i64_w, i32_w]
                 rfl
                refine pure_ (i := 10) (N := some 70) (v := ?_) (a' := ?_) #[true, true, true, true, true, true, true, true, true, true, true, false, false, false, false, false, false, false, false, false, false, false, false, false] rfl rfl (any_of HT_.out (by kernel_rfl)) (fun _ _ _ h => h) (Or.inl ⟨by rfl, ?_⟩) ?_ ?_
                rotate_left
                ·intro w'
                 go_simp
                 with_reducible rfl
                rotate_left
                ·simp only [Act.put, List.setIfInBounds_toArray, List.set_cons_zero, List.set_cons_succ, i64_w, i32_w]
                 rfl
                refine pure_ (i := 11) (N := some 71) (v := ?_) (a' := ?_) #[true, true, true, true, true, true, true, true, true, true, true, true, false, false, false, false, false, false, false, false, false, false, false, false] rfl rfl (any_of HT_.out (by kernel_rfl)) (fun _ _ _ h => h) (Or.inl ⟨by rfl, ?_⟩) ?_ ?_
                rotate_left
                ·intro w'
                 go_simp
                 with_reducible rfl
                rotate_left
                ·simp only [Act.put, List.setIfInBounds_toArray, List.set_cons_zero, List.set_cons_succ, i64_w, i32_w]
                 rfl
                refine pure_ (i := 12) (N := some 72) (v := ?_) (a' := ?_) #[true, true, true, true, true, true, true, true, true, true, true, true, true, false, false, false, false, false, false, false, false, false, false, false] rfl rfl (any_of HT_.out (by kernel_rfl)) (fun _ _ _ h => h) (Or.inl ⟨by rfl, ?_⟩) ?_ ?_
                rotate_left
                ·intro w'
                 go_simp
                 with_reducible rfl
                rotate_left
                ·simp only [Act.put, List.setIfInBounds_toArray, List.set_cons_zero, List.set_cons_succ, i64_w, i32_w]
                 rfl
                refine pure_ (i := 13) (N := some 73) (v := ?_) (a' := ?_) #[true, true, true, true, true, true, true, true, true, true, true, true, true, true, false, false, false, false, false, false, false, false, false, false] rfl rfl (any_of HT_.out (by kernel_rfl)) (fun _ _ _ h => h) (Or.inl ⟨by rfl, ?_⟩) ?_ ?_
                rotate_left
                ·intro w'
                 go_simp
                 with_reducible rfl
                rotate_left
                ·simp only [Act.put, List.setIfInBounds_toArray, List.set_cons_zero, List.set_cons_succ, i64_w, i32_w]
                 rfl
                refine pure_ (i := 14) (N := some 74) (v := ?_) (a' := ?_) #[true, true, true, true, true, true, true, true, true, true, true, true, true, true, true, false, false, false, false, false, false, false, false, false] rfl rfl (any_of HT_.out (by kernel_rfl)) (fun _ _ _ h => h) (Or.inl ⟨by rfl, ?_⟩) ?_ ?_
                rotate_left
                ·intro w'
                 go_simp
                 with_reducible rfl
                rotate_left
                ·simp only [Act.put, List.setIfInBounds_toArray, List.set_cons_zero, List.set_cons_succ, i64_w, i32_w]
                 rfl
                refine pure_ (i := 16) (N := some 76) (v := ?_) (a' := ?_) #[true, true, true, true, true, true, true, true, true, true, true, true, true, true, true, false, true, false, false, false, false, false, false, false] rfl rfl (any_of HT_.out (by kernel_rfl)) (fun _ _ _ h => h) (Or.inl ⟨by rfl, ?_⟩) ?_ ?_
                rotate_left
                ·intro w'
                 go_simp
                 with_reducible rfl
                rotate_left
                ·simp only [Act.put, List.setIfInBounds_toArray, List.set_cons_zero, List.set_cons_succ, i64_w, i32_w]
                 rfl
                refine pure_ (i := 17) (N := some 77) (v := ?_) (a' := ?_) #[true, true, true, true, true, true, true, true, true, true, true, true, true, true, true, false, true, true, false, false, false, false, false, false] rfl rfl (any_of HT_.out (by kernel_rfl)) (fun _ _ _ h => h) (Or.inl ⟨by rfl, ?_⟩) ?_ ?_
                rotate_left
                ·intro w'
                 go_simp
                 with_reducible rfl
                rotate_left
                ·simp only [Act.put, List.setIfInBounds_toArray, List.set_cons_zero, List.set_cons_succ, i64_w, i32_w]
                 rfl
                refine pure_ (i := 18) (N := some 78) (v := ?_) (a' := ?_) #[true, true, true, true, true, true, true, true, true, true, true, true, true, true, true, false, true, true, true, false, false, false, false, false] rfl rfl (any_of HT_.out (by kernel_rfl)) (fun _ _ _ h => h) (Or.inl ⟨by rfl, ?_⟩) ?_ ?_
                rotate_left
                ·intro w'
                 go_simp
                 with_reducible rfl
                rotate_left
                ·simp only [Act.put, List.setIfInBounds_toArray, List.set_cons_zero, List.set_cons_succ, i64_w, i32_w]
                 rfl
                refine take_ (i := 15) (N := some 75) (v := ?_) (a' := ?_) #[true, true, true, true, true, true, true, true, true, true, true, true, true, true, true, true, true, true, true, false, false, false, false, false] rfl rfl (take_ofW HT_.out HW_.out (by kernel_rfl)) (fun _ _ _ h => h) (Or.inl ⟨by rfl, ?_⟩) hHeld ?_ ?_
                rotate_left
                ·rintro w' ⟨s0, s1, s2, s3, s4, s5, s6, s7, s8⟩
                 go_simp
                 with_reducible rfl
                rotate_left
                ·simp only [Act.put, List.setIfInBounds_toArray, List.set_cons_zero, List.set_cons_succ, i64_w, i32_w]
                 rfl
                refine take_ (i := 19) (N := some 79) (v := ?_) (a' := ?_) #[true, true, true, true, true, true, true, true, true, true, true, true, true, true, true, true, true, true, true, true, false, false, false, false] rfl rfl (take_ofW HT_.out HW_.out (by kernel_rfl)) (fun _ _ _ h => h) (Or.inl ⟨by rfl, ?_⟩) hHeld ?_ ?_
                rotate_left
                ·rintro w' ⟨s0, s1, s2, s3, s4, s5, s6, s7, s8⟩
                 go_simp
                 with_reducible rfl
                rotate_left
                ·simp only [Act.put, List.setIfInBounds_toArray, List.set_cons_zero, List.set_cons_succ, i64_w, i32_w]
                 rfl
                refine one_ (i := 20) (N := some 80) #[true, true, true, true, true, true, true, true, true, true, true, true, true, true, true, true, true, true, true, true, true, false, false, false] rfl rfl (one_of HT_.out (by kernel_rfl)) (by decide) (fun K hK => ?_)
                refine goes_ Try.func16 (by kernel_rfl) rfl #[.agg #[.int .i64 ((rd_T33 t351 (ji27)).f0), .int .i64 ((rd_T33 t351 (ji27)).f1), .int .i64 ((rd_T33 t351 (ji27)).f2)], .agg #[.int .i64 ((rd_T33 t351 x57_2).f0), .int .i64 ((rd_T33 t351 x57_2).f1), .int .i64 ((rd_T33 t351 x57_2).f2)]] (by rfl) rfl rfl (by (try simp only [List.map_toArray, List.map_cons, List.map_nil]); first | done | (simp only [hji27]; rfl) | rfl | (simp only [List.length_drop, List.length_take]; rfl)) ?_
                with_reducible refine (pylonref03_Compare.calls ((rd_T33 t351 (ji27)).f0) ((rd_T33 t351 (ji27)).f1) ((rd_T33 t351 (ji27)).f2) ((rd_T33 t351 x57_2).f0) ((rd_T33 t351 x57_2).f1) ((rd_T33 t351 x57_2).f2) t360 _ A30.out).mono ?_
                rintro e w32 ⟨rfl, hb⟩
                have HS0_ := (hb.cell (World.block_lt_of_cell? _ _ (hHeld.1))).trans (hHeld.1)
                have HS1_ := (hb.cell (World.block_lt_of_cell? _ _ (hHeld.2.1))).trans (hHeld.2.1)
                have HS2_ := (hb.cell (World.block_lt_of_cell? _ _ (hHeld.2.2.1))).trans (hHeld.2.2.1)
                have HS3_ := (hb.cell (World.block_lt_of_cell? _ _ (hHeld.2.2.2.1))).trans (hHeld.2.2.2.1)
                have HS4_ := (hb.cell (World.block_lt_of_cell? _ _ (hHeld.2.2.2.2.1))).trans (hHeld.2.2.2.2.1)
                have HS5_ := (hb.cell (World.block_lt_of_cell? _ _ (hHeld.2.2.2.2.2.1))).trans (hHeld.2.2.2.2.2.1)
                have HS6_ := (hb.cell (World.block_lt_of_cell? _ _ (hHeld.2.2.2.2.2.2.1))).trans (hHeld.2.2.2.2.2.2.1)
                have HS7_ := (hb.cell (World.block_lt_of_cell? _ _ (hHeld.2.2.2.2.2.2.2.1))).trans (hHeld.2.2.2.2.2.2.2.1)
                have HS8_ := (hb.cell (World.block_lt_of_cell? _ _ (hHeld.2.2.2.2.2.2.2.2))).trans (hHeld.2.2.2.2.2.2.2.2)
                refine ⟨_, rfl, ?_⟩
                have n0_ := AX (Kd.R_below (kr HO_7) hb)
                have n1_ := AX (below_step bw hb)
                clear HO_7
                clear HB
                have HO_7 := n0_
                have HB := n1_
                clear n0_ n1_
                (try clear hb)
                (try clear hb2)
                (try clear hk)
                (try clear hi)
                refine hK.out _ _ ⟨HS0_, HS1_, HS2_, HS3_, HS4_, HS5_, HS6_, HS7_, HS8_⟩ (fun hHeld => ?_)
                clear hK K
                refine norm_ (a' := ?_) ?_ ?_
                rotate_left
                ·show Act.put _ (some 80) _ = _
                 simp only [Act.put, List.setIfInBounds_toArray, List.set_cons_zero, List.set_cons_succ, i64_w, i32_w]
                 rfl
                refine pure_ (i := 21) (N := some 81) (v := ?_) (a' := ?_) #[true, true, true, true, true, true, true, true, true, true, true, true, true, true, true, true, true, true, true, true, true, true, false, false] rfl rfl (any_of HT_.out (by kernel_rfl)) (fun _ _ _ h => h) (Or.inl ⟨by rfl, ?_⟩) ?_ ?_
                rotate_left
                ·intro w'
                 go_simp
                 with_reducible rfl
                rotate_left
                ·simp only [Act.put, List.setIfInBounds_toArray, List.set_cons_zero, List.set_cons_succ, i64_w, i32_w]
                 rfl
                refine pure_ (i := 22) (N := some 82) (v := ?_) (a' := ?_) #[true, true, true, true, true, true, true, true, true, true, true, true, true, true, true, true, true, true, true, true, true, true, true, false] rfl rfl (any_of HT_.out (by kernel_rfl)) (fun _ _ _ h => h) (Or.inl ⟨by rfl, ?_⟩) ?_ ?_
                rotate_left
                ·intro w'
                 go_simp
                 with_reducible rfl
                rotate_left
                ·simp only [Act.put, List.setIfInBounds_toArray, List.set_cons_zero, List.set_cons_succ, i64_w, i32_w]
                 rfl
                refine pure_ (i := 23) (N := some 83) (v := ?_) (a' := ?_) #[true, true, true, true, true, true, true, true, true, true, true, true, true, true, true, true, true, true, true, true, true, true, true, true] rfl rfl (any_of HT_.out (by kernel_rfl)) (fun _ _ _ h => h) (Or.inl ⟨by rfl, ?_⟩) ?_ ?_
                rotate_left
                ·intro w'
                 go_simp
                 with_reducible rfl
                rotate_left
                ·simp only [Act.put, List.setIfInBounds_toArray, List.set_cons_zero, List.set_cons_succ, i64_w, i32_w]
                 rfl
                refine done_ (done_of HT_.out (by kernel_rfl)) ?_
                try go_wp2
                go_meet
                case rel => exact ⟨_, (decide (t360 ≥ 0)), (by first | rfl | (simp; done) | (simp [*]; done)), H', ⟨by have := HK1.out; have := HK2.out; first | omega | exact Nat.le_refl _⟩, ⟨kr HO_7⟩, ⟨bw⟩⟩
               ·rw [if_neg c29] at H
                exact absurd H (by simp)
              ·rw [if_neg c28] at H
               exact absurd H (by simp)
             ·rw [if_neg c26] at H
              have c26b0 : decide (0 < x57_2) = false := decide_eq_false c26
              clear c26
              have H' := AX H
              clear H
              try go_wp2
              have n0_ := AX (Kd.R_drew HO_7.out)
              have n1_ := AX (below_drew1 HB.out)
              clear HO_7
              clear HB
              have HO_7 := n0_
              have HB := n1_
              clear n0_ n1_
              have p357 : 0 ≤ (x57_2 : Int) := of_decide_eq_true (by first | (with_reducible assumption) | assumption)
              have q357 : x57_2 < (t351.length : Int) := of_decide_eq_true (by first | (with_reducible assumption) | assumption)
              obtain ⟨ad357, e357, hx357_0, hx357_1, hx357_2⟩ := at_T33 (Kd.R_reads' HO_7.out).2.2 x57_2 p357 q357
              cases e357
              replace p357 := eq_true p357
              replace q357 := eq_true q357
              refine start_ (n := 24) (S := fun w' => w'.cell? (ad357.add ((x57_2).toNat * 3)) = some (.int .i64 ((rd_T33 t351 x57_2).f0)) ∧ w'.cell? ⟨(ad357.add ((x57_2).toNat * 3)).block, (ad357.add ((x57_2).toNat * 3)).off + 1, none⟩ = some (.int .i64 ((rd_T33 t351 x57_2).f1)) ∧ w'.cell? ⟨(ad357.add ((x57_2).toNat * 3)).block, (ad357.add ((x57_2).toNat * 3)).off + 2, none⟩ = some (.int .i64 ((rd_T33 t351 x57_2).f2))) (ds := []) #[false, false, false, false, false, false, false, false, false, false, false, false, false, false, false, false, false, false, false, false, false, false, false, false] (by kernel_rfl) rfl rfl ⟨hx357_0, hx357_1, hx357_2⟩ (fun hHeld => ?_); refine with_tabW pylonlaw05_HolidayLists.tab16 pylonlaw05_HolidayLists.bits16 (fun HT_ HW_ => ?_)
              generalize wr.drew = w33 at HO_7 HB hx357_0 hx357_1 hx357_2 hHeld ⊢
              refine pure_ (i := 0) (N := some 60) (v := ?_) (a' := ?_) #[true, false, false, false, false, false, false, false, false, false, false, false, false, false, false, false, false, false, false, false, false, false, false, false] rfl rfl (any_of HT_.out (by kernel_rfl)) (fun _ _ _ h => h) (Or.inl ⟨by rfl, ?_⟩) ?_ ?_
              rotate_left
              ·intro w'
               go_simp
               with_reducible rfl
              rotate_left
              ·simp only [Act.put, List.setIfInBounds_toArray, List.set_cons_zero, List.set_cons_succ, i64_w, i32_w]
               rfl
              refine pure_ (i := 1) (N := some 61) (v := ?_) (a' := ?_) #[true, true, false, false, false, false, false, false, false, false, false, false, false, false, false, false, false, false, false, false, false, false, false, false] rfl rfl (any_of HT_.out (by kernel_rfl)) (fun _ _ _ h => h) (Or.inl ⟨by rfl, ?_⟩) ?_ ?_
              rotate_left
              ·intro w'
               go_simp
               with_reducible rfl
              rotate_left
              ·simp only [Act.put, List.setIfInBounds_toArray, List.set_cons_zero, List.set_cons_succ, i64_w, i32_w]
               rfl
              refine pure_ (i := 2) (N := some 62) (v := ?_) (a' := ?_) #[true, true, true, false, false, false, false, false, false, false, false, false, false, false, false, false, false, false, false, false, false, false, false, false] rfl rfl (any_of HT_.out (by kernel_rfl)) (fun _ _ _ h => h) (Or.inl ⟨by rfl, ?_⟩) ?_ ?_
              rotate_left
              ·intro w'
               go_simp
               with_reducible rfl
              rotate_left
              ·simp only [Act.put, List.setIfInBounds_toArray, List.set_cons_zero, List.set_cons_succ, i64_w, i32_w]
               rfl
              refine pure_ (i := 3) (N := some 63) (v := ?_) (a' := ?_) #[true, true, true, true, false, false, false, false, false, false, false, false, false, false, false, false, false, false, false, false, false, false, false, false] rfl rfl (any_of HT_.out (by kernel_rfl)) (fun _ _ _ h => h) (Or.inl ⟨by rfl, ?_⟩) ?_ ?_
              rotate_left
              ·intro w'
               go_simp
               with_reducible rfl
              rotate_left
              ·simp only [Act.put, List.setIfInBounds_toArray, List.set_cons_zero, List.set_cons_succ, i64_w, i32_w]
               rfl
              refine pure_ (i := 5) (N := some 65) (v := ?_) (a' := ?_) #[true, true, true, true, false, true, false, false, false, false, false, false, false, false, false, false, false, false, false, false, false, false, false, false] rfl rfl (any_of HT_.out (by kernel_rfl)) (fun _ _ _ h => h) (Or.inl ⟨by rfl, ?_⟩) ?_ ?_
              rotate_left
              ·intro w'
               go_simp
               with_reducible rfl
              rotate_left
              ·simp only [Act.put, List.setIfInBounds_toArray, List.set_cons_zero, List.set_cons_succ, i64_w, i32_w]
               rfl
              refine take_ (i := 4) (N := some 64) (v := ?_) (a' := ?_) #[true, true, true, true, true, true, false, false, false, false, false, false, false, false, false, false, false, false, false, false, false, false, false, false] rfl rfl (take_ofW HT_.out HW_.out (by kernel_rfl)) (fun _ _ _ h => h) (Or.inl ⟨by rfl, ?_⟩) hHeld ?_ ?_
              rotate_left
              ·rintro w' ⟨s0, s1, s2⟩
               go_simp
               with_reducible rfl
              rotate_left
              ·simp only [Act.put, List.setIfInBounds_toArray, List.set_cons_zero, List.set_cons_succ, i64_w, i32_w]
               rfl
              refine pure_ (i := 6) (N := some 66) (v := ?_) (a' := ?_) #[true, true, true, true, true, true, true, false, false, false, false, false, false, false, false, false, false, false, false, false, false, false, false, false] rfl rfl (any_of HT_.out (by kernel_rfl)) (fun _ _ _ h => h) (Or.inl ⟨by rfl, ?_⟩) ?_ ?_
              rotate_left
              ·intro w'
               go_simp
               with_reducible rfl
              rotate_left
              ·simp only [Act.put, List.setIfInBounds_toArray, List.set_cons_zero, List.set_cons_succ, i64_w, i32_w]
               rfl
              refine pure_ (i := 7) (N := some 67) (v := ?_) (a' := ?_) #[true, true, true, true, true, true, true, true, false, false, false, false, false, false, false, false, false, false, false, false, false, false, false, false] rfl rfl (any_of HT_.out (by kernel_rfl)) (fun _ _ _ h => h) (Or.inl ⟨by rfl, ?_⟩) ?_ ?_
              rotate_left
              ·intro w'
               go_simp
               with_reducible rfl
              rotate_left
              ·simp only [Act.put, List.setIfInBounds_toArray, List.set_cons_zero, List.set_cons_succ, i64_w, i32_w]
               rfl
              refine pure_ (i := 8) (N := some 68) (v := ?_) (a' := ?_) #[true, true, true, true, true, true, true, true, true, false, false, false, false, false, false, false, false, false, false, false, false, false, false, false] rfl rfl (any_of HT_.out (by kernel_rfl)) (fun _ _ _ h => h) (Or.inl ⟨by rfl, ?_⟩) ?_ ?_
              rotate_left
              ·intro w'
               go_simp
               with_reducible rfl
              rotate_left
              ·simp only [Act.put, List.setIfInBounds_toArray, List.set_cons_zero, List.set_cons_succ, i64_w, i32_w]
               rfl
              refine pure_ (i := 9) (N := some 69) (v := ?_) (a' := ?_) #[true, true, true, true, true, true, true, true, true, true, false, false, false, false, false, false, false, false, false, false, false, false, false, false] rfl rfl (any_of HT_.out (by kernel_rfl)) (fun _ _ _ h => h) (Or.inl ⟨by rfl, ?_⟩) ?_ ?_
              rotate_left
              ·intro w'
               go_simp
               with_reducible rfl
              rotate_left
              ·simp only [Act.put, List.setIfInBounds_toArray, List.set_cons_zero, List.set_cons_succ, i64_w, i32_w]
               rfl
              refine pure_ (i := 10) (N := some 70) (v := ?_) (a' := ?_) #[true, true, true, true, true, true, true, true, true, true, true, false, false, false, false, false, false, false, false, false, false, false, false, false] rfl rfl (any_of HT_.out (by kernel_rfl)) (fun _ _ _ h => h) (Or.inl ⟨by rfl, ?_⟩) ?_ ?_
              rotate_left
              ·intro w'
               go_simp
               with_reducible rfl
              rotate_left
              ·simp only [Act.put, List.setIfInBounds_toArray, List.set_cons_zero, List.set_cons_succ, i64_w, i32_w]
               rfl
              refine pure_ (i := 11) (N := some 71) (v := undef) (a' := ?_) #[true, true, true, true, true, true, true, true, true, true, true, true, false, false, false, false, false, false, false, false, false, false, false, false] rfl rfl (any_of HT_.out (by kernel_rfl)) (fun _ _ _ h => h) (Or.inr ⟨by rfl, rfl⟩) ?_ ?_
              rotate_left
              ·simp only [Act.put, List.setIfInBounds_toArray, List.set_cons_zero, List.set_cons_succ, i64_w, i32_w]
               rfl
              refine pure_ (i := 12) (N := some 72) (v := undef) (a' := ?_) #[true, true, true, true, true, true, true, true, true, true, true, true, true, false, false, false, false, false, false, false, false, false, false, false] rfl rfl (any_of HT_.out (by kernel_rfl)) (fun _ _ _ h => h) (Or.inr ⟨by rfl, rfl⟩) ?_ ?_
              rotate_left
              ·simp only [Act.put, List.setIfInBounds_toArray, List.set_cons_zero, List.set_cons_succ, i64_w, i32_w]
               rfl
              refine pure_ (i := 13) (N := some 73) (v := undef) (a' := ?_) #[true, true, true, true, true, true, true, true, true, true, true, true, true, true, false, false, false, false, false, false, false, false, false, false] rfl rfl (any_of HT_.out (by kernel_rfl)) (fun _ _ _ h => h) (Or.inr ⟨by rfl, rfl⟩) ?_ ?_
              rotate_left
              ·simp only [Act.put, List.setIfInBounds_toArray, List.set_cons_zero, List.set_cons_succ, i64_w, i32_w]
               rfl
              refine pure_ (i := 14) (N := some 74) (v := undef) (a' := ?_) #[true, true, true, true, true, true, true, true, true, true, true, true, true, true, true, false, false, false, false, false, false, false, false, false] rfl rfl (any_of HT_.out (by kernel_rfl)) (fun _ _ _ h => h) (Or.inr ⟨by rfl, rfl⟩) ?_ ?_
              rotate_left
              ·simp only [Act.put, List.setIfInBounds_toArray, List.set_cons_zero, List.set_cons_succ, i64_w, i32_w]
               rfl
              refine pure_ (i := 15) (N := some 75) (v := undef) (a' := ?_) #[true, true, true, true, true, true, true, true, true, true, true, true, true, true, true, true, false, false, false, false, false, false, false, false] rfl rfl (any_of HT_.out (by kernel_rfl)) (fun _ _ _ h => h) (Or.inr ⟨by rfl, rfl⟩) ?_ ?_
              rotate_left
              ·simp only [Act.put, List.setIfInBounds_toArray, List.set_cons_zero, List.set_cons_succ, i64_w, i32_w]
               rfl
              refine pure_ (i := 16) (N := some 76) (v := undef) (a' := ?_) #[true, true, true, true, true, true, true, true, true, true, true, true, true, true, true, true, true, false, false, false, false, false, false, false] rfl rfl (any_of HT_.out (by kernel_rfl)) (fun _ _ _ h => h) (Or.inr ⟨by rfl, rfl⟩) ?_ ?_
              rotate_left
              ·simp only [Act.put, List.setIfInBounds_toArray, List.set_cons_zero, List.set_cons_succ, i64_w, i32_w]
               rfl
              refine pure_ (i := 17) (N := some 77) (v := undef) (a' := ?_) #[true, true, true, true, true, true, true, true, true, true, true, true, true, true, true, true, true, true, false, false, false, false, false, false] rfl rfl (any_of HT_.out (by kernel_rfl)) (fun _ _ _ h => h) (Or.inr ⟨by rfl, rfl⟩) ?_ ?_
              rotate_left
              ·simp only [Act.put, List.setIfInBounds_toArray, List.set_cons_zero, List.set_cons_succ, i64_w, i32_w]
               rfl
              refine pure_ (i := 18) (N := some 78) (v := undef) (a' := ?_) #[true, true, true, true, true, true, true, true, true, true, true, true, true, true, true, true, true, true, true, false, false, false, false, false] rfl rfl (any_of HT_.out (by kernel_rfl)) (fun _ _ _ h => h) (Or.inr ⟨by rfl, rfl⟩) ?_ ?_
              rotate_left
              ·simp only [Act.put, List.setIfInBounds_toArray, List.set_cons_zero, List.set_cons_succ, i64_w, i32_w]
               rfl
              refine pure_ (i := 19) (N := some 79) (v := undef) (a' := ?_) #[true, true, true, true, true, true, true, true, true, true, true, true, true, true, true, true, true, true, true, true, false, false, false, false] rfl rfl (any_of HT_.out (by kernel_rfl)) (fun _ _ _ h => h) (Or.inr ⟨by rfl, rfl⟩) ?_ ?_
              rotate_left
              ·simp only [Act.put, List.setIfInBounds_toArray, List.set_cons_zero, List.set_cons_succ, i64_w, i32_w]
               rfl
              refine pure_ (i := 20) (N := some 80) (v := undef) (a' := ?_) #[true, true, true, true, true, true, true, true, true, true, true, true, true, true, true, true, true, true, true, true, true, false, false, false] rfl rfl (any_of HT_.out (by kernel_rfl)) (fun _ _ _ h => h) (Or.inr ⟨by rfl, rfl⟩) ?_ ?_
              rotate_left
              ·simp only [Act.put, List.setIfInBounds_toArray, List.set_cons_zero, List.set_cons_succ, i64_w, i32_w]
               rfl
              refine pure_ (i := 21) (N := some 81) (v := undef) (a' := ?_) #[true, true, true, true, true, true, true, true, true, true, true, true, true, true, true, true, true, true, true, true, true, true, false, false] rfl rfl (any_of HT_.out (by kernel_rfl)) (fun _ _ _ h => h) (Or.inr ⟨by rfl, rfl⟩) ?_ ?_
              rotate_left
              ·simp only [Act.put, List.setIfInBounds_toArray, List.set_cons_zero, List.set_cons_succ, i64_w, i32_w]
               rfl
              refine pure_ (i := 22) (N := some 82) (v := ?_) (a' := ?_) #[true, true, true, true, true, true, true, true, true, true, true, true, true, true, true, true, true, true, true, true, true, true, true, false] rfl rfl (any_of HT_.out (by kernel_rfl)) (fun _ _ _ h => h) (Or.inl ⟨by rfl, ?_⟩) ?_ ?_
              rotate_left
              ·intro w'
               go_simp
               with_reducible rfl
              rotate_left
              ·simp only [Act.put, List.setIfInBounds_toArray, List.set_cons_zero, List.set_cons_succ, i64_w, i32_w]
               rfl
              refine pure_ (i := 23) (N := some 83) (v := ?_) (a' := ?_) #[true, true, true, true, true, true, true, true, true, true, true, true, true, true, true, true, true, true, true, true, true, true, true, true] rfl rfl (any_of HT_.out (by kernel_rfl)) (fun _ _ _ h => h) (Or.inl ⟨by rfl, ?_⟩) ?_ ?_
              rotate_left
              ·intro w'
               go_simp
               with_reducible rfl
              rotate_left
              ·simp only [Act.put, List.setIfInBounds_toArray, List.set_cons_zero, List.set_cons_succ, i64_w, i32_w]
               rfl
              refine done_ (done_of HT_.out (by kernel_rfl)) ?_
              try go_wp2
              go_meet
              case rel => exact ⟨_, (false), (by first | rfl | (simp; done) | (simp [*]; done)), H', ⟨by have := HK1.out; have := HK2.out; first | omega | exact Nat.le_refl _⟩, ⟨kr HO_7⟩, ⟨bw⟩⟩
            ·rw [if_neg c25] at H
             have c25b0 : (((rd_T33 t351 x57_2).f0) == (wrap64 (1 + (wrap64 (Int.tmod (IntKind.u64.wrap (a1)) 9999))))) = false := beq_eq_false_iff_ne.mpr c25
             have c25b1 : (((rd_T33 t351 x57_2).f0) != (wrap64 (1 + (wrap64 (Int.tmod (IntKind.u64.wrap (a1)) 9999))))) = true := bne_iff_ne.mpr c25
             have H' := AX H
             clear H
             try go_wp2
             have n0_ := AX (Kd.R_drew HO_7.out)
             have n1_ := AX (below_drew1 HB.out)
             clear HO_7
             clear HB
             have HO_7 := n0_
             have HB := n1_
             clear n0_ n1_
             have p357 : 0 ≤ (x57_2 : Int) := of_decide_eq_true (by first | (with_reducible assumption) | assumption)
             have q357 : x57_2 < (t351.length : Int) := of_decide_eq_true (by first | (with_reducible assumption) | assumption)
             obtain ⟨ad357, e357, hx357_0, hx357_1, hx357_2⟩ := at_T33 (Kd.R_reads' HO_7.out).2.2 x57_2 p357 q357
             cases e357
             replace p357 := eq_true p357
             replace q357 := eq_true q357
             refine start_ (n := 24) (S := fun w' => w'.cell? (ad357.add ((x57_2).toNat * 3)) = some (.int .i64 ((rd_T33 t351 x57_2).f0)) ∧ w'.cell? ⟨(ad357.add ((x57_2).toNat * 3)).block, (ad357.add ((x57_2).toNat * 3)).off + 1, none⟩ = some (.int .i64 ((rd_T33 t351 x57_2).f1)) ∧ w'.cell? ⟨(ad357.add ((x57_2).toNat * 3)).block, (ad357.add ((x57_2).toNat * 3)).off + 2, none⟩ = some (.int .i64 ((rd_T33 t351 x57_2).f2))) (ds := []) #[false, false, false, false, false, false, false, false, false, false, false, false, false, false, false, false, false, false, false, false, false, false, false, false] (by kernel_rfl) rfl rfl ⟨hx357_0, hx357_1, hx357_2⟩ (fun hHeld => ?_); refine with_tabW pylonlaw05_HolidayLists.tab16 pylonlaw05_HolidayLists.bits16 (fun HT_ HW_ => ?_)
             generalize wr.drew = w34 at HO_7 HB hx357_0 hx357_1 hx357_2 hHeld ⊢
             refine pure_ (i := 0) (N := some 60) (v := ?_) (a' := ?_) #[true, false, false, false, false, false, false, false, false, false, false, false, false, false, false, false, false, false, false, false, false, false, false, false] rfl rfl (any_of HT_.out (by kernel_rfl)) (fun _ _ _ h => h) (Or.inl ⟨by rfl, ?_⟩) ?_ ?_
             rotate_left
             ·intro w'
              go_simp
              with_reducible rfl
             rotate_left
             ·simp only [Act.put, List.setIfInBounds_toArray, List.set_cons_zero, List.set_cons_succ, i64_w, i32_w]
              rfl
             refine pure_ (i := 1) (N := some 61) (v := ?_) (a' := ?_) #[true, true, false, false, false, false, false, false, false, false, false, false, false, false, false, false, false, false, false, false, false, false, false, false] rfl rfl (any_of HT_.out (by kernel_rfl)) (fun _ _ _ h => h) (Or.inl ⟨by rfl, ?_⟩) ?_ ?_
             rotate_left
             ·intro w'
              go_simp
              with_reducible rfl
             rotate_left
             ·simp only [Act.put, List.setIfInBounds_toArray, List.set_cons_zero, List.set_cons_succ, i64_w, i32_w]
              rfl
             refine pure_ (i := 2) (N := some 62) (v := ?_) (a' := ?_) #[true, true, true, false, false, false, false, false, false, false, false, false, false, false, false, false, false, false, false, false, false, false, false, false] rfl rfl (any_of HT_.out (by kernel_rfl)) (fun _ _ _ h => h) (Or.inl ⟨by rfl, ?_⟩) ?_ ?_
             rotate_left
             ·intro w'
              go_simp
              with_reducible rfl
             rotate_left
             ·simp only [Act.put, List.setIfInBounds_toArray, List.set_cons_zero, List.set_cons_succ, i64_w, i32_w]
              rfl
             refine pure_ (i := 3) (N := some 63) (v := ?_) (a' := ?_) #[true, true, true, true, false, false, false, false, false, false, false, false, false, false, false, false, false, false, false, false, false, false, false, false] rfl rfl (any_of HT_.out (by kernel_rfl)) (fun _ _ _ h => h) (Or.inl ⟨by rfl, ?_⟩) ?_ ?_
             rotate_left
             ·intro w'
              go_simp
              with_reducible rfl
             rotate_left
             ·simp only [Act.put, List.setIfInBounds_toArray, List.set_cons_zero, List.set_cons_succ, i64_w, i32_w]
              rfl
             refine pure_ (i := 5) (N := some 65) (v := ?_) (a' := ?_) #[true, true, true, true, false, true, false, false, false, false, false, false, false, false, false, false, false, false, false, false, false, false, false, false] rfl rfl (any_of HT_.out (by kernel_rfl)) (fun _ _ _ h => h) (Or.inl ⟨by rfl, ?_⟩) ?_ ?_
             rotate_left
             ·intro w'
              go_simp
              with_reducible rfl
             rotate_left
             ·simp only [Act.put, List.setIfInBounds_toArray, List.set_cons_zero, List.set_cons_succ, i64_w, i32_w]
              rfl
             refine take_ (i := 4) (N := some 64) (v := ?_) (a' := ?_) #[true, true, true, true, true, true, false, false, false, false, false, false, false, false, false, false, false, false, false, false, false, false, false, false] rfl rfl (take_ofW HT_.out HW_.out (by kernel_rfl)) (fun _ _ _ h => h) (Or.inl ⟨by rfl, ?_⟩) hHeld ?_ ?_
             rotate_left
             ·rintro w' ⟨s0, s1, s2⟩
              go_simp
              with_reducible rfl
             rotate_left
             ·simp only [Act.put, List.setIfInBounds_toArray, List.set_cons_zero, List.set_cons_succ, i64_w, i32_w]
              rfl
             refine pure_ (i := 6) (N := some 66) (v := ?_) (a' := ?_) #[true, true, true, true, true, true, true, false, false, false, false, false, false, false, false, false, false, false, false, false, false, false, false, false] rfl rfl (any_of HT_.out (by kernel_rfl)) (fun _ _ _ h => h) (Or.inl ⟨by rfl, ?_⟩) ?_ ?_
             rotate_left
             ·intro w'
              go_simp
              with_reducible rfl
             rotate_left
             ·simp only [Act.put, List.setIfInBounds_toArray, List.set_cons_zero, List.set_cons_succ, i64_w, i32_w]
              rfl
             refine pure_ (i := 7) (N := some 67) (v := ?_) (a' := ?_) #[true, true, true, true, true, true, true, true, false, false, false, false, false, false, false, false, false, false, false, false, false, false, false, false] rfl rfl (any_of HT_.out (by kernel_rfl)) (fun _ _ _ h => h) (Or.inl ⟨by rfl, ?_⟩) ?_ ?_
             rotate_left
             ·intro w'
              go_simp
              with_reducible rfl
             rotate_left
             ·simp only [Act.put, List.setIfInBounds_toArray, List.set_cons_zero, List.set_cons_succ, i64_w, i32_w]
              rfl
             refine pure_ (i := 8) (N := some 68) (v := undef) (a' := ?_) #[true, true, true, true, true, true, true, true, true, false, false, false, false, false, false, false, false, false, false, false, false, false, false, false] rfl rfl (any_of HT_.out (by kernel_rfl)) (fun _ _ _ h => h) (Or.inr ⟨by rfl, rfl⟩) ?_ ?_
             rotate_left
             ·simp only [Act.put, List.setIfInBounds_toArray, List.set_cons_zero, List.set_cons_succ, i64_w, i32_w]
              rfl
             refine pure_ (i := 9) (N := some 69) (v := undef) (a' := ?_) #[true, true, true, true, true, true, true, true, true, true, false, false, false, false, false, false, false, false, false, false, false, false, false, false] rfl rfl (any_of HT_.out (by kernel_rfl)) (fun _ _ _ h => h) (Or.inr ⟨by rfl, rfl⟩) ?_ ?_
             rotate_left
             ·simp only [Act.put, List.setIfInBounds_toArray, List.set_cons_zero, List.set_cons_succ, i64_w, i32_w]
              rfl
             refine pure_ (i := 10) (N := some 70) (v := undef) (a' := ?_) #[true, true, true, true, true, true, true, true, true, true, true, false, false, false, false, false, false, false, false, false, false, false, false, false] rfl rfl (any_of HT_.out (by kernel_rfl)) (fun _ _ _ h => h) (Or.inr ⟨by rfl, rfl⟩) ?_ ?_
             rotate_left
             ·simp only [Act.put, List.setIfInBounds_toArray, List.set_cons_zero, List.set_cons_succ, i64_w, i32_w]
              rfl
             refine pure_ (i := 11) (N := some 71) (v := undef) (a' := ?_) #[true, true, true, true, true, true, true, true, true, true, true, true, false, false, false, false, false, false, false, false, false, false, false, false] rfl rfl (any_of HT_.out (by kernel_rfl)) (fun _ _ _ h => h) (Or.inr ⟨by rfl, rfl⟩) ?_ ?_
             rotate_left
             ·simp only [Act.put, List.setIfInBounds_toArray, List.set_cons_zero, List.set_cons_succ, i64_w, i32_w]
              rfl
             refine pure_ (i := 12) (N := some 72) (v := undef) (a' := ?_) #[true, true, true, true, true, true, true, true, true, true, true, true, true, false, false, false, false, false, false, false, false, false, false, false] rfl rfl (any_of HT_.out (by kernel_rfl)) (fun _ _ _ h => h) (Or.inr ⟨by rfl, rfl⟩) ?_ ?_
             rotate_left
             ·simp only [Act.put, List.setIfInBounds_toArray, List.set_cons_zero, List.set_cons_succ, i64_w, i32_w]
              rfl
             refine pure_ (i := 13) (N := some 73) (v := undef) (a' := ?_) #[true, true, true, true, true, true, true, true, true, true, true, true, true, true, false, false, false, false, false, false, false, false, false, false] rfl rfl (any_of HT_.out (by kernel_rfl)) (fun _ _ _ h => h) (Or.inr ⟨by rfl, rfl⟩) ?_ ?_
             rotate_left
             ·simp only [Act.put, List.setIfInBounds_toArray, List.set_cons_zero, List.set_cons_succ, i64_w, i32_w]
              rfl
             refine pure_ (i := 14) (N := some 74) (v := undef) (a' := ?_) #[true, true, true, true, true, true, true, true, true, true, true, true, true, true, true, false, false, false, false, false, false, false, false, false] rfl rfl (any_of HT_.out (by kernel_rfl)) (fun _ _ _ h => h) (Or.inr ⟨by rfl, rfl⟩) ?_ ?_
             rotate_left
             ·simp only [Act.put, List.setIfInBounds_toArray, List.set_cons_zero, List.set_cons_succ, i64_w, i32_w]
              rfl
             refine pure_ (i := 15) (N := some 75) (v := undef) (a' := ?_) #[true, true, true, true, true, true, true, true, true, true, true, true, true, true, true, true, false, false, false, false, false, false, false, false] rfl rfl (any_of HT_.out (by kernel_rfl)) (fun _ _ _ h => h) (Or.inr ⟨by rfl, rfl⟩) ?_ ?_
             rotate_left
             ·simp only [Act.put, List.setIfInBounds_toArray, List.set_cons_zero, List.set_cons_succ, i64_w, i32_w]
              rfl
             refine pure_ (i := 16) (N := some 76) (v := undef) (a' := ?_) #[true, true, true, true, true, true, true, true, true, true, true, true, true, true, true, true, true, false, false, false, false, false, false, false] rfl rfl (any_of HT_.out (by kernel_rfl)) (fun _ _ _ h => h) (Or.inr ⟨by rfl, rfl⟩) ?_ ?_
             rotate_left
             ·simp only [Act.put, List.setIfInBounds_toArray, List.set_cons_zero, List.set_cons_succ, i64_w, i32_w]
              rfl
             refine pure_ (i := 17) (N := some 77) (v := undef) (a' := ?_) #[true, true, true, true, true, true, true, true, true, true, true, true, true, true, true, true, true, true, false, false, false, false, false, false] rfl rfl (any_of HT_.out (by kernel_rfl)) (fun _ _ _ h => h) (Or.inr ⟨by rfl, rfl⟩) ?_ ?_
             rotate_left
             ·simp only [Act.put, List.setIfInBounds_toArray, List.set_cons_zero, List.set_cons_succ, i64_w, i32_w]
              rfl
             refine pure_ (i := 18) (N := some 78) (v := undef) (a' := ?_) #[true, true, true, true, true, true, true, true, true, true, true, true, true, true, true, true, true, true, true, false, false, false, false, false] rfl rfl (any_of HT_.out (by kernel_rfl)) (fun _ _ _ h => h) (Or.inr ⟨by rfl, rfl⟩) ?_ ?_
             rotate_left
             ·simp only [Act.put, List.setIfInBounds_toArray, List.set_cons_zero, List.set_cons_succ, i64_w, i32_w]
              rfl
             refine pure_ (i := 19) (N := some 79) (v := undef) (a' := ?_) #[true, true, true, true, true, true, true, true, true, true, true, true, true, true, true, true, true, true, true, true, false, false, false, false] rfl rfl (any_of HT_.out (by kernel_rfl)) (fun _ _ _ h => h) (Or.inr ⟨by rfl, rfl⟩) ?_ ?_
             rotate_left
             ·simp only [Act.put, List.setIfInBounds_toArray, List.set_cons_zero, List.set_cons_succ, i64_w, i32_w]
              rfl
             refine pure_ (i := 20) (N := some 80) (v := undef) (a' := ?_) #[true, true, true, true, true, true, true, true, true, true, true, true, true, true, true, true, true, true, true, true, true, false, false, false] rfl rfl (any_of HT_.out (by kernel_rfl)) (fun _ _ _ h => h) (Or.inr ⟨by rfl, rfl⟩) ?_ ?_
             rotate_left
             ·simp only [Act.put, List.setIfInBounds_toArray, List.set_cons_zero, List.set_cons_succ, i64_w, i32_w]
              rfl
             refine pure_ (i := 21) (N := some 81) (v := undef) (a' := ?_) #[true, true, true, true, true, true, true, true, true, true, true, true, true, true, true, true, true, true, true, true, true, true, false, false] rfl rfl (any_of HT_.out (by kernel_rfl)) (fun _ _ _ h => h) (Or.inr ⟨by rfl, rfl⟩) ?_ ?_
             rotate_left
             ·simp only [Act.put, List.setIfInBounds_toArray, List.set_cons_zero, List.set_cons_succ, i64_w, i32_w]
              rfl
             refine pure_ (i := 22) (N := some 82) (v := undef) (a' := ?_) #[true, true, true, true, true, true, true, true, true, true, true, true, true, true, true, true, true, true, true, true, true, true, true, false] rfl rfl (any_of HT_.out (by kernel_rfl)) (fun _ _ _ h => h) (Or.inr ⟨by rfl, rfl⟩) ?_ ?_
             rotate_left
             ·simp only [Act.put, List.setIfInBounds_toArray, List.set_cons_zero, List.set_cons_succ, i64_w, i32_w]
              rfl
             refine pure_ (i := 23) (N := some 83) (v := ?_) (a' := ?_) #[true, true, true, true, true, true, true, true, true, true, true, true, true, true, true, true, true, true, true, true, true, true, true, true] rfl rfl (any_of HT_.out (by kernel_rfl)) (fun _ _ _ h => h) (Or.inl ⟨by rfl, ?_⟩) ?_ ?_
             rotate_left
             ·intro w'
              go_simp
              with_reducible rfl
             rotate_left
             ·simp only [Act.put, List.setIfInBounds_toArray, List.set_cons_zero, List.set_cons_succ, i64_w, i32_w]
              rfl
             refine done_ (done_of HT_.out (by kernel_rfl)) ?_
             try go_wp2
             go_meet
             case rel => exact ⟨_, (true), (by first | rfl | (simp; done) | (simp [*]; done)), H', ⟨by have := HK1.out; have := HK2.out; first | omega | exact Nat.le_refl _⟩, ⟨kr HO_7⟩, ⟨bw⟩⟩
           ·rw [if_neg c24] at H
            exact absurd H (by simp)
          ·rw [if_neg c23] at H
           exact absurd H (by simp)
         case rest =>
          clear HC22
          obtain ⟨kq, x83_21, rfl, HA, HJ21, HO_7, HB⟩ := hcut
          cases kq with
          | zero => exact absurd HA.out (by simp [pylonlaw05_HolidayLists.j2])
          | succ kj21 =>
           have H := HA.out
           clear HA
           simp only [pylonlaw05_HolidayLists.j2] at H
           by_cases c35 : x83_21 = true
           ·subst c35
            have H1 : (some false) = some r := by rw [if_pos rfl] at H; exact H
            clear H
            have H := H1
            clear H1
            obtain rfl := Option.some.inj H
            go_wp2
            go_ret
            exact ⟨by first | rfl | (simp [errW_none, errW_some] <;> rfl) | (simp [*, errW_none, errW_some] <;> rfl), bw⟩
           ·replace c35 := Bool.eq_false_iff.mpr c35
            subst c35
            have H1 : (if 0 ≤ x57_2 then (if x57_2 < (t351.length : Int) then ((holiday_Is.f kj21 l0 ((rd_T33 t351 x57_2).f0) ((rd_T33 t351 x57_2).f1) ((rd_T33 t351 x57_2).f2)).bind fun bt362 => (if bt362.1 = true then (if bt362.2 = 0 then (pylonlaw05_HolidayLists.l1 kj21 l0 (wrap64 (1 + (wrap64 (Int.tmod (IntKind.u64.wrap (a1)) 9999)))) a2 t351 (t351.length : Int) (wrap64 (x57_2 + 1))) else (some false)) else (some false))) else (none)) else (none)) = some r := by rw [if_neg (show ¬ (false = true) by decide)] at H; exact H
            clear H
            have H := H1
            clear H1
            by_cases c36 : 0 ≤ x57_2
            ·rw [if_pos c36] at H
             have c36b0 : decide (0 ≤ x57_2) = true := decide_eq_true c36
             clear c36
             by_cases c37 : x57_2 < (t351.length : Int)
             ·rw [if_pos c37] at H
              have c37b0 : decide (x57_2 < (t351.length : Int)) = true := decide_eq_true c37
              clear c37
              replace H := Option.bind_eq_some_iff.mp H
              obtain ⟨⟨t362, t363⟩, A380, H⟩ := H
              replace H : (if t362 = true then (if t363 = 0 then (pylonlaw05_HolidayLists.l1 kj21 l0 (wrap64 (1 + (wrap64 (Int.tmod (IntKind.u64.wrap (a1)) 9999)))) a2 t351 (t351.length : Int) (wrap64 (x57_2 + 1))) else (some false)) else (some false)) = some r := H
              have A38 := AX A380
              clear A380
              by_cases c39 : t362 = true
              ·subst c39
               have H1 : (if t363 = 0 then (pylonlaw05_HolidayLists.l1 kj21 l0 (wrap64 (1 + (wrap64 (Int.tmod (IntKind.u64.wrap (a1)) 9999)))) a2 t351 (t351.length : Int) (wrap64 (x57_2 + 1))) else (some false)) = some r := by rw [if_pos rfl] at H; exact H
               clear H
               have H := H1
               clear H1
               by_cases c40 : t363 = 0
               ·rw [if_pos c40] at H
                have c40b0 : (t363 == 0) = true := beq_iff_eq.mpr c40
                have c40b1 : (t363 != 0) = false := bne_eq_false_iff_eq.mpr c40
                clear c40
                have H' := AX H
                clear H
                have p361 : 0 ≤ (x57_2 : Int) := of_decide_eq_true (by first | (with_reducible assumption) | assumption)
                have q361 : x57_2 < (t351.length : Int) := of_decide_eq_true (by first | (with_reducible assumption) | assumption)
                obtain ⟨ad361, e361, hx361_0, hx361_1, hx361_2⟩ := at_T33 (Kd.R_reads' HO_7.out).2.2 x57_2 p361 q361
                cases e361
                replace p361 := eq_true p361
                replace q361 := eq_true q361
                go_wp2_with (first | ((with_reducible refine gate_callee (f := 17) rfl ?_); refine gL (some 90) Try.func17 #[.slice A0 l0.length c0, .agg #[.int .i64 ((rd_T33 t351 x57_2).f0), .int .i64 ((rd_T33 t351 x57_2).f1), .int .i64 ((rd_T33 t351 x57_2).f2)]] ?_; (with_reducible refine (holiday_Is.calls kj21 _ _ l0 ((rd_T33 t351 x57_2).f0) ((rd_T33 t351 x57_2).f1) ((rd_T33 t351 x57_2).f2) true t363 _ ?side1 ?side2 A38.out).mono ?_); (case side1 => repeat (first | exact (Kd.C_below HR0.out HB.out) | (with_reducible refine Kd.C_alloc ?_ _) | (with_reducible refine Kd.C_drewN ?_ _) | (with_reducible refine Kd.C_drew ?_))); (case side2 => exact HC0.out); rintro e w41 ⟨rfl, hb⟩; refine ⟨_, rfl, ?_⟩; replace HO_7 := AX (Kd.R_below (kr HO_7) hb); replace HB := AX (below_step bw hb); (try clear hb); (try clear hb2); (try clear hk); (try clear hi)))
                go_roundg kj21
                case measure => have := HK1.out; have := HK2.out; have := HJ21.out; omega
                case rel => exact ⟨(wrap64 (x57_2 + 1)), (by first | rfl | (simp; done) | (simp [*]; done)), H', ⟨by have := HK1.out; have := HK2.out; have := HJ21.out; omega⟩, ⟨kr HO_7⟩, ⟨bw⟩⟩
               ·rw [if_neg c40] at H
                have c40b0 : (t363 == 0) = false := beq_eq_false_iff_ne.mpr c40
                have c40b1 : (t363 != 0) = true := bne_iff_ne.mpr c40
                obtain rfl := Option.some.inj H
                have p361 : 0 ≤ (x57_2 : Int) := of_decide_eq_true (by first | (with_reducible assumption) | assumption)
                have q361 : x57_2 < (t351.length : Int) := of_decide_eq_true (by first | (with_reducible assumption) | assumption)
                obtain ⟨ad361, e361, hx361_0, hx361_1, hx361_2⟩ := at_T33 (Kd.R_reads' HO_7.out).2.2 x57_2 p361 q361
                cases e361
                replace p361 := eq_true p361
                replace q361 := eq_true q361
                go_wp2_with (first | ((with_reducible refine gate_callee (f := 17) rfl ?_); refine gL (some 90) Try.func17 #[.slice A0 l0.length c0, .agg #[.int .i64 ((rd_T33 t351 x57_2).f0), .int .i64 ((rd_T33 t351 x57_2).f1), .int .i64 ((rd_T33 t351 x57_2).f2)]] ?_; (with_reducible refine (holiday_Is.calls kj21 _ _ l0 ((rd_T33 t351 x57_2).f0) ((rd_T33 t351 x57_2).f1) ((rd_T33 t351 x57_2).f2) true t363 _ ?side1 ?side2 A38.out).mono ?_); (case side1 => repeat (first | exact (Kd.C_below HR0.out HB.out) | (with_reducible refine Kd.C_alloc ?_ _) | (with_reducible refine Kd.C_drewN ?_ _) | (with_reducible refine Kd.C_drew ?_))); (case side2 => exact HC0.out); rintro e w42 ⟨rfl, hb⟩; refine ⟨_, rfl, ?_⟩; replace HO_7 := AX (Kd.R_below (kr HO_7) hb); replace HB := AX (below_step bw hb); (try clear hb); (try clear hb2); (try clear hk); (try clear hi)))
                go_ret
                exact ⟨by first | rfl | (simp [errW_none, errW_some] <;> rfl) | (simp [*, errW_none, errW_some] <;> rfl), bw⟩
              ·replace c39 := Bool.eq_false_iff.mpr c39
               subst c39
               have H1 : (some false) = some r := by rw [if_neg (show ¬ (false = true) by decide)] at H; exact H
               clear H
               have H := H1
               clear H1
               obtain rfl := Option.some.inj H
               have p361 : 0 ≤ (x57_2 : Int) := of_decide_eq_true (by first | (with_reducible assumption) | assumption)
               have q361 : x57_2 < (t351.length : Int) := of_decide_eq_true (by first | (with_reducible assumption) | assumption)
               obtain ⟨ad361, e361, hx361_0, hx361_1, hx361_2⟩ := at_T33 (Kd.R_reads' HO_7.out).2.2 x57_2 p361 q361
               cases e361
               replace p361 := eq_true p361
               replace q361 := eq_true q361
               go_wp2_with (first | ((with_reducible refine gate_callee (f := 17) rfl ?_); refine gL (some 90) Try.func17 #[.slice A0 l0.length c0, .agg #[.int .i64 ((rd_T33 t351 x57_2).f0), .int .i64 ((rd_T33 t351 x57_2).f1), .int .i64 ((rd_T33 t351 x57_2).f2)]] ?_; (with_reducible refine (holiday_Is.calls kj21 _ _ l0 ((rd_T33 t351 x57_2).f0) ((rd_T33 t351 x57_2).f1) ((rd_T33 t351 x57_2).f2) false t363 _ ?side1 ?side2 A38.out).mono ?_); (case side1 => repeat (first | exact (Kd.C_below HR0.out HB.out) | (with_reducible refine Kd.C_alloc ?_ _) | (with_reducible refine Kd.C_drewN ?_ _) | (with_reducible refine Kd.C_drew ?_))); (case side2 => exact HC0.out); rintro e w43 ⟨rfl, hb⟩; refine ⟨_, rfl, ?_⟩; replace HO_7 := AX (Kd.R_below (kr HO_7) hb); replace HB := AX (below_step bw hb); (try clear hb); (try clear hb2); (try clear hk); (try clear hi)))
               go_ret
               exact ⟨by first | rfl | (simp [errW_none, errW_some] <;> rfl) | (simp [*, errW_none, errW_some] <;> rfl), bw⟩
             ·rw [if_neg c37] at H
              exact absurd H (by simp)
            ·rw [if_neg c36] at H
             exact absurd H (by simp)
        ·rw [if_neg c21] at H
         have c21b0 : decide (x57_2 < (t351.length : Int)) = false := decide_eq_false c21
         clear c21
         replace H := Option.bind_eq_some_iff.mp H
         obtain ⟨⟨t364, t365⟩, A440, H⟩ := H
         replace H : ((pylonref03_Of.f k2 (wrap64 (t364 + (wrap64 (Int.tmod (IntKind.u64.wrap (a2)) 365))))).bind fun bt366 => (pylonlaw05_HolidayLists.l2 k2 l0 t351 false (t351.length : Int) 0 bt366.1 bt366.2.1 bt366.2.2.1)) = some r := H
         have A44 := AX A440
         clear A440
         replace H := Option.bind_eq_some_iff.mp H
         obtain ⟨⟨t366, t367, t368, t369⟩, A450, H⟩ := H
         replace H : (pylonlaw05_HolidayLists.l2 k2 l0 t351 false (t351.length : Int) 0 t366 t367 t368) = some r := H
         have A45 := AX A450
         clear A450
         have H' := AX H
         clear H
         go_wp2_with (first | ((with_reducible refine gate_callee (f := 18) rfl ?_); refine gL (some 103) Try.func18 #[.agg #[.int .i64 (wrap64 (1 + (wrap64 (Int.tmod (IntKind.u64.wrap (a1)) 9999)))), .int .i64 1, .int .i64 1]] ?_; (with_reducible refine (pylonref03_Days.calls k2 (wrap64 (1 + (wrap64 (Int.tmod (IntKind.u64.wrap (a1)) 9999)))) 1 1 t364 t365 _ A44.out).mono ?_); rintro e w46 ⟨rfl, hb⟩; refine ⟨_, rfl, ?_⟩; replace HO_7 := AX (Kd.R_below (kr HO_7) hb); replace HB := AX (below_step bw hb); (try clear hb)) | ((with_reducible refine gate_callee (f := 19) rfl ?_); refine gL (some 113) Try.func19 #[.int .i64 (wrap64 (t364 + (wrap64 (Int.tmod (IntKind.u64.wrap (a2)) 365))))] ?_; (with_reducible refine (pylonref03_Of.calls k2 (wrap64 (t364 + (wrap64 (Int.tmod (IntKind.u64.wrap (a2)) 365)))) t366 t367 t368 t369 _ A45.out).mono ?_); rintro e w47 ⟨rfl, hb⟩; refine ⟨_, rfl, ?_⟩; replace HO_7 := AX (Kd.R_below (kr HO_7) hb); replace HB := AX (below_step bw hb); (try clear hb)) | ((with_reducible refine gate_dst (N := 15) rfl ?_); (try (refine gate_guard (by rfl) ?_; dsimp only)); refine bx 15 #[.int .i64 0, .int .i64 0, .int .i64 0] 33 ?_; intro gb370 hg w48 hbox hb; have BK370 := AX (hbox); have GW370 := gwl (w := w) hg bw; have GE370 := GW370; replace HO_7 := AX (Kd.R_below (Kd.R_elderB (kr HO_7) gb370 (Nat.le_of_eq hg.symm)) hb); replace HB := AX (below_step bw hb); clear hb hbox hg; obtain ⟨hcz49_0, hcz49_1, hcz49_2⟩ := blkC3 (w := w48) BK370.out; obtain ⟨hfz49_0, hfz49_1, hfz49_2⟩ := blkF3 BK370.out))
         go_loopg [17, 118] k2 (fun kq v17 v118 w' => ∃ (x17_3 : Bool) (x118_3 : Int), v17 = .bool x17_3 ∧ v118 = .int .i64 x118_3 ∧ Aside0 (pylonlaw05_HolidayLists.l2 kq l0 t351 x17_3 (t351.length : Int) x118_3 t366 t367 t368 = some r) ∧ Aside0 (kq ≤ k2) ∧ Aside0 (Kd.R k33 33 w' w.heap.size (fun k_ => k_ ≠ gb370) (.slice Ao20 t351.length co20) t351) ∧ Aside0 (w'.heap[gb370]? = some (.cells #[.int .i64 t366, .int .i64 t367, .int .i64 t368] 33 (0, 0))) ∧ Aside0 (Below w.heap.size w w'))
         case atStart => exact ⟨(false), (0), (by first | rfl | (simp; done) | (simp [*]; done)), (by first | rfl | (simp; done) | (simp [*]; done)), H', ⟨Nat.le_refl _⟩, ⟨by (with_reducible repeat (first | apply Kd.R_alloc | apply Kd.R_drewN | apply Kd.R_drew)); exact Kd.R_mono (Kd.R_far (p := ⟨gb370, 2, none⟩) (Kd.R_far (p := ⟨gb370, 1, none⟩) (Kd.R_far (p := ⟨gb370, 0, none⟩) (Kd.R_mono HO_7.out (fun k_ hk => (⟨hk, hk.2⟩ : _ ∧ k_ ≠ gb370))) (fun _ hk => hk.2) (.int .i64 t366)) (fun _ hk => hk.2) (.int .i64 t367)) (fun _ hk => hk.2) (.int .i64 t368)) (fun _ hk => hk.1.2)⟩, ⟨by (with_reducible repeat first|refine blk_drewN ?_ _|refine blk_drew ?_|refine blk_alloc ?_ _); refine blk_put (cs := #[.int .i64 t366, .int .i64 t367, .int .i64 0]) ?_ 2 _ rfl; (with_reducible repeat first|refine blk_drewN ?_ _|refine blk_drew ?_|refine blk_alloc ?_ _); refine blk_put (cs := #[.int .i64 t366, .int .i64 0, .int .i64 0]) ?_ 1 _ rfl; (with_reducible repeat first|refine blk_drewN ?_ _|refine blk_drew ?_|refine blk_alloc ?_ _); refine blk_put (cs := #[.int .i64 0, .int .i64 0, .int .i64 0]) ?_ 0 _ rfl; (with_reducible repeat first|refine blk_drewN ?_ _|refine blk_drew ?_|refine blk_alloc ?_ _); exact BK370.out⟩, ⟨bw⟩⟩
         case round =>
          clear H'
          try clear c21b0
          try clear hcz49_0 hcz49_1 hcz49_2
          try clear hfz49_0 hfz49_1 hfz49_2
          obtain ⟨x17_3, x118_3, rfl, rfl, HA, HK3, HO_7, BK370, HB⟩ := hrel
          cases gk with
          | zero => exact absurd HA.out (by simp [pylonlaw05_HolidayLists.l2])
          | succ k3 =>
           have H := HA.out
           clear HA
           simp only [pylonlaw05_HolidayLists.l2] at H
           by_cases c50 : x118_3 < (t351.length : Int)
           ·rw [if_pos c50] at H
            have c50b0 : decide (x118_3 < (t351.length : Int)) = true := decide_eq_true c50
            clear c50
            by_cases c51 : x17_3 = true
            ·subst c51
             have H1 : (pylonlaw05_HolidayLists.l2 k3 l0 t351 true (t351.length : Int) (wrap64 (x118_3 + 1)) t366 t367 t368) = some r := by rw [if_pos rfl] at H; exact H
             clear H
             have H := H1
             clear H1
             have H' := AX H
             clear H
             try go_wp2
             have n0_ := AX (Kd.R_drew HO_7.out)
             have n1_ := AX (blk_drew BK370.out)
             have n2_ := AX (below_drew1 HB.out)
             clear HO_7
             clear BK370
             clear HB
             have HO_7 := n0_
             have BK370 := n1_
             have HB := n2_
             clear n0_ n1_ n2_
             refine start_ (n := 10) (S := fun w' => True) (ds := []) #[false, false, false, false, false, false, false, false, false, false] (by kernel_rfl) rfl rfl trivial (fun hHeld => ?_); refine with_tabW pylonlaw05_HolidayLists.tab28 pylonlaw05_HolidayLists.bits28 (fun HT_ HW_ => ?_)
             generalize wr.drew = w52 at HO_7 BK370 HB hHeld ⊢
             refine pure_ (i := 0) (N := some 121) (v := ?_) (a' := ?_) #[true, false, false, false, false, false, false, false, false, false] rfl rfl (any_of HT_.out (by kernel_rfl)) (fun _ _ _ h => h) (Or.inl ⟨by rfl, ?_⟩) ?_ ?_
             rotate_left
             ·intro w'
              go_simp
              with_reducible rfl
             rotate_left
             ·simp only [Act.put, List.setIfInBounds_toArray, List.set_cons_zero, List.set_cons_succ, i64_w, i32_w]
              rfl
             refine pure_ (i := 1) (N := some 122) (v := ?_) (a' := ?_) #[true, true, false, false, false, false, false, false, false, false] rfl rfl (any_of HT_.out (by kernel_rfl)) (fun _ _ _ h => h) (Or.inl ⟨by rfl, ?_⟩) ?_ ?_
             rotate_left
             ·intro w'
              go_simp
              with_reducible rfl
             rotate_left
             ·simp only [Act.put, List.setIfInBounds_toArray, List.set_cons_zero, List.set_cons_succ, i64_w, i32_w]
              rfl
             refine pure_ (i := 2) (N := some 123) (v := undef) (a' := ?_) #[true, true, true, false, false, false, false, false, false, false] rfl rfl (any_of HT_.out (by kernel_rfl)) (fun _ _ _ h => h) (Or.inr ⟨by rfl, rfl⟩) ?_ ?_
             rotate_left
             ·simp only [Act.put, List.setIfInBounds_toArray, List.set_cons_zero, List.set_cons_succ, i64_w, i32_w]
              rfl
             refine pure_ (i := 3) (N := some 124) (v := undef) (a' := ?_) #[true, true, true, true, false, false, false, false, false, false] rfl rfl (any_of HT_.out (by kernel_rfl)) (fun _ _ _ h => h) (Or.inr ⟨by rfl, rfl⟩) ?_ ?_
             rotate_left
             ·simp only [Act.put, List.setIfInBounds_toArray, List.set_cons_zero, List.set_cons_succ, i64_w, i32_w]
              rfl
             refine pure_ (i := 4) (N := some 125) (v := undef) (a' := ?_) #[true, true, true, true, true, false, false, false, false, false] rfl rfl (any_of HT_.out (by kernel_rfl)) (fun _ _ _ h => h) (Or.inr ⟨by rfl, rfl⟩) ?_ ?_
             rotate_left
             ·simp only [Act.put, List.setIfInBounds_toArray, List.set_cons_zero, List.set_cons_succ, i64_w, i32_w]
              rfl
             refine pure_ (i := 5) (N := some 126) (v := undef) (a' := ?_) #[true, true, true, true, true, true, false, false, false, false] rfl rfl (any_of HT_.out (by kernel_rfl)) (fun _ _ _ h => h) (Or.inr ⟨by rfl, rfl⟩) ?_ ?_
             rotate_left
             ·simp only [Act.put, List.setIfInBounds_toArray, List.set_cons_zero, List.set_cons_succ, i64_w, i32_w]
              rfl
             refine pure_ (i := 6) (N := some 127) (v := undef) (a' := ?_) #[true, true, true, true, true, true, true, false, false, false] rfl rfl (any_of HT_.out (by kernel_rfl)) (fun _ _ _ h => h) (Or.inr ⟨by rfl, rfl⟩) ?_ ?_
             rotate_left
             ·simp only [Act.put, List.setIfInBounds_toArray, List.set_cons_zero, List.set_cons_succ, i64_w, i32_w]
              rfl
             refine pure_ (i := 7) (N := some 128) (v := undef) (a' := ?_) #[true, true, true, true, true, true, true, true, false, false] rfl rfl (any_of HT_.out (by kernel_rfl)) (fun _ _ _ h => h) (Or.inr ⟨by rfl, rfl⟩) ?_ ?_
             rotate_left
             ·simp only [Act.put, List.setIfInBounds_toArray, List.set_cons_zero, List.set_cons_succ, i64_w, i32_w]
              rfl
             refine pure_ (i := 8) (N := some 129) (v := ?_) (a' := ?_) #[true, true, true, true, true, true, true, true, true, false] rfl rfl (any_of HT_.out (by kernel_rfl)) (fun _ _ _ h => h) (Or.inl ⟨by rfl, ?_⟩) ?_ ?_
             rotate_left
             ·intro w'
              go_simp
              with_reducible rfl
             rotate_left
             ·simp only [Act.put, List.setIfInBounds_toArray, List.set_cons_zero, List.set_cons_succ, i64_w, i32_w]
              rfl
             refine pure_ (i := 9) (N := some 17) (v := ?_) (a' := ?_) #[true, true, true, true, true, true, true, true, true, true] rfl rfl (any_of HT_.out (by kernel_rfl)) (fun _ _ _ h => h) (Or.inl ⟨by rfl, ?_⟩) ?_ ?_
             rotate_left
             ·intro w'
              go_simp
              with_reducible rfl
             rotate_left
             ·simp only [Act.put, List.setIfInBounds_toArray, List.set_cons_zero, List.set_cons_succ, i64_w, i32_w]
              rfl
             refine done_ (done_of HT_.out (by kernel_rfl)) ?_
             try go_wp2
             go_roundg k3
             case measure => have := HK1.out; have := HK2.out; have := HK3.out; omega
             case rel => exact ⟨(true), (wrap64 (x118_3 + 1)), (by first | rfl | (simp; done) | (simp [*]; done)), (by first | rfl | (simp; done) | (simp [*]; done)), H', ⟨by have := HK1.out; have := HK2.out; have := HK3.out; omega⟩, ⟨kr HO_7⟩, ⟨bkn BK370⟩, ⟨bw⟩⟩
            ·replace c51 := Bool.eq_false_iff.mpr c51
             subst c51
             have H1 : (if 0 ≤ x118_3 then (if x118_3 < (t351.length : Int) then (pylonlaw05_HolidayLists.l2 k3 l0 t351 (((rd_T33 t351 x118_3).f0) == t366 && (((rd_T33 t351 x118_3).f1) == t367 && (((rd_T33 t351 x118_3).f2) == t368))) (t351.length : Int) (wrap64 (x118_3 + 1)) t366 t367 t368) else (none)) else (none)) = some r := by rw [if_neg (show ¬ (false = true) by decide)] at H; exact H
             clear H
             have H := H1
             clear H1
             by_cases c53 : 0 ≤ x118_3
             ·rw [if_pos c53] at H
              have c53b0 : decide (0 ≤ x118_3) = true := decide_eq_true c53
              clear c53
              by_cases c54 : x118_3 < (t351.length : Int)
              ·rw [if_pos c54] at H
               have c54b0 : decide (x118_3 < (t351.length : Int)) = true := decide_eq_true c54
               clear c54
               have H' := AX H
               clear H
               try go_wp2
               have n0_ := AX (Kd.R_drew HO_7.out)
               have n1_ := AX (blk_drew BK370.out)
               have n2_ := AX (below_drew1 HB.out)
               clear HO_7
               clear BK370
               clear HB
               have HO_7 := n0_
               have BK370 := n1_
               have HB := n2_
               clear n0_ n1_ n2_
               have p371 : 0 ≤ (x118_3 : Int) := of_decide_eq_true (by first | (with_reducible assumption) | assumption)
               have q371 : x118_3 < (t351.length : Int) := of_decide_eq_true (by first | (with_reducible assumption) | assumption)
               obtain ⟨ad371, e371, hx371_0, hx371_1, hx371_2⟩ := at_T33 (Kd.R_reads' HO_7.out).2.2 x118_3 p371 q371
               cases e371
               replace p371 := eq_true p371
               replace q371 := eq_true q371
               refine start_ (n := 10) (S := fun w' => w'.cell? ⟨gb370, 0, none⟩ = some (.int .i64 t366) ∧ w'.cell? ⟨gb370, 1, none⟩ = some (.int .i64 t367) ∧ w'.cell? ⟨gb370, 2, none⟩ = some (.int .i64 t368) ∧ w'.cell? (ad371.add ((x118_3).toNat * 3)) = some (.int .i64 ((rd_T33 t351 x118_3).f0)) ∧ w'.cell? ⟨(ad371.add ((x118_3).toNat * 3)).block, (ad371.add ((x118_3).toNat * 3)).off + 1, none⟩ = some (.int .i64 ((rd_T33 t351 x118_3).f1)) ∧ w'.cell? ⟨(ad371.add ((x118_3).toNat * 3)).block, (ad371.add ((x118_3).toNat * 3)).off + 2, none⟩ = some (.int .i64 ((rd_T33 t351 x118_3).f2))) (ds := []) #[false, false, false, false, false, false, false, false, false, false] (by kernel_rfl) rfl rfl ⟨(blk_cell BK370.out 0).trans rfl, (blk_cell BK370.out 1).trans rfl, (blk_cell BK370.out 2).trans rfl, hx371_0, hx371_1, hx371_2⟩ (fun hHeld => ?_); refine with_tabW pylonlaw05_HolidayLists.tab28 pylonlaw05_HolidayLists.bits28 (fun HT_ HW_ => ?_)
               generalize wr.drew = w55 at HO_7 BK370 HB hx371_0 hx371_1 hx371_2 hHeld ⊢
               refine pure_ (i := 0) (N := some 121) (v := ?_) (a' := ?_) #[true, false, false, false, false, false, false, false, false, false] rfl rfl (any_of HT_.out (by kernel_rfl)) (fun _ _ _ h => h) (Or.inl ⟨by rfl, ?_⟩) ?_ ?_
               rotate_left
               ·intro w'
                go_simp
                with_reducible rfl
               rotate_left
               ·simp only [Act.put, List.setIfInBounds_toArray, List.set_cons_zero, List.set_cons_succ, i64_w, i32_w]
                rfl
               refine pure_ (i := 1) (N := some 122) (v := ?_) (a' := ?_) #[true, true, false, false, false, false, false, false, false, false] rfl rfl (any_of HT_.out (by kernel_rfl)) (fun _ _ _ h => h) (Or.inl ⟨by rfl, ?_⟩) ?_ ?_
               rotate_left
               ·intro w'
                go_simp
                with_reducible rfl
               rotate_left
               ·simp only [Act.put, List.setIfInBounds_toArray, List.set_cons_zero, List.set_cons_succ, i64_w, i32_w]
                rfl
               refine pure_ (i := 2) (N := some 123) (v := ?_) (a' := ?_) #[true, true, true, false, false, false, false, false, false, false] rfl rfl (any_of HT_.out (by kernel_rfl)) (fun _ _ _ h => h) (Or.inl ⟨by rfl, ?_⟩) ?_ ?_
               rotate_left
               ·intro w'
                go_simp
                with_reducible rfl
               rotate_left
               ·simp only [Act.put, List.setIfInBounds_toArray, List.set_cons_zero, List.set_cons_succ, i64_w, i32_w]
                rfl
               refine pure_ (i := 3) (N := some 124) (v := ?_) (a' := ?_) #[true, true, true, true, false, false, false, false, false, false] rfl rfl (any_of HT_.out (by kernel_rfl)) (fun _ _ _ h => h) (Or.inl ⟨by rfl, ?_⟩) ?_ ?_
               rotate_left
               ·intro w'
                go_simp
                with_reducible rfl
               rotate_left
               ·simp only [Act.put, List.setIfInBounds_toArray, List.set_cons_zero, List.set_cons_succ, i64_w, i32_w]
                rfl
               refine pure_ (i := 4) (N := some 125) (v := ?_) (a' := ?_) #[true, true, true, true, true, false, false, false, false, false] rfl rfl (any_of HT_.out (by kernel_rfl)) (fun _ _ _ h => h) (Or.inl ⟨by rfl, ?_⟩) ?_ ?_
               rotate_left
               ·intro w'
                go_simp
                with_reducible rfl
               rotate_left
               ·simp only [Act.put, List.setIfInBounds_toArray, List.set_cons_zero, List.set_cons_succ, i64_w, i32_w]
                rfl
               refine take_ (i := 5) (N := some 126) (v := ?_) (a' := ?_) #[true, true, true, true, true, true, false, false, false, false] rfl rfl (take_ofW HT_.out HW_.out (by kernel_rfl)) (fun _ _ _ h => h) (Or.inl ⟨by rfl, ?_⟩) hHeld ?_ ?_
               rotate_left
               ·rintro w' ⟨s0, s1, s2, s3, s4, s5⟩
                go_simp
                with_reducible rfl
               rotate_left
               ·simp only [Act.put, List.setIfInBounds_toArray, List.set_cons_zero, List.set_cons_succ, i64_w, i32_w]
                rfl
               refine take_ (i := 6) (N := some 127) (v := ?_) (a' := ?_) #[true, true, true, true, true, true, true, false, false, false] rfl rfl (take_ofW HT_.out HW_.out (by kernel_rfl)) (fun _ _ _ h => h) (Or.inl ⟨by rfl, ?_⟩) hHeld ?_ ?_
               rotate_left
               ·rintro w' ⟨s0, s1, s2, s3, s4, s5⟩
                go_simp
                with_reducible rfl
               rotate_left
               ·simp only [Act.put, List.setIfInBounds_toArray, List.set_cons_zero, List.set_cons_succ, i64_w, i32_w]
                rfl
               refine pure_ (i := 7) (N := some 128) (v := ?_) (a' := ?_) #[true, true, true, true, true, true, true, true, false, false] rfl rfl (any_of HT_.out (by kernel_rfl)) (fun _ _ _ h => h) (Or.inl ⟨by rfl, ?_⟩) ?_ ?_
               rotate_left
               ·intro w'
                go_simp
                with_reducible rfl
               rotate_left
               ·simp only [Act.put, List.setIfInBounds_toArray, List.set_cons_zero, List.set_cons_succ, i64_w, i32_w]
                rfl
               refine pure_ (i := 8) (N := some 129) (v := ?_) (a' := ?_) #[true, true, true, true, true, true, true, true, true, false] rfl rfl (any_of HT_.out (by kernel_rfl)) (fun _ _ _ h => h) (Or.inl ⟨by rfl, ?_⟩) ?_ ?_
               rotate_left
               ·intro w'
                go_simp
                with_reducible rfl
               rotate_left
               ·simp only [Act.put, List.setIfInBounds_toArray, List.set_cons_zero, List.set_cons_succ, i64_w, i32_w]
                rfl
               refine pure_ (i := 9) (N := some 17) (v := ?_) (a' := ?_) #[true, true, true, true, true, true, true, true, true, true] rfl rfl (any_of HT_.out (by kernel_rfl)) (fun _ _ _ h => h) (Or.inl ⟨by rfl, ?_⟩) ?_ ?_
               rotate_left
               ·intro w'
                go_simp
                with_reducible rfl
               rotate_left
               ·simp only [Act.put, List.setIfInBounds_toArray, List.set_cons_zero, List.set_cons_succ, i64_w, i32_w]
                rfl
               refine done_ (done_of HT_.out (by kernel_rfl)) ?_
               try go_wp2
               go_roundg k3
               case measure => have := HK1.out; have := HK2.out; have := HK3.out; omega
               case rel => exact ⟨((((rd_T33 t351 x118_3).f0) == t366 && (((rd_T33 t351 x118_3).f1) == t367 && (((rd_T33 t351 x118_3).f2) == t368)))), (wrap64 (x118_3 + 1)), (by first | rfl | (simp; done) | (simp [*]; done)), (by first | rfl | (simp; done) | (simp [*]; done)), H', ⟨by have := HK1.out; have := HK2.out; have := HK3.out; omega⟩, ⟨kr HO_7⟩, ⟨bkn BK370⟩, ⟨bw⟩⟩
              ·rw [if_neg c54] at H
               exact absurd H (by simp)
             ·rw [if_neg c53] at H
              exact absurd H (by simp)
           ·rw [if_neg c50] at H
            have c50b0 : decide (x118_3 < (t351.length : Int)) = false := decide_eq_false c50
            clear c50
            replace H := Option.bind_eq_some_iff.mp H
            obtain ⟨⟨t372, t373⟩, A560, H⟩ := H
            replace H : (if t373 = 0 then (some (t372 == x17_3)) else (some false)) = some r := H
            have A56 := AX A560
            clear A560
            by_cases c57 : t373 = 0
            ·rw [if_pos c57] at H
             have c57b0 : (t373 == 0) = true := beq_iff_eq.mpr c57
             have c57b1 : (t373 != 0) = false := bne_eq_false_iff_eq.mpr c57
             clear c57
             obtain rfl := Option.some.inj H
             obtain ⟨hcz58_0, hcz58_1, hcz58_2⟩ := blkC3 (w := wr) BK370.out
             obtain ⟨hfz58_0, hfz58_1, hfz58_2⟩ := blkF3 BK370.out
             go_wp2_with (first | ((with_reducible refine gate_callee (f := 17) rfl ?_); refine gL (some 134) Try.func17 #[.slice A0 l0.length c0, .agg #[.int .i64 t366, .int .i64 t367, .int .i64 t368]] ?_; (with_reducible refine (holiday_Is.calls k3 _ _ l0 t366 t367 t368 t372 t373 _ ?side1 ?side2 A56.out).mono ?_); (case side1 => repeat (first | exact (Kd.C_below HR0.out HB.out) | (with_reducible refine Kd.C_alloc ?_ _) | (with_reducible refine Kd.C_drewN ?_ _) | (with_reducible refine Kd.C_drew ?_))); (case side2 => exact HC0.out); rintro e w59 ⟨rfl, hb⟩; refine ⟨_, rfl, ?_⟩; replace HO_7 := AX (Kd.R_below (kr HO_7) hb); replace BK370 := AX (bkb BK370 hb); replace HB := AX (below_step bw hb); (try clear hb); (try clear hb2); (try clear hk); (try clear hi)))
             go_ret
             exact ⟨by first | rfl | (simp [errW_none, errW_some] <;> rfl) | (simp [*, errW_none, errW_some] <;> rfl), bw⟩
            ·rw [if_neg c57] at H
             have c57b0 : (t373 == 0) = false := beq_eq_false_iff_ne.mpr c57
             have c57b1 : (t373 != 0) = true := bne_iff_ne.mpr c57
             obtain rfl := Option.some.inj H
             obtain ⟨hcz60_0, hcz60_1, hcz60_2⟩ := blkC3 (w := wr) BK370.out
             obtain ⟨hfz60_0, hfz60_1, hfz60_2⟩ := blkF3 BK370.out
             go_wp2_with (first | ((with_reducible refine gate_callee (f := 17) rfl ?_); refine gL (some 134) Try.func17 #[.slice A0 l0.length c0, .agg #[.int .i64 t366, .int .i64 t367, .int .i64 t368]] ?_; (with_reducible refine (holiday_Is.calls k3 _ _ l0 t366 t367 t368 t372 t373 _ ?side1 ?side2 A56.out).mono ?_); (case side1 => repeat (first | exact (Kd.C_below HR0.out HB.out) | (with_reducible refine Kd.C_alloc ?_ _) | (with_reducible refine Kd.C_drewN ?_ _) | (with_reducible refine Kd.C_drew ?_))); (case side2 => exact HC0.out); rintro e w61 ⟨rfl, hb⟩; refine ⟨_, rfl, ?_⟩; replace HO_7 := AX (Kd.R_below (kr HO_7) hb); replace BK370 := AX (bkb BK370 hb); replace HB := AX (below_step bw hb); (try clear hb); (try clear hb2); (try clear hk); (try clear hi)))
             go_ret
             exact ⟨by first | rfl | (simp [errW_none, errW_some] <;> rfl) | (simp [*, errW_none, errW_some] <;> rfl), bw⟩
     ·rw [if_neg c19] at H
      have c19b0 : (t352 == 0) = false := beq_eq_false_iff_ne.mpr c19
      have c19b1 : (t352 != 0) = true := bne_iff_ne.mpr c19
      obtain rfl := Option.some.inj H
      go_wp2
      go_ret
      exact ⟨by first | rfl | (simp [errW_none, errW_some] <;> rfl) | (simp [*, errW_none, errW_some] <;> rfl), bw⟩
 ·replace c5 := Bool.eq_false_iff.mpr c5
  subst c5
  have H1 : (some false) = some r := by rw [if_neg (show ¬ (false = true) by decide)] at H; exact H
  clear H
  have H := H1
  clear H1
  obtain rfl := Option.some.inj H
  go_enter Try.func6, Try.ntmps6
  go_wp2_with (first | ((with_reducible refine gate_callee (f := 8) rfl ?_); refine gL (some 21) Try.func8 #[] ?_; (with_reducible refine (pylonlaw05_awake.calls  false _ A4.out).mono ?_); rintro e w62 ⟨rfl, hb⟩; refine ⟨_, rfl, ?_⟩; replace HB := AX (below_step bw hb); (try clear hb)))
  go_ret
  exact ⟨by first | rfl | (simp [errW_none, errW_some] <;> rfl) | (simp [*, errW_none, errW_some] <;> rfl), bw⟩

end Go.Proofs.Ytegedhnbmclbkaa.PX
