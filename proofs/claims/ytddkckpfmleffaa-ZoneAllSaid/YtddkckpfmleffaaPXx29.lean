/- Functions of the program as plain Lean functions, each with a proof that the call in the machine answers just what the plain function says; condition: the plain function answers at all. -/
import Derived.Test.YtddkckpfmleffaaPXx0
import Derived.Test.YtddkckpfmleffaaPXx2
import Derived.Test.YtddkckpfmleffaaPXx7
import Derived.Test.YtddkckpfmleffaaPXx11
import Derived.Test.YtddkckpfmleffaaPXx18
namespace Go.Proofs.Ytddkckpfmleffaa.PX
open Go.RowKit Go.Proofs.YtddkckpfmleffaaW.PrintWords Go.Proofs.YtddkckpfmleffaaW.PrintLast Go.Proofs.YtddkckpfmleffaaW.PrintMore
attribute [local go_sem] max2_int min2_int max_two min_two max_three min_three max_four min_four   -- for this text's walks alone
set_option linter.unusedVariables false
set_option linter.unusedSimpArgs false

attribute [local go_sem high] eqA35
/-! ### pylonlaw04_ZoneAll: function 5 -/
theorem far9 {w W : World} {g : Nat} {a : Addr} {v u0 u1 u2 u3 u4 u5 u6 u7 u8 : Value} (GW : Aside0 (w.heap.size ≤ g)) (h0 : w.cell? a = some v) :
    (((((((((W.setCell ⟨g, 0, none⟩ u0).setCell ⟨g, 1, none⟩ u1).setCell ⟨g, 2, none⟩ u2).setCell ⟨g, 3, none⟩ u3).setCell ⟨g, 4, none⟩ u4).setCell ⟨g, 5, none⟩ u5).setCell ⟨g, 6, none⟩ u6).setCell ⟨g, 7, none⟩ u7).setCell ⟨g, 8, none⟩ u8).cell? a = W.cell? a := by
  have h : a.block ≠ g := Nat.ne_of_lt (Nat.lt_of_lt_of_le (World.block_lt_of_cell? w _ h0) GW.out)
  rw [cell_far (p := ⟨g, 8, none⟩) h, cell_far (p := ⟨g, 7, none⟩) h, cell_far (p := ⟨g, 6, none⟩) h, cell_far (p := ⟨g, 5, none⟩) h, cell_far (p := ⟨g, 4, none⟩) h, cell_far (p := ⟨g, 3, none⟩) h, cell_far (p := ⟨g, 2, none⟩) h, cell_far (p := ⟨g, 1, none⟩) h, cell_far (p := ⟨g, 0, none⟩) h]
mutual
def pylonlaw04_ZoneAll.l0 : Nat → List (S51) → Int → Int → Option (Bool)
 | 0, _, _, _ => none
 | k + 1, x0, x9, x10 => if x10 < x9 then (if 0 ≤ x10 then (if x10 < (x0.length : Int) then ((pylonlaw04_plays.f k ((rd_T51 x0 x10).f0) ((rd_T51 x0 x10).f1.f0) ((rd_T51 x0 x10).f1.f1) ((rd_T51 x0 x10).f1.f2.f0) ((rd_T51 x0 x10).f1.f2.f1) ((rd_T51 x0 x10).f1.f2.f2) ((rd_T51 x0 x10).f1.f2.f3) ((rd_T51 x0 x10).f1.f3.f0) ((rd_T51 x0 x10).f1.f3.f1) ((rd_T51 x0 x10).f1.f3.f2) ((rd_T51 x0 x10).f1.f3.f3) ((rd_T51 x0 x10).f2) ((rd_T51 x0 x10).f3.f0) ((rd_T51 x0 x10).f3.f1) ((rd_T51 x0 x10).f3.f2) ((rd_T51 x0 x10).f4)).bind fun bt453 => ((pylonlaw04_wants.f k ((rd_T51 x0 x10).f0) ((rd_T51 x0 x10).f1.f0) ((rd_T51 x0 x10).f1.f1) ((rd_T51 x0 x10).f1.f2.f0) ((rd_T51 x0 x10).f1.f2.f1) ((rd_T51 x0 x10).f1.f2.f2) ((rd_T51 x0 x10).f1.f2.f3) ((rd_T51 x0 x10).f1.f3.f0) ((rd_T51 x0 x10).f1.f3.f1) ((rd_T51 x0 x10).f1.f3.f2) ((rd_T51 x0 x10).f1.f3.f3) ((rd_T51 x0 x10).f2) ((rd_T51 x0 x10).f3.f0) ((rd_T51 x0 x10).f3.f1) ((rd_T51 x0 x10).f3.f2) ((rd_T51 x0 x10).f4)).bind fun bt465 => (if ((!(bt453.1 == bt465.1) || (!(bt453.2.1 == bt465.2.1) || (!(bt453.2.2.1 == bt465.2.2.1)))) || (!(bt453.2.2.2.1 == bt465.2.2.2.1) || (!(bt453.2.2.2.2.1 == bt465.2.2.2.2.1)))) = true then (pylonlaw04_ZoneAll.j1 k x0 x9 x10 true) else (if bt453.2.2.2.2.2.1 = bt465.2.2.2.2.2.1 then (if bt453.2.2.2.2.2.2.1 = bt465.2.2.2.2.2.2.1 then (if bt453.2.2.2.2.2.2.2.2 = bt465.2.2.2.2.2.2.2.2 then ((pylonref01_SameNumbers.f k bt453.2.2.2.2.2.2.2.1 bt465.2.2.2.2.2.2.2.1).bind fun t478 => (pylonlaw04_ZoneAll.j1 k x0 x9 x10 (!t478))) else (pylonlaw04_ZoneAll.j1 k x0 x9 x10 true)) else (pylonlaw04_ZoneAll.j1 k x0 x9 x10 true)) else (pylonlaw04_ZoneAll.j1 k x0 x9 x10 true))))) else (none)) else (none)) else (some true)
def pylonlaw04_ZoneAll.j1 : Nat → List (S51) → Int → Int → Bool → Option (Bool)
 | 0, _, _, _, _ => none
 | k + 1, x0, x9, x10, x56 => if x56 = true then (some false) else (pylonlaw04_ZoneAll.l0 k x0 x9 (wrap64 (x10 + 1)))
end
def pylonlaw04_ZoneAll.f (k : Nat) (l0 : List (S51)) : Option (Bool) := (pylonlaw04_awake.f k).bind fun t451 => (if t451 = true then (pylonlaw04_ZoneAll.l0 k l0 (l0.length : Int) 0) else (some false))
theorem pylonlaw04_ZoneAll.mono_l : ∀ k, (∀ y0 y1 y2, LeO (pylonlaw04_ZoneAll.l0 k y0 y1 y2) (pylonlaw04_ZoneAll.l0 (k + 1) y0 y1 y2)) ∧ (∀ y0 y1 y2 y3, LeO (pylonlaw04_ZoneAll.j1 k y0 y1 y2 y3) (pylonlaw04_ZoneAll.j1 (k + 1) y0 y1 y2 y3))
 | 0 => ⟨fun _ _ _ r h => by simp [pylonlaw04_ZoneAll.l0] at h, fun _ _ _ _ r h => by simp [pylonlaw04_ZoneAll.j1] at h⟩
 | k + 1 => by
  obtain ⟨ih0, ih1⟩ := pylonlaw04_ZoneAll.mono_l k
  refine ⟨?_, ?_⟩
  ·intro y0 y1 y2
   unfold pylonlaw04_ZoneAll.l0
   repeat' first
   | (with_reducible exact ih0 _ _ _)
   | (with_reducible exact ih1 _ _ _ _)
   | (with_reducible exact pylonlaw04_awake.mono _)
   | (with_reducible exact pylonlaw04_plays.mono _ _ _ _ _ _ _ _ _ _ _ _ _ _ _ _ _)
   | (with_reducible exact pylonlaw04_wants.mono _ _ _ _ _ _ _ _ _ _ _ _ _ _ _ _ _)
   | (with_reducible exact pylonref01_SameNumbers.mono _ _ _)
   | (with_reducible exact LeO.refl _)
   | (with_reducible exact LeO.none _)
   | (with_reducible refine LeO.ite ?_ ?_)
   | (with_reducible refine LeO.bind ?_ (fun _ => ?_))
  ·intro y0 y1 y2 y3
   unfold pylonlaw04_ZoneAll.j1
   repeat' first
   | (with_reducible exact ih0 _ _ _)
   | (with_reducible exact ih1 _ _ _ _)
   | (with_reducible exact pylonlaw04_awake.mono _)
   | (with_reducible exact pylonlaw04_plays.mono _ _ _ _ _ _ _ _ _ _ _ _ _ _ _ _ _)
   | (with_reducible exact pylonlaw04_wants.mono _ _ _ _ _ _ _ _ _ _ _ _ _ _ _ _ _)
   | (with_reducible exact pylonref01_SameNumbers.mono _ _ _)
   | (with_reducible exact LeO.refl _)
   | (with_reducible exact LeO.none _)
   | (with_reducible refine LeO.ite ?_ ?_)
   | (with_reducible refine LeO.bind ?_ (fun _ => ?_))
theorem pylonlaw04_ZoneAll.mono : ∀ a0 k, LeO (pylonlaw04_ZoneAll.f k a0) (pylonlaw04_ZoneAll.f (k + 1) a0) := by
 intro a0 k
 obtain ⟨ih0, ih1⟩ := pylonlaw04_ZoneAll.mono_l k
 unfold pylonlaw04_ZoneAll.f
 repeat' first
   | (with_reducible exact ih0 _ _ _)
   | (with_reducible exact ih1 _ _ _ _)
   | (with_reducible exact pylonlaw04_awake.mono _)
   | (with_reducible exact pylonlaw04_plays.mono _ _ _ _ _ _ _ _ _ _ _ _ _ _ _ _ _)
   | (with_reducible exact pylonlaw04_wants.mono _ _ _ _ _ _ _ _ _ _ _ _ _ _ _ _ _)
   | (with_reducible exact pylonref01_SameNumbers.mono _ _ _)
   | (with_reducible exact LeO.refl _)
   | (with_reducible exact LeO.none _)
   | (with_reducible refine LeO.ite ?_ ?_)
   | (with_reducible refine LeO.bind ?_ (fun _ => ?_))
def pylonlaw04_ZoneAll.T6 : Bool × List (List Nat × List Nat) := (true, [([], []), ([], []), ([0, 1], [0, 1]), ([2], [2]), ([3], [3]), ([], []), ([], []), ([5, 6], [5, 6]), ([7], [7]), ([8, 4], [8]), ([], []), ([], []), ([10, 4, 9, 0, 1, 2, 3, 4, 10, 11], [4, 10]), ([11, 9, 12, 0, 1, 2, 3, 4, 5, 6, 7, 8, 9, 10, 11, 12], [9, 11])])
def pylonlaw04_ZoneAll.B6 : List Nat := [0, 0, 3, 7, 15, 0, 0, 96, 224, 511, 0, 0, 4095, 8191]
theorem pylonlaw04_ZoneAll.tab6 : rtab .any (opsOf Try.f5 6) = pylonlaw04_ZoneAll.T6 := by kernel_rfl
theorem pylonlaw04_ZoneAll.bits6 : waitsOk pylonlaw04_ZoneAll.T6.2 pylonlaw04_ZoneAll.B6 = true := by kernel_rfl
set_option maxHeartbeats 40000000 in
set_option maxRecDepth 100000 in
theorem pylonlaw04_ZoneAll.calls (k : Nat) (A0 : Option Addr) (c0 : Nat) (l0 : List (S51)) (r : Bool) (w : World) (hr0 : Kd.C k51 w A0 l0.length l0) (hc0 : l0.length ≤ c0) (h : pylonlaw04_ZoneAll.f k l0 = some r) :
  Calls Try.prog 5 #[.slice A0 l0.length c0] w fun e w' => e = .returned (.bool r) ∧ Below w.heap.size w w' := by
 have hu51 := Try.underlying51
 have hu48 := Try.underlying48
 have hu35 := Try.underlying35
 have HR0 := AX hr0
 have HC0 := AX hc0
 clear hr0 hc0
 have HB := AX (Below.refl w.heap.size w)
 have H : ((pylonlaw04_awake.f k).bind fun t451 => (if t451 = true then (pylonlaw04_ZoneAll.l0 k l0 (l0.length : Int) 0) else (some false))) = some r := h
 clear h
 replace H := Option.bind_eq_some_iff.mp H
 obtain ⟨t451, A20, H⟩ := H
 replace H : (if t451 = true then (pylonlaw04_ZoneAll.l0 k l0 (l0.length : Int) 0) else (some false)) = some r := H
 have A2 := AX A20
 clear A20
 by_cases c3 : t451 = true
 ·subst c3
  have H1 : (pylonlaw04_ZoneAll.l0 k l0 (l0.length : Int) 0) = some r := by rw [if_pos rfl] at H; exact H
  clear H
  have H := H1
  clear H1
  have H' := AX H
  clear H
  go_enter Try.func5, Try.ntmps5
  go_wp2_with (first | ((with_reducible refine gate_callee (f := 14) rfl ?_); refine gL (some 6) Try.func14 #[] ?_; (with_reducible refine (pylonlaw04_awake.calls k  true _ A2.out).mono ?_); rintro e w4 ⟨rfl, hb⟩; refine ⟨_, rfl, ?_⟩; replace HB := AX (below_step bw hb); (try clear hb)))
  go_loopg [10] k (fun kq v10 w' => ∃ (x10_1 : Int), v10 = .int .i64 x10_1 ∧ Aside0 (pylonlaw04_ZoneAll.l0 kq l0 (l0.length : Int) x10_1 = some r) ∧ Aside0 (kq ≤ k) ∧ Aside0 (Below w.heap.size w w'))
  case atStart => exact ⟨(0), (by first | rfl | (simp; done) | (simp [*]; done)), H', ⟨Nat.le_refl _⟩, ⟨bw⟩⟩
  case round =>
   clear H'
   try clear c3
   obtain ⟨x10_1, rfl, HA, HK1, HB⟩ := hrel
   cases gk with
   | zero => exact absurd HA.out (by simp [pylonlaw04_ZoneAll.l0])
   | succ k1 =>
    have H := HA.out
    clear HA
    simp only [pylonlaw04_ZoneAll.l0] at H
    by_cases c5 : x10_1 < (l0.length : Int)
    ·rw [if_pos c5] at H
     have c5b0 : decide (x10_1 < (l0.length : Int)) = true := decide_eq_true c5
     clear c5
     by_cases c6 : 0 ≤ x10_1
     ·rw [if_pos c6] at H
      have c6b0 : decide (0 ≤ x10_1) = true := decide_eq_true c6
      clear c6
      by_cases c7 : x10_1 < (l0.length : Int)
      ·rw [if_pos c7] at H
       have c7b0 : decide (x10_1 < (l0.length : Int)) = true := decide_eq_true c7
       clear c7
       replace H := Option.bind_eq_some_iff.mp H
       obtain ⟨⟨t453, t454, t455, t456, t457, t458, t459, t460, t463⟩, A80, H⟩ := H
       replace H : ((pylonlaw04_wants.f k1 ((rd_T51 l0 x10_1).f0) ((rd_T51 l0 x10_1).f1.f0) ((rd_T51 l0 x10_1).f1.f1) ((rd_T51 l0 x10_1).f1.f2.f0) ((rd_T51 l0 x10_1).f1.f2.f1) ((rd_T51 l0 x10_1).f1.f2.f2) ((rd_T51 l0 x10_1).f1.f2.f3) ((rd_T51 l0 x10_1).f1.f3.f0) ((rd_T51 l0 x10_1).f1.f3.f1) ((rd_T51 l0 x10_1).f1.f3.f2) ((rd_T51 l0 x10_1).f1.f3.f3) ((rd_T51 l0 x10_1).f2) ((rd_T51 l0 x10_1).f3.f0) ((rd_T51 l0 x10_1).f3.f1) ((rd_T51 l0 x10_1).f3.f2) ((rd_T51 l0 x10_1).f4)).bind fun bt465 => (if ((!(t453 == bt465.1) || (!(t454 == bt465.2.1) || (!(t455 == bt465.2.2.1)))) || (!(t456 == bt465.2.2.2.1) || (!(t457 == bt465.2.2.2.2.1)))) = true then (pylonlaw04_ZoneAll.j1 k1 l0 (l0.length : Int) x10_1 true) else (if t458 = bt465.2.2.2.2.2.1 then (if t459 = bt465.2.2.2.2.2.2.1 then (if t463 = bt465.2.2.2.2.2.2.2.2 then ((pylonref01_SameNumbers.f k1 t460 bt465.2.2.2.2.2.2.2.1).bind fun t478 => (pylonlaw04_ZoneAll.j1 k1 l0 (l0.length : Int) x10_1 (!t478))) else (pylonlaw04_ZoneAll.j1 k1 l0 (l0.length : Int) x10_1 true)) else (pylonlaw04_ZoneAll.j1 k1 l0 (l0.length : Int) x10_1 true)) else (pylonlaw04_ZoneAll.j1 k1 l0 (l0.length : Int) x10_1 true)))) = some r := H
       have A8 := AX A80
       clear A80
       replace H := Option.bind_eq_some_iff.mp H
       obtain ⟨⟨t465, t466, t467, t468, t469, t470, t471, t472, t475⟩, A90, H⟩ := H
       replace H : (if ((!(t453 == t465) || (!(t454 == t466) || (!(t455 == t467)))) || (!(t456 == t468) || (!(t457 == t469)))) = true then (pylonlaw04_ZoneAll.j1 k1 l0 (l0.length : Int) x10_1 true) else (if t458 = t470 then (if t459 = t471 then (if t463 = t475 then ((pylonref01_SameNumbers.f k1 t460 t472).bind fun t478 => (pylonlaw04_ZoneAll.j1 k1 l0 (l0.length : Int) x10_1 (!t478))) else (pylonlaw04_ZoneAll.j1 k1 l0 (l0.length : Int) x10_1 true)) else (pylonlaw04_ZoneAll.j1 k1 l0 (l0.length : Int) x10_1 true)) else (pylonlaw04_ZoneAll.j1 k1 l0 (l0.length : Int) x10_1 true))) = some r := H
       have A9 := AX A90
       clear A90
       have HC10 := AX H
       clear H
       try go_wp2
       have n0_ := AX (below_drew1 HB.out)
       clear HB
       have HB := n0_
       clear n0_
       have p452 : 0 ≤ (x10_1 : Int) := of_decide_eq_true (by first | (with_reducible assumption) | assumption)
       have q452 : x10_1 < (l0.length : Int) := of_decide_eq_true (by first | (with_reducible assumption) | assumption)
       obtain ⟨ad452, e452, hx452_0, hx452_1, hx452_2, hx452_3, hx452_4, hx452_5, hx452_6, hx452_7, hx452_8, hx452_9, hx452_10, hx452_11, hx452_12, hx452_13, hx452_14, hx452_15⟩ := at_T51 HR0.out x10_1 p452 q452
       have hw452_15 := hx452_15
       have hw452_14 := hx452_14
       have hw452_13 := hx452_13
       have hw452_12 := hx452_12
       have hw452_11 := hx452_11
       have hw452_10 := hx452_10
       have hw452_9 := hx452_9
       have hw452_8 := hx452_8
       have hw452_7 := hx452_7
       have hw452_6 := hx452_6
       have hw452_5 := hx452_5
       have hw452_4 := hx452_4
       have hw452_3 := hx452_3
       have hw452_2 := hx452_2
       have hw452_1 := hx452_1
       have hw452_0 := hx452_0
       cases e452
       replace hx452_0 := bcl HB hx452_0
       replace hx452_1 := bcl HB hx452_1
       replace hx452_2 := bcl HB hx452_2
       replace hx452_3 := bcl HB hx452_3
       replace hx452_4 := bcl HB hx452_4
       replace hx452_5 := bcl HB hx452_5
       replace hx452_6 := bcl HB hx452_6
       replace hx452_7 := bcl HB hx452_7
       replace hx452_8 := bcl HB hx452_8
       replace hx452_9 := bcl HB hx452_9
       replace hx452_10 := bcl HB hx452_10
       replace hx452_11 := bcl HB hx452_11
       replace hx452_12 := bcl HB hx452_12
       replace hx452_13 := bcl HB hx452_13
       replace hx452_14 := bcl HB hx452_14
       replace hx452_15 := bcl HB hx452_15
       replace p452 := eq_true p452
       replace q452 := eq_true q452
       have p464 : 0 ≤ (x10_1 : Int) := of_decide_eq_true (by first | (with_reducible assumption) | assumption)
       have q464 : x10_1 < (l0.length : Int) := of_decide_eq_true (by first | (with_reducible assumption) | assumption)
       obtain ⟨ad464, e464, hx464_0, hx464_1, hx464_2, hx464_3, hx464_4, hx464_5, hx464_6, hx464_7, hx464_8, hx464_9, hx464_10, hx464_11, hx464_12, hx464_13, hx464_14, hx464_15⟩ := at_T51 HR0.out x10_1 p464 q464
       have hw464_15 := hx464_15
       have hw464_14 := hx464_14
       have hw464_13 := hx464_13
       have hw464_12 := hx464_12
       have hw464_11 := hx464_11
       have hw464_10 := hx464_10
       have hw464_9 := hx464_9
       have hw464_8 := hx464_8
       have hw464_7 := hx464_7
       have hw464_6 := hx464_6
       have hw464_5 := hx464_5
       have hw464_4 := hx464_4
       have hw464_3 := hx464_3
       have hw464_2 := hx464_2
       have hw464_1 := hx464_1
       have hw464_0 := hx464_0
       obtain rfl : ad452 = ad464 := (by injection e464)
       replace hx464_0 := bcl HB hx464_0
       replace hx464_1 := bcl HB hx464_1
       replace hx464_2 := bcl HB hx464_2
       replace hx464_3 := bcl HB hx464_3
       replace hx464_4 := bcl HB hx464_4
       replace hx464_5 := bcl HB hx464_5
       replace hx464_6 := bcl HB hx464_6
       replace hx464_7 := bcl HB hx464_7
       replace hx464_8 := bcl HB hx464_8
       replace hx464_9 := bcl HB hx464_9
       replace hx464_10 := bcl HB hx464_10
       replace hx464_11 := bcl HB hx464_11
       replace hx464_12 := bcl HB hx464_12
       replace hx464_13 := bcl HB hx464_13
       replace hx464_14 := bcl HB hx464_14
       replace hx464_15 := bcl HB hx464_15
       replace p464 := eq_true p464
       replace q464 := eq_true q464
       refine start_ (n := 14) (S := fun w' => w'.cell? (ad452.add ((x10_1).toNat * 16)) = some (.int .i64 ((rd_T51 l0 x10_1).f0)) ∧ w'.cell? ⟨(ad452.add ((x10_1).toNat * 16)).block, (ad452.add ((x10_1).toNat * 16)).off + 1, none⟩ = some (.int .i64 ((rd_T51 l0 x10_1).f1.f0)) ∧ w'.cell? ⟨(ad452.add ((x10_1).toNat * 16)).block, (ad452.add ((x10_1).toNat * 16)).off + 2, none⟩ = some (.int .i64 ((rd_T51 l0 x10_1).f1.f1)) ∧ w'.cell? ⟨(ad452.add ((x10_1).toNat * 16)).block, (ad452.add ((x10_1).toNat * 16)).off + 3, none⟩ = some (.int .i64 ((rd_T51 l0 x10_1).f1.f2.f0)) ∧ w'.cell? ⟨(ad452.add ((x10_1).toNat * 16)).block, (ad452.add ((x10_1).toNat * 16)).off + 4, none⟩ = some (.int .i64 ((rd_T51 l0 x10_1).f1.f2.f1)) ∧ w'.cell? ⟨(ad452.add ((x10_1).toNat * 16)).block, (ad452.add ((x10_1).toNat * 16)).off + 5, none⟩ = some (.int .i64 ((rd_T51 l0 x10_1).f1.f2.f2)) ∧ w'.cell? ⟨(ad452.add ((x10_1).toNat * 16)).block, (ad452.add ((x10_1).toNat * 16)).off + 6, none⟩ = some (.int .i64 ((rd_T51 l0 x10_1).f1.f2.f3)) ∧ w'.cell? ⟨(ad452.add ((x10_1).toNat * 16)).block, (ad452.add ((x10_1).toNat * 16)).off + 7, none⟩ = some (.int .i64 ((rd_T51 l0 x10_1).f1.f3.f0)) ∧ w'.cell? ⟨(ad452.add ((x10_1).toNat * 16)).block, (ad452.add ((x10_1).toNat * 16)).off + 8, none⟩ = some (.int .i64 ((rd_T51 l0 x10_1).f1.f3.f1)) ∧ w'.cell? ⟨(ad452.add ((x10_1).toNat * 16)).block, (ad452.add ((x10_1).toNat * 16)).off + 9, none⟩ = some (.int .i64 ((rd_T51 l0 x10_1).f1.f3.f2)) ∧ w'.cell? ⟨(ad452.add ((x10_1).toNat * 16)).block, (ad452.add ((x10_1).toNat * 16)).off + 10, none⟩ = some (.int .i64 ((rd_T51 l0 x10_1).f1.f3.f3)) ∧ w'.cell? ⟨(ad452.add ((x10_1).toNat * 16)).block, (ad452.add ((x10_1).toNat * 16)).off + 11, none⟩ = some (.int .i64 ((rd_T51 l0 x10_1).f2)) ∧ w'.cell? ⟨(ad452.add ((x10_1).toNat * 16)).block, (ad452.add ((x10_1).toNat * 16)).off + 12, none⟩ = some (.int .i64 ((rd_T51 l0 x10_1).f3.f0)) ∧ w'.cell? ⟨(ad452.add ((x10_1).toNat * 16)).block, (ad452.add ((x10_1).toNat * 16)).off + 13, none⟩ = some (.int .i64 ((rd_T51 l0 x10_1).f3.f1)) ∧ w'.cell? ⟨(ad452.add ((x10_1).toNat * 16)).block, (ad452.add ((x10_1).toNat * 16)).off + 14, none⟩ = some (.int .i64 ((rd_T51 l0 x10_1).f3.f2)) ∧ w'.cell? ⟨(ad452.add ((x10_1).toNat * 16)).block, (ad452.add ((x10_1).toNat * 16)).off + 15, none⟩ = some (.int .i64 ((rd_T51 l0 x10_1).f4)) ∧ w'.cell? (ad452.add ((x10_1).toNat * 16)) = some (.int .i64 ((rd_T51 l0 x10_1).f0)) ∧ w'.cell? ⟨(ad452.add ((x10_1).toNat * 16)).block, (ad452.add ((x10_1).toNat * 16)).off + 1, none⟩ = some (.int .i64 ((rd_T51 l0 x10_1).f1.f0)) ∧ w'.cell? ⟨(ad452.add ((x10_1).toNat * 16)).block, (ad452.add ((x10_1).toNat * 16)).off + 2, none⟩ = some (.int .i64 ((rd_T51 l0 x10_1).f1.f1)) ∧ w'.cell? ⟨(ad452.add ((x10_1).toNat * 16)).block, (ad452.add ((x10_1).toNat * 16)).off + 3, none⟩ = some (.int .i64 ((rd_T51 l0 x10_1).f1.f2.f0)) ∧ w'.cell? ⟨(ad452.add ((x10_1).toNat * 16)).block, (ad452.add ((x10_1).toNat * 16)).off + 4, none⟩ = some (.int .i64 ((rd_T51 l0 x10_1).f1.f2.f1)) ∧ w'.cell? ⟨(ad452.add ((x10_1).toNat * 16)).block, (ad452.add ((x10_1).toNat * 16)).off + 5, none⟩ = some (.int .i64 ((rd_T51 l0 x10_1).f1.f2.f2)) ∧ w'.cell? ⟨(ad452.add ((x10_1).toNat * 16)).block, (ad452.add ((x10_1).toNat * 16)).off + 6, none⟩ = some (.int .i64 ((rd_T51 l0 x10_1).f1.f2.f3)) ∧ w'.cell? ⟨(ad452.add ((x10_1).toNat * 16)).block, (ad452.add ((x10_1).toNat * 16)).off + 7, none⟩ = some (.int .i64 ((rd_T51 l0 x10_1).f1.f3.f0)) ∧ w'.cell? ⟨(ad452.add ((x10_1).toNat * 16)).block, (ad452.add ((x10_1).toNat * 16)).off + 8, none⟩ = some (.int .i64 ((rd_T51 l0 x10_1).f1.f3.f1)) ∧ w'.cell? ⟨(ad452.add ((x10_1).toNat * 16)).block, (ad452.add ((x10_1).toNat * 16)).off + 9, none⟩ = some (.int .i64 ((rd_T51 l0 x10_1).f1.f3.f2)) ∧ w'.cell? ⟨(ad452.add ((x10_1).toNat * 16)).block, (ad452.add ((x10_1).toNat * 16)).off + 10, none⟩ = some (.int .i64 ((rd_T51 l0 x10_1).f1.f3.f3)) ∧ w'.cell? ⟨(ad452.add ((x10_1).toNat * 16)).block, (ad452.add ((x10_1).toNat * 16)).off + 11, none⟩ = some (.int .i64 ((rd_T51 l0 x10_1).f2)) ∧ w'.cell? ⟨(ad452.add ((x10_1).toNat * 16)).block, (ad452.add ((x10_1).toNat * 16)).off + 12, none⟩ = some (.int .i64 ((rd_T51 l0 x10_1).f3.f0)) ∧ w'.cell? ⟨(ad452.add ((x10_1).toNat * 16)).block, (ad452.add ((x10_1).toNat * 16)).off + 13, none⟩ = some (.int .i64 ((rd_T51 l0 x10_1).f3.f1)) ∧ w'.cell? ⟨(ad452.add ((x10_1).toNat * 16)).block, (ad452.add ((x10_1).toNat * 16)).off + 14, none⟩ = some (.int .i64 ((rd_T51 l0 x10_1).f3.f2)) ∧ w'.cell? ⟨(ad452.add ((x10_1).toNat * 16)).block, (ad452.add ((x10_1).toNat * 16)).off + 15, none⟩ = some (.int .i64 ((rd_T51 l0 x10_1).f4))) (ds := []) #[false, false, false, false, false, false, false, false, false, false, false, false, false, false] (by kernel_rfl) rfl rfl ⟨(bcl HB hw452_0), (bcl HB hw452_1), (bcl HB hw452_2), (bcl HB hw452_3), (bcl HB hw452_4), (bcl HB hw452_5), (bcl HB hw452_6), (bcl HB hw452_7), (bcl HB hw452_8), (bcl HB hw452_9), (bcl HB hw452_10), (bcl HB hw452_11), (bcl HB hw452_12), (bcl HB hw452_13), (bcl HB hw452_14), (bcl HB hw452_15), (bcl HB hw464_0), (bcl HB hw464_1), (bcl HB hw464_2), (bcl HB hw464_3), (bcl HB hw464_4), (bcl HB hw464_5), (bcl HB hw464_6), (bcl HB hw464_7), (bcl HB hw464_8), (bcl HB hw464_9), (bcl HB hw464_10), (bcl HB hw464_11), (bcl HB hw464_12), (bcl HB hw464_13), (bcl HB hw464_14), (bcl HB hw464_15)⟩ (fun hHeld => ?_); refine with_tabW pylonlaw04_ZoneAll.tab6 pylonlaw04_ZoneAll.bits6 (fun HT_ HW_ => ?_)
       generalize wr.drew = w11 at HB hx452_0 hx452_1 hx452_10 hx452_11 hx452_12 hx452_13 hx452_14 hx452_15 hx452_2 hx452_3 hx452_4 hx452_5 hx452_6 hx452_7 hx452_8 hx452_9 hx464_0 hx464_1 hx464_10 hx464_11 hx464_12 hx464_13 hx464_14 hx464_15 hx464_2 hx464_3 hx464_4 hx464_5 hx464_6 hx464_7 hx464_8 hx464_9 hHeld ⊢
       refine pure_ (i := 0) (N := some 13) (v := ?_) (a' := ?_) #[true, false, false, false, false, false, false, false, false, false, false, false, false, false] rfl rfl (any_of HT_.out (by kernel_rfl)) (fun _ _ _ h => h) (Or.inl ⟨by rfl, ?_⟩) ?_ ?_
       rotate_left
       ·intro w'
        go_simp
        with_reducible rfl
       rotate_left
       ·simp only [Act.put, List.setIfInBounds_toArray, List.set_cons_zero, List.set_cons_succ, i64_w, i32_w]
        rfl
       refine pure_ (i := 1) (N := some 14) (v := ?_) (a' := ?_) #[true, true, false, false, false, false, false, false, false, false, false, false, false, false] rfl rfl (any_of HT_.out (by kernel_rfl)) (fun _ _ _ h => h) (Or.inl ⟨by rfl, ?_⟩) ?_ ?_
       rotate_left
       ·intro w'
        go_simp
        with_reducible rfl
       rotate_left
       ·simp only [Act.put, List.setIfInBounds_toArray, List.set_cons_zero, List.set_cons_succ, i64_w, i32_w]
        rfl
       refine pure_ (i := 2) (N := some 15) (v := ?_) (a' := ?_) #[true, true, true, false, false, false, false, false, false, false, false, false, false, false] rfl rfl (any_of HT_.out (by kernel_rfl)) (fun _ _ _ h => h) (Or.inl ⟨by rfl, ?_⟩) ?_ ?_
       rotate_left
       ·intro w'
        go_simp
        with_reducible rfl
       rotate_left
       ·simp only [Act.put, List.setIfInBounds_toArray, List.set_cons_zero, List.set_cons_succ, i64_w, i32_w]
        rfl
       refine pure_ (i := 5) (N := some 18) (v := ?_) (a' := ?_) #[true, true, true, false, false, true, false, false, false, false, false, false, false, false] rfl rfl (any_of HT_.out (by kernel_rfl)) (fun _ _ _ h => h) (Or.inl ⟨by rfl, ?_⟩) ?_ ?_
       rotate_left
       ·intro w'
        go_simp
        with_reducible rfl
       rotate_left
       ·simp only [Act.put, List.setIfInBounds_toArray, List.set_cons_zero, List.set_cons_succ, i64_w, i32_w]
        rfl
       refine pure_ (i := 6) (N := some 19) (v := ?_) (a' := ?_) #[true, true, true, false, false, true, true, false, false, false, false, false, false, false] rfl rfl (any_of HT_.out (by kernel_rfl)) (fun _ _ _ h => h) (Or.inl ⟨by rfl, ?_⟩) ?_ ?_
       rotate_left
       ·intro w'
        go_simp
        with_reducible rfl
       rotate_left
       ·simp only [Act.put, List.setIfInBounds_toArray, List.set_cons_zero, List.set_cons_succ, i64_w, i32_w]
        rfl
       refine pure_ (i := 7) (N := some 20) (v := ?_) (a' := ?_) #[true, true, true, false, false, true, true, true, false, false, false, false, false, false] rfl rfl (any_of HT_.out (by kernel_rfl)) (fun _ _ _ h => h) (Or.inl ⟨by rfl, ?_⟩) ?_ ?_
       rotate_left
       ·intro w'
        go_simp
        with_reducible rfl
       rotate_left
       ·simp only [Act.put, List.setIfInBounds_toArray, List.set_cons_zero, List.set_cons_succ, i64_w, i32_w]
        rfl
       refine take_ (i := 3) (N := some 16) (v := ?_) (a' := ?_) #[true, true, true, true, false, true, true, true, false, false, false, false, false, false] rfl rfl (take_ofW HT_.out HW_.out (by kernel_rfl)) (fun _ _ _ h => h) (Or.inl ⟨by rfl, ?_⟩) hHeld ?_ ?_
       rotate_left
       ·rintro w' ⟨s0, s1, s2, s3, s4, s5, s6, s7, s8, s9, s10, s11, s12, s13, s14, s15, s16, s17, s18, s19, s20, s21, s22, s23, s24, s25, s26, s27, s28, s29, s30, s31⟩
        go_simp
        with_reducible rfl
       rotate_left
       ·simp only [Act.put, List.setIfInBounds_toArray, List.set_cons_zero, List.set_cons_succ, i64_w, i32_w]
        rfl
       refine take_ (i := 8) (N := some 21) (v := ?_) (a' := ?_) #[true, true, true, true, false, true, true, true, true, false, false, false, false, false] rfl rfl (take_ofW HT_.out HW_.out (by kernel_rfl)) (fun _ _ _ h => h) (Or.inl ⟨by rfl, ?_⟩) hHeld ?_ ?_
       rotate_left
       ·rintro w' ⟨s0, s1, s2, s3, s4, s5, s6, s7, s8, s9, s10, s11, s12, s13, s14, s15, s16, s17, s18, s19, s20, s21, s22, s23, s24, s25, s26, s27, s28, s29, s30, s31⟩
        go_simp
        with_reducible rfl
       rotate_left
       ·simp only [Act.put, List.setIfInBounds_toArray, List.set_cons_zero, List.set_cons_succ, i64_w, i32_w]
        rfl
       refine join_ (σ := Value × Value × Nat × Nat) 2 #[true, true, true, true, true, true, true, true, true, true, true, true, false, false] (fun s_ => [(17, .agg #[.int .i64 t453, .int .i64 t454, .int .i64 t455, .int .i64 t456, .int .i64 t457, .int .i64 t458, .int .i64 t459, s_.1, .int .i64 t463]), (22, .agg #[.int .i64 t465, .int .i64 t466, .int .i64 t467, .int .i64 t468, .int .i64 t469, .int .i64 t470, .int .i64 t471, s_.2.1, .int .i64 t475]), (4, .pointer (some ⟨s_.2.2.1, 0, none⟩)), (5, .pointer (some ⟨s_.2.2.2, 0, none⟩))]) (fun s_ w' => (w'.cell? (ad452.add ((x10_1).toNat * 16)) = some (.int .i64 ((rd_T51 l0 x10_1).f0)) ∧ w'.cell? ⟨(ad452.add ((x10_1).toNat * 16)).block, (ad452.add ((x10_1).toNat * 16)).off + 1, none⟩ = some (.int .i64 ((rd_T51 l0 x10_1).f1.f0)) ∧ w'.cell? ⟨(ad452.add ((x10_1).toNat * 16)).block, (ad452.add ((x10_1).toNat * 16)).off + 2, none⟩ = some (.int .i64 ((rd_T51 l0 x10_1).f1.f1)) ∧ w'.cell? ⟨(ad452.add ((x10_1).toNat * 16)).block, (ad452.add ((x10_1).toNat * 16)).off + 3, none⟩ = some (.int .i64 ((rd_T51 l0 x10_1).f1.f2.f0)) ∧ w'.cell? ⟨(ad452.add ((x10_1).toNat * 16)).block, (ad452.add ((x10_1).toNat * 16)).off + 4, none⟩ = some (.int .i64 ((rd_T51 l0 x10_1).f1.f2.f1)) ∧ w'.cell? ⟨(ad452.add ((x10_1).toNat * 16)).block, (ad452.add ((x10_1).toNat * 16)).off + 5, none⟩ = some (.int .i64 ((rd_T51 l0 x10_1).f1.f2.f2)) ∧ w'.cell? ⟨(ad452.add ((x10_1).toNat * 16)).block, (ad452.add ((x10_1).toNat * 16)).off + 6, none⟩ = some (.int .i64 ((rd_T51 l0 x10_1).f1.f2.f3)) ∧ w'.cell? ⟨(ad452.add ((x10_1).toNat * 16)).block, (ad452.add ((x10_1).toNat * 16)).off + 7, none⟩ = some (.int .i64 ((rd_T51 l0 x10_1).f1.f3.f0)) ∧ w'.cell? ⟨(ad452.add ((x10_1).toNat * 16)).block, (ad452.add ((x10_1).toNat * 16)).off + 8, none⟩ = some (.int .i64 ((rd_T51 l0 x10_1).f1.f3.f1)) ∧ w'.cell? ⟨(ad452.add ((x10_1).toNat * 16)).block, (ad452.add ((x10_1).toNat * 16)).off + 9, none⟩ = some (.int .i64 ((rd_T51 l0 x10_1).f1.f3.f2)) ∧ w'.cell? ⟨(ad452.add ((x10_1).toNat * 16)).block, (ad452.add ((x10_1).toNat * 16)).off + 10, none⟩ = some (.int .i64 ((rd_T51 l0 x10_1).f1.f3.f3)) ∧ w'.cell? ⟨(ad452.add ((x10_1).toNat * 16)).block, (ad452.add ((x10_1).toNat * 16)).off + 11, none⟩ = some (.int .i64 ((rd_T51 l0 x10_1).f2)) ∧ w'.cell? ⟨(ad452.add ((x10_1).toNat * 16)).block, (ad452.add ((x10_1).toNat * 16)).off + 12, none⟩ = some (.int .i64 ((rd_T51 l0 x10_1).f3.f0)) ∧ w'.cell? ⟨(ad452.add ((x10_1).toNat * 16)).block, (ad452.add ((x10_1).toNat * 16)).off + 13, none⟩ = some (.int .i64 ((rd_T51 l0 x10_1).f3.f1)) ∧ w'.cell? ⟨(ad452.add ((x10_1).toNat * 16)).block, (ad452.add ((x10_1).toNat * 16)).off + 14, none⟩ = some (.int .i64 ((rd_T51 l0 x10_1).f3.f2)) ∧ w'.cell? ⟨(ad452.add ((x10_1).toNat * 16)).block, (ad452.add ((x10_1).toNat * 16)).off + 15, none⟩ = some (.int .i64 ((rd_T51 l0 x10_1).f4)) ∧ w'.cell? (ad452.add ((x10_1).toNat * 16)) = some (.int .i64 ((rd_T51 l0 x10_1).f0)) ∧ w'.cell? ⟨(ad452.add ((x10_1).toNat * 16)).block, (ad452.add ((x10_1).toNat * 16)).off + 1, none⟩ = some (.int .i64 ((rd_T51 l0 x10_1).f1.f0)) ∧ w'.cell? ⟨(ad452.add ((x10_1).toNat * 16)).block, (ad452.add ((x10_1).toNat * 16)).off + 2, none⟩ = some (.int .i64 ((rd_T51 l0 x10_1).f1.f1)) ∧ w'.cell? ⟨(ad452.add ((x10_1).toNat * 16)).block, (ad452.add ((x10_1).toNat * 16)).off + 3, none⟩ = some (.int .i64 ((rd_T51 l0 x10_1).f1.f2.f0)) ∧ w'.cell? ⟨(ad452.add ((x10_1).toNat * 16)).block, (ad452.add ((x10_1).toNat * 16)).off + 4, none⟩ = some (.int .i64 ((rd_T51 l0 x10_1).f1.f2.f1)) ∧ w'.cell? ⟨(ad452.add ((x10_1).toNat * 16)).block, (ad452.add ((x10_1).toNat * 16)).off + 5, none⟩ = some (.int .i64 ((rd_T51 l0 x10_1).f1.f2.f2)) ∧ w'.cell? ⟨(ad452.add ((x10_1).toNat * 16)).block, (ad452.add ((x10_1).toNat * 16)).off + 6, none⟩ = some (.int .i64 ((rd_T51 l0 x10_1).f1.f2.f3)) ∧ w'.cell? ⟨(ad452.add ((x10_1).toNat * 16)).block, (ad452.add ((x10_1).toNat * 16)).off + 7, none⟩ = some (.int .i64 ((rd_T51 l0 x10_1).f1.f3.f0)) ∧ w'.cell? ⟨(ad452.add ((x10_1).toNat * 16)).block, (ad452.add ((x10_1).toNat * 16)).off + 8, none⟩ = some (.int .i64 ((rd_T51 l0 x10_1).f1.f3.f1)) ∧ w'.cell? ⟨(ad452.add ((x10_1).toNat * 16)).block, (ad452.add ((x10_1).toNat * 16)).off + 9, none⟩ = some (.int .i64 ((rd_T51 l0 x10_1).f1.f3.f2)) ∧ w'.cell? ⟨(ad452.add ((x10_1).toNat * 16)).block, (ad452.add ((x10_1).toNat * 16)).off + 10, none⟩ = some (.int .i64 ((rd_T51 l0 x10_1).f1.f3.f3)) ∧ w'.cell? ⟨(ad452.add ((x10_1).toNat * 16)).block, (ad452.add ((x10_1).toNat * 16)).off + 11, none⟩ = some (.int .i64 ((rd_T51 l0 x10_1).f2)) ∧ w'.cell? ⟨(ad452.add ((x10_1).toNat * 16)).block, (ad452.add ((x10_1).toNat * 16)).off + 12, none⟩ = some (.int .i64 ((rd_T51 l0 x10_1).f3.f0)) ∧ w'.cell? ⟨(ad452.add ((x10_1).toNat * 16)).block, (ad452.add ((x10_1).toNat * 16)).off + 13, none⟩ = some (.int .i64 ((rd_T51 l0 x10_1).f3.f1)) ∧ w'.cell? ⟨(ad452.add ((x10_1).toNat * 16)).block, (ad452.add ((x10_1).toNat * 16)).off + 14, none⟩ = some (.int .i64 ((rd_T51 l0 x10_1).f3.f2)) ∧ w'.cell? ⟨(ad452.add ((x10_1).toNat * 16)).block, (ad452.add ((x10_1).toNat * 16)).off + 15, none⟩ = some (.int .i64 ((rd_T51 l0 x10_1).f4))) ∧ (Kd.R (Kd.int .i64) 2 w' w.heap.size (fun k_ => some k_ ≠ (s_.2.1 : Value).ownBlock) s_.1 t460) ∧ (Kd.R (Kd.int .i64) 2 w' w.heap.size (fun k_ => some k_ ≠ (s_.1 : Value).ownBlock) s_.2.1 t472) ∧ (w'.heap[s_.2.2.1]? = some (.cells #[.int .i64 0, .int .i64 0, .int .i64 0, .int .i64 0, .int .i64 0, .int .i64 0, .int .i64 0, .slice none 0 0, .int .i64 0] 48 (0, 0))) ∧ (w'.heap[s_.2.2.2]? = some (.cells #[.int .i64 0, .int .i64 0, .int .i64 0, .int .i64 0, .int .i64 0, .int .i64 0, .int .i64 0, .slice none 0 0, .int .i64 0] 48 (0, 0))) ∧ (w.heap.size ≤ s_.2.2.1) ∧ (w.heap.size ≤ s_.2.2.1) ∧ (s_.2.2.2 ≠ s_.2.2.1) ∧ (s_.2.2.1 ≠ s_.2.2.2) ∧ (w.heap.size ≤ s_.2.2.2) ∧ (w.heap.size ≤ s_.2.2.2) ∧ (Below w.heap.size w w')) ?_ ?_
       rotate_left
       ·intro hJ4_9_10_11
        refine join_ (σ := Value × Value × Nat) 3 #[true, true, true, true, true, true, true, true, true, true, true, false, false, false] (fun s_ => [(17, .agg #[.int .i64 t453, .int .i64 t454, .int .i64 t455, .int .i64 t456, .int .i64 t457, .int .i64 t458, .int .i64 t459, s_.1, .int .i64 t463]), (22, .agg #[.int .i64 t465, .int .i64 t466, .int .i64 t467, .int .i64 t468, .int .i64 t469, .int .i64 t470, .int .i64 t471, s_.2.1, .int .i64 t475]), (4, .pointer (some ⟨s_.2.2, 0, none⟩))]) (fun s_ w' => (w'.cell? (ad452.add ((x10_1).toNat * 16)) = some (.int .i64 ((rd_T51 l0 x10_1).f0)) ∧ w'.cell? ⟨(ad452.add ((x10_1).toNat * 16)).block, (ad452.add ((x10_1).toNat * 16)).off + 1, none⟩ = some (.int .i64 ((rd_T51 l0 x10_1).f1.f0)) ∧ w'.cell? ⟨(ad452.add ((x10_1).toNat * 16)).block, (ad452.add ((x10_1).toNat * 16)).off + 2, none⟩ = some (.int .i64 ((rd_T51 l0 x10_1).f1.f1)) ∧ w'.cell? ⟨(ad452.add ((x10_1).toNat * 16)).block, (ad452.add ((x10_1).toNat * 16)).off + 3, none⟩ = some (.int .i64 ((rd_T51 l0 x10_1).f1.f2.f0)) ∧ w'.cell? ⟨(ad452.add ((x10_1).toNat * 16)).block, (ad452.add ((x10_1).toNat * 16)).off + 4, none⟩ = some (.int .i64 ((rd_T51 l0 x10_1).f1.f2.f1)) ∧ w'.cell? ⟨(ad452.add ((x10_1).toNat * 16)).block, (ad452.add ((x10_1).toNat * 16)).off + 5, none⟩ = some (.int .i64 ((rd_T51 l0 x10_1).f1.f2.f2)) ∧ w'.cell? ⟨(ad452.add ((x10_1).toNat * 16)).block, (ad452.add ((x10_1).toNat * 16)).off + 6, none⟩ = some (.int .i64 ((rd_T51 l0 x10_1).f1.f2.f3)) ∧ w'.cell? ⟨(ad452.add ((x10_1).toNat * 16)).block, (ad452.add ((x10_1).toNat * 16)).off + 7, none⟩ = some (.int .i64 ((rd_T51 l0 x10_1).f1.f3.f0)) ∧ w'.cell? ⟨(ad452.add ((x10_1).toNat * 16)).block, (ad452.add ((x10_1).toNat * 16)).off + 8, none⟩ = some (.int .i64 ((rd_T51 l0 x10_1).f1.f3.f1)) ∧ w'.cell? ⟨(ad452.add ((x10_1).toNat * 16)).block, (ad452.add ((x10_1).toNat * 16)).off + 9, none⟩ = some (.int .i64 ((rd_T51 l0 x10_1).f1.f3.f2)) ∧ w'.cell? ⟨(ad452.add ((x10_1).toNat * 16)).block, (ad452.add ((x10_1).toNat * 16)).off + 10, none⟩ = some (.int .i64 ((rd_T51 l0 x10_1).f1.f3.f3)) ∧ w'.cell? ⟨(ad452.add ((x10_1).toNat * 16)).block, (ad452.add ((x10_1).toNat * 16)).off + 11, none⟩ = some (.int .i64 ((rd_T51 l0 x10_1).f2)) ∧ w'.cell? ⟨(ad452.add ((x10_1).toNat * 16)).block, (ad452.add ((x10_1).toNat * 16)).off + 12, none⟩ = some (.int .i64 ((rd_T51 l0 x10_1).f3.f0)) ∧ w'.cell? ⟨(ad452.add ((x10_1).toNat * 16)).block, (ad452.add ((x10_1).toNat * 16)).off + 13, none⟩ = some (.int .i64 ((rd_T51 l0 x10_1).f3.f1)) ∧ w'.cell? ⟨(ad452.add ((x10_1).toNat * 16)).block, (ad452.add ((x10_1).toNat * 16)).off + 14, none⟩ = some (.int .i64 ((rd_T51 l0 x10_1).f3.f2)) ∧ w'.cell? ⟨(ad452.add ((x10_1).toNat * 16)).block, (ad452.add ((x10_1).toNat * 16)).off + 15, none⟩ = some (.int .i64 ((rd_T51 l0 x10_1).f4)) ∧ w'.cell? (ad452.add ((x10_1).toNat * 16)) = some (.int .i64 ((rd_T51 l0 x10_1).f0)) ∧ w'.cell? ⟨(ad452.add ((x10_1).toNat * 16)).block, (ad452.add ((x10_1).toNat * 16)).off + 1, none⟩ = some (.int .i64 ((rd_T51 l0 x10_1).f1.f0)) ∧ w'.cell? ⟨(ad452.add ((x10_1).toNat * 16)).block, (ad452.add ((x10_1).toNat * 16)).off + 2, none⟩ = some (.int .i64 ((rd_T51 l0 x10_1).f1.f1)) ∧ w'.cell? ⟨(ad452.add ((x10_1).toNat * 16)).block, (ad452.add ((x10_1).toNat * 16)).off + 3, none⟩ = some (.int .i64 ((rd_T51 l0 x10_1).f1.f2.f0)) ∧ w'.cell? ⟨(ad452.add ((x10_1).toNat * 16)).block, (ad452.add ((x10_1).toNat * 16)).off + 4, none⟩ = some (.int .i64 ((rd_T51 l0 x10_1).f1.f2.f1)) ∧ w'.cell? ⟨(ad452.add ((x10_1).toNat * 16)).block, (ad452.add ((x10_1).toNat * 16)).off + 5, none⟩ = some (.int .i64 ((rd_T51 l0 x10_1).f1.f2.f2)) ∧ w'.cell? ⟨(ad452.add ((x10_1).toNat * 16)).block, (ad452.add ((x10_1).toNat * 16)).off + 6, none⟩ = some (.int .i64 ((rd_T51 l0 x10_1).f1.f2.f3)) ∧ w'.cell? ⟨(ad452.add ((x10_1).toNat * 16)).block, (ad452.add ((x10_1).toNat * 16)).off + 7, none⟩ = some (.int .i64 ((rd_T51 l0 x10_1).f1.f3.f0)) ∧ w'.cell? ⟨(ad452.add ((x10_1).toNat * 16)).block, (ad452.add ((x10_1).toNat * 16)).off + 8, none⟩ = some (.int .i64 ((rd_T51 l0 x10_1).f1.f3.f1)) ∧ w'.cell? ⟨(ad452.add ((x10_1).toNat * 16)).block, (ad452.add ((x10_1).toNat * 16)).off + 9, none⟩ = some (.int .i64 ((rd_T51 l0 x10_1).f1.f3.f2)) ∧ w'.cell? ⟨(ad452.add ((x10_1).toNat * 16)).block, (ad452.add ((x10_1).toNat * 16)).off + 10, none⟩ = some (.int .i64 ((rd_T51 l0 x10_1).f1.f3.f3)) ∧ w'.cell? ⟨(ad452.add ((x10_1).toNat * 16)).block, (ad452.add ((x10_1).toNat * 16)).off + 11, none⟩ = some (.int .i64 ((rd_T51 l0 x10_1).f2)) ∧ w'.cell? ⟨(ad452.add ((x10_1).toNat * 16)).block, (ad452.add ((x10_1).toNat * 16)).off + 12, none⟩ = some (.int .i64 ((rd_T51 l0 x10_1).f3.f0)) ∧ w'.cell? ⟨(ad452.add ((x10_1).toNat * 16)).block, (ad452.add ((x10_1).toNat * 16)).off + 13, none⟩ = some (.int .i64 ((rd_T51 l0 x10_1).f3.f1)) ∧ w'.cell? ⟨(ad452.add ((x10_1).toNat * 16)).block, (ad452.add ((x10_1).toNat * 16)).off + 14, none⟩ = some (.int .i64 ((rd_T51 l0 x10_1).f3.f2)) ∧ w'.cell? ⟨(ad452.add ((x10_1).toNat * 16)).block, (ad452.add ((x10_1).toNat * 16)).off + 15, none⟩ = some (.int .i64 ((rd_T51 l0 x10_1).f4))) ∧ (Kd.R (Kd.int .i64) 2 w' w.heap.size (fun k_ => some k_ ≠ (s_.2.1 : Value).ownBlock) s_.1 t460) ∧ (Kd.R (Kd.int .i64) 2 w' w.heap.size (fun k_ => some k_ ≠ (s_.1 : Value).ownBlock) s_.2.1 t472) ∧ (w'.heap[s_.2.2]? = some (.cells #[.int .i64 0, .int .i64 0, .int .i64 0, .int .i64 0, .int .i64 0, .int .i64 0, .int .i64 0, .slice none 0 0, .int .i64 0] 48 (0, 0))) ∧ (w.heap.size ≤ s_.2.2) ∧ (w.heap.size ≤ s_.2.2) ∧ (Below w.heap.size w w')) ?_ ?_
        rotate_left
        ·intro hJ4_9_10
         refine join_ (σ := Value × Value × Nat) 3 #[true, true, true, true, true, true, true, true, true, true, false, true, false, false] (fun s_ => [(17, .agg #[.int .i64 t453, .int .i64 t454, .int .i64 t455, .int .i64 t456, .int .i64 t457, .int .i64 t458, .int .i64 t459, s_.1, .int .i64 t463]), (22, .agg #[.int .i64 t465, .int .i64 t466, .int .i64 t467, .int .i64 t468, .int .i64 t469, .int .i64 t470, .int .i64 t471, s_.2.1, .int .i64 t475]), (5, .pointer (some ⟨s_.2.2, 0, none⟩))]) (fun s_ w' => (w'.cell? (ad452.add ((x10_1).toNat * 16)) = some (.int .i64 ((rd_T51 l0 x10_1).f0)) ∧ w'.cell? ⟨(ad452.add ((x10_1).toNat * 16)).block, (ad452.add ((x10_1).toNat * 16)).off + 1, none⟩ = some (.int .i64 ((rd_T51 l0 x10_1).f1.f0)) ∧ w'.cell? ⟨(ad452.add ((x10_1).toNat * 16)).block, (ad452.add ((x10_1).toNat * 16)).off + 2, none⟩ = some (.int .i64 ((rd_T51 l0 x10_1).f1.f1)) ∧ w'.cell? ⟨(ad452.add ((x10_1).toNat * 16)).block, (ad452.add ((x10_1).toNat * 16)).off + 3, none⟩ = some (.int .i64 ((rd_T51 l0 x10_1).f1.f2.f0)) ∧ w'.cell? ⟨(ad452.add ((x10_1).toNat * 16)).block, (ad452.add ((x10_1).toNat * 16)).off + 4, none⟩ = some (.int .i64 ((rd_T51 l0 x10_1).f1.f2.f1)) ∧ w'.cell? ⟨(ad452.add ((x10_1).toNat * 16)).block, (ad452.add ((x10_1).toNat * 16)).off + 5, none⟩ = some (.int .i64 ((rd_T51 l0 x10_1).f1.f2.f2)) ∧ w'.cell? ⟨(ad452.add ((x10_1).toNat * 16)).block, (ad452.add ((x10_1).toNat * 16)).off + 6, none⟩ = some (.int .i64 ((rd_T51 l0 x10_1).f1.f2.f3)) ∧ w'.cell? ⟨(ad452.add ((x10_1).toNat * 16)).block, (ad452.add ((x10_1).toNat * 16)).off + 7, none⟩ = some (.int .i64 ((rd_T51 l0 x10_1).f1.f3.f0)) ∧ w'.cell? ⟨(ad452.add ((x10_1).toNat * 16)).block, (ad452.add ((x10_1).toNat * 16)).off + 8, none⟩ = some (.int .i64 ((rd_T51 l0 x10_1).f1.f3.f1)) ∧ w'.cell? ⟨(ad452.add ((x10_1).toNat * 16)).block, (ad452.add ((x10_1).toNat * 16)).off + 9, none⟩ = some (.int .i64 ((rd_T51 l0 x10_1).f1.f3.f2)) ∧ w'.cell? ⟨(ad452.add ((x10_1).toNat * 16)).block, (ad452.add ((x10_1).toNat * 16)).off + 10, none⟩ = some (.int .i64 ((rd_T51 l0 x10_1).f1.f3.f3)) ∧ w'.cell? ⟨(ad452.add ((x10_1).toNat * 16)).block, (ad452.add ((x10_1).toNat * 16)).off + 11, none⟩ = some (.int .i64 ((rd_T51 l0 x10_1).f2)) ∧ w'.cell? ⟨(ad452.add ((x10_1).toNat * 16)).block, (ad452.add ((x10_1).toNat * 16)).off + 12, none⟩ = some (.int .i64 ((rd_T51 l0 x10_1).f3.f0)) ∧ w'.cell? ⟨(ad452.add ((x10_1).toNat * 16)).block, (ad452.add ((x10_1).toNat * 16)).off + 13, none⟩ = some (.int .i64 ((rd_T51 l0 x10_1).f3.f1)) ∧ w'.cell? ⟨(ad452.add ((x10_1).toNat * 16)).block, (ad452.add ((x10_1).toNat * 16)).off + 14, none⟩ = some (.int .i64 ((rd_T51 l0 x10_1).f3.f2)) ∧ w'.cell? ⟨(ad452.add ((x10_1).toNat * 16)).block, (ad452.add ((x10_1).toNat * 16)).off + 15, none⟩ = some (.int .i64 ((rd_T51 l0 x10_1).f4)) ∧ w'.cell? (ad452.add ((x10_1).toNat * 16)) = some (.int .i64 ((rd_T51 l0 x10_1).f0)) ∧ w'.cell? ⟨(ad452.add ((x10_1).toNat * 16)).block, (ad452.add ((x10_1).toNat * 16)).off + 1, none⟩ = some (.int .i64 ((rd_T51 l0 x10_1).f1.f0)) ∧ w'.cell? ⟨(ad452.add ((x10_1).toNat * 16)).block, (ad452.add ((x10_1).toNat * 16)).off + 2, none⟩ = some (.int .i64 ((rd_T51 l0 x10_1).f1.f1)) ∧ w'.cell? ⟨(ad452.add ((x10_1).toNat * 16)).block, (ad452.add ((x10_1).toNat * 16)).off + 3, none⟩ = some (.int .i64 ((rd_T51 l0 x10_1).f1.f2.f0)) ∧ w'.cell? ⟨(ad452.add ((x10_1).toNat * 16)).block, (ad452.add ((x10_1).toNat * 16)).off + 4, none⟩ = some (.int .i64 ((rd_T51 l0 x10_1).f1.f2.f1)) ∧ w'.cell? ⟨(ad452.add ((x10_1).toNat * 16)).block, (ad452.add ((x10_1).toNat * 16)).off + 5, none⟩ = some (.int .i64 ((rd_T51 l0 x10_1).f1.f2.f2)) ∧ w'.cell? ⟨(ad452.add ((x10_1).toNat * 16)).block, (ad452.add ((x10_1).toNat * 16)).off + 6, none⟩ = some (.int .i64 ((rd_T51 l0 x10_1).f1.f2.f3)) ∧ w'.cell? ⟨(ad452.add ((x10_1).toNat * 16)).block, (ad452.add ((x10_1).toNat * 16)).off + 7, none⟩ = some (.int .i64 ((rd_T51 l0 x10_1).f1.f3.f0)) ∧ w'.cell? ⟨(ad452.add ((x10_1).toNat * 16)).block, (ad452.add ((x10_1).toNat * 16)).off + 8, none⟩ = some (.int .i64 ((rd_T51 l0 x10_1).f1.f3.f1)) ∧ w'.cell? ⟨(ad452.add ((x10_1).toNat * 16)).block, (ad452.add ((x10_1).toNat * 16)).off + 9, none⟩ = some (.int .i64 ((rd_T51 l0 x10_1).f1.f3.f2)) ∧ w'.cell? ⟨(ad452.add ((x10_1).toNat * 16)).block, (ad452.add ((x10_1).toNat * 16)).off + 10, none⟩ = some (.int .i64 ((rd_T51 l0 x10_1).f1.f3.f3)) ∧ w'.cell? ⟨(ad452.add ((x10_1).toNat * 16)).block, (ad452.add ((x10_1).toNat * 16)).off + 11, none⟩ = some (.int .i64 ((rd_T51 l0 x10_1).f2)) ∧ w'.cell? ⟨(ad452.add ((x10_1).toNat * 16)).block, (ad452.add ((x10_1).toNat * 16)).off + 12, none⟩ = some (.int .i64 ((rd_T51 l0 x10_1).f3.f0)) ∧ w'.cell? ⟨(ad452.add ((x10_1).toNat * 16)).block, (ad452.add ((x10_1).toNat * 16)).off + 13, none⟩ = some (.int .i64 ((rd_T51 l0 x10_1).f3.f1)) ∧ w'.cell? ⟨(ad452.add ((x10_1).toNat * 16)).block, (ad452.add ((x10_1).toNat * 16)).off + 14, none⟩ = some (.int .i64 ((rd_T51 l0 x10_1).f3.f2)) ∧ w'.cell? ⟨(ad452.add ((x10_1).toNat * 16)).block, (ad452.add ((x10_1).toNat * 16)).off + 15, none⟩ = some (.int .i64 ((rd_T51 l0 x10_1).f4))) ∧ (Kd.R (Kd.int .i64) 2 w' w.heap.size (fun k_ => some k_ ≠ (s_.2.1 : Value).ownBlock) s_.1 t460) ∧ (Kd.R (Kd.int .i64) 2 w' w.heap.size (fun k_ => some k_ ≠ (s_.1 : Value).ownBlock) s_.2.1 t472) ∧ (w'.heap[s_.2.2]? = some (.cells #[.int .i64 0, .int .i64 0, .int .i64 0, .int .i64 0, .int .i64 0, .int .i64 0, .int .i64 0, .slice none 0 0, .int .i64 0] 48 (0, 0))) ∧ (w.heap.size ≤ s_.2.2) ∧ (w.heap.size ≤ s_.2.2) ∧ (Below w.heap.size w w')) ?_ ?_
         rotate_left
         ·intro hJ4_9_11
          refine join_ (σ := Value × Nat × Nat) 3 #[true, true, true, true, true, true, true, true, true, false, true, true, false, false] (fun s_ => [(17, .agg #[.int .i64 t453, .int .i64 t454, .int .i64 t455, .int .i64 t456, .int .i64 t457, .int .i64 t458, .int .i64 t459, s_.1, .int .i64 t463]), (4, .pointer (some ⟨s_.2.1, 0, none⟩)), (5, .pointer (some ⟨s_.2.2, 0, none⟩))]) (fun s_ w' => (w'.cell? (ad452.add ((x10_1).toNat * 16)) = some (.int .i64 ((rd_T51 l0 x10_1).f0)) ∧ w'.cell? ⟨(ad452.add ((x10_1).toNat * 16)).block, (ad452.add ((x10_1).toNat * 16)).off + 1, none⟩ = some (.int .i64 ((rd_T51 l0 x10_1).f1.f0)) ∧ w'.cell? ⟨(ad452.add ((x10_1).toNat * 16)).block, (ad452.add ((x10_1).toNat * 16)).off + 2, none⟩ = some (.int .i64 ((rd_T51 l0 x10_1).f1.f1)) ∧ w'.cell? ⟨(ad452.add ((x10_1).toNat * 16)).block, (ad452.add ((x10_1).toNat * 16)).off + 3, none⟩ = some (.int .i64 ((rd_T51 l0 x10_1).f1.f2.f0)) ∧ w'.cell? ⟨(ad452.add ((x10_1).toNat * 16)).block, (ad452.add ((x10_1).toNat * 16)).off + 4, none⟩ = some (.int .i64 ((rd_T51 l0 x10_1).f1.f2.f1)) ∧ w'.cell? ⟨(ad452.add ((x10_1).toNat * 16)).block, (ad452.add ((x10_1).toNat * 16)).off + 5, none⟩ = some (.int .i64 ((rd_T51 l0 x10_1).f1.f2.f2)) ∧ w'.cell? ⟨(ad452.add ((x10_1).toNat * 16)).block, (ad452.add ((x10_1).toNat * 16)).off + 6, none⟩ = some (.int .i64 ((rd_T51 l0 x10_1).f1.f2.f3)) ∧ w'.cell? ⟨(ad452.add ((x10_1).toNat * 16)).block, (ad452.add ((x10_1).toNat * 16)).off + 7, none⟩ = some (.int .i64 ((rd_T51 l0 x10_1).f1.f3.f0)) ∧ w'.cell? ⟨(ad452.add ((x10_1).toNat * 16)).block, (ad452.add ((x10_1).toNat * 16)).off + 8, none⟩ = some (.int .i64 ((rd_T51 l0 x10_1).f1.f3.f1)) ∧ w'.cell? ⟨(ad452.add ((x10_1).toNat * 16)).block, (ad452.add ((x10_1).toNat * 16)).off + 9, none⟩ = some (.int .i64 ((rd_T51 l0 x10_1).f1.f3.f2)) ∧ w'.cell? ⟨(ad452.add ((x10_1).toNat * 16)).block, (ad452.add ((x10_1).toNat * 16)).off + 10, none⟩ = some (.int .i64 ((rd_T51 l0 x10_1).f1.f3.f3)) ∧ w'.cell? ⟨(ad452.add ((x10_1).toNat * 16)).block, (ad452.add ((x10_1).toNat * 16)).off + 11, none⟩ = some (.int .i64 ((rd_T51 l0 x10_1).f2)) ∧ w'.cell? ⟨(ad452.add ((x10_1).toNat * 16)).block, (ad452.add ((x10_1).toNat * 16)).off + 12, none⟩ = some (.int .i64 ((rd_T51 l0 x10_1).f3.f0)) ∧ w'.cell? ⟨(ad452.add ((x10_1).toNat * 16)).block, (ad452.add ((x10_1).toNat * 16)).off + 13, none⟩ = some (.int .i64 ((rd_T51 l0 x10_1).f3.f1)) ∧ w'.cell? ⟨(ad452.add ((x10_1).toNat * 16)).block, (ad452.add ((x10_1).toNat * 16)).off + 14, none⟩ = some (.int .i64 ((rd_T51 l0 x10_1).f3.f2)) ∧ w'.cell? ⟨(ad452.add ((x10_1).toNat * 16)).block, (ad452.add ((x10_1).toNat * 16)).off + 15, none⟩ = some (.int .i64 ((rd_T51 l0 x10_1).f4)) ∧ w'.cell? (ad452.add ((x10_1).toNat * 16)) = some (.int .i64 ((rd_T51 l0 x10_1).f0)) ∧ w'.cell? ⟨(ad452.add ((x10_1).toNat * 16)).block, (ad452.add ((x10_1).toNat * 16)).off + 1, none⟩ = some (.int .i64 ((rd_T51 l0 x10_1).f1.f0)) ∧ w'.cell? ⟨(ad452.add ((x10_1).toNat * 16)).block, (ad452.add ((x10_1).toNat * 16)).off + 2, none⟩ = some (.int .i64 ((rd_T51 l0 x10_1).f1.f1)) ∧ w'.cell? ⟨(ad452.add ((x10_1).toNat * 16)).block, (ad452.add ((x10_1).toNat * 16)).off + 3, none⟩ = some (.int .i64 ((rd_T51 l0 x10_1).f1.f2.f0)) ∧ w'.cell? ⟨(ad452.add ((x10_1).toNat * 16)).block, (ad452.add ((x10_1).toNat * 16)).off + 4, none⟩ = some (.int .i64 ((rd_T51 l0 x10_1).f1.f2.f1)) ∧ w'.cell? ⟨(ad452.add ((x10_1).toNat * 16)).block, (ad452.add ((x10_1).toNat * 16)).off + 5, none⟩ = some (.int .i64 ((rd_T51 l0 x10_1).f1.f2.f2)) ∧ w'.cell? ⟨(ad452.add ((x10_1).toNat * 16)).block, (ad452.add ((x10_1).toNat * 16)).off + 6, none⟩ = some (.int .i64 ((rd_T51 l0 x10_1).f1.f2.f3)) ∧ w'.cell? ⟨(ad452.add ((x10_1).toNat * 16)).block, (ad452.add ((x10_1).toNat * 16)).off + 7, none⟩ = some (.int .i64 ((rd_T51 l0 x10_1).f1.f3.f0)) ∧ w'.cell? ⟨(ad452.add ((x10_1).toNat * 16)).block, (ad452.add ((x10_1).toNat * 16)).off + 8, none⟩ = some (.int .i64 ((rd_T51 l0 x10_1).f1.f3.f1)) ∧ w'.cell? ⟨(ad452.add ((x10_1).toNat * 16)).block, (ad452.add ((x10_1).toNat * 16)).off + 9, none⟩ = some (.int .i64 ((rd_T51 l0 x10_1).f1.f3.f2)) ∧ w'.cell? ⟨(ad452.add ((x10_1).toNat * 16)).block, (ad452.add ((x10_1).toNat * 16)).off + 10, none⟩ = some (.int .i64 ((rd_T51 l0 x10_1).f1.f3.f3)) ∧ w'.cell? ⟨(ad452.add ((x10_1).toNat * 16)).block, (ad452.add ((x10_1).toNat * 16)).off + 11, none⟩ = some (.int .i64 ((rd_T51 l0 x10_1).f2)) ∧ w'.cell? ⟨(ad452.add ((x10_1).toNat * 16)).block, (ad452.add ((x10_1).toNat * 16)).off + 12, none⟩ = some (.int .i64 ((rd_T51 l0 x10_1).f3.f0)) ∧ w'.cell? ⟨(ad452.add ((x10_1).toNat * 16)).block, (ad452.add ((x10_1).toNat * 16)).off + 13, none⟩ = some (.int .i64 ((rd_T51 l0 x10_1).f3.f1)) ∧ w'.cell? ⟨(ad452.add ((x10_1).toNat * 16)).block, (ad452.add ((x10_1).toNat * 16)).off + 14, none⟩ = some (.int .i64 ((rd_T51 l0 x10_1).f3.f2)) ∧ w'.cell? ⟨(ad452.add ((x10_1).toNat * 16)).block, (ad452.add ((x10_1).toNat * 16)).off + 15, none⟩ = some (.int .i64 ((rd_T51 l0 x10_1).f4))) ∧ (Kd.R (Kd.int .i64) 2 w' w.heap.size (fun _ => True) s_.1 t460) ∧ (w'.heap[s_.2.1]? = some (.cells #[.int .i64 0, .int .i64 0, .int .i64 0, .int .i64 0, .int .i64 0, .int .i64 0, .int .i64 0, .slice none 0 0, .int .i64 0] 48 (0, 0))) ∧ (w'.heap[s_.2.2]? = some (.cells #[.int .i64 0, .int .i64 0, .int .i64 0, .int .i64 0, .int .i64 0, .int .i64 0, .int .i64 0, .slice none 0 0, .int .i64 0] 48 (0, 0))) ∧ (w.heap.size ≤ s_.2.1) ∧ (w.heap.size ≤ s_.2.1) ∧ (s_.2.2 ≠ s_.2.1) ∧ (s_.2.1 ≠ s_.2.2) ∧ (w.heap.size ≤ s_.2.2) ∧ (w.heap.size ≤ s_.2.2) ∧ (Below w.heap.size w w')) ?_ ?_
          rotate_left
          ·intro hJ4_10_11
           refine join_ (σ := Value × Value) 4 #[true, true, true, true, true, true, true, true, true, true, false, false, false, false] (fun s_ => [(17, .agg #[.int .i64 t453, .int .i64 t454, .int .i64 t455, .int .i64 t456, .int .i64 t457, .int .i64 t458, .int .i64 t459, s_.1, .int .i64 t463]), (22, .agg #[.int .i64 t465, .int .i64 t466, .int .i64 t467, .int .i64 t468, .int .i64 t469, .int .i64 t470, .int .i64 t471, s_.2, .int .i64 t475])]) (fun s_ w' => (w'.cell? (ad452.add ((x10_1).toNat * 16)) = some (.int .i64 ((rd_T51 l0 x10_1).f0)) ∧ w'.cell? ⟨(ad452.add ((x10_1).toNat * 16)).block, (ad452.add ((x10_1).toNat * 16)).off + 1, none⟩ = some (.int .i64 ((rd_T51 l0 x10_1).f1.f0)) ∧ w'.cell? ⟨(ad452.add ((x10_1).toNat * 16)).block, (ad452.add ((x10_1).toNat * 16)).off + 2, none⟩ = some (.int .i64 ((rd_T51 l0 x10_1).f1.f1)) ∧ w'.cell? ⟨(ad452.add ((x10_1).toNat * 16)).block, (ad452.add ((x10_1).toNat * 16)).off + 3, none⟩ = some (.int .i64 ((rd_T51 l0 x10_1).f1.f2.f0)) ∧ w'.cell? ⟨(ad452.add ((x10_1).toNat * 16)).block, (ad452.add ((x10_1).toNat * 16)).off + 4, none⟩ = some (.int .i64 ((rd_T51 l0 x10_1).f1.f2.f1)) ∧ w'.cell? ⟨(ad452.add ((x10_1).toNat * 16)).block, (ad452.add ((x10_1).toNat * 16)).off + 5, none⟩ = some (.int .i64 ((rd_T51 l0 x10_1).f1.f2.f2)) ∧ w'.cell? ⟨(ad452.add ((x10_1).toNat * 16)).block, (ad452.add ((x10_1).toNat * 16)).off + 6, none⟩ = some (.int .i64 ((rd_T51 l0 x10_1).f1.f2.f3)) ∧ w'.cell? ⟨(ad452.add ((x10_1).toNat * 16)).block, (ad452.add ((x10_1).toNat * 16)).off + 7, none⟩ = some (.int .i64 ((rd_T51 l0 x10_1).f1.f3.f0)) ∧ w'.cell? ⟨(ad452.add ((x10_1).toNat * 16)).block, (ad452.add ((x10_1).toNat * 16)).off + 8, none⟩ = some (.int .i64 ((rd_T51 l0 x10_1).f1.f3.f1)) ∧ w'.cell? ⟨(ad452.add ((x10_1).toNat * 16)).block, (ad452.add ((x10_1).toNat * 16)).off + 9, none⟩ = some (.int .i64 ((rd_T51 l0 x10_1).f1.f3.f2)) ∧ w'.cell? ⟨(ad452.add ((x10_1).toNat * 16)).block, (ad452.add ((x10_1).toNat * 16)).off + 10, none⟩ = some (.int .i64 ((rd_T51 l0 x10_1).f1.f3.f3)) ∧ w'.cell? ⟨(ad452.add ((x10_1).toNat * 16)).block, (ad452.add ((x10_1).toNat * 16)).off + 11, none⟩ = some (.int .i64 ((rd_T51 l0 x10_1).f2)) ∧ w'.cell? ⟨(ad452.add ((x10_1).toNat * 16)).block, (ad452.add ((x10_1).toNat * 16)).off + 12, none⟩ = some (.int .i64 ((rd_T51 l0 x10_1).f3.f0)) ∧ w'.cell? ⟨(ad452.add ((x10_1).toNat * 16)).block, (ad452.add ((x10_1).toNat * 16)).off + 13, none⟩ = some (.int .i64 ((rd_T51 l0 x10_1).f3.f1)) ∧ w'.cell? ⟨(ad452.add ((x10_1).toNat * 16)).block, (ad452.add ((x10_1).toNat * 16)).off + 14, none⟩ = some (.int .i64 ((rd_T51 l0 x10_1).f3.f2)) ∧ w'.cell? ⟨(ad452.add ((x10_1).toNat * 16)).block, (ad452.add ((x10_1).toNat * 16)).off + 15, none⟩ = some (.int .i64 ((rd_T51 l0 x10_1).f4)) ∧ w'.cell? (ad452.add ((x10_1).toNat * 16)) = some (.int .i64 ((rd_T51 l0 x10_1).f0)) ∧ w'.cell? ⟨(ad452.add ((x10_1).toNat * 16)).block, (ad452.add ((x10_1).toNat * 16)).off + 1, none⟩ = some (.int .i64 ((rd_T51 l0 x10_1).f1.f0)) ∧ w'.cell? ⟨(ad452.add ((x10_1).toNat * 16)).block, (ad452.add ((x10_1).toNat * 16)).off + 2, none⟩ = some (.int .i64 ((rd_T51 l0 x10_1).f1.f1)) ∧ w'.cell? ⟨(ad452.add ((x10_1).toNat * 16)).block, (ad452.add ((x10_1).toNat * 16)).off + 3, none⟩ = some (.int .i64 ((rd_T51 l0 x10_1).f1.f2.f0)) ∧ w'.cell? ⟨(ad452.add ((x10_1).toNat * 16)).block, (ad452.add ((x10_1).toNat * 16)).off + 4, none⟩ = some (.int .i64 ((rd_T51 l0 x10_1).f1.f2.f1)) ∧ w'.cell? ⟨(ad452.add ((x10_1).toNat * 16)).block, (ad452.add ((x10_1).toNat * 16)).off + 5, none⟩ = some (.int .i64 ((rd_T51 l0 x10_1).f1.f2.f2)) ∧ w'.cell? ⟨(ad452.add ((x10_1).toNat * 16)).block, (ad452.add ((x10_1).toNat * 16)).off + 6, none⟩ = some (.int .i64 ((rd_T51 l0 x10_1).f1.f2.f3)) ∧ w'.cell? ⟨(ad452.add ((x10_1).toNat * 16)).block, (ad452.add ((x10_1).toNat * 16)).off + 7, none⟩ = some (.int .i64 ((rd_T51 l0 x10_1).f1.f3.f0)) ∧ w'.cell? ⟨(ad452.add ((x10_1).toNat * 16)).block, (ad452.add ((x10_1).toNat * 16)).off + 8, none⟩ = some (.int .i64 ((rd_T51 l0 x10_1).f1.f3.f1)) ∧ w'.cell? ⟨(ad452.add ((x10_1).toNat * 16)).block, (ad452.add ((x10_1).toNat * 16)).off + 9, none⟩ = some (.int .i64 ((rd_T51 l0 x10_1).f1.f3.f2)) ∧ w'.cell? ⟨(ad452.add ((x10_1).toNat * 16)).block, (ad452.add ((x10_1).toNat * 16)).off + 10, none⟩ = some (.int .i64 ((rd_T51 l0 x10_1).f1.f3.f3)) ∧ w'.cell? ⟨(ad452.add ((x10_1).toNat * 16)).block, (ad452.add ((x10_1).toNat * 16)).off + 11, none⟩ = some (.int .i64 ((rd_T51 l0 x10_1).f2)) ∧ w'.cell? ⟨(ad452.add ((x10_1).toNat * 16)).block, (ad452.add ((x10_1).toNat * 16)).off + 12, none⟩ = some (.int .i64 ((rd_T51 l0 x10_1).f3.f0)) ∧ w'.cell? ⟨(ad452.add ((x10_1).toNat * 16)).block, (ad452.add ((x10_1).toNat * 16)).off + 13, none⟩ = some (.int .i64 ((rd_T51 l0 x10_1).f3.f1)) ∧ w'.cell? ⟨(ad452.add ((x10_1).toNat * 16)).block, (ad452.add ((x10_1).toNat * 16)).off + 14, none⟩ = some (.int .i64 ((rd_T51 l0 x10_1).f3.f2)) ∧ w'.cell? ⟨(ad452.add ((x10_1).toNat * 16)).block, (ad452.add ((x10_1).toNat * 16)).off + 15, none⟩ = some (.int .i64 ((rd_T51 l0 x10_1).f4))) ∧ (Kd.R (Kd.int .i64) 2 w' w.heap.size (fun k_ => some k_ ≠ (s_.2 : Value).ownBlock) s_.1 t460) ∧ (Kd.R (Kd.int .i64) 2 w' w.heap.size (fun k_ => some k_ ≠ (s_.1 : Value).ownBlock) s_.2 t472) ∧ (Below w.heap.size w w')) ?_ ?_
           rotate_left
           ·intro hJ4_9
            refine join_ (σ := Value × Nat) 4 #[true, true, true, true, true, true, true, true, true, false, true, false, false, false] (fun s_ => [(17, .agg #[.int .i64 t453, .int .i64 t454, .int .i64 t455, .int .i64 t456, .int .i64 t457, .int .i64 t458, .int .i64 t459, s_.1, .int .i64 t463]), (4, .pointer (some ⟨s_.2, 0, none⟩))]) (fun s_ w' => (w'.cell? (ad452.add ((x10_1).toNat * 16)) = some (.int .i64 ((rd_T51 l0 x10_1).f0)) ∧ w'.cell? ⟨(ad452.add ((x10_1).toNat * 16)).block, (ad452.add ((x10_1).toNat * 16)).off + 1, none⟩ = some (.int .i64 ((rd_T51 l0 x10_1).f1.f0)) ∧ w'.cell? ⟨(ad452.add ((x10_1).toNat * 16)).block, (ad452.add ((x10_1).toNat * 16)).off + 2, none⟩ = some (.int .i64 ((rd_T51 l0 x10_1).f1.f1)) ∧ w'.cell? ⟨(ad452.add ((x10_1).toNat * 16)).block, (ad452.add ((x10_1).toNat * 16)).off + 3, none⟩ = some (.int .i64 ((rd_T51 l0 x10_1).f1.f2.f0)) ∧ w'.cell? ⟨(ad452.add ((x10_1).toNat * 16)).block, (ad452.add ((x10_1).toNat * 16)).off + 4, none⟩ = some (.int .i64 ((rd_T51 l0 x10_1).f1.f2.f1)) ∧ w'.cell? ⟨(ad452.add ((x10_1).toNat * 16)).block, (ad452.add ((x10_1).toNat * 16)).off + 5, none⟩ = some (.int .i64 ((rd_T51 l0 x10_1).f1.f2.f2)) ∧ w'.cell? ⟨(ad452.add ((x10_1).toNat * 16)).block, (ad452.add ((x10_1).toNat * 16)).off + 6, none⟩ = some (.int .i64 ((rd_T51 l0 x10_1).f1.f2.f3)) ∧ w'.cell? ⟨(ad452.add ((x10_1).toNat * 16)).block, (ad452.add ((x10_1).toNat * 16)).off + 7, none⟩ = some (.int .i64 ((rd_T51 l0 x10_1).f1.f3.f0)) ∧ w'.cell? ⟨(ad452.add ((x10_1).toNat * 16)).block, (ad452.add ((x10_1).toNat * 16)).off + 8, none⟩ = some (.int .i64 ((rd_T51 l0 x10_1).f1.f3.f1)) ∧ w'.cell? ⟨(ad452.add ((x10_1).toNat * 16)).block, (ad452.add ((x10_1).toNat * 16)).off + 9, none⟩ = some (.int .i64 ((rd_T51 l0 x10_1).f1.f3.f2)) ∧ w'.cell? ⟨(ad452.add ((x10_1).toNat * 16)).block, (ad452.add ((x10_1).toNat * 16)).off + 10, none⟩ = some (.int .i64 ((rd_T51 l0 x10_1).f1.f3.f3)) ∧ w'.cell? ⟨(ad452.add ((x10_1).toNat * 16)).block, (ad452.add ((x10_1).toNat * 16)).off + 11, none⟩ = some (.int .i64 ((rd_T51 l0 x10_1).f2)) ∧ w'.cell? ⟨(ad452.add ((x10_1).toNat * 16)).block, (ad452.add ((x10_1).toNat * 16)).off + 12, none⟩ = some (.int .i64 ((rd_T51 l0 x10_1).f3.f0)) ∧ w'.cell? ⟨(ad452.add ((x10_1).toNat * 16)).block, (ad452.add ((x10_1).toNat * 16)).off + 13, none⟩ = some (.int .i64 ((rd_T51 l0 x10_1).f3.f1)) ∧ w'.cell? ⟨(ad452.add ((x10_1).toNat * 16)).block, (ad452.add ((x10_1).toNat * 16)).off + 14, none⟩ = some (.int .i64 ((rd_T51 l0 x10_1).f3.f2)) ∧ w'.cell? ⟨(ad452.add ((x10_1).toNat * 16)).block, (ad452.add ((x10_1).toNat * 16)).off + 15, none⟩ = some (.int .i64 ((rd_T51 l0 x10_1).f4)) ∧ w'.cell? (ad452.add ((x10_1).toNat * 16)) = some (.int .i64 ((rd_T51 l0 x10_1).f0)) ∧ w'.cell? ⟨(ad452.add ((x10_1).toNat * 16)).block, (ad452.add ((x10_1).toNat * 16)).off + 1, none⟩ = some (.int .i64 ((rd_T51 l0 x10_1).f1.f0)) ∧ w'.cell? ⟨(ad452.add ((x10_1).toNat * 16)).block, (ad452.add ((x10_1).toNat * 16)).off + 2, none⟩ = some (.int .i64 ((rd_T51 l0 x10_1).f1.f1)) ∧ w'.cell? ⟨(ad452.add ((x10_1).toNat * 16)).block, (ad452.add ((x10_1).toNat * 16)).off + 3, none⟩ = some (.int .i64 ((rd_T51 l0 x10_1).f1.f2.f0)) ∧ w'.cell? ⟨(ad452.add ((x10_1).toNat * 16)).block, (ad452.add ((x10_1).toNat * 16)).off + 4, none⟩ = some (.int .i64 ((rd_T51 l0 x10_1).f1.f2.f1)) ∧ w'.cell? ⟨(ad452.add ((x10_1).toNat * 16)).block, (ad452.add ((x10_1).toNat * 16)).off + 5, none⟩ = some (.int .i64 ((rd_T51 l0 x10_1).f1.f2.f2)) ∧ w'.cell? ⟨(ad452.add ((x10_1).toNat * 16)).block, (ad452.add ((x10_1).toNat * 16)).off + 6, none⟩ = some (.int .i64 ((rd_T51 l0 x10_1).f1.f2.f3)) ∧ w'.cell? ⟨(ad452.add ((x10_1).toNat * 16)).block, (ad452.add ((x10_1).toNat * 16)).off + 7, none⟩ = some (.int .i64 ((rd_T51 l0 x10_1).f1.f3.f0)) ∧ w'.cell? ⟨(ad452.add ((x10_1).toNat * 16)).block, (ad452.add ((x10_1).toNat * 16)).off + 8, none⟩ = some (.int .i64 ((rd_T51 l0 x10_1).f1.f3.f1)) ∧ w'.cell? ⟨(ad452.add ((x10_1).toNat * 16)).block, (ad452.add ((x10_1).toNat * 16)).off + 9, none⟩ = some (.int .i64 ((rd_T51 l0 x10_1).f1.f3.f2)) ∧ w'.cell? ⟨(ad452.add ((x10_1).toNat * 16)).block, (ad452.add ((x10_1).toNat * 16)).off + 10, none⟩ = some (.int .i64 ((rd_T51 l0 x10_1).f1.f3.f3)) ∧ w'.cell? ⟨(ad452.add ((x10_1).toNat * 16)).block, (ad452.add ((x10_1).toNat * 16)).off + 11, none⟩ = some (.int .i64 ((rd_T51 l0 x10_1).f2)) ∧ w'.cell? ⟨(ad452.add ((x10_1).toNat * 16)).block, (ad452.add ((x10_1).toNat * 16)).off + 12, none⟩ = some (.int .i64 ((rd_T51 l0 x10_1).f3.f0)) ∧ w'.cell? ⟨(ad452.add ((x10_1).toNat * 16)).block, (ad452.add ((x10_1).toNat * 16)).off + 13, none⟩ = some (.int .i64 ((rd_T51 l0 x10_1).f3.f1)) ∧ w'.cell? ⟨(ad452.add ((x10_1).toNat * 16)).block, (ad452.add ((x10_1).toNat * 16)).off + 14, none⟩ = some (.int .i64 ((rd_T51 l0 x10_1).f3.f2)) ∧ w'.cell? ⟨(ad452.add ((x10_1).toNat * 16)).block, (ad452.add ((x10_1).toNat * 16)).off + 15, none⟩ = some (.int .i64 ((rd_T51 l0 x10_1).f4))) ∧ (Kd.R (Kd.int .i64) 2 w' w.heap.size (fun _ => True) s_.1 t460) ∧ (w'.heap[s_.2]? = some (.cells #[.int .i64 0, .int .i64 0, .int .i64 0, .int .i64 0, .int .i64 0, .int .i64 0, .int .i64 0, .slice none 0 0, .int .i64 0] 48 (0, 0))) ∧ (w.heap.size ≤ s_.2) ∧ (w.heap.size ≤ s_.2) ∧ (Below w.heap.size w w')) ?_ ?_
            rotate_left
            ·intro hJ4_10
             refine join_ (σ := Value × Nat) 4 #[true, true, true, true, true, true, true, true, true, false, false, true, false, false] (fun s_ => [(17, .agg #[.int .i64 t453, .int .i64 t454, .int .i64 t455, .int .i64 t456, .int .i64 t457, .int .i64 t458, .int .i64 t459, s_.1, .int .i64 t463]), (5, .pointer (some ⟨s_.2, 0, none⟩))]) (fun s_ w' => (w'.cell? (ad452.add ((x10_1).toNat * 16)) = some (.int .i64 ((rd_T51 l0 x10_1).f0)) ∧ w'.cell? ⟨(ad452.add ((x10_1).toNat * 16)).block, (ad452.add ((x10_1).toNat * 16)).off + 1, none⟩ = some (.int .i64 ((rd_T51 l0 x10_1).f1.f0)) ∧ w'.cell? ⟨(ad452.add ((x10_1).toNat * 16)).block, (ad452.add ((x10_1).toNat * 16)).off + 2, none⟩ = some (.int .i64 ((rd_T51 l0 x10_1).f1.f1)) ∧ w'.cell? ⟨(ad452.add ((x10_1).toNat * 16)).block, (ad452.add ((x10_1).toNat * 16)).off + 3, none⟩ = some (.int .i64 ((rd_T51 l0 x10_1).f1.f2.f0)) ∧ w'.cell? ⟨(ad452.add ((x10_1).toNat * 16)).block, (ad452.add ((x10_1).toNat * 16)).off + 4, none⟩ = some (.int .i64 ((rd_T51 l0 x10_1).f1.f2.f1)) ∧ w'.cell? ⟨(ad452.add ((x10_1).toNat * 16)).block, (ad452.add ((x10_1).toNat * 16)).off + 5, none⟩ = some (.int .i64 ((rd_T51 l0 x10_1).f1.f2.f2)) ∧ w'.cell? ⟨(ad452.add ((x10_1).toNat * 16)).block, (ad452.add ((x10_1).toNat * 16)).off + 6, none⟩ = some (.int .i64 ((rd_T51 l0 x10_1).f1.f2.f3)) ∧ w'.cell? ⟨(ad452.add ((x10_1).toNat * 16)).block, (ad452.add ((x10_1).toNat * 16)).off + 7, none⟩ = some (.int .i64 ((rd_T51 l0 x10_1).f1.f3.f0)) ∧ w'.cell? ⟨(ad452.add ((x10_1).toNat * 16)).block, (ad452.add ((x10_1).toNat * 16)).off + 8, none⟩ = some (.int .i64 ((rd_T51 l0 x10_1).f1.f3.f1)) ∧ w'.cell? ⟨(ad452.add ((x10_1).toNat * 16)).block, (ad452.add ((x10_1).toNat * 16)).off + 9, none⟩ = some (.int .i64 ((rd_T51 l0 x10_1).f1.f3.f2)) ∧ w'.cell? ⟨(ad452.add ((x10_1).toNat * 16)).block, (ad452.add ((x10_1).toNat * 16)).off + 10, none⟩ = some (.int .i64 ((rd_T51 l0 x10_1).f1.f3.f3)) ∧ w'.cell? ⟨(ad452.add ((x10_1).toNat * 16)).block, (ad452.add ((x10_1).toNat * 16)).off + 11, none⟩ = some (.int .i64 ((rd_T51 l0 x10_1).f2)) ∧ w'.cell? ⟨(ad452.add ((x10_1).toNat * 16)).block, (ad452.add ((x10_1).toNat * 16)).off + 12, none⟩ = some (.int .i64 ((rd_T51 l0 x10_1).f3.f0)) ∧ w'.cell? ⟨(ad452.add ((x10_1).toNat * 16)).block, (ad452.add ((x10_1).toNat * 16)).off + 13, none⟩ = some (.int .i64 ((rd_T51 l0 x10_1).f3.f1)) ∧ w'.cell? ⟨(ad452.add ((x10_1).toNat * 16)).block, (ad452.add ((x10_1).toNat * 16)).off + 14, none⟩ = some (.int .i64 ((rd_T51 l0 x10_1).f3.f2)) ∧ w'.cell? ⟨(ad452.add ((x10_1).toNat * 16)).block, (ad452.add ((x10_1).toNat * 16)).off + 15, none⟩ = some (.int .i64 ((rd_T51 l0 x10_1).f4)) ∧ w'.cell? (ad452.add ((x10_1).toNat * 16)) = some (.int .i64 ((rd_T51 l0 x10_1).f0)) ∧ w'.cell? ⟨(ad452.add ((x10_1).toNat * 16)).block, (ad452.add ((x10_1).toNat * 16)).off + 1, none⟩ = some (.int .i64 ((rd_T51 l0 x10_1).f1.f0)) ∧ w'.cell? ⟨(ad452.add ((x10_1).toNat * 16)).block, (ad452.add ((x10_1).toNat * 16)).off + 2, none⟩ = some (.int .i64 ((rd_T51 l0 x10_1).f1.f1)) ∧ w'.cell? ⟨(ad452.add ((x10_1).toNat * 16)).block, (ad452.add ((x10_1).toNat * 16)).off + 3, none⟩ = some (.int .i64 ((rd_T51 l0 x10_1).f1.f2.f0)) ∧ w'.cell? ⟨(ad452.add ((x10_1).toNat * 16)).block, (ad452.add ((x10_1).toNat * 16)).off + 4, none⟩ = some (.int .i64 ((rd_T51 l0 x10_1).f1.f2.f1)) ∧ w'.cell? ⟨(ad452.add ((x10_1).toNat * 16)).block, (ad452.add ((x10_1).toNat * 16)).off + 5, none⟩ = some (.int .i64 ((rd_T51 l0 x10_1).f1.f2.f2)) ∧ w'.cell? ⟨(ad452.add ((x10_1).toNat * 16)).block, (ad452.add ((x10_1).toNat * 16)).off + 6, none⟩ = some (.int .i64 ((rd_T51 l0 x10_1).f1.f2.f3)) ∧ w'.cell? ⟨(ad452.add ((x10_1).toNat * 16)).block, (ad452.add ((x10_1).toNat * 16)).off + 7, none⟩ = some (.int .i64 ((rd_T51 l0 x10_1).f1.f3.f0)) ∧ w'.cell? ⟨(ad452.add ((x10_1).toNat * 16)).block, (ad452.add ((x10_1).toNat * 16)).off + 8, none⟩ = some (.int .i64 ((rd_T51 l0 x10_1).f1.f3.f1)) ∧ w'.cell? ⟨(ad452.add ((x10_1).toNat * 16)).block, (ad452.add ((x10_1).toNat * 16)).off + 9, none⟩ = some (.int .i64 ((rd_T51 l0 x10_1).f1.f3.f2)) ∧ w'.cell? ⟨(ad452.add ((x10_1).toNat * 16)).block, (ad452.add ((x10_1).toNat * 16)).off + 10, none⟩ = some (.int .i64 ((rd_T51 l0 x10_1).f1.f3.f3)) ∧ w'.cell? ⟨(ad452.add ((x10_1).toNat * 16)).block, (ad452.add ((x10_1).toNat * 16)).off + 11, none⟩ = some (.int .i64 ((rd_T51 l0 x10_1).f2)) ∧ w'.cell? ⟨(ad452.add ((x10_1).toNat * 16)).block, (ad452.add ((x10_1).toNat * 16)).off + 12, none⟩ = some (.int .i64 ((rd_T51 l0 x10_1).f3.f0)) ∧ w'.cell? ⟨(ad452.add ((x10_1).toNat * 16)).block, (ad452.add ((x10_1).toNat * 16)).off + 13, none⟩ = some (.int .i64 ((rd_T51 l0 x10_1).f3.f1)) ∧ w'.cell? ⟨(ad452.add ((x10_1).toNat * 16)).block, (ad452.add ((x10_1).toNat * 16)).off + 14, none⟩ = some (.int .i64 ((rd_T51 l0 x10_1).f3.f2)) ∧ w'.cell? ⟨(ad452.add ((x10_1).toNat * 16)).block, (ad452.add ((x10_1).toNat * 16)).off + 15, none⟩ = some (.int .i64 ((rd_T51 l0 x10_1).f4))) ∧ (Kd.R (Kd.int .i64) 2 w' w.heap.size (fun _ => True) s_.1 t460) ∧ (w'.heap[s_.2]? = some (.cells #[.int .i64 0, .int .i64 0, .int .i64 0, .int .i64 0, .int .i64 0, .int .i64 0, .int .i64 0, .slice none 0 0, .int .i64 0] 48 (0, 0))) ∧ (w.heap.size ≤ s_.2) ∧ (w.heap.size ≤ s_.2) ∧ (Below w.heap.size w w')) ?_ ?_
             rotate_left
             ·intro hJ4_11
              refine join_ (σ := Nat × Nat) 4 #[true, true, true, true, false, true, true, true, true, false, true, true, false, false] (fun s_ => [(4, .pointer (some ⟨s_.1, 0, none⟩)), (5, .pointer (some ⟨s_.2, 0, none⟩))]) (fun s_ w' => (w'.cell? (ad452.add ((x10_1).toNat * 16)) = some (.int .i64 ((rd_T51 l0 x10_1).f0)) ∧ w'.cell? ⟨(ad452.add ((x10_1).toNat * 16)).block, (ad452.add ((x10_1).toNat * 16)).off + 1, none⟩ = some (.int .i64 ((rd_T51 l0 x10_1).f1.f0)) ∧ w'.cell? ⟨(ad452.add ((x10_1).toNat * 16)).block, (ad452.add ((x10_1).toNat * 16)).off + 2, none⟩ = some (.int .i64 ((rd_T51 l0 x10_1).f1.f1)) ∧ w'.cell? ⟨(ad452.add ((x10_1).toNat * 16)).block, (ad452.add ((x10_1).toNat * 16)).off + 3, none⟩ = some (.int .i64 ((rd_T51 l0 x10_1).f1.f2.f0)) ∧ w'.cell? ⟨(ad452.add ((x10_1).toNat * 16)).block, (ad452.add ((x10_1).toNat * 16)).off + 4, none⟩ = some (.int .i64 ((rd_T51 l0 x10_1).f1.f2.f1)) ∧ w'.cell? ⟨(ad452.add ((x10_1).toNat * 16)).block, (ad452.add ((x10_1).toNat * 16)).off + 5, none⟩ = some (.int .i64 ((rd_T51 l0 x10_1).f1.f2.f2)) ∧ w'.cell? ⟨(ad452.add ((x10_1).toNat * 16)).block, (ad452.add ((x10_1).toNat * 16)).off + 6, none⟩ = some (.int .i64 ((rd_T51 l0 x10_1).f1.f2.f3)) ∧ w'.cell? ⟨(ad452.add ((x10_1).toNat * 16)).block, (ad452.add ((x10_1).toNat * 16)).off + 7, none⟩ = some (.int .i64 ((rd_T51 l0 x10_1).f1.f3.f0)) ∧ w'.cell? ⟨(ad452.add ((x10_1).toNat * 16)).block, (ad452.add ((x10_1).toNat * 16)).off + 8, none⟩ = some (.int .i64 ((rd_T51 l0 x10_1).f1.f3.f1)) ∧ w'.cell? ⟨(ad452.add ((x10_1).toNat * 16)).block, (ad452.add ((x10_1).toNat * 16)).off + 9, none⟩ = some (.int .i64 ((rd_T51 l0 x10_1).f1.f3.f2)) ∧ w'.cell? ⟨(ad452.add ((x10_1).toNat * 16)).block, (ad452.add ((x10_1).toNat * 16)).off + 10, none⟩ = some (.int .i64 ((rd_T51 l0 x10_1).f1.f3.f3)) ∧ w'.cell? ⟨(ad452.add ((x10_1).toNat * 16)).block, (ad452.add ((x10_1).toNat * 16)).off + 11, none⟩ = some (.int .i64 ((rd_T51 l0 x10_1).f2)) ∧ w'.cell? ⟨(ad452.add ((x10_1).toNat * 16)).block, (ad452.add ((x10_1).toNat * 16)).off + 12, none⟩ = some (.int .i64 ((rd_T51 l0 x10_1).f3.f0)) ∧ w'.cell? ⟨(ad452.add ((x10_1).toNat * 16)).block, (ad452.add ((x10_1).toNat * 16)).off + 13, none⟩ = some (.int .i64 ((rd_T51 l0 x10_1).f3.f1)) ∧ w'.cell? ⟨(ad452.add ((x10_1).toNat * 16)).block, (ad452.add ((x10_1).toNat * 16)).off + 14, none⟩ = some (.int .i64 ((rd_T51 l0 x10_1).f3.f2)) ∧ w'.cell? ⟨(ad452.add ((x10_1).toNat * 16)).block, (ad452.add ((x10_1).toNat * 16)).off + 15, none⟩ = some (.int .i64 ((rd_T51 l0 x10_1).f4)) ∧ w'.cell? (ad452.add ((x10_1).toNat * 16)) = some (.int .i64 ((rd_T51 l0 x10_1).f0)) ∧ w'.cell? ⟨(ad452.add ((x10_1).toNat * 16)).block, (ad452.add ((x10_1).toNat * 16)).off + 1, none⟩ = some (.int .i64 ((rd_T51 l0 x10_1).f1.f0)) ∧ w'.cell? ⟨(ad452.add ((x10_1).toNat * 16)).block, (ad452.add ((x10_1).toNat * 16)).off + 2, none⟩ = some (.int .i64 ((rd_T51 l0 x10_1).f1.f1)) ∧ w'.cell? ⟨(ad452.add ((x10_1).toNat * 16)).block, (ad452.add ((x10_1).toNat * 16)).off + 3, none⟩ = some (.int .i64 ((rd_T51 l0 x10_1).f1.f2.f0)) ∧ w'.cell? ⟨(ad452.add ((x10_1).toNat * 16)).block, (ad452.add ((x10_1).toNat * 16)).off + 4, none⟩ = some (.int .i64 ((rd_T51 l0 x10_1).f1.f2.f1)) ∧ w'.cell? ⟨(ad452.add ((x10_1).toNat * 16)).block, (ad452.add ((x10_1).toNat * 16)).off + 5, none⟩ = some (.int .i64 ((rd_T51 l0 x10_1).f1.f2.f2)) ∧ w'.cell? ⟨(ad452.add ((x10_1).toNat * 16)).block, (ad452.add ((x10_1).toNat * 16)).off + 6, none⟩ = some (.int .i64 ((rd_T51 l0 x10_1).f1.f2.f3)) ∧ w'.cell? ⟨(ad452.add ((x10_1).toNat * 16)).block, (ad452.add ((x10_1).toNat * 16)).off + 7, none⟩ = some (.int .i64 ((rd_T51 l0 x10_1).f1.f3.f0)) ∧ w'.cell? ⟨(ad452.add ((x10_1).toNat * 16)).block, (ad452.add ((x10_1).toNat * 16)).off + 8, none⟩ = some (.int .i64 ((rd_T51 l0 x10_1).f1.f3.f1)) ∧ w'.cell? ⟨(ad452.add ((x10_1).toNat * 16)).block, (ad452.add ((x10_1).toNat * 16)).off + 9, none⟩ = some (.int .i64 ((rd_T51 l0 x10_1).f1.f3.f2)) ∧ w'.cell? ⟨(ad452.add ((x10_1).toNat * 16)).block, (ad452.add ((x10_1).toNat * 16)).off + 10, none⟩ = some (.int .i64 ((rd_T51 l0 x10_1).f1.f3.f3)) ∧ w'.cell? ⟨(ad452.add ((x10_1).toNat * 16)).block, (ad452.add ((x10_1).toNat * 16)).off + 11, none⟩ = some (.int .i64 ((rd_T51 l0 x10_1).f2)) ∧ w'.cell? ⟨(ad452.add ((x10_1).toNat * 16)).block, (ad452.add ((x10_1).toNat * 16)).off + 12, none⟩ = some (.int .i64 ((rd_T51 l0 x10_1).f3.f0)) ∧ w'.cell? ⟨(ad452.add ((x10_1).toNat * 16)).block, (ad452.add ((x10_1).toNat * 16)).off + 13, none⟩ = some (.int .i64 ((rd_T51 l0 x10_1).f3.f1)) ∧ w'.cell? ⟨(ad452.add ((x10_1).toNat * 16)).block, (ad452.add ((x10_1).toNat * 16)).off + 14, none⟩ = some (.int .i64 ((rd_T51 l0 x10_1).f3.f2)) ∧ w'.cell? ⟨(ad452.add ((x10_1).toNat * 16)).block, (ad452.add ((x10_1).toNat * 16)).off + 15, none⟩ = some (.int .i64 ((rd_T51 l0 x10_1).f4))) ∧ (w'.heap[s_.1]? = some (.cells #[.int .i64 0, .int .i64 0, .int .i64 0, .int .i64 0, .int .i64 0, .int .i64 0, .int .i64 0, .slice none 0 0, .int .i64 0] 48 (0, 0))) ∧ (w'.heap[s_.2]? = some (.cells #[.int .i64 0, .int .i64 0, .int .i64 0, .int .i64 0, .int .i64 0, .int .i64 0, .int .i64 0, .slice none 0 0, .int .i64 0] 48 (0, 0))) ∧ (w.heap.size ≤ s_.1) ∧ (w.heap.size ≤ s_.1) ∧ (s_.2 ≠ s_.1) ∧ (s_.1 ≠ s_.2) ∧ (w.heap.size ≤ s_.2) ∧ (w.heap.size ≤ s_.2) ∧ (Below w.heap.size w w')) ?_ ?_
              rotate_left
              ·intro hJ10_11
               refine join_ (σ := Value) 5 #[true, true, true, true, true, true, true, true, true, false, false, false, false, false] (fun s_ => [(17, .agg #[.int .i64 t453, .int .i64 t454, .int .i64 t455, .int .i64 t456, .int .i64 t457, .int .i64 t458, .int .i64 t459, s_, .int .i64 t463])]) (fun s_ w' => (w'.cell? (ad452.add ((x10_1).toNat * 16)) = some (.int .i64 ((rd_T51 l0 x10_1).f0)) ∧ w'.cell? ⟨(ad452.add ((x10_1).toNat * 16)).block, (ad452.add ((x10_1).toNat * 16)).off + 1, none⟩ = some (.int .i64 ((rd_T51 l0 x10_1).f1.f0)) ∧ w'.cell? ⟨(ad452.add ((x10_1).toNat * 16)).block, (ad452.add ((x10_1).toNat * 16)).off + 2, none⟩ = some (.int .i64 ((rd_T51 l0 x10_1).f1.f1)) ∧ w'.cell? ⟨(ad452.add ((x10_1).toNat * 16)).block, (ad452.add ((x10_1).toNat * 16)).off + 3, none⟩ = some (.int .i64 ((rd_T51 l0 x10_1).f1.f2.f0)) ∧ w'.cell? ⟨(ad452.add ((x10_1).toNat * 16)).block, (ad452.add ((x10_1).toNat * 16)).off + 4, none⟩ = some (.int .i64 ((rd_T51 l0 x10_1).f1.f2.f1)) ∧ w'.cell? ⟨(ad452.add ((x10_1).toNat * 16)).block, (ad452.add ((x10_1).toNat * 16)).off + 5, none⟩ = some (.int .i64 ((rd_T51 l0 x10_1).f1.f2.f2)) ∧ w'.cell? ⟨(ad452.add ((x10_1).toNat * 16)).block, (ad452.add ((x10_1).toNat * 16)).off + 6, none⟩ = some (.int .i64 ((rd_T51 l0 x10_1).f1.f2.f3)) ∧ w'.cell? ⟨(ad452.add ((x10_1).toNat * 16)).block, (ad452.add ((x10_1).toNat * 16)).off + 7, none⟩ = some (.int .i64 ((rd_T51 l0 x10_1).f1.f3.f0)) ∧ w'.cell? ⟨(ad452.add ((x10_1).toNat * 16)).block, (ad452.add ((x10_1).toNat * 16)).off + 8, none⟩ = some (.int .i64 ((rd_T51 l0 x10_1).f1.f3.f1)) ∧ w'.cell? ⟨(ad452.add ((x10_1).toNat * 16)).block, (ad452.add ((x10_1).toNat * 16)).off + 9, none⟩ = some (.int .i64 ((rd_T51 l0 x10_1).f1.f3.f2)) ∧ w'.cell? ⟨(ad452.add ((x10_1).toNat * 16)).block, (ad452.add ((x10_1).toNat * 16)).off + 10, none⟩ = some (.int .i64 ((rd_T51 l0 x10_1).f1.f3.f3)) ∧ w'.cell? ⟨(ad452.add ((x10_1).toNat * 16)).block, (ad452.add ((x10_1).toNat * 16)).off + 11, none⟩ = some (.int .i64 ((rd_T51 l0 x10_1).f2)) ∧ w'.cell? ⟨(ad452.add ((x10_1).toNat * 16)).block, (ad452.add ((x10_1).toNat * 16)).off + 12, none⟩ = some (.int .i64 ((rd_T51 l0 x10_1).f3.f0)) ∧ w'.cell? ⟨(ad452.add ((x10_1).toNat * 16)).block, (ad452.add ((x10_1).toNat * 16)).off + 13, none⟩ = some (.int .i64 ((rd_T51 l0 x10_1).f3.f1)) ∧ w'.cell? ⟨(ad452.add ((x10_1).toNat * 16)).block, (ad452.add ((x10_1).toNat * 16)).off + 14, none⟩ = some (.int .i64 ((rd_T51 l0 x10_1).f3.f2)) ∧ w'.cell? ⟨(ad452.add ((x10_1).toNat * 16)).block, (ad452.add ((x10_1).toNat * 16)).off + 15, none⟩ = some (.int .i64 ((rd_T51 l0 x10_1).f4)) ∧ w'.cell? (ad452.add ((x10_1).toNat * 16)) = some (.int .i64 ((rd_T51 l0 x10_1).f0)) ∧ w'.cell? ⟨(ad452.add ((x10_1).toNat * 16)).block, (ad452.add ((x10_1).toNat * 16)).off + 1, none⟩ = some (.int .i64 ((rd_T51 l0 x10_1).f1.f0)) ∧ w'.cell? ⟨(ad452.add ((x10_1).toNat * 16)).block, (ad452.add ((x10_1).toNat * 16)).off + 2, none⟩ = some (.int .i64 ((rd_T51 l0 x10_1).f1.f1)) ∧ w'.cell? ⟨(ad452.add ((x10_1).toNat * 16)).block, (ad452.add ((x10_1).toNat * 16)).off + 3, none⟩ = some (.int .i64 ((rd_T51 l0 x10_1).f1.f2.f0)) ∧ w'.cell? ⟨(ad452.add ((x10_1).toNat * 16)).block, (ad452.add ((x10_1).toNat * 16)).off + 4, none⟩ = some (.int .i64 ((rd_T51 l0 x10_1).f1.f2.f1)) ∧ w'.cell? ⟨(ad452.add ((x10_1).toNat * 16)).block, (ad452.add ((x10_1).toNat * 16)).off + 5, none⟩ = some (.int .i64 ((rd_T51 l0 x10_1).f1.f2.f2)) ∧ w'.cell? ⟨(ad452.add ((x10_1).toNat * 16)).block, (ad452.add ((x10_1).toNat * 16)).off + 6, none⟩ = some (.int .i64 ((rd_T51 l0 x10_1).f1.f2.f3)) ∧ w'.cell? ⟨(ad452.add ((x10_1).toNat * 16)).block, (ad452.add ((x10_1).toNat * 16)).off + 7, none⟩ = some (.int .i64 ((rd_T51 l0 x10_1).f1.f3.f0)) ∧ w'.cell? ⟨(ad452.add ((x10_1).toNat * 16)).block, (ad452.add ((x10_1).toNat * 16)).off + 8, none⟩ = some (.int .i64 ((rd_T51 l0 x10_1).f1.f3.f1)) ∧ w'.cell? ⟨(ad452.add ((x10_1).toNat * 16)).block, (ad452.add ((x10_1).toNat * 16)).off + 9, none⟩ = some (.int .i64 ((rd_T51 l0 x10_1).f1.f3.f2)) ∧ w'.cell? ⟨(ad452.add ((x10_1).toNat * 16)).block, (ad452.add ((x10_1).toNat * 16)).off + 10, none⟩ = some (.int .i64 ((rd_T51 l0 x10_1).f1.f3.f3)) ∧ w'.cell? ⟨(ad452.add ((x10_1).toNat * 16)).block, (ad452.add ((x10_1).toNat * 16)).off + 11, none⟩ = some (.int .i64 ((rd_T51 l0 x10_1).f2)) ∧ w'.cell? ⟨(ad452.add ((x10_1).toNat * 16)).block, (ad452.add ((x10_1).toNat * 16)).off + 12, none⟩ = some (.int .i64 ((rd_T51 l0 x10_1).f3.f0)) ∧ w'.cell? ⟨(ad452.add ((x10_1).toNat * 16)).block, (ad452.add ((x10_1).toNat * 16)).off + 13, none⟩ = some (.int .i64 ((rd_T51 l0 x10_1).f3.f1)) ∧ w'.cell? ⟨(ad452.add ((x10_1).toNat * 16)).block, (ad452.add ((x10_1).toNat * 16)).off + 14, none⟩ = some (.int .i64 ((rd_T51 l0 x10_1).f3.f2)) ∧ w'.cell? ⟨(ad452.add ((x10_1).toNat * 16)).block, (ad452.add ((x10_1).toNat * 16)).off + 15, none⟩ = some (.int .i64 ((rd_T51 l0 x10_1).f4))) ∧ (Kd.R (Kd.int .i64) 2 w' w.heap.size (fun _ => True) s_ t460) ∧ (Below w.heap.size w w')) ?_ ?_
               rotate_left
               ·intro hJ4
                refine join_ (σ := Nat) 5 #[true, true, true, true, false, true, true, true, true, false, true, false, false, false] (fun s_ => [(4, .pointer (some ⟨s_, 0, none⟩))]) (fun s_ w' => (w'.cell? (ad452.add ((x10_1).toNat * 16)) = some (.int .i64 ((rd_T51 l0 x10_1).f0)) ∧ w'.cell? ⟨(ad452.add ((x10_1).toNat * 16)).block, (ad452.add ((x10_1).toNat * 16)).off + 1, none⟩ = some (.int .i64 ((rd_T51 l0 x10_1).f1.f0)) ∧ w'.cell? ⟨(ad452.add ((x10_1).toNat * 16)).block, (ad452.add ((x10_1).toNat * 16)).off + 2, none⟩ = some (.int .i64 ((rd_T51 l0 x10_1).f1.f1)) ∧ w'.cell? ⟨(ad452.add ((x10_1).toNat * 16)).block, (ad452.add ((x10_1).toNat * 16)).off + 3, none⟩ = some (.int .i64 ((rd_T51 l0 x10_1).f1.f2.f0)) ∧ w'.cell? ⟨(ad452.add ((x10_1).toNat * 16)).block, (ad452.add ((x10_1).toNat * 16)).off + 4, none⟩ = some (.int .i64 ((rd_T51 l0 x10_1).f1.f2.f1)) ∧ w'.cell? ⟨(ad452.add ((x10_1).toNat * 16)).block, (ad452.add ((x10_1).toNat * 16)).off + 5, none⟩ = some (.int .i64 ((rd_T51 l0 x10_1).f1.f2.f2)) ∧ w'.cell? ⟨(ad452.add ((x10_1).toNat * 16)).block, (ad452.add ((x10_1).toNat * 16)).off + 6, none⟩ = some (.int .i64 ((rd_T51 l0 x10_1).f1.f2.f3)) ∧ w'.cell? ⟨(ad452.add ((x10_1).toNat * 16)).block, (ad452.add ((x10_1).toNat * 16)).off + 7, none⟩ = some (.int .i64 ((rd_T51 l0 x10_1).f1.f3.f0)) ∧ w'.cell? ⟨(ad452.add ((x10_1).toNat * 16)).block, (ad452.add ((x10_1).toNat * 16)).off + 8, none⟩ = some (.int .i64 ((rd_T51 l0 x10_1).f1.f3.f1)) ∧ w'.cell? ⟨(ad452.add ((x10_1).toNat * 16)).block, (ad452.add ((x10_1).toNat * 16)).off + 9, none⟩ = some (.int .i64 ((rd_T51 l0 x10_1).f1.f3.f2)) ∧ w'.cell? ⟨(ad452.add ((x10_1).toNat * 16)).block, (ad452.add ((x10_1).toNat * 16)).off + 10, none⟩ = some (.int .i64 ((rd_T51 l0 x10_1).f1.f3.f3)) ∧ w'.cell? ⟨(ad452.add ((x10_1).toNat * 16)).block, (ad452.add ((x10_1).toNat * 16)).off + 11, none⟩ = some (.int .i64 ((rd_T51 l0 x10_1).f2)) ∧ w'.cell? ⟨(ad452.add ((x10_1).toNat * 16)).block, (ad452.add ((x10_1).toNat * 16)).off + 12, none⟩ = some (.int .i64 ((rd_T51 l0 x10_1).f3.f0)) ∧ w'.cell? ⟨(ad452.add ((x10_1).toNat * 16)).block, (ad452.add ((x10_1).toNat * 16)).off + 13, none⟩ = some (.int .i64 ((rd_T51 l0 x10_1).f3.f1)) ∧ w'.cell? ⟨(ad452.add ((x10_1).toNat * 16)).block, (ad452.add ((x10_1).toNat * 16)).off + 14, none⟩ = some (.int .i64 ((rd_T51 l0 x10_1).f3.f2)) ∧ w'.cell? ⟨(ad452.add ((x10_1).toNat * 16)).block, (ad452.add ((x10_1).toNat * 16)).off + 15, none⟩ = some (.int .i64 ((rd_T51 l0 x10_1).f4)) ∧ w'.cell? (ad452.add ((x10_1).toNat * 16)) = some (.int .i64 ((rd_T51 l0 x10_1).f0)) ∧ w'.cell? ⟨(ad452.add ((x10_1).toNat * 16)).block, (ad452.add ((x10_1).toNat * 16)).off + 1, none⟩ = some (.int .i64 ((rd_T51 l0 x10_1).f1.f0)) ∧ w'.cell? ⟨(ad452.add ((x10_1).toNat * 16)).block, (ad452.add ((x10_1).toNat * 16)).off + 2, none⟩ = some (.int .i64 ((rd_T51 l0 x10_1).f1.f1)) ∧ w'.cell? ⟨(ad452.add ((x10_1).toNat * 16)).block, (ad452.add ((x10_1).toNat * 16)).off + 3, none⟩ = some (.int .i64 ((rd_T51 l0 x10_1).f1.f2.f0)) ∧ w'.cell? ⟨(ad452.add ((x10_1).toNat * 16)).block, (ad452.add ((x10_1).toNat * 16)).off + 4, none⟩ = some (.int .i64 ((rd_T51 l0 x10_1).f1.f2.f1)) ∧ w'.cell? ⟨(ad452.add ((x10_1).toNat * 16)).block, (ad452.add ((x10_1).toNat * 16)).off + 5, none⟩ = some (.int .i64 ((rd_T51 l0 x10_1).f1.f2.f2)) ∧ w'.cell? ⟨(ad452.add ((x10_1).toNat * 16)).block, (ad452.add ((x10_1).toNat * 16)).off + 6, none⟩ = some (.int .i64 ((rd_T51 l0 x10_1).f1.f2.f3)) ∧ w'.cell? ⟨(ad452.add ((x10_1).toNat * 16)).block, (ad452.add ((x10_1).toNat * 16)).off + 7, none⟩ = some (.int .i64 ((rd_T51 l0 x10_1).f1.f3.f0)) ∧ w'.cell? ⟨(ad452.add ((x10_1).toNat * 16)).block, (ad452.add ((x10_1).toNat * 16)).off + 8, none⟩ = some (.int .i64 ((rd_T51 l0 x10_1).f1.f3.f1)) ∧ w'.cell? ⟨(ad452.add ((x10_1).toNat * 16)).block, (ad452.add ((x10_1).toNat * 16)).off + 9, none⟩ = some (.int .i64 ((rd_T51 l0 x10_1).f1.f3.f2)) ∧ w'.cell? ⟨(ad452.add ((x10_1).toNat * 16)).block, (ad452.add ((x10_1).toNat * 16)).off + 10, none⟩ = some (.int .i64 ((rd_T51 l0 x10_1).f1.f3.f3)) ∧ w'.cell? ⟨(ad452.add ((x10_1).toNat * 16)).block, (ad452.add ((x10_1).toNat * 16)).off + 11, none⟩ = some (.int .i64 ((rd_T51 l0 x10_1).f2)) ∧ w'.cell? ⟨(ad452.add ((x10_1).toNat * 16)).block, (ad452.add ((x10_1).toNat * 16)).off + 12, none⟩ = some (.int .i64 ((rd_T51 l0 x10_1).f3.f0)) ∧ w'.cell? ⟨(ad452.add ((x10_1).toNat * 16)).block, (ad452.add ((x10_1).toNat * 16)).off + 13, none⟩ = some (.int .i64 ((rd_T51 l0 x10_1).f3.f1)) ∧ w'.cell? ⟨(ad452.add ((x10_1).toNat * 16)).block, (ad452.add ((x10_1).toNat * 16)).off + 14, none⟩ = some (.int .i64 ((rd_T51 l0 x10_1).f3.f2)) ∧ w'.cell? ⟨(ad452.add ((x10_1).toNat * 16)).block, (ad452.add ((x10_1).toNat * 16)).off + 15, none⟩ = some (.int .i64 ((rd_T51 l0 x10_1).f4))) ∧ (w'.heap[s_]? = some (.cells #[.int .i64 0, .int .i64 0, .int .i64 0, .int .i64 0, .int .i64 0, .int .i64 0, .int .i64 0, .slice none 0 0, .int .i64 0] 48 (0, 0))) ∧ (w.heap.size ≤ s_) ∧ (w.heap.size ≤ s_) ∧ (Below w.heap.size w w')) ?_ ?_
                rotate_left
                ·intro hJ10
                 refine join_ (σ := Nat) 5 #[true, true, true, true, false, true, true, true, true, false, false, true, false, false] (fun s_ => [(5, .pointer (some ⟨s_, 0, none⟩))]) (fun s_ w' => (w'.cell? (ad452.add ((x10_1).toNat * 16)) = some (.int .i64 ((rd_T51 l0 x10_1).f0)) ∧ w'.cell? ⟨(ad452.add ((x10_1).toNat * 16)).block, (ad452.add ((x10_1).toNat * 16)).off + 1, none⟩ = some (.int .i64 ((rd_T51 l0 x10_1).f1.f0)) ∧ w'.cell? ⟨(ad452.add ((x10_1).toNat * 16)).block, (ad452.add ((x10_1).toNat * 16)).off + 2, none⟩ = some (.int .i64 ((rd_T51 l0 x10_1).f1.f1)) ∧ w'.cell? ⟨(ad452.add ((x10_1).toNat * 16)).block, (ad452.add ((x10_1).toNat * 16)).off + 3, none⟩ = some (.int .i64 ((rd_T51 l0 x10_1).f1.f2.f0)) ∧ w'.cell? ⟨(ad452.add ((x10_1).toNat * 16)).block, (ad452.add ((x10_1).toNat * 16)).off + 4, none⟩ = some (.int .i64 ((rd_T51 l0 x10_1).f1.f2.f1)) ∧ w'.cell? ⟨(ad452.add ((x10_1).toNat * 16)).block, (ad452.add ((x10_1).toNat * 16)).off + 5, none⟩ = some (.int .i64 ((rd_T51 l0 x10_1).f1.f2.f2)) ∧ w'.cell? ⟨(ad452.add ((x10_1).toNat * 16)).block, (ad452.add ((x10_1).toNat * 16)).off + 6, none⟩ = some (.int .i64 ((rd_T51 l0 x10_1).f1.f2.f3)) ∧ w'.cell? ⟨(ad452.add ((x10_1).toNat * 16)).block, (ad452.add ((x10_1).toNat * 16)).off + 7, none⟩ = some (.int .i64 ((rd_T51 l0 x10_1).f1.f3.f0)) ∧ w'.cell? ⟨(ad452.add ((x10_1).toNat * 16)).block, (ad452.add ((x10_1).toNat * 16)).off + 8, none⟩ = some (.int .i64 ((rd_T51 l0 x10_1).f1.f3.f1)) ∧ w'.cell? ⟨(ad452.add ((x10_1).toNat * 16)).block, (ad452.add ((x10_1).toNat * 16)).off + 9, none⟩ = some (.int .i64 ((rd_T51 l0 x10_1).f1.f3.f2)) ∧ w'.cell? ⟨(ad452.add ((x10_1).toNat * 16)).block, (ad452.add ((x10_1).toNat * 16)).off + 10, none⟩ = some (.int .i64 ((rd_T51 l0 x10_1).f1.f3.f3)) ∧ w'.cell? ⟨(ad452.add ((x10_1).toNat * 16)).block, (ad452.add ((x10_1).toNat * 16)).off + 11, none⟩ = some (.int .i64 ((rd_T51 l0 x10_1).f2)) ∧ w'.cell? ⟨(ad452.add ((x10_1).toNat * 16)).block, (ad452.add ((x10_1).toNat * 16)).off + 12, none⟩ = some (.int .i64 ((rd_T51 l0 x10_1).f3.f0)) ∧ w'.cell? ⟨(ad452.add ((x10_1).toNat * 16)).block, (ad452.add ((x10_1).toNat * 16)).off + 13, none⟩ = some (.int .i64 ((rd_T51 l0 x10_1).f3.f1)) ∧ w'.cell? ⟨(ad452.add ((x10_1).toNat * 16)).block, (ad452.add ((x10_1).toNat * 16)).off + 14, none⟩ = some (.int .i64 ((rd_T51 l0 x10_1).f3.f2)) ∧ w'.cell? ⟨(ad452.add ((x10_1).toNat * 16)).block, (ad452.add ((x10_1).toNat * 16)).off + 15, none⟩ = some (.int .i64 ((rd_T51 l0 x10_1).f4)) ∧ w'.cell? (ad452.add ((x10_1).toNat * 16)) = some (.int .i64 ((rd_T51 l0 x10_1).f0)) ∧ w'.cell? ⟨(ad452.add ((x10_1).toNat * 16)).block, (ad452.add ((x10_1).toNat * 16)).off + 1, none⟩ = some (.int .i64 ((rd_T51 l0 x10_1).f1.f0)) ∧ w'.cell? ⟨(ad452.add ((x10_1).toNat * 16)).block, (ad452.add ((x10_1).toNat * 16)).off + 2, none⟩ = some (.int .i64 ((rd_T51 l0 x10_1).f1.f1)) ∧ w'.cell? ⟨(ad452.add ((x10_1).toNat * 16)).block, (ad452.add ((x10_1).toNat * 16)).off + 3, none⟩ = some (.int .i64 ((rd_T51 l0 x10_1).f1.f2.f0)) ∧ w'.cell? ⟨(ad452.add ((x10_1).toNat * 16)).block, (ad452.add ((x10_1).toNat * 16)).off + 4, none⟩ = some (.int .i64 ((rd_T51 l0 x10_1).f1.f2.f1)) ∧ w'.cell? ⟨(ad452.add ((x10_1).toNat * 16)).block, (ad452.add ((x10_1).toNat * 16)).off + 5, none⟩ = some (.int .i64 ((rd_T51 l0 x10_1).f1.f2.f2)) ∧ w'.cell? ⟨(ad452.add ((x10_1).toNat * 16)).block, (ad452.add ((x10_1).toNat * 16)).off + 6, none⟩ = some (.int .i64 ((rd_T51 l0 x10_1).f1.f2.f3)) ∧ w'.cell? ⟨(ad452.add ((x10_1).toNat * 16)).block, (ad452.add ((x10_1).toNat * 16)).off + 7, none⟩ = some (.int .i64 ((rd_T51 l0 x10_1).f1.f3.f0)) ∧ w'.cell? ⟨(ad452.add ((x10_1).toNat * 16)).block, (ad452.add ((x10_1).toNat * 16)).off + 8, none⟩ = some (.int .i64 ((rd_T51 l0 x10_1).f1.f3.f1)) ∧ w'.cell? ⟨(ad452.add ((x10_1).toNat * 16)).block, (ad452.add ((x10_1).toNat * 16)).off + 9, none⟩ = some (.int .i64 ((rd_T51 l0 x10_1).f1.f3.f2)) ∧ w'.cell? ⟨(ad452.add ((x10_1).toNat * 16)).block, (ad452.add ((x10_1).toNat * 16)).off + 10, none⟩ = some (.int .i64 ((rd_T51 l0 x10_1).f1.f3.f3)) ∧ w'.cell? ⟨(ad452.add ((x10_1).toNat * 16)).block, (ad452.add ((x10_1).toNat * 16)).off + 11, none⟩ = some (.int .i64 ((rd_T51 l0 x10_1).f2)) ∧ w'.cell? ⟨(ad452.add ((x10_1).toNat * 16)).block, (ad452.add ((x10_1).toNat * 16)).off + 12, none⟩ = some (.int .i64 ((rd_T51 l0 x10_1).f3.f0)) ∧ w'.cell? ⟨(ad452.add ((x10_1).toNat * 16)).block, (ad452.add ((x10_1).toNat * 16)).off + 13, none⟩ = some (.int .i64 ((rd_T51 l0 x10_1).f3.f1)) ∧ w'.cell? ⟨(ad452.add ((x10_1).toNat * 16)).block, (ad452.add ((x10_1).toNat * 16)).off + 14, none⟩ = some (.int .i64 ((rd_T51 l0 x10_1).f3.f2)) ∧ w'.cell? ⟨(ad452.add ((x10_1).toNat * 16)).block, (ad452.add ((x10_1).toNat * 16)).off + 15, none⟩ = some (.int .i64 ((rd_T51 l0 x10_1).f4))) ∧ (w'.heap[s_]? = some (.cells #[.int .i64 0, .int .i64 0, .int .i64 0, .int .i64 0, .int .i64 0, .int .i64 0, .int .i64 0, .slice none 0 0, .int .i64 0] 48 (0, 0))) ∧ (w.heap.size ≤ s_) ∧ (w.heap.size ≤ s_) ∧ (Below w.heap.size w w')) ?_ ?_
                 rotate_left
                 ·intro hJ11
                  refine three_ (i := 4) (j := 10) (k := 11) (Ni := some 17) (Nj := some 4) (Nk := some 5) #[true, true, true, true, true, true, true, true, true, false, false, false, false, false] #[true, true, true, true, false, true, true, true, true, false, true, false, false, false] #[true, true, true, true, false, true, true, true, true, false, false, true, false, false] rfl rfl rfl rfl rfl rfl (three_of HT_.out (by kernel_rfl)) (by decide) (by decide) (by decide) (fun K hK => ?_) (fun K hK => ?_) (fun K hK => ?_)
                  ·skip
                   refine goes_ Try.func22 (by kernel_rfl) rfl #[.agg #[.int .i64 ((rd_T51 l0 x10_1).f0), .int .i64 ((rd_T51 l0 x10_1).f1.f0), .int .i64 ((rd_T51 l0 x10_1).f1.f1), .int .i64 ((rd_T51 l0 x10_1).f1.f2.f0), .int .i64 ((rd_T51 l0 x10_1).f1.f2.f1), .int .i64 ((rd_T51 l0 x10_1).f1.f2.f2), .int .i64 ((rd_T51 l0 x10_1).f1.f2.f3), .int .i64 ((rd_T51 l0 x10_1).f1.f3.f0), .int .i64 ((rd_T51 l0 x10_1).f1.f3.f1), .int .i64 ((rd_T51 l0 x10_1).f1.f3.f2), .int .i64 ((rd_T51 l0 x10_1).f1.f3.f3), .int .i64 ((rd_T51 l0 x10_1).f2), .int .i64 ((rd_T51 l0 x10_1).f3.f0), .int .i64 ((rd_T51 l0 x10_1).f3.f1), .int .i64 ((rd_T51 l0 x10_1).f3.f2), .int .i64 ((rd_T51 l0 x10_1).f4)]] (by rfl) rfl rfl (by (try simp only [List.map_toArray, List.map_cons, List.map_nil]); first | done | rfl | (simp only [List.length_drop, List.length_take]; rfl)) ?_
                   with_reducible refine (pylonlaw04_plays.calls k1 ((rd_T51 l0 x10_1).f0) ((rd_T51 l0 x10_1).f1.f0) ((rd_T51 l0 x10_1).f1.f1) ((rd_T51 l0 x10_1).f1.f2.f0) ((rd_T51 l0 x10_1).f1.f2.f1) ((rd_T51 l0 x10_1).f1.f2.f2) ((rd_T51 l0 x10_1).f1.f2.f3) ((rd_T51 l0 x10_1).f1.f3.f0) ((rd_T51 l0 x10_1).f1.f3.f1) ((rd_T51 l0 x10_1).f1.f3.f2) ((rd_T51 l0 x10_1).f1.f3.f3) ((rd_T51 l0 x10_1).f2) ((rd_T51 l0 x10_1).f3.f0) ((rd_T51 l0 x10_1).f3.f1) ((rd_T51 l0 x10_1).f3.f2) ((rd_T51 l0 x10_1).f4) t453 t454 t455 t456 t457 t458 t459 t460 t463 _ A8.out).mono ?_
                   rintro e w12 ⟨v461, rfl, ho0, hb⟩
                   refine ⟨_, rfl, ?_⟩
                   have n0_ := AX (Kd.R_lower ho0 (below_size bw))
                   have n1_ := AX (below_step bw hb)
                   clear HB
                   have HO462 := n0_
                   have HB := n1_
                   clear n0_ n1_
                   (try clear hb)
                   (try clear hb2)
                   (try clear hk)
                   (try clear hi)
                   (try clear ho0)
                   refine hK.out _ _ ⟨(bcl HB hw452_0), (bcl HB hw452_1), (bcl HB hw452_2), (bcl HB hw452_3), (bcl HB hw452_4), (bcl HB hw452_5), (bcl HB hw452_6), (bcl HB hw452_7), (bcl HB hw452_8), (bcl HB hw452_9), (bcl HB hw452_10), (bcl HB hw452_11), (bcl HB hw452_12), (bcl HB hw452_13), (bcl HB hw452_14), (bcl HB hw452_15), (bcl HB hw464_0), (bcl HB hw464_1), (bcl HB hw464_2), (bcl HB hw464_3), (bcl HB hw464_4), (bcl HB hw464_5), (bcl HB hw464_6), (bcl HB hw464_7), (bcl HB hw464_8), (bcl HB hw464_9), (bcl HB hw464_10), (bcl HB hw464_11), (bcl HB hw464_12), (bcl HB hw464_13), (bcl HB hw464_14), (bcl HB hw464_15)⟩ (fun hHeld => ?_)
                   clear hK K
                   refine norm_ (a' := ?_) ?_ ?_
                   rotate_left
                   ·show Act.put _ (some 17) _ = _
                    simp only [Act.put, List.setIfInBounds_toArray, List.set_cons_zero, List.set_cons_succ, i64_w, i32_w]
                    rfl
                   exact norm_ (by first | (simp only [putAll, Act.put, List.setIfInBounds_toArray, List.set_cons_zero, List.set_cons_succ]; done) | (simp only [putAll, Act.put, List.setIfInBounds_toArray, List.set_cons_zero, List.set_cons_succ]; rfl)) (hJ4 (v461) _ ⟨hHeld, (kr HO462), bw⟩)
                  ·skip
                   refine box_step ?hg (N := 4) ?hd (cs := #[.int .i64 0, .int .i64 0, .int .i64 0, .int .i64 0, .int .i64 0, .int .i64 0, .int .i64 0, .slice none 0 0, .int .i64 0]) (t := 48) ?hr ?_; (case hd => rfl); (case hg => rfl); (case hr => first | (go_simp; done) | (go_simp; rfl))
                   intro gb476 hg w12 hbox hb
                   have n0_ := AX (below_step bw hb)
                   have n1_ := AX (hbox)
                   have n2_ := gwl (w := w) hg bw
                   have n3_ := gwl (w := w) hg bw
                   clear HB
                   have HB := n0_
                   have BK476 := n1_
                   have GW476 := n2_
                   have GE476 := n3_
                   clear n0_ n1_ n2_ n3_
                   clear hb hbox hg
                   refine hK.out _ _ ⟨(bcl HB hw452_0), (bcl HB hw452_1), (bcl HB hw452_2), (bcl HB hw452_3), (bcl HB hw452_4), (bcl HB hw452_5), (bcl HB hw452_6), (bcl HB hw452_7), (bcl HB hw452_8), (bcl HB hw452_9), (bcl HB hw452_10), (bcl HB hw452_11), (bcl HB hw452_12), (bcl HB hw452_13), (bcl HB hw452_14), (bcl HB hw452_15), (bcl HB hw464_0), (bcl HB hw464_1), (bcl HB hw464_2), (bcl HB hw464_3), (bcl HB hw464_4), (bcl HB hw464_5), (bcl HB hw464_6), (bcl HB hw464_7), (bcl HB hw464_8), (bcl HB hw464_9), (bcl HB hw464_10), (bcl HB hw464_11), (bcl HB hw464_12), (bcl HB hw464_13), (bcl HB hw464_14), (bcl HB hw464_15)⟩ (fun hHeld => ?_)
                   clear hK K
                   refine norm_ (a' := ?_) ?_ ?_
                   rotate_left
                   ·show Act.put _ (some 4) _ = _
                    simp only [Act.put, List.setIfInBounds_toArray, List.set_cons_zero, List.set_cons_succ, i64_w, i32_w]
                    rfl
                   exact norm_ (by first | (simp only [putAll, Act.put, List.setIfInBounds_toArray, List.set_cons_zero, List.set_cons_succ]; done) | (simp only [putAll, Act.put, List.setIfInBounds_toArray, List.set_cons_zero, List.set_cons_succ]; rfl)) (hJ10 (gb476) _ ⟨hHeld, (bkn BK476), GW476.out, GE476.out, bw⟩)
                  ·skip
                   refine box_step ?hg (N := 5) ?hd (cs := #[.int .i64 0, .int .i64 0, .int .i64 0, .int .i64 0, .int .i64 0, .int .i64 0, .int .i64 0, .slice none 0 0, .int .i64 0]) (t := 48) ?hr ?_; (case hd => rfl); (case hg => rfl); (case hr => first | (go_simp; done) | (go_simp; rfl))
                   intro gb477 hg w12 hbox hb
                   have n0_ := AX (below_step bw hb)
                   have n1_ := AX (hbox)
                   have n2_ := gwl (w := w) hg bw
                   have n3_ := gwl (w := w) hg bw
                   clear HB
                   have HB := n0_
                   have BK477 := n1_
                   have GW477 := n2_
                   have GE477 := n3_
                   clear n0_ n1_ n2_ n3_
                   clear hb hbox hg
                   refine hK.out _ _ ⟨(bcl HB hw452_0), (bcl HB hw452_1), (bcl HB hw452_2), (bcl HB hw452_3), (bcl HB hw452_4), (bcl HB hw452_5), (bcl HB hw452_6), (bcl HB hw452_7), (bcl HB hw452_8), (bcl HB hw452_9), (bcl HB hw452_10), (bcl HB hw452_11), (bcl HB hw452_12), (bcl HB hw452_13), (bcl HB hw452_14), (bcl HB hw452_15), (bcl HB hw464_0), (bcl HB hw464_1), (bcl HB hw464_2), (bcl HB hw464_3), (bcl HB hw464_4), (bcl HB hw464_5), (bcl HB hw464_6), (bcl HB hw464_7), (bcl HB hw464_8), (bcl HB hw464_9), (bcl HB hw464_10), (bcl HB hw464_11), (bcl HB hw464_12), (bcl HB hw464_13), (bcl HB hw464_14), (bcl HB hw464_15)⟩ (fun hHeld => ?_)
                   clear hK K
                   refine norm_ (a' := ?_) ?_ ?_
                   rotate_left
                   ·show Act.put _ (some 5) _ = _
                    simp only [Act.put, List.setIfInBounds_toArray, List.set_cons_zero, List.set_cons_succ, i64_w, i32_w]
                    rfl
                   exact norm_ (by first | (simp only [putAll, Act.put, List.setIfInBounds_toArray, List.set_cons_zero, List.set_cons_succ]; done) | (simp only [putAll, Act.put, List.setIfInBounds_toArray, List.set_cons_zero, List.set_cons_succ]; rfl)) (hJ11 (gb477) _ ⟨hHeld, (bkn BK477), GW477.out, GE477.out, bw⟩)
                 ·skip
                  rintro gb477 w13 ⟨hS_, h0_, h1_, h2_, h3_⟩
                  have n0_ : Aside0 (w13.heap[gb477]? = some (.cells #[.int .i64 0, .int .i64 0, .int .i64 0, .int .i64 0, .int .i64 0, .int .i64 0, .int .i64 0, .slice none 0 0, .int .i64 0] 48 (0, 0))) := ⟨h0_⟩
                  have n1_ : Aside0 (w.heap.size ≤ gb477) := ⟨h1_⟩
                  have n2_ : Aside0 (w.heap.size ≤ gb477) := ⟨h2_⟩
                  have n3_ : Aside0 (Below w.heap.size w w13) := ⟨h3_⟩
                  clear HB
                  clear h0_ h1_ h2_ h3_
                  have BK477 := n0_
                  have GW477 := n1_
                  have GE477 := n2_
                  have HB := n3_
                  clear n0_ n1_ n2_ n3_
                  have hHeld := hS_
                  refine norm_ (a' := ?_) ?_ ?_
                  rotate_left
                  ·simp only [putAll, Act.put, List.setIfInBounds_toArray, List.set_cons_zero, List.set_cons_succ]
                   rfl
                  refine two_ (i := 4) (j := 10) (Ni := some 17) (Nj := some 4) #[true, true, true, true, true, true, true, true, true, false, false, true, false, false] #[true, true, true, true, false, true, true, true, true, false, true, true, false, false] rfl rfl rfl rfl (two_of HT_.out (by kernel_rfl)) (by decide) (by decide) (fun K hK => ?_) (fun K hK => ?_)
                  ·skip
                   refine goes_ Try.func22 (by kernel_rfl) rfl #[.agg #[.int .i64 ((rd_T51 l0 x10_1).f0), .int .i64 ((rd_T51 l0 x10_1).f1.f0), .int .i64 ((rd_T51 l0 x10_1).f1.f1), .int .i64 ((rd_T51 l0 x10_1).f1.f2.f0), .int .i64 ((rd_T51 l0 x10_1).f1.f2.f1), .int .i64 ((rd_T51 l0 x10_1).f1.f2.f2), .int .i64 ((rd_T51 l0 x10_1).f1.f2.f3), .int .i64 ((rd_T51 l0 x10_1).f1.f3.f0), .int .i64 ((rd_T51 l0 x10_1).f1.f3.f1), .int .i64 ((rd_T51 l0 x10_1).f1.f3.f2), .int .i64 ((rd_T51 l0 x10_1).f1.f3.f3), .int .i64 ((rd_T51 l0 x10_1).f2), .int .i64 ((rd_T51 l0 x10_1).f3.f0), .int .i64 ((rd_T51 l0 x10_1).f3.f1), .int .i64 ((rd_T51 l0 x10_1).f3.f2), .int .i64 ((rd_T51 l0 x10_1).f4)]] (by rfl) rfl rfl (by (try simp only [List.map_toArray, List.map_cons, List.map_nil]); first | done | rfl | (simp only [List.length_drop, List.length_take]; rfl)) ?_
                   with_reducible refine (pylonlaw04_plays.calls k1 ((rd_T51 l0 x10_1).f0) ((rd_T51 l0 x10_1).f1.f0) ((rd_T51 l0 x10_1).f1.f1) ((rd_T51 l0 x10_1).f1.f2.f0) ((rd_T51 l0 x10_1).f1.f2.f1) ((rd_T51 l0 x10_1).f1.f2.f2) ((rd_T51 l0 x10_1).f1.f2.f3) ((rd_T51 l0 x10_1).f1.f3.f0) ((rd_T51 l0 x10_1).f1.f3.f1) ((rd_T51 l0 x10_1).f1.f3.f2) ((rd_T51 l0 x10_1).f1.f3.f3) ((rd_T51 l0 x10_1).f2) ((rd_T51 l0 x10_1).f3.f0) ((rd_T51 l0 x10_1).f3.f1) ((rd_T51 l0 x10_1).f3.f2) ((rd_T51 l0 x10_1).f4) t453 t454 t455 t456 t457 t458 t459 t460 t463 _ A8.out).mono ?_
                   rintro e w14 ⟨v461, rfl, ho0, hb⟩
                   refine ⟨_, rfl, ?_⟩
                   have n0_ := AX (Kd.R_lower ho0 (below_size bw))
                   have n1_ := AX (bkb BK477 hb)
                   have n2_ := AX (below_step bw hb)
                   clear BK477
                   clear HB
                   have HO462 := n0_
                   have BK477 := n1_
                   have HB := n2_
                   clear n0_ n1_ n2_
                   (try clear hb)
                   (try clear hb2)
                   (try clear hk)
                   (try clear hi)
                   (try clear ho0)
                   refine hK.out _ _ ⟨(bcl HB hw452_0), (bcl HB hw452_1), (bcl HB hw452_2), (bcl HB hw452_3), (bcl HB hw452_4), (bcl HB hw452_5), (bcl HB hw452_6), (bcl HB hw452_7), (bcl HB hw452_8), (bcl HB hw452_9), (bcl HB hw452_10), (bcl HB hw452_11), (bcl HB hw452_12), (bcl HB hw452_13), (bcl HB hw452_14), (bcl HB hw452_15), (bcl HB hw464_0), (bcl HB hw464_1), (bcl HB hw464_2), (bcl HB hw464_3), (bcl HB hw464_4), (bcl HB hw464_5), (bcl HB hw464_6), (bcl HB hw464_7), (bcl HB hw464_8), (bcl HB hw464_9), (bcl HB hw464_10), (bcl HB hw464_11), (bcl HB hw464_12), (bcl HB hw464_13), (bcl HB hw464_14), (bcl HB hw464_15)⟩ (fun hHeld => ?_)
                   clear hK K
                   refine norm_ (a' := ?_) ?_ ?_
                   rotate_left
                   ·show Act.put _ (some 17) _ = _
                    simp only [Act.put, List.setIfInBounds_toArray, List.set_cons_zero, List.set_cons_succ, i64_w, i32_w]
                    rfl
                   exact norm_ (by first | (simp only [putAll, Act.put, List.setIfInBounds_toArray, List.set_cons_zero, List.set_cons_succ]; done) | (simp only [putAll, Act.put, List.setIfInBounds_toArray, List.set_cons_zero, List.set_cons_succ]; rfl)) (hJ4_11 (v461, gb477) _ ⟨hHeld, (kr HO462), (bkn BK477), GW477.out, GE477.out, bw⟩)
                  ·skip
                   refine box_step ?hg (N := 4) ?hd (cs := #[.int .i64 0, .int .i64 0, .int .i64 0, .int .i64 0, .int .i64 0, .int .i64 0, .int .i64 0, .slice none 0 0, .int .i64 0]) (t := 48) ?hr ?_; (case hd => rfl); (case hg => rfl); (case hr => first | (go_simp; done) | (go_simp; rfl))
                   intro gb476 hg w14 hbox hb
                   have n0_ := AX (bkb BK477 hb)
                   have n1_ := AX (below_step bw hb)
                   have n2_ := AX (hbox)
                   have n3_ := gwl (w := w) hg bw
                   have n4_ := gwl (w := w) hg bw
                   have n5_ := nbl hg (bkn BK477)
                   have n6_ := nbg hg (bkn BK477)
                   clear BK477
                   clear HB
                   have BK477 := n0_
                   have HB := n1_
                   have BK476 := n2_
                   have GW476 := n3_
                   have GE476 := n4_
                   have NB477_476 := n5_
                   have NB476_477 := n6_
                   clear n0_ n1_ n2_ n3_ n4_ n5_ n6_
                   clear hb hbox hg
                   refine hK.out _ _ ⟨(bcl HB hw452_0), (bcl HB hw452_1), (bcl HB hw452_2), (bcl HB hw452_3), (bcl HB hw452_4), (bcl HB hw452_5), (bcl HB hw452_6), (bcl HB hw452_7), (bcl HB hw452_8), (bcl HB hw452_9), (bcl HB hw452_10), (bcl HB hw452_11), (bcl HB hw452_12), (bcl HB hw452_13), (bcl HB hw452_14), (bcl HB hw452_15), (bcl HB hw464_0), (bcl HB hw464_1), (bcl HB hw464_2), (bcl HB hw464_3), (bcl HB hw464_4), (bcl HB hw464_5), (bcl HB hw464_6), (bcl HB hw464_7), (bcl HB hw464_8), (bcl HB hw464_9), (bcl HB hw464_10), (bcl HB hw464_11), (bcl HB hw464_12), (bcl HB hw464_13), (bcl HB hw464_14), (bcl HB hw464_15)⟩ (fun hHeld => ?_)
                   clear hK K
                   refine norm_ (a' := ?_) ?_ ?_
                   rotate_left
                   ·show Act.put _ (some 4) _ = _
                    simp only [Act.put, List.setIfInBounds_toArray, List.set_cons_zero, List.set_cons_succ, i64_w, i32_w]
                    rfl
                   exact norm_ (by first | (simp only [putAll, Act.put, List.setIfInBounds_toArray, List.set_cons_zero, List.set_cons_succ]; done) | (simp only [putAll, Act.put, List.setIfInBounds_toArray, List.set_cons_zero, List.set_cons_succ]; rfl)) (hJ10_11 (gb476, gb477) _ ⟨hHeld, (bkn BK476), (bkn BK477), GW476.out, GE476.out, NB477_476.out, NB476_477.out, GW477.out, GE477.out, bw⟩)
                ·skip
                 rintro gb476 w13 ⟨hS_, h0_, h1_, h2_, h3_⟩
                 have n0_ : Aside0 (w13.heap[gb476]? = some (.cells #[.int .i64 0, .int .i64 0, .int .i64 0, .int .i64 0, .int .i64 0, .int .i64 0, .int .i64 0, .slice none 0 0, .int .i64 0] 48 (0, 0))) := ⟨h0_⟩
                 have n1_ : Aside0 (w.heap.size ≤ gb476) := ⟨h1_⟩
                 have n2_ : Aside0 (w.heap.size ≤ gb476) := ⟨h2_⟩
                 have n3_ : Aside0 (Below w.heap.size w w13) := ⟨h3_⟩
                 clear HB
                 clear h0_ h1_ h2_ h3_
                 have BK476 := n0_
                 have GW476 := n1_
                 have GE476 := n2_
                 have HB := n3_
                 clear n0_ n1_ n2_ n3_
                 have hHeld := hS_
                 refine norm_ (a' := ?_) ?_ ?_
                 rotate_left
                 ·simp only [putAll, Act.put, List.setIfInBounds_toArray, List.set_cons_zero, List.set_cons_succ]
                  rfl
                 refine two_ (i := 4) (j := 11) (Ni := some 17) (Nj := some 5) #[true, true, true, true, true, true, true, true, true, false, true, false, false, false] #[true, true, true, true, false, true, true, true, true, false, true, true, false, false] rfl rfl rfl rfl (two_of HT_.out (by kernel_rfl)) (by decide) (by decide) (fun K hK => ?_) (fun K hK => ?_)
                 ·skip
                  refine goes_ Try.func22 (by kernel_rfl) rfl #[.agg #[.int .i64 ((rd_T51 l0 x10_1).f0), .int .i64 ((rd_T51 l0 x10_1).f1.f0), .int .i64 ((rd_T51 l0 x10_1).f1.f1), .int .i64 ((rd_T51 l0 x10_1).f1.f2.f0), .int .i64 ((rd_T51 l0 x10_1).f1.f2.f1), .int .i64 ((rd_T51 l0 x10_1).f1.f2.f2), .int .i64 ((rd_T51 l0 x10_1).f1.f2.f3), .int .i64 ((rd_T51 l0 x10_1).f1.f3.f0), .int .i64 ((rd_T51 l0 x10_1).f1.f3.f1), .int .i64 ((rd_T51 l0 x10_1).f1.f3.f2), .int .i64 ((rd_T51 l0 x10_1).f1.f3.f3), .int .i64 ((rd_T51 l0 x10_1).f2), .int .i64 ((rd_T51 l0 x10_1).f3.f0), .int .i64 ((rd_T51 l0 x10_1).f3.f1), .int .i64 ((rd_T51 l0 x10_1).f3.f2), .int .i64 ((rd_T51 l0 x10_1).f4)]] (by rfl) rfl rfl (by (try simp only [List.map_toArray, List.map_cons, List.map_nil]); first | done | rfl | (simp only [List.length_drop, List.length_take]; rfl)) ?_
                  with_reducible refine (pylonlaw04_plays.calls k1 ((rd_T51 l0 x10_1).f0) ((rd_T51 l0 x10_1).f1.f0) ((rd_T51 l0 x10_1).f1.f1) ((rd_T51 l0 x10_1).f1.f2.f0) ((rd_T51 l0 x10_1).f1.f2.f1) ((rd_T51 l0 x10_1).f1.f2.f2) ((rd_T51 l0 x10_1).f1.f2.f3) ((rd_T51 l0 x10_1).f1.f3.f0) ((rd_T51 l0 x10_1).f1.f3.f1) ((rd_T51 l0 x10_1).f1.f3.f2) ((rd_T51 l0 x10_1).f1.f3.f3) ((rd_T51 l0 x10_1).f2) ((rd_T51 l0 x10_1).f3.f0) ((rd_T51 l0 x10_1).f3.f1) ((rd_T51 l0 x10_1).f3.f2) ((rd_T51 l0 x10_1).f4) t453 t454 t455 t456 t457 t458 t459 t460 t463 _ A8.out).mono ?_
                  rintro e w14 ⟨v461, rfl, ho0, hb⟩
                  refine ⟨_, rfl, ?_⟩
                  have n0_ := AX (Kd.R_lower ho0 (below_size bw))
                  have n1_ := AX (bkb BK476 hb)
                  have n2_ := AX (below_step bw hb)
                  clear BK476
                  clear HB
                  have HO462 := n0_
                  have BK476 := n1_
                  have HB := n2_
                  clear n0_ n1_ n2_
                  (try clear hb)
                  (try clear hb2)
                  (try clear hk)
                  (try clear hi)
                  (try clear ho0)
                  refine hK.out _ _ ⟨(bcl HB hw452_0), (bcl HB hw452_1), (bcl HB hw452_2), (bcl HB hw452_3), (bcl HB hw452_4), (bcl HB hw452_5), (bcl HB hw452_6), (bcl HB hw452_7), (bcl HB hw452_8), (bcl HB hw452_9), (bcl HB hw452_10), (bcl HB hw452_11), (bcl HB hw452_12), (bcl HB hw452_13), (bcl HB hw452_14), (bcl HB hw452_15), (bcl HB hw464_0), (bcl HB hw464_1), (bcl HB hw464_2), (bcl HB hw464_3), (bcl HB hw464_4), (bcl HB hw464_5), (bcl HB hw464_6), (bcl HB hw464_7), (bcl HB hw464_8), (bcl HB hw464_9), (bcl HB hw464_10), (bcl HB hw464_11), (bcl HB hw464_12), (bcl HB hw464_13), (bcl HB hw464_14), (bcl HB hw464_15)⟩ (fun hHeld => ?_)
                  clear hK K
                  refine norm_ (a' := ?_) ?_ ?_
                  rotate_left
                  ·show Act.put _ (some 17) _ = _
                   simp only [Act.put, List.setIfInBounds_toArray, List.set_cons_zero, List.set_cons_succ, i64_w, i32_w]
                   rfl
                  exact norm_ (by first | (simp only [putAll, Act.put, List.setIfInBounds_toArray, List.set_cons_zero, List.set_cons_succ]; done) | (simp only [putAll, Act.put, List.setIfInBounds_toArray, List.set_cons_zero, List.set_cons_succ]; rfl)) (hJ4_10 (v461, gb476) _ ⟨hHeld, (kr HO462), (bkn BK476), GW476.out, GE476.out, bw⟩)
                 ·skip
                  refine box_step ?hg (N := 5) ?hd (cs := #[.int .i64 0, .int .i64 0, .int .i64 0, .int .i64 0, .int .i64 0, .int .i64 0, .int .i64 0, .slice none 0 0, .int .i64 0]) (t := 48) ?hr ?_; (case hd => rfl); (case hg => rfl); (case hr => first | (go_simp; done) | (go_simp; rfl))
                  intro gb477 hg w14 hbox hb
                  have n0_ := AX (bkb BK476 hb)
                  have n1_ := AX (below_step bw hb)
                  have n2_ := AX (hbox)
                  have n3_ := gwl (w := w) hg bw
                  have n4_ := gwl (w := w) hg bw
                  have n5_ := nbl hg (bkn BK476)
                  have n6_ := nbg hg (bkn BK476)
                  clear BK476
                  clear HB
                  have BK476 := n0_
                  have HB := n1_
                  have BK477 := n2_
                  have GW477 := n3_
                  have GE477 := n4_
                  have NB476_477 := n5_
                  have NB477_476 := n6_
                  clear n0_ n1_ n2_ n3_ n4_ n5_ n6_
                  clear hb hbox hg
                  refine hK.out _ _ ⟨(bcl HB hw452_0), (bcl HB hw452_1), (bcl HB hw452_2), (bcl HB hw452_3), (bcl HB hw452_4), (bcl HB hw452_5), (bcl HB hw452_6), (bcl HB hw452_7), (bcl HB hw452_8), (bcl HB hw452_9), (bcl HB hw452_10), (bcl HB hw452_11), (bcl HB hw452_12), (bcl HB hw452_13), (bcl HB hw452_14), (bcl HB hw452_15), (bcl HB hw464_0), (bcl HB hw464_1), (bcl HB hw464_2), (bcl HB hw464_3), (bcl HB hw464_4), (bcl HB hw464_5), (bcl HB hw464_6), (bcl HB hw464_7), (bcl HB hw464_8), (bcl HB hw464_9), (bcl HB hw464_10), (bcl HB hw464_11), (bcl HB hw464_12), (bcl HB hw464_13), (bcl HB hw464_14), (bcl HB hw464_15)⟩ (fun hHeld => ?_)
                  clear hK K
                  refine norm_ (a' := ?_) ?_ ?_
                  rotate_left
                  ·show Act.put _ (some 5) _ = _
                   simp only [Act.put, List.setIfInBounds_toArray, List.set_cons_zero, List.set_cons_succ, i64_w, i32_w]
                   rfl
                  exact norm_ (by first | (simp only [putAll, Act.put, List.setIfInBounds_toArray, List.set_cons_zero, List.set_cons_succ]; done) | (simp only [putAll, Act.put, List.setIfInBounds_toArray, List.set_cons_zero, List.set_cons_succ]; rfl)) (hJ10_11 (gb476, gb477) _ ⟨hHeld, (bkn BK476), (bkn BK477), GW476.out, GE476.out, NB477_476.out, NB476_477.out, GW477.out, GE477.out, bw⟩)
               ·skip
                rintro v461 w13 ⟨hS_, h0_, h1_⟩
                have n0_ : Aside0 (Kd.R (Kd.int .i64) 2 w13 w.heap.size (fun _ => True) v461 t460) := ⟨h0_⟩
                have n1_ : Aside0 (Below w.heap.size w w13) := ⟨h1_⟩
                clear HB
                clear h0_ h1_
                have HO462 := n0_
                have HB := n1_
                clear n0_ n1_
                have hHeld := hS_
                refine norm_ (a' := ?_) ?_ ?_
                rotate_left
                ·simp only [putAll, Act.put, List.setIfInBounds_toArray, List.set_cons_zero, List.set_cons_succ]
                 rfl
                refine three_ (i := 9) (j := 10) (k := 11) (Ni := some 22) (Nj := some 4) (Nk := some 5) #[true, true, true, true, true, true, true, true, true, true, false, false, false, false] #[true, true, true, true, true, true, true, true, true, false, true, false, false, false] #[true, true, true, true, true, true, true, true, true, false, false, true, false, false] rfl rfl rfl rfl rfl rfl (three_of HT_.out (by kernel_rfl)) (by decide) (by decide) (by decide) (fun K hK => ?_) (fun K hK => ?_) (fun K hK => ?_)
                ·skip
                 refine goes_ Try.func23 (by kernel_rfl) rfl #[.agg #[.int .i64 ((rd_T51 l0 x10_1).f0), .int .i64 ((rd_T51 l0 x10_1).f1.f0), .int .i64 ((rd_T51 l0 x10_1).f1.f1), .int .i64 ((rd_T51 l0 x10_1).f1.f2.f0), .int .i64 ((rd_T51 l0 x10_1).f1.f2.f1), .int .i64 ((rd_T51 l0 x10_1).f1.f2.f2), .int .i64 ((rd_T51 l0 x10_1).f1.f2.f3), .int .i64 ((rd_T51 l0 x10_1).f1.f3.f0), .int .i64 ((rd_T51 l0 x10_1).f1.f3.f1), .int .i64 ((rd_T51 l0 x10_1).f1.f3.f2), .int .i64 ((rd_T51 l0 x10_1).f1.f3.f3), .int .i64 ((rd_T51 l0 x10_1).f2), .int .i64 ((rd_T51 l0 x10_1).f3.f0), .int .i64 ((rd_T51 l0 x10_1).f3.f1), .int .i64 ((rd_T51 l0 x10_1).f3.f2), .int .i64 ((rd_T51 l0 x10_1).f4)]] (by rfl) rfl rfl (by (try simp only [List.map_toArray, List.map_cons, List.map_nil]); first | done | rfl | (simp only [List.length_drop, List.length_take]; rfl)) ?_
                 with_reducible refine (pylonlaw04_wants.calls k1 ((rd_T51 l0 x10_1).f0) ((rd_T51 l0 x10_1).f1.f0) ((rd_T51 l0 x10_1).f1.f1) ((rd_T51 l0 x10_1).f1.f2.f0) ((rd_T51 l0 x10_1).f1.f2.f1) ((rd_T51 l0 x10_1).f1.f2.f2) ((rd_T51 l0 x10_1).f1.f2.f3) ((rd_T51 l0 x10_1).f1.f3.f0) ((rd_T51 l0 x10_1).f1.f3.f1) ((rd_T51 l0 x10_1).f1.f3.f2) ((rd_T51 l0 x10_1).f1.f3.f3) ((rd_T51 l0 x10_1).f2) ((rd_T51 l0 x10_1).f3.f0) ((rd_T51 l0 x10_1).f3.f1) ((rd_T51 l0 x10_1).f3.f2) ((rd_T51 l0 x10_1).f4) t465 t466 t467 t468 t469 t470 t471 t472 t475 _ A9.out).mono ?_
                 rintro e w14 ⟨v473, rfl, ho0, hb⟩
                 refine ⟨_, rfl, ?_⟩
                 have n0_ := AX (Kd.R_elder' (kr HO462) (Kd.R_base ho0) hb)
                 have n1_ := AX (Kd.R_lower (Kd.R_new' ho0 (Kd.R_lt (kr HO462))) (below_size bw))
                 have n2_ := AX (below_step bw hb)
                 clear HO462
                 clear HB
                 have HO462 := n0_
                 have HO474 := n1_
                 have HB := n2_
                 clear n0_ n1_ n2_
                 (try clear hb)
                 (try clear hb2)
                 (try clear hk)
                 (try clear hi)
                 (try clear ho0)
                 refine hK.out _ _ ⟨(bcl HB hw452_0), (bcl HB hw452_1), (bcl HB hw452_2), (bcl HB hw452_3), (bcl HB hw452_4), (bcl HB hw452_5), (bcl HB hw452_6), (bcl HB hw452_7), (bcl HB hw452_8), (bcl HB hw452_9), (bcl HB hw452_10), (bcl HB hw452_11), (bcl HB hw452_12), (bcl HB hw452_13), (bcl HB hw452_14), (bcl HB hw452_15), (bcl HB hw464_0), (bcl HB hw464_1), (bcl HB hw464_2), (bcl HB hw464_3), (bcl HB hw464_4), (bcl HB hw464_5), (bcl HB hw464_6), (bcl HB hw464_7), (bcl HB hw464_8), (bcl HB hw464_9), (bcl HB hw464_10), (bcl HB hw464_11), (bcl HB hw464_12), (bcl HB hw464_13), (bcl HB hw464_14), (bcl HB hw464_15)⟩ (fun hHeld => ?_)
                 clear hK K
                 refine norm_ (a' := ?_) ?_ ?_
                 rotate_left
                 ·show Act.put _ (some 22) _ = _
                  simp only [Act.put, List.setIfInBounds_toArray, List.set_cons_zero, List.set_cons_succ, i64_w, i32_w]
                  rfl
                 exact norm_ (by first | (simp only [putAll, Act.put, List.setIfInBounds_toArray, List.set_cons_zero, List.set_cons_succ]; done) | (simp only [putAll, Act.put, List.setIfInBounds_toArray, List.set_cons_zero, List.set_cons_succ]; rfl)) (hJ4_9 (v461, v473) _ ⟨hHeld, (by (with_reducible repeat (first | apply Kd.R_alloc | apply Kd.R_drewN | apply Kd.R_drew)); exact Kd.R_mono HO462.out (fun _ hk => hk.2)), (by (with_reducible repeat (first | apply Kd.R_alloc | apply Kd.R_drewN | apply Kd.R_drew)); exact Kd.R_mono HO474.out (fun _ hk => hk.2)), bw⟩)
                ·skip
                 refine box_step ?hg (N := 4) ?hd (cs := #[.int .i64 0, .int .i64 0, .int .i64 0, .int .i64 0, .int .i64 0, .int .i64 0, .int .i64 0, .slice none 0 0, .int .i64 0]) (t := 48) ?hr ?_; (case hd => rfl); (case hg => rfl); (case hr => first | (go_simp; done) | (go_simp; rfl))
                 intro gb476 hg w14 hbox hb
                 have n0_ := AX (Kd.R_below (kr HO462) hb)
                 have n1_ := AX (below_step bw hb)
                 have n2_ := AX (hbox)
                 have n3_ := gwl (w := w) hg bw
                 have n4_ := gwl (w := w) hg bw
                 clear HO462
                 clear HB
                 have HO462 := n0_
                 have HB := n1_
                 have BK476 := n2_
                 have GW476 := n3_
                 have GE476 := n4_
                 clear n0_ n1_ n2_ n3_ n4_
                 clear hb hbox hg
                 refine hK.out _ _ ⟨(bcl HB hw452_0), (bcl HB hw452_1), (bcl HB hw452_2), (bcl HB hw452_3), (bcl HB hw452_4), (bcl HB hw452_5), (bcl HB hw452_6), (bcl HB hw452_7), (bcl HB hw452_8), (bcl HB hw452_9), (bcl HB hw452_10), (bcl HB hw452_11), (bcl HB hw452_12), (bcl HB hw452_13), (bcl HB hw452_14), (bcl HB hw452_15), (bcl HB hw464_0), (bcl HB hw464_1), (bcl HB hw464_2), (bcl HB hw464_3), (bcl HB hw464_4), (bcl HB hw464_5), (bcl HB hw464_6), (bcl HB hw464_7), (bcl HB hw464_8), (bcl HB hw464_9), (bcl HB hw464_10), (bcl HB hw464_11), (bcl HB hw464_12), (bcl HB hw464_13), (bcl HB hw464_14), (bcl HB hw464_15)⟩ (fun hHeld => ?_)
                 clear hK K
                 refine norm_ (a' := ?_) ?_ ?_
                 rotate_left
                 ·show Act.put _ (some 4) _ = _
                  simp only [Act.put, List.setIfInBounds_toArray, List.set_cons_zero, List.set_cons_succ, i64_w, i32_w]
                  rfl
                 exact norm_ (by first | (simp only [putAll, Act.put, List.setIfInBounds_toArray, List.set_cons_zero, List.set_cons_succ]; done) | (simp only [putAll, Act.put, List.setIfInBounds_toArray, List.set_cons_zero, List.set_cons_succ]; rfl)) (hJ4_10 (v461, gb476) _ ⟨hHeld, (kr HO462), (bkn BK476), GW476.out, GE476.out, bw⟩)
                ·skip
                 refine box_step ?hg (N := 5) ?hd (cs := #[.int .i64 0, .int .i64 0, .int .i64 0, .int .i64 0, .int .i64 0, .int .i64 0, .int .i64 0, .slice none 0 0, .int .i64 0]) (t := 48) ?hr ?_; (case hd => rfl); (case hg => rfl); (case hr => first | (go_simp; done) | (go_simp; rfl))
                 intro gb477 hg w14 hbox hb
                 have n0_ := AX (Kd.R_below (kr HO462) hb)
                 have n1_ := AX (below_step bw hb)
                 have n2_ := AX (hbox)
                 have n3_ := gwl (w := w) hg bw
                 have n4_ := gwl (w := w) hg bw
                 clear HO462
                 clear HB
                 have HO462 := n0_
                 have HB := n1_
                 have BK477 := n2_
                 have GW477 := n3_
                 have GE477 := n4_
                 clear n0_ n1_ n2_ n3_ n4_
                 clear hb hbox hg
                 refine hK.out _ _ ⟨(bcl HB hw452_0), (bcl HB hw452_1), (bcl HB hw452_2), (bcl HB hw452_3), (bcl HB hw452_4), (bcl HB hw452_5), (bcl HB hw452_6), (bcl HB hw452_7), (bcl HB hw452_8), (bcl HB hw452_9), (bcl HB hw452_10), (bcl HB hw452_11), (bcl HB hw452_12), (bcl HB hw452_13), (bcl HB hw452_14), (bcl HB hw452_15), (bcl HB hw464_0), (bcl HB hw464_1), (bcl HB hw464_2), (bcl HB hw464_3), (bcl HB hw464_4), (bcl HB hw464_5), (bcl HB hw464_6), (bcl HB hw464_7), (bcl HB hw464_8), (bcl HB hw464_9), (bcl HB hw464_10), (bcl HB hw464_11), (bcl HB hw464_12), (bcl HB hw464_13), (bcl HB hw464_14), (bcl HB hw464_15)⟩ (fun hHeld => ?_)
                 clear hK K
                 refine norm_ (a' := ?_) ?_ ?_
                 rotate_left
                 ·show Act.put _ (some 5) _ = _
                  simp only [Act.put, List.setIfInBounds_toArray, List.set_cons_zero, List.set_cons_succ, i64_w, i32_w]
                  rfl
                 exact norm_ (by first | (simp only [putAll, Act.put, List.setIfInBounds_toArray, List.set_cons_zero, List.set_cons_succ]; done) | (simp only [putAll, Act.put, List.setIfInBounds_toArray, List.set_cons_zero, List.set_cons_succ]; rfl)) (hJ4_11 (v461, gb477) _ ⟨hHeld, (kr HO462), (bkn BK477), GW477.out, GE477.out, bw⟩)
              ·skip
               rintro ⟨gb476, gb477⟩ w14 ⟨hS_, h0_, h1_, h2_, h3_, h4_, h5_, h6_, h7_, h8_⟩
               have n0_ : Aside0 (w14.heap[gb476]? = some (.cells #[.int .i64 0, .int .i64 0, .int .i64 0, .int .i64 0, .int .i64 0, .int .i64 0, .int .i64 0, .slice none 0 0, .int .i64 0] 48 (0, 0))) := ⟨h0_⟩
               have n1_ : Aside0 (w14.heap[gb477]? = some (.cells #[.int .i64 0, .int .i64 0, .int .i64 0, .int .i64 0, .int .i64 0, .int .i64 0, .int .i64 0, .slice none 0 0, .int .i64 0] 48 (0, 0))) := ⟨h1_⟩
               have n2_ : Aside0 (w.heap.size ≤ gb476) := ⟨h2_⟩
               have n3_ : Aside0 (w.heap.size ≤ gb476) := ⟨h3_⟩
               have n4_ : Aside0 (gb477 ≠ gb476) := ⟨h4_⟩
               have n5_ : Aside0 (gb476 ≠ gb477) := ⟨h5_⟩
               have n6_ : Aside0 (w.heap.size ≤ gb477) := ⟨h6_⟩
               have n7_ : Aside0 (w.heap.size ≤ gb477) := ⟨h7_⟩
               have n8_ : Aside0 (Below w.heap.size w w14) := ⟨h8_⟩
               clear HB
               clear h0_ h1_ h2_ h3_ h4_ h5_ h6_ h7_ h8_
               have BK476 := n0_
               have BK477 := n1_
               have GW476 := n2_
               have GE476 := n3_
               have NB477_476 := n4_
               have NB476_477 := n5_
               have GW477 := n6_
               have GE477 := n7_
               have HB := n8_
               clear n0_ n1_ n2_ n3_ n4_ n5_ n6_ n7_ n8_
               have hHeld := hS_
               refine norm_ (a' := ?_) ?_ ?_
               rotate_left
               ·simp only [putAll, Act.put, List.setIfInBounds_toArray, List.set_cons_zero, List.set_cons_succ]
                rfl
               refine one_ (i := 4) (N := some 17) #[true, true, true, true, true, true, true, true, true, false, true, true, false, false] rfl rfl (one_of HT_.out (by kernel_rfl)) (by decide) (fun K hK => ?_)
               refine goes_ Try.func22 (by kernel_rfl) rfl #[.agg #[.int .i64 ((rd_T51 l0 x10_1).f0), .int .i64 ((rd_T51 l0 x10_1).f1.f0), .int .i64 ((rd_T51 l0 x10_1).f1.f1), .int .i64 ((rd_T51 l0 x10_1).f1.f2.f0), .int .i64 ((rd_T51 l0 x10_1).f1.f2.f1), .int .i64 ((rd_T51 l0 x10_1).f1.f2.f2), .int .i64 ((rd_T51 l0 x10_1).f1.f2.f3), .int .i64 ((rd_T51 l0 x10_1).f1.f3.f0), .int .i64 ((rd_T51 l0 x10_1).f1.f3.f1), .int .i64 ((rd_T51 l0 x10_1).f1.f3.f2), .int .i64 ((rd_T51 l0 x10_1).f1.f3.f3), .int .i64 ((rd_T51 l0 x10_1).f2), .int .i64 ((rd_T51 l0 x10_1).f3.f0), .int .i64 ((rd_T51 l0 x10_1).f3.f1), .int .i64 ((rd_T51 l0 x10_1).f3.f2), .int .i64 ((rd_T51 l0 x10_1).f4)]] (by rfl) rfl rfl (by (try simp only [List.map_toArray, List.map_cons, List.map_nil]); first | done | rfl | (simp only [List.length_drop, List.length_take]; rfl)) ?_
               with_reducible refine (pylonlaw04_plays.calls k1 ((rd_T51 l0 x10_1).f0) ((rd_T51 l0 x10_1).f1.f0) ((rd_T51 l0 x10_1).f1.f1) ((rd_T51 l0 x10_1).f1.f2.f0) ((rd_T51 l0 x10_1).f1.f2.f1) ((rd_T51 l0 x10_1).f1.f2.f2) ((rd_T51 l0 x10_1).f1.f2.f3) ((rd_T51 l0 x10_1).f1.f3.f0) ((rd_T51 l0 x10_1).f1.f3.f1) ((rd_T51 l0 x10_1).f1.f3.f2) ((rd_T51 l0 x10_1).f1.f3.f3) ((rd_T51 l0 x10_1).f2) ((rd_T51 l0 x10_1).f3.f0) ((rd_T51 l0 x10_1).f3.f1) ((rd_T51 l0 x10_1).f3.f2) ((rd_T51 l0 x10_1).f4) t453 t454 t455 t456 t457 t458 t459 t460 t463 _ A8.out).mono ?_
               rintro e w15 ⟨v461, rfl, ho0, hb⟩
               refine ⟨_, rfl, ?_⟩
               have n0_ := AX (Kd.R_lower ho0 (below_size bw))
               have n1_ := AX (bkb BK476 hb)
               have n2_ := AX (bkb BK477 hb)
               have n3_ := AX (below_step bw hb)
               clear BK476
               clear BK477
               clear HB
               have HO462 := n0_
               have BK476 := n1_
               have BK477 := n2_
               have HB := n3_
               clear n0_ n1_ n2_ n3_
               (try clear hb)
               (try clear hb2)
               (try clear hk)
               (try clear hi)
               (try clear ho0)
               refine hK.out _ _ ⟨(bcl HB hw452_0), (bcl HB hw452_1), (bcl HB hw452_2), (bcl HB hw452_3), (bcl HB hw452_4), (bcl HB hw452_5), (bcl HB hw452_6), (bcl HB hw452_7), (bcl HB hw452_8), (bcl HB hw452_9), (bcl HB hw452_10), (bcl HB hw452_11), (bcl HB hw452_12), (bcl HB hw452_13), (bcl HB hw452_14), (bcl HB hw452_15), (bcl HB hw464_0), (bcl HB hw464_1), (bcl HB hw464_2), (bcl HB hw464_3), (bcl HB hw464_4), (bcl HB hw464_5), (bcl HB hw464_6), (bcl HB hw464_7), (bcl HB hw464_8), (bcl HB hw464_9), (bcl HB hw464_10), (bcl HB hw464_11), (bcl HB hw464_12), (bcl HB hw464_13), (bcl HB hw464_14), (bcl HB hw464_15)⟩ (fun hHeld => ?_)
               clear hK K
               refine norm_ (a' := ?_) ?_ ?_
               rotate_left
               ·show Act.put _ (some 17) _ = _
                simp only [Act.put, List.setIfInBounds_toArray, List.set_cons_zero, List.set_cons_succ, i64_w, i32_w]
                rfl
               exact norm_ (by first | (simp only [putAll, Act.put, List.setIfInBounds_toArray, List.set_cons_zero, List.set_cons_succ]; done) | (simp only [putAll, Act.put, List.setIfInBounds_toArray, List.set_cons_zero, List.set_cons_succ]; rfl)) (hJ4_10_11 (v461, gb476, gb477) _ ⟨hHeld, (kr HO462), (bkn BK476), (bkn BK477), GW476.out, GE476.out, NB477_476.out, NB476_477.out, GW477.out, GE477.out, bw⟩)
             ·skip
              rintro ⟨v461, gb477⟩ w14 ⟨hS_, h0_, h1_, h2_, h3_, h4_⟩
              have n0_ : Aside0 (Kd.R (Kd.int .i64) 2 w14 w.heap.size (fun _ => True) v461 t460) := ⟨h0_⟩
              have n1_ : Aside0 (w14.heap[gb477]? = some (.cells #[.int .i64 0, .int .i64 0, .int .i64 0, .int .i64 0, .int .i64 0, .int .i64 0, .int .i64 0, .slice none 0 0, .int .i64 0] 48 (0, 0))) := ⟨h1_⟩
              have n2_ : Aside0 (w.heap.size ≤ gb477) := ⟨h2_⟩
              have n3_ : Aside0 (w.heap.size ≤ gb477) := ⟨h3_⟩
              have n4_ : Aside0 (Below w.heap.size w w14) := ⟨h4_⟩
              clear HB
              clear h0_ h1_ h2_ h3_ h4_
              have HO462 := n0_
              have BK477 := n1_
              have GW477 := n2_
              have GE477 := n3_
              have HB := n4_
              clear n0_ n1_ n2_ n3_ n4_
              have hHeld := hS_
              refine norm_ (a' := ?_) ?_ ?_
              rotate_left
              ·simp only [putAll, Act.put, List.setIfInBounds_toArray, List.set_cons_zero, List.set_cons_succ]
               rfl
              refine two_ (i := 9) (j := 10) (Ni := some 22) (Nj := some 4) #[true, true, true, true, true, true, true, true, true, true, false, true, false, false] #[true, true, true, true, true, true, true, true, true, false, true, true, false, false] rfl rfl rfl rfl (two_of HT_.out (by kernel_rfl)) (by decide) (by decide) (fun K hK => ?_) (fun K hK => ?_)
              ·skip
               refine goes_ Try.func23 (by kernel_rfl) rfl #[.agg #[.int .i64 ((rd_T51 l0 x10_1).f0), .int .i64 ((rd_T51 l0 x10_1).f1.f0), .int .i64 ((rd_T51 l0 x10_1).f1.f1), .int .i64 ((rd_T51 l0 x10_1).f1.f2.f0), .int .i64 ((rd_T51 l0 x10_1).f1.f2.f1), .int .i64 ((rd_T51 l0 x10_1).f1.f2.f2), .int .i64 ((rd_T51 l0 x10_1).f1.f2.f3), .int .i64 ((rd_T51 l0 x10_1).f1.f3.f0), .int .i64 ((rd_T51 l0 x10_1).f1.f3.f1), .int .i64 ((rd_T51 l0 x10_1).f1.f3.f2), .int .i64 ((rd_T51 l0 x10_1).f1.f3.f3), .int .i64 ((rd_T51 l0 x10_1).f2), .int .i64 ((rd_T51 l0 x10_1).f3.f0), .int .i64 ((rd_T51 l0 x10_1).f3.f1), .int .i64 ((rd_T51 l0 x10_1).f3.f2), .int .i64 ((rd_T51 l0 x10_1).f4)]] (by rfl) rfl rfl (by (try simp only [List.map_toArray, List.map_cons, List.map_nil]); first | done | rfl | (simp only [List.length_drop, List.length_take]; rfl)) ?_
               with_reducible refine (pylonlaw04_wants.calls k1 ((rd_T51 l0 x10_1).f0) ((rd_T51 l0 x10_1).f1.f0) ((rd_T51 l0 x10_1).f1.f1) ((rd_T51 l0 x10_1).f1.f2.f0) ((rd_T51 l0 x10_1).f1.f2.f1) ((rd_T51 l0 x10_1).f1.f2.f2) ((rd_T51 l0 x10_1).f1.f2.f3) ((rd_T51 l0 x10_1).f1.f3.f0) ((rd_T51 l0 x10_1).f1.f3.f1) ((rd_T51 l0 x10_1).f1.f3.f2) ((rd_T51 l0 x10_1).f1.f3.f3) ((rd_T51 l0 x10_1).f2) ((rd_T51 l0 x10_1).f3.f0) ((rd_T51 l0 x10_1).f3.f1) ((rd_T51 l0 x10_1).f3.f2) ((rd_T51 l0 x10_1).f4) t465 t466 t467 t468 t469 t470 t471 t472 t475 _ A9.out).mono ?_
               rintro e w15 ⟨v473, rfl, ho0, hb⟩
               refine ⟨_, rfl, ?_⟩
               have n0_ := AX (Kd.R_elder' (kr HO462) (Kd.R_base ho0) hb)
               have n1_ := AX (Kd.R_lower (Kd.R_new' ho0 (Kd.R_lt (kr HO462))) (below_size bw))
               have n2_ := AX (bkb BK477 hb)
               have n3_ := AX (below_step bw hb)
               clear HO462
               clear BK477
               clear HB
               have HO462 := n0_
               have HO474 := n1_
               have BK477 := n2_
               have HB := n3_
               clear n0_ n1_ n2_ n3_
               (try clear hb)
               (try clear hb2)
               (try clear hk)
               (try clear hi)
               (try clear ho0)
               refine hK.out _ _ ⟨(bcl HB hw452_0), (bcl HB hw452_1), (bcl HB hw452_2), (bcl HB hw452_3), (bcl HB hw452_4), (bcl HB hw452_5), (bcl HB hw452_6), (bcl HB hw452_7), (bcl HB hw452_8), (bcl HB hw452_9), (bcl HB hw452_10), (bcl HB hw452_11), (bcl HB hw452_12), (bcl HB hw452_13), (bcl HB hw452_14), (bcl HB hw452_15), (bcl HB hw464_0), (bcl HB hw464_1), (bcl HB hw464_2), (bcl HB hw464_3), (bcl HB hw464_4), (bcl HB hw464_5), (bcl HB hw464_6), (bcl HB hw464_7), (bcl HB hw464_8), (bcl HB hw464_9), (bcl HB hw464_10), (bcl HB hw464_11), (bcl HB hw464_12), (bcl HB hw464_13), (bcl HB hw464_14), (bcl HB hw464_15)⟩ (fun hHeld => ?_)
               clear hK K
               refine norm_ (a' := ?_) ?_ ?_
               rotate_left
               ·show Act.put _ (some 22) _ = _
                simp only [Act.put, List.setIfInBounds_toArray, List.set_cons_zero, List.set_cons_succ, i64_w, i32_w]
                rfl
               exact norm_ (by first | (simp only [putAll, Act.put, List.setIfInBounds_toArray, List.set_cons_zero, List.set_cons_succ]; done) | (simp only [putAll, Act.put, List.setIfInBounds_toArray, List.set_cons_zero, List.set_cons_succ]; rfl)) (hJ4_9_11 (v461, v473, gb477) _ ⟨hHeld, (by (with_reducible repeat (first | apply Kd.R_alloc | apply Kd.R_drewN | apply Kd.R_drew)); exact Kd.R_mono HO462.out (fun _ hk => hk.2)), (by (with_reducible repeat (first | apply Kd.R_alloc | apply Kd.R_drewN | apply Kd.R_drew)); exact Kd.R_mono HO474.out (fun _ hk => hk.2)), (bkn BK477), GW477.out, GE477.out, bw⟩)
              ·skip
               refine box_step ?hg (N := 4) ?hd (cs := #[.int .i64 0, .int .i64 0, .int .i64 0, .int .i64 0, .int .i64 0, .int .i64 0, .int .i64 0, .slice none 0 0, .int .i64 0]) (t := 48) ?hr ?_; (case hd => rfl); (case hg => rfl); (case hr => first | (go_simp; done) | (go_simp; rfl))
               intro gb476 hg w15 hbox hb
               have n0_ := AX (Kd.R_below (kr HO462) hb)
               have n1_ := AX (bkb BK477 hb)
               have n2_ := AX (below_step bw hb)
               have n3_ := AX (hbox)
               have n4_ := gwl (w := w) hg bw
               have n5_ := gwl (w := w) hg bw
               have n6_ := nbl hg (bkn BK477)
               have n7_ := nbg hg (bkn BK477)
               clear HO462
               clear BK477
               clear HB
               have HO462 := n0_
               have BK477 := n1_
               have HB := n2_
               have BK476 := n3_
               have GW476 := n4_
               have GE476 := n5_
               have NB477_476 := n6_
               have NB476_477 := n7_
               clear n0_ n1_ n2_ n3_ n4_ n5_ n6_ n7_
               clear hb hbox hg
               refine hK.out _ _ ⟨(bcl HB hw452_0), (bcl HB hw452_1), (bcl HB hw452_2), (bcl HB hw452_3), (bcl HB hw452_4), (bcl HB hw452_5), (bcl HB hw452_6), (bcl HB hw452_7), (bcl HB hw452_8), (bcl HB hw452_9), (bcl HB hw452_10), (bcl HB hw452_11), (bcl HB hw452_12), (bcl HB hw452_13), (bcl HB hw452_14), (bcl HB hw452_15), (bcl HB hw464_0), (bcl HB hw464_1), (bcl HB hw464_2), (bcl HB hw464_3), (bcl HB hw464_4), (bcl HB hw464_5), (bcl HB hw464_6), (bcl HB hw464_7), (bcl HB hw464_8), (bcl HB hw464_9), (bcl HB hw464_10), (bcl HB hw464_11), (bcl HB hw464_12), (bcl HB hw464_13), (bcl HB hw464_14), (bcl HB hw464_15)⟩ (fun hHeld => ?_)
               clear hK K
               refine norm_ (a' := ?_) ?_ ?_
               rotate_left
               ·show Act.put _ (some 4) _ = _
                simp only [Act.put, List.setIfInBounds_toArray, List.set_cons_zero, List.set_cons_succ, i64_w, i32_w]
                rfl
               exact norm_ (by first | (simp only [putAll, Act.put, List.setIfInBounds_toArray, List.set_cons_zero, List.set_cons_succ]; done) | (simp only [putAll, Act.put, List.setIfInBounds_toArray, List.set_cons_zero, List.set_cons_succ]; rfl)) (hJ4_10_11 (v461, gb476, gb477) _ ⟨hHeld, (kr HO462), (bkn BK476), (bkn BK477), GW476.out, GE476.out, NB477_476.out, NB476_477.out, GW477.out, GE477.out, bw⟩)
            ·skip
             rintro ⟨v461, gb476⟩ w14 ⟨hS_, h0_, h1_, h2_, h3_, h4_⟩
             have n0_ : Aside0 (Kd.R (Kd.int .i64) 2 w14 w.heap.size (fun _ => True) v461 t460) := ⟨h0_⟩
             have n1_ : Aside0 (w14.heap[gb476]? = some (.cells #[.int .i64 0, .int .i64 0, .int .i64 0, .int .i64 0, .int .i64 0, .int .i64 0, .int .i64 0, .slice none 0 0, .int .i64 0] 48 (0, 0))) := ⟨h1_⟩
             have n2_ : Aside0 (w.heap.size ≤ gb476) := ⟨h2_⟩
             have n3_ : Aside0 (w.heap.size ≤ gb476) := ⟨h3_⟩
             have n4_ : Aside0 (Below w.heap.size w w14) := ⟨h4_⟩
             clear HB
             clear h0_ h1_ h2_ h3_ h4_
             have HO462 := n0_
             have BK476 := n1_
             have GW476 := n2_
             have GE476 := n3_
             have HB := n4_
             clear n0_ n1_ n2_ n3_ n4_
             have hHeld := hS_
             refine norm_ (a' := ?_) ?_ ?_
             rotate_left
             ·simp only [putAll, Act.put, List.setIfInBounds_toArray, List.set_cons_zero, List.set_cons_succ]
              rfl
             refine two_ (i := 9) (j := 11) (Ni := some 22) (Nj := some 5) #[true, true, true, true, true, true, true, true, true, true, true, false, false, false] #[true, true, true, true, true, true, true, true, true, false, true, true, false, false] rfl rfl rfl rfl (two_of HT_.out (by kernel_rfl)) (by decide) (by decide) (fun K hK => ?_) (fun K hK => ?_)
             ·skip
              refine goes_ Try.func23 (by kernel_rfl) rfl #[.agg #[.int .i64 ((rd_T51 l0 x10_1).f0), .int .i64 ((rd_T51 l0 x10_1).f1.f0), .int .i64 ((rd_T51 l0 x10_1).f1.f1), .int .i64 ((rd_T51 l0 x10_1).f1.f2.f0), .int .i64 ((rd_T51 l0 x10_1).f1.f2.f1), .int .i64 ((rd_T51 l0 x10_1).f1.f2.f2), .int .i64 ((rd_T51 l0 x10_1).f1.f2.f3), .int .i64 ((rd_T51 l0 x10_1).f1.f3.f0), .int .i64 ((rd_T51 l0 x10_1).f1.f3.f1), .int .i64 ((rd_T51 l0 x10_1).f1.f3.f2), .int .i64 ((rd_T51 l0 x10_1).f1.f3.f3), .int .i64 ((rd_T51 l0 x10_1).f2), .int .i64 ((rd_T51 l0 x10_1).f3.f0), .int .i64 ((rd_T51 l0 x10_1).f3.f1), .int .i64 ((rd_T51 l0 x10_1).f3.f2), .int .i64 ((rd_T51 l0 x10_1).f4)]] (by rfl) rfl rfl (by (try simp only [List.map_toArray, List.map_cons, List.map_nil]); first | done | rfl | (simp only [List.length_drop, List.length_take]; rfl)) ?_
              with_reducible refine (pylonlaw04_wants.calls k1 ((rd_T51 l0 x10_1).f0) ((rd_T51 l0 x10_1).f1.f0) ((rd_T51 l0 x10_1).f1.f1) ((rd_T51 l0 x10_1).f1.f2.f0) ((rd_T51 l0 x10_1).f1.f2.f1) ((rd_T51 l0 x10_1).f1.f2.f2) ((rd_T51 l0 x10_1).f1.f2.f3) ((rd_T51 l0 x10_1).f1.f3.f0) ((rd_T51 l0 x10_1).f1.f3.f1) ((rd_T51 l0 x10_1).f1.f3.f2) ((rd_T51 l0 x10_1).f1.f3.f3) ((rd_T51 l0 x10_1).f2) ((rd_T51 l0 x10_1).f3.f0) ((rd_T51 l0 x10_1).f3.f1) ((rd_T51 l0 x10_1).f3.f2) ((rd_T51 l0 x10_1).f4) t465 t466 t467 t468 t469 t470 t471 t472 t475 _ A9.out).mono ?_
              rintro e w15 ⟨v473, rfl, ho0, hb⟩
              refine ⟨_, rfl, ?_⟩
              have n0_ := AX (Kd.R_elder' (kr HO462) (Kd.R_base ho0) hb)
              have n1_ := AX (Kd.R_lower (Kd.R_new' ho0 (Kd.R_lt (kr HO462))) (below_size bw))
              have n2_ := AX (bkb BK476 hb)
              have n3_ := AX (below_step bw hb)
              clear HO462
              clear BK476
              clear HB
              have HO462 := n0_
              have HO474 := n1_
              have BK476 := n2_
              have HB := n3_
              clear n0_ n1_ n2_ n3_
              (try clear hb)
              (try clear hb2)
              (try clear hk)
              (try clear hi)
              (try clear ho0)
              refine hK.out _ _ ⟨(bcl HB hw452_0), (bcl HB hw452_1), (bcl HB hw452_2), (bcl HB hw452_3), (bcl HB hw452_4), (bcl HB hw452_5), (bcl HB hw452_6), (bcl HB hw452_7), (bcl HB hw452_8), (bcl HB hw452_9), (bcl HB hw452_10), (bcl HB hw452_11), (bcl HB hw452_12), (bcl HB hw452_13), (bcl HB hw452_14), (bcl HB hw452_15), (bcl HB hw464_0), (bcl HB hw464_1), (bcl HB hw464_2), (bcl HB hw464_3), (bcl HB hw464_4), (bcl HB hw464_5), (bcl HB hw464_6), (bcl HB hw464_7), (bcl HB hw464_8), (bcl HB hw464_9), (bcl HB hw464_10), (bcl HB hw464_11), (bcl HB hw464_12), (bcl HB hw464_13), (bcl HB hw464_14), (bcl HB hw464_15)⟩ (fun hHeld => ?_)
              clear hK K
              refine norm_ (a' := ?_) ?_ ?_
              rotate_left
              ·show Act.put _ (some 22) _ = _
               simp only [Act.put, List.setIfInBounds_toArray, List.set_cons_zero, List.set_cons_succ, i64_w, i32_w]
               rfl
              exact norm_ (by first | (simp only [putAll, Act.put, List.setIfInBounds_toArray, List.set_cons_zero, List.set_cons_succ]; done) | (simp only [putAll, Act.put, List.setIfInBounds_toArray, List.set_cons_zero, List.set_cons_succ]; rfl)) (hJ4_9_10 (v461, v473, gb476) _ ⟨hHeld, (by (with_reducible repeat (first | apply Kd.R_alloc | apply Kd.R_drewN | apply Kd.R_drew)); exact Kd.R_mono HO462.out (fun _ hk => hk.2)), (by (with_reducible repeat (first | apply Kd.R_alloc | apply Kd.R_drewN | apply Kd.R_drew)); exact Kd.R_mono HO474.out (fun _ hk => hk.2)), (bkn BK476), GW476.out, GE476.out, bw⟩)
             ·skip
              refine box_step ?hg (N := 5) ?hd (cs := #[.int .i64 0, .int .i64 0, .int .i64 0, .int .i64 0, .int .i64 0, .int .i64 0, .int .i64 0, .slice none 0 0, .int .i64 0]) (t := 48) ?hr ?_; (case hd => rfl); (case hg => rfl); (case hr => first | (go_simp; done) | (go_simp; rfl))
              intro gb477 hg w15 hbox hb
              have n0_ := AX (Kd.R_below (kr HO462) hb)
              have n1_ := AX (bkb BK476 hb)
              have n2_ := AX (below_step bw hb)
              have n3_ := AX (hbox)
              have n4_ := gwl (w := w) hg bw
              have n5_ := gwl (w := w) hg bw
              have n6_ := nbl hg (bkn BK476)
              have n7_ := nbg hg (bkn BK476)
              clear HO462
              clear BK476
              clear HB
              have HO462 := n0_
              have BK476 := n1_
              have HB := n2_
              have BK477 := n3_
              have GW477 := n4_
              have GE477 := n5_
              have NB476_477 := n6_
              have NB477_476 := n7_
              clear n0_ n1_ n2_ n3_ n4_ n5_ n6_ n7_
              clear hb hbox hg
              refine hK.out _ _ ⟨(bcl HB hw452_0), (bcl HB hw452_1), (bcl HB hw452_2), (bcl HB hw452_3), (bcl HB hw452_4), (bcl HB hw452_5), (bcl HB hw452_6), (bcl HB hw452_7), (bcl HB hw452_8), (bcl HB hw452_9), (bcl HB hw452_10), (bcl HB hw452_11), (bcl HB hw452_12), (bcl HB hw452_13), (bcl HB hw452_14), (bcl HB hw452_15), (bcl HB hw464_0), (bcl HB hw464_1), (bcl HB hw464_2), (bcl HB hw464_3), (bcl HB hw464_4), (bcl HB hw464_5), (bcl HB hw464_6), (bcl HB hw464_7), (bcl HB hw464_8), (bcl HB hw464_9), (bcl HB hw464_10), (bcl HB hw464_11), (bcl HB hw464_12), (bcl HB hw464_13), (bcl HB hw464_14), (bcl HB hw464_15)⟩ (fun hHeld => ?_)
              clear hK K
              refine norm_ (a' := ?_) ?_ ?_
              rotate_left
              ·show Act.put _ (some 5) _ = _
               simp only [Act.put, List.setIfInBounds_toArray, List.set_cons_zero, List.set_cons_succ, i64_w, i32_w]
               rfl
              exact norm_ (by first | (simp only [putAll, Act.put, List.setIfInBounds_toArray, List.set_cons_zero, List.set_cons_succ]; done) | (simp only [putAll, Act.put, List.setIfInBounds_toArray, List.set_cons_zero, List.set_cons_succ]; rfl)) (hJ4_10_11 (v461, gb476, gb477) _ ⟨hHeld, (kr HO462), (bkn BK476), (bkn BK477), GW476.out, GE476.out, NB477_476.out, NB476_477.out, GW477.out, GE477.out, bw⟩)
           ·skip
            rintro ⟨v461, v473⟩ w14 ⟨hS_, h0_, h1_, h2_⟩
            have n0_ : Aside0 (Kd.R (Kd.int .i64) 2 w14 w.heap.size (fun k_ => some k_ ≠ (v473 : Value).ownBlock) v461 t460) := ⟨h0_⟩
            have n1_ : Aside0 (Kd.R (Kd.int .i64) 2 w14 w.heap.size (fun k_ => some k_ ≠ (v461 : Value).ownBlock) v473 t472) := ⟨h1_⟩
            have n2_ : Aside0 (Below w.heap.size w w14) := ⟨h2_⟩
            clear HB
            clear h0_ h1_ h2_
            have HO462 := n0_
            have HO474 := n1_
            have HB := n2_
            clear n0_ n1_ n2_
            have hHeld := hS_
            refine norm_ (a' := ?_) ?_ ?_
            rotate_left
            ·simp only [putAll, Act.put, List.setIfInBounds_toArray, List.set_cons_zero, List.set_cons_succ]
             rfl
            refine two_ (i := 10) (j := 11) (Ni := some 4) (Nj := some 5) #[true, true, true, true, true, true, true, true, true, true, true, false, false, false] #[true, true, true, true, true, true, true, true, true, true, false, true, false, false] rfl rfl rfl rfl (two_of HT_.out (by kernel_rfl)) (by decide) (by decide) (fun K hK => ?_) (fun K hK => ?_)
            ·skip
             refine box_step ?hg (N := 4) ?hd (cs := #[.int .i64 0, .int .i64 0, .int .i64 0, .int .i64 0, .int .i64 0, .int .i64 0, .int .i64 0, .slice none 0 0, .int .i64 0]) (t := 48) ?hr ?_; (case hd => rfl); (case hg => rfl); (case hr => first | (go_simp; done) | (go_simp; rfl))
             intro gb476 hg w15 hbox hb
             have n0_ := AX (Kd.R_below (kr HO462) hb)
             have n1_ := AX (Kd.R_below (kr HO474) hb)
             have n2_ := AX (below_step bw hb)
             have n3_ := AX (hbox)
             have n4_ := gwl (w := w) hg bw
             have n5_ := gwl (w := w) hg bw
             clear HO462
             clear HO474
             clear HB
             have HO462 := n0_
             have HO474 := n1_
             have HB := n2_
             have BK476 := n3_
             have GW476 := n4_
             have GE476 := n5_
             clear n0_ n1_ n2_ n3_ n4_ n5_
             clear hb hbox hg
             refine hK.out _ _ ⟨(bcl HB hw452_0), (bcl HB hw452_1), (bcl HB hw452_2), (bcl HB hw452_3), (bcl HB hw452_4), (bcl HB hw452_5), (bcl HB hw452_6), (bcl HB hw452_7), (bcl HB hw452_8), (bcl HB hw452_9), (bcl HB hw452_10), (bcl HB hw452_11), (bcl HB hw452_12), (bcl HB hw452_13), (bcl HB hw452_14), (bcl HB hw452_15), (bcl HB hw464_0), (bcl HB hw464_1), (bcl HB hw464_2), (bcl HB hw464_3), (bcl HB hw464_4), (bcl HB hw464_5), (bcl HB hw464_6), (bcl HB hw464_7), (bcl HB hw464_8), (bcl HB hw464_9), (bcl HB hw464_10), (bcl HB hw464_11), (bcl HB hw464_12), (bcl HB hw464_13), (bcl HB hw464_14), (bcl HB hw464_15)⟩ (fun hHeld => ?_)
             clear hK K
             refine norm_ (a' := ?_) ?_ ?_
             rotate_left
             ·show Act.put _ (some 4) _ = _
              simp only [Act.put, List.setIfInBounds_toArray, List.set_cons_zero, List.set_cons_succ, i64_w, i32_w]
              rfl
             exact norm_ (by first | (simp only [putAll, Act.put, List.setIfInBounds_toArray, List.set_cons_zero, List.set_cons_succ]; done) | (simp only [putAll, Act.put, List.setIfInBounds_toArray, List.set_cons_zero, List.set_cons_succ]; rfl)) (hJ4_9_10 (v461, v473, gb476) _ ⟨hHeld, (kr HO462), (kr HO474), (bkn BK476), GW476.out, GE476.out, bw⟩)
            ·skip
             refine box_step ?hg (N := 5) ?hd (cs := #[.int .i64 0, .int .i64 0, .int .i64 0, .int .i64 0, .int .i64 0, .int .i64 0, .int .i64 0, .slice none 0 0, .int .i64 0]) (t := 48) ?hr ?_; (case hd => rfl); (case hg => rfl); (case hr => first | (go_simp; done) | (go_simp; rfl))
             intro gb477 hg w15 hbox hb
             have n0_ := AX (Kd.R_below (kr HO462) hb)
             have n1_ := AX (Kd.R_below (kr HO474) hb)
             have n2_ := AX (below_step bw hb)
             have n3_ := AX (hbox)
             have n4_ := gwl (w := w) hg bw
             have n5_ := gwl (w := w) hg bw
             clear HO462
             clear HO474
             clear HB
             have HO462 := n0_
             have HO474 := n1_
             have HB := n2_
             have BK477 := n3_
             have GW477 := n4_
             have GE477 := n5_
             clear n0_ n1_ n2_ n3_ n4_ n5_
             clear hb hbox hg
             refine hK.out _ _ ⟨(bcl HB hw452_0), (bcl HB hw452_1), (bcl HB hw452_2), (bcl HB hw452_3), (bcl HB hw452_4), (bcl HB hw452_5), (bcl HB hw452_6), (bcl HB hw452_7), (bcl HB hw452_8), (bcl HB hw452_9), (bcl HB hw452_10), (bcl HB hw452_11), (bcl HB hw452_12), (bcl HB hw452_13), (bcl HB hw452_14), (bcl HB hw452_15), (bcl HB hw464_0), (bcl HB hw464_1), (bcl HB hw464_2), (bcl HB hw464_3), (bcl HB hw464_4), (bcl HB hw464_5), (bcl HB hw464_6), (bcl HB hw464_7), (bcl HB hw464_8), (bcl HB hw464_9), (bcl HB hw464_10), (bcl HB hw464_11), (bcl HB hw464_12), (bcl HB hw464_13), (bcl HB hw464_14), (bcl HB hw464_15)⟩ (fun hHeld => ?_)
             clear hK K
             refine norm_ (a' := ?_) ?_ ?_
             rotate_left
             ·show Act.put _ (some 5) _ = _
              simp only [Act.put, List.setIfInBounds_toArray, List.set_cons_zero, List.set_cons_succ, i64_w, i32_w]
              rfl
             exact norm_ (by first | (simp only [putAll, Act.put, List.setIfInBounds_toArray, List.set_cons_zero, List.set_cons_succ]; done) | (simp only [putAll, Act.put, List.setIfInBounds_toArray, List.set_cons_zero, List.set_cons_succ]; rfl)) (hJ4_9_11 (v461, v473, gb477) _ ⟨hHeld, (kr HO462), (kr HO474), (bkn BK477), GW477.out, GE477.out, bw⟩)
          ·skip
           rintro ⟨v461, gb476, gb477⟩ w15 ⟨hS_, h0_, h1_, h2_, h3_, h4_, h5_, h6_, h7_, h8_, h9_⟩
           have n0_ : Aside0 (Kd.R (Kd.int .i64) 2 w15 w.heap.size (fun _ => True) v461 t460) := ⟨h0_⟩
           have n1_ : Aside0 (w15.heap[gb476]? = some (.cells #[.int .i64 0, .int .i64 0, .int .i64 0, .int .i64 0, .int .i64 0, .int .i64 0, .int .i64 0, .slice none 0 0, .int .i64 0] 48 (0, 0))) := ⟨h1_⟩
           have n2_ : Aside0 (w15.heap[gb477]? = some (.cells #[.int .i64 0, .int .i64 0, .int .i64 0, .int .i64 0, .int .i64 0, .int .i64 0, .int .i64 0, .slice none 0 0, .int .i64 0] 48 (0, 0))) := ⟨h2_⟩
           have n3_ : Aside0 (w.heap.size ≤ gb476) := ⟨h3_⟩
           have n4_ : Aside0 (w.heap.size ≤ gb476) := ⟨h4_⟩
           have n5_ : Aside0 (gb477 ≠ gb476) := ⟨h5_⟩
           have n6_ : Aside0 (gb476 ≠ gb477) := ⟨h6_⟩
           have n7_ : Aside0 (w.heap.size ≤ gb477) := ⟨h7_⟩
           have n8_ : Aside0 (w.heap.size ≤ gb477) := ⟨h8_⟩
           have n9_ : Aside0 (Below w.heap.size w w15) := ⟨h9_⟩
           clear HB
           clear h0_ h1_ h2_ h3_ h4_ h5_ h6_ h7_ h8_ h9_
           have HO462 := n0_
           have BK476 := n1_
           have BK477 := n2_
           have GW476 := n3_
           have GE476 := n4_
           have NB477_476 := n5_
           have NB476_477 := n6_
           have GW477 := n7_
           have GE477 := n8_
           have HB := n9_
           clear n0_ n1_ n2_ n3_ n4_ n5_ n6_ n7_ n8_ n9_
           have hHeld := hS_
           refine norm_ (a' := ?_) ?_ ?_
           rotate_left
           ·simp only [putAll, Act.put, List.setIfInBounds_toArray, List.set_cons_zero, List.set_cons_succ]
            rfl
           refine one_ (i := 9) (N := some 22) #[true, true, true, true, true, true, true, true, true, true, true, true, false, false] rfl rfl (one_of HT_.out (by kernel_rfl)) (by decide) (fun K hK => ?_)
           refine goes_ Try.func23 (by kernel_rfl) rfl #[.agg #[.int .i64 ((rd_T51 l0 x10_1).f0), .int .i64 ((rd_T51 l0 x10_1).f1.f0), .int .i64 ((rd_T51 l0 x10_1).f1.f1), .int .i64 ((rd_T51 l0 x10_1).f1.f2.f0), .int .i64 ((rd_T51 l0 x10_1).f1.f2.f1), .int .i64 ((rd_T51 l0 x10_1).f1.f2.f2), .int .i64 ((rd_T51 l0 x10_1).f1.f2.f3), .int .i64 ((rd_T51 l0 x10_1).f1.f3.f0), .int .i64 ((rd_T51 l0 x10_1).f1.f3.f1), .int .i64 ((rd_T51 l0 x10_1).f1.f3.f2), .int .i64 ((rd_T51 l0 x10_1).f1.f3.f3), .int .i64 ((rd_T51 l0 x10_1).f2), .int .i64 ((rd_T51 l0 x10_1).f3.f0), .int .i64 ((rd_T51 l0 x10_1).f3.f1), .int .i64 ((rd_T51 l0 x10_1).f3.f2), .int .i64 ((rd_T51 l0 x10_1).f4)]] (by rfl) rfl rfl (by (try simp only [List.map_toArray, List.map_cons, List.map_nil]); first | done | rfl | (simp only [List.length_drop, List.length_take]; rfl)) ?_
           with_reducible refine (pylonlaw04_wants.calls k1 ((rd_T51 l0 x10_1).f0) ((rd_T51 l0 x10_1).f1.f0) ((rd_T51 l0 x10_1).f1.f1) ((rd_T51 l0 x10_1).f1.f2.f0) ((rd_T51 l0 x10_1).f1.f2.f1) ((rd_T51 l0 x10_1).f1.f2.f2) ((rd_T51 l0 x10_1).f1.f2.f3) ((rd_T51 l0 x10_1).f1.f3.f0) ((rd_T51 l0 x10_1).f1.f3.f1) ((rd_T51 l0 x10_1).f1.f3.f2) ((rd_T51 l0 x10_1).f1.f3.f3) ((rd_T51 l0 x10_1).f2) ((rd_T51 l0 x10_1).f3.f0) ((rd_T51 l0 x10_1).f3.f1) ((rd_T51 l0 x10_1).f3.f2) ((rd_T51 l0 x10_1).f4) t465 t466 t467 t468 t469 t470 t471 t472 t475 _ A9.out).mono ?_
           rintro e w16 ⟨v473, rfl, ho0, hb⟩
           refine ⟨_, rfl, ?_⟩
           have n0_ := AX (Kd.R_elder' (kr HO462) (Kd.R_base ho0) hb)
           have n1_ := AX (Kd.R_lower (Kd.R_new' ho0 (Kd.R_lt (kr HO462))) (below_size bw))
           have n2_ := AX (bkb BK476 hb)
           have n3_ := AX (bkb BK477 hb)
           have n4_ := AX (below_step bw hb)
           clear HO462
           clear BK476
           clear BK477
           clear HB
           have HO462 := n0_
           have HO474 := n1_
           have BK476 := n2_
           have BK477 := n3_
           have HB := n4_
           clear n0_ n1_ n2_ n3_ n4_
           (try clear hb)
           (try clear hb2)
           (try clear hk)
           (try clear hi)
           (try clear ho0)
           refine hK.out _ _ ⟨(bcl HB hw452_0), (bcl HB hw452_1), (bcl HB hw452_2), (bcl HB hw452_3), (bcl HB hw452_4), (bcl HB hw452_5), (bcl HB hw452_6), (bcl HB hw452_7), (bcl HB hw452_8), (bcl HB hw452_9), (bcl HB hw452_10), (bcl HB hw452_11), (bcl HB hw452_12), (bcl HB hw452_13), (bcl HB hw452_14), (bcl HB hw452_15), (bcl HB hw464_0), (bcl HB hw464_1), (bcl HB hw464_2), (bcl HB hw464_3), (bcl HB hw464_4), (bcl HB hw464_5), (bcl HB hw464_6), (bcl HB hw464_7), (bcl HB hw464_8), (bcl HB hw464_9), (bcl HB hw464_10), (bcl HB hw464_11), (bcl HB hw464_12), (bcl HB hw464_13), (bcl HB hw464_14), (bcl HB hw464_15)⟩ (fun hHeld => ?_)
           clear hK K
           refine norm_ (a' := ?_) ?_ ?_
           rotate_left
           ·show Act.put _ (some 22) _ = _
            simp only [Act.put, List.setIfInBounds_toArray, List.set_cons_zero, List.set_cons_succ, i64_w, i32_w]
            rfl
           exact norm_ (by first | (simp only [putAll, Act.put, List.setIfInBounds_toArray, List.set_cons_zero, List.set_cons_succ]; done) | (simp only [putAll, Act.put, List.setIfInBounds_toArray, List.set_cons_zero, List.set_cons_succ]; rfl)) (hJ4_9_10_11 (v461, v473, gb476, gb477) _ ⟨hHeld, (by (with_reducible repeat (first | apply Kd.R_alloc | apply Kd.R_drewN | apply Kd.R_drew)); exact Kd.R_mono HO462.out (fun _ hk => hk.2)), (by (with_reducible repeat (first | apply Kd.R_alloc | apply Kd.R_drewN | apply Kd.R_drew)); exact Kd.R_mono HO474.out (fun _ hk => hk.2)), (bkn BK476), (bkn BK477), GW476.out, GE476.out, NB477_476.out, NB476_477.out, GW477.out, GE477.out, bw⟩)
         ·skip
          rintro ⟨v461, v473, gb477⟩ w15 ⟨hS_, h0_, h1_, h2_, h3_, h4_, h5_⟩
          have n0_ : Aside0 (Kd.R (Kd.int .i64) 2 w15 w.heap.size (fun k_ => some k_ ≠ (v473 : Value).ownBlock) v461 t460) := ⟨h0_⟩
          have n1_ : Aside0 (Kd.R (Kd.int .i64) 2 w15 w.heap.size (fun k_ => some k_ ≠ (v461 : Value).ownBlock) v473 t472) := ⟨h1_⟩
          have n2_ : Aside0 (w15.heap[gb477]? = some (.cells #[.int .i64 0, .int .i64 0, .int .i64 0, .int .i64 0, .int .i64 0, .int .i64 0, .int .i64 0, .slice none 0 0, .int .i64 0] 48 (0, 0))) := ⟨h2_⟩
          have n3_ : Aside0 (w.heap.size ≤ gb477) := ⟨h3_⟩
          have n4_ : Aside0 (w.heap.size ≤ gb477) := ⟨h4_⟩
          have n5_ : Aside0 (Below w.heap.size w w15) := ⟨h5_⟩
          clear HB
          clear h0_ h1_ h2_ h3_ h4_ h5_
          have HO462 := n0_
          have HO474 := n1_
          have BK477 := n2_
          have GW477 := n3_
          have GE477 := n4_
          have HB := n5_
          clear n0_ n1_ n2_ n3_ n4_ n5_
          have hHeld := hS_
          refine norm_ (a' := ?_) ?_ ?_
          rotate_left
          ·simp only [putAll, Act.put, List.setIfInBounds_toArray, List.set_cons_zero, List.set_cons_succ]
           rfl
          refine one_ (i := 10) (N := some 4) #[true, true, true, true, true, true, true, true, true, true, true, true, false, false] rfl rfl (one_of HT_.out (by kernel_rfl)) (by decide) (fun K hK => ?_)
          refine box_step ?hg (N := 4) ?hd (cs := #[.int .i64 0, .int .i64 0, .int .i64 0, .int .i64 0, .int .i64 0, .int .i64 0, .int .i64 0, .slice none 0 0, .int .i64 0]) (t := 48) ?hr ?_; (case hd => rfl); (case hg => rfl); (case hr => first | (go_simp; done) | (go_simp; rfl))
          intro gb476 hg w16 hbox hb
          have n0_ := AX (Kd.R_below (kr HO462) hb)
          have n1_ := AX (Kd.R_below (kr HO474) hb)
          have n2_ := AX (bkb BK477 hb)
          have n3_ := AX (below_step bw hb)
          have n4_ := AX (hbox)
          have n5_ := gwl (w := w) hg bw
          have n6_ := gwl (w := w) hg bw
          have n7_ := nbl hg (bkn BK477)
          have n8_ := nbg hg (bkn BK477)
          clear HO462
          clear HO474
          clear BK477
          clear HB
          have HO462 := n0_
          have HO474 := n1_
          have BK477 := n2_
          have HB := n3_
          have BK476 := n4_
          have GW476 := n5_
          have GE476 := n6_
          have NB477_476 := n7_
          have NB476_477 := n8_
          clear n0_ n1_ n2_ n3_ n4_ n5_ n6_ n7_ n8_
          clear hb hbox hg
          refine hK.out _ _ ⟨(bcl HB hw452_0), (bcl HB hw452_1), (bcl HB hw452_2), (bcl HB hw452_3), (bcl HB hw452_4), (bcl HB hw452_5), (bcl HB hw452_6), (bcl HB hw452_7), (bcl HB hw452_8), (bcl HB hw452_9), (bcl HB hw452_10), (bcl HB hw452_11), (bcl HB hw452_12), (bcl HB hw452_13), (bcl HB hw452_14), (bcl HB hw452_15), (bcl HB hw464_0), (bcl HB hw464_1), (bcl HB hw464_2), (bcl HB hw464_3), (bcl HB hw464_4), (bcl HB hw464_5), (bcl HB hw464_6), (bcl HB hw464_7), (bcl HB hw464_8), (bcl HB hw464_9), (bcl HB hw464_10), (bcl HB hw464_11), (bcl HB hw464_12), (bcl HB hw464_13), (bcl HB hw464_14), (bcl HB hw464_15)⟩ (fun hHeld => ?_)
          clear hK K
          refine norm_ (a' := ?_) ?_ ?_
          rotate_left
          ·show Act.put _ (some 4) _ = _
           simp only [Act.put, List.setIfInBounds_toArray, List.set_cons_zero, List.set_cons_succ, i64_w, i32_w]
           rfl
          exact norm_ (by first | (simp only [putAll, Act.put, List.setIfInBounds_toArray, List.set_cons_zero, List.set_cons_succ]; done) | (simp only [putAll, Act.put, List.setIfInBounds_toArray, List.set_cons_zero, List.set_cons_succ]; rfl)) (hJ4_9_10_11 (v461, v473, gb476, gb477) _ ⟨hHeld, (kr HO462), (kr HO474), (bkn BK476), (bkn BK477), GW476.out, GE476.out, NB477_476.out, NB476_477.out, GW477.out, GE477.out, bw⟩)
        ·skip
         rintro ⟨v461, v473, gb476⟩ w15 ⟨hS_, h0_, h1_, h2_, h3_, h4_, h5_⟩
         have n0_ : Aside0 (Kd.R (Kd.int .i64) 2 w15 w.heap.size (fun k_ => some k_ ≠ (v473 : Value).ownBlock) v461 t460) := ⟨h0_⟩
         have n1_ : Aside0 (Kd.R (Kd.int .i64) 2 w15 w.heap.size (fun k_ => some k_ ≠ (v461 : Value).ownBlock) v473 t472) := ⟨h1_⟩
         have n2_ : Aside0 (w15.heap[gb476]? = some (.cells #[.int .i64 0, .int .i64 0, .int .i64 0, .int .i64 0, .int .i64 0, .int .i64 0, .int .i64 0, .slice none 0 0, .int .i64 0] 48 (0, 0))) := ⟨h2_⟩
         have n3_ : Aside0 (w.heap.size ≤ gb476) := ⟨h3_⟩
         have n4_ : Aside0 (w.heap.size ≤ gb476) := ⟨h4_⟩
         have n5_ : Aside0 (Below w.heap.size w w15) := ⟨h5_⟩
         clear HB
         clear h0_ h1_ h2_ h3_ h4_ h5_
         have HO462 := n0_
         have HO474 := n1_
         have BK476 := n2_
         have GW476 := n3_
         have GE476 := n4_
         have HB := n5_
         clear n0_ n1_ n2_ n3_ n4_ n5_
         have hHeld := hS_
         refine norm_ (a' := ?_) ?_ ?_
         rotate_left
         ·simp only [putAll, Act.put, List.setIfInBounds_toArray, List.set_cons_zero, List.set_cons_succ]
          rfl
         refine one_ (i := 11) (N := some 5) #[true, true, true, true, true, true, true, true, true, true, true, true, false, false] rfl rfl (one_of HT_.out (by kernel_rfl)) (by decide) (fun K hK => ?_)
         refine box_step ?hg (N := 5) ?hd (cs := #[.int .i64 0, .int .i64 0, .int .i64 0, .int .i64 0, .int .i64 0, .int .i64 0, .int .i64 0, .slice none 0 0, .int .i64 0]) (t := 48) ?hr ?_; (case hd => rfl); (case hg => rfl); (case hr => first | (go_simp; done) | (go_simp; rfl))
         intro gb477 hg w16 hbox hb
         have n0_ := AX (Kd.R_below (kr HO462) hb)
         have n1_ := AX (Kd.R_below (kr HO474) hb)
         have n2_ := AX (bkb BK476 hb)
         have n3_ := AX (below_step bw hb)
         have n4_ := AX (hbox)
         have n5_ := gwl (w := w) hg bw
         have n6_ := gwl (w := w) hg bw
         have n7_ := nbl hg (bkn BK476)
         have n8_ := nbg hg (bkn BK476)
         clear HO462
         clear HO474
         clear BK476
         clear HB
         have HO462 := n0_
         have HO474 := n1_
         have BK476 := n2_
         have HB := n3_
         have BK477 := n4_
         have GW477 := n5_
         have GE477 := n6_
         have NB476_477 := n7_
         have NB477_476 := n8_
         clear n0_ n1_ n2_ n3_ n4_ n5_ n6_ n7_ n8_
         clear hb hbox hg
         refine hK.out _ _ ⟨(bcl HB hw452_0), (bcl HB hw452_1), (bcl HB hw452_2), (bcl HB hw452_3), (bcl HB hw452_4), (bcl HB hw452_5), (bcl HB hw452_6), (bcl HB hw452_7), (bcl HB hw452_8), (bcl HB hw452_9), (bcl HB hw452_10), (bcl HB hw452_11), (bcl HB hw452_12), (bcl HB hw452_13), (bcl HB hw452_14), (bcl HB hw452_15), (bcl HB hw464_0), (bcl HB hw464_1), (bcl HB hw464_2), (bcl HB hw464_3), (bcl HB hw464_4), (bcl HB hw464_5), (bcl HB hw464_6), (bcl HB hw464_7), (bcl HB hw464_8), (bcl HB hw464_9), (bcl HB hw464_10), (bcl HB hw464_11), (bcl HB hw464_12), (bcl HB hw464_13), (bcl HB hw464_14), (bcl HB hw464_15)⟩ (fun hHeld => ?_)
         clear hK K
         refine norm_ (a' := ?_) ?_ ?_
         rotate_left
         ·show Act.put _ (some 5) _ = _
          simp only [Act.put, List.setIfInBounds_toArray, List.set_cons_zero, List.set_cons_succ, i64_w, i32_w]
          rfl
         exact norm_ (by first | (simp only [putAll, Act.put, List.setIfInBounds_toArray, List.set_cons_zero, List.set_cons_succ]; done) | (simp only [putAll, Act.put, List.setIfInBounds_toArray, List.set_cons_zero, List.set_cons_succ]; rfl)) (hJ4_9_10_11 (v461, v473, gb476, gb477) _ ⟨hHeld, (kr HO462), (kr HO474), (bkn BK476), (bkn BK477), GW476.out, GE476.out, NB477_476.out, NB476_477.out, GW477.out, GE477.out, bw⟩)
       rintro ⟨v461, v473, gb476, gb477⟩ w16 ⟨hS_, h0_, h1_, h2_, h3_, h4_, h5_, h6_, h7_, h8_, h9_, h10_⟩
       have n0_ : Aside0 (Kd.R (Kd.int .i64) 2 w16 w.heap.size (fun k_ => some k_ ≠ (v473 : Value).ownBlock) v461 t460) := ⟨h0_⟩
       have n1_ : Aside0 (Kd.R (Kd.int .i64) 2 w16 w.heap.size (fun k_ => some k_ ≠ (v461 : Value).ownBlock) v473 t472) := ⟨h1_⟩
       have n2_ : Aside0 (w16.heap[gb476]? = some (.cells #[.int .i64 0, .int .i64 0, .int .i64 0, .int .i64 0, .int .i64 0, .int .i64 0, .int .i64 0, .slice none 0 0, .int .i64 0] 48 (0, 0))) := ⟨h2_⟩
       have n3_ : Aside0 (w16.heap[gb477]? = some (.cells #[.int .i64 0, .int .i64 0, .int .i64 0, .int .i64 0, .int .i64 0, .int .i64 0, .int .i64 0, .slice none 0 0, .int .i64 0] 48 (0, 0))) := ⟨h3_⟩
       have n4_ : Aside0 (w.heap.size ≤ gb476) := ⟨h4_⟩
       have n5_ : Aside0 (w.heap.size ≤ gb476) := ⟨h5_⟩
       have n6_ : Aside0 (gb477 ≠ gb476) := ⟨h6_⟩
       have n7_ : Aside0 (gb476 ≠ gb477) := ⟨h7_⟩
       have n8_ : Aside0 (w.heap.size ≤ gb477) := ⟨h8_⟩
       have n9_ : Aside0 (w.heap.size ≤ gb477) := ⟨h9_⟩
       have n10_ : Aside0 (Below w.heap.size w w16) := ⟨h10_⟩
       clear HB
       clear h0_ h1_ h2_ h3_ h4_ h5_ h6_ h7_ h8_ h9_ h10_
       have HO462 := n0_
       have HO474 := n1_
       have BK476 := n2_
       have BK477 := n3_
       have GW476 := n4_
       have GE476 := n5_
       have NB477_476 := n6_
       have NB476_477 := n7_
       have GW477 := n8_
       have GE477 := n9_
       have HB := n10_
       clear n0_ n1_ n2_ n3_ n4_ n5_ n6_ n7_ n8_ n9_ n10_
       have hHeld := hS_
       obtain ⟨Ao24, co24, eo24⟩ := Kd.R_slice HO462.out
       (first | subst eo24 | (injection eo24 with f1_ f2_ f3_; have f4_ := f1_.symm; have f5_ := f3_.symm; clear f1_ f2_ f3_; subst f4_; subst f5_))
       obtain ⟨Ao34, co34, eo34⟩ := Kd.R_slice HO474.out
       (first | subst eo34 | (injection eo34 with f1_ f2_ f3_; have f4_ := f1_.symm; have f5_ := f3_.symm; clear f1_ f2_ f3_; subst f4_; subst f5_))
       refine norm_ (a' := ?_) ?_ ?_
       rotate_left
       ·simp only [putAll, Act.put, List.setIfInBounds_toArray, List.set_cons_zero, List.set_cons_succ]
        rfl
       refine one_ (i := 12) (N := none) #[true, true, true, true, true, true, true, true, true, true, true, true, true, false] rfl rfl (one_of HT_.out (by kernel_rfl)) (by decide) (fun K hK => ?_)
       have hs17 : w16.cell? ⟨gb476, 0, none⟩ = some (.int .i64 0) := (blk_cell BK476.out 0).trans rfl
       have hfs17 := blk_frozen BK476.out 0
       have hns17_1 := NB477_476.out
       have hms17_1 := NB476_477.out
       have hs18 : w16.cell? ⟨gb476, 1, none⟩ = some (.int .i64 0) := (blk_cell BK476.out 1).trans rfl
       have hfs18 := blk_frozen BK476.out 1
       have hns18_1 := NB477_476.out
       have hms18_1 := NB476_477.out
       have hs19 : w16.cell? ⟨gb476, 2, none⟩ = some (.int .i64 0) := (blk_cell BK476.out 2).trans rfl
       have hfs19 := blk_frozen BK476.out 2
       have hns19_1 := NB477_476.out
       have hms19_1 := NB476_477.out
       have hs20 : w16.cell? ⟨gb476, 3, none⟩ = some (.int .i64 0) := (blk_cell BK476.out 3).trans rfl
       have hfs20 := blk_frozen BK476.out 3
       have hns20_1 := NB477_476.out
       have hms20_1 := NB476_477.out
       have hs21 : w16.cell? ⟨gb476, 4, none⟩ = some (.int .i64 0) := (blk_cell BK476.out 4).trans rfl
       have hfs21 := blk_frozen BK476.out 4
       have hns21_1 := NB477_476.out
       have hms21_1 := NB476_477.out
       have hs22 : w16.cell? ⟨gb476, 5, none⟩ = some (.int .i64 0) := (blk_cell BK476.out 5).trans rfl
       have hfs22 := blk_frozen BK476.out 5
       have hns22_1 := NB477_476.out
       have hms22_1 := NB476_477.out
       have hs23 : w16.cell? ⟨gb476, 6, none⟩ = some (.int .i64 0) := (blk_cell BK476.out 6).trans rfl
       have hfs23 := blk_frozen BK476.out 6
       have hns23_1 := NB477_476.out
       have hms23_1 := NB476_477.out
       have hs25 : w16.cell? ⟨gb476, 7, none⟩ = some (.slice none 0 0) := (blk_cell BK476.out 7).trans rfl
       have hfs25 := blk_frozen BK476.out 7
       have hns25_1 := NB477_476.out
       have hms25_1 := NB476_477.out
       have hs26 : w16.cell? ⟨gb476, 8, none⟩ = some (.int .i64 0) := (blk_cell BK476.out 8).trans rfl
       have hfs26 := blk_frozen BK476.out 8
       have hns26_1 := NB477_476.out
       have hms26_1 := NB476_477.out
       refine skip_ (w1 := ?_) (by rfl) rfl ?_ ?_
       rotate_left
       ·go_simp
        rfl
       refine hK.out _ _ ⟨(far9 GW476 hw452_0).trans hHeld.1, (far9 GW476 hw452_1).trans hHeld.2.1, (far9 GW476 hw452_2).trans hHeld.2.2.1, (far9 GW476 hw452_3).trans hHeld.2.2.2.1, (far9 GW476 hw452_4).trans hHeld.2.2.2.2.1, (far9 GW476 hw452_5).trans hHeld.2.2.2.2.2.1, (far9 GW476 hw452_6).trans hHeld.2.2.2.2.2.2.1, (far9 GW476 hw452_7).trans hHeld.2.2.2.2.2.2.2.1, (far9 GW476 hw452_8).trans hHeld.2.2.2.2.2.2.2.2.1, (far9 GW476 hw452_9).trans hHeld.2.2.2.2.2.2.2.2.2.1, (far9 GW476 hw452_10).trans hHeld.2.2.2.2.2.2.2.2.2.2.1, (far9 GW476 hw452_11).trans hHeld.2.2.2.2.2.2.2.2.2.2.2.1, (far9 GW476 hw452_12).trans hHeld.2.2.2.2.2.2.2.2.2.2.2.2.1, (far9 GW476 hw452_13).trans hHeld.2.2.2.2.2.2.2.2.2.2.2.2.2.1, (far9 GW476 hw452_14).trans hHeld.2.2.2.2.2.2.2.2.2.2.2.2.2.2.1, (far9 GW476 hw452_15).trans hHeld.2.2.2.2.2.2.2.2.2.2.2.2.2.2.2.1, (far9 GW476 hw464_0).trans hHeld.2.2.2.2.2.2.2.2.2.2.2.2.2.2.2.2.1, (far9 GW476 hw464_1).trans hHeld.2.2.2.2.2.2.2.2.2.2.2.2.2.2.2.2.2.1, (far9 GW476 hw464_2).trans hHeld.2.2.2.2.2.2.2.2.2.2.2.2.2.2.2.2.2.2.1, (far9 GW476 hw464_3).trans hHeld.2.2.2.2.2.2.2.2.2.2.2.2.2.2.2.2.2.2.2.1, (far9 GW476 hw464_4).trans hHeld.2.2.2.2.2.2.2.2.2.2.2.2.2.2.2.2.2.2.2.2.1, (far9 GW476 hw464_5).trans hHeld.2.2.2.2.2.2.2.2.2.2.2.2.2.2.2.2.2.2.2.2.2.1, (far9 GW476 hw464_6).trans hHeld.2.2.2.2.2.2.2.2.2.2.2.2.2.2.2.2.2.2.2.2.2.2.1, (far9 GW476 hw464_7).trans hHeld.2.2.2.2.2.2.2.2.2.2.2.2.2.2.2.2.2.2.2.2.2.2.2.1, (far9 GW476 hw464_8).trans hHeld.2.2.2.2.2.2.2.2.2.2.2.2.2.2.2.2.2.2.2.2.2.2.2.2.1, (far9 GW476 hw464_9).trans hHeld.2.2.2.2.2.2.2.2.2.2.2.2.2.2.2.2.2.2.2.2.2.2.2.2.2.1, (far9 GW476 hw464_10).trans hHeld.2.2.2.2.2.2.2.2.2.2.2.2.2.2.2.2.2.2.2.2.2.2.2.2.2.2.1, (far9 GW476 hw464_11).trans hHeld.2.2.2.2.2.2.2.2.2.2.2.2.2.2.2.2.2.2.2.2.2.2.2.2.2.2.2.1, (far9 GW476 hw464_12).trans hHeld.2.2.2.2.2.2.2.2.2.2.2.2.2.2.2.2.2.2.2.2.2.2.2.2.2.2.2.2.1, (far9 GW476 hw464_13).trans hHeld.2.2.2.2.2.2.2.2.2.2.2.2.2.2.2.2.2.2.2.2.2.2.2.2.2.2.2.2.2.1, (far9 GW476 hw464_14).trans hHeld.2.2.2.2.2.2.2.2.2.2.2.2.2.2.2.2.2.2.2.2.2.2.2.2.2.2.2.2.2.2.1, (far9 GW476 hw464_15).trans hHeld.2.2.2.2.2.2.2.2.2.2.2.2.2.2.2.2.2.2.2.2.2.2.2.2.2.2.2.2.2.2.2⟩ (fun hHeld => ?_)
       clear hK K
       refine one_ (i := 13) (N := none) #[true, true, true, true, true, true, true, true, true, true, true, true, true, true] rfl rfl (one_of HT_.out (by kernel_rfl)) (by decide) (fun K hK => ?_)
       have hs27 : w16.cell? ⟨gb477, 0, none⟩ = some (.int .i64 0) := (blk_cell BK477.out 0).trans rfl
       have hfs27 := blk_frozen BK477.out 0
       have hns27_0 := NB476_477.out
       have hms27_0 := NB477_476.out
       have hs28 : w16.cell? ⟨gb477, 1, none⟩ = some (.int .i64 0) := (blk_cell BK477.out 1).trans rfl
       have hfs28 := blk_frozen BK477.out 1
       have hns28_0 := NB476_477.out
       have hms28_0 := NB477_476.out
       have hs29 : w16.cell? ⟨gb477, 2, none⟩ = some (.int .i64 0) := (blk_cell BK477.out 2).trans rfl
       have hfs29 := blk_frozen BK477.out 2
       have hns29_0 := NB476_477.out
       have hms29_0 := NB477_476.out
       have hs30 : w16.cell? ⟨gb477, 3, none⟩ = some (.int .i64 0) := (blk_cell BK477.out 3).trans rfl
       have hfs30 := blk_frozen BK477.out 3
       have hns30_0 := NB476_477.out
       have hms30_0 := NB477_476.out
       have hs31 : w16.cell? ⟨gb477, 4, none⟩ = some (.int .i64 0) := (blk_cell BK477.out 4).trans rfl
       have hfs31 := blk_frozen BK477.out 4
       have hns31_0 := NB476_477.out
       have hms31_0 := NB477_476.out
       have hs32 : w16.cell? ⟨gb477, 5, none⟩ = some (.int .i64 0) := (blk_cell BK477.out 5).trans rfl
       have hfs32 := blk_frozen BK477.out 5
       have hns32_0 := NB476_477.out
       have hms32_0 := NB477_476.out
       have hs33 : w16.cell? ⟨gb477, 6, none⟩ = some (.int .i64 0) := (blk_cell BK477.out 6).trans rfl
       have hfs33 := blk_frozen BK477.out 6
       have hns33_0 := NB476_477.out
       have hms33_0 := NB477_476.out
       have hs35 : w16.cell? ⟨gb477, 7, none⟩ = some (.slice none 0 0) := (blk_cell BK477.out 7).trans rfl
       have hfs35 := blk_frozen BK477.out 7
       have hns35_0 := NB476_477.out
       have hms35_0 := NB477_476.out
       have hs36 : w16.cell? ⟨gb477, 8, none⟩ = some (.int .i64 0) := (blk_cell BK477.out 8).trans rfl
       have hfs36 := blk_frozen BK477.out 8
       have hns36_0 := NB476_477.out
       have hms36_0 := NB477_476.out
       refine skip_ (w1 := ?_) ?hw ?hN ?_ ?_
       case hw => rfl
       case hN => rfl
       rotate_left
       ·go_simp
        rfl
       refine hK.out _ _ ⟨(far9 GW477 hw452_0).trans hHeld.1, (far9 GW477 hw452_1).trans hHeld.2.1, (far9 GW477 hw452_2).trans hHeld.2.2.1, (far9 GW477 hw452_3).trans hHeld.2.2.2.1, (far9 GW477 hw452_4).trans hHeld.2.2.2.2.1, (far9 GW477 hw452_5).trans hHeld.2.2.2.2.2.1, (far9 GW477 hw452_6).trans hHeld.2.2.2.2.2.2.1, (far9 GW477 hw452_7).trans hHeld.2.2.2.2.2.2.2.1, (far9 GW477 hw452_8).trans hHeld.2.2.2.2.2.2.2.2.1, (far9 GW477 hw452_9).trans hHeld.2.2.2.2.2.2.2.2.2.1, (far9 GW477 hw452_10).trans hHeld.2.2.2.2.2.2.2.2.2.2.1, (far9 GW477 hw452_11).trans hHeld.2.2.2.2.2.2.2.2.2.2.2.1, (far9 GW477 hw452_12).trans hHeld.2.2.2.2.2.2.2.2.2.2.2.2.1, (far9 GW477 hw452_13).trans hHeld.2.2.2.2.2.2.2.2.2.2.2.2.2.1, (far9 GW477 hw452_14).trans hHeld.2.2.2.2.2.2.2.2.2.2.2.2.2.2.1, (far9 GW477 hw452_15).trans hHeld.2.2.2.2.2.2.2.2.2.2.2.2.2.2.2.1, (far9 GW477 hw464_0).trans hHeld.2.2.2.2.2.2.2.2.2.2.2.2.2.2.2.2.1, (far9 GW477 hw464_1).trans hHeld.2.2.2.2.2.2.2.2.2.2.2.2.2.2.2.2.2.1, (far9 GW477 hw464_2).trans hHeld.2.2.2.2.2.2.2.2.2.2.2.2.2.2.2.2.2.2.1, (far9 GW477 hw464_3).trans hHeld.2.2.2.2.2.2.2.2.2.2.2.2.2.2.2.2.2.2.2.1, (far9 GW477 hw464_4).trans hHeld.2.2.2.2.2.2.2.2.2.2.2.2.2.2.2.2.2.2.2.2.1, (far9 GW477 hw464_5).trans hHeld.2.2.2.2.2.2.2.2.2.2.2.2.2.2.2.2.2.2.2.2.2.1, (far9 GW477 hw464_6).trans hHeld.2.2.2.2.2.2.2.2.2.2.2.2.2.2.2.2.2.2.2.2.2.2.1, (far9 GW477 hw464_7).trans hHeld.2.2.2.2.2.2.2.2.2.2.2.2.2.2.2.2.2.2.2.2.2.2.2.1, (far9 GW477 hw464_8).trans hHeld.2.2.2.2.2.2.2.2.2.2.2.2.2.2.2.2.2.2.2.2.2.2.2.2.1, (far9 GW477 hw464_9).trans hHeld.2.2.2.2.2.2.2.2.2.2.2.2.2.2.2.2.2.2.2.2.2.2.2.2.2.1, (far9 GW477 hw464_10).trans hHeld.2.2.2.2.2.2.2.2.2.2.2.2.2.2.2.2.2.2.2.2.2.2.2.2.2.2.1, (far9 GW477 hw464_11).trans hHeld.2.2.2.2.2.2.2.2.2.2.2.2.2.2.2.2.2.2.2.2.2.2.2.2.2.2.2.1, (far9 GW477 hw464_12).trans hHeld.2.2.2.2.2.2.2.2.2.2.2.2.2.2.2.2.2.2.2.2.2.2.2.2.2.2.2.2.1, (far9 GW477 hw464_13).trans hHeld.2.2.2.2.2.2.2.2.2.2.2.2.2.2.2.2.2.2.2.2.2.2.2.2.2.2.2.2.2.1, (far9 GW477 hw464_14).trans hHeld.2.2.2.2.2.2.2.2.2.2.2.2.2.2.2.2.2.2.2.2.2.2.2.2.2.2.2.2.2.2.1, (far9 GW477 hw464_15).trans hHeld.2.2.2.2.2.2.2.2.2.2.2.2.2.2.2.2.2.2.2.2.2.2.2.2.2.2.2.2.2.2.2⟩ (fun hHeld => ?_)
       clear hK K
       refine done_ (done_of HT_.out (by kernel_rfl)) ?_
       go_upto_region 7 with (fail)
       go_cut [56] (fun v56 wc => ∃ (kq : Nat) (x56_9 : Bool), v56 = .bool x56_9 ∧ Aside0 (pylonlaw04_ZoneAll.j1 kq l0 (l0.length : Int) x10_1 x56_9 = some r) ∧ Aside0 (kq ≤ k1) ∧ Aside0 (Kd.R (Kd.int .i64) 2 wc w.heap.size (fun k_ => some k_ ≠ ((.slice Ao34 t472.length co34) : Value).ownBlock) (.slice Ao24 t460.length co24) t460) ∧ Aside0 (Kd.R (Kd.int .i64) 2 wc w.heap.size (fun k_ => some k_ ≠ ((.slice Ao24 t460.length co24) : Value).ownBlock) (.slice Ao34 t472.length co34) t472) ∧ Aside0 (wc.heap[gb476]? = some (.cells #[.int .i64 t453, .int .i64 t454, .int .i64 t455, .int .i64 t456, .int .i64 t457, .int .i64 t458, .int .i64 t459, (.slice Ao24 t460.length co24), .int .i64 t463] 48 (0, 0))) ∧ Aside0 (wc.heap[gb477]? = some (.cells #[.int .i64 t465, .int .i64 t466, .int .i64 t467, .int .i64 t468, .int .i64 t469, .int .i64 t470, .int .i64 t471, (.slice Ao34 t472.length co34), .int .i64 t475] 48 (0, 0))) ∧ Aside0 (Below w.heap.size w wc))
       case first =>
        have H := HC10.out
        clear HC10
        by_cases c37 : ((!(t453 == t465) || (!(t454 == t466) || (!(t455 == t467)))) || (!(t456 == t468) || (!(t457 == t469)))) = true
        ·rw [if_pos c37] at H
         have c37b0 : ((!(t453 == t465) || (!(t454 == t466) || (!(t455 == t467)))) || (!(t456 == t468) || (!(t457 == t469)))) = true := c37
         clear c37
         (first | rw [c37b0] | (simp only [i64_w, i32_w]; rw [c37b0]) | skip)
         have H' := AX H
         clear H
         have hnb38 := NB476_477.out
         have hnc38 := NB477_476.out
         obtain ⟨hcz39_0, hcz39_1, hcz39_2, hcz39_3, hcz39_4, hcz39_5, hcz39_6, hcz39_7, hcz39_8⟩ := blkC9 (w := w16) BK476.out
         obtain ⟨hfz39_0, hfz39_1, hfz39_2, hfz39_3, hfz39_4, hfz39_5, hfz39_6, hfz39_7, hfz39_8⟩ := blkF9 BK476.out
         obtain ⟨hcz40_0, hcz40_1, hcz40_2, hcz40_3, hcz40_4, hcz40_5, hcz40_6, hcz40_7, hcz40_8⟩ := blkC9 (w := w16) BK477.out
         obtain ⟨hfz40_0, hfz40_1, hfz40_2, hfz40_3, hfz40_4, hfz40_5, hfz40_6, hfz40_7, hfz40_8⟩ := blkF9 BK477.out
         go_wp2
         go_meet
         case rel => exact ⟨_, (true), (by first | rfl | (simp; done) | (simp [*]; done)), H', ⟨by have := HK1.out; first | omega | exact Nat.le_refl _⟩, ⟨by (with_reducible repeat (first | apply Kd.R_alloc | apply Kd.R_drewN | apply Kd.R_drew)); exact Kd.R_mono (Kd.R_far (p := ⟨gb477, 8, none⟩) (Kd.R_far (p := ⟨gb477, 7, none⟩) (Kd.R_far (p := ⟨gb477, 6, none⟩) (Kd.R_far (p := ⟨gb477, 5, none⟩) (Kd.R_far (p := ⟨gb477, 4, none⟩) (Kd.R_far (p := ⟨gb477, 3, none⟩) (Kd.R_far (p := ⟨gb477, 2, none⟩) (Kd.R_far (p := ⟨gb477, 1, none⟩) (Kd.R_far (p := ⟨gb477, 0, none⟩) (Kd.R_far (p := ⟨gb476, 8, none⟩) (Kd.R_far (p := ⟨gb476, 7, none⟩) (Kd.R_far (p := ⟨gb476, 6, none⟩) (Kd.R_far (p := ⟨gb476, 5, none⟩) (Kd.R_far (p := ⟨gb476, 4, none⟩) (Kd.R_far (p := ⟨gb476, 3, none⟩) (Kd.R_far (p := ⟨gb476, 2, none⟩) (Kd.R_far (p := ⟨gb476, 1, none⟩) (Kd.R_far (p := ⟨gb476, 0, none⟩) (Kd.R_types (Kd.R_types HO462.out BK476.out (by decide)) BK477.out (by decide)) (fun _ hk => hk.1.2) (.int .i64 t453)) (fun _ hk => hk.1.2) (.int .i64 t454)) (fun _ hk => hk.1.2) (.int .i64 t455)) (fun _ hk => hk.1.2) (.int .i64 t456)) (fun _ hk => hk.1.2) (.int .i64 t457)) (fun _ hk => hk.1.2) (.int .i64 t458)) (fun _ hk => hk.1.2) (.int .i64 t459)) (fun _ hk => hk.1.2) (.slice Ao24 t460.length co24)) (fun _ hk => hk.1.2) (.int .i64 t463)) (fun _ hk => hk.2) (.int .i64 t465)) (fun _ hk => hk.2) (.int .i64 t466)) (fun _ hk => hk.2) (.int .i64 t467)) (fun _ hk => hk.2) (.int .i64 t468)) (fun _ hk => hk.2) (.int .i64 t469)) (fun _ hk => hk.2) (.int .i64 t470)) (fun _ hk => hk.2) (.int .i64 t471)) (fun _ hk => hk.2) (.slice Ao34 t472.length co34)) (fun _ hk => hk.2) (.int .i64 t475)) (fun _ hk => hk.1.1)⟩, ⟨by (with_reducible repeat (first | apply Kd.R_alloc | apply Kd.R_drewN | apply Kd.R_drew)); exact Kd.R_mono (Kd.R_far (p := ⟨gb477, 8, none⟩) (Kd.R_far (p := ⟨gb477, 7, none⟩) (Kd.R_far (p := ⟨gb477, 6, none⟩) (Kd.R_far (p := ⟨gb477, 5, none⟩) (Kd.R_far (p := ⟨gb477, 4, none⟩) (Kd.R_far (p := ⟨gb477, 3, none⟩) (Kd.R_far (p := ⟨gb477, 2, none⟩) (Kd.R_far (p := ⟨gb477, 1, none⟩) (Kd.R_far (p := ⟨gb477, 0, none⟩) (Kd.R_far (p := ⟨gb476, 8, none⟩) (Kd.R_far (p := ⟨gb476, 7, none⟩) (Kd.R_far (p := ⟨gb476, 6, none⟩) (Kd.R_far (p := ⟨gb476, 5, none⟩) (Kd.R_far (p := ⟨gb476, 4, none⟩) (Kd.R_far (p := ⟨gb476, 3, none⟩) (Kd.R_far (p := ⟨gb476, 2, none⟩) (Kd.R_far (p := ⟨gb476, 1, none⟩) (Kd.R_far (p := ⟨gb476, 0, none⟩) (Kd.R_types (Kd.R_types HO474.out BK476.out (by decide)) BK477.out (by decide)) (fun _ hk => hk.1.2) (.int .i64 t453)) (fun _ hk => hk.1.2) (.int .i64 t454)) (fun _ hk => hk.1.2) (.int .i64 t455)) (fun _ hk => hk.1.2) (.int .i64 t456)) (fun _ hk => hk.1.2) (.int .i64 t457)) (fun _ hk => hk.1.2) (.int .i64 t458)) (fun _ hk => hk.1.2) (.int .i64 t459)) (fun _ hk => hk.1.2) (.slice Ao24 t460.length co24)) (fun _ hk => hk.1.2) (.int .i64 t463)) (fun _ hk => hk.2) (.int .i64 t465)) (fun _ hk => hk.2) (.int .i64 t466)) (fun _ hk => hk.2) (.int .i64 t467)) (fun _ hk => hk.2) (.int .i64 t468)) (fun _ hk => hk.2) (.int .i64 t469)) (fun _ hk => hk.2) (.int .i64 t470)) (fun _ hk => hk.2) (.int .i64 t471)) (fun _ hk => hk.2) (.slice Ao34 t472.length co34)) (fun _ hk => hk.2) (.int .i64 t475)) (fun _ hk => hk.1.1)⟩, ⟨by (with_reducible repeat first|refine blk_drewN ?_ _|refine blk_drew ?_|refine blk_alloc ?_ _); refine blk_far ?_ NB476_477.out _; (with_reducible repeat first|refine blk_drewN ?_ _|refine blk_drew ?_|refine blk_alloc ?_ _); refine blk_far ?_ NB476_477.out _; (with_reducible repeat first|refine blk_drewN ?_ _|refine blk_drew ?_|refine blk_alloc ?_ _); refine blk_far ?_ NB476_477.out _; (with_reducible repeat first|refine blk_drewN ?_ _|refine blk_drew ?_|refine blk_alloc ?_ _); refine blk_far ?_ NB476_477.out _; (with_reducible repeat first|refine blk_drewN ?_ _|refine blk_drew ?_|refine blk_alloc ?_ _); refine blk_far ?_ NB476_477.out _; (with_reducible repeat first|refine blk_drewN ?_ _|refine blk_drew ?_|refine blk_alloc ?_ _); refine blk_far ?_ NB476_477.out _; (with_reducible repeat first|refine blk_drewN ?_ _|refine blk_drew ?_|refine blk_alloc ?_ _); refine blk_far ?_ NB476_477.out _; (with_reducible repeat first|refine blk_drewN ?_ _|refine blk_drew ?_|refine blk_alloc ?_ _); refine blk_far ?_ NB476_477.out _; (with_reducible repeat first|refine blk_drewN ?_ _|refine blk_drew ?_|refine blk_alloc ?_ _); refine blk_far ?_ NB476_477.out _; (with_reducible repeat first|refine blk_drewN ?_ _|refine blk_drew ?_|refine blk_alloc ?_ _); refine blk_put (cs := #[.int .i64 t453, .int .i64 t454, .int .i64 t455, .int .i64 t456, .int .i64 t457, .int .i64 t458, .int .i64 t459, .slice Ao24 t460.length co24, .int .i64 0]) ?_ 8 _ rfl; (with_reducible repeat first|refine blk_drewN ?_ _|refine blk_drew ?_|refine blk_alloc ?_ _); refine blk_put (cs := #[.int .i64 t453, .int .i64 t454, .int .i64 t455, .int .i64 t456, .int .i64 t457, .int .i64 t458, .int .i64 t459, .slice none 0 0, .int .i64 0]) ?_ 7 _ rfl; (with_reducible repeat first|refine blk_drewN ?_ _|refine blk_drew ?_|refine blk_alloc ?_ _); refine blk_put (cs := #[.int .i64 t453, .int .i64 t454, .int .i64 t455, .int .i64 t456, .int .i64 t457, .int .i64 t458, .int .i64 0, .slice none 0 0, .int .i64 0]) ?_ 6 _ rfl; (with_reducible repeat first|refine blk_drewN ?_ _|refine blk_drew ?_|refine blk_alloc ?_ _); refine blk_put (cs := #[.int .i64 t453, .int .i64 t454, .int .i64 t455, .int .i64 t456, .int .i64 t457, .int .i64 0, .int .i64 0, .slice none 0 0, .int .i64 0]) ?_ 5 _ rfl; (with_reducible repeat first|refine blk_drewN ?_ _|refine blk_drew ?_|refine blk_alloc ?_ _); refine blk_put (cs := #[.int .i64 t453, .int .i64 t454, .int .i64 t455, .int .i64 t456, .int .i64 0, .int .i64 0, .int .i64 0, .slice none 0 0, .int .i64 0]) ?_ 4 _ rfl; (with_reducible repeat first|refine blk_drewN ?_ _|refine blk_drew ?_|refine blk_alloc ?_ _); refine blk_put (cs := #[.int .i64 t453, .int .i64 t454, .int .i64 t455, .int .i64 0, .int .i64 0, .int .i64 0, .int .i64 0, .slice none 0 0, .int .i64 0]) ?_ 3 _ rfl; (with_reducible repeat first|refine blk_drewN ?_ _|refine blk_drew ?_|refine blk_alloc ?_ _); refine blk_put (cs := #[.int .i64 t453, .int .i64 t454, .int .i64 0, .int .i64 0, .int .i64 0, .int .i64 0, .int .i64 0, .slice none 0 0, .int .i64 0]) ?_ 2 _ rfl; (with_reducible repeat first|refine blk_drewN ?_ _|refine blk_drew ?_|refine blk_alloc ?_ _); refine blk_put (cs := #[.int .i64 t453, .int .i64 0, .int .i64 0, .int .i64 0, .int .i64 0, .int .i64 0, .int .i64 0, .slice none 0 0, .int .i64 0]) ?_ 1 _ rfl; (with_reducible repeat first|refine blk_drewN ?_ _|refine blk_drew ?_|refine blk_alloc ?_ _); refine blk_put (cs := #[.int .i64 0, .int .i64 0, .int .i64 0, .int .i64 0, .int .i64 0, .int .i64 0, .int .i64 0, .slice none 0 0, .int .i64 0]) ?_ 0 _ rfl; (with_reducible repeat first|refine blk_drewN ?_ _|refine blk_drew ?_|refine blk_alloc ?_ _); exact BK476.out⟩, ⟨by (with_reducible repeat first|refine blk_drewN ?_ _|refine blk_drew ?_|refine blk_alloc ?_ _); refine blk_put (cs := #[.int .i64 t465, .int .i64 t466, .int .i64 t467, .int .i64 t468, .int .i64 t469, .int .i64 t470, .int .i64 t471, .slice Ao34 t472.length co34, .int .i64 0]) ?_ 8 _ rfl; (with_reducible repeat first|refine blk_drewN ?_ _|refine blk_drew ?_|refine blk_alloc ?_ _); refine blk_put (cs := #[.int .i64 t465, .int .i64 t466, .int .i64 t467, .int .i64 t468, .int .i64 t469, .int .i64 t470, .int .i64 t471, .slice none 0 0, .int .i64 0]) ?_ 7 _ rfl; (with_reducible repeat first|refine blk_drewN ?_ _|refine blk_drew ?_|refine blk_alloc ?_ _); refine blk_put (cs := #[.int .i64 t465, .int .i64 t466, .int .i64 t467, .int .i64 t468, .int .i64 t469, .int .i64 t470, .int .i64 0, .slice none 0 0, .int .i64 0]) ?_ 6 _ rfl; (with_reducible repeat first|refine blk_drewN ?_ _|refine blk_drew ?_|refine blk_alloc ?_ _); refine blk_put (cs := #[.int .i64 t465, .int .i64 t466, .int .i64 t467, .int .i64 t468, .int .i64 t469, .int .i64 0, .int .i64 0, .slice none 0 0, .int .i64 0]) ?_ 5 _ rfl; (with_reducible repeat first|refine blk_drewN ?_ _|refine blk_drew ?_|refine blk_alloc ?_ _); refine blk_put (cs := #[.int .i64 t465, .int .i64 t466, .int .i64 t467, .int .i64 t468, .int .i64 0, .int .i64 0, .int .i64 0, .slice none 0 0, .int .i64 0]) ?_ 4 _ rfl; (with_reducible repeat first|refine blk_drewN ?_ _|refine blk_drew ?_|refine blk_alloc ?_ _); refine blk_put (cs := #[.int .i64 t465, .int .i64 t466, .int .i64 t467, .int .i64 0, .int .i64 0, .int .i64 0, .int .i64 0, .slice none 0 0, .int .i64 0]) ?_ 3 _ rfl; (with_reducible repeat first|refine blk_drewN ?_ _|refine blk_drew ?_|refine blk_alloc ?_ _); refine blk_put (cs := #[.int .i64 t465, .int .i64 t466, .int .i64 0, .int .i64 0, .int .i64 0, .int .i64 0, .int .i64 0, .slice none 0 0, .int .i64 0]) ?_ 2 _ rfl; (with_reducible repeat first|refine blk_drewN ?_ _|refine blk_drew ?_|refine blk_alloc ?_ _); refine blk_put (cs := #[.int .i64 t465, .int .i64 0, .int .i64 0, .int .i64 0, .int .i64 0, .int .i64 0, .int .i64 0, .slice none 0 0, .int .i64 0]) ?_ 1 _ rfl; (with_reducible repeat first|refine blk_drewN ?_ _|refine blk_drew ?_|refine blk_alloc ?_ _); refine blk_put (cs := #[.int .i64 0, .int .i64 0, .int .i64 0, .int .i64 0, .int .i64 0, .int .i64 0, .int .i64 0, .slice none 0 0, .int .i64 0]) ?_ 0 _ rfl; (with_reducible repeat first|refine blk_drewN ?_ _|refine blk_drew ?_|refine blk_alloc ?_ _); refine blk_far ?_ NB477_476.out _; (with_reducible repeat first|refine blk_drewN ?_ _|refine blk_drew ?_|refine blk_alloc ?_ _); refine blk_far ?_ NB477_476.out _; (with_reducible repeat first|refine blk_drewN ?_ _|refine blk_drew ?_|refine blk_alloc ?_ _); refine blk_far ?_ NB477_476.out _; (with_reducible repeat first|refine blk_drewN ?_ _|refine blk_drew ?_|refine blk_alloc ?_ _); refine blk_far ?_ NB477_476.out _; (with_reducible repeat first|refine blk_drewN ?_ _|refine blk_drew ?_|refine blk_alloc ?_ _); refine blk_far ?_ NB477_476.out _; (with_reducible repeat first|refine blk_drewN ?_ _|refine blk_drew ?_|refine blk_alloc ?_ _); refine blk_far ?_ NB477_476.out _; (with_reducible repeat first|refine blk_drewN ?_ _|refine blk_drew ?_|refine blk_alloc ?_ _); refine blk_far ?_ NB477_476.out _; (with_reducible repeat first|refine blk_drewN ?_ _|refine blk_drew ?_|refine blk_alloc ?_ _); refine blk_far ?_ NB477_476.out _; (with_reducible repeat first|refine blk_drewN ?_ _|refine blk_drew ?_|refine blk_alloc ?_ _); refine blk_far ?_ NB477_476.out _; (with_reducible repeat first|refine blk_drewN ?_ _|refine blk_drew ?_|refine blk_alloc ?_ _); exact BK477.out⟩, ⟨bw⟩⟩
        ·rw [if_neg c37] at H
         have c37b0 : ((!(t453 == t465) || (!(t454 == t466) || (!(t455 == t467)))) || (!(t456 == t468) || (!(t457 == t469)))) = false := by simpa using c37
         clear c37
         (first | rw [c37b0] | (simp only [i64_w, i32_w]; rw [c37b0]) | skip)
         by_cases c41 : t458 = t470
         ·rw [if_pos c41] at H
          have c41b0 : (t458 == t470) = true := beq_iff_eq.mpr c41
          have c41b1 : (t458 != t470) = false := bne_eq_false_iff_eq.mpr c41
          clear c41
          by_cases c42 : t459 = t471
          ·rw [if_pos c42] at H
           have c42b0 : (t459 == t471) = true := beq_iff_eq.mpr c42
           have c42b1 : (t459 != t471) = false := bne_eq_false_iff_eq.mpr c42
           clear c42
           by_cases c43 : t463 = t475
           ·rw [if_pos c43] at H
            have c43b0 : (t463 == t475) = true := beq_iff_eq.mpr c43
            have c43b1 : (t463 != t475) = false := bne_eq_false_iff_eq.mpr c43
            clear c43
            replace H := Option.bind_eq_some_iff.mp H
            obtain ⟨t478, A440, H⟩ := H
            replace H : (pylonlaw04_ZoneAll.j1 k1 l0 (l0.length : Int) x10_1 (!t478)) = some r := H
            have A44 := AX A440
            clear A440
            have H' := AX H
            clear H
            have hnb45 := NB476_477.out
            have hnc45 := NB477_476.out
            obtain ⟨hcz46_0, hcz46_1, hcz46_2, hcz46_3, hcz46_4, hcz46_5, hcz46_6, hcz46_7, hcz46_8⟩ := blkC9 (w := w16) BK476.out
            obtain ⟨hfz46_0, hfz46_1, hfz46_2, hfz46_3, hfz46_4, hfz46_5, hfz46_6, hfz46_7, hfz46_8⟩ := blkF9 BK476.out
            obtain ⟨hcz47_0, hcz47_1, hcz47_2, hcz47_3, hcz47_4, hcz47_5, hcz47_6, hcz47_7, hcz47_8⟩ := blkC9 (w := w16) BK477.out
            obtain ⟨hfz47_0, hfz47_1, hfz47_2, hfz47_3, hfz47_4, hfz47_5, hfz47_6, hfz47_7, hfz47_8⟩ := blkF9 BK477.out
            go_wp2_with (first | (go_at_call 24; (with_reducible refine (pylonref01_SameNumbers.calls k1 _ _ t460 _ _ t472 t478 _ ?side1 ?side2 ?side3 ?side4 A44.out).mono ?_); (case side1 => refine (Kd.R_reads' (e := 2) (base := w.heap.size) (ok := fun k_ => some k_ ≠ (.slice Ao34 t472.length co34 : Value).ownBlock) (n := t460.length) (c := co24) ?_).2.2; exact (by (with_reducible repeat (first | apply Kd.R_alloc | apply Kd.R_drewN | apply Kd.R_drew)); exact (Kd.R_mono (Kd.R_mono (Kd.R_far (p := ⟨gb477, 8, none⟩) (Kd.R_far (p := ⟨gb477, 7, none⟩) (Kd.R_far (p := ⟨gb477, 6, none⟩) (Kd.R_far (p := ⟨gb477, 5, none⟩) (Kd.R_far (p := ⟨gb477, 4, none⟩) (Kd.R_far (p := ⟨gb477, 3, none⟩) (Kd.R_far (p := ⟨gb477, 2, none⟩) (Kd.R_far (p := ⟨gb477, 1, none⟩) (Kd.R_far (p := ⟨gb477, 0, none⟩) (Kd.R_far (p := ⟨gb476, 8, none⟩) (Kd.R_far (p := ⟨gb476, 7, none⟩) (Kd.R_far (p := ⟨gb476, 6, none⟩) (Kd.R_far (p := ⟨gb476, 5, none⟩) (Kd.R_far (p := ⟨gb476, 4, none⟩) (Kd.R_far (p := ⟨gb476, 3, none⟩) (Kd.R_far (p := ⟨gb476, 2, none⟩) (Kd.R_far (p := ⟨gb476, 1, none⟩) (Kd.R_far (p := ⟨gb476, 0, none⟩) (Kd.R_types (Kd.R_types HO462.out BK476.out (by decide)) BK477.out (by decide)) (fun _ hk => hk.1.2) (.int .i64 t453)) (fun _ hk => hk.1.2) (.int .i64 t454)) (fun _ hk => hk.1.2) (.int .i64 t455)) (fun _ hk => hk.1.2) (.int .i64 t456)) (fun _ hk => hk.1.2) (.int .i64 t457)) (fun _ hk => hk.1.2) (.int .i64 t458)) (fun _ hk => hk.1.2) (.int .i64 t459)) (fun _ hk => hk.1.2) (.slice Ao24 t460.length co24)) (fun _ hk => hk.1.2) (.int .i64 t463)) (fun _ hk => hk.2) (.int .i64 t465)) (fun _ hk => hk.2) (.int .i64 t466)) (fun _ hk => hk.2) (.int .i64 t467)) (fun _ hk => hk.2) (.int .i64 t468)) (fun _ hk => hk.2) (.int .i64 t469)) (fun _ hk => hk.2) (.int .i64 t470)) (fun _ hk => hk.2) (.int .i64 t471)) (fun _ hk => hk.2) (.slice Ao34 t472.length co34)) (fun _ hk => hk.2) (.int .i64 t475)) (fun _ h_ => h_.1)) (fun _ h_ => h_.1)))); (case side2 => exact (Kd.R_reads' HO462.out).2.1); (case side3 => refine (Kd.R_reads' (e := 2) (base := w.heap.size) (ok := fun k_ => some k_ ≠ (.slice Ao24 t460.length co24 : Value).ownBlock) (n := t472.length) (c := co34) ?_).2.2; exact (by (with_reducible repeat (first | apply Kd.R_alloc | apply Kd.R_drewN | apply Kd.R_drew)); exact (Kd.R_mono (Kd.R_mono (Kd.R_far (p := ⟨gb477, 8, none⟩) (Kd.R_far (p := ⟨gb477, 7, none⟩) (Kd.R_far (p := ⟨gb477, 6, none⟩) (Kd.R_far (p := ⟨gb477, 5, none⟩) (Kd.R_far (p := ⟨gb477, 4, none⟩) (Kd.R_far (p := ⟨gb477, 3, none⟩) (Kd.R_far (p := ⟨gb477, 2, none⟩) (Kd.R_far (p := ⟨gb477, 1, none⟩) (Kd.R_far (p := ⟨gb477, 0, none⟩) (Kd.R_far (p := ⟨gb476, 8, none⟩) (Kd.R_far (p := ⟨gb476, 7, none⟩) (Kd.R_far (p := ⟨gb476, 6, none⟩) (Kd.R_far (p := ⟨gb476, 5, none⟩) (Kd.R_far (p := ⟨gb476, 4, none⟩) (Kd.R_far (p := ⟨gb476, 3, none⟩) (Kd.R_far (p := ⟨gb476, 2, none⟩) (Kd.R_far (p := ⟨gb476, 1, none⟩) (Kd.R_far (p := ⟨gb476, 0, none⟩) (Kd.R_types (Kd.R_types HO474.out BK476.out (by decide)) BK477.out (by decide)) (fun _ hk => hk.1.2) (.int .i64 t453)) (fun _ hk => hk.1.2) (.int .i64 t454)) (fun _ hk => hk.1.2) (.int .i64 t455)) (fun _ hk => hk.1.2) (.int .i64 t456)) (fun _ hk => hk.1.2) (.int .i64 t457)) (fun _ hk => hk.1.2) (.int .i64 t458)) (fun _ hk => hk.1.2) (.int .i64 t459)) (fun _ hk => hk.1.2) (.slice Ao24 t460.length co24)) (fun _ hk => hk.1.2) (.int .i64 t463)) (fun _ hk => hk.2) (.int .i64 t465)) (fun _ hk => hk.2) (.int .i64 t466)) (fun _ hk => hk.2) (.int .i64 t467)) (fun _ hk => hk.2) (.int .i64 t468)) (fun _ hk => hk.2) (.int .i64 t469)) (fun _ hk => hk.2) (.int .i64 t470)) (fun _ hk => hk.2) (.int .i64 t471)) (fun _ hk => hk.2) (.slice Ao34 t472.length co34)) (fun _ hk => hk.2) (.int .i64 t475)) (fun _ h_ => h_.1)) (fun _ h_ => h_.1)))); (case side4 => exact (Kd.R_reads' HO474.out).2.1); rintro e w' ⟨rfl, ⟨nd, rfl⟩⟩))
            go_meet
            case rel => exact ⟨_, (!t478), (by first | rfl | (simp; done) | (simp [*]; done)), H', ⟨by have := HK1.out; first | omega | exact Nat.le_refl _⟩, ⟨by (with_reducible repeat (first | apply Kd.R_alloc | apply Kd.R_drewN | apply Kd.R_drew)); exact Kd.R_mono (Kd.R_far (p := ⟨gb477, 8, none⟩) (Kd.R_far (p := ⟨gb477, 7, none⟩) (Kd.R_far (p := ⟨gb477, 6, none⟩) (Kd.R_far (p := ⟨gb477, 5, none⟩) (Kd.R_far (p := ⟨gb477, 4, none⟩) (Kd.R_far (p := ⟨gb477, 3, none⟩) (Kd.R_far (p := ⟨gb477, 2, none⟩) (Kd.R_far (p := ⟨gb477, 1, none⟩) (Kd.R_far (p := ⟨gb477, 0, none⟩) (Kd.R_far (p := ⟨gb476, 8, none⟩) (Kd.R_far (p := ⟨gb476, 7, none⟩) (Kd.R_far (p := ⟨gb476, 6, none⟩) (Kd.R_far (p := ⟨gb476, 5, none⟩) (Kd.R_far (p := ⟨gb476, 4, none⟩) (Kd.R_far (p := ⟨gb476, 3, none⟩) (Kd.R_far (p := ⟨gb476, 2, none⟩) (Kd.R_far (p := ⟨gb476, 1, none⟩) (Kd.R_far (p := ⟨gb476, 0, none⟩) (Kd.R_types (Kd.R_types HO462.out BK476.out (by decide)) BK477.out (by decide)) (fun _ hk => hk.1.2) (.int .i64 t453)) (fun _ hk => hk.1.2) (.int .i64 t454)) (fun _ hk => hk.1.2) (.int .i64 t455)) (fun _ hk => hk.1.2) (.int .i64 t456)) (fun _ hk => hk.1.2) (.int .i64 t457)) (fun _ hk => hk.1.2) (.int .i64 t458)) (fun _ hk => hk.1.2) (.int .i64 t459)) (fun _ hk => hk.1.2) (.slice Ao24 t460.length co24)) (fun _ hk => hk.1.2) (.int .i64 t463)) (fun _ hk => hk.2) (.int .i64 t465)) (fun _ hk => hk.2) (.int .i64 t466)) (fun _ hk => hk.2) (.int .i64 t467)) (fun _ hk => hk.2) (.int .i64 t468)) (fun _ hk => hk.2) (.int .i64 t469)) (fun _ hk => hk.2) (.int .i64 t470)) (fun _ hk => hk.2) (.int .i64 t471)) (fun _ hk => hk.2) (.slice Ao34 t472.length co34)) (fun _ hk => hk.2) (.int .i64 t475)) (fun _ hk => hk.1.1)⟩, ⟨by (with_reducible repeat (first | apply Kd.R_alloc | apply Kd.R_drewN | apply Kd.R_drew)); exact Kd.R_mono (Kd.R_far (p := ⟨gb477, 8, none⟩) (Kd.R_far (p := ⟨gb477, 7, none⟩) (Kd.R_far (p := ⟨gb477, 6, none⟩) (Kd.R_far (p := ⟨gb477, 5, none⟩) (Kd.R_far (p := ⟨gb477, 4, none⟩) (Kd.R_far (p := ⟨gb477, 3, none⟩) (Kd.R_far (p := ⟨gb477, 2, none⟩) (Kd.R_far (p := ⟨gb477, 1, none⟩) (Kd.R_far (p := ⟨gb477, 0, none⟩) (Kd.R_far (p := ⟨gb476, 8, none⟩) (Kd.R_far (p := ⟨gb476, 7, none⟩) (Kd.R_far (p := ⟨gb476, 6, none⟩) (Kd.R_far (p := ⟨gb476, 5, none⟩) (Kd.R_far (p := ⟨gb476, 4, none⟩) (Kd.R_far (p := ⟨gb476, 3, none⟩) (Kd.R_far (p := ⟨gb476, 2, none⟩) (Kd.R_far (p := ⟨gb476, 1, none⟩) (Kd.R_far (p := ⟨gb476, 0, none⟩) (Kd.R_types (Kd.R_types HO474.out BK476.out (by decide)) BK477.out (by decide)) (fun _ hk => hk.1.2) (.int .i64 t453)) (fun _ hk => hk.1.2) (.int .i64 t454)) (fun _ hk => hk.1.2) (.int .i64 t455)) (fun _ hk => hk.1.2) (.int .i64 t456)) (fun _ hk => hk.1.2) (.int .i64 t457)) (fun _ hk => hk.1.2) (.int .i64 t458)) (fun _ hk => hk.1.2) (.int .i64 t459)) (fun _ hk => hk.1.2) (.slice Ao24 t460.length co24)) (fun _ hk => hk.1.2) (.int .i64 t463)) (fun _ hk => hk.2) (.int .i64 t465)) (fun _ hk => hk.2) (.int .i64 t466)) (fun _ hk => hk.2) (.int .i64 t467)) (fun _ hk => hk.2) (.int .i64 t468)) (fun _ hk => hk.2) (.int .i64 t469)) (fun _ hk => hk.2) (.int .i64 t470)) (fun _ hk => hk.2) (.int .i64 t471)) (fun _ hk => hk.2) (.slice Ao34 t472.length co34)) (fun _ hk => hk.2) (.int .i64 t475)) (fun _ hk => hk.1.1)⟩, ⟨by (with_reducible repeat first|refine blk_drewN ?_ _|refine blk_drew ?_|refine blk_alloc ?_ _); refine blk_far ?_ NB476_477.out _; (with_reducible repeat first|refine blk_drewN ?_ _|refine blk_drew ?_|refine blk_alloc ?_ _); refine blk_far ?_ NB476_477.out _; (with_reducible repeat first|refine blk_drewN ?_ _|refine blk_drew ?_|refine blk_alloc ?_ _); refine blk_far ?_ NB476_477.out _; (with_reducible repeat first|refine blk_drewN ?_ _|refine blk_drew ?_|refine blk_alloc ?_ _); refine blk_far ?_ NB476_477.out _; (with_reducible repeat first|refine blk_drewN ?_ _|refine blk_drew ?_|refine blk_alloc ?_ _); refine blk_far ?_ NB476_477.out _; (with_reducible repeat first|refine blk_drewN ?_ _|refine blk_drew ?_|refine blk_alloc ?_ _); refine blk_far ?_ NB476_477.out _; (with_reducible repeat first|refine blk_drewN ?_ _|refine blk_drew ?_|refine blk_alloc ?_ _); refine blk_far ?_ NB476_477.out _; (with_reducible repeat first|refine blk_drewN ?_ _|refine blk_drew ?_|refine blk_alloc ?_ _); refine blk_far ?_ NB476_477.out _; (with_reducible repeat first|refine blk_drewN ?_ _|refine blk_drew ?_|refine blk_alloc ?_ _); refine blk_far ?_ NB476_477.out _; (with_reducible repeat first|refine blk_drewN ?_ _|refine blk_drew ?_|refine blk_alloc ?_ _); refine blk_put (cs := #[.int .i64 t453, .int .i64 t454, .int .i64 t455, .int .i64 t456, .int .i64 t457, .int .i64 t458, .int .i64 t459, .slice Ao24 t460.length co24, .int .i64 0]) ?_ 8 _ rfl; (with_reducible repeat first|refine blk_drewN ?_ _|refine blk_drew ?_|refine blk_alloc ?_ _); refine blk_put (cs := #[.int .i64 t453, .int .i64 t454, .int .i64 t455, .int .i64 t456, .int .i64 t457, .int .i64 t458, .int .i64 t459, .slice none 0 0, .int .i64 0]) ?_ 7 _ rfl; (with_reducible repeat first|refine blk_drewN ?_ _|refine blk_drew ?_|refine blk_alloc ?_ _); refine blk_put (cs := #[.int .i64 t453, .int .i64 t454, .int .i64 t455, .int .i64 t456, .int .i64 t457, .int .i64 t458, .int .i64 0, .slice none 0 0, .int .i64 0]) ?_ 6 _ rfl; (with_reducible repeat first|refine blk_drewN ?_ _|refine blk_drew ?_|refine blk_alloc ?_ _); refine blk_put (cs := #[.int .i64 t453, .int .i64 t454, .int .i64 t455, .int .i64 t456, .int .i64 t457, .int .i64 0, .int .i64 0, .slice none 0 0, .int .i64 0]) ?_ 5 _ rfl; (with_reducible repeat first|refine blk_drewN ?_ _|refine blk_drew ?_|refine blk_alloc ?_ _); refine blk_put (cs := #[.int .i64 t453, .int .i64 t454, .int .i64 t455, .int .i64 t456, .int .i64 0, .int .i64 0, .int .i64 0, .slice none 0 0, .int .i64 0]) ?_ 4 _ rfl; (with_reducible repeat first|refine blk_drewN ?_ _|refine blk_drew ?_|refine blk_alloc ?_ _); refine blk_put (cs := #[.int .i64 t453, .int .i64 t454, .int .i64 t455, .int .i64 0, .int .i64 0, .int .i64 0, .int .i64 0, .slice none 0 0, .int .i64 0]) ?_ 3 _ rfl; (with_reducible repeat first|refine blk_drewN ?_ _|refine blk_drew ?_|refine blk_alloc ?_ _); refine blk_put (cs := #[.int .i64 t453, .int .i64 t454, .int .i64 0, .int .i64 0, .int .i64 0, .int .i64 0, .int .i64 0, .slice none 0 0, .int .i64 0]) ?_ 2 _ rfl; (with_reducible repeat first|refine blk_drewN ?_ _|refine blk_drew ?_|refine blk_alloc ?_ _); refine blk_put (cs := #[.int .i64 t453, .int .i64 0, .int .i64 0, .int .i64 0, .int .i64 0, .int .i64 0, .int .i64 0, .slice none 0 0, .int .i64 0]) ?_ 1 _ rfl; (with_reducible repeat first|refine blk_drewN ?_ _|refine blk_drew ?_|refine blk_alloc ?_ _); refine blk_put (cs := #[.int .i64 0, .int .i64 0, .int .i64 0, .int .i64 0, .int .i64 0, .int .i64 0, .int .i64 0, .slice none 0 0, .int .i64 0]) ?_ 0 _ rfl; (with_reducible repeat first|refine blk_drewN ?_ _|refine blk_drew ?_|refine blk_alloc ?_ _); exact BK476.out⟩, ⟨by (with_reducible repeat first|refine blk_drewN ?_ _|refine blk_drew ?_|refine blk_alloc ?_ _); refine blk_put (cs := #[.int .i64 t465, .int .i64 t466, .int .i64 t467, .int .i64 t468, .int .i64 t469, .int .i64 t470, .int .i64 t471, .slice Ao34 t472.length co34, .int .i64 0]) ?_ 8 _ rfl; (with_reducible repeat first|refine blk_drewN ?_ _|refine blk_drew ?_|refine blk_alloc ?_ _); refine blk_put (cs := #[.int .i64 t465, .int .i64 t466, .int .i64 t467, .int .i64 t468, .int .i64 t469, .int .i64 t470, .int .i64 t471, .slice none 0 0, .int .i64 0]) ?_ 7 _ rfl; (with_reducible repeat first|refine blk_drewN ?_ _|refine blk_drew ?_|refine blk_alloc ?_ _); refine blk_put (cs := #[.int .i64 t465, .int .i64 t466, .int .i64 t467, .int .i64 t468, .int .i64 t469, .int .i64 t470, .int .i64 0, .slice none 0 0, .int .i64 0]) ?_ 6 _ rfl; (with_reducible repeat first|refine blk_drewN ?_ _|refine blk_drew ?_|refine blk_alloc ?_ _); refine blk_put (cs := #[.int .i64 t465, .int .i64 t466, .int .i64 t467, .int .i64 t468, .int .i64 t469, .int .i64 0, .int .i64 0, .slice none 0 0, .int .i64 0]) ?_ 5 _ rfl; (with_reducible repeat first|refine blk_drewN ?_ _|refine blk_drew ?_|refine blk_alloc ?_ _); refine blk_put (cs := #[.int .i64 t465, .int .i64 t466, .int .i64 t467, .int .i64 t468, .int .i64 0, .int .i64 0, .int .i64 0, .slice none 0 0, .int .i64 0]) ?_ 4 _ rfl; (with_reducible repeat first|refine blk_drewN ?_ _|refine blk_drew ?_|refine blk_alloc ?_ _); refine blk_put (cs := #[.int .i64 t465, .int .i64 t466, .int .i64 t467, .int .i64 0, .int .i64 0, .int .i64 0, .int .i64 0, .slice none 0 0, .int .i64 0]) ?_ 3 _ rfl; (with_reducible repeat first|refine blk_drewN ?_ _|refine blk_drew ?_|refine blk_alloc ?_ _); refine blk_put (cs := #[.int .i64 t465, .int .i64 t466, .int .i64 0, .int .i64 0, .int .i64 0, .int .i64 0, .int .i64 0, .slice none 0 0, .int .i64 0]) ?_ 2 _ rfl; (with_reducible repeat first|refine blk_drewN ?_ _|refine blk_drew ?_|refine blk_alloc ?_ _); refine blk_put (cs := #[.int .i64 t465, .int .i64 0, .int .i64 0, .int .i64 0, .int .i64 0, .int .i64 0, .int .i64 0, .slice none 0 0, .int .i64 0]) ?_ 1 _ rfl; (with_reducible repeat first|refine blk_drewN ?_ _|refine blk_drew ?_|refine blk_alloc ?_ _); refine blk_put (cs := #[.int .i64 0, .int .i64 0, .int .i64 0, .int .i64 0, .int .i64 0, .int .i64 0, .int .i64 0, .slice none 0 0, .int .i64 0]) ?_ 0 _ rfl; (with_reducible repeat first|refine blk_drewN ?_ _|refine blk_drew ?_|refine blk_alloc ?_ _); refine blk_far ?_ NB477_476.out _; (with_reducible repeat first|refine blk_drewN ?_ _|refine blk_drew ?_|refine blk_alloc ?_ _); refine blk_far ?_ NB477_476.out _; (with_reducible repeat first|refine blk_drewN ?_ _|refine blk_drew ?_|refine blk_alloc ?_ _); refine blk_far ?_ NB477_476.out _; (with_reducible repeat first|refine blk_drewN ?_ _|refine blk_drew ?_|refine blk_alloc ?_ _); refine blk_far ?_ NB477_476.out _; (with_reducible repeat first|refine blk_drewN ?_ _|refine blk_drew ?_|refine blk_alloc ?_ _); refine blk_far ?_ NB477_476.out _; (with_reducible repeat first|refine blk_drewN ?_ _|refine blk_drew ?_|refine blk_alloc ?_ _); refine blk_far ?_ NB477_476.out _; (with_reducible repeat first|refine blk_drewN ?_ _|refine blk_drew ?_|refine blk_alloc ?_ _); refine blk_far ?_ NB477_476.out _; (with_reducible repeat first|refine blk_drewN ?_ _|refine blk_drew ?_|refine blk_alloc ?_ _); refine blk_far ?_ NB477_476.out _; (with_reducible repeat first|refine blk_drewN ?_ _|refine blk_drew ?_|refine blk_alloc ?_ _); refine blk_far ?_ NB477_476.out _; (with_reducible repeat first|refine blk_drewN ?_ _|refine blk_drew ?_|refine blk_alloc ?_ _); exact BK477.out⟩, ⟨bw⟩⟩
           ·rw [if_neg c43] at H
            have c43b0 : (t463 == t475) = false := beq_eq_false_iff_ne.mpr c43
            have c43b1 : (t463 != t475) = true := bne_iff_ne.mpr c43
            have H' := AX H
            clear H
            have hnb48 := NB476_477.out
            have hnc48 := NB477_476.out
            obtain ⟨hcz49_0, hcz49_1, hcz49_2, hcz49_3, hcz49_4, hcz49_5, hcz49_6, hcz49_7, hcz49_8⟩ := blkC9 (w := w16) BK476.out
            obtain ⟨hfz49_0, hfz49_1, hfz49_2, hfz49_3, hfz49_4, hfz49_5, hfz49_6, hfz49_7, hfz49_8⟩ := blkF9 BK476.out
            obtain ⟨hcz50_0, hcz50_1, hcz50_2, hcz50_3, hcz50_4, hcz50_5, hcz50_6, hcz50_7, hcz50_8⟩ := blkC9 (w := w16) BK477.out
            obtain ⟨hfz50_0, hfz50_1, hfz50_2, hfz50_3, hfz50_4, hfz50_5, hfz50_6, hfz50_7, hfz50_8⟩ := blkF9 BK477.out
            go_wp2
            go_meet
            case rel => exact ⟨_, (true), (by first | rfl | (simp; done) | (simp [*]; done)), H', ⟨by have := HK1.out; first | omega | exact Nat.le_refl _⟩, ⟨by (with_reducible repeat (first | apply Kd.R_alloc | apply Kd.R_drewN | apply Kd.R_drew)); exact Kd.R_mono (Kd.R_far (p := ⟨gb477, 8, none⟩) (Kd.R_far (p := ⟨gb477, 7, none⟩) (Kd.R_far (p := ⟨gb477, 6, none⟩) (Kd.R_far (p := ⟨gb477, 5, none⟩) (Kd.R_far (p := ⟨gb477, 4, none⟩) (Kd.R_far (p := ⟨gb477, 3, none⟩) (Kd.R_far (p := ⟨gb477, 2, none⟩) (Kd.R_far (p := ⟨gb477, 1, none⟩) (Kd.R_far (p := ⟨gb477, 0, none⟩) (Kd.R_far (p := ⟨gb476, 8, none⟩) (Kd.R_far (p := ⟨gb476, 7, none⟩) (Kd.R_far (p := ⟨gb476, 6, none⟩) (Kd.R_far (p := ⟨gb476, 5, none⟩) (Kd.R_far (p := ⟨gb476, 4, none⟩) (Kd.R_far (p := ⟨gb476, 3, none⟩) (Kd.R_far (p := ⟨gb476, 2, none⟩) (Kd.R_far (p := ⟨gb476, 1, none⟩) (Kd.R_far (p := ⟨gb476, 0, none⟩) (Kd.R_types (Kd.R_types HO462.out BK476.out (by decide)) BK477.out (by decide)) (fun _ hk => hk.1.2) (.int .i64 t453)) (fun _ hk => hk.1.2) (.int .i64 t454)) (fun _ hk => hk.1.2) (.int .i64 t455)) (fun _ hk => hk.1.2) (.int .i64 t456)) (fun _ hk => hk.1.2) (.int .i64 t457)) (fun _ hk => hk.1.2) (.int .i64 t458)) (fun _ hk => hk.1.2) (.int .i64 t459)) (fun _ hk => hk.1.2) (.slice Ao24 t460.length co24)) (fun _ hk => hk.1.2) (.int .i64 t463)) (fun _ hk => hk.2) (.int .i64 t465)) (fun _ hk => hk.2) (.int .i64 t466)) (fun _ hk => hk.2) (.int .i64 t467)) (fun _ hk => hk.2) (.int .i64 t468)) (fun _ hk => hk.2) (.int .i64 t469)) (fun _ hk => hk.2) (.int .i64 t470)) (fun _ hk => hk.2) (.int .i64 t471)) (fun _ hk => hk.2) (.slice Ao34 t472.length co34)) (fun _ hk => hk.2) (.int .i64 t475)) (fun _ hk => hk.1.1)⟩, ⟨by (with_reducible repeat (first | apply Kd.R_alloc | apply Kd.R_drewN | apply Kd.R_drew)); exact Kd.R_mono (Kd.R_far (p := ⟨gb477, 8, none⟩) (Kd.R_far (p := ⟨gb477, 7, none⟩) (Kd.R_far (p := ⟨gb477, 6, none⟩) (Kd.R_far (p := ⟨gb477, 5, none⟩) (Kd.R_far (p := ⟨gb477, 4, none⟩) (Kd.R_far (p := ⟨gb477, 3, none⟩) (Kd.R_far (p := ⟨gb477, 2, none⟩) (Kd.R_far (p := ⟨gb477, 1, none⟩) (Kd.R_far (p := ⟨gb477, 0, none⟩) (Kd.R_far (p := ⟨gb476, 8, none⟩) (Kd.R_far (p := ⟨gb476, 7, none⟩) (Kd.R_far (p := ⟨gb476, 6, none⟩) (Kd.R_far (p := ⟨gb476, 5, none⟩) (Kd.R_far (p := ⟨gb476, 4, none⟩) (Kd.R_far (p := ⟨gb476, 3, none⟩) (Kd.R_far (p := ⟨gb476, 2, none⟩) (Kd.R_far (p := ⟨gb476, 1, none⟩) (Kd.R_far (p := ⟨gb476, 0, none⟩) (Kd.R_types (Kd.R_types HO474.out BK476.out (by decide)) BK477.out (by decide)) (fun _ hk => hk.1.2) (.int .i64 t453)) (fun _ hk => hk.1.2) (.int .i64 t454)) (fun _ hk => hk.1.2) (.int .i64 t455)) (fun _ hk => hk.1.2) (.int .i64 t456)) (fun _ hk => hk.1.2) (.int .i64 t457)) (fun _ hk => hk.1.2) (.int .i64 t458)) (fun _ hk => hk.1.2) (.int .i64 t459)) (fun _ hk => hk.1.2) (.slice Ao24 t460.length co24)) (fun _ hk => hk.1.2) (.int .i64 t463)) (fun _ hk => hk.2) (.int .i64 t465)) (fun _ hk => hk.2) (.int .i64 t466)) (fun _ hk => hk.2) (.int .i64 t467)) (fun _ hk => hk.2) (.int .i64 t468)) (fun _ hk => hk.2) (.int .i64 t469)) (fun _ hk => hk.2) (.int .i64 t470)) (fun _ hk => hk.2) (.int .i64 t471)) (fun _ hk => hk.2) (.slice Ao34 t472.length co34)) (fun _ hk => hk.2) (.int .i64 t475)) (fun _ hk => hk.1.1)⟩, ⟨by (with_reducible repeat first|refine blk_drewN ?_ _|refine blk_drew ?_|refine blk_alloc ?_ _); refine blk_far ?_ NB476_477.out _; (with_reducible repeat first|refine blk_drewN ?_ _|refine blk_drew ?_|refine blk_alloc ?_ _); refine blk_far ?_ NB476_477.out _; (with_reducible repeat first|refine blk_drewN ?_ _|refine blk_drew ?_|refine blk_alloc ?_ _); refine blk_far ?_ NB476_477.out _; (with_reducible repeat first|refine blk_drewN ?_ _|refine blk_drew ?_|refine blk_alloc ?_ _); refine blk_far ?_ NB476_477.out _; (with_reducible repeat first|refine blk_drewN ?_ _|refine blk_drew ?_|refine blk_alloc ?_ _); refine blk_far ?_ NB476_477.out _; (with_reducible repeat first|refine blk_drewN ?_ _|refine blk_drew ?_|refine blk_alloc ?_ _); refine blk_far ?_ NB476_477.out _; (with_reducible repeat first|refine blk_drewN ?_ _|refine blk_drew ?_|refine blk_alloc ?_ _); refine blk_far ?_ NB476_477.out _; (with_reducible repeat first|refine blk_drewN ?_ _|refine blk_drew ?_|refine blk_alloc ?_ _); refine blk_far ?_ NB476_477.out _; (with_reducible repeat first|refine blk_drewN ?_ _|refine blk_drew ?_|refine blk_alloc ?_ _); refine blk_far ?_ NB476_477.out _; (with_reducible repeat first|refine blk_drewN ?_ _|refine blk_drew ?_|refine blk_alloc ?_ _); refine blk_put (cs := #[.int .i64 t453, .int .i64 t454, .int .i64 t455, .int .i64 t456, .int .i64 t457, .int .i64 t458, .int .i64 t459, .slice Ao24 t460.length co24, .int .i64 0]) ?_ 8 _ rfl; (with_reducible repeat first|refine blk_drewN ?_ _|refine blk_drew ?_|refine blk_alloc ?_ _); refine blk_put (cs := #[.int .i64 t453, .int .i64 t454, .int .i64 t455, .int .i64 t456, .int .i64 t457, .int .i64 t458, .int .i64 t459, .slice none 0 0, .int .i64 0]) ?_ 7 _ rfl; (with_reducible repeat first|refine blk_drewN ?_ _|refine blk_drew ?_|refine blk_alloc ?_ _); refine blk_put (cs := #[.int .i64 t453, .int .i64 t454, .int .i64 t455, .int .i64 t456, .int .i64 t457, .int .i64 t458, .int .i64 0, .slice none 0 0, .int .i64 0]) ?_ 6 _ rfl; (with_reducible repeat first|refine blk_drewN ?_ _|refine blk_drew ?_|refine blk_alloc ?_ _); refine blk_put (cs := #[.int .i64 t453, .int .i64 t454, .int .i64 t455, .int .i64 t456, .int .i64 t457, .int .i64 0, .int .i64 0, .slice none 0 0, .int .i64 0]) ?_ 5 _ rfl; (with_reducible repeat first|refine blk_drewN ?_ _|refine blk_drew ?_|refine blk_alloc ?_ _); refine blk_put (cs := #[.int .i64 t453, .int .i64 t454, .int .i64 t455, .int .i64 t456, .int .i64 0, .int .i64 0, .int .i64 0, .slice none 0 0, .int .i64 0]) ?_ 4 _ rfl; (with_reducible repeat first|refine blk_drewN ?_ _|refine blk_drew ?_|refine blk_alloc ?_ _); refine blk_put (cs := #[.int .i64 t453, .int .i64 t454, .int .i64 t455, .int .i64 0, .int .i64 0, .int .i64 0, .int .i64 0, .slice none 0 0, .int .i64 0]) ?_ 3 _ rfl; (with_reducible repeat first|refine blk_drewN ?_ _|refine blk_drew ?_|refine blk_alloc ?_ _); refine blk_put (cs := #[.int .i64 t453, .int .i64 t454, .int .i64 0, .int .i64 0, .int .i64 0, .int .i64 0, .int .i64 0, .slice none 0 0, .int .i64 0]) ?_ 2 _ rfl; (with_reducible repeat first|refine blk_drewN ?_ _|refine blk_drew ?_|refine blk_alloc ?_ _); refine blk_put (cs := #[.int .i64 t453, .int .i64 0, .int .i64 0, .int .i64 0, .int .i64 0, .int .i64 0, .int .i64 0, .slice none 0 0, .int .i64 0]) ?_ 1 _ rfl; (with_reducible repeat first|refine blk_drewN ?_ _|refine blk_drew ?_|refine blk_alloc ?_ _); refine blk_put (cs := #[.int .i64 0, .int .i64 0, .int .i64 0, .int .i64 0, .int .i64 0, .int .i64 0, .int .i64 0, .slice none 0 0, .int .i64 0]) ?_ 0 _ rfl; (with_reducible repeat first|refine blk_drewN ?_ _|refine blk_drew ?_|refine blk_alloc ?_ _); exact BK476.out⟩, ⟨by (with_reducible repeat first|refine blk_drewN ?_ _|refine blk_drew ?_|refine blk_alloc ?_ _); refine blk_put (cs := #[.int .i64 t465, .int .i64 t466, .int .i64 t467, .int .i64 t468, .int .i64 t469, .int .i64 t470, .int .i64 t471, .slice Ao34 t472.length co34, .int .i64 0]) ?_ 8 _ rfl; (with_reducible repeat first|refine blk_drewN ?_ _|refine blk_drew ?_|refine blk_alloc ?_ _); refine blk_put (cs := #[.int .i64 t465, .int .i64 t466, .int .i64 t467, .int .i64 t468, .int .i64 t469, .int .i64 t470, .int .i64 t471, .slice none 0 0, .int .i64 0]) ?_ 7 _ rfl; (with_reducible repeat first|refine blk_drewN ?_ _|refine blk_drew ?_|refine blk_alloc ?_ _); refine blk_put (cs := #[.int .i64 t465, .int .i64 t466, .int .i64 t467, .int .i64 t468, .int .i64 t469, .int .i64 t470, .int .i64 0, .slice none 0 0, .int .i64 0]) ?_ 6 _ rfl; (with_reducible repeat first|refine blk_drewN ?_ _|refine blk_drew ?_|refine blk_alloc ?_ _); refine blk_put (cs := #[.int .i64 t465, .int .i64 t466, .int .i64 t467, .int .i64 t468, .int .i64 t469, .int .i64 0, .int .i64 0, .slice none 0 0, .int .i64 0]) ?_ 5 _ rfl; (with_reducible repeat first|refine blk_drewN ?_ _|refine blk_drew ?_|refine blk_alloc ?_ _); refine blk_put (cs := #[.int .i64 t465, .int .i64 t466, .int .i64 t467, .int .i64 t468, .int .i64 0, .int .i64 0, .int .i64 0, .slice none 0 0, .int .i64 0]) ?_ 4 _ rfl; (with_reducible repeat first|refine blk_drewN ?_ _|refine blk_drew ?_|refine blk_alloc ?_ _); refine blk_put (cs := #[.int .i64 t465, .int .i64 t466, .int .i64 t467, .int .i64 0, .int .i64 0, .int .i64 0, .int .i64 0, .slice none 0 0, .int .i64 0]) ?_ 3 _ rfl; (with_reducible repeat first|refine blk_drewN ?_ _|refine blk_drew ?_|refine blk_alloc ?_ _); refine blk_put (cs := #[.int .i64 t465, .int .i64 t466, .int .i64 0, .int .i64 0, .int .i64 0, .int .i64 0, .int .i64 0, .slice none 0 0, .int .i64 0]) ?_ 2 _ rfl; (with_reducible repeat first|refine blk_drewN ?_ _|refine blk_drew ?_|refine blk_alloc ?_ _); refine blk_put (cs := #[.int .i64 t465, .int .i64 0, .int .i64 0, .int .i64 0, .int .i64 0, .int .i64 0, .int .i64 0, .slice none 0 0, .int .i64 0]) ?_ 1 _ rfl; (with_reducible repeat first|refine blk_drewN ?_ _|refine blk_drew ?_|refine blk_alloc ?_ _); refine blk_put (cs := #[.int .i64 0, .int .i64 0, .int .i64 0, .int .i64 0, .int .i64 0, .int .i64 0, .int .i64 0, .slice none 0 0, .int .i64 0]) ?_ 0 _ rfl; (with_reducible repeat first|refine blk_drewN ?_ _|refine blk_drew ?_|refine blk_alloc ?_ _); refine blk_far ?_ NB477_476.out _; (with_reducible repeat first|refine blk_drewN ?_ _|refine blk_drew ?_|refine blk_alloc ?_ _); refine blk_far ?_ NB477_476.out _; (with_reducible repeat first|refine blk_drewN ?_ _|refine blk_drew ?_|refine blk_alloc ?_ _); refine blk_far ?_ NB477_476.out _; (with_reducible repeat first|refine blk_drewN ?_ _|refine blk_drew ?_|refine blk_alloc ?_ _); refine blk_far ?_ NB477_476.out _; (with_reducible repeat first|refine blk_drewN ?_ _|refine blk_drew ?_|refine blk_alloc ?_ _); refine blk_far ?_ NB477_476.out _; (with_reducible repeat first|refine blk_drewN ?_ _|refine blk_drew ?_|refine blk_alloc ?_ _); refine blk_far ?_ NB477_476.out _; (with_reducible repeat first|refine blk_drewN ?_ _|refine blk_drew ?_|refine blk_alloc ?_ _); refine blk_far ?_ NB477_476.out _; (with_reducible repeat first|refine blk_drewN ?_ _|refine blk_drew ?_|refine blk_alloc ?_ _); refine blk_far ?_ NB477_476.out _; (with_reducible repeat first|refine blk_drewN ?_ _|refine blk_drew ?_|refine blk_alloc ?_ _); refine blk_far ?_ NB477_476.out _; (with_reducible repeat first|refine blk_drewN ?_ _|refine blk_drew ?_|refine blk_alloc ?_ _); exact BK477.out⟩, ⟨bw⟩⟩
          ·rw [if_neg c42] at H
           have c42b0 : (t459 == t471) = false := beq_eq_false_iff_ne.mpr c42
           have c42b1 : (t459 != t471) = true := bne_iff_ne.mpr c42
           have H' := AX H
           clear H
           have hnb51 := NB476_477.out
           have hnc51 := NB477_476.out
           obtain ⟨hcz52_0, hcz52_1, hcz52_2, hcz52_3, hcz52_4, hcz52_5, hcz52_6, hcz52_7, hcz52_8⟩ := blkC9 (w := w16) BK476.out
           obtain ⟨hfz52_0, hfz52_1, hfz52_2, hfz52_3, hfz52_4, hfz52_5, hfz52_6, hfz52_7, hfz52_8⟩ := blkF9 BK476.out
           obtain ⟨hcz53_0, hcz53_1, hcz53_2, hcz53_3, hcz53_4, hcz53_5, hcz53_6, hcz53_7, hcz53_8⟩ := blkC9 (w := w16) BK477.out
           obtain ⟨hfz53_0, hfz53_1, hfz53_2, hfz53_3, hfz53_4, hfz53_5, hfz53_6, hfz53_7, hfz53_8⟩ := blkF9 BK477.out
           go_wp2
           go_meet
           case rel => exact ⟨_, (true), (by first | rfl | (simp; done) | (simp [*]; done)), H', ⟨by have := HK1.out; first | omega | exact Nat.le_refl _⟩, ⟨by (with_reducible repeat (first | apply Kd.R_alloc | apply Kd.R_drewN | apply Kd.R_drew)); exact Kd.R_mono (Kd.R_far (p := ⟨gb477, 8, none⟩) (Kd.R_far (p := ⟨gb477, 7, none⟩) (Kd.R_far (p := ⟨gb477, 6, none⟩) (Kd.R_far (p := ⟨gb477, 5, none⟩) (Kd.R_far (p := ⟨gb477, 4, none⟩) (Kd.R_far (p := ⟨gb477, 3, none⟩) (Kd.R_far (p := ⟨gb477, 2, none⟩) (Kd.R_far (p := ⟨gb477, 1, none⟩) (Kd.R_far (p := ⟨gb477, 0, none⟩) (Kd.R_far (p := ⟨gb476, 8, none⟩) (Kd.R_far (p := ⟨gb476, 7, none⟩) (Kd.R_far (p := ⟨gb476, 6, none⟩) (Kd.R_far (p := ⟨gb476, 5, none⟩) (Kd.R_far (p := ⟨gb476, 4, none⟩) (Kd.R_far (p := ⟨gb476, 3, none⟩) (Kd.R_far (p := ⟨gb476, 2, none⟩) (Kd.R_far (p := ⟨gb476, 1, none⟩) (Kd.R_far (p := ⟨gb476, 0, none⟩) (Kd.R_types (Kd.R_types HO462.out BK476.out (by decide)) BK477.out (by decide)) (fun _ hk => hk.1.2) (.int .i64 t453)) (fun _ hk => hk.1.2) (.int .i64 t454)) (fun _ hk => hk.1.2) (.int .i64 t455)) (fun _ hk => hk.1.2) (.int .i64 t456)) (fun _ hk => hk.1.2) (.int .i64 t457)) (fun _ hk => hk.1.2) (.int .i64 t458)) (fun _ hk => hk.1.2) (.int .i64 t459)) (fun _ hk => hk.1.2) (.slice Ao24 t460.length co24)) (fun _ hk => hk.1.2) (.int .i64 t463)) (fun _ hk => hk.2) (.int .i64 t465)) (fun _ hk => hk.2) (.int .i64 t466)) (fun _ hk => hk.2) (.int .i64 t467)) (fun _ hk => hk.2) (.int .i64 t468)) (fun _ hk => hk.2) (.int .i64 t469)) (fun _ hk => hk.2) (.int .i64 t470)) (fun _ hk => hk.2) (.int .i64 t471)) (fun _ hk => hk.2) (.slice Ao34 t472.length co34)) (fun _ hk => hk.2) (.int .i64 t475)) (fun _ hk => hk.1.1)⟩, ⟨by (with_reducible repeat (first | apply Kd.R_alloc | apply Kd.R_drewN | apply Kd.R_drew)); exact Kd.R_mono (Kd.R_far (p := ⟨gb477, 8, none⟩) (Kd.R_far (p := ⟨gb477, 7, none⟩) (Kd.R_far (p := ⟨gb477, 6, none⟩) (Kd.R_far (p := ⟨gb477, 5, none⟩) (Kd.R_far (p := ⟨gb477, 4, none⟩) (Kd.R_far (p := ⟨gb477, 3, none⟩) (Kd.R_far (p := ⟨gb477, 2, none⟩) (Kd.R_far (p := ⟨gb477, 1, none⟩) (Kd.R_far (p := ⟨gb477, 0, none⟩) (Kd.R_far (p := ⟨gb476, 8, none⟩) (Kd.R_far (p := ⟨gb476, 7, none⟩) (Kd.R_far (p := ⟨gb476, 6, none⟩) (Kd.R_far (p := ⟨gb476, 5, none⟩) (Kd.R_far (p := ⟨gb476, 4, none⟩) (Kd.R_far (p := ⟨gb476, 3, none⟩) (Kd.R_far (p := ⟨gb476, 2, none⟩) (Kd.R_far (p := ⟨gb476, 1, none⟩) (Kd.R_far (p := ⟨gb476, 0, none⟩) (Kd.R_types (Kd.R_types HO474.out BK476.out (by decide)) BK477.out (by decide)) (fun _ hk => hk.1.2) (.int .i64 t453)) (fun _ hk => hk.1.2) (.int .i64 t454)) (fun _ hk => hk.1.2) (.int .i64 t455)) (fun _ hk => hk.1.2) (.int .i64 t456)) (fun _ hk => hk.1.2) (.int .i64 t457)) (fun _ hk => hk.1.2) (.int .i64 t458)) (fun _ hk => hk.1.2) (.int .i64 t459)) (fun _ hk => hk.1.2) (.slice Ao24 t460.length co24)) (fun _ hk => hk.1.2) (.int .i64 t463)) (fun _ hk => hk.2) (.int .i64 t465)) (fun _ hk => hk.2) (.int .i64 t466)) (fun _ hk => hk.2) (.int .i64 t467)) (fun _ hk => hk.2) (.int .i64 t468)) (fun _ hk => hk.2) (.int .i64 t469)) (fun _ hk => hk.2) (.int .i64 t470)) (fun _ hk => hk.2) (.int .i64 t471)) (fun _ hk => hk.2) (.slice Ao34 t472.length co34)) (fun _ hk => hk.2) (.int .i64 t475)) (fun _ hk => hk.1.1)⟩, ⟨by (with_reducible repeat first|refine blk_drewN ?_ _|refine blk_drew ?_|refine blk_alloc ?_ _); refine blk_far ?_ NB476_477.out _; (with_reducible repeat first|refine blk_drewN ?_ _|refine blk_drew ?_|refine blk_alloc ?_ _); refine blk_far ?_ NB476_477.out _; (with_reducible repeat first|refine blk_drewN ?_ _|refine blk_drew ?_|refine blk_alloc ?_ _); refine blk_far ?_ NB476_477.out _; (with_reducible repeat first|refine blk_drewN ?_ _|refine blk_drew ?_|refine blk_alloc ?_ _); refine blk_far ?_ NB476_477.out _; (with_reducible repeat first|refine blk_drewN ?_ _|refine blk_drew ?_|refine blk_alloc ?_ _); refine blk_far ?_ NB476_477.out _; (with_reducible repeat first|refine blk_drewN ?_ _|refine blk_drew ?_|refine blk_alloc ?_ _); refine blk_far ?_ NB476_477.out _; (with_reducible repeat first|refine blk_drewN ?_ _|refine blk_drew ?_|refine blk_alloc ?_ _); refine blk_far ?_ NB476_477.out _; (with_reducible repeat first|refine blk_drewN ?_ _|refine blk_drew ?_|refine blk_alloc ?_ _); refine blk_far ?_ NB476_477.out _; (with_reducible repeat first|refine blk_drewN ?_ _|refine blk_drew ?_|refine blk_alloc ?_ _); refine blk_far ?_ NB476_477.out _; (with_reducible repeat first|refine blk_drewN ?_ _|refine blk_drew ?_|refine blk_alloc ?_ _); refine blk_put (cs := #[.int .i64 t453, .int .i64 t454, .int .i64 t455, .int .i64 t456, .int .i64 t457, .int .i64 t458, .int .i64 t459, .slice Ao24 t460.length co24, .int .i64 0]) ?_ 8 _ rfl; (with_reducible repeat first|refine blk_drewN ?_ _|refine blk_drew ?_|refine blk_alloc ?_ _); refine blk_put (cs := #[.int .i64 t453, .int .i64 t454, .int .i64 t455, .int .i64 t456, .int .i64 t457, .int .i64 t458, .int .i64 t459, .slice none 0 0, .int .i64 0]) ?_ 7 _ rfl; (with_reducible repeat first|refine blk_drewN ?_ _|refine blk_drew ?_|refine blk_alloc ?_ _); refine blk_put (cs := #[.int .i64 t453, .int .i64 t454, .int .i64 t455, .int .i64 t456, .int .i64 t457, .int .i64 t458, .int .i64 0, .slice none 0 0, .int .i64 0]) ?_ 6 _ rfl; (with_reducible repeat first|refine blk_drewN ?_ _|refine blk_drew ?_|refine blk_alloc ?_ _); refine blk_put (cs := #[.int .i64 t453, .int .i64 t454, .int .i64 t455, .int .i64 t456, .int .i64 t457, .int .i64 0, .int .i64 0, .slice none 0 0, .int .i64 0]) ?_ 5 _ rfl; (with_reducible repeat first|refine blk_drewN ?_ _|refine blk_drew ?_|refine blk_alloc ?_ _); refine blk_put (cs := #[.int .i64 t453, .int .i64 t454, .int .i64 t455, .int .i64 t456, .int .i64 0, .int .i64 0, .int .i64 0, .slice none 0 0, .int .i64 0]) ?_ 4 _ rfl; (with_reducible repeat first|refine blk_drewN ?_ _|refine blk_drew ?_|refine blk_alloc ?_ _); refine blk_put (cs := #[.int .i64 t453, .int .i64 t454, .int .i64 t455, .int .i64 0, .int .i64 0, .int .i64 0, .int .i64 0, .slice none 0 0, .int .i64 0]) ?_ 3 _ rfl; (with_reducible repeat first|refine blk_drewN ?_ _|refine blk_drew ?_|refine blk_alloc ?_ _); refine blk_put (cs := #[.int .i64 t453, .int .i64 t454, .int .i64 0, .int .i64 0, .int .i64 0, .int .i64 0, .int .i64 0, .slice none 0 0, .int .i64 0]) ?_ 2 _ rfl; (with_reducible repeat first|refine blk_drewN ?_ _|refine blk_drew ?_|refine blk_alloc ?_ _); refine blk_put (cs := #[.int .i64 t453, .int .i64 0, .int .i64 0, .int .i64 0, .int .i64 0, .int .i64 0, .int .i64 0, .slice none 0 0, .int .i64 0]) ?_ 1 _ rfl; (with_reducible repeat first|refine blk_drewN ?_ _|refine blk_drew ?_|refine blk_alloc ?_ _); refine blk_put (cs := #[.int .i64 0, .int .i64 0, .int .i64 0, .int .i64 0, .int .i64 0, .int .i64 0, .int .i64 0, .slice none 0 0, .int .i64 0]) ?_ 0 _ rfl; (with_reducible repeat first|refine blk_drewN ?_ _|refine blk_drew ?_|refine blk_alloc ?_ _); exact BK476.out⟩, ⟨by (with_reducible repeat first|refine blk_drewN ?_ _|refine blk_drew ?_|refine blk_alloc ?_ _); refine blk_put (cs := #[.int .i64 t465, .int .i64 t466, .int .i64 t467, .int .i64 t468, .int .i64 t469, .int .i64 t470, .int .i64 t471, .slice Ao34 t472.length co34, .int .i64 0]) ?_ 8 _ rfl; (with_reducible repeat first|refine blk_drewN ?_ _|refine blk_drew ?_|refine blk_alloc ?_ _); refine blk_put (cs := #[.int .i64 t465, .int .i64 t466, .int .i64 t467, .int .i64 t468, .int .i64 t469, .int .i64 t470, .int .i64 t471, .slice none 0 0, .int .i64 0]) ?_ 7 _ rfl; (with_reducible repeat first|refine blk_drewN ?_ _|refine blk_drew ?_|refine blk_alloc ?_ _); refine blk_put (cs := #[.int .i64 t465, .int .i64 t466, .int .i64 t467, .int .i64 t468, .int .i64 t469, .int .i64 t470, .int .i64 0, .slice none 0 0, .int .i64 0]) ?_ 6 _ rfl; (with_reducible repeat first|refine blk_drewN ?_ _|refine blk_drew ?_|refine blk_alloc ?_ _); refine blk_put (cs := #[.int .i64 t465, .int .i64 t466, .int .i64 t467, .int .i64 t468, .int .i64 t469, .int .i64 0, .int .i64 0, .slice none 0 0, .int .i64 0]) ?_ 5 _ rfl; (with_reducible repeat first|refine blk_drewN ?_ _|refine blk_drew ?_|refine blk_alloc ?_ _); refine blk_put (cs := #[.int .i64 t465, .int .i64 t466, .int .i64 t467, .int .i64 t468, .int .i64 0, .int .i64 0, .int .i64 0, .slice none 0 0, .int .i64 0]) ?_ 4 _ rfl; (with_reducible repeat first|refine blk_drewN ?_ _|refine blk_drew ?_|refine blk_alloc ?_ _); refine blk_put (cs := #[.int .i64 t465, .int .i64 t466, .int .i64 t467, .int .i64 0, .int .i64 0, .int .i64 0, .int .i64 0, .slice none 0 0, .int .i64 0]) ?_ 3 _ rfl; (with_reducible repeat first|refine blk_drewN ?_ _|refine blk_drew ?_|refine blk_alloc ?_ _); refine blk_put (cs := #[.int .i64 t465, .int .i64 t466, .int .i64 0, .int .i64 0, .int .i64 0, .int .i64 0, .int .i64 0, .slice none 0 0, .int .i64 0]) ?_ 2 _ rfl; (with_reducible repeat first|refine blk_drewN ?_ _|refine blk_drew ?_|refine blk_alloc ?_ _); refine blk_put (cs := #[.int .i64 t465, .int .i64 0, .int .i64 0, .int .i64 0, .int .i64 0, .int .i64 0, .int .i64 0, .slice none 0 0, .int .i64 0]) ?_ 1 _ rfl; (with_reducible repeat first|refine blk_drewN ?_ _|refine blk_drew ?_|refine blk_alloc ?_ _); refine blk_put (cs := #[.int .i64 0, .int .i64 0, .int .i64 0, .int .i64 0, .int .i64 0, .int .i64 0, .int .i64 0, .slice none 0 0, .int .i64 0]) ?_ 0 _ rfl; (with_reducible repeat first|refine blk_drewN ?_ _|refine blk_drew ?_|refine blk_alloc ?_ _); refine blk_far ?_ NB477_476.out _; (with_reducible repeat first|refine blk_drewN ?_ _|refine blk_drew ?_|refine blk_alloc ?_ _); refine blk_far ?_ NB477_476.out _; (with_reducible repeat first|refine blk_drewN ?_ _|refine blk_drew ?_|refine blk_alloc ?_ _); refine blk_far ?_ NB477_476.out _; (with_reducible repeat first|refine blk_drewN ?_ _|refine blk_drew ?_|refine blk_alloc ?_ _); refine blk_far ?_ NB477_476.out _; (with_reducible repeat first|refine blk_drewN ?_ _|refine blk_drew ?_|refine blk_alloc ?_ _); refine blk_far ?_ NB477_476.out _; (with_reducible repeat first|refine blk_drewN ?_ _|refine blk_drew ?_|refine blk_alloc ?_ _); refine blk_far ?_ NB477_476.out _; (with_reducible repeat first|refine blk_drewN ?_ _|refine blk_drew ?_|refine blk_alloc ?_ _); refine blk_far ?_ NB477_476.out _; (with_reducible repeat first|refine blk_drewN ?_ _|refine blk_drew ?_|refine blk_alloc ?_ _); refine blk_far ?_ NB477_476.out _; (with_reducible repeat first|refine blk_drewN ?_ _|refine blk_drew ?_|refine blk_alloc ?_ _); refine blk_far ?_ NB477_476.out _; (with_reducible repeat first|refine blk_drewN ?_ _|refine blk_drew ?_|refine blk_alloc ?_ _); exact BK477.out⟩, ⟨bw⟩⟩
         ·rw [if_neg c41] at H
          have c41b0 : (t458 == t470) = false := beq_eq_false_iff_ne.mpr c41
          have c41b1 : (t458 != t470) = true := bne_iff_ne.mpr c41
          have H' := AX H
          clear H
          have hnb54 := NB476_477.out
          have hnc54 := NB477_476.out
          obtain ⟨hcz55_0, hcz55_1, hcz55_2, hcz55_3, hcz55_4, hcz55_5, hcz55_6, hcz55_7, hcz55_8⟩ := blkC9 (w := w16) BK476.out
          obtain ⟨hfz55_0, hfz55_1, hfz55_2, hfz55_3, hfz55_4, hfz55_5, hfz55_6, hfz55_7, hfz55_8⟩ := blkF9 BK476.out
          obtain ⟨hcz56_0, hcz56_1, hcz56_2, hcz56_3, hcz56_4, hcz56_5, hcz56_6, hcz56_7, hcz56_8⟩ := blkC9 (w := w16) BK477.out
          obtain ⟨hfz56_0, hfz56_1, hfz56_2, hfz56_3, hfz56_4, hfz56_5, hfz56_6, hfz56_7, hfz56_8⟩ := blkF9 BK477.out
          go_wp2
          go_meet
          case rel => exact ⟨_, (true), (by first | rfl | (simp; done) | (simp [*]; done)), H', ⟨by have := HK1.out; first | omega | exact Nat.le_refl _⟩, ⟨by (with_reducible repeat (first | apply Kd.R_alloc | apply Kd.R_drewN | apply Kd.R_drew)); exact Kd.R_mono (Kd.R_far (p := ⟨gb477, 8, none⟩) (Kd.R_far (p := ⟨gb477, 7, none⟩) (Kd.R_far (p := ⟨gb477, 6, none⟩) (Kd.R_far (p := ⟨gb477, 5, none⟩) (Kd.R_far (p := ⟨gb477, 4, none⟩) (Kd.R_far (p := ⟨gb477, 3, none⟩) (Kd.R_far (p := ⟨gb477, 2, none⟩) (Kd.R_far (p := ⟨gb477, 1, none⟩) (Kd.R_far (p := ⟨gb477, 0, none⟩) (Kd.R_far (p := ⟨gb476, 8, none⟩) (Kd.R_far (p := ⟨gb476, 7, none⟩) (Kd.R_far (p := ⟨gb476, 6, none⟩) (Kd.R_far (p := ⟨gb476, 5, none⟩) (Kd.R_far (p := ⟨gb476, 4, none⟩) (Kd.R_far (p := ⟨gb476, 3, none⟩) (Kd.R_far (p := ⟨gb476, 2, none⟩) (Kd.R_far (p := ⟨gb476, 1, none⟩) (Kd.R_far (p := ⟨gb476, 0, none⟩) (Kd.R_types (Kd.R_types HO462.out BK476.out (by decide)) BK477.out (by decide)) (fun _ hk => hk.1.2) (.int .i64 t453)) (fun _ hk => hk.1.2) (.int .i64 t454)) (fun _ hk => hk.1.2) (.int .i64 t455)) (fun _ hk => hk.1.2) (.int .i64 t456)) (fun _ hk => hk.1.2) (.int .i64 t457)) (fun _ hk => hk.1.2) (.int .i64 t458)) (fun _ hk => hk.1.2) (.int .i64 t459)) (fun _ hk => hk.1.2) (.slice Ao24 t460.length co24)) (fun _ hk => hk.1.2) (.int .i64 t463)) (fun _ hk => hk.2) (.int .i64 t465)) (fun _ hk => hk.2) (.int .i64 t466)) (fun _ hk => hk.2) (.int .i64 t467)) (fun _ hk => hk.2) (.int .i64 t468)) (fun _ hk => hk.2) (.int .i64 t469)) (fun _ hk => hk.2) (.int .i64 t470)) (fun _ hk => hk.2) (.int .i64 t471)) (fun _ hk => hk.2) (.slice Ao34 t472.length co34)) (fun _ hk => hk.2) (.int .i64 t475)) (fun _ hk => hk.1.1)⟩, ⟨by (with_reducible repeat (first | apply Kd.R_alloc | apply Kd.R_drewN | apply Kd.R_drew)); exact Kd.R_mono (Kd.R_far (p := ⟨gb477, 8, none⟩) (Kd.R_far (p := ⟨gb477, 7, none⟩) (Kd.R_far (p := ⟨gb477, 6, none⟩) (Kd.R_far (p := ⟨gb477, 5, none⟩) (Kd.R_far (p := ⟨gb477, 4, none⟩) (Kd.R_far (p := ⟨gb477, 3, none⟩) (Kd.R_far (p := ⟨gb477, 2, none⟩) (Kd.R_far (p := ⟨gb477, 1, none⟩) (Kd.R_far (p := ⟨gb477, 0, none⟩) (Kd.R_far (p := ⟨gb476, 8, none⟩) (Kd.R_far (p := ⟨gb476, 7, none⟩) (Kd.R_far (p := ⟨gb476, 6, none⟩) (Kd.R_far (p := ⟨gb476, 5, none⟩) (Kd.R_far (p := ⟨gb476, 4, none⟩) (Kd.R_far (p := ⟨gb476, 3, none⟩) (Kd.R_far (p := ⟨gb476, 2, none⟩) (Kd.R_far (p := ⟨gb476, 1, none⟩) (Kd.R_far (p := ⟨gb476, 0, none⟩) (Kd.R_types (Kd.R_types HO474.out BK476.out (by decide)) BK477.out (by decide)) (fun _ hk => hk.1.2) (.int .i64 t453)) (fun _ hk => hk.1.2) (.int .i64 t454)) (fun _ hk => hk.1.2) (.int .i64 t455)) (fun _ hk => hk.1.2) (.int .i64 t456)) (fun _ hk => hk.1.2) (.int .i64 t457)) (fun _ hk => hk.1.2) (.int .i64 t458)) (fun _ hk => hk.1.2) (.int .i64 t459)) (fun _ hk => hk.1.2) (.slice Ao24 t460.length co24)) (fun _ hk => hk.1.2) (.int .i64 t463)) (fun _ hk => hk.2) (.int .i64 t465)) (fun _ hk => hk.2) (.int .i64 t466)) (fun _ hk => hk.2) (.int .i64 t467)) (fun _ hk => hk.2) (.int .i64 t468)) (fun _ hk => hk.2) (.int .i64 t469)) (fun _ hk => hk.2) (.int .i64 t470)) (fun _ hk => hk.2) (.int .i64 t471)) (fun _ hk => hk.2) (.slice Ao34 t472.length co34)) (fun _ hk => hk.2) (.int .i64 t475)) (fun _ hk => hk.1.1)⟩, ⟨by (with_reducible repeat first|refine blk_drewN ?_ _|refine blk_drew ?_|refine blk_alloc ?_ _); refine blk_far ?_ NB476_477.out _; (with_reducible repeat first|refine blk_drewN ?_ _|refine blk_drew ?_|refine blk_alloc ?_ _); refine blk_far ?_ NB476_477.out _; (with_reducible repeat first|refine blk_drewN ?_ _|refine blk_drew ?_|refine blk_alloc ?_ _); refine blk_far ?_ NB476_477.out _; (with_reducible repeat first|refine blk_drewN ?_ _|refine blk_drew ?_|refine blk_alloc ?_ _); refine blk_far ?_ NB476_477.out _; (with_reducible repeat first|refine blk_drewN ?_ _|refine blk_drew ?_|refine blk_alloc ?_ _); refine blk_far ?_ NB476_477.out _; (with_reducible repeat first|refine blk_drewN ?_ _|refine blk_drew ?_|refine blk_alloc ?_ _); refine blk_far ?_ NB476_477.out _; (with_reducible repeat first|refine blk_drewN ?_ _|refine blk_drew ?_|refine blk_alloc ?_ _); refine blk_far ?_ NB476_477.out _; (with_reducible repeat first|refine blk_drewN ?_ _|refine blk_drew ?_|refine blk_alloc ?_ _); refine blk_far ?_ NB476_477.out _; (with_reducible repeat first|refine blk_drewN ?_ _|refine blk_drew ?_|refine blk_alloc ?_ _); refine blk_far ?_ NB476_477.out _; (with_reducible repeat first|refine blk_drewN ?_ _|refine blk_drew ?_|refine blk_alloc ?_ _); refine blk_put (cs := #[.int .i64 t453, .int .i64 t454, .int .i64 t455, .int .i64 t456, .int .i64 t457, .int .i64 t458, .int .i64 t459, .slice Ao24 t460.length co24, .int .i64 0]) ?_ 8 _ rfl; (with_reducible repeat first|refine blk_drewN ?_ _|refine blk_drew ?_|refine blk_alloc ?_ _); refine blk_put (cs := #[.int .i64 t453, .int .i64 t454, .int .i64 t455, .int .i64 t456, .int .i64 t457, .int .i64 t458, .int .i64 t459, .slice none 0 0, .int .i64 0]) ?_ 7 _ rfl; (with_reducible repeat first|refine blk_drewN ?_ _|refine blk_drew ?_|refine blk_alloc ?_ _); refine blk_put (cs := #[.int .i64 t453, .int .i64 t454, .int .i64 t455, .int .i64 t456, .int .i64 t457, .int .i64 t458, .int .i64 0, .slice none 0 0, .int .i64 0]) ?_ 6 _ rfl; (with_reducible repeat first|refine blk_drewN ?_ _|refine blk_drew ?_|refine blk_alloc ?_ _); refine blk_put (cs := #[.int .i64 t453, .int .i64 t454, .int .i64 t455, .int .i64 t456, .int .i64 t457, .int .i64 0, .int .i64 0, .slice none 0 0, .int .i64 0]) ?_ 5 _ rfl; (with_reducible repeat first|refine blk_drewN ?_ _|refine blk_drew ?_|refine blk_alloc ?_ _); refine blk_put (cs := #[.int .i64 t453, .int .i64 t454, .int .i64 t455, .int .i64 t456, .int .i64 0, .int .i64 0, .int .i64 0, .slice none 0 0, .int .i64 0]) ?_ 4 _ rfl; (with_reducible repeat first|refine blk_drewN ?_ _|refine blk_drew ?_|refine blk_alloc ?_ _); refine blk_put (cs := #[.int .i64 t453, .int .i64 t454, .int .i64 t455, .int .i64 0, .int .i64 0, .int .i64 0, .int .i64 0, .slice none 0 0, .int .i64 0]) ?_ 3 _ rfl; (with_reducible repeat first|refine blk_drewN ?_ _|refine blk_drew ?_|refine blk_alloc ?_ _); refine blk_put (cs := #[.int .i64 t453, .int .i64 t454, .int .i64 0, .int .i64 0, .int .i64 0, .int .i64 0, .int .i64 0, .slice none 0 0, .int .i64 0]) ?_ 2 _ rfl; (with_reducible repeat first|refine blk_drewN ?_ _|refine blk_drew ?_|refine blk_alloc ?_ _); refine blk_put (cs := #[.int .i64 t453, .int .i64 0, .int .i64 0, .int .i64 0, .int .i64 0, .int .i64 0, .int .i64 0, .slice none 0 0, .int .i64 0]) ?_ 1 _ rfl; (with_reducible repeat first|refine blk_drewN ?_ _|refine blk_drew ?_|refine blk_alloc ?_ _); refine blk_put (cs := #[.int .i64 0, .int .i64 0, .int .i64 0, .int .i64 0, .int .i64 0, .int .i64 0, .int .i64 0, .slice none 0 0, .int .i64 0]) ?_ 0 _ rfl; (with_reducible repeat first|refine blk_drewN ?_ _|refine blk_drew ?_|refine blk_alloc ?_ _); exact BK476.out⟩, ⟨by (with_reducible repeat first|refine blk_drewN ?_ _|refine blk_drew ?_|refine blk_alloc ?_ _); refine blk_put (cs := #[.int .i64 t465, .int .i64 t466, .int .i64 t467, .int .i64 t468, .int .i64 t469, .int .i64 t470, .int .i64 t471, .slice Ao34 t472.length co34, .int .i64 0]) ?_ 8 _ rfl; (with_reducible repeat first|refine blk_drewN ?_ _|refine blk_drew ?_|refine blk_alloc ?_ _); refine blk_put (cs := #[.int .i64 t465, .int .i64 t466, .int .i64 t467, .int .i64 t468, .int .i64 t469, .int .i64 t470, .int .i64 t471, .slice none 0 0, .int .i64 0]) ?_ 7 _ rfl; (with_reducible repeat first|refine blk_drewN ?_ _|refine blk_drew ?_|refine blk_alloc ?_ _); refine blk_put (cs := #[.int .i64 t465, .int .i64 t466, .int .i64 t467, .int .i64 t468, .int .i64 t469, .int .i64 t470, .int .i64 0, .slice none 0 0, .int .i64 0]) ?_ 6 _ rfl; (with_reducible repeat first|refine blk_drewN ?_ _|refine blk_drew ?_|refine blk_alloc ?_ _); refine blk_put (cs := #[.int .i64 t465, .int .i64 t466, .int .i64 t467, .int .i64 t468, .int .i64 t469, .int .i64 0, .int .i64 0, .slice none 0 0, .int .i64 0]) ?_ 5 _ rfl; (with_reducible repeat first|refine blk_drewN ?_ _|refine blk_drew ?_|refine blk_alloc ?_ _); refine blk_put (cs := #[.int .i64 t465, .int .i64 t466, .int .i64 t467, .int .i64 t468, .int .i64 0, .int .i64 0, .int .i64 0, .slice none 0 0, .int .i64 0]) ?_ 4 _ rfl; (with_reducible repeat first|refine blk_drewN ?_ _|refine blk_drew ?_|refine blk_alloc ?_ _); refine blk_put (cs := #[.int .i64 t465, .int .i64 t466, .int .i64 t467, .int .i64 0, .int .i64 0, .int .i64 0, .int .i64 0, .slice none 0 0, .int .i64 0]) ?_ 3 _ rfl; (with_reducible repeat first|refine blk_drewN ?_ _|refine blk_drew ?_|refine blk_alloc ?_ _); refine blk_put (cs := #[.int .i64 t465, .int .i64 t466, .int .i64 0, .int .i64 0, .int .i64 0, .int .i64 0, .int .i64 0, .slice none 0 0, .int .i64 0]) ?_ 2 _ rfl; (with_reducible repeat first|refine blk_drewN ?_ _|refine blk_drew ?_|refine blk_alloc ?_ _); refine blk_put (cs := #[.int .i64 t465, .int .i64 0, .int .i64 0, .int .i64 0, .int .i64 0, .int .i64 0, .int .i64 0, .slice none 0 0, .int .i64 0]) ?_ 1 _ rfl; (with_reducible repeat first|refine blk_drewN ?_ _|refine blk_drew ?_|refine blk_alloc ?_ _); refine blk_put (cs := #[.int .i64 0, .int .i64 0, .int .i64 0, .int .i64 0, .int .i64 0, .int .i64 0, .int .i64 0, .slice none 0 0, .int .i64 0]) ?_ 0 _ rfl; (with_reducible repeat first|refine blk_drewN ?_ _|refine blk_drew ?_|refine blk_alloc ?_ _); refine blk_far ?_ NB477_476.out _; (with_reducible repeat first|refine blk_drewN ?_ _|refine blk_drew ?_|refine blk_alloc ?_ _); refine blk_far ?_ NB477_476.out _; (with_reducible repeat first|refine blk_drewN ?_ _|refine blk_drew ?_|refine blk_alloc ?_ _); refine blk_far ?_ NB477_476.out _; (with_reducible repeat first|refine blk_drewN ?_ _|refine blk_drew ?_|refine blk_alloc ?_ _); refine blk_far ?_ NB477_476.out _; (with_reducible repeat first|refine blk_drewN ?_ _|refine blk_drew ?_|refine blk_alloc ?_ _); refine blk_far ?_ NB477_476.out _; (with_reducible repeat first|refine blk_drewN ?_ _|refine blk_drew ?_|refine blk_alloc ?_ _); refine blk_far ?_ NB477_476.out _; (with_reducible repeat first|refine blk_drewN ?_ _|refine blk_drew ?_|refine blk_alloc ?_ _); refine blk_far ?_ NB477_476.out _; (with_reducible repeat first|refine blk_drewN ?_ _|refine blk_drew ?_|refine blk_alloc ?_ _); refine blk_far ?_ NB477_476.out _; (with_reducible repeat first|refine blk_drewN ?_ _|refine blk_drew ?_|refine blk_alloc ?_ _); refine blk_far ?_ NB477_476.out _; (with_reducible repeat first|refine blk_drewN ?_ _|refine blk_drew ?_|refine blk_alloc ?_ _); exact BK477.out⟩, ⟨bw⟩⟩
       case rest =>
        clear HC10
        obtain ⟨kq, x56_9, rfl, HA, HJ9, HO_477007, HO_478007, BK476, BK477, HB⟩ := hcut
        cases kq with
        | zero => exact absurd HA.out (by simp [pylonlaw04_ZoneAll.j1])
        | succ kj9 =>
         have H := HA.out
         clear HA
         simp only [pylonlaw04_ZoneAll.j1] at H
         by_cases c57 : x56_9 = true
         ·subst c57
          have H1 : (some false) = some r := by rw [if_pos rfl] at H; exact H
          clear H
          have H := H1
          clear H1
          obtain rfl := Option.some.inj H
          go_wp2
          go_ret
          exact ⟨by first | rfl | (simp [errW_none, errW_some] <;> rfl) | (simp [*, errW_none, errW_some] <;> rfl), bw⟩
         ·replace c57 := Bool.eq_false_iff.mpr c57
          subst c57
          have H1 : (pylonlaw04_ZoneAll.l0 kj9 l0 (l0.length : Int) (wrap64 (x10_1 + 1))) = some r := by rw [if_neg (show ¬ (false = true) by decide)] at H; exact H
          clear H
          have H := H1
          clear H1
          have H' := AX H
          clear H
          go_wp2
          go_roundg kj9
          case measure => have := HK1.out; have := HJ9.out; omega
          case rel => exact ⟨(wrap64 (x10_1 + 1)), (by first | rfl | (simp; done) | (simp [*]; done)), H', ⟨by have := HK1.out; have := HJ9.out; omega⟩, ⟨bw⟩⟩
      ·rw [if_neg c7] at H
       exact absurd H (by simp)
     ·rw [if_neg c6] at H
      exact absurd H (by simp)
    ·rw [if_neg c5] at H
     have c5b0 : decide (x10_1 < (l0.length : Int)) = false := decide_eq_false c5
     clear c5
     obtain rfl := Option.some.inj H
     go_wp2
     go_ret
     exact ⟨by first | rfl | (simp [errW_none, errW_some] <;> rfl) | (simp [*, errW_none, errW_some] <;> rfl), bw⟩
 ·replace c3 := Bool.eq_false_iff.mpr c3
  subst c3
  have H1 : (some false) = some r := by rw [if_neg (show ¬ (false = true) by decide)] at H; exact H
  clear H
  have H := H1
  clear H1
  obtain rfl := Option.some.inj H
  go_enter Try.func5, Try.ntmps5
  go_wp2_with (first | ((with_reducible refine gate_callee (f := 14) rfl ?_); refine gL (some 6) Try.func14 #[] ?_; (with_reducible refine (pylonlaw04_awake.calls k  false _ A2.out).mono ?_); rintro e w58 ⟨rfl, hb⟩; refine ⟨_, rfl, ?_⟩; replace HB := AX (below_step bw hb); (try clear hb)))
  go_ret
  exact ⟨by first | rfl | (simp [errW_none, errW_some] <;> rfl) | (simp [*, errW_none, errW_some] <;> rfl), bw⟩

end Go.Proofs.Ytddkckpfmleffaa.PX
