/- Functions of the program as plain Lean functions, each with a proof that the call in the machine answers just what the plain function says; condition: the plain function answers at all. -/
import Derived.Test.YtipldjcncfoffaaPXx0
import Derived.Test.YtipldjcncfoffaaPXx2
import Derived.Test.YtipldjcncfoffaaPXx5
import Derived.Test.YtipldjcncfoffaaPXx12
import Derived.Test.YtipldjcncfoffaaPXx15
namespace Go.Proofs.Ytipldjcncfoffaa.PX
open Go.RowKit Go.Proofs.YtipldjcncfoffaaW.PrintWords Go.Proofs.YtipldjcncfoffaaW.PrintLast Go.Proofs.YtipldjcncfoffaaW.PrintMore
attribute [local go_sem] max2_int min2_int max_two min_two max_three min_three max_four min_four   -- for this text's walks alone
set_option linter.unusedVariables false
set_option linter.unusedSimpArgs false

attribute [local go_sem high] eqA47
/-! ### pylonlaw03_CivilAll: function 12 -/
def pylonlaw03_CivilAll.l0 : Nat → List (S50) → Int → Int → Option (Bool)
 | 0, _, _, _ => none
 | k + 1, x0, x7, x8 => if x8 < x7 then (if 0 ≤ x8 then (if x8 < (x0.length : Int) then ((pylonlaw03_plays.f k ((rd_T50 x0 x8).f0) ((rd_T50 x0 x8).f1.f0) ((rd_T50 x0 x8).f1.f1) ((rd_T50 x0 x8).f1.f2) ((rd_T50 x0 x8).f2.f0) ((rd_T50 x0 x8).f2.f1) ((rd_T50 x0 x8).f2.f2) ((rd_T50 x0 x8).f3) ((rd_T50 x0 x8).f4) ((rd_T50 x0 x8).f5) ((rd_T50 x0 x8).f6) ((rd_T50 x0 x8).f7)).bind fun bt416 => ((pylonlaw03_wants.f k ((rd_T50 x0 x8).f0) ((rd_T50 x0 x8).f1.f0) ((rd_T50 x0 x8).f1.f1) ((rd_T50 x0 x8).f1.f2) ((rd_T50 x0 x8).f2.f0) ((rd_T50 x0 x8).f2.f1) ((rd_T50 x0 x8).f2.f2) ((rd_T50 x0 x8).f3) ((rd_T50 x0 x8).f4) ((rd_T50 x0 x8).f5) ((rd_T50 x0 x8).f6) ((rd_T50 x0 x8).f7)).bind fun bt423 => (if (!(bt416.1 == bt423.1) || ((!(bt416.2.1 == bt423.2.1) || (!(bt416.2.2.1 == bt423.2.2.1) || (!(bt416.2.2.2.1 == bt423.2.2.2.1)))) || (!(bt416.2.2.2.2.1.toList == bt423.2.2.2.2.1.toList) || (!(bt416.2.2.2.2.2 == bt423.2.2.2.2.2))))) = true then (some false) else (pylonlaw03_CivilAll.l0 k x0 x7 (wrap64 (x8 + 1)))))) else (none)) else (none)) else (some true)
def pylonlaw03_CivilAll.f (k : Nat) (l0 : List (S50)) : Option (Bool) := (pylonlaw03_awake.f).bind fun t414 => (if t414 = true then (pylonlaw03_CivilAll.l0 k l0 (l0.length : Int) 0) else (some false))
theorem pylonlaw03_CivilAll.mono_l : ∀ k, (∀ y0 y1 y2, LeO (pylonlaw03_CivilAll.l0 k y0 y1 y2) (pylonlaw03_CivilAll.l0 (k + 1) y0 y1 y2))
 | 0 => fun _ _ _ r h => by simp [pylonlaw03_CivilAll.l0] at h
 | k + 1 => by
  have ih0 := pylonlaw03_CivilAll.mono_l k
  ·intro y0 y1 y2
   unfold pylonlaw03_CivilAll.l0
   repeat' first
   | (with_reducible exact ih0 _ _ _)
   | (with_reducible exact pylonlaw03_plays.mono _ _ _ _ _ _ _ _ _ _ _ _ _)
   | (with_reducible exact pylonlaw03_wants.mono _ _ _ _ _ _ _ _ _ _ _ _ _)
   | (with_reducible exact LeO.refl _)
   | (with_reducible exact LeO.none _)
   | (with_reducible refine LeO.ite ?_ ?_)
   | (with_reducible refine LeO.bind ?_ (fun _ => ?_))
   | exact ih0 _ _ _
   | exact pylonlaw03_plays.mono _ _ _ _ _ _ _ _ _ _ _ _ _
   | exact pylonlaw03_wants.mono _ _ _ _ _ _ _ _ _ _ _ _ _
   | exact LeO.none _
   | refine LeO.ite ?_ ?_
   | refine LeO.bind ?_ (fun _ => ?_)
theorem pylonlaw03_CivilAll.mono : ∀ a0 k, LeO (pylonlaw03_CivilAll.f k a0) (pylonlaw03_CivilAll.f (k + 1) a0) := by
 intro a0 k
 have ih0 := pylonlaw03_CivilAll.mono_l k
 unfold pylonlaw03_CivilAll.f
 repeat' first
   | (with_reducible exact ih0 _ _ _)
   | (with_reducible exact pylonlaw03_plays.mono _ _ _ _ _ _ _ _ _ _ _ _ _)
   | (with_reducible exact pylonlaw03_wants.mono _ _ _ _ _ _ _ _ _ _ _ _ _)
   | (with_reducible exact LeO.refl _)
   | (with_reducible exact LeO.none _)
   | (with_reducible refine LeO.ite ?_ ?_)
   | (with_reducible refine LeO.bind ?_ (fun _ => ?_))
   | exact ih0 _ _ _
   | exact pylonlaw03_plays.mono _ _ _ _ _ _ _ _ _ _ _ _ _
   | exact pylonlaw03_wants.mono _ _ _ _ _ _ _ _ _ _ _ _ _
   | exact LeO.none _
   | refine LeO.ite ?_ ?_
   | refine LeO.bind ?_ (fun _ => ?_)
def pylonlaw03_CivilAll.T6 : Bool × List (List Nat × List Nat) := (true, [([], []), ([], []), ([0, 1], [0, 1]), ([2], [2]), ([3], [3]), ([], []), ([], []), ([5, 6], [5, 6]), ([7], [7]), ([8, 4], [8]), ([4, 9], [4, 9])])
def pylonlaw03_CivilAll.B6 : List Nat := [0, 0, 3, 7, 15, 0, 0, 96, 224, 511, 1023]
theorem pylonlaw03_CivilAll.tab6 : rtab .any (opsOf Try.f12 6) = pylonlaw03_CivilAll.T6 := by kernel_rfl
theorem pylonlaw03_CivilAll.bits6 : waitsOk pylonlaw03_CivilAll.T6.2 pylonlaw03_CivilAll.B6 = true := by kernel_rfl
set_option maxHeartbeats 8000000 in
set_option maxRecDepth 100000 in
theorem pylonlaw03_CivilAll.calls (k : Nat) (A0 : Option Addr) (c0 : Nat) (l0 : List (S50)) (r : Bool) (w : World) (hr0 : Kd.C k50 w A0 l0.length l0) (hc0 : l0.length ≤ c0) (h : pylonlaw03_CivilAll.f k l0 = some r) :
  Calls Try.prog 12 #[.slice A0 l0.length c0] w fun e w' => e = .returned (.bool r) ∧ Below w.heap.size w w' := by
 have hu50 := Try.underlying50
 have HR0 := Aside0.mk hr0
 have HC0 := Aside0.mk hc0
 clear hr0 hc0
 have HB := Aside0.mk (Below.refl w.heap.size w)
 have H : ((pylonlaw03_awake.f).bind fun t414 => (if t414 = true then (pylonlaw03_CivilAll.l0 k l0 (l0.length : Int) 0) else (some false))) = some r := h
 clear h
 replace H := Option.bind_eq_some_iff.mp H
 obtain ⟨t414, A20, H⟩ := H
 replace H : (if t414 = true then (pylonlaw03_CivilAll.l0 k l0 (l0.length : Int) 0) else (some false)) = some r := H
 have A2 := Aside0.mk A20
 clear A20
 by_cases c3 : t414 = true
 ·subst c3
  have H1 : (pylonlaw03_CivilAll.l0 k l0 (l0.length : Int) 0) = some r := by rw [if_pos rfl] at H; exact H
  clear H
  have H := H1
  clear H1
  have H' := Aside0.mk H
  clear H
  go_enter Try.func12, Try.ntmps12
  go_wp2_with (first | ((with_reducible refine gate_callee (f := 16) rfl ?_); refine goesL_ (some 4) rfl rfl Try.func16 (by kernel_rfl) rfl #[] rfl (by (try simp only [List.map_toArray, List.map_cons, List.map_nil]); first | done | rfl | (simp only [List.length_drop, List.length_take]; rfl)) ?_; (with_reducible refine (pylonlaw03_awake.calls  true _ A2.out).mono ?_); rintro e w4 ⟨rfl, hb⟩; refine ⟨_, rfl, ?_⟩; have n0_ := Aside0.mk (below_step (by repeat (first | (with_reducible first | exact HB.out | apply below_alloc | apply pw_below_drewN | apply below_drew1) | exact HB.out)) hb); clear HB; have HB := n0_; clear n0_; (try clear hb); (try clear hb2); (try clear hk); (try clear hi)))
  go_loopg [8] k (fun kq v8 w' => ∃ (x8_1 : Int), v8 = .int .i64 x8_1 ∧ Aside0 (pylonlaw03_CivilAll.l0 kq l0 (l0.length : Int) x8_1 = some r) ∧ Aside0 (kq ≤ k) ∧ Aside0 (Below w.heap.size w w'))
  case atStart => exact ⟨(0), (by first | rfl | (simp; done) | (simp [*]; done)), H', ⟨Nat.le_refl _⟩, ⟨by repeat (first | (with_reducible first | exact HB.out | apply below_alloc | apply pw_below_drewN | apply below_drew1) | exact HB.out)⟩⟩
  case round =>
   clear H'
   try clear c1
   try clear p2
   try clear c3
   obtain ⟨x8_1, rfl, HA, HK1, HB⟩ := hrel
   cases gk with
   | zero => exact absurd HA.out (by simp [pylonlaw03_CivilAll.l0])
   | succ k1 =>
    have H := HA.out
    clear HA
    simp only [pylonlaw03_CivilAll.l0] at H
    by_cases c5 : x8_1 < (l0.length : Int)
    ·rw [if_pos c5] at H
     have c5b0 : decide (x8_1 < (l0.length : Int)) = true := decide_eq_true c5
     clear c5
     by_cases c6 : 0 ≤ x8_1
     ·rw [if_pos c6] at H
      have c6b0 : decide (0 ≤ x8_1) = true := decide_eq_true c6
      clear c6
      by_cases c7 : x8_1 < (l0.length : Int)
      ·rw [if_pos c7] at H
       have c7b0 : decide (x8_1 < (l0.length : Int)) = true := decide_eq_true c7
       clear c7
       replace H := Option.bind_eq_some_iff.mp H
       obtain ⟨⟨t416, t417, t418, t419, t420, t421⟩, A80, H⟩ := H
       replace H : ((pylonlaw03_wants.f k1 ((rd_T50 l0 x8_1).f0) ((rd_T50 l0 x8_1).f1.f0) ((rd_T50 l0 x8_1).f1.f1) ((rd_T50 l0 x8_1).f1.f2) ((rd_T50 l0 x8_1).f2.f0) ((rd_T50 l0 x8_1).f2.f1) ((rd_T50 l0 x8_1).f2.f2) ((rd_T50 l0 x8_1).f3) ((rd_T50 l0 x8_1).f4) ((rd_T50 l0 x8_1).f5) ((rd_T50 l0 x8_1).f6) ((rd_T50 l0 x8_1).f7)).bind fun bt423 => (if (!(t416 == bt423.1) || ((!(t417 == bt423.2.1) || (!(t418 == bt423.2.2.1) || (!(t419 == bt423.2.2.2.1)))) || (!(t420.toList == bt423.2.2.2.2.1.toList) || (!(t421 == bt423.2.2.2.2.2))))) = true then (some false) else (pylonlaw03_CivilAll.l0 k1 l0 (l0.length : Int) (wrap64 (x8_1 + 1))))) = some r := H
       have A8 := Aside0.mk A80
       clear A80
       replace H := Option.bind_eq_some_iff.mp H
       obtain ⟨⟨t423, t424, t425, t426, t427, t428⟩, A90, H⟩ := H
       replace H : (if (!(t416 == t423) || ((!(t417 == t424) || (!(t418 == t425) || (!(t419 == t426)))) || (!(t420.toList == t427.toList) || (!(t421 == t428))))) = true then (some false) else (pylonlaw03_CivilAll.l0 k1 l0 (l0.length : Int) (wrap64 (x8_1 + 1)))) = some r := H
       have A9 := Aside0.mk A90
       clear A90
       by_cases c10 : (!(t416 == t423) || ((!(t417 == t424) || (!(t418 == t425) || (!(t419 == t426)))) || (!(t420.toList == t427.toList) || (!(t421 == t428))))) = true
       ·rw [if_pos c10] at H
        have c10b0 : (!(t416 == t423) || ((!(t417 == t424) || (!(t418 == t425) || (!(t419 == t426)))) || (!(t420.toList == t427.toList) || (!(t421 == t428))))) = true := c10
        clear c10
        obtain rfl := Option.some.inj H
        try go_wp2
        have n0_ := Aside0.mk (below_drew1 HB.out)
        clear HB
        have HB := n0_
        clear n0_
        have p415 : 0 ≤ (x8_1 : Int) := of_decide_eq_true (by first | (with_reducible assumption) | assumption)
        have q415 : x8_1 < (l0.length : Int) := of_decide_eq_true (by first | (with_reducible assumption) | assumption)
        obtain ⟨ad415, e415, hx415_0, hx415_1, hx415_2, hx415_3, hx415_4, hx415_5, hx415_6, hx415_7, hx415_8, hx415_9, hx415_10, hx415_11⟩ := at_T50 HR0.out x8_1 p415 q415
        have hw415_11 := hx415_11
        have hw415_10 := hx415_10
        have hw415_9 := hx415_9
        have hw415_8 := hx415_8
        have hw415_7 := hx415_7
        have hw415_6 := hx415_6
        have hw415_5 := hx415_5
        have hw415_4 := hx415_4
        have hw415_3 := hx415_3
        have hw415_2 := hx415_2
        have hw415_1 := hx415_1
        have hw415_0 := hx415_0
        cases e415
        replace hx415_0 := (HB.out.cell (World.block_lt_of_cell? w _ hx415_0)).trans hx415_0
        replace hx415_1 := (HB.out.cell (World.block_lt_of_cell? w _ hx415_1)).trans hx415_1
        replace hx415_2 := (HB.out.cell (World.block_lt_of_cell? w _ hx415_2)).trans hx415_2
        replace hx415_3 := (HB.out.cell (World.block_lt_of_cell? w _ hx415_3)).trans hx415_3
        replace hx415_4 := (HB.out.cell (World.block_lt_of_cell? w _ hx415_4)).trans hx415_4
        replace hx415_5 := (HB.out.cell (World.block_lt_of_cell? w _ hx415_5)).trans hx415_5
        replace hx415_6 := (HB.out.cell (World.block_lt_of_cell? w _ hx415_6)).trans hx415_6
        replace hx415_7 := (HB.out.cell (World.block_lt_of_cell? w _ hx415_7)).trans hx415_7
        replace hx415_8 := (HB.out.cell (World.block_lt_of_cell? w _ hx415_8)).trans hx415_8
        replace hx415_9 := (HB.out.cell (World.block_lt_of_cell? w _ hx415_9)).trans hx415_9
        replace hx415_10 := (HB.out.cell (World.block_lt_of_cell? w _ hx415_10)).trans hx415_10
        replace hx415_11 := (HB.out.cell (World.block_lt_of_cell? w _ hx415_11)).trans hx415_11
        replace p415 := eq_true p415
        replace q415 := eq_true q415
        have p422 : 0 ≤ (x8_1 : Int) := of_decide_eq_true (by first | (with_reducible assumption) | assumption)
        have q422 : x8_1 < (l0.length : Int) := of_decide_eq_true (by first | (with_reducible assumption) | assumption)
        obtain ⟨ad422, e422, hx422_0, hx422_1, hx422_2, hx422_3, hx422_4, hx422_5, hx422_6, hx422_7, hx422_8, hx422_9, hx422_10, hx422_11⟩ := at_T50 HR0.out x8_1 p422 q422
        have hw422_11 := hx422_11
        have hw422_10 := hx422_10
        have hw422_9 := hx422_9
        have hw422_8 := hx422_8
        have hw422_7 := hx422_7
        have hw422_6 := hx422_6
        have hw422_5 := hx422_5
        have hw422_4 := hx422_4
        have hw422_3 := hx422_3
        have hw422_2 := hx422_2
        have hw422_1 := hx422_1
        have hw422_0 := hx422_0
        obtain rfl : ad415 = ad422 := (by injection e422)
        replace hx422_0 := (HB.out.cell (World.block_lt_of_cell? w _ hx422_0)).trans hx422_0
        replace hx422_1 := (HB.out.cell (World.block_lt_of_cell? w _ hx422_1)).trans hx422_1
        replace hx422_2 := (HB.out.cell (World.block_lt_of_cell? w _ hx422_2)).trans hx422_2
        replace hx422_3 := (HB.out.cell (World.block_lt_of_cell? w _ hx422_3)).trans hx422_3
        replace hx422_4 := (HB.out.cell (World.block_lt_of_cell? w _ hx422_4)).trans hx422_4
        replace hx422_5 := (HB.out.cell (World.block_lt_of_cell? w _ hx422_5)).trans hx422_5
        replace hx422_6 := (HB.out.cell (World.block_lt_of_cell? w _ hx422_6)).trans hx422_6
        replace hx422_7 := (HB.out.cell (World.block_lt_of_cell? w _ hx422_7)).trans hx422_7
        replace hx422_8 := (HB.out.cell (World.block_lt_of_cell? w _ hx422_8)).trans hx422_8
        replace hx422_9 := (HB.out.cell (World.block_lt_of_cell? w _ hx422_9)).trans hx422_9
        replace hx422_10 := (HB.out.cell (World.block_lt_of_cell? w _ hx422_10)).trans hx422_10
        replace hx422_11 := (HB.out.cell (World.block_lt_of_cell? w _ hx422_11)).trans hx422_11
        replace p422 := eq_true p422
        replace q422 := eq_true q422
        refine start_ (n := 11) (S := fun w' => w'.cell? (ad415.add ((x8_1).toNat * 12)) = some (.int .i64 ((rd_T50 l0 x8_1).f0)) ∧ w'.cell? ⟨(ad415.add ((x8_1).toNat * 12)).block, (ad415.add ((x8_1).toNat * 12)).off + 1, none⟩ = some (.int .i64 ((rd_T50 l0 x8_1).f1.f0)) ∧ w'.cell? ⟨(ad415.add ((x8_1).toNat * 12)).block, (ad415.add ((x8_1).toNat * 12)).off + 2, none⟩ = some (.int .i64 ((rd_T50 l0 x8_1).f1.f1)) ∧ w'.cell? ⟨(ad415.add ((x8_1).toNat * 12)).block, (ad415.add ((x8_1).toNat * 12)).off + 3, none⟩ = some (.int .i64 ((rd_T50 l0 x8_1).f1.f2)) ∧ w'.cell? ⟨(ad415.add ((x8_1).toNat * 12)).block, (ad415.add ((x8_1).toNat * 12)).off + 4, none⟩ = some (.int .i64 ((rd_T50 l0 x8_1).f2.f0)) ∧ w'.cell? ⟨(ad415.add ((x8_1).toNat * 12)).block, (ad415.add ((x8_1).toNat * 12)).off + 5, none⟩ = some (.int .i64 ((rd_T50 l0 x8_1).f2.f1)) ∧ w'.cell? ⟨(ad415.add ((x8_1).toNat * 12)).block, (ad415.add ((x8_1).toNat * 12)).off + 6, none⟩ = some (.int .i64 ((rd_T50 l0 x8_1).f2.f2)) ∧ w'.cell? ⟨(ad415.add ((x8_1).toNat * 12)).block, (ad415.add ((x8_1).toNat * 12)).off + 7, none⟩ = some (.int .i64 ((rd_T50 l0 x8_1).f3)) ∧ w'.cell? ⟨(ad415.add ((x8_1).toNat * 12)).block, (ad415.add ((x8_1).toNat * 12)).off + 8, none⟩ = some (.int .i64 ((rd_T50 l0 x8_1).f4)) ∧ w'.cell? ⟨(ad415.add ((x8_1).toNat * 12)).block, (ad415.add ((x8_1).toNat * 12)).off + 9, none⟩ = some (.int .i64 ((rd_T50 l0 x8_1).f5)) ∧ w'.cell? ⟨(ad415.add ((x8_1).toNat * 12)).block, (ad415.add ((x8_1).toNat * 12)).off + 10, none⟩ = some (.int .i64 ((rd_T50 l0 x8_1).f6)) ∧ w'.cell? ⟨(ad415.add ((x8_1).toNat * 12)).block, (ad415.add ((x8_1).toNat * 12)).off + 11, none⟩ = some (.string ((rd_T50 l0 x8_1).f7)) ∧ w'.cell? (ad415.add ((x8_1).toNat * 12)) = some (.int .i64 ((rd_T50 l0 x8_1).f0)) ∧ w'.cell? ⟨(ad415.add ((x8_1).toNat * 12)).block, (ad415.add ((x8_1).toNat * 12)).off + 1, none⟩ = some (.int .i64 ((rd_T50 l0 x8_1).f1.f0)) ∧ w'.cell? ⟨(ad415.add ((x8_1).toNat * 12)).block, (ad415.add ((x8_1).toNat * 12)).off + 2, none⟩ = some (.int .i64 ((rd_T50 l0 x8_1).f1.f1)) ∧ w'.cell? ⟨(ad415.add ((x8_1).toNat * 12)).block, (ad415.add ((x8_1).toNat * 12)).off + 3, none⟩ = some (.int .i64 ((rd_T50 l0 x8_1).f1.f2)) ∧ w'.cell? ⟨(ad415.add ((x8_1).toNat * 12)).block, (ad415.add ((x8_1).toNat * 12)).off + 4, none⟩ = some (.int .i64 ((rd_T50 l0 x8_1).f2.f0)) ∧ w'.cell? ⟨(ad415.add ((x8_1).toNat * 12)).block, (ad415.add ((x8_1).toNat * 12)).off + 5, none⟩ = some (.int .i64 ((rd_T50 l0 x8_1).f2.f1)) ∧ w'.cell? ⟨(ad415.add ((x8_1).toNat * 12)).block, (ad415.add ((x8_1).toNat * 12)).off + 6, none⟩ = some (.int .i64 ((rd_T50 l0 x8_1).f2.f2)) ∧ w'.cell? ⟨(ad415.add ((x8_1).toNat * 12)).block, (ad415.add ((x8_1).toNat * 12)).off + 7, none⟩ = some (.int .i64 ((rd_T50 l0 x8_1).f3)) ∧ w'.cell? ⟨(ad415.add ((x8_1).toNat * 12)).block, (ad415.add ((x8_1).toNat * 12)).off + 8, none⟩ = some (.int .i64 ((rd_T50 l0 x8_1).f4)) ∧ w'.cell? ⟨(ad415.add ((x8_1).toNat * 12)).block, (ad415.add ((x8_1).toNat * 12)).off + 9, none⟩ = some (.int .i64 ((rd_T50 l0 x8_1).f5)) ∧ w'.cell? ⟨(ad415.add ((x8_1).toNat * 12)).block, (ad415.add ((x8_1).toNat * 12)).off + 10, none⟩ = some (.int .i64 ((rd_T50 l0 x8_1).f6)) ∧ w'.cell? ⟨(ad415.add ((x8_1).toNat * 12)).block, (ad415.add ((x8_1).toNat * 12)).off + 11, none⟩ = some (.string ((rd_T50 l0 x8_1).f7))) (ds := []) #[false, false, false, false, false, false, false, false, false, false, false] (by kernel_rfl) rfl rfl ⟨((HB.out.cell (World.block_lt_of_cell? w _ hw415_0)).trans hw415_0), ((HB.out.cell (World.block_lt_of_cell? w _ hw415_1)).trans hw415_1), ((HB.out.cell (World.block_lt_of_cell? w _ hw415_2)).trans hw415_2), ((HB.out.cell (World.block_lt_of_cell? w _ hw415_3)).trans hw415_3), ((HB.out.cell (World.block_lt_of_cell? w _ hw415_4)).trans hw415_4), ((HB.out.cell (World.block_lt_of_cell? w _ hw415_5)).trans hw415_5), ((HB.out.cell (World.block_lt_of_cell? w _ hw415_6)).trans hw415_6), ((HB.out.cell (World.block_lt_of_cell? w _ hw415_7)).trans hw415_7), ((HB.out.cell (World.block_lt_of_cell? w _ hw415_8)).trans hw415_8), ((HB.out.cell (World.block_lt_of_cell? w _ hw415_9)).trans hw415_9), ((HB.out.cell (World.block_lt_of_cell? w _ hw415_10)).trans hw415_10), ((HB.out.cell (World.block_lt_of_cell? w _ hw415_11)).trans hw415_11), ((HB.out.cell (World.block_lt_of_cell? w _ hw422_0)).trans hw422_0), ((HB.out.cell (World.block_lt_of_cell? w _ hw422_1)).trans hw422_1), ((HB.out.cell (World.block_lt_of_cell? w _ hw422_2)).trans hw422_2), ((HB.out.cell (World.block_lt_of_cell? w _ hw422_3)).trans hw422_3), ((HB.out.cell (World.block_lt_of_cell? w _ hw422_4)).trans hw422_4), ((HB.out.cell (World.block_lt_of_cell? w _ hw422_5)).trans hw422_5), ((HB.out.cell (World.block_lt_of_cell? w _ hw422_6)).trans hw422_6), ((HB.out.cell (World.block_lt_of_cell? w _ hw422_7)).trans hw422_7), ((HB.out.cell (World.block_lt_of_cell? w _ hw422_8)).trans hw422_8), ((HB.out.cell (World.block_lt_of_cell? w _ hw422_9)).trans hw422_9), ((HB.out.cell (World.block_lt_of_cell? w _ hw422_10)).trans hw422_10), ((HB.out.cell (World.block_lt_of_cell? w _ hw422_11)).trans hw422_11)⟩ (fun hHeld => ?_); refine with_tabW pylonlaw03_CivilAll.tab6 pylonlaw03_CivilAll.bits6 (fun HT_ HW_ => ?_)
        generalize wr.drew = w11 at HB hx415_0 hx415_1 hx415_10 hx415_11 hx415_2 hx415_3 hx415_4 hx415_5 hx415_6 hx415_7 hx415_8 hx415_9 hx422_0 hx422_1 hx422_10 hx422_11 hx422_2 hx422_3 hx422_4 hx422_5 hx422_6 hx422_7 hx422_8 hx422_9 hHeld ⊢
        refine pure_ (i := 0) (N := some 11) (v := ?_) (a' := ?_) #[true, false, false, false, false, false, false, false, false, false, false] rfl rfl (any_of HT_.out (by kernel_rfl)) (fun _ _ _ h => h) (Or.inl ⟨by rfl, ?_⟩) ?_ ?_
        rotate_left
        ·intro w'
         go_simp
         with_reducible rfl
        rotate_left
        ·simp only [Act.put, List.setIfInBounds_toArray, List.set_cons_zero, List.set_cons_succ, i64_w, i32_w]
         rfl
        refine pure_ (i := 1) (N := some 12) (v := ?_) (a' := ?_) #[true, true, false, false, false, false, false, false, false, false, false] rfl rfl (any_of HT_.out (by kernel_rfl)) (fun _ _ _ h => h) (Or.inl ⟨by rfl, ?_⟩) ?_ ?_
        rotate_left
        ·intro w'
         go_simp
         with_reducible rfl
        rotate_left
        ·simp only [Act.put, List.setIfInBounds_toArray, List.set_cons_zero, List.set_cons_succ, i64_w, i32_w]
         rfl
        refine pure_ (i := 2) (N := some 13) (v := ?_) (a' := ?_) #[true, true, true, false, false, false, false, false, false, false, false] rfl rfl (any_of HT_.out (by kernel_rfl)) (fun _ _ _ h => h) (Or.inl ⟨by rfl, ?_⟩) ?_ ?_
        rotate_left
        ·intro w'
         go_simp
         with_reducible rfl
        rotate_left
        ·simp only [Act.put, List.setIfInBounds_toArray, List.set_cons_zero, List.set_cons_succ, i64_w, i32_w]
         rfl
        refine pure_ (i := 5) (N := some 16) (v := ?_) (a' := ?_) #[true, true, true, false, false, true, false, false, false, false, false] rfl rfl (any_of HT_.out (by kernel_rfl)) (fun _ _ _ h => h) (Or.inl ⟨by rfl, ?_⟩) ?_ ?_
        rotate_left
        ·intro w'
         go_simp
         with_reducible rfl
        rotate_left
        ·simp only [Act.put, List.setIfInBounds_toArray, List.set_cons_zero, List.set_cons_succ, i64_w, i32_w]
         rfl
        refine pure_ (i := 6) (N := some 17) (v := ?_) (a' := ?_) #[true, true, true, false, false, true, true, false, false, false, false] rfl rfl (any_of HT_.out (by kernel_rfl)) (fun _ _ _ h => h) (Or.inl ⟨by rfl, ?_⟩) ?_ ?_
        rotate_left
        ·intro w'
         go_simp
         with_reducible rfl
        rotate_left
        ·simp only [Act.put, List.setIfInBounds_toArray, List.set_cons_zero, List.set_cons_succ, i64_w, i32_w]
         rfl
        refine pure_ (i := 7) (N := some 18) (v := ?_) (a' := ?_) #[true, true, true, false, false, true, true, true, false, false, false] rfl rfl (any_of HT_.out (by kernel_rfl)) (fun _ _ _ h => h) (Or.inl ⟨by rfl, ?_⟩) ?_ ?_
        rotate_left
        ·intro w'
         go_simp
         with_reducible rfl
        rotate_left
        ·simp only [Act.put, List.setIfInBounds_toArray, List.set_cons_zero, List.set_cons_succ, i64_w, i32_w]
         rfl
        refine take_ (i := 3) (N := some 14) (v := ?_) (a' := ?_) #[true, true, true, true, false, true, true, true, false, false, false] rfl rfl (take_ofW HT_.out HW_.out (by kernel_rfl)) (fun _ _ _ h => h) (Or.inl ⟨by rfl, ?_⟩) hHeld ?_ ?_
        rotate_left
        ·rintro w' ⟨s0, s1, s2, s3, s4, s5, s6, s7, s8, s9, s10, s11, s12, s13, s14, s15, s16, s17, s18, s19, s20, s21, s22, s23⟩
         go_simp
         with_reducible rfl
        rotate_left
        ·simp only [Act.put, List.setIfInBounds_toArray, List.set_cons_zero, List.set_cons_succ, i64_w, i32_w]
         rfl
        refine take_ (i := 8) (N := some 19) (v := ?_) (a' := ?_) #[true, true, true, true, false, true, true, true, true, false, false] rfl rfl (take_ofW HT_.out HW_.out (by kernel_rfl)) (fun _ _ _ h => h) (Or.inl ⟨by rfl, ?_⟩) hHeld ?_ ?_
        rotate_left
        ·rintro w' ⟨s0, s1, s2, s3, s4, s5, s6, s7, s8, s9, s10, s11, s12, s13, s14, s15, s16, s17, s18, s19, s20, s21, s22, s23⟩
         go_simp
         with_reducible rfl
        rotate_left
        ·simp only [Act.put, List.setIfInBounds_toArray, List.set_cons_zero, List.set_cons_succ, i64_w, i32_w]
         rfl
        refine one_ (i := 4) (N := some 15) #[true, true, true, true, true, true, true, true, true, false, false] rfl rfl (one_of HT_.out (by kernel_rfl)) (by decide) (fun K hK => ?_)
        refine goes_ Try.func35 (by kernel_rfl) rfl #[.agg #[.int .i64 ((rd_T50 l0 x8_1).f0), .int .i64 ((rd_T50 l0 x8_1).f1.f0), .int .i64 ((rd_T50 l0 x8_1).f1.f1), .int .i64 ((rd_T50 l0 x8_1).f1.f2), .int .i64 ((rd_T50 l0 x8_1).f2.f0), .int .i64 ((rd_T50 l0 x8_1).f2.f1), .int .i64 ((rd_T50 l0 x8_1).f2.f2), .int .i64 ((rd_T50 l0 x8_1).f3), .int .i64 ((rd_T50 l0 x8_1).f4), .int .i64 ((rd_T50 l0 x8_1).f5), .int .i64 ((rd_T50 l0 x8_1).f6), .string ((rd_T50 l0 x8_1).f7)]] (by rfl) rfl rfl (by (try simp only [List.map_toArray, List.map_cons, List.map_nil]); first | done | rfl | (simp only [List.length_drop, List.length_take]; rfl)) ?_
        with_reducible refine (pylonlaw03_plays.calls k1 ((rd_T50 l0 x8_1).f0) ((rd_T50 l0 x8_1).f1.f0) ((rd_T50 l0 x8_1).f1.f1) ((rd_T50 l0 x8_1).f1.f2) ((rd_T50 l0 x8_1).f2.f0) ((rd_T50 l0 x8_1).f2.f1) ((rd_T50 l0 x8_1).f2.f2) ((rd_T50 l0 x8_1).f3) ((rd_T50 l0 x8_1).f4) ((rd_T50 l0 x8_1).f5) ((rd_T50 l0 x8_1).f6) ((rd_T50 l0 x8_1).f7) t416 t417 t418 t419 t420 t421 _ A8.out).mono ?_
        rintro e w12 ⟨rfl, hb⟩
        refine ⟨_, rfl, ?_⟩
        have n0_ := Aside0.mk (below_step (by repeat (first | (with_reducible first | exact HB.out | apply below_alloc | apply pw_below_drewN | apply below_drew1) | exact HB.out)) hb)
        clear HB
        have HB := n0_
        clear n0_
        (try clear hb)
        (try clear hb2)
        (try clear hk)
        (try clear hi)
        refine hK.out _ _ ⟨((HB.out.cell (World.block_lt_of_cell? w _ hw415_0)).trans hw415_0), ((HB.out.cell (World.block_lt_of_cell? w _ hw415_1)).trans hw415_1), ((HB.out.cell (World.block_lt_of_cell? w _ hw415_2)).trans hw415_2), ((HB.out.cell (World.block_lt_of_cell? w _ hw415_3)).trans hw415_3), ((HB.out.cell (World.block_lt_of_cell? w _ hw415_4)).trans hw415_4), ((HB.out.cell (World.block_lt_of_cell? w _ hw415_5)).trans hw415_5), ((HB.out.cell (World.block_lt_of_cell? w _ hw415_6)).trans hw415_6), ((HB.out.cell (World.block_lt_of_cell? w _ hw415_7)).trans hw415_7), ((HB.out.cell (World.block_lt_of_cell? w _ hw415_8)).trans hw415_8), ((HB.out.cell (World.block_lt_of_cell? w _ hw415_9)).trans hw415_9), ((HB.out.cell (World.block_lt_of_cell? w _ hw415_10)).trans hw415_10), ((HB.out.cell (World.block_lt_of_cell? w _ hw415_11)).trans hw415_11), ((HB.out.cell (World.block_lt_of_cell? w _ hw422_0)).trans hw422_0), ((HB.out.cell (World.block_lt_of_cell? w _ hw422_1)).trans hw422_1), ((HB.out.cell (World.block_lt_of_cell? w _ hw422_2)).trans hw422_2), ((HB.out.cell (World.block_lt_of_cell? w _ hw422_3)).trans hw422_3), ((HB.out.cell (World.block_lt_of_cell? w _ hw422_4)).trans hw422_4), ((HB.out.cell (World.block_lt_of_cell? w _ hw422_5)).trans hw422_5), ((HB.out.cell (World.block_lt_of_cell? w _ hw422_6)).trans hw422_6), ((HB.out.cell (World.block_lt_of_cell? w _ hw422_7)).trans hw422_7), ((HB.out.cell (World.block_lt_of_cell? w _ hw422_8)).trans hw422_8), ((HB.out.cell (World.block_lt_of_cell? w _ hw422_9)).trans hw422_9), ((HB.out.cell (World.block_lt_of_cell? w _ hw422_10)).trans hw422_10), ((HB.out.cell (World.block_lt_of_cell? w _ hw422_11)).trans hw422_11)⟩ (fun hHeld => ?_)
        clear hK K
        refine norm_ (a' := ?_) ?_ ?_
        rotate_left
        ·show Act.put _ (some 15) _ = _
         simp only [Act.put, List.setIfInBounds_toArray, List.set_cons_zero, List.set_cons_succ, i64_w, i32_w]
         rfl
        refine one_ (i := 9) (N := some 20) #[true, true, true, true, true, true, true, true, true, true, false] rfl rfl (one_of HT_.out (by kernel_rfl)) (by decide) (fun K hK => ?_)
        refine goes_ Try.func36 (by kernel_rfl) rfl #[.agg #[.int .i64 ((rd_T50 l0 x8_1).f0), .int .i64 ((rd_T50 l0 x8_1).f1.f0), .int .i64 ((rd_T50 l0 x8_1).f1.f1), .int .i64 ((rd_T50 l0 x8_1).f1.f2), .int .i64 ((rd_T50 l0 x8_1).f2.f0), .int .i64 ((rd_T50 l0 x8_1).f2.f1), .int .i64 ((rd_T50 l0 x8_1).f2.f2), .int .i64 ((rd_T50 l0 x8_1).f3), .int .i64 ((rd_T50 l0 x8_1).f4), .int .i64 ((rd_T50 l0 x8_1).f5), .int .i64 ((rd_T50 l0 x8_1).f6), .string ((rd_T50 l0 x8_1).f7)]] (by rfl) rfl rfl (by (try simp only [List.map_toArray, List.map_cons, List.map_nil]); first | done | rfl | (simp only [List.length_drop, List.length_take]; rfl)) ?_
        with_reducible refine (pylonlaw03_wants.calls k1 ((rd_T50 l0 x8_1).f0) ((rd_T50 l0 x8_1).f1.f0) ((rd_T50 l0 x8_1).f1.f1) ((rd_T50 l0 x8_1).f1.f2) ((rd_T50 l0 x8_1).f2.f0) ((rd_T50 l0 x8_1).f2.f1) ((rd_T50 l0 x8_1).f2.f2) ((rd_T50 l0 x8_1).f3) ((rd_T50 l0 x8_1).f4) ((rd_T50 l0 x8_1).f5) ((rd_T50 l0 x8_1).f6) ((rd_T50 l0 x8_1).f7) t423 t424 t425 t426 t427 t428 _ A9.out).mono ?_
        rintro e w13 ⟨rfl, hb⟩
        refine ⟨_, rfl, ?_⟩
        have n0_ := Aside0.mk (below_step (by repeat (first | (with_reducible first | exact HB.out | apply below_alloc | apply pw_below_drewN | apply below_drew1) | exact HB.out)) hb)
        clear HB
        have HB := n0_
        clear n0_
        (try clear hb)
        (try clear hb2)
        (try clear hk)
        (try clear hi)
        refine hK.out _ _ ⟨((HB.out.cell (World.block_lt_of_cell? w _ hw415_0)).trans hw415_0), ((HB.out.cell (World.block_lt_of_cell? w _ hw415_1)).trans hw415_1), ((HB.out.cell (World.block_lt_of_cell? w _ hw415_2)).trans hw415_2), ((HB.out.cell (World.block_lt_of_cell? w _ hw415_3)).trans hw415_3), ((HB.out.cell (World.block_lt_of_cell? w _ hw415_4)).trans hw415_4), ((HB.out.cell (World.block_lt_of_cell? w _ hw415_5)).trans hw415_5), ((HB.out.cell (World.block_lt_of_cell? w _ hw415_6)).trans hw415_6), ((HB.out.cell (World.block_lt_of_cell? w _ hw415_7)).trans hw415_7), ((HB.out.cell (World.block_lt_of_cell? w _ hw415_8)).trans hw415_8), ((HB.out.cell (World.block_lt_of_cell? w _ hw415_9)).trans hw415_9), ((HB.out.cell (World.block_lt_of_cell? w _ hw415_10)).trans hw415_10), ((HB.out.cell (World.block_lt_of_cell? w _ hw415_11)).trans hw415_11), ((HB.out.cell (World.block_lt_of_cell? w _ hw422_0)).trans hw422_0), ((HB.out.cell (World.block_lt_of_cell? w _ hw422_1)).trans hw422_1), ((HB.out.cell (World.block_lt_of_cell? w _ hw422_2)).trans hw422_2), ((HB.out.cell (World.block_lt_of_cell? w _ hw422_3)).trans hw422_3), ((HB.out.cell (World.block_lt_of_cell? w _ hw422_4)).trans hw422_4), ((HB.out.cell (World.block_lt_of_cell? w _ hw422_5)).trans hw422_5), ((HB.out.cell (World.block_lt_of_cell? w _ hw422_6)).trans hw422_6), ((HB.out.cell (World.block_lt_of_cell? w _ hw422_7)).trans hw422_7), ((HB.out.cell (World.block_lt_of_cell? w _ hw422_8)).trans hw422_8), ((HB.out.cell (World.block_lt_of_cell? w _ hw422_9)).trans hw422_9), ((HB.out.cell (World.block_lt_of_cell? w _ hw422_10)).trans hw422_10), ((HB.out.cell (World.block_lt_of_cell? w _ hw422_11)).trans hw422_11)⟩ (fun hHeld => ?_)
        clear hK K
        refine norm_ (a' := ?_) ?_ ?_
        rotate_left
        ·show Act.put _ (some 20) _ = _
         simp only [Act.put, List.setIfInBounds_toArray, List.set_cons_zero, List.set_cons_succ, i64_w, i32_w]
         rfl
        refine pure_ (i := 10) (N := some 21) (v := ?_) (a' := ?_) #[true, true, true, true, true, true, true, true, true, true, true] rfl rfl (any_of HT_.out (by kernel_rfl)) (fun _ _ _ h => h) (Or.inl ⟨by rfl, ?_⟩) ?_ ?_
        rotate_left
        ·intro w'
         go_simp
         with_reducible rfl
        rotate_left
        ·simp only [Act.put, List.setIfInBounds_toArray, List.set_cons_zero, List.set_cons_succ, i64_w, i32_w]
         rfl
        refine done_ (done_of HT_.out (by kernel_rfl)) ?_
        try go_wp2
        go_ret
        exact ⟨by first | rfl | (simp [errW_none, errW_some] <;> rfl) | (simp [*, errW_none, errW_some] <;> rfl), by repeat (first | (with_reducible first | exact HB.out | apply below_alloc | apply pw_below_drewN | apply below_drew1) | exact HB.out)⟩
       ·rw [if_neg c10] at H
        have c10b0 : (!(t416 == t423) || ((!(t417 == t424) || (!(t418 == t425) || (!(t419 == t426)))) || (!(t420.toList == t427.toList) || (!(t421 == t428))))) = false := by simpa using c10
        clear c10
        have H' := Aside0.mk H
        clear H
        try go_wp2
        have n0_ := Aside0.mk (below_drew1 HB.out)
        clear HB
        have HB := n0_
        clear n0_
        have p415 : 0 ≤ (x8_1 : Int) := of_decide_eq_true (by first | (with_reducible assumption) | assumption)
        have q415 : x8_1 < (l0.length : Int) := of_decide_eq_true (by first | (with_reducible assumption) | assumption)
        obtain ⟨ad415, e415, hx415_0, hx415_1, hx415_2, hx415_3, hx415_4, hx415_5, hx415_6, hx415_7, hx415_8, hx415_9, hx415_10, hx415_11⟩ := at_T50 HR0.out x8_1 p415 q415
        have hw415_11 := hx415_11
        have hw415_10 := hx415_10
        have hw415_9 := hx415_9
        have hw415_8 := hx415_8
        have hw415_7 := hx415_7
        have hw415_6 := hx415_6
        have hw415_5 := hx415_5
        have hw415_4 := hx415_4
        have hw415_3 := hx415_3
        have hw415_2 := hx415_2
        have hw415_1 := hx415_1
        have hw415_0 := hx415_0
        cases e415
        replace hx415_0 := (HB.out.cell (World.block_lt_of_cell? w _ hx415_0)).trans hx415_0
        replace hx415_1 := (HB.out.cell (World.block_lt_of_cell? w _ hx415_1)).trans hx415_1
        replace hx415_2 := (HB.out.cell (World.block_lt_of_cell? w _ hx415_2)).trans hx415_2
        replace hx415_3 := (HB.out.cell (World.block_lt_of_cell? w _ hx415_3)).trans hx415_3
        replace hx415_4 := (HB.out.cell (World.block_lt_of_cell? w _ hx415_4)).trans hx415_4
        replace hx415_5 := (HB.out.cell (World.block_lt_of_cell? w _ hx415_5)).trans hx415_5
        replace hx415_6 := (HB.out.cell (World.block_lt_of_cell? w _ hx415_6)).trans hx415_6
        replace hx415_7 := (HB.out.cell (World.block_lt_of_cell? w _ hx415_7)).trans hx415_7
        replace hx415_8 := (HB.out.cell (World.block_lt_of_cell? w _ hx415_8)).trans hx415_8
        replace hx415_9 := (HB.out.cell (World.block_lt_of_cell? w _ hx415_9)).trans hx415_9
        replace hx415_10 := (HB.out.cell (World.block_lt_of_cell? w _ hx415_10)).trans hx415_10
        replace hx415_11 := (HB.out.cell (World.block_lt_of_cell? w _ hx415_11)).trans hx415_11
        replace p415 := eq_true p415
        replace q415 := eq_true q415
        have p422 : 0 ≤ (x8_1 : Int) := of_decide_eq_true (by first | (with_reducible assumption) | assumption)
        have q422 : x8_1 < (l0.length : Int) := of_decide_eq_true (by first | (with_reducible assumption) | assumption)
        obtain ⟨ad422, e422, hx422_0, hx422_1, hx422_2, hx422_3, hx422_4, hx422_5, hx422_6, hx422_7, hx422_8, hx422_9, hx422_10, hx422_11⟩ := at_T50 HR0.out x8_1 p422 q422
        have hw422_11 := hx422_11
        have hw422_10 := hx422_10
        have hw422_9 := hx422_9
        have hw422_8 := hx422_8
        have hw422_7 := hx422_7
        have hw422_6 := hx422_6
        have hw422_5 := hx422_5
        have hw422_4 := hx422_4
        have hw422_3 := hx422_3
        have hw422_2 := hx422_2
        have hw422_1 := hx422_1
        have hw422_0 := hx422_0
        obtain rfl : ad415 = ad422 := (by injection e422)
        replace hx422_0 := (HB.out.cell (World.block_lt_of_cell? w _ hx422_0)).trans hx422_0
        replace hx422_1 := (HB.out.cell (World.block_lt_of_cell? w _ hx422_1)).trans hx422_1
        replace hx422_2 := (HB.out.cell (World.block_lt_of_cell? w _ hx422_2)).trans hx422_2
        replace hx422_3 := (HB.out.cell (World.block_lt_of_cell? w _ hx422_3)).trans hx422_3
        replace hx422_4 := (HB.out.cell (World.block_lt_of_cell? w _ hx422_4)).trans hx422_4
        replace hx422_5 := (HB.out.cell (World.block_lt_of_cell? w _ hx422_5)).trans hx422_5
        replace hx422_6 := (HB.out.cell (World.block_lt_of_cell? w _ hx422_6)).trans hx422_6
        replace hx422_7 := (HB.out.cell (World.block_lt_of_cell? w _ hx422_7)).trans hx422_7
        replace hx422_8 := (HB.out.cell (World.block_lt_of_cell? w _ hx422_8)).trans hx422_8
        replace hx422_9 := (HB.out.cell (World.block_lt_of_cell? w _ hx422_9)).trans hx422_9
        replace hx422_10 := (HB.out.cell (World.block_lt_of_cell? w _ hx422_10)).trans hx422_10
        replace hx422_11 := (HB.out.cell (World.block_lt_of_cell? w _ hx422_11)).trans hx422_11
        replace p422 := eq_true p422
        replace q422 := eq_true q422
        refine start_ (n := 11) (S := fun w' => w'.cell? (ad415.add ((x8_1).toNat * 12)) = some (.int .i64 ((rd_T50 l0 x8_1).f0)) ∧ w'.cell? ⟨(ad415.add ((x8_1).toNat * 12)).block, (ad415.add ((x8_1).toNat * 12)).off + 1, none⟩ = some (.int .i64 ((rd_T50 l0 x8_1).f1.f0)) ∧ w'.cell? ⟨(ad415.add ((x8_1).toNat * 12)).block, (ad415.add ((x8_1).toNat * 12)).off + 2, none⟩ = some (.int .i64 ((rd_T50 l0 x8_1).f1.f1)) ∧ w'.cell? ⟨(ad415.add ((x8_1).toNat * 12)).block, (ad415.add ((x8_1).toNat * 12)).off + 3, none⟩ = some (.int .i64 ((rd_T50 l0 x8_1).f1.f2)) ∧ w'.cell? ⟨(ad415.add ((x8_1).toNat * 12)).block, (ad415.add ((x8_1).toNat * 12)).off + 4, none⟩ = some (.int .i64 ((rd_T50 l0 x8_1).f2.f0)) ∧ w'.cell? ⟨(ad415.add ((x8_1).toNat * 12)).block, (ad415.add ((x8_1).toNat * 12)).off + 5, none⟩ = some (.int .i64 ((rd_T50 l0 x8_1).f2.f1)) ∧ w'.cell? ⟨(ad415.add ((x8_1).toNat * 12)).block, (ad415.add ((x8_1).toNat * 12)).off + 6, none⟩ = some (.int .i64 ((rd_T50 l0 x8_1).f2.f2)) ∧ w'.cell? ⟨(ad415.add ((x8_1).toNat * 12)).block, (ad415.add ((x8_1).toNat * 12)).off + 7, none⟩ = some (.int .i64 ((rd_T50 l0 x8_1).f3)) ∧ w'.cell? ⟨(ad415.add ((x8_1).toNat * 12)).block, (ad415.add ((x8_1).toNat * 12)).off + 8, none⟩ = some (.int .i64 ((rd_T50 l0 x8_1).f4)) ∧ w'.cell? ⟨(ad415.add ((x8_1).toNat * 12)).block, (ad415.add ((x8_1).toNat * 12)).off + 9, none⟩ = some (.int .i64 ((rd_T50 l0 x8_1).f5)) ∧ w'.cell? ⟨(ad415.add ((x8_1).toNat * 12)).block, (ad415.add ((x8_1).toNat * 12)).off + 10, none⟩ = some (.int .i64 ((rd_T50 l0 x8_1).f6)) ∧ w'.cell? ⟨(ad415.add ((x8_1).toNat * 12)).block, (ad415.add ((x8_1).toNat * 12)).off + 11, none⟩ = some (.string ((rd_T50 l0 x8_1).f7)) ∧ w'.cell? (ad415.add ((x8_1).toNat * 12)) = some (.int .i64 ((rd_T50 l0 x8_1).f0)) ∧ w'.cell? ⟨(ad415.add ((x8_1).toNat * 12)).block, (ad415.add ((x8_1).toNat * 12)).off + 1, none⟩ = some (.int .i64 ((rd_T50 l0 x8_1).f1.f0)) ∧ w'.cell? ⟨(ad415.add ((x8_1).toNat * 12)).block, (ad415.add ((x8_1).toNat * 12)).off + 2, none⟩ = some (.int .i64 ((rd_T50 l0 x8_1).f1.f1)) ∧ w'.cell? ⟨(ad415.add ((x8_1).toNat * 12)).block, (ad415.add ((x8_1).toNat * 12)).off + 3, none⟩ = some (.int .i64 ((rd_T50 l0 x8_1).f1.f2)) ∧ w'.cell? ⟨(ad415.add ((x8_1).toNat * 12)).block, (ad415.add ((x8_1).toNat * 12)).off + 4, none⟩ = some (.int .i64 ((rd_T50 l0 x8_1).f2.f0)) ∧ w'.cell? ⟨(ad415.add ((x8_1).toNat * 12)).block, (ad415.add ((x8_1).toNat * 12)).off + 5, none⟩ = some (.int .i64 ((rd_T50 l0 x8_1).f2.f1)) ∧ w'.cell? ⟨(ad415.add ((x8_1).toNat * 12)).block, (ad415.add ((x8_1).toNat * 12)).off + 6, none⟩ = some (.int .i64 ((rd_T50 l0 x8_1).f2.f2)) ∧ w'.cell? ⟨(ad415.add ((x8_1).toNat * 12)).block, (ad415.add ((x8_1).toNat * 12)).off + 7, none⟩ = some (.int .i64 ((rd_T50 l0 x8_1).f3)) ∧ w'.cell? ⟨(ad415.add ((x8_1).toNat * 12)).block, (ad415.add ((x8_1).toNat * 12)).off + 8, none⟩ = some (.int .i64 ((rd_T50 l0 x8_1).f4)) ∧ w'.cell? ⟨(ad415.add ((x8_1).toNat * 12)).block, (ad415.add ((x8_1).toNat * 12)).off + 9, none⟩ = some (.int .i64 ((rd_T50 l0 x8_1).f5)) ∧ w'.cell? ⟨(ad415.add ((x8_1).toNat * 12)).block, (ad415.add ((x8_1).toNat * 12)).off + 10, none⟩ = some (.int .i64 ((rd_T50 l0 x8_1).f6)) ∧ w'.cell? ⟨(ad415.add ((x8_1).toNat * 12)).block, (ad415.add ((x8_1).toNat * 12)).off + 11, none⟩ = some (.string ((rd_T50 l0 x8_1).f7))) (ds := []) #[false, false, false, false, false, false, false, false, false, false, false] (by kernel_rfl) rfl rfl ⟨((HB.out.cell (World.block_lt_of_cell? w _ hw415_0)).trans hw415_0), ((HB.out.cell (World.block_lt_of_cell? w _ hw415_1)).trans hw415_1), ((HB.out.cell (World.block_lt_of_cell? w _ hw415_2)).trans hw415_2), ((HB.out.cell (World.block_lt_of_cell? w _ hw415_3)).trans hw415_3), ((HB.out.cell (World.block_lt_of_cell? w _ hw415_4)).trans hw415_4), ((HB.out.cell (World.block_lt_of_cell? w _ hw415_5)).trans hw415_5), ((HB.out.cell (World.block_lt_of_cell? w _ hw415_6)).trans hw415_6), ((HB.out.cell (World.block_lt_of_cell? w _ hw415_7)).trans hw415_7), ((HB.out.cell (World.block_lt_of_cell? w _ hw415_8)).trans hw415_8), ((HB.out.cell (World.block_lt_of_cell? w _ hw415_9)).trans hw415_9), ((HB.out.cell (World.block_lt_of_cell? w _ hw415_10)).trans hw415_10), ((HB.out.cell (World.block_lt_of_cell? w _ hw415_11)).trans hw415_11), ((HB.out.cell (World.block_lt_of_cell? w _ hw422_0)).trans hw422_0), ((HB.out.cell (World.block_lt_of_cell? w _ hw422_1)).trans hw422_1), ((HB.out.cell (World.block_lt_of_cell? w _ hw422_2)).trans hw422_2), ((HB.out.cell (World.block_lt_of_cell? w _ hw422_3)).trans hw422_3), ((HB.out.cell (World.block_lt_of_cell? w _ hw422_4)).trans hw422_4), ((HB.out.cell (World.block_lt_of_cell? w _ hw422_5)).trans hw422_5), ((HB.out.cell (World.block_lt_of_cell? w _ hw422_6)).trans hw422_6), ((HB.out.cell (World.block_lt_of_cell? w _ hw422_7)).trans hw422_7), ((HB.out.cell (World.block_lt_of_cell? w _ hw422_8)).trans hw422_8), ((HB.out.cell (World.block_lt_of_cell? w _ hw422_9)).trans hw422_9), ((HB.out.cell (World.block_lt_of_cell? w _ hw422_10)).trans hw422_10), ((HB.out.cell (World.block_lt_of_cell? w _ hw422_11)).trans hw422_11)⟩ (fun hHeld => ?_); refine with_tabW pylonlaw03_CivilAll.tab6 pylonlaw03_CivilAll.bits6 (fun HT_ HW_ => ?_)
        generalize wr.drew = w14 at HB hx415_0 hx415_1 hx415_10 hx415_11 hx415_2 hx415_3 hx415_4 hx415_5 hx415_6 hx415_7 hx415_8 hx415_9 hx422_0 hx422_1 hx422_10 hx422_11 hx422_2 hx422_3 hx422_4 hx422_5 hx422_6 hx422_7 hx422_8 hx422_9 hHeld ⊢
        refine pure_ (i := 0) (N := some 11) (v := ?_) (a' := ?_) #[true, false, false, false, false, false, false, false, false, false, false] rfl rfl (any_of HT_.out (by kernel_rfl)) (fun _ _ _ h => h) (Or.inl ⟨by rfl, ?_⟩) ?_ ?_
        rotate_left
        ·intro w'
         go_simp
         with_reducible rfl
        rotate_left
        ·simp only [Act.put, List.setIfInBounds_toArray, List.set_cons_zero, List.set_cons_succ, i64_w, i32_w]
         rfl
        refine pure_ (i := 1) (N := some 12) (v := ?_) (a' := ?_) #[true, true, false, false, false, false, false, false, false, false, false] rfl rfl (any_of HT_.out (by kernel_rfl)) (fun _ _ _ h => h) (Or.inl ⟨by rfl, ?_⟩) ?_ ?_
        rotate_left
        ·intro w'
         go_simp
         with_reducible rfl
        rotate_left
        ·simp only [Act.put, List.setIfInBounds_toArray, List.set_cons_zero, List.set_cons_succ, i64_w, i32_w]
         rfl
        refine pure_ (i := 2) (N := some 13) (v := ?_) (a' := ?_) #[true, true, true, false, false, false, false, false, false, false, false] rfl rfl (any_of HT_.out (by kernel_rfl)) (fun _ _ _ h => h) (Or.inl ⟨by rfl, ?_⟩) ?_ ?_
        rotate_left
        ·intro w'
         go_simp
         with_reducible rfl
        rotate_left
        ·simp only [Act.put, List.setIfInBounds_toArray, List.set_cons_zero, List.set_cons_succ, i64_w, i32_w]
         rfl
        refine pure_ (i := 5) (N := some 16) (v := ?_) (a' := ?_) #[true, true, true, false, false, true, false, false, false, false, false] rfl rfl (any_of HT_.out (by kernel_rfl)) (fun _ _ _ h => h) (Or.inl ⟨by rfl, ?_⟩) ?_ ?_
        rotate_left
        ·intro w'
         go_simp
         with_reducible rfl
        rotate_left
        ·simp only [Act.put, List.setIfInBounds_toArray, List.set_cons_zero, List.set_cons_succ, i64_w, i32_w]
         rfl
        refine pure_ (i := 6) (N := some 17) (v := ?_) (a' := ?_) #[true, true, true, false, false, true, true, false, false, false, false] rfl rfl (any_of HT_.out (by kernel_rfl)) (fun _ _ _ h => h) (Or.inl ⟨by rfl, ?_⟩) ?_ ?_
        rotate_left
        ·intro w'
         go_simp
         with_reducible rfl
        rotate_left
        ·simp only [Act.put, List.setIfInBounds_toArray, List.set_cons_zero, List.set_cons_succ, i64_w, i32_w]
         rfl
        refine pure_ (i := 7) (N := some 18) (v := ?_) (a' := ?_) #[true, true, true, false, false, true, true, true, false, false, false] rfl rfl (any_of HT_.out (by kernel_rfl)) (fun _ _ _ h => h) (Or.inl ⟨by rfl, ?_⟩) ?_ ?_
        rotate_left
        ·intro w'
         go_simp
         with_reducible rfl
        rotate_left
        ·simp only [Act.put, List.setIfInBounds_toArray, List.set_cons_zero, List.set_cons_succ, i64_w, i32_w]
         rfl
        refine take_ (i := 3) (N := some 14) (v := ?_) (a' := ?_) #[true, true, true, true, false, true, true, true, false, false, false] rfl rfl (take_ofW HT_.out HW_.out (by kernel_rfl)) (fun _ _ _ h => h) (Or.inl ⟨by rfl, ?_⟩) hHeld ?_ ?_
        rotate_left
        ·rintro w' ⟨s0, s1, s2, s3, s4, s5, s6, s7, s8, s9, s10, s11, s12, s13, s14, s15, s16, s17, s18, s19, s20, s21, s22, s23⟩
         go_simp
         with_reducible rfl
        rotate_left
        ·simp only [Act.put, List.setIfInBounds_toArray, List.set_cons_zero, List.set_cons_succ, i64_w, i32_w]
         rfl
        refine take_ (i := 8) (N := some 19) (v := ?_) (a' := ?_) #[true, true, true, true, false, true, true, true, true, false, false] rfl rfl (take_ofW HT_.out HW_.out (by kernel_rfl)) (fun _ _ _ h => h) (Or.inl ⟨by rfl, ?_⟩) hHeld ?_ ?_
        rotate_left
        ·rintro w' ⟨s0, s1, s2, s3, s4, s5, s6, s7, s8, s9, s10, s11, s12, s13, s14, s15, s16, s17, s18, s19, s20, s21, s22, s23⟩
         go_simp
         with_reducible rfl
        rotate_left
        ·simp only [Act.put, List.setIfInBounds_toArray, List.set_cons_zero, List.set_cons_succ, i64_w, i32_w]
         rfl
        refine one_ (i := 4) (N := some 15) #[true, true, true, true, true, true, true, true, true, false, false] rfl rfl (one_of HT_.out (by kernel_rfl)) (by decide) (fun K hK => ?_)
        refine goes_ Try.func35 (by kernel_rfl) rfl #[.agg #[.int .i64 ((rd_T50 l0 x8_1).f0), .int .i64 ((rd_T50 l0 x8_1).f1.f0), .int .i64 ((rd_T50 l0 x8_1).f1.f1), .int .i64 ((rd_T50 l0 x8_1).f1.f2), .int .i64 ((rd_T50 l0 x8_1).f2.f0), .int .i64 ((rd_T50 l0 x8_1).f2.f1), .int .i64 ((rd_T50 l0 x8_1).f2.f2), .int .i64 ((rd_T50 l0 x8_1).f3), .int .i64 ((rd_T50 l0 x8_1).f4), .int .i64 ((rd_T50 l0 x8_1).f5), .int .i64 ((rd_T50 l0 x8_1).f6), .string ((rd_T50 l0 x8_1).f7)]] (by rfl) rfl rfl (by (try simp only [List.map_toArray, List.map_cons, List.map_nil]); first | done | rfl | (simp only [List.length_drop, List.length_take]; rfl)) ?_
        with_reducible refine (pylonlaw03_plays.calls k1 ((rd_T50 l0 x8_1).f0) ((rd_T50 l0 x8_1).f1.f0) ((rd_T50 l0 x8_1).f1.f1) ((rd_T50 l0 x8_1).f1.f2) ((rd_T50 l0 x8_1).f2.f0) ((rd_T50 l0 x8_1).f2.f1) ((rd_T50 l0 x8_1).f2.f2) ((rd_T50 l0 x8_1).f3) ((rd_T50 l0 x8_1).f4) ((rd_T50 l0 x8_1).f5) ((rd_T50 l0 x8_1).f6) ((rd_T50 l0 x8_1).f7) t416 t417 t418 t419 t420 t421 _ A8.out).mono ?_
        rintro e w15 ⟨rfl, hb⟩
        refine ⟨_, rfl, ?_⟩
        have n0_ := Aside0.mk (below_step (by repeat (first | (with_reducible first | exact HB.out | apply below_alloc | apply pw_below_drewN | apply below_drew1) | exact HB.out)) hb)
        clear HB
        have HB := n0_
        clear n0_
        (try clear hb)
        (try clear hb2)
        (try clear hk)
        (try clear hi)
        refine hK.out _ _ ⟨((HB.out.cell (World.block_lt_of_cell? w _ hw415_0)).trans hw415_0), ((HB.out.cell (World.block_lt_of_cell? w _ hw415_1)).trans hw415_1), ((HB.out.cell (World.block_lt_of_cell? w _ hw415_2)).trans hw415_2), ((HB.out.cell (World.block_lt_of_cell? w _ hw415_3)).trans hw415_3), ((HB.out.cell (World.block_lt_of_cell? w _ hw415_4)).trans hw415_4), ((HB.out.cell (World.block_lt_of_cell? w _ hw415_5)).trans hw415_5), ((HB.out.cell (World.block_lt_of_cell? w _ hw415_6)).trans hw415_6), ((HB.out.cell (World.block_lt_of_cell? w _ hw415_7)).trans hw415_7), ((HB.out.cell (World.block_lt_of_cell? w _ hw415_8)).trans hw415_8), ((HB.out.cell (World.block_lt_of_cell? w _ hw415_9)).trans hw415_9), ((HB.out.cell (World.block_lt_of_cell? w _ hw415_10)).trans hw415_10), ((HB.out.cell (World.block_lt_of_cell? w _ hw415_11)).trans hw415_11), ((HB.out.cell (World.block_lt_of_cell? w _ hw422_0)).trans hw422_0), ((HB.out.cell (World.block_lt_of_cell? w _ hw422_1)).trans hw422_1), ((HB.out.cell (World.block_lt_of_cell? w _ hw422_2)).trans hw422_2), ((HB.out.cell (World.block_lt_of_cell? w _ hw422_3)).trans hw422_3), ((HB.out.cell (World.block_lt_of_cell? w _ hw422_4)).trans hw422_4), ((HB.out.cell (World.block_lt_of_cell? w _ hw422_5)).trans hw422_5), ((HB.out.cell (World.block_lt_of_cell? w _ hw422_6)).trans hw422_6), ((HB.out.cell (World.block_lt_of_cell? w _ hw422_7)).trans hw422_7), ((HB.out.cell (World.block_lt_of_cell? w _ hw422_8)).trans hw422_8), ((HB.out.cell (World.block_lt_of_cell? w _ hw422_9)).trans hw422_9), ((HB.out.cell (World.block_lt_of_cell? w _ hw422_10)).trans hw422_10), ((HB.out.cell (World.block_lt_of_cell? w _ hw422_11)).trans hw422_11)⟩ (fun hHeld => ?_)
        clear hK K
        refine norm_ (a' := ?_) ?_ ?_
        rotate_left
        ·show Act.put _ (some 15) _ = _
         simp only [Act.put, List.setIfInBounds_toArray, List.set_cons_zero, List.set_cons_succ, i64_w, i32_w]
         rfl
        refine one_ (i := 9) (N := some 20) #[true, true, true, true, true, true, true, true, true, true, false] rfl rfl (one_of HT_.out (by kernel_rfl)) (by decide) (fun K hK => ?_)
        refine goes_ Try.func36 (by kernel_rfl) rfl #[.agg #[.int .i64 ((rd_T50 l0 x8_1).f0), .int .i64 ((rd_T50 l0 x8_1).f1.f0), .int .i64 ((rd_T50 l0 x8_1).f1.f1), .int .i64 ((rd_T50 l0 x8_1).f1.f2), .int .i64 ((rd_T50 l0 x8_1).f2.f0), .int .i64 ((rd_T50 l0 x8_1).f2.f1), .int .i64 ((rd_T50 l0 x8_1).f2.f2), .int .i64 ((rd_T50 l0 x8_1).f3), .int .i64 ((rd_T50 l0 x8_1).f4), .int .i64 ((rd_T50 l0 x8_1).f5), .int .i64 ((rd_T50 l0 x8_1).f6), .string ((rd_T50 l0 x8_1).f7)]] (by rfl) rfl rfl (by (try simp only [List.map_toArray, List.map_cons, List.map_nil]); first | done | rfl | (simp only [List.length_drop, List.length_take]; rfl)) ?_
        with_reducible refine (pylonlaw03_wants.calls k1 ((rd_T50 l0 x8_1).f0) ((rd_T50 l0 x8_1).f1.f0) ((rd_T50 l0 x8_1).f1.f1) ((rd_T50 l0 x8_1).f1.f2) ((rd_T50 l0 x8_1).f2.f0) ((rd_T50 l0 x8_1).f2.f1) ((rd_T50 l0 x8_1).f2.f2) ((rd_T50 l0 x8_1).f3) ((rd_T50 l0 x8_1).f4) ((rd_T50 l0 x8_1).f5) ((rd_T50 l0 x8_1).f6) ((rd_T50 l0 x8_1).f7) t423 t424 t425 t426 t427 t428 _ A9.out).mono ?_
        rintro e w16 ⟨rfl, hb⟩
        refine ⟨_, rfl, ?_⟩
        have n0_ := Aside0.mk (below_step (by repeat (first | (with_reducible first | exact HB.out | apply below_alloc | apply pw_below_drewN | apply below_drew1) | exact HB.out)) hb)
        clear HB
        have HB := n0_
        clear n0_
        (try clear hb)
        (try clear hb2)
        (try clear hk)
        (try clear hi)
        refine hK.out _ _ ⟨((HB.out.cell (World.block_lt_of_cell? w _ hw415_0)).trans hw415_0), ((HB.out.cell (World.block_lt_of_cell? w _ hw415_1)).trans hw415_1), ((HB.out.cell (World.block_lt_of_cell? w _ hw415_2)).trans hw415_2), ((HB.out.cell (World.block_lt_of_cell? w _ hw415_3)).trans hw415_3), ((HB.out.cell (World.block_lt_of_cell? w _ hw415_4)).trans hw415_4), ((HB.out.cell (World.block_lt_of_cell? w _ hw415_5)).trans hw415_5), ((HB.out.cell (World.block_lt_of_cell? w _ hw415_6)).trans hw415_6), ((HB.out.cell (World.block_lt_of_cell? w _ hw415_7)).trans hw415_7), ((HB.out.cell (World.block_lt_of_cell? w _ hw415_8)).trans hw415_8), ((HB.out.cell (World.block_lt_of_cell? w _ hw415_9)).trans hw415_9), ((HB.out.cell (World.block_lt_of_cell? w _ hw415_10)).trans hw415_10), ((HB.out.cell (World.block_lt_of_cell? w _ hw415_11)).trans hw415_11), ((HB.out.cell (World.block_lt_of_cell? w _ hw422_0)).trans hw422_0), ((HB.out.cell (World.block_lt_of_cell? w _ hw422_1)).trans hw422_1), ((HB.out.cell (World.block_lt_of_cell? w _ hw422_2)).trans hw422_2), ((HB.out.cell (World.block_lt_of_cell? w _ hw422_3)).trans hw422_3), ((HB.out.cell (World.block_lt_of_cell? w _ hw422_4)).trans hw422_4), ((HB.out.cell (World.block_lt_of_cell? w _ hw422_5)).trans hw422_5), ((HB.out.cell (World.block_lt_of_cell? w _ hw422_6)).trans hw422_6), ((HB.out.cell (World.block_lt_of_cell? w _ hw422_7)).trans hw422_7), ((HB.out.cell (World.block_lt_of_cell? w _ hw422_8)).trans hw422_8), ((HB.out.cell (World.block_lt_of_cell? w _ hw422_9)).trans hw422_9), ((HB.out.cell (World.block_lt_of_cell? w _ hw422_10)).trans hw422_10), ((HB.out.cell (World.block_lt_of_cell? w _ hw422_11)).trans hw422_11)⟩ (fun hHeld => ?_)
        clear hK K
        refine norm_ (a' := ?_) ?_ ?_
        rotate_left
        ·show Act.put _ (some 20) _ = _
         simp only [Act.put, List.setIfInBounds_toArray, List.set_cons_zero, List.set_cons_succ, i64_w, i32_w]
         rfl
        refine pure_ (i := 10) (N := some 21) (v := ?_) (a' := ?_) #[true, true, true, true, true, true, true, true, true, true, true] rfl rfl (any_of HT_.out (by kernel_rfl)) (fun _ _ _ h => h) (Or.inl ⟨by rfl, ?_⟩) ?_ ?_
        rotate_left
        ·intro w'
         go_simp
         with_reducible rfl
        rotate_left
        ·simp only [Act.put, List.setIfInBounds_toArray, List.set_cons_zero, List.set_cons_succ, i64_w, i32_w]
         rfl
        refine done_ (done_of HT_.out (by kernel_rfl)) ?_
        try go_wp2
        go_roundg k1
        case measure => have := HK1.out; omega
        case rel => exact ⟨(wrap64 (x8_1 + 1)), (by first | rfl | (simp; done) | (simp [*]; done)), H', ⟨by have := HK1.out; omega⟩, ⟨by repeat (first | (with_reducible first | exact HB.out | apply below_alloc | apply pw_below_drewN | apply below_drew1) | exact HB.out)⟩⟩
      ·rw [if_neg c7] at H
       exact absurd H (by simp)
     ·rw [if_neg c6] at H
      exact absurd H (by simp)
    ·rw [if_neg c5] at H
     have c5b0 : decide (x8_1 < (l0.length : Int)) = false := decide_eq_false c5
     clear c5
     obtain rfl := Option.some.inj H
     go_wp2
     go_ret
     exact ⟨by first | rfl | (simp [errW_none, errW_some] <;> rfl) | (simp [*, errW_none, errW_some] <;> rfl), by repeat (first | (with_reducible first | exact HB.out | apply below_alloc | apply pw_below_drewN | apply below_drew1) | exact HB.out)⟩
 ·replace c3 := Bool.eq_false_iff.mpr c3
  subst c3
  have H1 : (some false) = some r := by rw [if_neg (show ¬ (false = true) by decide)] at H; exact H
  clear H
  have H := H1
  clear H1
  obtain rfl := Option.some.inj H
  go_enter Try.func12, Try.ntmps12
  go_wp2_with (first | ((with_reducible refine gate_callee (f := 16) rfl ?_); refine goesL_ (some 4) rfl rfl Try.func16 (by kernel_rfl) rfl #[] rfl (by (try simp only [List.map_toArray, List.map_cons, List.map_nil]); first | done | rfl | (simp only [List.length_drop, List.length_take]; rfl)) ?_; (with_reducible refine (pylonlaw03_awake.calls  false _ A2.out).mono ?_); rintro e w17 ⟨rfl, hb⟩; refine ⟨_, rfl, ?_⟩; have n0_ := Aside0.mk (below_step (by repeat (first | (with_reducible first | exact HB.out | apply below_alloc | apply pw_below_drewN | apply below_drew1) | exact HB.out)) hb); clear HB; have HB := n0_; clear n0_; (try clear hb); (try clear hb2); (try clear hk); (try clear hi)))
  go_ret
  exact ⟨by first | rfl | (simp [errW_none, errW_some] <;> rfl) | (simp [*, errW_none, errW_some] <;> rfl), by repeat (first | (with_reducible first | exact HB.out | apply below_alloc | apply pw_below_drewN | apply below_drew1) | exact HB.out)⟩

end Go.Proofs.Ytipldjcncfoffaa.PX
