/- Functions of the program as plain Lean functions, each with a proof that the call in the machine answers just what the plain function says; condition: the plain function answers at all. -/
import Derived.Test.YtipldjcncfoffaaPXx0
import Derived.Test.YtipldjcncfoffaaPXx1
import Derived.Test.YtipldjcncfoffaaPXx4
namespace Go.Proofs.Ytipldjcncfoffaa.PX
open Go.RowKit Go.Proofs.YtipldjcncfoffaaW.PrintWords Go.Proofs.YtipldjcncfoffaaW.PrintLast Go.Proofs.YtipldjcncfoffaaW.PrintMore
attribute [local go_sem] max2_int min2_int max_two min_two max_three min_three max_four min_four   -- for this text's walks alone
set_option linter.unusedVariables false
set_option linter.unusedSimpArgs false

attribute [local go_sem high] eqA24
/-! ### pylonlaw03_CivilNths: function 5 -/
mutual
def pylonlaw03_CivilNths.j0 : Nat → Int → Int → Int → Int → Int → Int → Bool → Int → Int → Int → Option (Bool)
  | 0, _, _, _, _, _, _, _, _, _, _ => none
  | k + 1, x0, x1, x2, x3, x10, x11, x61, x164000, x164001, x164002 => if x61 = true then (if x10 = 8 then (some (x164000 == 0 && (x164001 == 0 && (x164002 == 0)))) else (some false)) else ((civil_Weekday.f x164000 x164001 x164002).bind fun bt166 => (if x10 = 0 then (if bt166.2 = 0 then (if bt166.1 = x3 then (if x164000 = x0 then (if x164001 = x1 then (if x164002 < 1 then (pylonlaw03_CivilNths.j1 k x2 x11 true x164000 x164001 x164002) else (pylonlaw03_CivilNths.j1 k x2 x11 (decide (x164002 > x11)) x164000 x164001 x164002)) else (pylonlaw03_CivilNths.j1 k x2 x11 true x164000 x164001 x164002)) else (pylonlaw03_CivilNths.j1 k x2 x11 true x164000 x164001 x164002)) else (pylonlaw03_CivilNths.j1 k x2 x11 true x164000 x164001 x164002)) else (pylonlaw03_CivilNths.j1 k x2 x11 true x164000 x164001 x164002)) else (pylonlaw03_CivilNths.j1 k x2 x11 true x164000 x164001 x164002)))
def pylonlaw03_CivilNths.j1 : Nat → Int → Int → Bool → Int → Int → Int → Option (Bool)
  | 0, _, _, _, _, _, _ => none
  | k + 1, x2, x11, x107, x164000, x164001, x164002 => if x107 = true then (some false) else (if x2 = 5 then (some (decide ((wrap64 (x164002 + 7)) > x11))) else (some ((wrap64 (Int.tdiv (wrap64 (x164002 + 6)) 7)) == x2)))
end
def pylonlaw03_CivilNths.f (k : Nat) (a0 : Int) (a1 : Int) (a2 : Int) (a3 : Int) : Option (Bool) := (pylonlaw03_awake.f).bind fun t158 => (if t158 = true then ((civil_Nth.f k a0 a1 a2 a3).bind fun bt159 => ((civil_Length.f a0 a1).bind fun bt164 => (if bt164.2 = 0 then (if a2 < 1 then (pylonlaw03_CivilNths.j0 k a0 a1 a2 a3 bt159.2.2.2 bt164.1 true bt159.1 bt159.2.1 bt159.2.2.1) else (if a2 > 5 then (pylonlaw03_CivilNths.j0 k a0 a1 a2 a3 bt159.2.2.2 bt164.1 true bt159.1 bt159.2.1 bt159.2.2.1) else (if a3 < 0 then (pylonlaw03_CivilNths.j0 k a0 a1 a2 a3 bt159.2.2.2 bt164.1 true bt159.1 bt159.2.1 bt159.2.2.1) else (pylonlaw03_CivilNths.j0 k a0 a1 a2 a3 bt159.2.2.2 bt164.1 (decide (a3 > 6)) bt159.1 bt159.2.1 bt159.2.2.1)))) else (if bt159.2.2.2 = 5 then (if bt164.2 = 5 then (if (bt159.1 == 0 && (bt159.2.1 == 0 && (bt159.2.2.1 == 0))) = true then (some (bt164.1 == 0)) else (some false)) else (some false)) else (some false))))) else (some false))
theorem pylonlaw03_CivilNths.mono_l : ∀ k, (∀ y0 y1 y2 y3 y4 y5 y6 y7 y8 y9, LeO (pylonlaw03_CivilNths.j0 k y0 y1 y2 y3 y4 y5 y6 y7 y8 y9) (pylonlaw03_CivilNths.j0 (k + 1) y0 y1 y2 y3 y4 y5 y6 y7 y8 y9)) ∧ (∀ y0 y1 y2 y3 y4 y5, LeO (pylonlaw03_CivilNths.j1 k y0 y1 y2 y3 y4 y5) (pylonlaw03_CivilNths.j1 (k + 1) y0 y1 y2 y3 y4 y5))
  | 0 => ⟨fun _ _ _ _ _ _ _ _ _ _ r h => by simp [pylonlaw03_CivilNths.j0] at h, fun _ _ _ _ _ _ r h => by simp [pylonlaw03_CivilNths.j1] at h⟩
  | k + 1 => by
    obtain ⟨ih0, ih1⟩ := pylonlaw03_CivilNths.mono_l k
    refine ⟨?_, ?_⟩
    · intro y0 y1 y2 y3 y4 y5 y6 y7 y8 y9
      unfold pylonlaw03_CivilNths.j0
      repeat' first
      | (with_reducible exact ih0 _ _ _ _ _ _ _ _ _ _)
      | (with_reducible exact ih1 _ _ _ _ _ _)
      | (with_reducible exact civil_Nth.mono _ _ _ _ _)
      | (with_reducible exact LeO.refl _)
      | (with_reducible exact LeO.none _)
      | (with_reducible refine LeO.ite ?_ ?_)
      | (with_reducible refine LeO.bind ?_ (fun _ => ?_))
      | exact ih0 _ _ _ _ _ _ _ _ _ _
      | exact ih1 _ _ _ _ _ _
      | exact civil_Nth.mono _ _ _ _ _
      | exact LeO.none _
      | refine LeO.ite ?_ ?_
      | refine LeO.bind ?_ (fun _ => ?_)
    · intro y0 y1 y2 y3 y4 y5
      unfold pylonlaw03_CivilNths.j1
      repeat' first
      | (with_reducible exact ih0 _ _ _ _ _ _ _ _ _ _)
      | (with_reducible exact ih1 _ _ _ _ _ _)
      | (with_reducible exact civil_Nth.mono _ _ _ _ _)
      | (with_reducible exact LeO.refl _)
      | (with_reducible exact LeO.none _)
      | (with_reducible refine LeO.ite ?_ ?_)
      | (with_reducible refine LeO.bind ?_ (fun _ => ?_))
      | exact ih0 _ _ _ _ _ _ _ _ _ _
      | exact ih1 _ _ _ _ _ _
      | exact civil_Nth.mono _ _ _ _ _
      | exact LeO.none _
      | refine LeO.ite ?_ ?_
      | refine LeO.bind ?_ (fun _ => ?_)
theorem pylonlaw03_CivilNths.mono : ∀ a0 a1 a2 a3 k, LeO (pylonlaw03_CivilNths.f k a0 a1 a2 a3) (pylonlaw03_CivilNths.f (k + 1) a0 a1 a2 a3) := by
  intro a0 a1 a2 a3 k
  obtain ⟨ih0, ih1⟩ := pylonlaw03_CivilNths.mono_l k
  unfold pylonlaw03_CivilNths.f
  repeat' first
      | (with_reducible exact ih0 _ _ _ _ _ _ _ _ _ _)
      | (with_reducible exact ih1 _ _ _ _ _ _)
      | (with_reducible exact civil_Nth.mono _ _ _ _ _)
      | (with_reducible exact LeO.refl _)
      | (with_reducible exact LeO.none _)
      | (with_reducible refine LeO.ite ?_ ?_)
      | (with_reducible refine LeO.bind ?_ (fun _ => ?_))
      | exact ih0 _ _ _ _ _ _ _ _ _ _
      | exact ih1 _ _ _ _ _ _
      | exact civil_Nth.mono _ _ _ _ _
      | exact LeO.none _
      | refine LeO.ite ?_ ?_
      | refine LeO.bind ?_ (fun _ => ?_)
set_option maxHeartbeats 8000000 in
set_option maxRecDepth 100000 in
theorem pylonlaw03_CivilNths.calls (k : Nat) (a0 : Int) (a1 : Int) (a2 : Int) (a3 : Int) (r : Bool) (w : World) (h : pylonlaw03_CivilNths.f k a0 a1 a2 a3 = some r) :
    Calls Try.prog 5 #[.int .i64 a0, .int .i64 a1, .int .i64 a2, .int .i64 a3] w fun e w' => e = .returned (.bool r) ∧ Below w.heap.size w w' := by
  have hu24 := Try.underlying24
  have HB := Aside0.mk (Below.refl w.heap.size w)
  have H : ((pylonlaw03_awake.f).bind fun t158 => (if t158 = true then ((civil_Nth.f k a0 a1 a2 a3).bind fun bt159 => ((civil_Length.f a0 a1).bind fun bt164 => (if bt164.2 = 0 then (if a2 < 1 then (pylonlaw03_CivilNths.j0 k a0 a1 a2 a3 bt159.2.2.2 bt164.1 true bt159.1 bt159.2.1 bt159.2.2.1) else (if a2 > 5 then (pylonlaw03_CivilNths.j0 k a0 a1 a2 a3 bt159.2.2.2 bt164.1 true bt159.1 bt159.2.1 bt159.2.2.1) else (if a3 < 0 then (pylonlaw03_CivilNths.j0 k a0 a1 a2 a3 bt159.2.2.2 bt164.1 true bt159.1 bt159.2.1 bt159.2.2.1) else (pylonlaw03_CivilNths.j0 k a0 a1 a2 a3 bt159.2.2.2 bt164.1 (decide (a3 > 6)) bt159.1 bt159.2.1 bt159.2.2.1)))) else (if bt159.2.2.2 = 5 then (if bt164.2 = 5 then (if (bt159.1 == 0 && (bt159.2.1 == 0 && (bt159.2.2.1 == 0))) = true then (some (bt164.1 == 0)) else (some false)) else (some false)) else (some false))))) else (some false))) = some r := h
  clear h
  replace H := Option.bind_eq_some_iff.mp H
  obtain ⟨t158, A50, H⟩ := H
  replace H : (if t158 = true then ((civil_Nth.f k a0 a1 a2 a3).bind fun bt159 => ((civil_Length.f a0 a1).bind fun bt164 => (if bt164.2 = 0 then (if a2 < 1 then (pylonlaw03_CivilNths.j0 k a0 a1 a2 a3 bt159.2.2.2 bt164.1 true bt159.1 bt159.2.1 bt159.2.2.1) else (if a2 > 5 then (pylonlaw03_CivilNths.j0 k a0 a1 a2 a3 bt159.2.2.2 bt164.1 true bt159.1 bt159.2.1 bt159.2.2.1) else (if a3 < 0 then (pylonlaw03_CivilNths.j0 k a0 a1 a2 a3 bt159.2.2.2 bt164.1 true bt159.1 bt159.2.1 bt159.2.2.1) else (pylonlaw03_CivilNths.j0 k a0 a1 a2 a3 bt159.2.2.2 bt164.1 (decide (a3 > 6)) bt159.1 bt159.2.1 bt159.2.2.1)))) else (if bt159.2.2.2 = 5 then (if bt164.2 = 5 then (if (bt159.1 == 0 && (bt159.2.1 == 0 && (bt159.2.2.1 == 0))) = true then (some (bt164.1 == 0)) else (some false)) else (some false)) else (some false))))) else (some false)) = some r := H
  have A5 := Aside0.mk A50
  clear A50
  by_cases c6 : t158 = true
  · subst c6
    have H1 : ((civil_Nth.f k a0 a1 a2 a3).bind fun bt159 => ((civil_Length.f a0 a1).bind fun bt164 => (if bt164.2 = 0 then (if a2 < 1 then (pylonlaw03_CivilNths.j0 k a0 a1 a2 a3 bt159.2.2.2 bt164.1 true bt159.1 bt159.2.1 bt159.2.2.1) else (if a2 > 5 then (pylonlaw03_CivilNths.j0 k a0 a1 a2 a3 bt159.2.2.2 bt164.1 true bt159.1 bt159.2.1 bt159.2.2.1) else (if a3 < 0 then (pylonlaw03_CivilNths.j0 k a0 a1 a2 a3 bt159.2.2.2 bt164.1 true bt159.1 bt159.2.1 bt159.2.2.1) else (pylonlaw03_CivilNths.j0 k a0 a1 a2 a3 bt159.2.2.2 bt164.1 (decide (a3 > 6)) bt159.1 bt159.2.1 bt159.2.2.1)))) else (if bt159.2.2.2 = 5 then (if bt164.2 = 5 then (if (bt159.1 == 0 && (bt159.2.1 == 0 && (bt159.2.2.1 == 0))) = true then (some (bt164.1 == 0)) else (some false)) else (some false)) else (some false))))) = some r := by rw [if_pos rfl] at H; exact H
    clear H
    have H := H1
    clear H1
    replace H := Option.bind_eq_some_iff.mp H
    obtain ⟨⟨t159, t160, t161, t162⟩, A70, H⟩ := H
    replace H : ((civil_Length.f a0 a1).bind fun bt164 => (if bt164.2 = 0 then (if a2 < 1 then (pylonlaw03_CivilNths.j0 k a0 a1 a2 a3 t162 bt164.1 true t159 t160 t161) else (if a2 > 5 then (pylonlaw03_CivilNths.j0 k a0 a1 a2 a3 t162 bt164.1 true t159 t160 t161) else (if a3 < 0 then (pylonlaw03_CivilNths.j0 k a0 a1 a2 a3 t162 bt164.1 true t159 t160 t161) else (pylonlaw03_CivilNths.j0 k a0 a1 a2 a3 t162 bt164.1 (decide (a3 > 6)) t159 t160 t161)))) else (if t162 = 5 then (if bt164.2 = 5 then (if (t159 == 0 && (t160 == 0 && (t161 == 0))) = true then (some (bt164.1 == 0)) else (some false)) else (some false)) else (some false)))) = some r := H
    have A7 := Aside0.mk A70
    clear A70
    replace H := Option.bind_eq_some_iff.mp H
    obtain ⟨⟨t164, t165⟩, A80, H⟩ := H
    replace H : (if t165 = 0 then (if a2 < 1 then (pylonlaw03_CivilNths.j0 k a0 a1 a2 a3 t162 t164 true t159 t160 t161) else (if a2 > 5 then (pylonlaw03_CivilNths.j0 k a0 a1 a2 a3 t162 t164 true t159 t160 t161) else (if a3 < 0 then (pylonlaw03_CivilNths.j0 k a0 a1 a2 a3 t162 t164 true t159 t160 t161) else (pylonlaw03_CivilNths.j0 k a0 a1 a2 a3 t162 t164 (decide (a3 > 6)) t159 t160 t161)))) else (if t162 = 5 then (if t165 = 5 then (if (t159 == 0 && (t160 == 0 && (t161 == 0))) = true then (some (t164 == 0)) else (some false)) else (some false)) else (some false))) = some r := H
    have A8 := Aside0.mk A80
    clear A80
    by_cases c9 : t165 = 0
    · rw [if_pos c9] at H
      have c9b0 : (t165 == 0) = true := beq_iff_eq.mpr c9
      have c9b1 : (t165 != 0) = false := bne_eq_false_iff_eq.mpr c9
      clear c9
      have HC10 := Aside0.mk H
      clear H
      go_enter Try.func5, Try.ntmps5
      go_upto_region 7 with (first | ((with_reducible refine gate_callee (f := 16) rfl ?_); refine goesL_ (some 15) rfl rfl Try.func16 (by kernel_rfl) rfl #[] rfl (by (try simp only [List.map_toArray, List.map_cons, List.map_nil]); first | done | rfl | (simp only [List.length_drop, List.length_take]; rfl)) ?_; (with_reducible refine (pylonlaw03_awake.calls  true _ A5.out).mono ?_); rintro e w11 ⟨rfl, hb⟩; refine ⟨_, rfl, ?_⟩; have n0_ := Aside0.mk (below_step (by repeat (first | (with_reducible first | exact HB.out | apply below_alloc | apply pw_below_drewN | apply below_drew1) | exact HB.out)) hb); clear HB; have HB := n0_; clear n0_; (try clear hb); (try clear hb2); (try clear hk); (try clear hi)) | ((with_reducible refine gate_callee (f := 20) rfl ?_); refine goesL_ (some 22) rfl rfl Try.func20 (by kernel_rfl) rfl #[.int .i64 a0, .int .i64 a1, .int .i64 a2, .int .i64 a3] rfl (by (try simp only [List.map_toArray, List.map_cons, List.map_nil]); first | done | rfl | (simp only [List.length_drop, List.length_take]; rfl)) ?_; (with_reducible refine (civil_Nth.calls k a0 a1 a2 a3 t159 t160 t161 t162 _ A7.out).mono ?_); rintro e w12 ⟨rfl, hb⟩; refine ⟨_, rfl, ?_⟩; have n0_ := Aside0.mk (below_step (by repeat (first | (with_reducible first | exact HB.out | apply below_alloc | apply pw_below_drewN | apply below_drew1) | exact HB.out)) hb); clear HB; have HB := n0_; clear n0_; (try clear hb); (try clear hb2); (try clear hk); (try clear hi)) | ((with_reducible refine gate_dst (N := 9) rfl ?_); refine box_event ?hg (N := 9) ?hd (cs := #[.int .i64 0, .int .i64 0, .int .i64 0]) (t := 24) ?hr ?_; (case hd => rfl); (case hg => rfl); (case hr => first | (go_simp; done) | (go_simp; rfl)); intro gb163 hg w13 hbox hb; have n0_ := Aside0.mk (below_step (by repeat (first | (with_reducible first | exact HB.out | apply below_alloc | apply pw_below_drewN | apply below_drew1) | exact HB.out)) hb); have n1_ := Aside0.mk (hbox); have n2_ := Aside0.mk ((by rw [hg]; exact (below_size (by repeat (first | (with_reducible first | exact HB.out | apply below_alloc | apply pw_below_drewN | apply below_drew1) | exact HB.out))) : w.heap.size ≤ gb163)); have n3_ := Aside0.mk ((by rw [hg]; exact (below_size (by repeat (first | (with_reducible first | exact HB.out | apply below_alloc | apply pw_below_drewN | apply below_drew1) | exact HB.out))) : w.heap.size ≤ gb163)); clear HB; have HB := n0_; have BK163 := n1_; have GW163 := n2_; have GE163 := n3_; clear n0_ n1_ n2_ n3_; clear hb hbox hg; have hcz14_0 : w13.cell? ⟨gb163, 0, none⟩ = some (.int .i64 0) := (blk_cell BK163.out 0).trans rfl; have hcz14_1 : w13.cell? ⟨gb163, 1, none⟩ = some (.int .i64 0) := (blk_cell BK163.out 1).trans rfl; have hcz14_2 : w13.cell? ⟨gb163, 2, none⟩ = some (.int .i64 0) := (blk_cell BK163.out 2).trans rfl; have hfz14_0 := blk_frozen BK163.out 0; have hfz14_1 := blk_frozen BK163.out 1; have hfz14_2 := blk_frozen BK163.out 2) | ((with_reducible refine gate_callee (f := 17) rfl ?_); refine goesL_ (some 28) rfl rfl Try.func17 (by kernel_rfl) rfl #[.int .i64 a0, .int .i64 a1] rfl (by (try simp only [List.map_toArray, List.map_cons, List.map_nil]); first | done | rfl | (simp only [List.length_drop, List.length_take]; rfl)) ?_; (with_reducible refine (civil_Length.calls a0 a1 t164 t165 _ A8.out).mono ?_); rintro e w15 ⟨rfl, hb⟩; refine ⟨_, rfl, ?_⟩; have n0_ := Aside0.mk (blk_below (g := gb163) (o := .cells #[.int .i64 t159, .int .i64 t160, .int .i64 t161] 24 (0, 0)) (by (with_reducible repeat (first | refine blk_drewN ?_ _ | refine blk_drew ?_ | refine blk_alloc ?_ _)); refine blk_put (cs := #[.int .i64 t159, .int .i64 t160, .int .i64 0]) ?_ 2 _ rfl; (with_reducible repeat (first | refine blk_drewN ?_ _ | refine blk_drew ?_ | refine blk_alloc ?_ _)); refine blk_put (cs := #[.int .i64 t159, .int .i64 0, .int .i64 0]) ?_ 1 _ rfl; (with_reducible repeat (first | refine blk_drewN ?_ _ | refine blk_drew ?_ | refine blk_alloc ?_ _)); refine blk_put (cs := #[.int .i64 0, .int .i64 0, .int .i64 0]) ?_ 0 _ rfl; (with_reducible repeat (first | refine blk_drewN ?_ _ | refine blk_drew ?_ | refine blk_alloc ?_ _)); exact BK163.out) hb); have n1_ := Aside0.mk (below_step (by repeat (first | (with_reducible first | exact HB.out | apply below_alloc | apply pw_below_drewN | apply below_drew1 | refine below_set ?_ GE163.out) | exact HB.out)) hb); clear BK163; clear HB; have BK163 := n0_; have HB := n1_; clear n0_ n1_; (try clear hb); (try clear hb2); (try clear hk); (try clear hi)))
      (try simp only [Act.put, List.setIfInBounds_toArray, List.set_cons_zero, List.set_cons_succ])
      go_cut [61] (fun v61 wc => ∃ (kq : Nat) (x61_9 : Bool), v61 = .bool x61_9 ∧ Aside0 (pylonlaw03_CivilNths.j0 kq a0 a1 a2 a3 t162 t164 x61_9 t159 t160 t161 = some r) ∧ Aside0 (kq ≤ k) ∧ Aside0 (wc.heap[gb163]? = some (.cells #[.int .i64 t159, .int .i64 t160, .int .i64 t161] 24 (0, 0))) ∧ Aside0 (Below w.heap.size w wc))
      case first =>
        have H := HC10.out
        clear HC10
        by_cases c16 : a2 < 1
        · rw [if_pos c16] at H
          have c16b0 : decide (a2 < 1) = true := decide_eq_true c16
          clear c16
          (first | rw [c16b0] | (simp only [i64_w, i32_w]; rw [c16b0]) | skip)
          have H' := Aside0.mk H
          clear H
          go_wp2
          go_meet
          case rel => exact ⟨_, (true), (by first | rfl | (simp; done) | (simp [*]; done)), H', ⟨by first | omega | exact Nat.le_refl _⟩, ⟨by (with_reducible repeat (first | refine blk_drewN ?_ _ | refine blk_drew ?_ | refine blk_alloc ?_ _)); exact BK163.out⟩, ⟨by repeat (first | (with_reducible first | exact HB.out | apply below_alloc | apply pw_below_drewN | apply below_drew1 | refine below_set ?_ GE163.out) | exact HB.out)⟩⟩
        · rw [if_neg c16] at H
          have c16b0 : decide (a2 < 1) = false := decide_eq_false c16
          clear c16
          (first | rw [c16b0] | (simp only [i64_w, i32_w]; rw [c16b0]) | skip)
          by_cases c17 : a2 > 5
          · rw [if_pos c17] at H
            have c17b0 : decide (5 < a2) = true := decide_eq_true c17
            clear c17
            have H' := Aside0.mk H
            clear H
            go_wp2
            go_meet
            case rel => exact ⟨_, (true), (by first | rfl | (simp; done) | (simp [*]; done)), H', ⟨by first | omega | exact Nat.le_refl _⟩, ⟨by (with_reducible repeat (first | refine blk_drewN ?_ _ | refine blk_drew ?_ | refine blk_alloc ?_ _)); exact BK163.out⟩, ⟨by repeat (first | (with_reducible first | exact HB.out | apply below_alloc | apply pw_below_drewN | apply below_drew1 | refine below_set ?_ GE163.out) | exact HB.out)⟩⟩
          · rw [if_neg c17] at H
            have c17b0 : decide (5 < a2) = false := decide_eq_false c17
            clear c17
            by_cases c18 : a3 < 0
            · rw [if_pos c18] at H
              have c18b0 : decide (a3 < 0) = true := decide_eq_true c18
              clear c18
              have H' := Aside0.mk H
              clear H
              go_wp2
              go_meet
              case rel => exact ⟨_, (true), (by first | rfl | (simp; done) | (simp [*]; done)), H', ⟨by first | omega | exact Nat.le_refl _⟩, ⟨by (with_reducible repeat (first | refine blk_drewN ?_ _ | refine blk_drew ?_ | refine blk_alloc ?_ _)); exact BK163.out⟩, ⟨by repeat (first | (with_reducible first | exact HB.out | apply below_alloc | apply pw_below_drewN | apply below_drew1 | refine below_set ?_ GE163.out) | exact HB.out)⟩⟩
            · rw [if_neg c18] at H
              have c18b0 : decide (a3 < 0) = false := decide_eq_false c18
              clear c18
              have H' := Aside0.mk H
              clear H
              go_wp2
              go_meet
              case rel => exact ⟨_, (decide (a3 > 6)), (by first | rfl | (simp; done) | (simp [*]; done)), H', ⟨by first | omega | exact Nat.le_refl _⟩, ⟨by (with_reducible repeat (first | refine blk_drewN ?_ _ | refine blk_drew ?_ | refine blk_alloc ?_ _)); exact BK163.out⟩, ⟨by repeat (first | (with_reducible first | exact HB.out | apply below_alloc | apply pw_below_drewN | apply below_drew1 | refine below_set ?_ GE163.out) | exact HB.out)⟩⟩
      case rest =>
        clear HC10
        try clear c1
        try clear c2
        try clear p2
        try clear c5
        try clear c6
        try clear c9
        try clear c9b0
        try clear c9b1
        try clear c16
        try clear c16b0
        try clear c17
        try clear c17b0
        try clear c18
        try clear c18b0
        try clear hcz14_0
        try clear hcz14_1
        try clear hcz14_2
        try clear hfz14_0
        try clear hfz14_1
        try clear hfz14_2
        obtain ⟨kq, x61_9, rfl, HA, HJ9, BK163, HB⟩ := hcut
        cases kq with
        | zero => exact absurd HA.out (by simp [pylonlaw03_CivilNths.j0])
        | succ kj9 =>
          have H := HA.out
          clear HA
          simp only [pylonlaw03_CivilNths.j0] at H
          by_cases c19 : x61_9 = true
          · subst c19
            have H1 : (if t162 = 8 then (some (t159 == 0 && (t160 == 0 && (t161 == 0)))) else (some false)) = some r := by rw [if_pos rfl] at H; exact H
            clear H
            have H := H1
            clear H1
            by_cases c20 : t162 = 8
            · rw [if_pos c20] at H
              have c20b0 : (t162 == 8) = true := beq_iff_eq.mpr c20
              have c20b1 : (t162 != 8) = false := bne_eq_false_iff_eq.mpr c20
              clear c20
              obtain rfl := Option.some.inj H
              have hcz21_0 : wc.cell? ⟨gb163, 0, none⟩ = some (.int .i64 t159) := (blk_cell BK163.out 0).trans rfl
              have hcz21_1 : wc.cell? ⟨gb163, 1, none⟩ = some (.int .i64 t160) := (blk_cell BK163.out 1).trans rfl
              have hcz21_2 : wc.cell? ⟨gb163, 2, none⟩ = some (.int .i64 t161) := (blk_cell BK163.out 2).trans rfl
              have hfz21_0 := blk_frozen BK163.out 0
              have hfz21_1 := blk_frozen BK163.out 1
              have hfz21_2 := blk_frozen BK163.out 2
              go_wp2
              go_ret
              exact ⟨by first | rfl | (simp [errW_none, errW_some] <;> rfl) | (simp [*, errW_none, errW_some] <;> rfl), by repeat (first | (with_reducible first | exact HB.out | apply below_alloc | apply pw_below_drewN | apply below_drew1 | refine below_set ?_ GE163.out) | exact HB.out)⟩
            · rw [if_neg c20] at H
              have c20b0 : (t162 == 8) = false := beq_eq_false_iff_ne.mpr c20
              have c20b1 : (t162 != 8) = true := bne_iff_ne.mpr c20
              obtain rfl := Option.some.inj H
              go_wp2
              go_ret
              exact ⟨by first | rfl | (simp [errW_none, errW_some] <;> rfl) | (simp [*, errW_none, errW_some] <;> rfl), by repeat (first | (with_reducible first | exact HB.out | apply below_alloc | apply pw_below_drewN | apply below_drew1 | refine below_set ?_ GE163.out) | exact HB.out)⟩
          · replace c19 := Bool.eq_false_iff.mpr c19
            subst c19
            have H1 : ((civil_Weekday.f t159 t160 t161).bind fun bt166 => (if t162 = 0 then (if bt166.2 = 0 then (if bt166.1 = a3 then (if t159 = a0 then (if t160 = a1 then (if t161 < 1 then (pylonlaw03_CivilNths.j1 kj9 a2 t164 true t159 t160 t161) else (pylonlaw03_CivilNths.j1 kj9 a2 t164 (decide (t161 > t164)) t159 t160 t161)) else (pylonlaw03_CivilNths.j1 kj9 a2 t164 true t159 t160 t161)) else (pylonlaw03_CivilNths.j1 kj9 a2 t164 true t159 t160 t161)) else (pylonlaw03_CivilNths.j1 kj9 a2 t164 true t159 t160 t161)) else (pylonlaw03_CivilNths.j1 kj9 a2 t164 true t159 t160 t161)) else (pylonlaw03_CivilNths.j1 kj9 a2 t164 true t159 t160 t161))) = some r := by rw [if_neg (show ¬ (false = true) by decide)] at H; exact H
            clear H
            have H := H1
            clear H1
            replace H := Option.bind_eq_some_iff.mp H
            obtain ⟨⟨t166, t167⟩, A220, H⟩ := H
            replace H : (if t162 = 0 then (if t167 = 0 then (if t166 = a3 then (if t159 = a0 then (if t160 = a1 then (if t161 < 1 then (pylonlaw03_CivilNths.j1 kj9 a2 t164 true t159 t160 t161) else (pylonlaw03_CivilNths.j1 kj9 a2 t164 (decide (t161 > t164)) t159 t160 t161)) else (pylonlaw03_CivilNths.j1 kj9 a2 t164 true t159 t160 t161)) else (pylonlaw03_CivilNths.j1 kj9 a2 t164 true t159 t160 t161)) else (pylonlaw03_CivilNths.j1 kj9 a2 t164 true t159 t160 t161)) else (pylonlaw03_CivilNths.j1 kj9 a2 t164 true t159 t160 t161)) else (pylonlaw03_CivilNths.j1 kj9 a2 t164 true t159 t160 t161)) = some r := H
            have A22 := Aside0.mk A220
            clear A220
            have HC23 := Aside0.mk H
            clear H
            have hcz24_0 : wc.cell? ⟨gb163, 0, none⟩ = some (.int .i64 t159) := (blk_cell BK163.out 0).trans rfl
            have hcz24_1 : wc.cell? ⟨gb163, 1, none⟩ = some (.int .i64 t160) := (blk_cell BK163.out 1).trans rfl
            have hcz24_2 : wc.cell? ⟨gb163, 2, none⟩ = some (.int .i64 t161) := (blk_cell BK163.out 2).trans rfl
            have hfz24_0 := blk_frozen BK163.out 0
            have hfz24_1 := blk_frozen BK163.out 1
            have hfz24_2 := blk_frozen BK163.out 2
            go_upto_region 10 with (first | ((with_reducible refine gate_callee (f := 21) rfl ?_); refine goesL_ (some 71) rfl rfl Try.func21 (by kernel_rfl) rfl #[.agg #[.int .i64 t159, .int .i64 t160, .int .i64 t161]] rfl (by (try simp only [List.map_toArray, List.map_cons, List.map_nil]); first | done | rfl | (simp only [List.length_drop, List.length_take]; rfl)) ?_; (with_reducible refine (civil_Weekday.calls t159 t160 t161 t166 t167 _ A22.out).mono ?_); rintro e w25 ⟨rfl, hb⟩; refine ⟨_, rfl, ?_⟩; have n0_ := Aside0.mk (blk_below (g := gb163) (o := .cells #[.int .i64 t159, .int .i64 t160, .int .i64 t161] 24 (0, 0)) (by (with_reducible repeat (first | refine blk_drewN ?_ _ | refine blk_drew ?_ | refine blk_alloc ?_ _)); exact BK163.out) hb); have n1_ := Aside0.mk (below_step (by repeat (first | (with_reducible first | exact HB.out | apply below_alloc | apply pw_below_drewN | apply below_drew1 | refine below_set ?_ GE163.out) | exact HB.out)) hb); clear BK163; clear HB; have BK163 := n0_; have HB := n1_; clear n0_ n1_; (try clear hb); (try clear hb2); (try clear hk); (try clear hi)))
            (try simp only [Act.put, List.setIfInBounds_toArray, List.set_cons_zero, List.set_cons_succ])
            go_cut [107] (fun v107 wc => ∃ (kq : Nat) (x107_22 : Bool), v107 = .bool x107_22 ∧ Aside0 (pylonlaw03_CivilNths.j1 kq a2 t164 x107_22 t159 t160 t161 = some r) ∧ Aside0 (kq ≤ kj9) ∧ Aside0 (wc.heap[gb163]? = some (.cells #[.int .i64 t159, .int .i64 t160, .int .i64 t161] 24 (0, 0))) ∧ Aside0 (Below w.heap.size w wc))
            case first =>
              have H := HC23.out
              clear HC23
              by_cases c26 : t162 = 0
              · rw [if_pos c26] at H
                have c26b0 : (t162 == 0) = true := beq_iff_eq.mpr c26
                have c26b1 : (t162 != 0) = false := bne_eq_false_iff_eq.mpr c26
                clear c26
                (first | rw [c26b0] | (simp only [i64_w, i32_w]; rw [c26b0]) | skip)
                by_cases c27 : t167 = 0
                · rw [if_pos c27] at H
                  have c27b0 : (t167 == 0) = true := beq_iff_eq.mpr c27
                  have c27b1 : (t167 != 0) = false := bne_eq_false_iff_eq.mpr c27
                  clear c27
                  by_cases c28 : t166 = a3
                  · rw [if_pos c28] at H
                    have c28b0 : (t166 == a3) = true := beq_iff_eq.mpr c28
                    have c28b1 : (t166 != a3) = false := bne_eq_false_iff_eq.mpr c28
                    clear c28
                    by_cases c29 : t159 = a0
                    · rw [if_pos c29] at H
                      have c29b0 : (t159 == a0) = true := beq_iff_eq.mpr c29
                      have c29b1 : (t159 != a0) = false := bne_eq_false_iff_eq.mpr c29
                      clear c29
                      by_cases c30 : t160 = a1
                      · rw [if_pos c30] at H
                        have c30b0 : (t160 == a1) = true := beq_iff_eq.mpr c30
                        have c30b1 : (t160 != a1) = false := bne_eq_false_iff_eq.mpr c30
                        clear c30
                        by_cases c31 : t161 < 1
                        · rw [if_pos c31] at H
                          have c31b0 : decide (t161 < 1) = true := decide_eq_true c31
                          clear c31
                          have H' := Aside0.mk H
                          clear H
                          have hcz32_0 : w25.cell? ⟨gb163, 0, none⟩ = some (.int .i64 t159) := (blk_cell BK163.out 0).trans rfl
                          have hcz32_1 : w25.cell? ⟨gb163, 1, none⟩ = some (.int .i64 t160) := (blk_cell BK163.out 1).trans rfl
                          have hcz32_2 : w25.cell? ⟨gb163, 2, none⟩ = some (.int .i64 t161) := (blk_cell BK163.out 2).trans rfl
                          have hfz32_0 := blk_frozen BK163.out 0
                          have hfz32_1 := blk_frozen BK163.out 1
                          have hfz32_2 := blk_frozen BK163.out 2
                          go_wp2
                          go_meet
                          case rel => exact ⟨_, (true), (by first | rfl | (simp; done) | (simp [*]; done)), H', ⟨by have := HJ9.out; first | omega | exact Nat.le_refl _⟩, ⟨by (with_reducible repeat (first | refine blk_drewN ?_ _ | refine blk_drew ?_ | refine blk_alloc ?_ _)); exact BK163.out⟩, ⟨by repeat (first | (with_reducible first | exact HB.out | apply below_alloc | apply pw_below_drewN | apply below_drew1 | refine below_set ?_ GE163.out) | exact HB.out)⟩⟩
                        · rw [if_neg c31] at H
                          have c31b0 : decide (t161 < 1) = false := decide_eq_false c31
                          clear c31
                          have H' := Aside0.mk H
                          clear H
                          have hcz33_0 : w25.cell? ⟨gb163, 0, none⟩ = some (.int .i64 t159) := (blk_cell BK163.out 0).trans rfl
                          have hcz33_1 : w25.cell? ⟨gb163, 1, none⟩ = some (.int .i64 t160) := (blk_cell BK163.out 1).trans rfl
                          have hcz33_2 : w25.cell? ⟨gb163, 2, none⟩ = some (.int .i64 t161) := (blk_cell BK163.out 2).trans rfl
                          have hfz33_0 := blk_frozen BK163.out 0
                          have hfz33_1 := blk_frozen BK163.out 1
                          have hfz33_2 := blk_frozen BK163.out 2
                          go_wp2
                          go_meet
                          case rel => exact ⟨_, (decide (t161 > t164)), (by first | rfl | (simp; done) | (simp [*]; done)), H', ⟨by have := HJ9.out; first | omega | exact Nat.le_refl _⟩, ⟨by (with_reducible repeat (first | refine blk_drewN ?_ _ | refine blk_drew ?_ | refine blk_alloc ?_ _)); exact BK163.out⟩, ⟨by repeat (first | (with_reducible first | exact HB.out | apply below_alloc | apply pw_below_drewN | apply below_drew1 | refine below_set ?_ GE163.out) | exact HB.out)⟩⟩
                      · rw [if_neg c30] at H
                        have c30b0 : (t160 == a1) = false := beq_eq_false_iff_ne.mpr c30
                        have c30b1 : (t160 != a1) = true := bne_iff_ne.mpr c30
                        have H' := Aside0.mk H
                        clear H
                        have hcz34_0 : w25.cell? ⟨gb163, 0, none⟩ = some (.int .i64 t159) := (blk_cell BK163.out 0).trans rfl
                        have hcz34_1 : w25.cell? ⟨gb163, 1, none⟩ = some (.int .i64 t160) := (blk_cell BK163.out 1).trans rfl
                        have hcz34_2 : w25.cell? ⟨gb163, 2, none⟩ = some (.int .i64 t161) := (blk_cell BK163.out 2).trans rfl
                        have hfz34_0 := blk_frozen BK163.out 0
                        have hfz34_1 := blk_frozen BK163.out 1
                        have hfz34_2 := blk_frozen BK163.out 2
                        go_wp2
                        go_meet
                        case rel => exact ⟨_, (true), (by first | rfl | (simp; done) | (simp [*]; done)), H', ⟨by have := HJ9.out; first | omega | exact Nat.le_refl _⟩, ⟨by (with_reducible repeat (first | refine blk_drewN ?_ _ | refine blk_drew ?_ | refine blk_alloc ?_ _)); exact BK163.out⟩, ⟨by repeat (first | (with_reducible first | exact HB.out | apply below_alloc | apply pw_below_drewN | apply below_drew1 | refine below_set ?_ GE163.out) | exact HB.out)⟩⟩
                    · rw [if_neg c29] at H
                      have c29b0 : (t159 == a0) = false := beq_eq_false_iff_ne.mpr c29
                      have c29b1 : (t159 != a0) = true := bne_iff_ne.mpr c29
                      have H' := Aside0.mk H
                      clear H
                      have hcz35_0 : w25.cell? ⟨gb163, 0, none⟩ = some (.int .i64 t159) := (blk_cell BK163.out 0).trans rfl
                      have hcz35_1 : w25.cell? ⟨gb163, 1, none⟩ = some (.int .i64 t160) := (blk_cell BK163.out 1).trans rfl
                      have hcz35_2 : w25.cell? ⟨gb163, 2, none⟩ = some (.int .i64 t161) := (blk_cell BK163.out 2).trans rfl
                      have hfz35_0 := blk_frozen BK163.out 0
                      have hfz35_1 := blk_frozen BK163.out 1
                      have hfz35_2 := blk_frozen BK163.out 2
                      go_wp2
                      go_meet
                      case rel => exact ⟨_, (true), (by first | rfl | (simp; done) | (simp [*]; done)), H', ⟨by have := HJ9.out; first | omega | exact Nat.le_refl _⟩, ⟨by (with_reducible repeat (first | refine blk_drewN ?_ _ | refine blk_drew ?_ | refine blk_alloc ?_ _)); exact BK163.out⟩, ⟨by repeat (first | (with_reducible first | exact HB.out | apply below_alloc | apply pw_below_drewN | apply below_drew1 | refine below_set ?_ GE163.out) | exact HB.out)⟩⟩
                  · rw [if_neg c28] at H
                    have c28b0 : (t166 == a3) = false := beq_eq_false_iff_ne.mpr c28
                    have c28b1 : (t166 != a3) = true := bne_iff_ne.mpr c28
                    have H' := Aside0.mk H
                    clear H
                    go_wp2
                    go_meet
                    case rel => exact ⟨_, (true), (by first | rfl | (simp; done) | (simp [*]; done)), H', ⟨by have := HJ9.out; first | omega | exact Nat.le_refl _⟩, ⟨by (with_reducible repeat (first | refine blk_drewN ?_ _ | refine blk_drew ?_ | refine blk_alloc ?_ _)); exact BK163.out⟩, ⟨by repeat (first | (with_reducible first | exact HB.out | apply below_alloc | apply pw_below_drewN | apply below_drew1 | refine below_set ?_ GE163.out) | exact HB.out)⟩⟩
                · rw [if_neg c27] at H
                  have c27b0 : (t167 == 0) = false := beq_eq_false_iff_ne.mpr c27
                  have c27b1 : (t167 != 0) = true := bne_iff_ne.mpr c27
                  have H' := Aside0.mk H
                  clear H
                  go_wp2
                  go_meet
                  case rel => exact ⟨_, (true), (by first | rfl | (simp; done) | (simp [*]; done)), H', ⟨by have := HJ9.out; first | omega | exact Nat.le_refl _⟩, ⟨by (with_reducible repeat (first | refine blk_drewN ?_ _ | refine blk_drew ?_ | refine blk_alloc ?_ _)); exact BK163.out⟩, ⟨by repeat (first | (with_reducible first | exact HB.out | apply below_alloc | apply pw_below_drewN | apply below_drew1 | refine below_set ?_ GE163.out) | exact HB.out)⟩⟩
              · rw [if_neg c26] at H
                have c26b0 : (t162 == 0) = false := beq_eq_false_iff_ne.mpr c26
                have c26b1 : (t162 != 0) = true := bne_iff_ne.mpr c26
                (first | rw [c26b0] | (simp only [i64_w, i32_w]; rw [c26b0]) | skip)
                have H' := Aside0.mk H
                clear H
                go_wp2
                go_meet
                case rel => exact ⟨_, (true), (by first | rfl | (simp; done) | (simp [*]; done)), H', ⟨by have := HJ9.out; first | omega | exact Nat.le_refl _⟩, ⟨by (with_reducible repeat (first | refine blk_drewN ?_ _ | refine blk_drew ?_ | refine blk_alloc ?_ _)); exact BK163.out⟩, ⟨by repeat (first | (with_reducible first | exact HB.out | apply below_alloc | apply pw_below_drewN | apply below_drew1 | refine below_set ?_ GE163.out) | exact HB.out)⟩⟩
            case rest =>
              clear HC23
              try clear c1
              try clear c2
              try clear p2
              try clear c3
              try clear c5
              try clear c6
              try clear c9
              try clear c9b0
              try clear c9b1
              try clear c16
              try clear c16b0
              try clear c17
              try clear c17b0
              try clear c18
              try clear c18b0
              try clear c19
              try clear c20
              try clear c20b0
              try clear c20b1
              try clear c21
              try clear c26
              try clear c26b0
              try clear c26b1
              try clear c27
              try clear c27b0
              try clear c27b1
              try clear c28
              try clear c28b0
              try clear c28b1
              try clear c29
              try clear c29b0
              try clear c29b1
              try clear c30
              try clear c30b0
              try clear c30b1
              try clear c31
              try clear c31b0
              try clear hcz14_0
              try clear hcz14_1
              try clear hcz14_2
              try clear hcz21_0
              try clear hcz21_1
              try clear hcz21_2
              try clear hcz24_0
              try clear hcz24_1
              try clear hcz24_2
              try clear hcz32_0
              try clear hcz32_1
              try clear hcz32_2
              try clear hcz33_0
              try clear hcz33_1
              try clear hcz33_2
              try clear hcz34_0
              try clear hcz34_1
              try clear hcz34_2
              try clear hcz35_0
              try clear hcz35_1
              try clear hcz35_2
              try clear hfz14_0
              try clear hfz14_1
              try clear hfz14_2
              try clear hfz21_0
              try clear hfz21_1
              try clear hfz21_2
              try clear hfz24_0
              try clear hfz24_1
              try clear hfz24_2
              try clear hfz32_0
              try clear hfz32_1
              try clear hfz32_2
              try clear hfz33_0
              try clear hfz33_1
              try clear hfz33_2
              try clear hfz34_0
              try clear hfz34_1
              try clear hfz34_2
              try clear hfz35_0
              try clear hfz35_1
              try clear hfz35_2
              try clear p2
              obtain ⟨kq, x107_22, rfl, HA, HJ22, BK163, HB⟩ := hcut
              cases kq with
              | zero => exact absurd HA.out (by simp [pylonlaw03_CivilNths.j1])
              | succ kj22 =>
                have H := HA.out
                clear HA
                simp only [pylonlaw03_CivilNths.j1] at H
                by_cases c36 : x107_22 = true
                · subst c36
                  have H1 : (some false) = some r := by rw [if_pos rfl] at H; exact H
                  clear H
                  have H := H1
                  clear H1
                  obtain rfl := Option.some.inj H
                  go_wp2
                  go_ret
                  exact ⟨by first | rfl | (simp [errW_none, errW_some] <;> rfl) | (simp [*, errW_none, errW_some] <;> rfl), by repeat (first | (with_reducible first | exact HB.out | apply below_alloc | apply pw_below_drewN | apply below_drew1 | refine below_set ?_ GE163.out) | exact HB.out)⟩
                · replace c36 := Bool.eq_false_iff.mpr c36
                  subst c36
                  have H1 : (if a2 = 5 then (some (decide ((wrap64 (t161 + 7)) > t164))) else (some ((wrap64 (Int.tdiv (wrap64 (t161 + 6)) 7)) == a2))) = some r := by rw [if_neg (show ¬ (false = true) by decide)] at H; exact H
                  clear H
                  have H := H1
                  clear H1
                  by_cases c37 : a2 = 5
                  · rw [if_pos c37] at H
                    have c37b0 : (a2 == 5) = true := beq_iff_eq.mpr c37
                    have c37b1 : (a2 != 5) = false := bne_eq_false_iff_eq.mpr c37
                    clear c37
                    obtain rfl := Option.some.inj H
                    have hcz38_0 : wc.cell? ⟨gb163, 0, none⟩ = some (.int .i64 t159) := (blk_cell BK163.out 0).trans rfl
                    have hcz38_1 : wc.cell? ⟨gb163, 1, none⟩ = some (.int .i64 t160) := (blk_cell BK163.out 1).trans rfl
                    have hcz38_2 : wc.cell? ⟨gb163, 2, none⟩ = some (.int .i64 t161) := (blk_cell BK163.out 2).trans rfl
                    have hfz38_0 := blk_frozen BK163.out 0
                    have hfz38_1 := blk_frozen BK163.out 1
                    have hfz38_2 := blk_frozen BK163.out 2
                    go_wp2
                    go_ret
                    exact ⟨by first | rfl | (simp [errW_none, errW_some] <;> rfl) | (simp [*, errW_none, errW_some] <;> rfl), by repeat (first | (with_reducible first | exact HB.out | apply below_alloc | apply pw_below_drewN | apply below_drew1 | refine below_set ?_ GE163.out) | exact HB.out)⟩
                  · rw [if_neg c37] at H
                    have c37b0 : (a2 == 5) = false := beq_eq_false_iff_ne.mpr c37
                    have c37b1 : (a2 != 5) = true := bne_iff_ne.mpr c37
                    obtain rfl := Option.some.inj H
                    have hcz39_0 : wc.cell? ⟨gb163, 0, none⟩ = some (.int .i64 t159) := (blk_cell BK163.out 0).trans rfl
                    have hcz39_1 : wc.cell? ⟨gb163, 1, none⟩ = some (.int .i64 t160) := (blk_cell BK163.out 1).trans rfl
                    have hcz39_2 : wc.cell? ⟨gb163, 2, none⟩ = some (.int .i64 t161) := (blk_cell BK163.out 2).trans rfl
                    have hfz39_0 := blk_frozen BK163.out 0
                    have hfz39_1 := blk_frozen BK163.out 1
                    have hfz39_2 := blk_frozen BK163.out 2
                    go_wp2
                    go_ret
                    exact ⟨by first | rfl | (simp [errW_none, errW_some] <;> rfl) | (simp [*, errW_none, errW_some] <;> rfl), by repeat (first | (with_reducible first | exact HB.out | apply below_alloc | apply pw_below_drewN | apply below_drew1 | refine below_set ?_ GE163.out) | exact HB.out)⟩
    · rw [if_neg c9] at H
      have c9b0 : (t165 == 0) = false := beq_eq_false_iff_ne.mpr c9
      have c9b1 : (t165 != 0) = true := bne_iff_ne.mpr c9
      by_cases c40 : t162 = 5
      · rw [if_pos c40] at H
        have c40b0 : (t162 == 5) = true := beq_iff_eq.mpr c40
        have c40b1 : (t162 != 5) = false := bne_eq_false_iff_eq.mpr c40
        clear c40
        by_cases c41 : t165 = 5
        · rw [if_pos c41] at H
          have c41b0 : (t165 == 5) = true := beq_iff_eq.mpr c41
          have c41b1 : (t165 != 5) = false := bne_eq_false_iff_eq.mpr c41
          clear c41
          by_cases c42 : (t159 == 0 && (t160 == 0 && (t161 == 0))) = true
          · rw [if_pos c42] at H
            have c42b0 : (t159 == 0 && (t160 == 0 && (t161 == 0))) = true := c42
            (try (have c42b1 : decide (t159 = 0 && (t160 == 0 && (t161 == 0))) = true := by simpa using c42))
            (try (have c42b2 : (t159 == 0 && (t160 == 0 && (t161 == 0))) = true := by simpa using c42))
            clear c42
            obtain rfl := Option.some.inj H
            go_enter Try.func5, Try.ntmps5
            go_wp2_with (first | ((with_reducible refine gate_callee (f := 16) rfl ?_); refine goesL_ (some 15) rfl rfl Try.func16 (by kernel_rfl) rfl #[] rfl (by (try simp only [List.map_toArray, List.map_cons, List.map_nil]); first | done | rfl | (simp only [List.length_drop, List.length_take]; rfl)) ?_; (with_reducible refine (pylonlaw03_awake.calls  true _ A5.out).mono ?_); rintro e w43 ⟨rfl, hb⟩; refine ⟨_, rfl, ?_⟩; have n0_ := Aside0.mk (below_step (by repeat (first | (with_reducible first | exact HB.out | apply below_alloc | apply pw_below_drewN | apply below_drew1) | exact HB.out)) hb); clear HB; have HB := n0_; clear n0_; (try clear hb); (try clear hb2); (try clear hk); (try clear hi)) | ((with_reducible refine gate_callee (f := 20) rfl ?_); refine goesL_ (some 22) rfl rfl Try.func20 (by kernel_rfl) rfl #[.int .i64 a0, .int .i64 a1, .int .i64 a2, .int .i64 a3] rfl (by (try simp only [List.map_toArray, List.map_cons, List.map_nil]); first | done | rfl | (simp only [List.length_drop, List.length_take]; rfl)) ?_; (with_reducible refine (civil_Nth.calls k a0 a1 a2 a3 t159 t160 t161 t162 _ A7.out).mono ?_); rintro e w44 ⟨rfl, hb⟩; refine ⟨_, rfl, ?_⟩; have n0_ := Aside0.mk (below_step (by repeat (first | (with_reducible first | exact HB.out | apply below_alloc | apply pw_below_drewN | apply below_drew1) | exact HB.out)) hb); clear HB; have HB := n0_; clear n0_; (try clear hb); (try clear hb2); (try clear hk); (try clear hi)) | ((with_reducible refine gate_dst (N := 9) rfl ?_); refine box_event ?hg (N := 9) ?hd (cs := #[.int .i64 0, .int .i64 0, .int .i64 0]) (t := 24) ?hr ?_; (case hd => rfl); (case hg => rfl); (case hr => first | (go_simp; done) | (go_simp; rfl)); intro gb163 hg w45 hbox hb; have n0_ := Aside0.mk (below_step (by repeat (first | (with_reducible first | exact HB.out | apply below_alloc | apply pw_below_drewN | apply below_drew1) | exact HB.out)) hb); have n1_ := Aside0.mk (hbox); have n2_ := Aside0.mk ((by rw [hg]; exact (below_size (by repeat (first | (with_reducible first | exact HB.out | apply below_alloc | apply pw_below_drewN | apply below_drew1) | exact HB.out))) : w.heap.size ≤ gb163)); have n3_ := Aside0.mk ((by rw [hg]; exact (below_size (by repeat (first | (with_reducible first | exact HB.out | apply below_alloc | apply pw_below_drewN | apply below_drew1) | exact HB.out))) : w.heap.size ≤ gb163)); clear HB; have HB := n0_; have BK163 := n1_; have GW163 := n2_; have GE163 := n3_; clear n0_ n1_ n2_ n3_; clear hb hbox hg; have hcz46_0 : w45.cell? ⟨gb163, 0, none⟩ = some (.int .i64 0) := (blk_cell BK163.out 0).trans rfl; have hcz46_1 : w45.cell? ⟨gb163, 1, none⟩ = some (.int .i64 0) := (blk_cell BK163.out 1).trans rfl; have hcz46_2 : w45.cell? ⟨gb163, 2, none⟩ = some (.int .i64 0) := (blk_cell BK163.out 2).trans rfl; have hfz46_0 := blk_frozen BK163.out 0; have hfz46_1 := blk_frozen BK163.out 1; have hfz46_2 := blk_frozen BK163.out 2) | ((with_reducible refine gate_callee (f := 17) rfl ?_); refine goesL_ (some 28) rfl rfl Try.func17 (by kernel_rfl) rfl #[.int .i64 a0, .int .i64 a1] rfl (by (try simp only [List.map_toArray, List.map_cons, List.map_nil]); first | done | rfl | (simp only [List.length_drop, List.length_take]; rfl)) ?_; (with_reducible refine (civil_Length.calls a0 a1 t164 t165 _ A8.out).mono ?_); rintro e w47 ⟨rfl, hb⟩; refine ⟨_, rfl, ?_⟩; have n0_ := Aside0.mk (blk_below (g := gb163) (o := .cells #[.int .i64 t159, .int .i64 t160, .int .i64 t161] 24 (0, 0)) (by (with_reducible repeat (first | refine blk_drewN ?_ _ | refine blk_drew ?_ | refine blk_alloc ?_ _)); refine blk_put (cs := #[.int .i64 t159, .int .i64 t160, .int .i64 0]) ?_ 2 _ rfl; (with_reducible repeat (first | refine blk_drewN ?_ _ | refine blk_drew ?_ | refine blk_alloc ?_ _)); refine blk_put (cs := #[.int .i64 t159, .int .i64 0, .int .i64 0]) ?_ 1 _ rfl; (with_reducible repeat (first | refine blk_drewN ?_ _ | refine blk_drew ?_ | refine blk_alloc ?_ _)); refine blk_put (cs := #[.int .i64 0, .int .i64 0, .int .i64 0]) ?_ 0 _ rfl; (with_reducible repeat (first | refine blk_drewN ?_ _ | refine blk_drew ?_ | refine blk_alloc ?_ _)); exact BK163.out) hb); have n1_ := Aside0.mk (below_step (by repeat (first | (with_reducible first | exact HB.out | apply below_alloc | apply pw_below_drewN | apply below_drew1 | refine below_set ?_ GE163.out) | exact HB.out)) hb); clear BK163; clear HB; have BK163 := n0_; have HB := n1_; clear n0_ n1_; (try clear hb); (try clear hb2); (try clear hk); (try clear hi); have hcz48_0 : w47.cell? ⟨gb163, 0, none⟩ = some (.int .i64 t159) := (blk_cell BK163.out 0).trans rfl; have hcz48_1 : w47.cell? ⟨gb163, 1, none⟩ = some (.int .i64 t160) := (blk_cell BK163.out 1).trans rfl; have hcz48_2 : w47.cell? ⟨gb163, 2, none⟩ = some (.int .i64 t161) := (blk_cell BK163.out 2).trans rfl; have hfz48_0 := blk_frozen BK163.out 0; have hfz48_1 := blk_frozen BK163.out 1; have hfz48_2 := blk_frozen BK163.out 2))
            go_ret
            exact ⟨by first | rfl | (simp [errW_none, errW_some] <;> rfl) | (simp [*, errW_none, errW_some] <;> rfl), by repeat (first | (with_reducible first | exact HB.out | apply below_alloc | apply pw_below_drewN | apply below_drew1 | refine below_set ?_ GE163.out) | exact HB.out)⟩
          · rw [if_neg c42] at H
            have c42b0 : (t159 == 0 && (t160 == 0 && (t161 == 0))) = false := by simpa using c42
            (try (have c42b1 : decide (t159 = 0 && (t160 == 0 && (t161 == 0))) = false := by simpa using c42))
            (try (have c42b2 : (t159 == 0 && (t160 == 0 && (t161 == 0))) = false := by simpa using c42))
            (try (have c42b3 : ¬ (t159 = 0 && (t160 == 0 && (t161 == 0))) := by simpa using c42))
            clear c42
            obtain rfl := Option.some.inj H
            go_enter Try.func5, Try.ntmps5
            go_wp2_with (first | ((with_reducible refine gate_callee (f := 16) rfl ?_); refine goesL_ (some 15) rfl rfl Try.func16 (by kernel_rfl) rfl #[] rfl (by (try simp only [List.map_toArray, List.map_cons, List.map_nil]); first | done | rfl | (simp only [List.length_drop, List.length_take]; rfl)) ?_; (with_reducible refine (pylonlaw03_awake.calls  true _ A5.out).mono ?_); rintro e w49 ⟨rfl, hb⟩; refine ⟨_, rfl, ?_⟩; have n0_ := Aside0.mk (below_step (by repeat (first | (with_reducible first | exact HB.out | apply below_alloc | apply pw_below_drewN | apply below_drew1) | exact HB.out)) hb); clear HB; have HB := n0_; clear n0_; (try clear hb); (try clear hb2); (try clear hk); (try clear hi)) | ((with_reducible refine gate_callee (f := 20) rfl ?_); refine goesL_ (some 22) rfl rfl Try.func20 (by kernel_rfl) rfl #[.int .i64 a0, .int .i64 a1, .int .i64 a2, .int .i64 a3] rfl (by (try simp only [List.map_toArray, List.map_cons, List.map_nil]); first | done | rfl | (simp only [List.length_drop, List.length_take]; rfl)) ?_; (with_reducible refine (civil_Nth.calls k a0 a1 a2 a3 t159 t160 t161 t162 _ A7.out).mono ?_); rintro e w50 ⟨rfl, hb⟩; refine ⟨_, rfl, ?_⟩; have n0_ := Aside0.mk (below_step (by repeat (first | (with_reducible first | exact HB.out | apply below_alloc | apply pw_below_drewN | apply below_drew1) | exact HB.out)) hb); clear HB; have HB := n0_; clear n0_; (try clear hb); (try clear hb2); (try clear hk); (try clear hi)) | ((with_reducible refine gate_dst (N := 9) rfl ?_); refine box_event ?hg (N := 9) ?hd (cs := #[.int .i64 0, .int .i64 0, .int .i64 0]) (t := 24) ?hr ?_; (case hd => rfl); (case hg => rfl); (case hr => first | (go_simp; done) | (go_simp; rfl)); intro gb163 hg w51 hbox hb; have n0_ := Aside0.mk (below_step (by repeat (first | (with_reducible first | exact HB.out | apply below_alloc | apply pw_below_drewN | apply below_drew1) | exact HB.out)) hb); have n1_ := Aside0.mk (hbox); have n2_ := Aside0.mk ((by rw [hg]; exact (below_size (by repeat (first | (with_reducible first | exact HB.out | apply below_alloc | apply pw_below_drewN | apply below_drew1) | exact HB.out))) : w.heap.size ≤ gb163)); have n3_ := Aside0.mk ((by rw [hg]; exact (below_size (by repeat (first | (with_reducible first | exact HB.out | apply below_alloc | apply pw_below_drewN | apply below_drew1) | exact HB.out))) : w.heap.size ≤ gb163)); clear HB; have HB := n0_; have BK163 := n1_; have GW163 := n2_; have GE163 := n3_; clear n0_ n1_ n2_ n3_; clear hb hbox hg; have hcz52_0 : w51.cell? ⟨gb163, 0, none⟩ = some (.int .i64 0) := (blk_cell BK163.out 0).trans rfl; have hcz52_1 : w51.cell? ⟨gb163, 1, none⟩ = some (.int .i64 0) := (blk_cell BK163.out 1).trans rfl; have hcz52_2 : w51.cell? ⟨gb163, 2, none⟩ = some (.int .i64 0) := (blk_cell BK163.out 2).trans rfl; have hfz52_0 := blk_frozen BK163.out 0; have hfz52_1 := blk_frozen BK163.out 1; have hfz52_2 := blk_frozen BK163.out 2) | ((with_reducible refine gate_callee (f := 17) rfl ?_); refine goesL_ (some 28) rfl rfl Try.func17 (by kernel_rfl) rfl #[.int .i64 a0, .int .i64 a1] rfl (by (try simp only [List.map_toArray, List.map_cons, List.map_nil]); first | done | rfl | (simp only [List.length_drop, List.length_take]; rfl)) ?_; (with_reducible refine (civil_Length.calls a0 a1 t164 t165 _ A8.out).mono ?_); rintro e w53 ⟨rfl, hb⟩; refine ⟨_, rfl, ?_⟩; have n0_ := Aside0.mk (blk_below (g := gb163) (o := .cells #[.int .i64 t159, .int .i64 t160, .int .i64 t161] 24 (0, 0)) (by (with_reducible repeat (first | refine blk_drewN ?_ _ | refine blk_drew ?_ | refine blk_alloc ?_ _)); refine blk_put (cs := #[.int .i64 t159, .int .i64 t160, .int .i64 0]) ?_ 2 _ rfl; (with_reducible repeat (first | refine blk_drewN ?_ _ | refine blk_drew ?_ | refine blk_alloc ?_ _)); refine blk_put (cs := #[.int .i64 t159, .int .i64 0, .int .i64 0]) ?_ 1 _ rfl; (with_reducible repeat (first | refine blk_drewN ?_ _ | refine blk_drew ?_ | refine blk_alloc ?_ _)); refine blk_put (cs := #[.int .i64 0, .int .i64 0, .int .i64 0]) ?_ 0 _ rfl; (with_reducible repeat (first | refine blk_drewN ?_ _ | refine blk_drew ?_ | refine blk_alloc ?_ _)); exact BK163.out) hb); have n1_ := Aside0.mk (below_step (by repeat (first | (with_reducible first | exact HB.out | apply below_alloc | apply pw_below_drewN | apply below_drew1 | refine below_set ?_ GE163.out) | exact HB.out)) hb); clear BK163; clear HB; have BK163 := n0_; have HB := n1_; clear n0_ n1_; (try clear hb); (try clear hb2); (try clear hk); (try clear hi); have hcz54_0 : w53.cell? ⟨gb163, 0, none⟩ = some (.int .i64 t159) := (blk_cell BK163.out 0).trans rfl; have hcz54_1 : w53.cell? ⟨gb163, 1, none⟩ = some (.int .i64 t160) := (blk_cell BK163.out 1).trans rfl; have hcz54_2 : w53.cell? ⟨gb163, 2, none⟩ = some (.int .i64 t161) := (blk_cell BK163.out 2).trans rfl; have hfz54_0 := blk_frozen BK163.out 0; have hfz54_1 := blk_frozen BK163.out 1; have hfz54_2 := blk_frozen BK163.out 2))
            go_ret
            exact ⟨by first | rfl | (simp [errW_none, errW_some] <;> rfl) | (simp [*, errW_none, errW_some] <;> rfl), by repeat (first | (with_reducible first | exact HB.out | apply below_alloc | apply pw_below_drewN | apply below_drew1 | refine below_set ?_ GE163.out) | exact HB.out)⟩
        · rw [if_neg c41] at H
          have c41b0 : (t165 == 5) = false := beq_eq_false_iff_ne.mpr c41
          have c41b1 : (t165 != 5) = true := bne_iff_ne.mpr c41
          obtain rfl := Option.some.inj H
          go_enter Try.func5, Try.ntmps5
          go_wp2_with (first | ((with_reducible refine gate_callee (f := 16) rfl ?_); refine goesL_ (some 15) rfl rfl Try.func16 (by kernel_rfl) rfl #[] rfl (by (try simp only [List.map_toArray, List.map_cons, List.map_nil]); first | done | rfl | (simp only [List.length_drop, List.length_take]; rfl)) ?_; (with_reducible refine (pylonlaw03_awake.calls  true _ A5.out).mono ?_); rintro e w55 ⟨rfl, hb⟩; refine ⟨_, rfl, ?_⟩; have n0_ := Aside0.mk (below_step (by repeat (first | (with_reducible first | exact HB.out | apply below_alloc | apply pw_below_drewN | apply below_drew1) | exact HB.out)) hb); clear HB; have HB := n0_; clear n0_; (try clear hb); (try clear hb2); (try clear hk); (try clear hi)) | ((with_reducible refine gate_callee (f := 20) rfl ?_); refine goesL_ (some 22) rfl rfl Try.func20 (by kernel_rfl) rfl #[.int .i64 a0, .int .i64 a1, .int .i64 a2, .int .i64 a3] rfl (by (try simp only [List.map_toArray, List.map_cons, List.map_nil]); first | done | rfl | (simp only [List.length_drop, List.length_take]; rfl)) ?_; (with_reducible refine (civil_Nth.calls k a0 a1 a2 a3 t159 t160 t161 t162 _ A7.out).mono ?_); rintro e w56 ⟨rfl, hb⟩; refine ⟨_, rfl, ?_⟩; have n0_ := Aside0.mk (below_step (by repeat (first | (with_reducible first | exact HB.out | apply below_alloc | apply pw_below_drewN | apply below_drew1) | exact HB.out)) hb); clear HB; have HB := n0_; clear n0_; (try clear hb); (try clear hb2); (try clear hk); (try clear hi)) | ((with_reducible refine gate_dst (N := 9) rfl ?_); refine box_event ?hg (N := 9) ?hd (cs := #[.int .i64 0, .int .i64 0, .int .i64 0]) (t := 24) ?hr ?_; (case hd => rfl); (case hg => rfl); (case hr => first | (go_simp; done) | (go_simp; rfl)); intro gb163 hg w57 hbox hb; have n0_ := Aside0.mk (below_step (by repeat (first | (with_reducible first | exact HB.out | apply below_alloc | apply pw_below_drewN | apply below_drew1) | exact HB.out)) hb); have n1_ := Aside0.mk (hbox); have n2_ := Aside0.mk ((by rw [hg]; exact (below_size (by repeat (first | (with_reducible first | exact HB.out | apply below_alloc | apply pw_below_drewN | apply below_drew1) | exact HB.out))) : w.heap.size ≤ gb163)); have n3_ := Aside0.mk ((by rw [hg]; exact (below_size (by repeat (first | (with_reducible first | exact HB.out | apply below_alloc | apply pw_below_drewN | apply below_drew1) | exact HB.out))) : w.heap.size ≤ gb163)); clear HB; have HB := n0_; have BK163 := n1_; have GW163 := n2_; have GE163 := n3_; clear n0_ n1_ n2_ n3_; clear hb hbox hg; have hcz58_0 : w57.cell? ⟨gb163, 0, none⟩ = some (.int .i64 0) := (blk_cell BK163.out 0).trans rfl; have hcz58_1 : w57.cell? ⟨gb163, 1, none⟩ = some (.int .i64 0) := (blk_cell BK163.out 1).trans rfl; have hcz58_2 : w57.cell? ⟨gb163, 2, none⟩ = some (.int .i64 0) := (blk_cell BK163.out 2).trans rfl; have hfz58_0 := blk_frozen BK163.out 0; have hfz58_1 := blk_frozen BK163.out 1; have hfz58_2 := blk_frozen BK163.out 2) | ((with_reducible refine gate_callee (f := 17) rfl ?_); refine goesL_ (some 28) rfl rfl Try.func17 (by kernel_rfl) rfl #[.int .i64 a0, .int .i64 a1] rfl (by (try simp only [List.map_toArray, List.map_cons, List.map_nil]); first | done | rfl | (simp only [List.length_drop, List.length_take]; rfl)) ?_; (with_reducible refine (civil_Length.calls a0 a1 t164 t165 _ A8.out).mono ?_); rintro e w59 ⟨rfl, hb⟩; refine ⟨_, rfl, ?_⟩; have n0_ := Aside0.mk (blk_below (g := gb163) (o := .cells #[.int .i64 t159, .int .i64 t160, .int .i64 t161] 24 (0, 0)) (by (with_reducible repeat (first | refine blk_drewN ?_ _ | refine blk_drew ?_ | refine blk_alloc ?_ _)); refine blk_put (cs := #[.int .i64 t159, .int .i64 t160, .int .i64 0]) ?_ 2 _ rfl; (with_reducible repeat (first | refine blk_drewN ?_ _ | refine blk_drew ?_ | refine blk_alloc ?_ _)); refine blk_put (cs := #[.int .i64 t159, .int .i64 0, .int .i64 0]) ?_ 1 _ rfl; (with_reducible repeat (first | refine blk_drewN ?_ _ | refine blk_drew ?_ | refine blk_alloc ?_ _)); refine blk_put (cs := #[.int .i64 0, .int .i64 0, .int .i64 0]) ?_ 0 _ rfl; (with_reducible repeat (first | refine blk_drewN ?_ _ | refine blk_drew ?_ | refine blk_alloc ?_ _)); exact BK163.out) hb); have n1_ := Aside0.mk (below_step (by repeat (first | (with_reducible first | exact HB.out | apply below_alloc | apply pw_below_drewN | apply below_drew1 | refine below_set ?_ GE163.out) | exact HB.out)) hb); clear BK163; clear HB; have BK163 := n0_; have HB := n1_; clear n0_ n1_; (try clear hb); (try clear hb2); (try clear hk); (try clear hi)))
          go_ret
          exact ⟨by first | rfl | (simp [errW_none, errW_some] <;> rfl) | (simp [*, errW_none, errW_some] <;> rfl), by repeat (first | (with_reducible first | exact HB.out | apply below_alloc | apply pw_below_drewN | apply below_drew1 | refine below_set ?_ GE163.out) | exact HB.out)⟩
      · rw [if_neg c40] at H
        have c40b0 : (t162 == 5) = false := beq_eq_false_iff_ne.mpr c40
        have c40b1 : (t162 != 5) = true := bne_iff_ne.mpr c40
        obtain rfl := Option.some.inj H
        go_enter Try.func5, Try.ntmps5
        go_wp2_with (first | ((with_reducible refine gate_callee (f := 16) rfl ?_); refine goesL_ (some 15) rfl rfl Try.func16 (by kernel_rfl) rfl #[] rfl (by (try simp only [List.map_toArray, List.map_cons, List.map_nil]); first | done | rfl | (simp only [List.length_drop, List.length_take]; rfl)) ?_; (with_reducible refine (pylonlaw03_awake.calls  true _ A5.out).mono ?_); rintro e w60 ⟨rfl, hb⟩; refine ⟨_, rfl, ?_⟩; have n0_ := Aside0.mk (below_step (by repeat (first | (with_reducible first | exact HB.out | apply below_alloc | apply pw_below_drewN | apply below_drew1) | exact HB.out)) hb); clear HB; have HB := n0_; clear n0_; (try clear hb); (try clear hb2); (try clear hk); (try clear hi)) | ((with_reducible refine gate_callee (f := 20) rfl ?_); refine goesL_ (some 22) rfl rfl Try.func20 (by kernel_rfl) rfl #[.int .i64 a0, .int .i64 a1, .int .i64 a2, .int .i64 a3] rfl (by (try simp only [List.map_toArray, List.map_cons, List.map_nil]); first | done | rfl | (simp only [List.length_drop, List.length_take]; rfl)) ?_; (with_reducible refine (civil_Nth.calls k a0 a1 a2 a3 t159 t160 t161 t162 _ A7.out).mono ?_); rintro e w61 ⟨rfl, hb⟩; refine ⟨_, rfl, ?_⟩; have n0_ := Aside0.mk (below_step (by repeat (first | (with_reducible first | exact HB.out | apply below_alloc | apply pw_below_drewN | apply below_drew1) | exact HB.out)) hb); clear HB; have HB := n0_; clear n0_; (try clear hb); (try clear hb2); (try clear hk); (try clear hi)) | ((with_reducible refine gate_dst (N := 9) rfl ?_); refine box_event ?hg (N := 9) ?hd (cs := #[.int .i64 0, .int .i64 0, .int .i64 0]) (t := 24) ?hr ?_; (case hd => rfl); (case hg => rfl); (case hr => first | (go_simp; done) | (go_simp; rfl)); intro gb163 hg w62 hbox hb; have n0_ := Aside0.mk (below_step (by repeat (first | (with_reducible first | exact HB.out | apply below_alloc | apply pw_below_drewN | apply below_drew1) | exact HB.out)) hb); have n1_ := Aside0.mk (hbox); have n2_ := Aside0.mk ((by rw [hg]; exact (below_size (by repeat (first | (with_reducible first | exact HB.out | apply below_alloc | apply pw_below_drewN | apply below_drew1) | exact HB.out))) : w.heap.size ≤ gb163)); have n3_ := Aside0.mk ((by rw [hg]; exact (below_size (by repeat (first | (with_reducible first | exact HB.out | apply below_alloc | apply pw_below_drewN | apply below_drew1) | exact HB.out))) : w.heap.size ≤ gb163)); clear HB; have HB := n0_; have BK163 := n1_; have GW163 := n2_; have GE163 := n3_; clear n0_ n1_ n2_ n3_; clear hb hbox hg; have hcz63_0 : w62.cell? ⟨gb163, 0, none⟩ = some (.int .i64 0) := (blk_cell BK163.out 0).trans rfl; have hcz63_1 : w62.cell? ⟨gb163, 1, none⟩ = some (.int .i64 0) := (blk_cell BK163.out 1).trans rfl; have hcz63_2 : w62.cell? ⟨gb163, 2, none⟩ = some (.int .i64 0) := (blk_cell BK163.out 2).trans rfl; have hfz63_0 := blk_frozen BK163.out 0; have hfz63_1 := blk_frozen BK163.out 1; have hfz63_2 := blk_frozen BK163.out 2) | ((with_reducible refine gate_callee (f := 17) rfl ?_); refine goesL_ (some 28) rfl rfl Try.func17 (by kernel_rfl) rfl #[.int .i64 a0, .int .i64 a1] rfl (by (try simp only [List.map_toArray, List.map_cons, List.map_nil]); first | done | rfl | (simp only [List.length_drop, List.length_take]; rfl)) ?_; (with_reducible refine (civil_Length.calls a0 a1 t164 t165 _ A8.out).mono ?_); rintro e w64 ⟨rfl, hb⟩; refine ⟨_, rfl, ?_⟩; have n0_ := Aside0.mk (blk_below (g := gb163) (o := .cells #[.int .i64 t159, .int .i64 t160, .int .i64 t161] 24 (0, 0)) (by (with_reducible repeat (first | refine blk_drewN ?_ _ | refine blk_drew ?_ | refine blk_alloc ?_ _)); refine blk_put (cs := #[.int .i64 t159, .int .i64 t160, .int .i64 0]) ?_ 2 _ rfl; (with_reducible repeat (first | refine blk_drewN ?_ _ | refine blk_drew ?_ | refine blk_alloc ?_ _)); refine blk_put (cs := #[.int .i64 t159, .int .i64 0, .int .i64 0]) ?_ 1 _ rfl; (with_reducible repeat (first | refine blk_drewN ?_ _ | refine blk_drew ?_ | refine blk_alloc ?_ _)); refine blk_put (cs := #[.int .i64 0, .int .i64 0, .int .i64 0]) ?_ 0 _ rfl; (with_reducible repeat (first | refine blk_drewN ?_ _ | refine blk_drew ?_ | refine blk_alloc ?_ _)); exact BK163.out) hb); have n1_ := Aside0.mk (below_step (by repeat (first | (with_reducible first | exact HB.out | apply below_alloc | apply pw_below_drewN | apply below_drew1 | refine below_set ?_ GE163.out) | exact HB.out)) hb); clear BK163; clear HB; have BK163 := n0_; have HB := n1_; clear n0_ n1_; (try clear hb); (try clear hb2); (try clear hk); (try clear hi)))
        go_ret
        exact ⟨by first | rfl | (simp [errW_none, errW_some] <;> rfl) | (simp [*, errW_none, errW_some] <;> rfl), by repeat (first | (with_reducible first | exact HB.out | apply below_alloc | apply pw_below_drewN | apply below_drew1 | refine below_set ?_ GE163.out) | exact HB.out)⟩
  · replace c6 := Bool.eq_false_iff.mpr c6
    subst c6
    have H1 : (some false) = some r := by rw [if_neg (show ¬ (false = true) by decide)] at H; exact H
    clear H
    have H := H1
    clear H1
    obtain rfl := Option.some.inj H
    go_enter Try.func5, Try.ntmps5
    go_wp2_with (first | ((with_reducible refine gate_callee (f := 16) rfl ?_); refine goesL_ (some 15) rfl rfl Try.func16 (by kernel_rfl) rfl #[] rfl (by (try simp only [List.map_toArray, List.map_cons, List.map_nil]); first | done | rfl | (simp only [List.length_drop, List.length_take]; rfl)) ?_; (with_reducible refine (pylonlaw03_awake.calls  false _ A5.out).mono ?_); rintro e w65 ⟨rfl, hb⟩; refine ⟨_, rfl, ?_⟩; have n0_ := Aside0.mk (below_step (by repeat (first | (with_reducible first | exact HB.out | apply below_alloc | apply pw_below_drewN | apply below_drew1) | exact HB.out)) hb); clear HB; have HB := n0_; clear n0_; (try clear hb); (try clear hb2); (try clear hk); (try clear hi)))
    go_ret
    exact ⟨by first | rfl | (simp [errW_none, errW_some] <;> rfl) | (simp [*, errW_none, errW_some] <;> rfl), by repeat (first | (with_reducible first | exact HB.out | apply below_alloc | apply pw_below_drewN | apply below_drew1) | exact HB.out)⟩

/-- THE ONE PURE STATEMENT of pylonlaw03_CivilNths: yours. -/
def pylonlaw03_CivilNths.Pure : Prop := ∀ (a0 : Int) (a1 : Int) (a2 : Int) (a3 : Int), (Lit.int .i64 a0).wf = true → (Lit.int .i64 a1).wf = true → (Lit.int .i64 a2).wf = true → (Lit.int .i64 a3).wf = true → ∃ k, pylonlaw03_CivilNths.f k a0 a1 a2 a3 = some true
theorem pylonlaw03_CivilNths.walk (P : pylonlaw03_CivilNths.Pure) (a0 : Int) (a1 : Int) (a2 : Int) (a3 : Int) (w : World) (w0 : (Lit.int .i64 a0).wf = true) (w1 : (Lit.int .i64 a1).wf = true) (w2 : (Lit.int .i64 a2).wf = true) (w3 : (Lit.int .i64 a3).wf = true) :
    Calls Try.prog 5 #[.int .i64 a0, .int .i64 a1, .int .i64 a2, .int .i64 a3] w fun e w' => e = .returned (.bool true) ∧ Below w.heap.size w w' := by
  obtain ⟨k, h⟩ := P a0 a1 a2 a3 w0 w1 w2 w3
  refine (pylonlaw03_CivilNths.calls k a0 a1 a2 a3 true w h).mono ?_
  rintro e w' ⟨rfl, hd⟩
  exact ⟨rfl, hd⟩

end Go.Proofs.Ytipldjcncfoffaa.PX
