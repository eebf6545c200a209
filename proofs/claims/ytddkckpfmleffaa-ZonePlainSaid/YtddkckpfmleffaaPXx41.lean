/- Functions of the program as plain Lean functions, each with a proof that the call in the machine answers just what the plain function says; condition: the plain function answers at all. -/
import Derived.Test.YtddkckpfmleffaaPXx0
import Derived.Test.YtddkckpfmleffaaPXx10
import Derived.Test.YtddkckpfmleffaaPXx12
import Derived.Test.YtddkckpfmleffaaPXx15
import Derived.Test.YtddkckpfmleffaaPXx19
namespace Go.Proofs.Ytddkckpfmleffaa.PX
open Go.RowKit Go.Proofs.YtddkckpfmleffaaW.PrintWords Go.Proofs.YtddkckpfmleffaaW.PrintLast Go.Proofs.YtddkckpfmleffaaW.PrintMore
attribute [local go_sem] max2_int min2_int max_two min_two max_three min_three max_four min_four   -- for this text's walks alone
set_option linter.unusedVariables false
set_option linter.unusedSimpArgs false

/-! ### pylonlaw04_ZonePlain: function 8 -/
mutual
def pylonlaw04_ZonePlain.j0 : Nat → Int → List Int → Int → Int → Int → Int → Bool → Option (Bool)
 | 0, _, _, _, _, _, _, _ => none
 | k + 1, x2, x9, x10, x11, x12, x13, x57 => if x57 = true then (if x10 = 8 then (if x13 = 8 then (if (x9.length : Int) = 0 then (if x11 = 0 then (pylonlaw04_ZonePlain.j1 k (x12 == 0)) else (pylonlaw04_ZonePlain.j1 k false)) else (pylonlaw04_ZonePlain.j1 k false)) else (pylonlaw04_ZonePlain.j1 k false)) else (pylonlaw04_ZonePlain.j1 k false)) else (if x10 = 0 then (if x13 = 0 then (if (x9.length : Int) = 1 then (if (wrap64 (x12 - x11)) = 86400 then (if 0 < (x9.length : Int) then (pylonlaw04_ZonePlain.j2 k ((rd x9 0) == (wrap64 (x11 + (wrap64 (60 * x2)))))) else (none)) else (pylonlaw04_ZonePlain.j2 k false)) else (pylonlaw04_ZonePlain.j2 k false)) else (pylonlaw04_ZonePlain.j2 k false)) else (pylonlaw04_ZonePlain.j2 k false))
def pylonlaw04_ZonePlain.j1 : Nat → Bool → Option (Bool)
 | 0, _ => none
 | k + 1, x6 => some x6
def pylonlaw04_ZonePlain.j2 : Nat → Bool → Option (Bool)
 | 0, _ => none
 | k + 1, x6 => some x6
end
def pylonlaw04_ZonePlain.f (k : Nat) (a0_0 : Int) (a0_1 : Int) (a0_2 : Int) (a0_3 : Int) (a0_4 : Int) (a0_5 : Int) (a0_6 : Int) (a0_7 : Int) (a0_8 : Int) (a0_9 : Int) (a1 : Int) (a2 : Int) : Option (Bool) := (pylonlaw04_awake.f k).bind fun t535 => (if t535 = true then ((pylonref03_Of.f k (wrap64 ((wrap64 (Int.tmod (IntKind.u64.wrap (a1)) 3651900)) - 719100))).bind fun bt536 => ((zone_Moments.f k a0_0 0 a0_2 a0_3 a0_4 a0_5 a0_6 a0_7 a0_8 a0_9 bt536.1 bt536.2.1 bt536.2.2.1 (wrap64 (Int.tmod (IntKind.u64.wrap (a2)) 1440))).bind fun bt541 => ((zone_Day.f k a0_0 0 a0_2 a0_3 a0_4 a0_5 a0_6 a0_7 a0_8 a0_9 bt536.1 bt536.2.1 bt536.2.2.1).bind fun bt545 => (if a0_0 < (-720) then (pylonlaw04_ZonePlain.j0 k (wrap64 (Int.tmod (IntKind.u64.wrap (a2)) 1440)) bt541.1 bt541.2 bt545.1 bt545.2.1 bt545.2.2 true) else (if a0_0 > 840 then (pylonlaw04_ZonePlain.j0 k (wrap64 (Int.tmod (IntKind.u64.wrap (a2)) 1440)) bt541.1 bt541.2 bt545.1 bt545.2.1 bt545.2.2 true) else (pylonlaw04_ZonePlain.j0 k (wrap64 (Int.tmod (IntKind.u64.wrap (a2)) 1440)) bt541.1 bt541.2 bt545.1 bt545.2.1 bt545.2.2 ((Int.tmod a0_0 15) != 0))))))) else (some false))
theorem pylonlaw04_ZonePlain.mono_l : ∀ k, (∀ y0 y1 y2 y3 y4 y5 y6, LeO (pylonlaw04_ZonePlain.j0 k y0 y1 y2 y3 y4 y5 y6) (pylonlaw04_ZonePlain.j0 (k + 1) y0 y1 y2 y3 y4 y5 y6)) ∧ (∀ y0, LeO (pylonlaw04_ZonePlain.j1 k y0) (pylonlaw04_ZonePlain.j1 (k + 1) y0)) ∧ (∀ y0, LeO (pylonlaw04_ZonePlain.j2 k y0) (pylonlaw04_ZonePlain.j2 (k + 1) y0))
 | 0 => ⟨fun _ _ _ _ _ _ _ r h => by simp [pylonlaw04_ZonePlain.j0] at h, fun _ r h => by simp [pylonlaw04_ZonePlain.j1] at h, fun _ r h => by simp [pylonlaw04_ZonePlain.j2] at h⟩
 | k + 1 => by
  obtain ⟨ih0, ih1, ih2⟩ := pylonlaw04_ZonePlain.mono_l k
  refine ⟨?_, ?_, ?_⟩
  ·intro y0 y1 y2 y3 y4 y5 y6
   unfold pylonlaw04_ZonePlain.j0
   repeat' first
   | (with_reducible exact ih0 _ _ _ _ _ _ _)
   | (with_reducible exact ih1 _)
   | (with_reducible exact ih2 _)
   | (with_reducible exact pylonlaw04_awake.mono _)
   | (with_reducible exact pylonref03_Of.mono _ _)
   | (with_reducible exact zone_Day.mono _ _ _ _ _ _ _ _ _ _ _ _ _ _)
   | (with_reducible exact zone_Moments.mono _ _ _ _ _ _ _ _ _ _ _ _ _ _ _)
   | (with_reducible exact LeO.refl _)
   | (with_reducible exact LeO.none _)
   | (with_reducible refine LeO.ite ?_ ?_)
   | (with_reducible refine LeO.bind ?_ (fun _ => ?_))
   | exact ih0 _ _ _ _ _ _ _
   | exact ih1 _
   | exact ih2 _
   | exact pylonlaw04_awake.mono _
   | exact pylonref03_Of.mono _ _
   | exact zone_Day.mono _ _ _ _ _ _ _ _ _ _ _ _ _ _
   | exact zone_Moments.mono _ _ _ _ _ _ _ _ _ _ _ _ _ _ _
   | exact LeO.none _
   | refine LeO.ite ?_ ?_
   | refine LeO.bind ?_ (fun _ => ?_)
  ·intro y0
   unfold pylonlaw04_ZonePlain.j1
   repeat' first
   | (with_reducible exact ih0 _ _ _ _ _ _ _)
   | (with_reducible exact ih1 _)
   | (with_reducible exact ih2 _)
   | (with_reducible exact pylonlaw04_awake.mono _)
   | (with_reducible exact pylonref03_Of.mono _ _)
   | (with_reducible exact zone_Day.mono _ _ _ _ _ _ _ _ _ _ _ _ _ _)
   | (with_reducible exact zone_Moments.mono _ _ _ _ _ _ _ _ _ _ _ _ _ _ _)
   | (with_reducible exact LeO.refl _)
   | (with_reducible exact LeO.none _)
   | (with_reducible refine LeO.ite ?_ ?_)
   | (with_reducible refine LeO.bind ?_ (fun _ => ?_))
   | exact ih0 _ _ _ _ _ _ _
   | exact ih1 _
   | exact ih2 _
   | exact pylonlaw04_awake.mono _
   | exact pylonref03_Of.mono _ _
   | exact zone_Day.mono _ _ _ _ _ _ _ _ _ _ _ _ _ _
   | exact zone_Moments.mono _ _ _ _ _ _ _ _ _ _ _ _ _ _ _
   | exact LeO.none _
   | refine LeO.ite ?_ ?_
   | refine LeO.bind ?_ (fun _ => ?_)
  ·intro y0
   unfold pylonlaw04_ZonePlain.j2
   repeat' first
   | (with_reducible exact ih0 _ _ _ _ _ _ _)
   | (with_reducible exact ih1 _)
   | (with_reducible exact ih2 _)
   | (with_reducible exact pylonlaw04_awake.mono _)
   | (with_reducible exact pylonref03_Of.mono _ _)
   | (with_reducible exact zone_Day.mono _ _ _ _ _ _ _ _ _ _ _ _ _ _)
   | (with_reducible exact zone_Moments.mono _ _ _ _ _ _ _ _ _ _ _ _ _ _ _)
   | (with_reducible exact LeO.refl _)
   | (with_reducible exact LeO.none _)
   | (with_reducible refine LeO.ite ?_ ?_)
   | (with_reducible refine LeO.bind ?_ (fun _ => ?_))
   | exact ih0 _ _ _ _ _ _ _
   | exact ih1 _
   | exact ih2 _
   | exact pylonlaw04_awake.mono _
   | exact pylonref03_Of.mono _ _
   | exact zone_Day.mono _ _ _ _ _ _ _ _ _ _ _ _ _ _
   | exact zone_Moments.mono _ _ _ _ _ _ _ _ _ _ _ _ _ _ _
   | exact LeO.none _
   | refine LeO.ite ?_ ?_
   | refine LeO.bind ?_ (fun _ => ?_)
theorem pylonlaw04_ZonePlain.mono : ∀ a0 a1 a2 a3 a4 a5 a6 a7 a8 a9 a10 a11 k, LeO (pylonlaw04_ZonePlain.f k a0 a1 a2 a3 a4 a5 a6 a7 a8 a9 a10 a11) (pylonlaw04_ZonePlain.f (k + 1) a0 a1 a2 a3 a4 a5 a6 a7 a8 a9 a10 a11) := by
 intro a0 a1 a2 a3 a4 a5 a6 a7 a8 a9 a10 a11 k
 obtain ⟨ih0, ih1, ih2⟩ := pylonlaw04_ZonePlain.mono_l k
 unfold pylonlaw04_ZonePlain.f
 repeat' first
   | (with_reducible exact ih0 _ _ _ _ _ _ _)
   | (with_reducible exact ih1 _)
   | (with_reducible exact ih2 _)
   | (with_reducible exact pylonlaw04_awake.mono _)
   | (with_reducible exact pylonref03_Of.mono _ _)
   | (with_reducible exact zone_Day.mono _ _ _ _ _ _ _ _ _ _ _ _ _ _)
   | (with_reducible exact zone_Moments.mono _ _ _ _ _ _ _ _ _ _ _ _ _ _ _)
   | (with_reducible exact LeO.refl _)
   | (with_reducible exact LeO.none _)
   | (with_reducible refine LeO.ite ?_ ?_)
   | (with_reducible refine LeO.bind ?_ (fun _ => ?_))
   | exact ih0 _ _ _ _ _ _ _
   | exact ih1 _
   | exact ih2 _
   | exact pylonlaw04_awake.mono _
   | exact pylonref03_Of.mono _ _
   | exact zone_Day.mono _ _ _ _ _ _ _ _ _ _ _ _ _ _
   | exact zone_Moments.mono _ _ _ _ _ _ _ _ _ _ _ _ _ _ _
   | exact LeO.none _
   | refine LeO.ite ?_ ?_
   | refine LeO.bind ?_ (fun _ => ?_)
set_option maxHeartbeats 8000000 in
set_option maxRecDepth 100000 in
theorem pylonlaw04_ZonePlain.calls (k : Nat) (a0_0 : Int) (a0_1 : Int) (a0_2 : Int) (a0_3 : Int) (a0_4 : Int) (a0_5 : Int) (a0_6 : Int) (a0_7 : Int) (a0_8 : Int) (a0_9 : Int) (a1 : Int) (a2 : Int) (r : Bool) (w : World) (h : pylonlaw04_ZonePlain.f k a0_0 a0_1 a0_2 a0_3 a0_4 a0_5 a0_6 a0_7 a0_8 a0_9 a1 a2 = some r) :
  Calls Try.prog 8 #[.agg #[.int .i64 a0_0, .int .i64 a0_1, .int .i64 a0_2, .int .i64 a0_3, .int .i64 a0_4, .int .i64 a0_5, .int .i64 a0_6, .int .i64 a0_7, .int .i64 a0_8, .int .i64 a0_9], .int .i64 a1, .int .i64 a2] w fun e w' => e = .returned (.bool r) ∧ Below w.heap.size w w' := by
 have hu25 := Try.underlying25
 have hu33 := Try.underlying33
 have HB := Aside0.mk (Below.refl w.heap.size w)
 have H : ((pylonlaw04_awake.f k).bind fun t535 => (if t535 = true then ((pylonref03_Of.f k (wrap64 ((wrap64 (Int.tmod (IntKind.u64.wrap (a1)) 3651900)) - 719100))).bind fun bt536 => ((zone_Moments.f k a0_0 0 a0_2 a0_3 a0_4 a0_5 a0_6 a0_7 a0_8 a0_9 bt536.1 bt536.2.1 bt536.2.2.1 (wrap64 (Int.tmod (IntKind.u64.wrap (a2)) 1440))).bind fun bt541 => ((zone_Day.f k a0_0 0 a0_2 a0_3 a0_4 a0_5 a0_6 a0_7 a0_8 a0_9 bt536.1 bt536.2.1 bt536.2.2.1).bind fun bt545 => (if a0_0 < (-720) then (pylonlaw04_ZonePlain.j0 k (wrap64 (Int.tmod (IntKind.u64.wrap (a2)) 1440)) bt541.1 bt541.2 bt545.1 bt545.2.1 bt545.2.2 true) else (if a0_0 > 840 then (pylonlaw04_ZonePlain.j0 k (wrap64 (Int.tmod (IntKind.u64.wrap (a2)) 1440)) bt541.1 bt541.2 bt545.1 bt545.2.1 bt545.2.2 true) else (pylonlaw04_ZonePlain.j0 k (wrap64 (Int.tmod (IntKind.u64.wrap (a2)) 1440)) bt541.1 bt541.2 bt545.1 bt545.2.1 bt545.2.2 ((Int.tmod a0_0 15) != 0))))))) else (some false))) = some r := h
 clear h
 replace H := Option.bind_eq_some_iff.mp H
 obtain ⟨t535, A40, H⟩ := H
 replace H : (if t535 = true then ((pylonref03_Of.f k (wrap64 ((wrap64 (Int.tmod (IntKind.u64.wrap (a1)) 3651900)) - 719100))).bind fun bt536 => ((zone_Moments.f k a0_0 0 a0_2 a0_3 a0_4 a0_5 a0_6 a0_7 a0_8 a0_9 bt536.1 bt536.2.1 bt536.2.2.1 (wrap64 (Int.tmod (IntKind.u64.wrap (a2)) 1440))).bind fun bt541 => ((zone_Day.f k a0_0 0 a0_2 a0_3 a0_4 a0_5 a0_6 a0_7 a0_8 a0_9 bt536.1 bt536.2.1 bt536.2.2.1).bind fun bt545 => (if a0_0 < (-720) then (pylonlaw04_ZonePlain.j0 k (wrap64 (Int.tmod (IntKind.u64.wrap (a2)) 1440)) bt541.1 bt541.2 bt545.1 bt545.2.1 bt545.2.2 true) else (if a0_0 > 840 then (pylonlaw04_ZonePlain.j0 k (wrap64 (Int.tmod (IntKind.u64.wrap (a2)) 1440)) bt541.1 bt541.2 bt545.1 bt545.2.1 bt545.2.2 true) else (pylonlaw04_ZonePlain.j0 k (wrap64 (Int.tmod (IntKind.u64.wrap (a2)) 1440)) bt541.1 bt541.2 bt545.1 bt545.2.1 bt545.2.2 ((Int.tmod a0_0 15) != 0))))))) else (some false)) = some r := H
 have A4 := Aside0.mk A40
 clear A40
 by_cases c5 : t535 = true
 ·subst c5
  have H1 : ((pylonref03_Of.f k (wrap64 ((wrap64 (Int.tmod (IntKind.u64.wrap (a1)) 3651900)) - 719100))).bind fun bt536 => ((zone_Moments.f k a0_0 0 a0_2 a0_3 a0_4 a0_5 a0_6 a0_7 a0_8 a0_9 bt536.1 bt536.2.1 bt536.2.2.1 (wrap64 (Int.tmod (IntKind.u64.wrap (a2)) 1440))).bind fun bt541 => ((zone_Day.f k a0_0 0 a0_2 a0_3 a0_4 a0_5 a0_6 a0_7 a0_8 a0_9 bt536.1 bt536.2.1 bt536.2.2.1).bind fun bt545 => (if a0_0 < (-720) then (pylonlaw04_ZonePlain.j0 k (wrap64 (Int.tmod (IntKind.u64.wrap (a2)) 1440)) bt541.1 bt541.2 bt545.1 bt545.2.1 bt545.2.2 true) else (if a0_0 > 840 then (pylonlaw04_ZonePlain.j0 k (wrap64 (Int.tmod (IntKind.u64.wrap (a2)) 1440)) bt541.1 bt541.2 bt545.1 bt545.2.1 bt545.2.2 true) else (pylonlaw04_ZonePlain.j0 k (wrap64 (Int.tmod (IntKind.u64.wrap (a2)) 1440)) bt541.1 bt541.2 bt545.1 bt545.2.1 bt545.2.2 ((Int.tmod a0_0 15) != 0))))))) = some r := by rw [if_pos rfl] at H; exact H
  clear H
  have H := H1
  clear H1
  replace H := Option.bind_eq_some_iff.mp H
  obtain ⟨⟨t536, t537, t538, t539⟩, A60, H⟩ := H
  replace H : ((zone_Moments.f k a0_0 0 a0_2 a0_3 a0_4 a0_5 a0_6 a0_7 a0_8 a0_9 t536 t537 t538 (wrap64 (Int.tmod (IntKind.u64.wrap (a2)) 1440))).bind fun bt541 => ((zone_Day.f k a0_0 0 a0_2 a0_3 a0_4 a0_5 a0_6 a0_7 a0_8 a0_9 t536 t537 t538).bind fun bt545 => (if a0_0 < (-720) then (pylonlaw04_ZonePlain.j0 k (wrap64 (Int.tmod (IntKind.u64.wrap (a2)) 1440)) bt541.1 bt541.2 bt545.1 bt545.2.1 bt545.2.2 true) else (if a0_0 > 840 then (pylonlaw04_ZonePlain.j0 k (wrap64 (Int.tmod (IntKind.u64.wrap (a2)) 1440)) bt541.1 bt541.2 bt545.1 bt545.2.1 bt545.2.2 true) else (pylonlaw04_ZonePlain.j0 k (wrap64 (Int.tmod (IntKind.u64.wrap (a2)) 1440)) bt541.1 bt541.2 bt545.1 bt545.2.1 bt545.2.2 ((Int.tmod a0_0 15) != 0)))))) = some r := H
  have A6 := Aside0.mk A60
  clear A60
  replace H := Option.bind_eq_some_iff.mp H
  obtain ⟨⟨t541, t544⟩, A70, H⟩ := H
  replace H : ((zone_Day.f k a0_0 0 a0_2 a0_3 a0_4 a0_5 a0_6 a0_7 a0_8 a0_9 t536 t537 t538).bind fun bt545 => (if a0_0 < (-720) then (pylonlaw04_ZonePlain.j0 k (wrap64 (Int.tmod (IntKind.u64.wrap (a2)) 1440)) t541 t544 bt545.1 bt545.2.1 bt545.2.2 true) else (if a0_0 > 840 then (pylonlaw04_ZonePlain.j0 k (wrap64 (Int.tmod (IntKind.u64.wrap (a2)) 1440)) t541 t544 bt545.1 bt545.2.1 bt545.2.2 true) else (pylonlaw04_ZonePlain.j0 k (wrap64 (Int.tmod (IntKind.u64.wrap (a2)) 1440)) t541 t544 bt545.1 bt545.2.1 bt545.2.2 ((Int.tmod a0_0 15) != 0))))) = some r := H
  have A7 := Aside0.mk A70
  clear A70
  replace H := Option.bind_eq_some_iff.mp H
  obtain ⟨⟨t545, t546, t547⟩, A80, H⟩ := H
  replace H : (if a0_0 < (-720) then (pylonlaw04_ZonePlain.j0 k (wrap64 (Int.tmod (IntKind.u64.wrap (a2)) 1440)) t541 t544 t545 t546 t547 true) else (if a0_0 > 840 then (pylonlaw04_ZonePlain.j0 k (wrap64 (Int.tmod (IntKind.u64.wrap (a2)) 1440)) t541 t544 t545 t546 t547 true) else (pylonlaw04_ZonePlain.j0 k (wrap64 (Int.tmod (IntKind.u64.wrap (a2)) 1440)) t541 t544 t545 t546 t547 ((Int.tmod a0_0 15) != 0)))) = some r := H
  have A8 := Aside0.mk A80
  clear A80
  have HC9 := Aside0.mk H
  clear H
  go_enter Try.func8, Try.ntmps8
  go_upto_region 8 with (first | ((with_reducible refine gate_dst (N := 3) rfl ?_); (try (refine gate_guard (by rfl) ?_; dsimp only)); refine box_event ?hg (N := 3) ?hd (cs := #[.int .i64 a0_0, .int .i64 a0_1, .int .i64 a0_2, .int .i64 a0_3, .int .i64 a0_4, .int .i64 a0_5, .int .i64 a0_6, .int .i64 a0_7, .int .i64 a0_8, .int .i64 a0_9]) (t := 25) ?hr ?_; (case hd => rfl); (case hg => rfl); (case hr => first | (go_simp; done) | (go_simp; rfl)); intro gb534 hg w10 hbox hb; have n0_ := Aside0.mk (below_step (by repeat (first | (with_reducible first | exact HB.out | apply below_alloc | apply pw_below_drewN | apply below_drew1) | exact HB.out)) hb); have n1_ := Aside0.mk (hbox); have n2_ := Aside0.mk ((by rw [hg]; exact (below_size (by repeat (first | (with_reducible first | exact HB.out | apply below_alloc | apply pw_below_drewN | apply below_drew1) | exact HB.out))) : w.heap.size ≤ gb534)); have n3_ := Aside0.mk ((by rw [hg]; exact (below_size (by repeat (first | (with_reducible first | exact HB.out | apply below_alloc | apply pw_below_drewN | apply below_drew1) | exact HB.out))) : w.heap.size ≤ gb534)); clear HB; have HB := n0_; have BK534 := n1_; have GW534 := n2_; have GE534 := n3_; clear n0_ n1_ n2_ n3_; clear hb hbox hg) | ((with_reducible refine gate_callee (f := 14) rfl ?_); refine goesL_ (some 14) rfl rfl Try.func14 (by kernel_rfl) rfl #[] rfl (by (try simp only [List.map_toArray, List.map_cons, List.map_nil]); first | done | rfl | (simp only [List.length_drop, List.length_take]; rfl)) ?_; (with_reducible refine (pylonlaw04_awake.calls k  true _ A4.out).mono ?_); rintro e w11 ⟨rfl, hb⟩; refine ⟨_, rfl, ?_⟩; have n0_ := Aside0.mk (blk_below (g := gb534) (o := .cells #[.int .i64 a0_0, .int .i64 a0_1, .int .i64 a0_2, .int .i64 a0_3, .int .i64 a0_4, .int .i64 a0_5, .int .i64 a0_6, .int .i64 a0_7, .int .i64 a0_8, .int .i64 a0_9] 25 (0, 0)) (by (with_reducible repeat first|refine blk_drewN ?_ _|refine blk_drew ?_|refine blk_alloc ?_ _); exact BK534.out) hb); have n1_ := Aside0.mk (below_step (by repeat (first | (with_reducible first | exact HB.out | apply below_alloc | apply pw_below_drewN | apply below_drew1 | refine below_set ?_ GE534.out) | exact HB.out)) hb); clear BK534; clear HB; have BK534 := n0_; have HB := n1_; clear n0_ n1_; (try clear hb); (try clear hb2); (try clear hk); (try clear hi); have hcz12_0 : w11.cell? ⟨gb534, 0, none⟩ = some (.int .i64 a0_0) := (blk_cell BK534.out 0).trans rfl; have hcz12_1 : w11.cell? ⟨gb534, 1, none⟩ = some (.int .i64 a0_1) := (blk_cell BK534.out 1).trans rfl; have hcz12_2 : w11.cell? ⟨gb534, 2, none⟩ = some (.int .i64 a0_2) := (blk_cell BK534.out 2).trans rfl; have hcz12_3 : w11.cell? ⟨gb534, 3, none⟩ = some (.int .i64 a0_3) := (blk_cell BK534.out 3).trans rfl; have hcz12_4 : w11.cell? ⟨gb534, 4, none⟩ = some (.int .i64 a0_4) := (blk_cell BK534.out 4).trans rfl; have hcz12_5 : w11.cell? ⟨gb534, 5, none⟩ = some (.int .i64 a0_5) := (blk_cell BK534.out 5).trans rfl; have hcz12_6 : w11.cell? ⟨gb534, 6, none⟩ = some (.int .i64 a0_6) := (blk_cell BK534.out 6).trans rfl; have hcz12_7 : w11.cell? ⟨gb534, 7, none⟩ = some (.int .i64 a0_7) := (blk_cell BK534.out 7).trans rfl; have hcz12_8 : w11.cell? ⟨gb534, 8, none⟩ = some (.int .i64 a0_8) := (blk_cell BK534.out 8).trans rfl; have hcz12_9 : w11.cell? ⟨gb534, 9, none⟩ = some (.int .i64 a0_9) := (blk_cell BK534.out 9).trans rfl; have hfz12_0 := blk_frozen BK534.out 0; have hfz12_1 := blk_frozen BK534.out 1; have hfz12_2 := blk_frozen BK534.out 2; have hfz12_3 := blk_frozen BK534.out 3; have hfz12_4 := blk_frozen BK534.out 4; have hfz12_5 := blk_frozen BK534.out 5; have hfz12_6 := blk_frozen BK534.out 6; have hfz12_7 := blk_frozen BK534.out 7; have hfz12_8 := blk_frozen BK534.out 8; have hfz12_9 := blk_frozen BK534.out 9) | ((with_reducible refine gate_callee (f := 25) rfl ?_); refine goesL_ (some 23) rfl rfl Try.func25 (by kernel_rfl) rfl #[.int .i64 (wrap64 ((wrap64 (Int.tmod (IntKind.u64.wrap (a1)) 3651900)) - 719100))] rfl (by (try simp only [List.map_toArray, List.map_cons, List.map_nil]); first | done | rfl | (simp only [List.length_drop, List.length_take]; rfl)) ?_; (with_reducible refine (pylonref03_Of.calls k (wrap64 ((wrap64 (Int.tmod (IntKind.u64.wrap (a1)) 3651900)) - 719100)) t536 t537 t538 t539 _ A6.out).mono ?_); rintro e w13 ⟨rfl, hb⟩; refine ⟨_, rfl, ?_⟩; have n0_ := Aside0.mk (blk_below (g := gb534) (o := .cells #[.int .i64 a0_0, .int .i64 0, .int .i64 a0_2, .int .i64 a0_3, .int .i64 a0_4, .int .i64 a0_5, .int .i64 a0_6, .int .i64 a0_7, .int .i64 a0_8, .int .i64 a0_9] 25 (0, 0)) (by (with_reducible repeat first|refine blk_drewN ?_ _|refine blk_drew ?_|refine blk_alloc ?_ _); refine blk_put (cs := #[.int .i64 a0_0, .int .i64 a0_1, .int .i64 a0_2, .int .i64 a0_3, .int .i64 a0_4, .int .i64 a0_5, .int .i64 a0_6, .int .i64 a0_7, .int .i64 a0_8, .int .i64 a0_9]) ?_ 1 _ rfl; (with_reducible repeat first|refine blk_drewN ?_ _|refine blk_drew ?_|refine blk_alloc ?_ _); exact BK534.out) hb); have n1_ := Aside0.mk (below_step (by repeat (first | (with_reducible first | exact HB.out | apply below_alloc | apply pw_below_drewN | apply below_drew1 | refine below_set ?_ GE534.out) | exact HB.out)) hb); clear BK534; clear HB; have BK534 := n0_; have HB := n1_; clear n0_ n1_; (try clear hb); (try clear hb2); (try clear hk); (try clear hi)) | ((with_reducible refine gate_dst (N := 7) rfl ?_); (try (refine gate_guard (by rfl) ?_; dsimp only)); refine box_event ?hg (N := 7) ?hd (cs := #[.int .i64 0, .int .i64 0, .int .i64 0]) (t := 33) ?hr ?_; (case hd => rfl); (case hg => rfl); (case hr => first | (go_simp; done) | (go_simp; rfl)); intro gb540 hg w14 hbox hb; have n0_ := Aside0.mk (blk_below (g := gb534) (o := .cells #[.int .i64 a0_0, .int .i64 0, .int .i64 a0_2, .int .i64 a0_3, .int .i64 a0_4, .int .i64 a0_5, .int .i64 a0_6, .int .i64 a0_7, .int .i64 a0_8, .int .i64 a0_9] 25 (0, 0)) (by (with_reducible repeat first|refine blk_drewN ?_ _|refine blk_drew ?_|refine blk_alloc ?_ _); exact BK534.out) hb); have n1_ := Aside0.mk (below_step (by repeat (first | (with_reducible first | exact HB.out | apply below_alloc | apply pw_below_drewN | apply below_drew1 | refine below_set ?_ GE534.out) | exact HB.out)) hb); have n2_ := Aside0.mk (hbox); have n3_ := Aside0.mk ((by rw [hg]; exact (below_size (by repeat (first | (with_reducible first | exact HB.out | apply below_alloc | apply pw_below_drewN | apply below_drew1 | refine below_set ?_ GE534.out) | exact HB.out))) : w.heap.size ≤ gb540)); have n4_ := Aside0.mk ((by rw [hg]; exact (below_size (by repeat (first | (with_reducible first | exact HB.out | apply below_alloc | apply pw_below_drewN | apply below_drew1 | refine below_set ?_ GE534.out) | exact HB.out))) : w.heap.size ≤ gb540)); have n5_ := Aside0.mk ((by rw [hg]; exact Nat.ne_of_lt (blk_lt (g := gb534) (o := .cells #[.int .i64 a0_0, .int .i64 0, .int .i64 a0_2, .int .i64 a0_3, .int .i64 a0_4, .int .i64 a0_5, .int .i64 a0_6, .int .i64 a0_7, .int .i64 a0_8, .int .i64 a0_9] 25 (0, 0)) (by (with_reducible repeat first|refine blk_drewN ?_ _|refine blk_drew ?_|refine blk_alloc ?_ _); exact BK534.out)) : gb534 ≠ gb540)); have n6_ := Aside0.mk ((by rw [hg]; exact Nat.ne_of_gt (blk_lt (g := gb534) (o := .cells #[.int .i64 a0_0, .int .i64 0, .int .i64 a0_2, .int .i64 a0_3, .int .i64 a0_4, .int .i64 a0_5, .int .i64 a0_6, .int .i64 a0_7, .int .i64 a0_8, .int .i64 a0_9] 25 (0, 0)) (by (with_reducible repeat first|refine blk_drewN ?_ _|refine blk_drew ?_|refine blk_alloc ?_ _); exact BK534.out)) : gb540 ≠ gb534)); clear BK534; clear HB; have BK534 := n0_; have HB := n1_; have BK540 := n2_; have GW540 := n3_; have GE540 := n4_; have NB534_540 := n5_; have NB540_534 := n6_; clear n0_ n1_ n2_ n3_ n4_ n5_ n6_; clear hb hbox hg; have hnb15 := NB540_534.out; have hnc15 := NB534_540.out; have hcz16_0 : w14.cell? ⟨gb540, 0, none⟩ = some (.int .i64 0) := (blk_cell BK540.out 0).trans rfl; have hcz16_1 : w14.cell? ⟨gb540, 1, none⟩ = some (.int .i64 0) := (blk_cell BK540.out 1).trans rfl; have hcz16_2 : w14.cell? ⟨gb540, 2, none⟩ = some (.int .i64 0) := (blk_cell BK540.out 2).trans rfl; have hfz16_0 := blk_frozen BK540.out 0; have hfz16_1 := blk_frozen BK540.out 1; have hfz16_2 := blk_frozen BK540.out 2; have hcz17_0 : w14.cell? ⟨gb534, 0, none⟩ = some (.int .i64 a0_0) := (blk_cell BK534.out 0).trans rfl; have hcz17_1 : w14.cell? ⟨gb534, 1, none⟩ = some (.int .i64 0) := (blk_cell BK534.out 1).trans rfl; have hcz17_2 : w14.cell? ⟨gb534, 2, none⟩ = some (.int .i64 a0_2) := (blk_cell BK534.out 2).trans rfl; have hcz17_3 : w14.cell? ⟨gb534, 3, none⟩ = some (.int .i64 a0_3) := (blk_cell BK534.out 3).trans rfl; have hcz17_4 : w14.cell? ⟨gb534, 4, none⟩ = some (.int .i64 a0_4) := (blk_cell BK534.out 4).trans rfl; have hcz17_5 : w14.cell? ⟨gb534, 5, none⟩ = some (.int .i64 a0_5) := (blk_cell BK534.out 5).trans rfl; have hcz17_6 : w14.cell? ⟨gb534, 6, none⟩ = some (.int .i64 a0_6) := (blk_cell BK534.out 6).trans rfl; have hcz17_7 : w14.cell? ⟨gb534, 7, none⟩ = some (.int .i64 a0_7) := (blk_cell BK534.out 7).trans rfl; have hcz17_8 : w14.cell? ⟨gb534, 8, none⟩ = some (.int .i64 a0_8) := (blk_cell BK534.out 8).trans rfl; have hcz17_9 : w14.cell? ⟨gb534, 9, none⟩ = some (.int .i64 a0_9) := (blk_cell BK534.out 9).trans rfl; have hfz17_0 := blk_frozen BK534.out 0; have hfz17_1 := blk_frozen BK534.out 1; have hfz17_2 := blk_frozen BK534.out 2; have hfz17_3 := blk_frozen BK534.out 3; have hfz17_4 := blk_frozen BK534.out 4; have hfz17_5 := blk_frozen BK534.out 5; have hfz17_6 := blk_frozen BK534.out 6; have hfz17_7 := blk_frozen BK534.out 7; have hfz17_8 := blk_frozen BK534.out 8; have hfz17_9 := blk_frozen BK534.out 9) | ((with_reducible refine gate_callee (f := 20) rfl ?_); refine goesL_ (some 34) rfl rfl Try.func20 (by kernel_rfl) rfl #[.agg #[.int .i64 a0_0, .int .i64 0, .int .i64 a0_2, .int .i64 a0_3, .int .i64 a0_4, .int .i64 a0_5, .int .i64 a0_6, .int .i64 a0_7, .int .i64 a0_8, .int .i64 a0_9], .agg #[.int .i64 t536, .int .i64 t537, .int .i64 t538], .int .i64 (wrap64 (Int.tmod (IntKind.u64.wrap (a2)) 1440))] rfl (by (try simp only [List.map_toArray, List.map_cons, List.map_nil]); first | done | rfl | (simp only [List.length_drop, List.length_take]; rfl)) ?_; (with_reducible refine (zone_Moments.calls k a0_0 0 a0_2 a0_3 a0_4 a0_5 a0_6 a0_7 a0_8 a0_9 t536 t537 t538 (wrap64 (Int.tmod (IntKind.u64.wrap (a2)) 1440)) t541 t544 _ A7.out).mono ?_); rintro e w18 ⟨v542, rfl, ho0, hb⟩; refine ⟨_, rfl, ?_⟩; have n0_ := Aside0.mk (Kd.R_lower ho0 (below_size (by repeat (first | (with_reducible first | exact HB.out | apply below_alloc | apply pw_below_drewN | apply below_drew1 | refine below_set ?_ GE534.out | refine below_set ?_ GE540.out) | exact HB.out)))); have n1_ := Aside0.mk (blk_below (g := gb534) (o := .cells #[.int .i64 a0_0, .int .i64 0, .int .i64 a0_2, .int .i64 a0_3, .int .i64 a0_4, .int .i64 a0_5, .int .i64 a0_6, .int .i64 a0_7, .int .i64 a0_8, .int .i64 a0_9] 25 (0, 0)) (by (with_reducible repeat first|refine blk_drewN ?_ _|refine blk_drew ?_|refine blk_alloc ?_ _); refine blk_far ?_ NB534_540.out _; (with_reducible repeat first|refine blk_drewN ?_ _|refine blk_drew ?_|refine blk_alloc ?_ _); refine blk_far ?_ NB534_540.out _; (with_reducible repeat first|refine blk_drewN ?_ _|refine blk_drew ?_|refine blk_alloc ?_ _); refine blk_far ?_ NB534_540.out _; (with_reducible repeat first|refine blk_drewN ?_ _|refine blk_drew ?_|refine blk_alloc ?_ _); exact BK534.out) hb); have n2_ := Aside0.mk (blk_below (g := gb540) (o := .cells #[.int .i64 t536, .int .i64 t537, .int .i64 t538] 33 (0, 0)) (by (with_reducible repeat first|refine blk_drewN ?_ _|refine blk_drew ?_|refine blk_alloc ?_ _); refine blk_put (cs := #[.int .i64 t536, .int .i64 t537, .int .i64 0]) ?_ 2 _ rfl; (with_reducible repeat first|refine blk_drewN ?_ _|refine blk_drew ?_|refine blk_alloc ?_ _); refine blk_put (cs := #[.int .i64 t536, .int .i64 0, .int .i64 0]) ?_ 1 _ rfl; (with_reducible repeat first|refine blk_drewN ?_ _|refine blk_drew ?_|refine blk_alloc ?_ _); refine blk_put (cs := #[.int .i64 0, .int .i64 0, .int .i64 0]) ?_ 0 _ rfl; (with_reducible repeat first|refine blk_drewN ?_ _|refine blk_drew ?_|refine blk_alloc ?_ _); exact BK540.out) hb); have n3_ := Aside0.mk (below_step (by repeat (first | (with_reducible first | exact HB.out | apply below_alloc | apply pw_below_drewN | apply below_drew1 | refine below_set ?_ GE534.out | refine below_set ?_ GE540.out) | exact HB.out)) hb); clear BK534; clear BK540; clear HB; have HO543 := n0_; have BK534 := n1_; have BK540 := n2_; have HB := n3_; clear n0_ n1_ n2_ n3_; (try clear hb); (try clear hb2); (try clear hk); (try clear hi); (try clear ho0); have hcz19_0 : w18.cell? ⟨gb534, 0, none⟩ = some (.int .i64 a0_0) := (blk_cell BK534.out 0).trans rfl; have hcz19_1 : w18.cell? ⟨gb534, 1, none⟩ = some (.int .i64 0) := (blk_cell BK534.out 1).trans rfl; have hcz19_2 : w18.cell? ⟨gb534, 2, none⟩ = some (.int .i64 a0_2) := (blk_cell BK534.out 2).trans rfl; have hcz19_3 : w18.cell? ⟨gb534, 3, none⟩ = some (.int .i64 a0_3) := (blk_cell BK534.out 3).trans rfl; have hcz19_4 : w18.cell? ⟨gb534, 4, none⟩ = some (.int .i64 a0_4) := (blk_cell BK534.out 4).trans rfl; have hcz19_5 : w18.cell? ⟨gb534, 5, none⟩ = some (.int .i64 a0_5) := (blk_cell BK534.out 5).trans rfl; have hcz19_6 : w18.cell? ⟨gb534, 6, none⟩ = some (.int .i64 a0_6) := (blk_cell BK534.out 6).trans rfl; have hcz19_7 : w18.cell? ⟨gb534, 7, none⟩ = some (.int .i64 a0_7) := (blk_cell BK534.out 7).trans rfl; have hcz19_8 : w18.cell? ⟨gb534, 8, none⟩ = some (.int .i64 a0_8) := (blk_cell BK534.out 8).trans rfl; have hcz19_9 : w18.cell? ⟨gb534, 9, none⟩ = some (.int .i64 a0_9) := (blk_cell BK534.out 9).trans rfl; have hfz19_0 := blk_frozen BK534.out 0; have hfz19_1 := blk_frozen BK534.out 1; have hfz19_2 := blk_frozen BK534.out 2; have hfz19_3 := blk_frozen BK534.out 3; have hfz19_4 := blk_frozen BK534.out 4; have hfz19_5 := blk_frozen BK534.out 5; have hfz19_6 := blk_frozen BK534.out 6; have hfz19_7 := blk_frozen BK534.out 7; have hfz19_8 := blk_frozen BK534.out 8; have hfz19_9 := blk_frozen BK534.out 9; have hcz20_0 : w18.cell? ⟨gb540, 0, none⟩ = some (.int .i64 t536) := (blk_cell BK540.out 0).trans rfl; have hcz20_1 : w18.cell? ⟨gb540, 1, none⟩ = some (.int .i64 t537) := (blk_cell BK540.out 1).trans rfl; have hcz20_2 : w18.cell? ⟨gb540, 2, none⟩ = some (.int .i64 t538) := (blk_cell BK540.out 2).trans rfl; have hfz20_0 := blk_frozen BK540.out 0; have hfz20_1 := blk_frozen BK540.out 1; have hfz20_2 := blk_frozen BK540.out 2) | ((with_reducible refine gate_callee (f := 27) rfl ?_); refine goesL_ (some 40) rfl rfl Try.func27 (by kernel_rfl) rfl #[.agg #[.int .i64 a0_0, .int .i64 0, .int .i64 a0_2, .int .i64 a0_3, .int .i64 a0_4, .int .i64 a0_5, .int .i64 a0_6, .int .i64 a0_7, .int .i64 a0_8, .int .i64 a0_9], .agg #[.int .i64 t536, .int .i64 t537, .int .i64 t538]] rfl (by (try simp only [List.map_toArray, List.map_cons, List.map_nil]); first | done | rfl | (simp only [List.length_drop, List.length_take]; rfl)) ?_; (with_reducible refine (zone_Day.calls k a0_0 0 a0_2 a0_3 a0_4 a0_5 a0_6 a0_7 a0_8 a0_9 t536 t537 t538 t545 t546 t547 _ A8.out).mono ?_); rintro e w21 ⟨rfl, hb⟩; refine ⟨_, rfl, ?_⟩; have n0_ := Aside0.mk (Kd.R_below (by (with_reducible repeat (first | apply Kd.R_alloc | apply Kd.R_drewN | apply Kd.R_drew)); exact HO543.out) hb); have n1_ := Aside0.mk (blk_below (g := gb534) (o := .cells #[.int .i64 a0_0, .int .i64 0, .int .i64 a0_2, .int .i64 a0_3, .int .i64 a0_4, .int .i64 a0_5, .int .i64 a0_6, .int .i64 a0_7, .int .i64 a0_8, .int .i64 a0_9] 25 (0, 0)) (by (with_reducible repeat first|refine blk_drewN ?_ _|refine blk_drew ?_|refine blk_alloc ?_ _); exact BK534.out) hb); have n2_ := Aside0.mk (blk_below (g := gb540) (o := .cells #[.int .i64 t536, .int .i64 t537, .int .i64 t538] 33 (0, 0)) (by (with_reducible repeat first|refine blk_drewN ?_ _|refine blk_drew ?_|refine blk_alloc ?_ _); exact BK540.out) hb); have n3_ := Aside0.mk (below_step (by repeat (first | (with_reducible first | exact HB.out | apply below_alloc | apply pw_below_drewN | apply below_drew1 | refine below_set ?_ GE534.out | refine below_set ?_ GE540.out) | exact HB.out)) hb); clear HO543; clear BK534; clear BK540; clear HB; have HO543 := n0_; have BK534 := n1_; have BK540 := n2_; have HB := n3_; clear n0_ n1_ n2_ n3_; (try clear hb); (try clear hb2); (try clear hk); (try clear hi)))
  (try simp only [Act.put, List.setIfInBounds_toArray, List.set_cons_zero, List.set_cons_succ])
  go_cut [57] (fun v57 wc => ∃ (kq : Nat) (x57_8 : Bool), v57 = .bool x57_8 ∧ Aside0 (pylonlaw04_ZonePlain.j0 kq (wrap64 (Int.tmod (IntKind.u64.wrap (a2)) 1440)) t541 t544 t545 t546 t547 x57_8 = some r) ∧ Aside0 (kq ≤ k) ∧ Aside0 (Kd.R (Kd.int .i64) 2 wc w.heap.size (fun _ => True) v542 t541) ∧ Aside0 (wc.heap[gb534]? = some (.cells #[.int .i64 a0_0, .int .i64 0, .int .i64 a0_2, .int .i64 a0_3, .int .i64 a0_4, .int .i64 a0_5, .int .i64 a0_6, .int .i64 a0_7, .int .i64 a0_8, .int .i64 a0_9] 25 (0, 0))) ∧ Aside0 (wc.heap[gb540]? = some (.cells #[.int .i64 t536, .int .i64 t537, .int .i64 t538] 33 (0, 0))) ∧ Aside0 (Below w.heap.size w wc))
  case first =>
   have H := HC9.out
   clear HC9
   by_cases c22 : a0_0 < (-720)
   ·rw [if_pos c22] at H
    have c22b0 : decide (a0_0 < (-720)) = true := decide_eq_true c22
    clear c22
    (first | rw [c22b0] | (simp only [i64_w, i32_w]; rw [c22b0]) | skip)
    have H' := Aside0.mk H
    clear H
    have hnb23 := NB534_540.out
    have hnc23 := NB540_534.out
    have hcz24_0 : w21.cell? ⟨gb534, 0, none⟩ = some (.int .i64 a0_0) := (blk_cell BK534.out 0).trans rfl
    have hcz24_1 : w21.cell? ⟨gb534, 1, none⟩ = some (.int .i64 0) := (blk_cell BK534.out 1).trans rfl
    have hcz24_2 : w21.cell? ⟨gb534, 2, none⟩ = some (.int .i64 a0_2) := (blk_cell BK534.out 2).trans rfl
    have hcz24_3 : w21.cell? ⟨gb534, 3, none⟩ = some (.int .i64 a0_3) := (blk_cell BK534.out 3).trans rfl
    have hcz24_4 : w21.cell? ⟨gb534, 4, none⟩ = some (.int .i64 a0_4) := (blk_cell BK534.out 4).trans rfl
    have hcz24_5 : w21.cell? ⟨gb534, 5, none⟩ = some (.int .i64 a0_5) := (blk_cell BK534.out 5).trans rfl
    have hcz24_6 : w21.cell? ⟨gb534, 6, none⟩ = some (.int .i64 a0_6) := (blk_cell BK534.out 6).trans rfl
    have hcz24_7 : w21.cell? ⟨gb534, 7, none⟩ = some (.int .i64 a0_7) := (blk_cell BK534.out 7).trans rfl
    have hcz24_8 : w21.cell? ⟨gb534, 8, none⟩ = some (.int .i64 a0_8) := (blk_cell BK534.out 8).trans rfl
    have hcz24_9 : w21.cell? ⟨gb534, 9, none⟩ = some (.int .i64 a0_9) := (blk_cell BK534.out 9).trans rfl
    have hfz24_0 := blk_frozen BK534.out 0
    have hfz24_1 := blk_frozen BK534.out 1
    have hfz24_2 := blk_frozen BK534.out 2
    have hfz24_3 := blk_frozen BK534.out 3
    have hfz24_4 := blk_frozen BK534.out 4
    have hfz24_5 := blk_frozen BK534.out 5
    have hfz24_6 := blk_frozen BK534.out 6
    have hfz24_7 := blk_frozen BK534.out 7
    have hfz24_8 := blk_frozen BK534.out 8
    have hfz24_9 := blk_frozen BK534.out 9
    go_wp2
    go_meet
    case rel => exact ⟨_, (true), (by first | rfl | (simp; done) | (simp [*]; done)), H', ⟨by first | omega | exact Nat.le_refl _⟩, ⟨by (with_reducible repeat (first | apply Kd.R_alloc | apply Kd.R_drewN | apply Kd.R_drew)); exact HO543.out⟩, ⟨by (with_reducible repeat first|refine blk_drewN ?_ _|refine blk_drew ?_|refine blk_alloc ?_ _); exact BK534.out⟩, ⟨by (with_reducible repeat first|refine blk_drewN ?_ _|refine blk_drew ?_|refine blk_alloc ?_ _); exact BK540.out⟩, ⟨by repeat (first | (with_reducible first | exact HB.out | apply below_alloc | apply pw_below_drewN | apply below_drew1 | refine below_set ?_ GE534.out | refine below_set ?_ GE540.out) | exact HB.out)⟩⟩
   ·rw [if_neg c22] at H
    have c22b0 : decide (a0_0 < (-720)) = false := decide_eq_false c22
    clear c22
    (first | rw [c22b0] | (simp only [i64_w, i32_w]; rw [c22b0]) | skip)
    by_cases c25 : a0_0 > 840
    ·rw [if_pos c25] at H
     have c25b0 : decide (840 < a0_0) = true := decide_eq_true c25
     clear c25
     have H' := Aside0.mk H
     clear H
     have hnb26 := NB534_540.out
     have hnc26 := NB540_534.out
     have hcz27_0 : w21.cell? ⟨gb534, 0, none⟩ = some (.int .i64 a0_0) := (blk_cell BK534.out 0).trans rfl
     have hcz27_1 : w21.cell? ⟨gb534, 1, none⟩ = some (.int .i64 0) := (blk_cell BK534.out 1).trans rfl
     have hcz27_2 : w21.cell? ⟨gb534, 2, none⟩ = some (.int .i64 a0_2) := (blk_cell BK534.out 2).trans rfl
     have hcz27_3 : w21.cell? ⟨gb534, 3, none⟩ = some (.int .i64 a0_3) := (blk_cell BK534.out 3).trans rfl
     have hcz27_4 : w21.cell? ⟨gb534, 4, none⟩ = some (.int .i64 a0_4) := (blk_cell BK534.out 4).trans rfl
     have hcz27_5 : w21.cell? ⟨gb534, 5, none⟩ = some (.int .i64 a0_5) := (blk_cell BK534.out 5).trans rfl
     have hcz27_6 : w21.cell? ⟨gb534, 6, none⟩ = some (.int .i64 a0_6) := (blk_cell BK534.out 6).trans rfl
     have hcz27_7 : w21.cell? ⟨gb534, 7, none⟩ = some (.int .i64 a0_7) := (blk_cell BK534.out 7).trans rfl
     have hcz27_8 : w21.cell? ⟨gb534, 8, none⟩ = some (.int .i64 a0_8) := (blk_cell BK534.out 8).trans rfl
     have hcz27_9 : w21.cell? ⟨gb534, 9, none⟩ = some (.int .i64 a0_9) := (blk_cell BK534.out 9).trans rfl
     have hfz27_0 := blk_frozen BK534.out 0
     have hfz27_1 := blk_frozen BK534.out 1
     have hfz27_2 := blk_frozen BK534.out 2
     have hfz27_3 := blk_frozen BK534.out 3
     have hfz27_4 := blk_frozen BK534.out 4
     have hfz27_5 := blk_frozen BK534.out 5
     have hfz27_6 := blk_frozen BK534.out 6
     have hfz27_7 := blk_frozen BK534.out 7
     have hfz27_8 := blk_frozen BK534.out 8
     have hfz27_9 := blk_frozen BK534.out 9
     go_wp2
     go_meet
     case rel => exact ⟨_, (true), (by first | rfl | (simp; done) | (simp [*]; done)), H', ⟨by first | omega | exact Nat.le_refl _⟩, ⟨by (with_reducible repeat (first | apply Kd.R_alloc | apply Kd.R_drewN | apply Kd.R_drew)); exact HO543.out⟩, ⟨by (with_reducible repeat first|refine blk_drewN ?_ _|refine blk_drew ?_|refine blk_alloc ?_ _); exact BK534.out⟩, ⟨by (with_reducible repeat first|refine blk_drewN ?_ _|refine blk_drew ?_|refine blk_alloc ?_ _); exact BK540.out⟩, ⟨by repeat (first | (with_reducible first | exact HB.out | apply below_alloc | apply pw_below_drewN | apply below_drew1 | refine below_set ?_ GE534.out | refine below_set ?_ GE540.out) | exact HB.out)⟩⟩
    ·rw [if_neg c25] at H
     have c25b0 : decide (840 < a0_0) = false := decide_eq_false c25
     clear c25
     have H' := Aside0.mk H
     clear H
     have hnb28 := NB534_540.out
     have hnc28 := NB540_534.out
     have hcz29_0 : w21.cell? ⟨gb534, 0, none⟩ = some (.int .i64 a0_0) := (blk_cell BK534.out 0).trans rfl
     have hcz29_1 : w21.cell? ⟨gb534, 1, none⟩ = some (.int .i64 0) := (blk_cell BK534.out 1).trans rfl
     have hcz29_2 : w21.cell? ⟨gb534, 2, none⟩ = some (.int .i64 a0_2) := (blk_cell BK534.out 2).trans rfl
     have hcz29_3 : w21.cell? ⟨gb534, 3, none⟩ = some (.int .i64 a0_3) := (blk_cell BK534.out 3).trans rfl
     have hcz29_4 : w21.cell? ⟨gb534, 4, none⟩ = some (.int .i64 a0_4) := (blk_cell BK534.out 4).trans rfl
     have hcz29_5 : w21.cell? ⟨gb534, 5, none⟩ = some (.int .i64 a0_5) := (blk_cell BK534.out 5).trans rfl
     have hcz29_6 : w21.cell? ⟨gb534, 6, none⟩ = some (.int .i64 a0_6) := (blk_cell BK534.out 6).trans rfl
     have hcz29_7 : w21.cell? ⟨gb534, 7, none⟩ = some (.int .i64 a0_7) := (blk_cell BK534.out 7).trans rfl
     have hcz29_8 : w21.cell? ⟨gb534, 8, none⟩ = some (.int .i64 a0_8) := (blk_cell BK534.out 8).trans rfl
     have hcz29_9 : w21.cell? ⟨gb534, 9, none⟩ = some (.int .i64 a0_9) := (blk_cell BK534.out 9).trans rfl
     have hfz29_0 := blk_frozen BK534.out 0
     have hfz29_1 := blk_frozen BK534.out 1
     have hfz29_2 := blk_frozen BK534.out 2
     have hfz29_3 := blk_frozen BK534.out 3
     have hfz29_4 := blk_frozen BK534.out 4
     have hfz29_5 := blk_frozen BK534.out 5
     have hfz29_6 := blk_frozen BK534.out 6
     have hfz29_7 := blk_frozen BK534.out 7
     have hfz29_8 := blk_frozen BK534.out 8
     have hfz29_9 := blk_frozen BK534.out 9
     go_wp2
     go_meet
     case rel => exact ⟨_, (((Int.tmod a0_0 15) != 0)), (by first | rfl | (simp; done) | (simp [*]; done)), H', ⟨by first | omega | exact Nat.le_refl _⟩, ⟨by (with_reducible repeat (first | apply Kd.R_alloc | apply Kd.R_drewN | apply Kd.R_drew)); exact HO543.out⟩, ⟨by (with_reducible repeat first|refine blk_drewN ?_ _|refine blk_drew ?_|refine blk_alloc ?_ _); exact BK534.out⟩, ⟨by (with_reducible repeat first|refine blk_drewN ?_ _|refine blk_drew ?_|refine blk_alloc ?_ _); exact BK540.out⟩, ⟨by repeat (first | (with_reducible first | exact HB.out | apply below_alloc | apply pw_below_drewN | apply below_drew1 | refine below_set ?_ GE534.out | refine below_set ?_ GE540.out) | exact HB.out)⟩⟩
  case rest =>
   clear HC9
   try clear c1
   try clear c2
   try clear p2
   try clear c5
   try clear p6
   try clear c8
   try clear c14
   try clear c15
   try clear c20
   try clear c22
   try clear c22b0
   try clear c23
   try clear c25
   try clear c25b0
   try clear c26
   try clear c27
   try clear c28
   try clear hcz12_0
   try clear hcz12_1
   try clear hcz12_2
   try clear hcz12_3
   try clear hcz12_4
   try clear hcz12_5
   try clear hcz12_6
   try clear hcz12_7
   try clear hcz12_8
   try clear hcz12_9
   try clear hcz16_0
   try clear hcz16_1
   try clear hcz16_2
   try clear hcz17_0
   try clear hcz17_1
   try clear hcz17_2
   try clear hcz17_3
   try clear hcz17_4
   try clear hcz17_5
   try clear hcz17_6
   try clear hcz17_7
   try clear hcz17_8
   try clear hcz17_9
   try clear hcz19_0
   try clear hcz19_1
   try clear hcz19_2
   try clear hcz19_3
   try clear hcz19_4
   try clear hcz19_5
   try clear hcz19_6
   try clear hcz19_7
   try clear hcz19_8
   try clear hcz19_9
   try clear hcz20_0
   try clear hcz20_1
   try clear hcz20_2
   try clear hcz24_0
   try clear hcz24_1
   try clear hcz24_2
   try clear hcz24_3
   try clear hcz24_4
   try clear hcz24_5
   try clear hcz24_6
   try clear hcz24_7
   try clear hcz24_8
   try clear hcz24_9
   try clear hcz27_0
   try clear hcz27_1
   try clear hcz27_2
   try clear hcz27_3
   try clear hcz27_4
   try clear hcz27_5
   try clear hcz27_6
   try clear hcz27_7
   try clear hcz27_8
   try clear hcz27_9
   try clear hcz29_0
   try clear hcz29_1
   try clear hcz29_2
   try clear hcz29_3
   try clear hcz29_4
   try clear hcz29_5
   try clear hcz29_6
   try clear hcz29_7
   try clear hcz29_8
   try clear hcz29_9
   try clear hfz12_0
   try clear hfz12_1
   try clear hfz12_2
   try clear hfz12_3
   try clear hfz12_4
   try clear hfz12_5
   try clear hfz12_6
   try clear hfz12_7
   try clear hfz12_8
   try clear hfz12_9
   try clear hfz16_0
   try clear hfz16_1
   try clear hfz16_2
   try clear hfz17_0
   try clear hfz17_1
   try clear hfz17_2
   try clear hfz17_3
   try clear hfz17_4
   try clear hfz17_5
   try clear hfz17_6
   try clear hfz17_7
   try clear hfz17_8
   try clear hfz17_9
   try clear hfz19_0
   try clear hfz19_1
   try clear hfz19_2
   try clear hfz19_3
   try clear hfz19_4
   try clear hfz19_5
   try clear hfz19_6
   try clear hfz19_7
   try clear hfz19_8
   try clear hfz19_9
   try clear hfz20_0
   try clear hfz20_1
   try clear hfz20_2
   try clear hfz24_0
   try clear hfz24_1
   try clear hfz24_2
   try clear hfz24_3
   try clear hfz24_4
   try clear hfz24_5
   try clear hfz24_6
   try clear hfz24_7
   try clear hfz24_8
   try clear hfz24_9
   try clear hfz27_0
   try clear hfz27_1
   try clear hfz27_2
   try clear hfz27_3
   try clear hfz27_4
   try clear hfz27_5
   try clear hfz27_6
   try clear hfz27_7
   try clear hfz27_8
   try clear hfz27_9
   try clear hfz29_0
   try clear hfz29_1
   try clear hfz29_2
   try clear hfz29_3
   try clear hfz29_4
   try clear hfz29_5
   try clear hfz29_6
   try clear hfz29_7
   try clear hfz29_8
   try clear hfz29_9
   obtain ⟨kq, x57_8, rfl, HA, HJ8, HO_9, BK534, BK540, HB⟩ := hcut
   cases kq with
   | zero => exact absurd HA.out (by simp [pylonlaw04_ZonePlain.j0])
   | succ kj8 =>
    have H := HA.out
    clear HA
    simp only [pylonlaw04_ZonePlain.j0] at H
    by_cases c30 : x57_8 = true
    ·subst c30
     have H1 : (if t544 = 8 then (if t547 = 8 then (if (t541.length : Int) = 0 then (if t545 = 0 then (pylonlaw04_ZonePlain.j1 kj8 (t546 == 0)) else (pylonlaw04_ZonePlain.j1 kj8 false)) else (pylonlaw04_ZonePlain.j1 kj8 false)) else (pylonlaw04_ZonePlain.j1 kj8 false)) else (pylonlaw04_ZonePlain.j1 kj8 false)) = some r := by rw [if_pos rfl] at H; exact H
     clear H
     have H := H1
     clear H1
     have HC31 := Aside0.mk H
     clear H
     go_upto_region 9 with (fail)
     go_cut [6] (fun v6 wc => ∃ (kq : Nat) (x6_30 : Bool), v6 = .bool x6_30 ∧ Aside0 (pylonlaw04_ZonePlain.j1 kq x6_30 = some r) ∧ Aside0 (kq ≤ kj8) ∧ Aside0 (wc.heap[gb534]? = some (.cells #[.int .i64 a0_0, .int .i64 0, .int .i64 a0_2, .int .i64 a0_3, .int .i64 a0_4, .int .i64 a0_5, .int .i64 a0_6, .int .i64 a0_7, .int .i64 a0_8, .int .i64 a0_9] 25 (0, 0))) ∧ Aside0 (wc.heap[gb540]? = some (.cells #[.int .i64 t536, .int .i64 t537, .int .i64 t538] 33 (0, 0))) ∧ Aside0 (Below w.heap.size w wc))
     case first =>
      have H := HC31.out
      clear HC31
      by_cases c32 : t544 = 8
      ·rw [if_pos c32] at H
       have c32b0 : (t544 == 8) = true := beq_iff_eq.mpr c32
       have c32b1 : (t544 != 8) = false := bne_eq_false_iff_eq.mpr c32
       clear c32
       (first | rw [c32b0] | (simp only [i64_w, i32_w]; rw [c32b0]) | skip)
       by_cases c33 : t547 = 8
       ·rw [if_pos c33] at H
        have c33b0 : (t547 == 8) = true := beq_iff_eq.mpr c33
        have c33b1 : (t547 != 8) = false := bne_eq_false_iff_eq.mpr c33
        clear c33
        by_cases c34 : (t541.length : Int) = 0
        ·rw [if_pos c34] at H
         have c34b0 : ((t541.length : Int) == 0) = true := beq_iff_eq.mpr c34
         have c34b1 : ((t541.length : Int) != 0) = false := bne_eq_false_iff_eq.mpr c34
         clear c34
         by_cases c35 : t545 = 0
         ·rw [if_pos c35] at H
          have c35b0 : (t545 == 0) = true := beq_iff_eq.mpr c35
          have c35b1 : (t545 != 0) = false := bne_eq_false_iff_eq.mpr c35
          clear c35
          have H' := Aside0.mk H
          clear H
          obtain ⟨Ao36, co36, eo36⟩ := Kd.R_slice HO_9.out
          subst eo36
          go_wp2
          go_meet
          case rel => exact ⟨_, ((t546 == 0)), (by first | rfl | (simp; done) | (simp [*]; done)), H', ⟨by have := HJ8.out; first | omega | exact Nat.le_refl _⟩, ⟨by (with_reducible repeat first|refine blk_drewN ?_ _|refine blk_drew ?_|refine blk_alloc ?_ _); exact BK534.out⟩, ⟨by (with_reducible repeat first|refine blk_drewN ?_ _|refine blk_drew ?_|refine blk_alloc ?_ _); exact BK540.out⟩, ⟨by repeat (first | (with_reducible first | exact HB.out | apply below_alloc | apply pw_below_drewN | apply below_drew1 | refine below_set ?_ GE534.out | refine below_set ?_ GE540.out) | exact HB.out)⟩⟩
         ·rw [if_neg c35] at H
          have c35b0 : (t545 == 0) = false := beq_eq_false_iff_ne.mpr c35
          have c35b1 : (t545 != 0) = true := bne_iff_ne.mpr c35
          have H' := Aside0.mk H
          clear H
          obtain ⟨Ao37, co37, eo37⟩ := Kd.R_slice HO_9.out
          subst eo37
          go_wp2
          go_meet
          case rel => exact ⟨_, (false), (by first | rfl | (simp; done) | (simp [*]; done)), H', ⟨by have := HJ8.out; first | omega | exact Nat.le_refl _⟩, ⟨by (with_reducible repeat first|refine blk_drewN ?_ _|refine blk_drew ?_|refine blk_alloc ?_ _); exact BK534.out⟩, ⟨by (with_reducible repeat first|refine blk_drewN ?_ _|refine blk_drew ?_|refine blk_alloc ?_ _); exact BK540.out⟩, ⟨by repeat (first | (with_reducible first | exact HB.out | apply below_alloc | apply pw_below_drewN | apply below_drew1 | refine below_set ?_ GE534.out | refine below_set ?_ GE540.out) | exact HB.out)⟩⟩
        ·rw [if_neg c34] at H
         have c34b0 : ((t541.length : Int) == 0) = false := beq_eq_false_iff_ne.mpr c34
         have c34b1 : ((t541.length : Int) != 0) = true := bne_iff_ne.mpr c34
         have c34b2 : ¬ (t541 = []) := fun h_ => c34 (by rw [h_]; rfl)
         have H' := Aside0.mk H
         clear H
         obtain ⟨Ao38, co38, eo38⟩ := Kd.R_slice HO_9.out
         subst eo38
         go_wp2
         go_meet
         case rel => exact ⟨_, (false), (by first | rfl | (simp; done) | (simp [*]; done)), H', ⟨by have := HJ8.out; first | omega | exact Nat.le_refl _⟩, ⟨by (with_reducible repeat first|refine blk_drewN ?_ _|refine blk_drew ?_|refine blk_alloc ?_ _); exact BK534.out⟩, ⟨by (with_reducible repeat first|refine blk_drewN ?_ _|refine blk_drew ?_|refine blk_alloc ?_ _); exact BK540.out⟩, ⟨by repeat (first | (with_reducible first | exact HB.out | apply below_alloc | apply pw_below_drewN | apply below_drew1 | refine below_set ?_ GE534.out | refine below_set ?_ GE540.out) | exact HB.out)⟩⟩
       ·rw [if_neg c33] at H
        have c33b0 : (t547 == 8) = false := beq_eq_false_iff_ne.mpr c33
        have c33b1 : (t547 != 8) = true := bne_iff_ne.mpr c33
        have H' := Aside0.mk H
        clear H
        go_wp2
        go_meet
        case rel => exact ⟨_, (false), (by first | rfl | (simp; done) | (simp [*]; done)), H', ⟨by have := HJ8.out; first | omega | exact Nat.le_refl _⟩, ⟨by (with_reducible repeat first|refine blk_drewN ?_ _|refine blk_drew ?_|refine blk_alloc ?_ _); exact BK534.out⟩, ⟨by (with_reducible repeat first|refine blk_drewN ?_ _|refine blk_drew ?_|refine blk_alloc ?_ _); exact BK540.out⟩, ⟨by repeat (first | (with_reducible first | exact HB.out | apply below_alloc | apply pw_below_drewN | apply below_drew1 | refine below_set ?_ GE534.out | refine below_set ?_ GE540.out) | exact HB.out)⟩⟩
      ·rw [if_neg c32] at H
       have c32b0 : (t544 == 8) = false := beq_eq_false_iff_ne.mpr c32
       have c32b1 : (t544 != 8) = true := bne_iff_ne.mpr c32
       (first | rw [c32b0] | (simp only [i64_w, i32_w]; rw [c32b0]) | skip)
       have H' := Aside0.mk H
       clear H
       go_wp2
       go_meet
       case rel => exact ⟨_, (false), (by first | rfl | (simp; done) | (simp [*]; done)), H', ⟨by have := HJ8.out; first | omega | exact Nat.le_refl _⟩, ⟨by (with_reducible repeat first|refine blk_drewN ?_ _|refine blk_drew ?_|refine blk_alloc ?_ _); exact BK534.out⟩, ⟨by (with_reducible repeat first|refine blk_drewN ?_ _|refine blk_drew ?_|refine blk_alloc ?_ _); exact BK540.out⟩, ⟨by repeat (first | (with_reducible first | exact HB.out | apply below_alloc | apply pw_below_drewN | apply below_drew1 | refine below_set ?_ GE534.out | refine below_set ?_ GE540.out) | exact HB.out)⟩⟩
     case rest =>
      clear HC31
      try clear c1
      try clear c2
      try clear p2
      try clear c3
      try clear c5
      try clear p6
      try clear c8
      try clear c14
      try clear c15
      try clear c20
      try clear c22
      try clear c22b0
      try clear c23
      try clear c25
      try clear c25b0
      try clear c26
      try clear c27
      try clear c28
      try clear c30
      try clear c32
      try clear c32b0
      try clear c32b1
      try clear c33
      try clear c33b0
      try clear c33b1
      try clear c34
      try clear c34b0
      try clear c34b1
      try clear c34b2
      try clear c35
      try clear c35b0
      try clear c35b1
      try clear hcz12_0
      try clear hcz12_1
      try clear hcz12_2
      try clear hcz12_3
      try clear hcz12_4
      try clear hcz12_5
      try clear hcz12_6
      try clear hcz12_7
      try clear hcz12_8
      try clear hcz12_9
      try clear hcz16_0
      try clear hcz16_1
      try clear hcz16_2
      try clear hcz17_0
      try clear hcz17_1
      try clear hcz17_2
      try clear hcz17_3
      try clear hcz17_4
      try clear hcz17_5
      try clear hcz17_6
      try clear hcz17_7
      try clear hcz17_8
      try clear hcz17_9
      try clear hcz19_0
      try clear hcz19_1
      try clear hcz19_2
      try clear hcz19_3
      try clear hcz19_4
      try clear hcz19_5
      try clear hcz19_6
      try clear hcz19_7
      try clear hcz19_8
      try clear hcz19_9
      try clear hcz20_0
      try clear hcz20_1
      try clear hcz20_2
      try clear hcz24_0
      try clear hcz24_1
      try clear hcz24_2
      try clear hcz24_3
      try clear hcz24_4
      try clear hcz24_5
      try clear hcz24_6
      try clear hcz24_7
      try clear hcz24_8
      try clear hcz24_9
      try clear hcz27_0
      try clear hcz27_1
      try clear hcz27_2
      try clear hcz27_3
      try clear hcz27_4
      try clear hcz27_5
      try clear hcz27_6
      try clear hcz27_7
      try clear hcz27_8
      try clear hcz27_9
      try clear hcz29_0
      try clear hcz29_1
      try clear hcz29_2
      try clear hcz29_3
      try clear hcz29_4
      try clear hcz29_5
      try clear hcz29_6
      try clear hcz29_7
      try clear hcz29_8
      try clear hcz29_9
      try clear hfz12_0
      try clear hfz12_1
      try clear hfz12_2
      try clear hfz12_3
      try clear hfz12_4
      try clear hfz12_5
      try clear hfz12_6
      try clear hfz12_7
      try clear hfz12_8
      try clear hfz12_9
      try clear hfz16_0
      try clear hfz16_1
      try clear hfz16_2
      try clear hfz17_0
      try clear hfz17_1
      try clear hfz17_2
      try clear hfz17_3
      try clear hfz17_4
      try clear hfz17_5
      try clear hfz17_6
      try clear hfz17_7
      try clear hfz17_8
      try clear hfz17_9
      try clear hfz19_0
      try clear hfz19_1
      try clear hfz19_2
      try clear hfz19_3
      try clear hfz19_4
      try clear hfz19_5
      try clear hfz19_6
      try clear hfz19_7
      try clear hfz19_8
      try clear hfz19_9
      try clear hfz20_0
      try clear hfz20_1
      try clear hfz20_2
      try clear hfz24_0
      try clear hfz24_1
      try clear hfz24_2
      try clear hfz24_3
      try clear hfz24_4
      try clear hfz24_5
      try clear hfz24_6
      try clear hfz24_7
      try clear hfz24_8
      try clear hfz24_9
      try clear hfz27_0
      try clear hfz27_1
      try clear hfz27_2
      try clear hfz27_3
      try clear hfz27_4
      try clear hfz27_5
      try clear hfz27_6
      try clear hfz27_7
      try clear hfz27_8
      try clear hfz27_9
      try clear hfz29_0
      try clear hfz29_1
      try clear hfz29_2
      try clear hfz29_3
      try clear hfz29_4
      try clear hfz29_5
      try clear hfz29_6
      try clear hfz29_7
      try clear hfz29_8
      try clear hfz29_9
      try clear p2
      try clear p6
      obtain ⟨kq, x6_30, rfl, HA, HJ30, BK534, BK540, HB⟩ := hcut
      cases kq with
      | zero => exact absurd HA.out (by simp [pylonlaw04_ZonePlain.j1])
      | succ kj30 =>
       have H := HA.out
       clear HA
       simp only [pylonlaw04_ZonePlain.j1] at H
       obtain rfl := Option.some.inj H
       go_wp2
       go_ret
       exact ⟨by first | rfl | (simp [errW_none, errW_some] <;> rfl) | (simp [*, errW_none, errW_some] <;> rfl), by repeat (first | (with_reducible first | exact HB.out | apply below_alloc | apply pw_below_drewN | apply below_drew1 | refine below_set ?_ GE534.out | refine below_set ?_ GE540.out) | exact HB.out)⟩
    ·replace c30 := Bool.eq_false_iff.mpr c30
     subst c30
     have H1 : (if t544 = 0 then (if t547 = 0 then (if (t541.length : Int) = 1 then (if (wrap64 (t546 - t545)) = 86400 then (if 0 < (t541.length : Int) then (pylonlaw04_ZonePlain.j2 kj8 ((rd t541 0) == (wrap64 (t545 + (wrap64 (60 * (wrap64 (Int.tmod (IntKind.u64.wrap (a2)) 1440)))))))) else (none)) else (pylonlaw04_ZonePlain.j2 kj8 false)) else (pylonlaw04_ZonePlain.j2 kj8 false)) else (pylonlaw04_ZonePlain.j2 kj8 false)) else (pylonlaw04_ZonePlain.j2 kj8 false)) = some r := by rw [if_neg (show ¬ (false = true) by decide)] at H; exact H
     clear H
     have H := H1
     clear H1
     have HC39 := Aside0.mk H
     clear H
     go_upto_region 10 with (fail)
     go_cut [6] (fun v6 wc => ∃ (kq : Nat) (x6_38 : Bool), v6 = .bool x6_38 ∧ Aside0 (pylonlaw04_ZonePlain.j2 kq x6_38 = some r) ∧ Aside0 (kq ≤ kj8) ∧ Aside0 (wc.heap[gb534]? = some (.cells #[.int .i64 a0_0, .int .i64 0, .int .i64 a0_2, .int .i64 a0_3, .int .i64 a0_4, .int .i64 a0_5, .int .i64 a0_6, .int .i64 a0_7, .int .i64 a0_8, .int .i64 a0_9] 25 (0, 0))) ∧ Aside0 (wc.heap[gb540]? = some (.cells #[.int .i64 t536, .int .i64 t537, .int .i64 t538] 33 (0, 0))) ∧ Aside0 (Below w.heap.size w wc))
     case first =>
      have H := HC39.out
      clear HC39
      by_cases c40 : t544 = 0
      ·rw [if_pos c40] at H
       have c40b0 : (t544 == 0) = true := beq_iff_eq.mpr c40
       have c40b1 : (t544 != 0) = false := bne_eq_false_iff_eq.mpr c40
       clear c40
       (first | rw [c40b0] | (simp only [i64_w, i32_w]; rw [c40b0]) | skip)
       by_cases c41 : t547 = 0
       ·rw [if_pos c41] at H
        have c41b0 : (t547 == 0) = true := beq_iff_eq.mpr c41
        have c41b1 : (t547 != 0) = false := bne_eq_false_iff_eq.mpr c41
        clear c41
        by_cases c42 : (t541.length : Int) = 1
        ·rw [if_pos c42] at H
         have c42b0 : ((t541.length : Int) == 1) = true := beq_iff_eq.mpr c42
         have c42b1 : ((t541.length : Int) != 1) = false := bne_eq_false_iff_eq.mpr c42
         clear c42
         by_cases c43 : (wrap64 (t546 - t545)) = 86400
         ·rw [if_pos c43] at H
          have c43b0 : ((wrap64 (t546 - t545)) == 86400) = true := beq_iff_eq.mpr c43
          have c43b1 : ((wrap64 (t546 - t545)) != 86400) = false := bne_eq_false_iff_eq.mpr c43
          clear c43
          by_cases c44 : 0 < (t541.length : Int)
          ·rw [if_pos c44] at H
           have c44b0 : decide (0 < (t541.length : Int)) = true := decide_eq_true c44
           have c44b1 : decide (0 < t541.length) = true := decide_eq_true (by omega)
           clear c44
           have H' := Aside0.mk H
           clear H
           obtain ⟨Ao45, co45, eo45⟩ := Kd.R_slice HO_9.out
           subst eo45
           have p548 : 0 ≤ (0 : Int) := (by omega)
           have q548 : 0 < (t541.length : Int) := of_decide_eq_true (by first | (with_reducible assumption) | assumption)
           obtain ⟨ad548, e548, hx548_0⟩ := Kd.at_int (Kd.R_reads' HO_9.out).2.2 0 p548 q548
           cases e548
           have qi548 : (0 < t541.length) = True := eq_true (by omega)
           (try rw [show ((0 : Int)).toNat = 0 from rfl] at hx548_0)
           (try rw [Addr.add_zero'] at hx548_0)
           replace p548 := eq_true p548
           replace q548 := eq_true q548
           go_wp2
           go_meet
           case rel => exact ⟨_, (((rd t541 0) == (wrap64 (t545 + (wrap64 (60 * (wrap64 (Int.tmod (IntKind.u64.wrap (a2)) 1440)))))))), (by first | rfl | (simp; done) | (simp [*]; done)), H', ⟨by have := HJ8.out; first | omega | exact Nat.le_refl _⟩, ⟨by (with_reducible repeat first|refine blk_drewN ?_ _|refine blk_drew ?_|refine blk_alloc ?_ _); exact BK534.out⟩, ⟨by (with_reducible repeat first|refine blk_drewN ?_ _|refine blk_drew ?_|refine blk_alloc ?_ _); exact BK540.out⟩, ⟨by repeat (first | (with_reducible first | exact HB.out | apply below_alloc | apply pw_below_drewN | apply below_drew1 | refine below_set ?_ GE534.out | refine below_set ?_ GE540.out) | exact HB.out)⟩⟩
          ·rw [if_neg c44] at H
           exact absurd H (by simp)
         ·rw [if_neg c43] at H
          have c43b0 : ((wrap64 (t546 - t545)) == 86400) = false := beq_eq_false_iff_ne.mpr c43
          have c43b1 : ((wrap64 (t546 - t545)) != 86400) = true := bne_iff_ne.mpr c43
          have H' := Aside0.mk H
          clear H
          obtain ⟨Ao46, co46, eo46⟩ := Kd.R_slice HO_9.out
          subst eo46
          go_wp2
          go_meet
          case rel => exact ⟨_, (false), (by first | rfl | (simp; done) | (simp [*]; done)), H', ⟨by have := HJ8.out; first | omega | exact Nat.le_refl _⟩, ⟨by (with_reducible repeat first|refine blk_drewN ?_ _|refine blk_drew ?_|refine blk_alloc ?_ _); exact BK534.out⟩, ⟨by (with_reducible repeat first|refine blk_drewN ?_ _|refine blk_drew ?_|refine blk_alloc ?_ _); exact BK540.out⟩, ⟨by repeat (first | (with_reducible first | exact HB.out | apply below_alloc | apply pw_below_drewN | apply below_drew1 | refine below_set ?_ GE534.out | refine below_set ?_ GE540.out) | exact HB.out)⟩⟩
        ·rw [if_neg c42] at H
         have c42b0 : ((t541.length : Int) == 1) = false := beq_eq_false_iff_ne.mpr c42
         have c42b1 : ((t541.length : Int) != 1) = true := bne_iff_ne.mpr c42
         have H' := Aside0.mk H
         clear H
         obtain ⟨Ao47, co47, eo47⟩ := Kd.R_slice HO_9.out
         subst eo47
         go_wp2
         go_meet
         case rel => exact ⟨_, (false), (by first | rfl | (simp; done) | (simp [*]; done)), H', ⟨by have := HJ8.out; first | omega | exact Nat.le_refl _⟩, ⟨by (with_reducible repeat first|refine blk_drewN ?_ _|refine blk_drew ?_|refine blk_alloc ?_ _); exact BK534.out⟩, ⟨by (with_reducible repeat first|refine blk_drewN ?_ _|refine blk_drew ?_|refine blk_alloc ?_ _); exact BK540.out⟩, ⟨by repeat (first | (with_reducible first | exact HB.out | apply below_alloc | apply pw_below_drewN | apply below_drew1 | refine below_set ?_ GE534.out | refine below_set ?_ GE540.out) | exact HB.out)⟩⟩
       ·rw [if_neg c41] at H
        have c41b0 : (t547 == 0) = false := beq_eq_false_iff_ne.mpr c41
        have c41b1 : (t547 != 0) = true := bne_iff_ne.mpr c41
        have H' := Aside0.mk H
        clear H
        go_wp2
        go_meet
        case rel => exact ⟨_, (false), (by first | rfl | (simp; done) | (simp [*]; done)), H', ⟨by have := HJ8.out; first | omega | exact Nat.le_refl _⟩, ⟨by (with_reducible repeat first|refine blk_drewN ?_ _|refine blk_drew ?_|refine blk_alloc ?_ _); exact BK534.out⟩, ⟨by (with_reducible repeat first|refine blk_drewN ?_ _|refine blk_drew ?_|refine blk_alloc ?_ _); exact BK540.out⟩, ⟨by repeat (first | (with_reducible first | exact HB.out | apply below_alloc | apply pw_below_drewN | apply below_drew1 | refine below_set ?_ GE534.out | refine below_set ?_ GE540.out) | exact HB.out)⟩⟩
      ·rw [if_neg c40] at H
       have c40b0 : (t544 == 0) = false := beq_eq_false_iff_ne.mpr c40
       have c40b1 : (t544 != 0) = true := bne_iff_ne.mpr c40
       (first | rw [c40b0] | (simp only [i64_w, i32_w]; rw [c40b0]) | skip)
       have H' := Aside0.mk H
       clear H
       go_wp2
       go_meet
       case rel => exact ⟨_, (false), (by first | rfl | (simp; done) | (simp [*]; done)), H', ⟨by have := HJ8.out; first | omega | exact Nat.le_refl _⟩, ⟨by (with_reducible repeat first|refine blk_drewN ?_ _|refine blk_drew ?_|refine blk_alloc ?_ _); exact BK534.out⟩, ⟨by (with_reducible repeat first|refine blk_drewN ?_ _|refine blk_drew ?_|refine blk_alloc ?_ _); exact BK540.out⟩, ⟨by repeat (first | (with_reducible first | exact HB.out | apply below_alloc | apply pw_below_drewN | apply below_drew1 | refine below_set ?_ GE534.out | refine below_set ?_ GE540.out) | exact HB.out)⟩⟩
     case rest =>
      clear HC39
      try clear c1
      try clear c2
      try clear p2
      try clear c3
      try clear c4
      try clear c5
      try clear p5
      try clear q5
      try clear hx5
      try clear qi5
      try clear p6
      try clear c8
      try clear c14
      try clear c15
      try clear c20
      try clear c22
      try clear c22b0
      try clear c23
      try clear c25
      try clear c25b0
      try clear c26
      try clear c27
      try clear c28
      try clear c30
      try clear c32
      try clear c32b0
      try clear c32b1
      try clear c33
      try clear c33b0
      try clear c33b1
      try clear c34
      try clear c34b0
      try clear c34b1
      try clear c34b2
      try clear c35
      try clear c35b0
      try clear c35b1
      try clear c40
      try clear c40b0
      try clear c40b1
      try clear c41
      try clear c41b0
      try clear c41b1
      try clear c42
      try clear c42b0
      try clear c42b1
      try clear c43
      try clear c43b0
      try clear c43b1
      try clear c44
      try clear c44b0
      try clear c44b1
      try clear hcz12_0
      try clear hcz12_1
      try clear hcz12_2
      try clear hcz12_3
      try clear hcz12_4
      try clear hcz12_5
      try clear hcz12_6
      try clear hcz12_7
      try clear hcz12_8
      try clear hcz12_9
      try clear hcz16_0
      try clear hcz16_1
      try clear hcz16_2
      try clear hcz17_0
      try clear hcz17_1
      try clear hcz17_2
      try clear hcz17_3
      try clear hcz17_4
      try clear hcz17_5
      try clear hcz17_6
      try clear hcz17_7
      try clear hcz17_8
      try clear hcz17_9
      try clear hcz19_0
      try clear hcz19_1
      try clear hcz19_2
      try clear hcz19_3
      try clear hcz19_4
      try clear hcz19_5
      try clear hcz19_6
      try clear hcz19_7
      try clear hcz19_8
      try clear hcz19_9
      try clear hcz20_0
      try clear hcz20_1
      try clear hcz20_2
      try clear hcz24_0
      try clear hcz24_1
      try clear hcz24_2
      try clear hcz24_3
      try clear hcz24_4
      try clear hcz24_5
      try clear hcz24_6
      try clear hcz24_7
      try clear hcz24_8
      try clear hcz24_9
      try clear hcz27_0
      try clear hcz27_1
      try clear hcz27_2
      try clear hcz27_3
      try clear hcz27_4
      try clear hcz27_5
      try clear hcz27_6
      try clear hcz27_7
      try clear hcz27_8
      try clear hcz27_9
      try clear hcz29_0
      try clear hcz29_1
      try clear hcz29_2
      try clear hcz29_3
      try clear hcz29_4
      try clear hcz29_5
      try clear hcz29_6
      try clear hcz29_7
      try clear hcz29_8
      try clear hcz29_9
      try clear hfz12_0
      try clear hfz12_1
      try clear hfz12_2
      try clear hfz12_3
      try clear hfz12_4
      try clear hfz12_5
      try clear hfz12_6
      try clear hfz12_7
      try clear hfz12_8
      try clear hfz12_9
      try clear hfz16_0
      try clear hfz16_1
      try clear hfz16_2
      try clear hfz17_0
      try clear hfz17_1
      try clear hfz17_2
      try clear hfz17_3
      try clear hfz17_4
      try clear hfz17_5
      try clear hfz17_6
      try clear hfz17_7
      try clear hfz17_8
      try clear hfz17_9
      try clear hfz19_0
      try clear hfz19_1
      try clear hfz19_2
      try clear hfz19_3
      try clear hfz19_4
      try clear hfz19_5
      try clear hfz19_6
      try clear hfz19_7
      try clear hfz19_8
      try clear hfz19_9
      try clear hfz20_0
      try clear hfz20_1
      try clear hfz20_2
      try clear hfz24_0
      try clear hfz24_1
      try clear hfz24_2
      try clear hfz24_3
      try clear hfz24_4
      try clear hfz24_5
      try clear hfz24_6
      try clear hfz24_7
      try clear hfz24_8
      try clear hfz24_9
      try clear hfz27_0
      try clear hfz27_1
      try clear hfz27_2
      try clear hfz27_3
      try clear hfz27_4
      try clear hfz27_5
      try clear hfz27_6
      try clear hfz27_7
      try clear hfz27_8
      try clear hfz27_9
      try clear hfz29_0
      try clear hfz29_1
      try clear hfz29_2
      try clear hfz29_3
      try clear hfz29_4
      try clear hfz29_5
      try clear hfz29_6
      try clear hfz29_7
      try clear hfz29_8
      try clear hfz29_9
      try clear hx548_0
      try clear p2
      try clear p548
      try clear p6
      try clear q548
      obtain ⟨kq, x6_38, rfl, HA, HJ38, BK534, BK540, HB⟩ := hcut
      cases kq with
      | zero => exact absurd HA.out (by simp [pylonlaw04_ZonePlain.j2])
      | succ kj38 =>
       have H := HA.out
       clear HA
       simp only [pylonlaw04_ZonePlain.j2] at H
       obtain rfl := Option.some.inj H
       go_wp2
       go_ret
       exact ⟨by first | rfl | (simp [errW_none, errW_some] <;> rfl) | (simp [*, errW_none, errW_some] <;> rfl), by repeat (first | (with_reducible first | exact HB.out | apply below_alloc | apply pw_below_drewN | apply below_drew1 | refine below_set ?_ GE534.out | refine below_set ?_ GE540.out) | exact HB.out)⟩
 ·replace c5 := Bool.eq_false_iff.mpr c5
  subst c5
  have H1 : (some false) = some r := by rw [if_neg (show ¬ (false = true) by decide)] at H; exact H
  clear H
  have H := H1
  clear H1
  obtain rfl := Option.some.inj H
  go_enter Try.func8, Try.ntmps8
  go_wp2_with (first | ((with_reducible refine gate_dst (N := 3) rfl ?_); (try (refine gate_guard (by rfl) ?_; dsimp only)); refine box_event ?hg (N := 3) ?hd (cs := #[.int .i64 a0_0, .int .i64 a0_1, .int .i64 a0_2, .int .i64 a0_3, .int .i64 a0_4, .int .i64 a0_5, .int .i64 a0_6, .int .i64 a0_7, .int .i64 a0_8, .int .i64 a0_9]) (t := 25) ?hr ?_; (case hd => rfl); (case hg => rfl); (case hr => first | (go_simp; done) | (go_simp; rfl)); intro gb534 hg w48 hbox hb; have n0_ := Aside0.mk (below_step (by repeat (first | (with_reducible first | exact HB.out | apply below_alloc | apply pw_below_drewN | apply below_drew1) | exact HB.out)) hb); have n1_ := Aside0.mk (hbox); have n2_ := Aside0.mk ((by rw [hg]; exact (below_size (by repeat (first | (with_reducible first | exact HB.out | apply below_alloc | apply pw_below_drewN | apply below_drew1) | exact HB.out))) : w.heap.size ≤ gb534)); have n3_ := Aside0.mk ((by rw [hg]; exact (below_size (by repeat (first | (with_reducible first | exact HB.out | apply below_alloc | apply pw_below_drewN | apply below_drew1) | exact HB.out))) : w.heap.size ≤ gb534)); clear HB; have HB := n0_; have BK534 := n1_; have GW534 := n2_; have GE534 := n3_; clear n0_ n1_ n2_ n3_; clear hb hbox hg) | ((with_reducible refine gate_callee (f := 14) rfl ?_); refine goesL_ (some 14) rfl rfl Try.func14 (by kernel_rfl) rfl #[] rfl (by (try simp only [List.map_toArray, List.map_cons, List.map_nil]); first | done | rfl | (simp only [List.length_drop, List.length_take]; rfl)) ?_; (with_reducible refine (pylonlaw04_awake.calls k  false _ A4.out).mono ?_); rintro e w49 ⟨rfl, hb⟩; refine ⟨_, rfl, ?_⟩; have n0_ := Aside0.mk (blk_below (g := gb534) (o := .cells #[.int .i64 a0_0, .int .i64 a0_1, .int .i64 a0_2, .int .i64 a0_3, .int .i64 a0_4, .int .i64 a0_5, .int .i64 a0_6, .int .i64 a0_7, .int .i64 a0_8, .int .i64 a0_9] 25 (0, 0)) (by (with_reducible repeat first|refine blk_drewN ?_ _|refine blk_drew ?_|refine blk_alloc ?_ _); exact BK534.out) hb); have n1_ := Aside0.mk (below_step (by repeat (first | (with_reducible first | exact HB.out | apply below_alloc | apply pw_below_drewN | apply below_drew1 | refine below_set ?_ GE534.out) | exact HB.out)) hb); clear BK534; clear HB; have BK534 := n0_; have HB := n1_; clear n0_ n1_; (try clear hb); (try clear hb2); (try clear hk); (try clear hi)))
  go_ret
  exact ⟨by first | rfl | (simp [errW_none, errW_some] <;> rfl) | (simp [*, errW_none, errW_some] <;> rfl), by repeat (first | (with_reducible first | exact HB.out | apply below_alloc | apply pw_below_drewN | apply below_drew1 | refine below_set ?_ GE534.out) | exact HB.out)⟩

end Go.Proofs.Ytddkckpfmleffaa.PX
