/- Functions of the program as plain Lean functions, each with a proof that the call in the machine answers just what the plain function says; condition: the plain function answers at all. -/
import Derived.Test.YtipldjcncfoffaaPXx0
import Derived.Test.YtipldjcncfoffaaPXx1
import Derived.Test.YtipldjcncfoffaaPXx3
namespace Go.Proofs.Ytipldjcncfoffaa.PX
open Go.RowKit Go.Proofs.YtipldjcncfoffaaW.PrintWords Go.Proofs.YtipldjcncfoffaaW.PrintLast Go.Proofs.YtipldjcncfoffaaW.PrintMore
attribute [local go_sem] max2_int min2_int max_two min_two max_three min_three max_four min_four   -- for this text's walks alone
set_option linter.unusedVariables false
set_option linter.unusedSimpArgs false

attribute [local go_sem high] eqA24
/-! ### pylonlaw05_HolidayEaster: function 3 -/
def pylonlaw05_HolidayEaster.j0 : Nat → Int → Int → Bool → Int → Int → Int → Option (Bool)
  | 0, _, _, _, _, _, _ => none
  | k + 1, x0, x4, x20, x127000, x127001, x127002 => if x20 = true then (if x4 = 5 then (some (x127000 == 0 && (x127001 == 0 && (x127002 == 0)))) else (some false)) else (if x0 < 1583 then (if x4 = 0 then (some (x127000 == x0)) else (some false)) else ((pylonref03_Weekday.f k x127000 x127001 x127002).bind fun bt127 => (if x4 = 0 then (if bt127.2 = 0 then (if bt127.1 = 6 then (if x127000 = x0 then (if (wrap64 ((wrap64 (100 * x127001)) + x127002)) ≥ 322 then (some (decide ((wrap64 ((wrap64 (100 * x127001)) + x127002)) ≤ 425))) else (some false)) else (some false)) else (some false)) else (some false)) else (some false))))
def pylonlaw05_HolidayEaster.f (k : Nat) (a0 : Int) : Option (Bool) := (pylonlaw05_awake.f).bind fun t121 => (if t121 = true then ((holiday_Easter.f a0).bind fun bt122 => (if a0 < 1 then (pylonlaw05_HolidayEaster.j0 k a0 bt122.2.2.2 true bt122.1 bt122.2.1 bt122.2.2.1) else (pylonlaw05_HolidayEaster.j0 k a0 bt122.2.2.2 (decide (a0 > 9999)) bt122.1 bt122.2.1 bt122.2.2.1))) else (some false))
theorem pylonlaw05_HolidayEaster.mono_l : ∀ k, (∀ y0 y1 y2 y3 y4 y5, LeO (pylonlaw05_HolidayEaster.j0 k y0 y1 y2 y3 y4 y5) (pylonlaw05_HolidayEaster.j0 (k + 1) y0 y1 y2 y3 y4 y5))
  | 0 => fun _ _ _ _ _ _ r h => by simp [pylonlaw05_HolidayEaster.j0] at h
  | k + 1 => by
    have ih0 := pylonlaw05_HolidayEaster.mono_l k
    · intro y0 y1 y2 y3 y4 y5
      unfold pylonlaw05_HolidayEaster.j0
      repeat' first
      | (with_reducible exact ih0 _ _ _ _ _ _)
      | (with_reducible exact pylonref03_Weekday.mono _ _ _ _)
      | (with_reducible exact LeO.refl _)
      | (with_reducible exact LeO.none _)
      | (with_reducible refine LeO.ite ?_ ?_)
      | (with_reducible refine LeO.bind ?_ (fun _ => ?_))
      | exact ih0 _ _ _ _ _ _
      | exact pylonref03_Weekday.mono _ _ _ _
      | exact LeO.none _
      | refine LeO.ite ?_ ?_
      | refine LeO.bind ?_ (fun _ => ?_)
theorem pylonlaw05_HolidayEaster.mono : ∀ a0 k, LeO (pylonlaw05_HolidayEaster.f k a0) (pylonlaw05_HolidayEaster.f (k + 1) a0) := by
  intro a0 k
  have ih0 := pylonlaw05_HolidayEaster.mono_l k
  unfold pylonlaw05_HolidayEaster.f
  repeat' first
      | (with_reducible exact ih0 _ _ _ _ _ _)
      | (with_reducible exact pylonref03_Weekday.mono _ _ _ _)
      | (with_reducible exact LeO.refl _)
      | (with_reducible exact LeO.none _)
      | (with_reducible refine LeO.ite ?_ ?_)
      | (with_reducible refine LeO.bind ?_ (fun _ => ?_))
      | exact ih0 _ _ _ _ _ _
      | exact pylonref03_Weekday.mono _ _ _ _
      | exact LeO.none _
      | refine LeO.ite ?_ ?_
      | refine LeO.bind ?_ (fun _ => ?_)
set_option maxHeartbeats 8000000 in
set_option maxRecDepth 100000 in
theorem pylonlaw05_HolidayEaster.calls (k : Nat) (a0 : Int) (r : Bool) (w : World) (h : pylonlaw05_HolidayEaster.f k a0 = some r) :
    Calls Try.prog 3 #[.int .i64 a0] w fun e w' => e = .returned (.bool r) ∧ Below w.heap.size w w' := by
  have hu24 := Try.underlying24
  have HB := Aside0.mk (Below.refl w.heap.size w)
  have H : ((pylonlaw05_awake.f).bind fun t121 => (if t121 = true then ((holiday_Easter.f a0).bind fun bt122 => (if a0 < 1 then (pylonlaw05_HolidayEaster.j0 k a0 bt122.2.2.2 true bt122.1 bt122.2.1 bt122.2.2.1) else (pylonlaw05_HolidayEaster.j0 k a0 bt122.2.2.2 (decide (a0 > 9999)) bt122.1 bt122.2.1 bt122.2.2.1))) else (some false))) = some r := h
  clear h
  replace H := Option.bind_eq_some_iff.mp H
  obtain ⟨t121, A20, H⟩ := H
  replace H : (if t121 = true then ((holiday_Easter.f a0).bind fun bt122 => (if a0 < 1 then (pylonlaw05_HolidayEaster.j0 k a0 bt122.2.2.2 true bt122.1 bt122.2.1 bt122.2.2.1) else (pylonlaw05_HolidayEaster.j0 k a0 bt122.2.2.2 (decide (a0 > 9999)) bt122.1 bt122.2.1 bt122.2.2.1))) else (some false)) = some r := H
  have A2 := Aside0.mk A20
  clear A20
  by_cases c3 : t121 = true
  · subst c3
    have H1 : ((holiday_Easter.f a0).bind fun bt122 => (if a0 < 1 then (pylonlaw05_HolidayEaster.j0 k a0 bt122.2.2.2 true bt122.1 bt122.2.1 bt122.2.2.1) else (pylonlaw05_HolidayEaster.j0 k a0 bt122.2.2.2 (decide (a0 > 9999)) bt122.1 bt122.2.1 bt122.2.2.1))) = some r := by rw [if_pos rfl] at H; exact H
    clear H
    have H := H1
    clear H1
    replace H := Option.bind_eq_some_iff.mp H
    obtain ⟨⟨t122, t123, t124, t125⟩, A40, H⟩ := H
    replace H : (if a0 < 1 then (pylonlaw05_HolidayEaster.j0 k a0 t125 true t122 t123 t124) else (pylonlaw05_HolidayEaster.j0 k a0 t125 (decide (a0 > 9999)) t122 t123 t124)) = some r := H
    have A4 := Aside0.mk A40
    clear A40
    have HC5 := Aside0.mk H
    clear H
    go_enter Try.func3, Try.ntmps3
    go_upto_region 4 with (first | ((with_reducible refine gate_callee (f := 13) rfl ?_); refine goesL_ (some 8) rfl rfl Try.func13 (by kernel_rfl) rfl #[] rfl (by (try simp only [List.map_toArray, List.map_cons, List.map_nil]); first | done | rfl | (simp only [List.length_drop, List.length_take]; rfl)) ?_; (with_reducible refine (pylonlaw05_awake.calls  true _ A2.out).mono ?_); rintro e w6 ⟨rfl, hb⟩; refine ⟨_, rfl, ?_⟩; have n0_ := Aside0.mk (below_step (by repeat (first | (with_reducible first | exact HB.out | apply below_alloc | apply pw_below_drewN | apply below_drew1) | exact HB.out)) hb); clear HB; have HB := n0_; clear n0_; (try clear hb); (try clear hb2); (try clear hk); (try clear hi)) | ((with_reducible refine gate_callee (f := 14) rfl ?_); refine goesL_ (some 12) rfl rfl Try.func14 (by kernel_rfl) rfl #[.int .i64 a0] rfl (by (try simp only [List.map_toArray, List.map_cons, List.map_nil]); first | done | rfl | (simp only [List.length_drop, List.length_take]; rfl)) ?_; (with_reducible refine (holiday_Easter.calls a0 t122 t123 t124 t125 _ A4.out).mono ?_); rintro e w7 ⟨rfl, hb⟩; refine ⟨_, rfl, ?_⟩; have n0_ := Aside0.mk (below_step (by repeat (first | (with_reducible first | exact HB.out | apply below_alloc | apply pw_below_drewN | apply below_drew1) | exact HB.out)) hb); clear HB; have HB := n0_; clear n0_; (try clear hb); (try clear hb2); (try clear hk); (try clear hi)) | ((with_reducible refine gate_dst (N := 3) rfl ?_); refine box_event ?hg (N := 3) ?hd (cs := #[.int .i64 0, .int .i64 0, .int .i64 0]) (t := 24) ?hr ?_; (case hd => rfl); (case hg => rfl); (case hr => first | (go_simp; done) | (go_simp; rfl)); intro gb126 hg w8 hbox hb; have n0_ := Aside0.mk (below_step (by repeat (first | (with_reducible first | exact HB.out | apply below_alloc | apply pw_below_drewN | apply below_drew1) | exact HB.out)) hb); have n1_ := Aside0.mk (hbox); have n2_ := Aside0.mk ((by rw [hg]; exact (below_size (by repeat (first | (with_reducible first | exact HB.out | apply below_alloc | apply pw_below_drewN | apply below_drew1) | exact HB.out))) : w.heap.size ≤ gb126)); have n3_ := Aside0.mk ((by rw [hg]; exact (below_size (by repeat (first | (with_reducible first | exact HB.out | apply below_alloc | apply pw_below_drewN | apply below_drew1) | exact HB.out))) : w.heap.size ≤ gb126)); clear HB; have HB := n0_; have BK126 := n1_; have GW126 := n2_; have GE126 := n3_; clear n0_ n1_ n2_ n3_; clear hb hbox hg; have hcz9_0 : w8.cell? ⟨gb126, 0, none⟩ = some (.int .i64 0) := (blk_cell BK126.out 0).trans rfl; have hcz9_1 : w8.cell? ⟨gb126, 1, none⟩ = some (.int .i64 0) := (blk_cell BK126.out 1).trans rfl; have hcz9_2 : w8.cell? ⟨gb126, 2, none⟩ = some (.int .i64 0) := (blk_cell BK126.out 2).trans rfl; have hfz9_0 := blk_frozen BK126.out 0; have hfz9_1 := blk_frozen BK126.out 1; have hfz9_2 := blk_frozen BK126.out 2))
    (try simp only [Act.put, List.setIfInBounds_toArray, List.set_cons_zero, List.set_cons_succ])
    go_cut [20] (fun v20 wc => ∃ (kq : Nat) (x20_4 : Bool), v20 = .bool x20_4 ∧ Aside0 (pylonlaw05_HolidayEaster.j0 kq a0 t125 x20_4 t122 t123 t124 = some r) ∧ Aside0 (kq ≤ k) ∧ Aside0 (wc.heap[gb126]? = some (.cells #[.int .i64 t122, .int .i64 t123, .int .i64 t124] 24 (0, 0))) ∧ Aside0 (Below w.heap.size w wc))
    case first =>
      have H := HC5.out
      clear HC5
      by_cases c10 : a0 < 1
      · rw [if_pos c10] at H
        have c10b0 : decide (a0 < 1) = true := decide_eq_true c10
        clear c10
        (first | rw [c10b0] | (simp only [i64_w, i32_w]; rw [c10b0]) | skip)
        have H' := Aside0.mk H
        clear H
        go_wp2
        go_meet
        case rel => exact ⟨_, (true), (by first | rfl | (simp; done) | (simp [*]; done)), H', ⟨by first | omega | exact Nat.le_refl _⟩, ⟨by (with_reducible repeat (first | refine blk_drewN ?_ _ | refine blk_drew ?_ | refine blk_alloc ?_ _)); refine blk_put (cs := #[.int .i64 t122, .int .i64 t123, .int .i64 0]) ?_ 2 _ rfl; (with_reducible repeat (first | refine blk_drewN ?_ _ | refine blk_drew ?_ | refine blk_alloc ?_ _)); refine blk_put (cs := #[.int .i64 t122, .int .i64 0, .int .i64 0]) ?_ 1 _ rfl; (with_reducible repeat (first | refine blk_drewN ?_ _ | refine blk_drew ?_ | refine blk_alloc ?_ _)); refine blk_put (cs := #[.int .i64 0, .int .i64 0, .int .i64 0]) ?_ 0 _ rfl; (with_reducible repeat (first | refine blk_drewN ?_ _ | refine blk_drew ?_ | refine blk_alloc ?_ _)); exact BK126.out⟩, ⟨by repeat (first | (with_reducible first | exact HB.out | apply below_alloc | apply pw_below_drewN | apply below_drew1 | refine below_set ?_ GE126.out) | exact HB.out)⟩⟩
      · rw [if_neg c10] at H
        have c10b0 : decide (a0 < 1) = false := decide_eq_false c10
        clear c10
        (first | rw [c10b0] | (simp only [i64_w, i32_w]; rw [c10b0]) | skip)
        have H' := Aside0.mk H
        clear H
        go_wp2
        go_meet
        case rel => exact ⟨_, (decide (a0 > 9999)), (by first | rfl | (simp; done) | (simp [*]; done)), H', ⟨by first | omega | exact Nat.le_refl _⟩, ⟨by (with_reducible repeat (first | refine blk_drewN ?_ _ | refine blk_drew ?_ | refine blk_alloc ?_ _)); refine blk_put (cs := #[.int .i64 t122, .int .i64 t123, .int .i64 0]) ?_ 2 _ rfl; (with_reducible repeat (first | refine blk_drewN ?_ _ | refine blk_drew ?_ | refine blk_alloc ?_ _)); refine blk_put (cs := #[.int .i64 t122, .int .i64 0, .int .i64 0]) ?_ 1 _ rfl; (with_reducible repeat (first | refine blk_drewN ?_ _ | refine blk_drew ?_ | refine blk_alloc ?_ _)); refine blk_put (cs := #[.int .i64 0, .int .i64 0, .int .i64 0]) ?_ 0 _ rfl; (with_reducible repeat (first | refine blk_drewN ?_ _ | refine blk_drew ?_ | refine blk_alloc ?_ _)); exact BK126.out⟩, ⟨by repeat (first | (with_reducible first | exact HB.out | apply below_alloc | apply pw_below_drewN | apply below_drew1 | refine below_set ?_ GE126.out) | exact HB.out)⟩⟩
    case rest =>
      clear HC5
      try clear c1
      try clear p2
      try clear c3
      try clear c10
      try clear c10b0
      try clear hcz9_0
      try clear hcz9_1
      try clear hcz9_2
      try clear hfz9_0
      try clear hfz9_1
      try clear hfz9_2
      obtain ⟨kq, x20_4, rfl, HA, HJ4, BK126, HB⟩ := hcut
      cases kq with
      | zero => exact absurd HA.out (by simp [pylonlaw05_HolidayEaster.j0])
      | succ kj4 =>
        have H := HA.out
        clear HA
        simp only [pylonlaw05_HolidayEaster.j0] at H
        by_cases c11 : x20_4 = true
        · subst c11
          have H1 : (if t125 = 5 then (some (t122 == 0 && (t123 == 0 && (t124 == 0)))) else (some false)) = some r := by rw [if_pos rfl] at H; exact H
          clear H
          have H := H1
          clear H1
          by_cases c12 : t125 = 5
          · rw [if_pos c12] at H
            have c12b0 : (t125 == 5) = true := beq_iff_eq.mpr c12
            have c12b1 : (t125 != 5) = false := bne_eq_false_iff_eq.mpr c12
            clear c12
            obtain rfl := Option.some.inj H
            have hcz13_0 : wc.cell? ⟨gb126, 0, none⟩ = some (.int .i64 t122) := (blk_cell BK126.out 0).trans rfl
            have hcz13_1 : wc.cell? ⟨gb126, 1, none⟩ = some (.int .i64 t123) := (blk_cell BK126.out 1).trans rfl
            have hcz13_2 : wc.cell? ⟨gb126, 2, none⟩ = some (.int .i64 t124) := (blk_cell BK126.out 2).trans rfl
            have hfz13_0 := blk_frozen BK126.out 0
            have hfz13_1 := blk_frozen BK126.out 1
            have hfz13_2 := blk_frozen BK126.out 2
            go_wp2
            go_ret
            exact ⟨by first | rfl | (simp [errW_none, errW_some] <;> rfl) | (simp [*, errW_none, errW_some] <;> rfl), by repeat (first | (with_reducible first | exact HB.out | apply below_alloc | apply pw_below_drewN | apply below_drew1 | refine below_set ?_ GE126.out) | exact HB.out)⟩
          · rw [if_neg c12] at H
            have c12b0 : (t125 == 5) = false := beq_eq_false_iff_ne.mpr c12
            have c12b1 : (t125 != 5) = true := bne_iff_ne.mpr c12
            obtain rfl := Option.some.inj H
            go_wp2
            go_ret
            exact ⟨by first | rfl | (simp [errW_none, errW_some] <;> rfl) | (simp [*, errW_none, errW_some] <;> rfl), by repeat (first | (with_reducible first | exact HB.out | apply below_alloc | apply pw_below_drewN | apply below_drew1 | refine below_set ?_ GE126.out) | exact HB.out)⟩
        · replace c11 := Bool.eq_false_iff.mpr c11
          subst c11
          have H1 : (if a0 < 1583 then (if t125 = 0 then (some (t122 == a0)) else (some false)) else ((pylonref03_Weekday.f kj4 t122 t123 t124).bind fun bt127 => (if t125 = 0 then (if bt127.2 = 0 then (if bt127.1 = 6 then (if t122 = a0 then (if (wrap64 ((wrap64 (100 * t123)) + t124)) ≥ 322 then (some (decide ((wrap64 ((wrap64 (100 * t123)) + t124)) ≤ 425))) else (some false)) else (some false)) else (some false)) else (some false)) else (some false)))) = some r := by rw [if_neg (show ¬ (false = true) by decide)] at H; exact H
          clear H
          have H := H1
          clear H1
          by_cases c14 : a0 < 1583
          · rw [if_pos c14] at H
            have c14b0 : decide (a0 < 1583) = true := decide_eq_true c14
            clear c14
            by_cases c15 : t125 = 0
            · rw [if_pos c15] at H
              have c15b0 : (t125 == 0) = true := beq_iff_eq.mpr c15
              have c15b1 : (t125 != 0) = false := bne_eq_false_iff_eq.mpr c15
              clear c15
              obtain rfl := Option.some.inj H
              have hcz16_0 : wc.cell? ⟨gb126, 0, none⟩ = some (.int .i64 t122) := (blk_cell BK126.out 0).trans rfl
              have hcz16_1 : wc.cell? ⟨gb126, 1, none⟩ = some (.int .i64 t123) := (blk_cell BK126.out 1).trans rfl
              have hcz16_2 : wc.cell? ⟨gb126, 2, none⟩ = some (.int .i64 t124) := (blk_cell BK126.out 2).trans rfl
              have hfz16_0 := blk_frozen BK126.out 0
              have hfz16_1 := blk_frozen BK126.out 1
              have hfz16_2 := blk_frozen BK126.out 2
              go_wp2
              go_ret
              exact ⟨by first | rfl | (simp [errW_none, errW_some] <;> rfl) | (simp [*, errW_none, errW_some] <;> rfl), by repeat (first | (with_reducible first | exact HB.out | apply below_alloc | apply pw_below_drewN | apply below_drew1 | refine below_set ?_ GE126.out) | exact HB.out)⟩
            · rw [if_neg c15] at H
              have c15b0 : (t125 == 0) = false := beq_eq_false_iff_ne.mpr c15
              have c15b1 : (t125 != 0) = true := bne_iff_ne.mpr c15
              obtain rfl := Option.some.inj H
              go_wp2
              go_ret
              exact ⟨by first | rfl | (simp [errW_none, errW_some] <;> rfl) | (simp [*, errW_none, errW_some] <;> rfl), by repeat (first | (with_reducible first | exact HB.out | apply below_alloc | apply pw_below_drewN | apply below_drew1 | refine below_set ?_ GE126.out) | exact HB.out)⟩
          · rw [if_neg c14] at H
            have c14b0 : decide (a0 < 1583) = false := decide_eq_false c14
            clear c14
            replace H := Option.bind_eq_some_iff.mp H
            obtain ⟨⟨t127, t128⟩, A170, H⟩ := H
            replace H : (if t125 = 0 then (if t128 = 0 then (if t127 = 6 then (if t122 = a0 then (if (wrap64 ((wrap64 (100 * t123)) + t124)) ≥ 322 then (some (decide ((wrap64 ((wrap64 (100 * t123)) + t124)) ≤ 425))) else (some false)) else (some false)) else (some false)) else (some false)) else (some false)) = some r := H
            have A17 := Aside0.mk A170
            clear A170
            by_cases c18 : t125 = 0
            · rw [if_pos c18] at H
              have c18b0 : (t125 == 0) = true := beq_iff_eq.mpr c18
              have c18b1 : (t125 != 0) = false := bne_eq_false_iff_eq.mpr c18
              clear c18
              by_cases c19 : t128 = 0
              · rw [if_pos c19] at H
                have c19b0 : (t128 == 0) = true := beq_iff_eq.mpr c19
                have c19b1 : (t128 != 0) = false := bne_eq_false_iff_eq.mpr c19
                clear c19
                by_cases c20 : t127 = 6
                · rw [if_pos c20] at H
                  have c20b0 : (t127 == 6) = true := beq_iff_eq.mpr c20
                  have c20b1 : (t127 != 6) = false := bne_eq_false_iff_eq.mpr c20
                  clear c20
                  by_cases c21 : t122 = a0
                  · rw [if_pos c21] at H
                    have c21b0 : (t122 == a0) = true := beq_iff_eq.mpr c21
                    have c21b1 : (t122 != a0) = false := bne_eq_false_iff_eq.mpr c21
                    clear c21
                    by_cases c22 : (wrap64 ((wrap64 (100 * t123)) + t124)) ≥ 322
                    · rw [if_pos c22] at H
                      have c22b0 : decide (322 ≤ (wrap64 ((wrap64 (100 * t123)) + t124))) = true := decide_eq_true c22
                      clear c22
                      obtain rfl := Option.some.inj H
                      have hcz23_0 : wc.cell? ⟨gb126, 0, none⟩ = some (.int .i64 t122) := (blk_cell BK126.out 0).trans rfl
                      have hcz23_1 : wc.cell? ⟨gb126, 1, none⟩ = some (.int .i64 t123) := (blk_cell BK126.out 1).trans rfl
                      have hcz23_2 : wc.cell? ⟨gb126, 2, none⟩ = some (.int .i64 t124) := (blk_cell BK126.out 2).trans rfl
                      have hfz23_0 := blk_frozen BK126.out 0
                      have hfz23_1 := blk_frozen BK126.out 1
                      have hfz23_2 := blk_frozen BK126.out 2
                      go_wp2_with (first | ((with_reducible refine gate_callee (f := 15) rfl ?_); refine goesL_ (some 40) rfl rfl Try.func15 (by kernel_rfl) rfl #[.agg #[.int .i64 t122, .int .i64 t123, .int .i64 t124]] rfl (by (try simp only [List.map_toArray, List.map_cons, List.map_nil]); first | done | rfl | (simp only [List.length_drop, List.length_take]; rfl)) ?_; (with_reducible refine (pylonref03_Weekday.calls kj4 t122 t123 t124 t127 t128 _ A17.out).mono ?_); rintro e w24 ⟨rfl, hb⟩; refine ⟨_, rfl, ?_⟩; have n0_ := Aside0.mk (blk_below (g := gb126) (o := .cells #[.int .i64 t122, .int .i64 t123, .int .i64 t124] 24 (0, 0)) (by (with_reducible repeat (first | refine blk_drewN ?_ _ | refine blk_drew ?_ | refine blk_alloc ?_ _)); exact BK126.out) hb); have n1_ := Aside0.mk (below_step (by repeat (first | (with_reducible first | exact HB.out | apply below_alloc | apply pw_below_drewN | apply below_drew1 | refine below_set ?_ GE126.out) | exact HB.out)) hb); clear BK126; clear HB; have BK126 := n0_; have HB := n1_; clear n0_ n1_; (try clear hb); (try clear hb2); (try clear hk); (try clear hi); have hcz25_0 : w24.cell? ⟨gb126, 0, none⟩ = some (.int .i64 t122) := (blk_cell BK126.out 0).trans rfl; have hcz25_1 : w24.cell? ⟨gb126, 1, none⟩ = some (.int .i64 t123) := (blk_cell BK126.out 1).trans rfl; have hcz25_2 : w24.cell? ⟨gb126, 2, none⟩ = some (.int .i64 t124) := (blk_cell BK126.out 2).trans rfl; have hfz25_0 := blk_frozen BK126.out 0; have hfz25_1 := blk_frozen BK126.out 1; have hfz25_2 := blk_frozen BK126.out 2))
                      go_ret
                      exact ⟨by first | rfl | (simp [errW_none, errW_some] <;> rfl) | (simp [*, errW_none, errW_some] <;> rfl), by repeat (first | (with_reducible first | exact HB.out | apply below_alloc | apply pw_below_drewN | apply below_drew1 | refine below_set ?_ GE126.out) | exact HB.out)⟩
                    · rw [if_neg c22] at H
                      have c22b0 : decide (322 ≤ (wrap64 ((wrap64 (100 * t123)) + t124))) = false := decide_eq_false c22
                      clear c22
                      obtain rfl := Option.some.inj H
                      have hcz26_0 : wc.cell? ⟨gb126, 0, none⟩ = some (.int .i64 t122) := (blk_cell BK126.out 0).trans rfl
                      have hcz26_1 : wc.cell? ⟨gb126, 1, none⟩ = some (.int .i64 t123) := (blk_cell BK126.out 1).trans rfl
                      have hcz26_2 : wc.cell? ⟨gb126, 2, none⟩ = some (.int .i64 t124) := (blk_cell BK126.out 2).trans rfl
                      have hfz26_0 := blk_frozen BK126.out 0
                      have hfz26_1 := blk_frozen BK126.out 1
                      have hfz26_2 := blk_frozen BK126.out 2
                      go_wp2_with (first | ((with_reducible refine gate_callee (f := 15) rfl ?_); refine goesL_ (some 40) rfl rfl Try.func15 (by kernel_rfl) rfl #[.agg #[.int .i64 t122, .int .i64 t123, .int .i64 t124]] rfl (by (try simp only [List.map_toArray, List.map_cons, List.map_nil]); first | done | rfl | (simp only [List.length_drop, List.length_take]; rfl)) ?_; (with_reducible refine (pylonref03_Weekday.calls kj4 t122 t123 t124 t127 t128 _ A17.out).mono ?_); rintro e w27 ⟨rfl, hb⟩; refine ⟨_, rfl, ?_⟩; have n0_ := Aside0.mk (blk_below (g := gb126) (o := .cells #[.int .i64 t122, .int .i64 t123, .int .i64 t124] 24 (0, 0)) (by (with_reducible repeat (first | refine blk_drewN ?_ _ | refine blk_drew ?_ | refine blk_alloc ?_ _)); exact BK126.out) hb); have n1_ := Aside0.mk (below_step (by repeat (first | (with_reducible first | exact HB.out | apply below_alloc | apply pw_below_drewN | apply below_drew1 | refine below_set ?_ GE126.out) | exact HB.out)) hb); clear BK126; clear HB; have BK126 := n0_; have HB := n1_; clear n0_ n1_; (try clear hb); (try clear hb2); (try clear hk); (try clear hi); have hcz28_0 : w27.cell? ⟨gb126, 0, none⟩ = some (.int .i64 t122) := (blk_cell BK126.out 0).trans rfl; have hcz28_1 : w27.cell? ⟨gb126, 1, none⟩ = some (.int .i64 t123) := (blk_cell BK126.out 1).trans rfl; have hcz28_2 : w27.cell? ⟨gb126, 2, none⟩ = some (.int .i64 t124) := (blk_cell BK126.out 2).trans rfl; have hfz28_0 := blk_frozen BK126.out 0; have hfz28_1 := blk_frozen BK126.out 1; have hfz28_2 := blk_frozen BK126.out 2))
                      go_ret
                      exact ⟨by first | rfl | (simp [errW_none, errW_some] <;> rfl) | (simp [*, errW_none, errW_some] <;> rfl), by repeat (first | (with_reducible first | exact HB.out | apply below_alloc | apply pw_below_drewN | apply below_drew1 | refine below_set ?_ GE126.out) | exact HB.out)⟩
                  · rw [if_neg c21] at H
                    have c21b0 : (t122 == a0) = false := beq_eq_false_iff_ne.mpr c21
                    have c21b1 : (t122 != a0) = true := bne_iff_ne.mpr c21
                    obtain rfl := Option.some.inj H
                    have hcz29_0 : wc.cell? ⟨gb126, 0, none⟩ = some (.int .i64 t122) := (blk_cell BK126.out 0).trans rfl
                    have hcz29_1 : wc.cell? ⟨gb126, 1, none⟩ = some (.int .i64 t123) := (blk_cell BK126.out 1).trans rfl
                    have hcz29_2 : wc.cell? ⟨gb126, 2, none⟩ = some (.int .i64 t124) := (blk_cell BK126.out 2).trans rfl
                    have hfz29_0 := blk_frozen BK126.out 0
                    have hfz29_1 := blk_frozen BK126.out 1
                    have hfz29_2 := blk_frozen BK126.out 2
                    go_wp2_with (first | ((with_reducible refine gate_callee (f := 15) rfl ?_); refine goesL_ (some 40) rfl rfl Try.func15 (by kernel_rfl) rfl #[.agg #[.int .i64 t122, .int .i64 t123, .int .i64 t124]] rfl (by (try simp only [List.map_toArray, List.map_cons, List.map_nil]); first | done | rfl | (simp only [List.length_drop, List.length_take]; rfl)) ?_; (with_reducible refine (pylonref03_Weekday.calls kj4 t122 t123 t124 t127 t128 _ A17.out).mono ?_); rintro e w30 ⟨rfl, hb⟩; refine ⟨_, rfl, ?_⟩; have n0_ := Aside0.mk (blk_below (g := gb126) (o := .cells #[.int .i64 t122, .int .i64 t123, .int .i64 t124] 24 (0, 0)) (by (with_reducible repeat (first | refine blk_drewN ?_ _ | refine blk_drew ?_ | refine blk_alloc ?_ _)); exact BK126.out) hb); have n1_ := Aside0.mk (below_step (by repeat (first | (with_reducible first | exact HB.out | apply below_alloc | apply pw_below_drewN | apply below_drew1 | refine below_set ?_ GE126.out) | exact HB.out)) hb); clear BK126; clear HB; have BK126 := n0_; have HB := n1_; clear n0_ n1_; (try clear hb); (try clear hb2); (try clear hk); (try clear hi); have hcz31_0 : w30.cell? ⟨gb126, 0, none⟩ = some (.int .i64 t122) := (blk_cell BK126.out 0).trans rfl; have hcz31_1 : w30.cell? ⟨gb126, 1, none⟩ = some (.int .i64 t123) := (blk_cell BK126.out 1).trans rfl; have hcz31_2 : w30.cell? ⟨gb126, 2, none⟩ = some (.int .i64 t124) := (blk_cell BK126.out 2).trans rfl; have hfz31_0 := blk_frozen BK126.out 0; have hfz31_1 := blk_frozen BK126.out 1; have hfz31_2 := blk_frozen BK126.out 2))
                    go_ret
                    exact ⟨by first | rfl | (simp [errW_none, errW_some] <;> rfl) | (simp [*, errW_none, errW_some] <;> rfl), by repeat (first | (with_reducible first | exact HB.out | apply below_alloc | apply pw_below_drewN | apply below_drew1 | refine below_set ?_ GE126.out) | exact HB.out)⟩
                · rw [if_neg c20] at H
                  have c20b0 : (t127 == 6) = false := beq_eq_false_iff_ne.mpr c20
                  have c20b1 : (t127 != 6) = true := bne_iff_ne.mpr c20
                  obtain rfl := Option.some.inj H
                  have hcz32_0 : wc.cell? ⟨gb126, 0, none⟩ = some (.int .i64 t122) := (blk_cell BK126.out 0).trans rfl
                  have hcz32_1 : wc.cell? ⟨gb126, 1, none⟩ = some (.int .i64 t123) := (blk_cell BK126.out 1).trans rfl
                  have hcz32_2 : wc.cell? ⟨gb126, 2, none⟩ = some (.int .i64 t124) := (blk_cell BK126.out 2).trans rfl
                  have hfz32_0 := blk_frozen BK126.out 0
                  have hfz32_1 := blk_frozen BK126.out 1
                  have hfz32_2 := blk_frozen BK126.out 2
                  go_wp2_with (first | ((with_reducible refine gate_callee (f := 15) rfl ?_); refine goesL_ (some 40) rfl rfl Try.func15 (by kernel_rfl) rfl #[.agg #[.int .i64 t122, .int .i64 t123, .int .i64 t124]] rfl (by (try simp only [List.map_toArray, List.map_cons, List.map_nil]); first | done | rfl | (simp only [List.length_drop, List.length_take]; rfl)) ?_; (with_reducible refine (pylonref03_Weekday.calls kj4 t122 t123 t124 t127 t128 _ A17.out).mono ?_); rintro e w33 ⟨rfl, hb⟩; refine ⟨_, rfl, ?_⟩; have n0_ := Aside0.mk (blk_below (g := gb126) (o := .cells #[.int .i64 t122, .int .i64 t123, .int .i64 t124] 24 (0, 0)) (by (with_reducible repeat (first | refine blk_drewN ?_ _ | refine blk_drew ?_ | refine blk_alloc ?_ _)); exact BK126.out) hb); have n1_ := Aside0.mk (below_step (by repeat (first | (with_reducible first | exact HB.out | apply below_alloc | apply pw_below_drewN | apply below_drew1 | refine below_set ?_ GE126.out) | exact HB.out)) hb); clear BK126; clear HB; have BK126 := n0_; have HB := n1_; clear n0_ n1_; (try clear hb); (try clear hb2); (try clear hk); (try clear hi); have hcz34_0 : w33.cell? ⟨gb126, 0, none⟩ = some (.int .i64 t122) := (blk_cell BK126.out 0).trans rfl; have hcz34_1 : w33.cell? ⟨gb126, 1, none⟩ = some (.int .i64 t123) := (blk_cell BK126.out 1).trans rfl; have hcz34_2 : w33.cell? ⟨gb126, 2, none⟩ = some (.int .i64 t124) := (blk_cell BK126.out 2).trans rfl; have hfz34_0 := blk_frozen BK126.out 0; have hfz34_1 := blk_frozen BK126.out 1; have hfz34_2 := blk_frozen BK126.out 2))
                  go_ret
                  exact ⟨by first | rfl | (simp [errW_none, errW_some] <;> rfl) | (simp [*, errW_none, errW_some] <;> rfl), by repeat (first | (with_reducible first | exact HB.out | apply below_alloc | apply pw_below_drewN | apply below_drew1 | refine below_set ?_ GE126.out) | exact HB.out)⟩
              · rw [if_neg c19] at H
                have c19b0 : (t128 == 0) = false := beq_eq_false_iff_ne.mpr c19
                have c19b1 : (t128 != 0) = true := bne_iff_ne.mpr c19
                obtain rfl := Option.some.inj H
                have hcz35_0 : wc.cell? ⟨gb126, 0, none⟩ = some (.int .i64 t122) := (blk_cell BK126.out 0).trans rfl
                have hcz35_1 : wc.cell? ⟨gb126, 1, none⟩ = some (.int .i64 t123) := (blk_cell BK126.out 1).trans rfl
                have hcz35_2 : wc.cell? ⟨gb126, 2, none⟩ = some (.int .i64 t124) := (blk_cell BK126.out 2).trans rfl
                have hfz35_0 := blk_frozen BK126.out 0
                have hfz35_1 := blk_frozen BK126.out 1
                have hfz35_2 := blk_frozen BK126.out 2
                go_wp2_with (first | ((with_reducible refine gate_callee (f := 15) rfl ?_); refine goesL_ (some 40) rfl rfl Try.func15 (by kernel_rfl) rfl #[.agg #[.int .i64 t122, .int .i64 t123, .int .i64 t124]] rfl (by (try simp only [List.map_toArray, List.map_cons, List.map_nil]); first | done | rfl | (simp only [List.length_drop, List.length_take]; rfl)) ?_; (with_reducible refine (pylonref03_Weekday.calls kj4 t122 t123 t124 t127 t128 _ A17.out).mono ?_); rintro e w36 ⟨rfl, hb⟩; refine ⟨_, rfl, ?_⟩; have n0_ := Aside0.mk (blk_below (g := gb126) (o := .cells #[.int .i64 t122, .int .i64 t123, .int .i64 t124] 24 (0, 0)) (by (with_reducible repeat (first | refine blk_drewN ?_ _ | refine blk_drew ?_ | refine blk_alloc ?_ _)); exact BK126.out) hb); have n1_ := Aside0.mk (below_step (by repeat (first | (with_reducible first | exact HB.out | apply below_alloc | apply pw_below_drewN | apply below_drew1 | refine below_set ?_ GE126.out) | exact HB.out)) hb); clear BK126; clear HB; have BK126 := n0_; have HB := n1_; clear n0_ n1_; (try clear hb); (try clear hb2); (try clear hk); (try clear hi); have hcz37_0 : w36.cell? ⟨gb126, 0, none⟩ = some (.int .i64 t122) := (blk_cell BK126.out 0).trans rfl; have hcz37_1 : w36.cell? ⟨gb126, 1, none⟩ = some (.int .i64 t123) := (blk_cell BK126.out 1).trans rfl; have hcz37_2 : w36.cell? ⟨gb126, 2, none⟩ = some (.int .i64 t124) := (blk_cell BK126.out 2).trans rfl; have hfz37_0 := blk_frozen BK126.out 0; have hfz37_1 := blk_frozen BK126.out 1; have hfz37_2 := blk_frozen BK126.out 2))
                go_ret
                exact ⟨by first | rfl | (simp [errW_none, errW_some] <;> rfl) | (simp [*, errW_none, errW_some] <;> rfl), by repeat (first | (with_reducible first | exact HB.out | apply below_alloc | apply pw_below_drewN | apply below_drew1 | refine below_set ?_ GE126.out) | exact HB.out)⟩
            · rw [if_neg c18] at H
              have c18b0 : (t125 == 0) = false := beq_eq_false_iff_ne.mpr c18
              have c18b1 : (t125 != 0) = true := bne_iff_ne.mpr c18
              obtain rfl := Option.some.inj H
              have hcz38_0 : wc.cell? ⟨gb126, 0, none⟩ = some (.int .i64 t122) := (blk_cell BK126.out 0).trans rfl
              have hcz38_1 : wc.cell? ⟨gb126, 1, none⟩ = some (.int .i64 t123) := (blk_cell BK126.out 1).trans rfl
              have hcz38_2 : wc.cell? ⟨gb126, 2, none⟩ = some (.int .i64 t124) := (blk_cell BK126.out 2).trans rfl
              have hfz38_0 := blk_frozen BK126.out 0
              have hfz38_1 := blk_frozen BK126.out 1
              have hfz38_2 := blk_frozen BK126.out 2
              go_wp2_with (first | ((with_reducible refine gate_callee (f := 15) rfl ?_); refine goesL_ (some 40) rfl rfl Try.func15 (by kernel_rfl) rfl #[.agg #[.int .i64 t122, .int .i64 t123, .int .i64 t124]] rfl (by (try simp only [List.map_toArray, List.map_cons, List.map_nil]); first | done | rfl | (simp only [List.length_drop, List.length_take]; rfl)) ?_; (with_reducible refine (pylonref03_Weekday.calls kj4 t122 t123 t124 t127 t128 _ A17.out).mono ?_); rintro e w39 ⟨rfl, hb⟩; refine ⟨_, rfl, ?_⟩; have n0_ := Aside0.mk (blk_below (g := gb126) (o := .cells #[.int .i64 t122, .int .i64 t123, .int .i64 t124] 24 (0, 0)) (by (with_reducible repeat (first | refine blk_drewN ?_ _ | refine blk_drew ?_ | refine blk_alloc ?_ _)); exact BK126.out) hb); have n1_ := Aside0.mk (below_step (by repeat (first | (with_reducible first | exact HB.out | apply below_alloc | apply pw_below_drewN | apply below_drew1 | refine below_set ?_ GE126.out) | exact HB.out)) hb); clear BK126; clear HB; have BK126 := n0_; have HB := n1_; clear n0_ n1_; (try clear hb); (try clear hb2); (try clear hk); (try clear hi); have hcz40_0 : w39.cell? ⟨gb126, 0, none⟩ = some (.int .i64 t122) := (blk_cell BK126.out 0).trans rfl; have hcz40_1 : w39.cell? ⟨gb126, 1, none⟩ = some (.int .i64 t123) := (blk_cell BK126.out 1).trans rfl; have hcz40_2 : w39.cell? ⟨gb126, 2, none⟩ = some (.int .i64 t124) := (blk_cell BK126.out 2).trans rfl; have hfz40_0 := blk_frozen BK126.out 0; have hfz40_1 := blk_frozen BK126.out 1; have hfz40_2 := blk_frozen BK126.out 2))
              go_ret
              exact ⟨by first | rfl | (simp [errW_none, errW_some] <;> rfl) | (simp [*, errW_none, errW_some] <;> rfl), by repeat (first | (with_reducible first | exact HB.out | apply below_alloc | apply pw_below_drewN | apply below_drew1 | refine below_set ?_ GE126.out) | exact HB.out)⟩
  · replace c3 := Bool.eq_false_iff.mpr c3
    subst c3
    have H1 : (some false) = some r := by rw [if_neg (show ¬ (false = true) by decide)] at H; exact H
    clear H
    have H := H1
    clear H1
    obtain rfl := Option.some.inj H
    go_enter Try.func3, Try.ntmps3
    go_wp2_with (first | ((with_reducible refine gate_callee (f := 13) rfl ?_); refine goesL_ (some 8) rfl rfl Try.func13 (by kernel_rfl) rfl #[] rfl (by (try simp only [List.map_toArray, List.map_cons, List.map_nil]); first | done | rfl | (simp only [List.length_drop, List.length_take]; rfl)) ?_; (with_reducible refine (pylonlaw05_awake.calls  false _ A2.out).mono ?_); rintro e w41 ⟨rfl, hb⟩; refine ⟨_, rfl, ?_⟩; have n0_ := Aside0.mk (below_step (by repeat (first | (with_reducible first | exact HB.out | apply below_alloc | apply pw_below_drewN | apply below_drew1) | exact HB.out)) hb); clear HB; have HB := n0_; clear n0_; (try clear hb); (try clear hb2); (try clear hk); (try clear hi)))
    go_ret
    exact ⟨by first | rfl | (simp [errW_none, errW_some] <;> rfl) | (simp [*, errW_none, errW_some] <;> rfl), by repeat (first | (with_reducible first | exact HB.out | apply below_alloc | apply pw_below_drewN | apply below_drew1) | exact HB.out)⟩

/-- THE ONE PURE STATEMENT of pylonlaw05_HolidayEaster: yours. -/
def pylonlaw05_HolidayEaster.Pure : Prop := ∀ (a0 : Int), (Lit.int .i64 a0).wf = true → ∃ k, pylonlaw05_HolidayEaster.f k a0 = some true
theorem pylonlaw05_HolidayEaster.walk (P : pylonlaw05_HolidayEaster.Pure) (a0 : Int) (w : World) (w0 : (Lit.int .i64 a0).wf = true) :
    Calls Try.prog 3 #[.int .i64 a0] w fun e w' => e = .returned (.bool true) ∧ Below w.heap.size w w' := by
  obtain ⟨k, h⟩ := P a0 w0
  refine (pylonlaw05_HolidayEaster.calls k a0 true w h).mono ?_
  rintro e w' ⟨rfl, hd⟩
  exact ⟨rfl, hd⟩

end Go.Proofs.Ytipldjcncfoffaa.PX
