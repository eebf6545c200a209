/- Functions of the program as plain Lean functions, each with a proof that the call in the machine answers just what the plain function says; condition: the plain function answers at all. -/
import Derived.Test.YtddkckpfmleffaaPXx0
import Derived.Test.YtddkckpfmleffaaPXx1
import Derived.Test.YtddkckpfmleffaaPXx9
import Derived.Test.YtddkckpfmleffaaPXx14
namespace Go.Proofs.Ytddkckpfmleffaa.PX
open Go.RowKit Go.Proofs.YtddkckpfmleffaaW.PrintWords Go.Proofs.YtddkckpfmleffaaW.PrintLast Go.Proofs.YtddkckpfmleffaaW.PrintMore
attribute [local go_sem] max2_int min2_int max_two min_two max_three min_three max_four min_four   -- for this text's walks alone
set_option linter.unusedVariables false
set_option linter.unusedSimpArgs false

attribute [local go_sem high] eqA33
/-! ### pylonref03_Compare: function 72 -/
def pylonref03_Compare.f (a0_0 : Int) (a0_1 : Int) (a0_2 : Int) (a1_0 : Int) (a1_1 : Int) (a1_2 : Int) : Option (Int) := some (Civ.cmp a0_0 a0_1 a0_2 a1_0 a1_1 a1_2)
set_option maxRecDepth 100000 in
theorem pylonref03_Compare.lt0 (a0_0 a0_1 a0_2 a1_0 a1_1 a1_2 : Int) (w : World) (p0 : a0_0 < a1_0) :
    Calls Try.prog 72 #[.agg #[.int .i64 a0_0, .int .i64 a0_1, .int .i64 a0_2], .agg #[.int .i64 a1_0, .int .i64 a1_1, .int .i64 a1_2]] w fun e w' => e = .returned (.int .i64 (-1)) ∧ Below w.heap.size w w' := by
  go_enter Try.func72, Try.ntmps72
  go_wp2
  refine wp_loop_rounds 4 ?_
  rw [rounds_succ]
  go_wp2
  go_quiet (fail)
  go_wp2
  go_ret
  exact ⟨rfl, by repeat (first | exact Below.refl _ _ | apply below_alloc | apply pw_below_drewN | apply below_drew)⟩
set_option maxRecDepth 100000 in
theorem pylonref03_Compare.gt0 (a0_0 a0_1 a0_2 a1_0 a1_1 a1_2 : Int) (w : World) (p0 : ¬ a0_0 < a1_0) (q0 : a1_0 < a0_0) :
    Calls Try.prog 72 #[.agg #[.int .i64 a0_0, .int .i64 a0_1, .int .i64 a0_2], .agg #[.int .i64 a1_0, .int .i64 a1_1, .int .i64 a1_2]] w fun e w' => e = .returned (.int .i64 (1)) ∧ Below w.heap.size w w' := by
  go_enter Try.func72, Try.ntmps72
  go_wp2
  refine wp_loop_rounds 4 ?_
  rw [rounds_succ]
  go_wp2
  go_quiet (fail)
  go_wp2
  go_quiet (fail)
  go_wp2
  go_ret
  exact ⟨rfl, by repeat (first | exact Below.refl _ _ | apply below_alloc | apply pw_below_drewN | apply below_drew)⟩
set_option maxRecDepth 100000 in
theorem pylonref03_Compare.lt1 (a0_0 a0_1 a0_2 a1_0 a1_1 a1_2 : Int) (w : World) (p0 : ¬ a0_0 < a1_0) (q0 : ¬ a1_0 < a0_0) (p1 : a0_1 < a1_1) :
    Calls Try.prog 72 #[.agg #[.int .i64 a0_0, .int .i64 a0_1, .int .i64 a0_2], .agg #[.int .i64 a1_0, .int .i64 a1_1, .int .i64 a1_2]] w fun e w' => e = .returned (.int .i64 (-1)) ∧ Below w.heap.size w w' := by
  go_enter Try.func72, Try.ntmps72
  go_wp2
  refine wp_loop_rounds 4 ?_
  rw [rounds_succ]
  go_wp2
  go_quiet (fail)
  go_wp2
  go_quiet (fail)
  go_wp2
  rw [rounds_succ]
  go_wp2
  go_quiet (fail)
  go_wp2
  go_ret
  exact ⟨rfl, by repeat (first | exact Below.refl _ _ | apply below_alloc | apply pw_below_drewN | apply below_drew)⟩
set_option maxRecDepth 100000 in
theorem pylonref03_Compare.gt1 (a0_0 a0_1 a0_2 a1_0 a1_1 a1_2 : Int) (w : World) (p0 : ¬ a0_0 < a1_0) (q0 : ¬ a1_0 < a0_0) (p1 : ¬ a0_1 < a1_1) (q1 : a1_1 < a0_1) :
    Calls Try.prog 72 #[.agg #[.int .i64 a0_0, .int .i64 a0_1, .int .i64 a0_2], .agg #[.int .i64 a1_0, .int .i64 a1_1, .int .i64 a1_2]] w fun e w' => e = .returned (.int .i64 (1)) ∧ Below w.heap.size w w' := by
  go_enter Try.func72, Try.ntmps72
  go_wp2
  refine wp_loop_rounds 4 ?_
  rw [rounds_succ]
  go_wp2
  go_quiet (fail)
  go_wp2
  go_quiet (fail)
  go_wp2
  rw [rounds_succ]
  go_wp2
  go_quiet (fail)
  go_wp2
  go_quiet (fail)
  go_wp2
  go_ret
  exact ⟨rfl, by repeat (first | exact Below.refl _ _ | apply below_alloc | apply pw_below_drewN | apply below_drew)⟩
set_option maxRecDepth 100000 in
theorem pylonref03_Compare.lt2 (a0_0 a0_1 a0_2 a1_0 a1_1 a1_2 : Int) (w : World) (p0 : ¬ a0_0 < a1_0) (q0 : ¬ a1_0 < a0_0) (p1 : ¬ a0_1 < a1_1) (q1 : ¬ a1_1 < a0_1) (p2 : a0_2 < a1_2) :
    Calls Try.prog 72 #[.agg #[.int .i64 a0_0, .int .i64 a0_1, .int .i64 a0_2], .agg #[.int .i64 a1_0, .int .i64 a1_1, .int .i64 a1_2]] w fun e w' => e = .returned (.int .i64 (-1)) ∧ Below w.heap.size w w' := by
  go_enter Try.func72, Try.ntmps72
  go_wp2
  refine wp_loop_rounds 4 ?_
  rw [rounds_succ]
  go_wp2
  go_quiet (fail)
  go_wp2
  go_quiet (fail)
  go_wp2
  rw [rounds_succ]
  go_wp2
  go_quiet (fail)
  go_wp2
  go_quiet (fail)
  go_wp2
  rw [rounds_succ]
  go_wp2
  go_quiet (fail)
  go_wp2
  go_ret
  exact ⟨rfl, by repeat (first | exact Below.refl _ _ | apply below_alloc | apply pw_below_drewN | apply below_drew)⟩
set_option maxRecDepth 100000 in
theorem pylonref03_Compare.gt2 (a0_0 a0_1 a0_2 a1_0 a1_1 a1_2 : Int) (w : World) (p0 : ¬ a0_0 < a1_0) (q0 : ¬ a1_0 < a0_0) (p1 : ¬ a0_1 < a1_1) (q1 : ¬ a1_1 < a0_1) (p2 : ¬ a0_2 < a1_2) (q2 : a1_2 < a0_2) :
    Calls Try.prog 72 #[.agg #[.int .i64 a0_0, .int .i64 a0_1, .int .i64 a0_2], .agg #[.int .i64 a1_0, .int .i64 a1_1, .int .i64 a1_2]] w fun e w' => e = .returned (.int .i64 (1)) ∧ Below w.heap.size w w' := by
  go_enter Try.func72, Try.ntmps72
  go_wp2
  refine wp_loop_rounds 4 ?_
  rw [rounds_succ]
  go_wp2
  go_quiet (fail)
  go_wp2
  go_quiet (fail)
  go_wp2
  rw [rounds_succ]
  go_wp2
  go_quiet (fail)
  go_wp2
  go_quiet (fail)
  go_wp2
  rw [rounds_succ]
  go_wp2
  go_quiet (fail)
  go_wp2
  go_quiet (fail)
  go_wp2
  go_ret
  exact ⟨rfl, by repeat (first | exact Below.refl _ _ | apply below_alloc | apply pw_below_drewN | apply below_drew)⟩
set_option maxRecDepth 100000 in
theorem pylonref03_Compare.eq3 (a0_0 a0_1 a0_2 a1_0 a1_1 a1_2 : Int) (w : World) (p0 : ¬ a0_0 < a1_0) (q0 : ¬ a1_0 < a0_0) (p1 : ¬ a0_1 < a1_1) (q1 : ¬ a1_1 < a0_1) (p2 : ¬ a0_2 < a1_2) (q2 : ¬ a1_2 < a0_2) :
    Calls Try.prog 72 #[.agg #[.int .i64 a0_0, .int .i64 a0_1, .int .i64 a0_2], .agg #[.int .i64 a1_0, .int .i64 a1_1, .int .i64 a1_2]] w fun e w' => e = .returned (.int .i64 (0)) ∧ Below w.heap.size w w' := by
  go_enter Try.func72, Try.ntmps72
  go_wp2
  refine wp_loop_rounds 4 ?_
  rw [rounds_succ]
  go_wp2
  go_quiet (fail)
  go_wp2
  go_quiet (fail)
  go_wp2
  rw [rounds_succ]
  go_wp2
  go_quiet (fail)
  go_wp2
  go_quiet (fail)
  go_wp2
  rw [rounds_succ]
  go_wp2
  go_quiet (fail)
  go_wp2
  go_quiet (fail)
  go_wp2
  rw [rounds_succ]
  go_wp2
  go_ret
  exact ⟨rfl, by repeat (first | exact Below.refl _ _ | apply below_alloc | apply pw_below_drewN | apply below_drew)⟩
theorem pylonref03_Compare.calls (a0_0 : Int) (a0_1 : Int) (a0_2 : Int) (a1_0 : Int) (a1_1 : Int) (a1_2 : Int) (r : Int) (w : World) (h : pylonref03_Compare.f a0_0 a0_1 a0_2 a1_0 a1_1 a1_2 = some r) :
    Calls Try.prog 72 #[.agg #[.int .i64 a0_0, .int .i64 a0_1, .int .i64 a0_2], .agg #[.int .i64 a1_0, .int .i64 a1_1, .int .i64 a1_2]] w fun e w' => e = .returned (.int .i64 r) ∧ Below w.heap.size w w' := by
  unfold pylonref03_Compare.f Civ.cmp at h
  injection h with h
  by_cases p0 : a0_0 < a1_0
  · rw [if_pos p0] at h; subst h; exact pylonref03_Compare.lt0 _ _ _ _ _ _ w p0
  · rw [if_neg p0] at h
    by_cases q0 : a1_0 < a0_0
    · rw [if_pos q0] at h; subst h; exact pylonref03_Compare.gt0 _ _ _ _ _ _ w p0 q0
    · rw [if_neg q0] at h
      by_cases p1 : a0_1 < a1_1
      · rw [if_pos p1] at h; subst h; exact pylonref03_Compare.lt1 _ _ _ _ _ _ w p0 q0 p1
      · rw [if_neg p1] at h
        by_cases q1 : a1_1 < a0_1
        · rw [if_pos q1] at h; subst h; exact pylonref03_Compare.gt1 _ _ _ _ _ _ w p0 q0 p1 q1
        · rw [if_neg q1] at h
          by_cases p2 : a0_2 < a1_2
          · rw [if_pos p2] at h; subst h; exact pylonref03_Compare.lt2 _ _ _ _ _ _ w p0 q0 p1 q1 p2
          · rw [if_neg p2] at h
            by_cases q2 : a1_2 < a0_2
            · rw [if_pos q2] at h; subst h; exact pylonref03_Compare.gt2 _ _ _ _ _ _ w p0 q0 p1 q1 p2 q2
            · rw [if_neg q2] at h
              subst h; exact pylonref03_Compare.eq3 _ _ _ _ _ _ w p0 q0 p1 q1 p2 q2

/-! ### pylonref04_begins: function 67 -/
def pylonref04_begins.l0 : Nat → Int → Int → Int → Int → Int → Int → Int → Int → Int → Int → Int → Int → Int → Int → Int → Option (Int)
 | 0, _, _, _, _, _, _, _, _, _, _, _, _, _, _, _ => none
 | k + 1, x7, x22, x405000, x405001, x405002, x405003, x405004, x405005, x405006, x405007, x405008, x405009, x406000, x406001, x406002 => if x22 < 200 then ((pylonref04_At.f k x405000 x405001 x405002 x405003 x405004 x405005 x405006 x405007 x405008 x405009 x7).bind fun bt408 => (if bt408.2.2.2.2.2 = 0 then ((pylonref03_Compare.f bt408.1 bt408.2.1 bt408.2.2.1 x406000 x406001 x406002).bind fun t415 => (if t415 ≥ 0 then (some x7) else (pylonref04_begins.l0 k (wrap64 (x7 + 900)) (wrap64 (x22 + 1)) x405000 x405001 x405002 x405003 x405004 x405005 x405006 x405007 x405008 x405009 x406000 x406001 x406002))) else (pylonref04_begins.l0 k (wrap64 (x7 + 900)) (wrap64 (x22 + 1)) x405000 x405001 x405002 x405003 x405004 x405005 x405006 x405007 x405008 x405009 x406000 x406001 x406002))) else (some x7)
def pylonref04_begins.f (k : Nat) (a0_0 : Int) (a0_1 : Int) (a0_2 : Int) (a0_3 : Int) (a0_4 : Int) (a0_5 : Int) (a0_6 : Int) (a0_7 : Int) (a0_8 : Int) (a0_9 : Int) (a1_0 : Int) (a1_1 : Int) (a1_2 : Int) : Option (Int) := (pylonref03_Days.f k a1_0 a1_1 a1_2).bind fun bt406 => (pylonref04_begins.l0 k (wrap64 ((wrap64 ((wrap64 (bt406.1 * 86400)) - (wrap64 (a0_0 * 60)))) - 14400)) 0 a0_0 a0_1 a0_2 a0_3 a0_4 a0_5 a0_6 a0_7 a0_8 a0_9 a1_0 a1_1 a1_2)
theorem pylonref04_begins.mono_l : ∀ k, (∀ y0 y1 y2 y3 y4 y5 y6 y7 y8 y9 y10 y11 y12 y13 y14, LeO (pylonref04_begins.l0 k y0 y1 y2 y3 y4 y5 y6 y7 y8 y9 y10 y11 y12 y13 y14) (pylonref04_begins.l0 (k + 1) y0 y1 y2 y3 y4 y5 y6 y7 y8 y9 y10 y11 y12 y13 y14))
 | 0 => fun _ _ _ _ _ _ _ _ _ _ _ _ _ _ _ r h => by simp [pylonref04_begins.l0] at h
 | k + 1 => by
  have ih0 := pylonref04_begins.mono_l k
  ·intro y0 y1 y2 y3 y4 y5 y6 y7 y8 y9 y10 y11 y12 y13 y14
   unfold pylonref04_begins.l0
   repeat' first
   | (with_reducible exact ih0 _ _ _ _ _ _ _ _ _ _ _ _ _ _ _)
   | (with_reducible exact pylonref03_Days.mono _ _ _ _)
   | (with_reducible exact pylonref04_At.mono _ _ _ _ _ _ _ _ _ _ _ _)
   | (with_reducible exact LeO.refl _)
   | (with_reducible exact LeO.none _)
   | (with_reducible refine LeO.ite ?_ ?_)
   | (with_reducible refine LeO.bind ?_ (fun _ => ?_))
theorem pylonref04_begins.mono : ∀ a0 a1 a2 a3 a4 a5 a6 a7 a8 a9 a10 a11 a12 k, LeO (pylonref04_begins.f k a0 a1 a2 a3 a4 a5 a6 a7 a8 a9 a10 a11 a12) (pylonref04_begins.f (k + 1) a0 a1 a2 a3 a4 a5 a6 a7 a8 a9 a10 a11 a12) := by
 intro a0 a1 a2 a3 a4 a5 a6 a7 a8 a9 a10 a11 a12 k
 have ih0 := pylonref04_begins.mono_l k
 unfold pylonref04_begins.f
 repeat' first
   | (with_reducible exact ih0 _ _ _ _ _ _ _ _ _ _ _ _ _ _ _)
   | (with_reducible exact pylonref03_Days.mono _ _ _ _)
   | (with_reducible exact pylonref04_At.mono _ _ _ _ _ _ _ _ _ _ _ _)
   | (with_reducible exact LeO.refl _)
   | (with_reducible exact LeO.none _)
   | (with_reducible refine LeO.ite ?_ ?_)
   | (with_reducible refine LeO.bind ?_ (fun _ => ?_))
set_option maxHeartbeats 8000000 in
set_option maxRecDepth 100000 in
theorem pylonref04_begins.calls (k : Nat) (a0_0 : Int) (a0_1 : Int) (a0_2 : Int) (a0_3 : Int) (a0_4 : Int) (a0_5 : Int) (a0_6 : Int) (a0_7 : Int) (a0_8 : Int) (a0_9 : Int) (a1_0 : Int) (a1_1 : Int) (a1_2 : Int) (r : Int) (w : World) (h : pylonref04_begins.f k a0_0 a0_1 a0_2 a0_3 a0_4 a0_5 a0_6 a0_7 a0_8 a0_9 a1_0 a1_1 a1_2 = some r) :
  Calls Try.prog 67 #[.agg #[.int .i64 a0_0, .int .i64 a0_1, .int .i64 a0_2, .int .i64 a0_3, .int .i64 a0_4, .int .i64 a0_5, .int .i64 a0_6, .int .i64 a0_7, .int .i64 a0_8, .int .i64 a0_9], .agg #[.int .i64 a1_0, .int .i64 a1_1, .int .i64 a1_2]] w fun e w' => e = .returned (.int .i64 r) ∧ Below w.heap.size w w' := by
 have hu25 := Try.underlying25
 have hu33 := Try.underlying33
 have hu35 := Try.underlying35
 have HB := AX (Below.refl w.heap.size w)
 have H : ((pylonref03_Days.f k a1_0 a1_1 a1_2).bind fun bt406 => (pylonref04_begins.l0 k (wrap64 ((wrap64 ((wrap64 (bt406.1 * 86400)) - (wrap64 (a0_0 * 60)))) - 14400)) 0 a0_0 a0_1 a0_2 a0_3 a0_4 a0_5 a0_6 a0_7 a0_8 a0_9 a1_0 a1_1 a1_2)) = some r := h
 clear h
 replace H := Option.bind_eq_some_iff.mp H
 obtain ⟨⟨t406, t407⟩, A30, H⟩ := H
 replace H : (pylonref04_begins.l0 k (wrap64 ((wrap64 ((wrap64 (t406 * 86400)) - (wrap64 (a0_0 * 60)))) - 14400)) 0 a0_0 a0_1 a0_2 a0_3 a0_4 a0_5 a0_6 a0_7 a0_8 a0_9 a1_0 a1_1 a1_2) = some r := H
 have A3 := AX A30
 clear A30
 have H' := AX H
 clear H
 go_enter Try.func67, Try.ntmps67
 go_wp2_with (first | ((with_reducible refine gate_dst (N := 2) rfl ?_); refine bx 2 #[.int .i64 a0_0, .int .i64 a0_1, .int .i64 a0_2, .int .i64 a0_3, .int .i64 a0_4, .int .i64 a0_5, .int .i64 a0_6, .int .i64 a0_7, .int .i64 a0_8, .int .i64 a0_9] 25 ?_; intro gb404 hg w4 hbox hb; have BK404 := AX (hbox); have GW404 := gwl (w := w) hg bw; have GE404 := GW404; replace HB := AX (below_step bw hb); clear hb hbox hg) | ((with_reducible refine gate_dst (N := 3) rfl ?_); refine bx 3 #[.int .i64 a1_0, .int .i64 a1_1, .int .i64 a1_2] 33 ?_; intro gb405 hg w5 hbox hb; have BK405 := AX (hbox); have GW405 := gwl (w := w) hg bw; have GE405 := GW405; have NB404_405 := nbl hg (bkn BK404); have NB405_404 := nbg hg (bkn BK404); replace BK404 := AX (bkb BK404 hb); replace HB := AX (below_step bw hb); clear hb hbox hg; have hnb6 := NB405_404.out; have hnc6 := NB404_405.out; obtain ⟨hcz7_0, hcz7_1, hcz7_2⟩ := blkC3 (w := w5) BK405.out; obtain ⟨hfz7_0, hfz7_1, hfz7_2⟩ := blkF3 BK405.out) | ((with_reducible refine gate_callee (f := 21) rfl ?_); refine gL (some 12) Try.func21 #[.agg #[.int .i64 a1_0, .int .i64 a1_1, .int .i64 a1_2]] ?_; (with_reducible refine (pylonref03_Days.calls k a1_0 a1_1 a1_2 t406 t407 _ A3.out).mono ?_); rintro e w8 ⟨rfl, hb⟩; refine ⟨_, rfl, ?_⟩; replace BK404 := AX (bkb BK404 hb); replace BK405 := AX (bkb BK405 hb); replace HB := AX (below_step bw hb); (try clear hb); obtain ⟨hcz9_0, hcz9_1, hcz9_2, hcz9_3, hcz9_4, hcz9_5, hcz9_6, hcz9_7, hcz9_8, hcz9_9⟩ := blkC10 (w := w8) BK404.out; obtain ⟨hfz9_0, hfz9_1, hfz9_2, hfz9_3, hfz9_4, hfz9_5, hfz9_6, hfz9_7, hfz9_8, hfz9_9⟩ := blkF10 BK404.out))
 go_loopg [7, 22] k (fun kq v7 v22 w' => ∃ (x7_1 : Int) (x22_1 : Int), v7 = .int .i64 x7_1 ∧ v22 = .int .i64 x22_1 ∧ Aside0 (pylonref04_begins.l0 kq x7_1 x22_1 a0_0 a0_1 a0_2 a0_3 a0_4 a0_5 a0_6 a0_7 a0_8 a0_9 a1_0 a1_1 a1_2 = some r) ∧ Aside0 (kq ≤ k) ∧ Aside0 (w'.heap[gb404]? = some (.cells #[.int .i64 a0_0, .int .i64 a0_1, .int .i64 a0_2, .int .i64 a0_3, .int .i64 a0_4, .int .i64 a0_5, .int .i64 a0_6, .int .i64 a0_7, .int .i64 a0_8, .int .i64 a0_9] 25 (0, 0))) ∧ Aside0 (w'.heap[gb405]? = some (.cells #[.int .i64 a1_0, .int .i64 a1_1, .int .i64 a1_2] 33 (0, 0))) ∧ Aside0 (Below w.heap.size w w'))
 case atStart => exact ⟨(wrap64 ((wrap64 ((wrap64 (t406 * 86400)) - (wrap64 (a0_0 * 60)))) - 14400)), (0), (by first | rfl | (simp; done) | (simp [*]; done)), (by first | rfl | (simp; done) | (simp [*]; done)), H', ⟨Nat.le_refl _⟩, ⟨bkn BK404⟩, ⟨bkn BK405⟩, ⟨bw⟩⟩
 case round =>
  clear H'
  try clear hcz7_0 hcz7_1 hcz7_2
  try clear hcz9_0 hcz9_1 hcz9_2 hcz9_3 hcz9_4 hcz9_5 hcz9_6 hcz9_7 hcz9_8 hcz9_9
  try clear hfz7_0 hfz7_1 hfz7_2
  try clear hfz9_0 hfz9_1 hfz9_2 hfz9_3 hfz9_4 hfz9_5 hfz9_6 hfz9_7 hfz9_8 hfz9_9
  obtain ⟨x7_1, x22_1, rfl, rfl, HA, HK1, BK404, BK405, HB⟩ := hrel
  cases gk with
  | zero => exact absurd HA.out (by simp [pylonref04_begins.l0])
  | succ k1 =>
   have H := HA.out
   clear HA
   simp only [pylonref04_begins.l0] at H
   by_cases c10 : x22_1 < 200
   ·rw [if_pos c10] at H
    have c10b0 : decide (x22_1 < 200) = true := decide_eq_true c10
    clear c10
    replace H := Option.bind_eq_some_iff.mp H
    obtain ⟨⟨t408, t409, t410, t411, t412, t413⟩, A110, H⟩ := H
    replace H : (if t413 = 0 then ((pylonref03_Compare.f t408 t409 t410 a1_0 a1_1 a1_2).bind fun t415 => (if t415 ≥ 0 then (some x7_1) else (pylonref04_begins.l0 k1 (wrap64 (x7_1 + 900)) (wrap64 (x22_1 + 1)) a0_0 a0_1 a0_2 a0_3 a0_4 a0_5 a0_6 a0_7 a0_8 a0_9 a1_0 a1_1 a1_2))) else (pylonref04_begins.l0 k1 (wrap64 (x7_1 + 900)) (wrap64 (x22_1 + 1)) a0_0 a0_1 a0_2 a0_3 a0_4 a0_5 a0_6 a0_7 a0_8 a0_9 a1_0 a1_1 a1_2)) = some r := H
    have A11 := AX A110
    clear A110
    by_cases c12 : t413 = 0
    ·rw [if_pos c12] at H
     have c12b0 : (t413 == 0) = true := beq_iff_eq.mpr c12
     have c12b1 : (t413 != 0) = false := bne_eq_false_iff_eq.mpr c12
     clear c12
     replace H := Option.bind_eq_some_iff.mp H
     obtain ⟨t415, A130, H⟩ := H
     replace H : (if t415 ≥ 0 then (some x7_1) else (pylonref04_begins.l0 k1 (wrap64 (x7_1 + 900)) (wrap64 (x22_1 + 1)) a0_0 a0_1 a0_2 a0_3 a0_4 a0_5 a0_6 a0_7 a0_8 a0_9 a1_0 a1_1 a1_2)) = some r := H
     have A13 := AX A130
     clear A130
     by_cases c14 : t415 ≥ 0
     ·rw [if_pos c14] at H
      have c14b0 : decide (0 ≤ t415) = true := decide_eq_true c14
      clear c14
      obtain rfl := Option.some.inj H
      have hnb15 := NB404_405.out
      have hnc15 := NB405_404.out
      obtain ⟨hcz16_0, hcz16_1, hcz16_2, hcz16_3, hcz16_4, hcz16_5, hcz16_6, hcz16_7, hcz16_8, hcz16_9⟩ := blkC10 (w := wr) BK404.out
      obtain ⟨hfz16_0, hfz16_1, hfz16_2, hfz16_3, hfz16_4, hfz16_5, hfz16_6, hfz16_7, hfz16_8, hfz16_9⟩ := blkF10 BK404.out
      go_wp2_with (first | ((with_reducible refine gate_callee (f := 38) rfl ?_); refine gL (some 27) Try.func38 #[.agg #[.int .i64 a0_0, .int .i64 a0_1, .int .i64 a0_2, .int .i64 a0_3, .int .i64 a0_4, .int .i64 a0_5, .int .i64 a0_6, .int .i64 a0_7, .int .i64 a0_8, .int .i64 a0_9], .int .i64 x7_1] ?_; (with_reducible refine (pylonref04_At.calls k1 a0_0 a0_1 a0_2 a0_3 a0_4 a0_5 a0_6 a0_7 a0_8 a0_9 x7_1 t408 t409 t410 t411 t412 t413 _ A11.out).mono ?_); rintro e w17 ⟨rfl, hb⟩; refine ⟨_, rfl, ?_⟩; replace BK404 := AX (bkb BK404 hb); replace BK405 := AX (bkb BK405 hb); replace HB := AX (below_step bw hb); (try clear hb)) | ((with_reducible refine gate_dst (N := 8) rfl ?_); refine bx 8 #[.int .i64 0, .int .i64 0, .int .i64 0, .int .i64 0, .int .i64 0] 35 ?_; intro gb414 hg w18 hbox hb; have BK414 := AX (hbox); have GW414 := gwl (w := w) hg bw; have GE414 := GW414; have NB404_414 := nbl hg (bkn BK404); have NB414_404 := nbg hg (bkn BK404); have NB405_414 := nbl hg (bkn BK405); have NB414_405 := nbg hg (bkn BK405); replace BK404 := AX (bkb BK404 hb); replace BK405 := AX (bkb BK405 hb); replace HB := AX (below_step bw hb); clear hb hbox hg; have hnb19 := NB414_404.out; have hnc19 := NB404_414.out; have hnb20 := NB414_405.out; have hnc20 := NB405_414.out; obtain ⟨hcz21_0, hcz21_1, hcz21_2, hcz21_3, hcz21_4⟩ := blkC5 (w := w18) BK414.out; obtain ⟨hfz21_0, hfz21_1, hfz21_2, hfz21_3, hfz21_4⟩ := blkF5 BK414.out; obtain ⟨hcz22_0, hcz22_1, hcz22_2⟩ := blkC3 (w := w18) BK405.out; obtain ⟨hfz22_0, hfz22_1, hfz22_2⟩ := blkF3 BK405.out) | (go_at_call 72; (with_reducible refine (pylonref03_Compare.calls t408 t409 t410 a1_0 a1_1 a1_2 t415 _ A13.out).mono ?_); rintro e w23 ⟨rfl, hb⟩; replace BK404 := AX (blk_below (g := gb404) (o := .cells #[.int .i64 a0_0, .int .i64 a0_1, .int .i64 a0_2, .int .i64 a0_3, .int .i64 a0_4, .int .i64 a0_5, .int .i64 a0_6, .int .i64 a0_7, .int .i64 a0_8, .int .i64 a0_9] 25 (0, 0)) (by (with_reducible repeat first|refine blk_drewN ?_ _|refine blk_drew ?_|refine blk_alloc ?_ _|refine blk_far ?_ NB404_414.out _); exact BK404.out) hb); replace BK405 := AX (blk_below (g := gb405) (o := .cells #[.int .i64 a1_0, .int .i64 a1_1, .int .i64 a1_2] 33 (0, 0)) (by (with_reducible repeat first|refine blk_drewN ?_ _|refine blk_drew ?_|refine blk_alloc ?_ _|refine blk_far ?_ NB405_414.out _); exact BK405.out) hb); replace BK414 := AX (blk_below (g := gb414) (o := .cells #[.int .i64 t408, .int .i64 t409, .int .i64 t410, .int .i64 t411, .int .i64 t412] 35 (0, 0)) (by (with_reducible repeat first|refine blk_drewN ?_ _|refine blk_drew ?_|refine blk_alloc ?_ _); refine blk_put (cs := #[.int .i64 t408, .int .i64 t409, .int .i64 t410, .int .i64 t411, .int .i64 0]) ?_ 4 _ rfl; (with_reducible repeat first|refine blk_drewN ?_ _|refine blk_drew ?_|refine blk_alloc ?_ _); refine blk_put (cs := #[.int .i64 t408, .int .i64 t409, .int .i64 t410, .int .i64 0, .int .i64 0]) ?_ 3 _ rfl; (with_reducible repeat first|refine blk_drewN ?_ _|refine blk_drew ?_|refine blk_alloc ?_ _); refine blk_put (cs := #[.int .i64 t408, .int .i64 t409, .int .i64 0, .int .i64 0, .int .i64 0]) ?_ 2 _ rfl; (with_reducible repeat first|refine blk_drewN ?_ _|refine blk_drew ?_|refine blk_alloc ?_ _); refine blk_put (cs := #[.int .i64 t408, .int .i64 0, .int .i64 0, .int .i64 0, .int .i64 0]) ?_ 1 _ rfl; (with_reducible repeat first|refine blk_drewN ?_ _|refine blk_drew ?_|refine blk_alloc ?_ _); refine blk_put (cs := #[.int .i64 0, .int .i64 0, .int .i64 0, .int .i64 0, .int .i64 0]) ?_ 0 _ rfl; (with_reducible repeat first|refine blk_drewN ?_ _|refine blk_drew ?_|refine blk_alloc ?_ _); exact BK414.out) hb); replace HB := AX (below_step bw hb); (try clear hb)))
      go_ret
      exact ⟨by first | rfl | (simp [errW_none, errW_some] <;> rfl) | (simp [*, errW_none, errW_some] <;> rfl), bw⟩
     ·rw [if_neg c14] at H
      have c14b0 : decide (0 ≤ t415) = false := decide_eq_false c14
      clear c14
      have H' := AX H
      clear H
      have hnb24 := NB404_405.out
      have hnc24 := NB405_404.out
      obtain ⟨hcz25_0, hcz25_1, hcz25_2, hcz25_3, hcz25_4, hcz25_5, hcz25_6, hcz25_7, hcz25_8, hcz25_9⟩ := blkC10 (w := wr) BK404.out
      obtain ⟨hfz25_0, hfz25_1, hfz25_2, hfz25_3, hfz25_4, hfz25_5, hfz25_6, hfz25_7, hfz25_8, hfz25_9⟩ := blkF10 BK404.out
      go_wp2_with (first | ((with_reducible refine gate_callee (f := 38) rfl ?_); refine gL (some 27) Try.func38 #[.agg #[.int .i64 a0_0, .int .i64 a0_1, .int .i64 a0_2, .int .i64 a0_3, .int .i64 a0_4, .int .i64 a0_5, .int .i64 a0_6, .int .i64 a0_7, .int .i64 a0_8, .int .i64 a0_9], .int .i64 x7_1] ?_; (with_reducible refine (pylonref04_At.calls k1 a0_0 a0_1 a0_2 a0_3 a0_4 a0_5 a0_6 a0_7 a0_8 a0_9 x7_1 t408 t409 t410 t411 t412 t413 _ A11.out).mono ?_); rintro e w26 ⟨rfl, hb⟩; refine ⟨_, rfl, ?_⟩; replace BK404 := AX (bkb BK404 hb); replace BK405 := AX (bkb BK405 hb); replace HB := AX (below_step bw hb); (try clear hb)) | ((with_reducible refine gate_dst (N := 8) rfl ?_); refine bx 8 #[.int .i64 0, .int .i64 0, .int .i64 0, .int .i64 0, .int .i64 0] 35 ?_; intro gb414 hg w27 hbox hb; have BK414 := AX (hbox); have GW414 := gwl (w := w) hg bw; have GE414 := GW414; have NB404_414 := nbl hg (bkn BK404); have NB414_404 := nbg hg (bkn BK404); have NB405_414 := nbl hg (bkn BK405); have NB414_405 := nbg hg (bkn BK405); replace BK404 := AX (bkb BK404 hb); replace BK405 := AX (bkb BK405 hb); replace HB := AX (below_step bw hb); clear hb hbox hg; have hnb28 := NB414_404.out; have hnc28 := NB404_414.out; have hnb29 := NB414_405.out; have hnc29 := NB405_414.out; obtain ⟨hcz30_0, hcz30_1, hcz30_2, hcz30_3, hcz30_4⟩ := blkC5 (w := w27) BK414.out; obtain ⟨hfz30_0, hfz30_1, hfz30_2, hfz30_3, hfz30_4⟩ := blkF5 BK414.out; obtain ⟨hcz31_0, hcz31_1, hcz31_2⟩ := blkC3 (w := w27) BK405.out; obtain ⟨hfz31_0, hfz31_1, hfz31_2⟩ := blkF3 BK405.out) | (go_at_call 72; (with_reducible refine (pylonref03_Compare.calls t408 t409 t410 a1_0 a1_1 a1_2 t415 _ A13.out).mono ?_); rintro e w32 ⟨rfl, hb⟩; replace BK404 := AX (blk_below (g := gb404) (o := .cells #[.int .i64 a0_0, .int .i64 a0_1, .int .i64 a0_2, .int .i64 a0_3, .int .i64 a0_4, .int .i64 a0_5, .int .i64 a0_6, .int .i64 a0_7, .int .i64 a0_8, .int .i64 a0_9] 25 (0, 0)) (by (with_reducible repeat first|refine blk_drewN ?_ _|refine blk_drew ?_|refine blk_alloc ?_ _|refine blk_far ?_ NB404_414.out _); exact BK404.out) hb); replace BK405 := AX (blk_below (g := gb405) (o := .cells #[.int .i64 a1_0, .int .i64 a1_1, .int .i64 a1_2] 33 (0, 0)) (by (with_reducible repeat first|refine blk_drewN ?_ _|refine blk_drew ?_|refine blk_alloc ?_ _|refine blk_far ?_ NB405_414.out _); exact BK405.out) hb); replace BK414 := AX (blk_below (g := gb414) (o := .cells #[.int .i64 t408, .int .i64 t409, .int .i64 t410, .int .i64 t411, .int .i64 t412] 35 (0, 0)) (by (with_reducible repeat first|refine blk_drewN ?_ _|refine blk_drew ?_|refine blk_alloc ?_ _); refine blk_put (cs := #[.int .i64 t408, .int .i64 t409, .int .i64 t410, .int .i64 t411, .int .i64 0]) ?_ 4 _ rfl; (with_reducible repeat first|refine blk_drewN ?_ _|refine blk_drew ?_|refine blk_alloc ?_ _); refine blk_put (cs := #[.int .i64 t408, .int .i64 t409, .int .i64 t410, .int .i64 0, .int .i64 0]) ?_ 3 _ rfl; (with_reducible repeat first|refine blk_drewN ?_ _|refine blk_drew ?_|refine blk_alloc ?_ _); refine blk_put (cs := #[.int .i64 t408, .int .i64 t409, .int .i64 0, .int .i64 0, .int .i64 0]) ?_ 2 _ rfl; (with_reducible repeat first|refine blk_drewN ?_ _|refine blk_drew ?_|refine blk_alloc ?_ _); refine blk_put (cs := #[.int .i64 t408, .int .i64 0, .int .i64 0, .int .i64 0, .int .i64 0]) ?_ 1 _ rfl; (with_reducible repeat first|refine blk_drewN ?_ _|refine blk_drew ?_|refine blk_alloc ?_ _); refine blk_put (cs := #[.int .i64 0, .int .i64 0, .int .i64 0, .int .i64 0, .int .i64 0]) ?_ 0 _ rfl; (with_reducible repeat first|refine blk_drewN ?_ _|refine blk_drew ?_|refine blk_alloc ?_ _); exact BK414.out) hb); replace HB := AX (below_step bw hb); (try clear hb)))
      go_roundg k1
      case measure => have := HK1.out; omega
      case rel => exact ⟨(wrap64 (x7_1 + 900)), (wrap64 (x22_1 + 1)), (by first | rfl | (simp; done) | (simp [*]; done)), (by first | rfl | (simp; done) | (simp [*]; done)), H', ⟨by have := HK1.out; omega⟩, ⟨bkn BK404⟩, ⟨bkn BK405⟩, ⟨bw⟩⟩
    ·rw [if_neg c12] at H
     have c12b0 : (t413 == 0) = false := beq_eq_false_iff_ne.mpr c12
     have c12b1 : (t413 != 0) = true := bne_iff_ne.mpr c12
     have H' := AX H
     clear H
     have hnb33 := NB404_405.out
     have hnc33 := NB405_404.out
     obtain ⟨hcz34_0, hcz34_1, hcz34_2, hcz34_3, hcz34_4, hcz34_5, hcz34_6, hcz34_7, hcz34_8, hcz34_9⟩ := blkC10 (w := wr) BK404.out
     obtain ⟨hfz34_0, hfz34_1, hfz34_2, hfz34_3, hfz34_4, hfz34_5, hfz34_6, hfz34_7, hfz34_8, hfz34_9⟩ := blkF10 BK404.out
     go_wp2_with (first | ((with_reducible refine gate_callee (f := 38) rfl ?_); refine gL (some 27) Try.func38 #[.agg #[.int .i64 a0_0, .int .i64 a0_1, .int .i64 a0_2, .int .i64 a0_3, .int .i64 a0_4, .int .i64 a0_5, .int .i64 a0_6, .int .i64 a0_7, .int .i64 a0_8, .int .i64 a0_9], .int .i64 x7_1] ?_; (with_reducible refine (pylonref04_At.calls k1 a0_0 a0_1 a0_2 a0_3 a0_4 a0_5 a0_6 a0_7 a0_8 a0_9 x7_1 t408 t409 t410 t411 t412 t413 _ A11.out).mono ?_); rintro e w35 ⟨rfl, hb⟩; refine ⟨_, rfl, ?_⟩; replace BK404 := AX (bkb BK404 hb); replace BK405 := AX (bkb BK405 hb); replace HB := AX (below_step bw hb); (try clear hb)) | ((with_reducible refine gate_dst (N := 8) rfl ?_); refine bx 8 #[.int .i64 0, .int .i64 0, .int .i64 0, .int .i64 0, .int .i64 0] 35 ?_; intro gb414 hg w36 hbox hb; have BK414 := AX (hbox); have GW414 := gwl (w := w) hg bw; have GE414 := GW414; have NB404_414 := nbl hg (bkn BK404); have NB414_404 := nbg hg (bkn BK404); have NB405_414 := nbl hg (bkn BK405); have NB414_405 := nbg hg (bkn BK405); replace BK404 := AX (bkb BK404 hb); replace BK405 := AX (bkb BK405 hb); replace HB := AX (below_step bw hb); clear hb hbox hg; have hnb37 := NB414_404.out; have hnc37 := NB404_414.out; have hnb38 := NB414_405.out; have hnc38 := NB405_414.out; obtain ⟨hcz39_0, hcz39_1, hcz39_2, hcz39_3, hcz39_4⟩ := blkC5 (w := w36) BK414.out; obtain ⟨hfz39_0, hfz39_1, hfz39_2, hfz39_3, hfz39_4⟩ := blkF5 BK414.out))
     go_roundg k1
     case measure => have := HK1.out; omega
     case rel => exact ⟨(wrap64 (x7_1 + 900)), (wrap64 (x22_1 + 1)), (by first | rfl | (simp; done) | (simp [*]; done)), (by first | rfl | (simp; done) | (simp [*]; done)), H', ⟨by have := HK1.out; omega⟩, ⟨by (with_reducible repeat first|refine blk_drewN ?_ _|refine blk_drew ?_|refine blk_alloc ?_ _); refine blk_far ?_ NB404_414.out _; (with_reducible repeat first|refine blk_drewN ?_ _|refine blk_drew ?_|refine blk_alloc ?_ _); refine blk_far ?_ NB404_414.out _; (with_reducible repeat first|refine blk_drewN ?_ _|refine blk_drew ?_|refine blk_alloc ?_ _); refine blk_far ?_ NB404_414.out _; (with_reducible repeat first|refine blk_drewN ?_ _|refine blk_drew ?_|refine blk_alloc ?_ _); refine blk_far ?_ NB404_414.out _; (with_reducible repeat first|refine blk_drewN ?_ _|refine blk_drew ?_|refine blk_alloc ?_ _); refine blk_far ?_ NB404_414.out _; (with_reducible repeat first|refine blk_drewN ?_ _|refine blk_drew ?_|refine blk_alloc ?_ _); exact BK404.out⟩, ⟨by (with_reducible repeat first|refine blk_drewN ?_ _|refine blk_drew ?_|refine blk_alloc ?_ _); refine blk_far ?_ NB405_414.out _; (with_reducible repeat first|refine blk_drewN ?_ _|refine blk_drew ?_|refine blk_alloc ?_ _); refine blk_far ?_ NB405_414.out _; (with_reducible repeat first|refine blk_drewN ?_ _|refine blk_drew ?_|refine blk_alloc ?_ _); refine blk_far ?_ NB405_414.out _; (with_reducible repeat first|refine blk_drewN ?_ _|refine blk_drew ?_|refine blk_alloc ?_ _); refine blk_far ?_ NB405_414.out _; (with_reducible repeat first|refine blk_drewN ?_ _|refine blk_drew ?_|refine blk_alloc ?_ _); refine blk_far ?_ NB405_414.out _; (with_reducible repeat first|refine blk_drewN ?_ _|refine blk_drew ?_|refine blk_alloc ?_ _); exact BK405.out⟩, ⟨bw⟩⟩
   ·rw [if_neg c10] at H
    have c10b0 : decide (x22_1 < 200) = false := decide_eq_false c10
    clear c10
    obtain rfl := Option.some.inj H
    go_wp2
    go_ret
    exact ⟨by first | rfl | (simp [errW_none, errW_some] <;> rfl) | (simp [*, errW_none, errW_some] <;> rfl), bw⟩

end Go.Proofs.Ytddkckpfmleffaa.PX
