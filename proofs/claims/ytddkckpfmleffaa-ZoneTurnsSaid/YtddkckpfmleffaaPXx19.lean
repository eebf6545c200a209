/- Functions of the program as plain Lean functions, each with a proof that the call in the machine answers just what the plain function says; condition: the plain function answers at all. -/
import Derived.Test.YtddkckpfmleffaaPXx0
import Derived.Test.YtddkckpfmleffaaPXx13
namespace Go.Proofs.Ytddkckpfmleffaa.PX
open Go.RowKit Go.Proofs.YtddkckpfmleffaaW.PrintWords Go.Proofs.YtddkckpfmleffaaW.PrintLast Go.Proofs.YtddkckpfmleffaaW.PrintMore
attribute [local go_sem] max2_int min2_int max_two min_two max_three min_three max_four min_four   -- for this text's walks alone
set_option linter.unusedVariables false
set_option linter.unusedSimpArgs false

/-! ### pylonref03_Of: function 25 -/
mutual
def pylonref03_Of.j0 : Nat → Int → Bool → Option (Int × Int × Int × Int)
 | 0, _, _ => none
 | k + 1, x0, x14 => if x14 = true then (some (0, 0, 0, 5)) else (pylonref03_Of.l0 k (wrap64 (x0 + 719162)) (wrap64 ((wrap64 (Int.tdiv (wrap64 (x0 + 719162)) 366)) + 1)))
def pylonref03_Of.j2 : Nat → Int → Int → Option (Int × Int × Int × Int)
 | 0, _, _ => none
 | k + 1, x4, x5 => (pylonref03_ahead.f x5).bind fun t340 => (pylonref03_Of.l1 k (wrap64 (x4 - t340)) x5 1)
def pylonref03_Of.l1 : Nat → Int → Int → Int → Option (Int × Int × Int × Int)
 | 0, _, _, _ => none
 | k + 1, x4, x5, x6 => if x6 ≤ 12 then ((pylonref03_Length.f k x5 x6).bind fun bt341 => (if x4 < bt341.1 then (some (x5, x6, wrap64 (x4 + 1), 0)) else (pylonref03_Of.l1 k (wrap64 (x4 - bt341.1)) x5 (wrap64 (x6 + 1))))) else (some (0, 0, 0, 5))
def pylonref03_Of.l0 : Nat → Int → Int → Option (Int × Int × Int × Int)
 | 0, _, _ => none
 | k + 1, x4, x5 => if x5 < 9999 then ((pylonref03_ahead.f (wrap64 (x5 + 1))).bind fun t339 => (if t339 ≤ x4 then (pylonref03_Of.l0 k x4 (wrap64 (x5 + 1))) else (pylonref03_Of.j2 k x4 x5))) else (pylonref03_Of.j2 k x4 x5)
end
def pylonref03_Of.f (k : Nat) (a0 : Int) : Option (Int × Int × Int × Int) := if a0 < (-719162) then (pylonref03_Of.j0 k a0 true) else (pylonref03_Of.j0 k a0 (decide (a0 > 2932896)))
theorem pylonref03_Of.mono_l : ∀ k, (∀ y0 y1, LeO (pylonref03_Of.j0 k y0 y1) (pylonref03_Of.j0 (k + 1) y0 y1)) ∧ (∀ y0 y1, LeO (pylonref03_Of.j2 k y0 y1) (pylonref03_Of.j2 (k + 1) y0 y1)) ∧ (∀ y0 y1 y2, LeO (pylonref03_Of.l1 k y0 y1 y2) (pylonref03_Of.l1 (k + 1) y0 y1 y2)) ∧ (∀ y0 y1, LeO (pylonref03_Of.l0 k y0 y1) (pylonref03_Of.l0 (k + 1) y0 y1))
 | 0 => ⟨fun _ _ r h => by simp [pylonref03_Of.j0] at h, fun _ _ r h => by simp [pylonref03_Of.j2] at h, fun _ _ _ r h => by simp [pylonref03_Of.l1] at h, fun _ _ r h => by simp [pylonref03_Of.l0] at h⟩
 | k + 1 => by
  obtain ⟨ih0, ih1, ih2, ih3⟩ := pylonref03_Of.mono_l k
  refine ⟨?_, ?_, ?_, ?_⟩
  ·intro y0 y1
   unfold pylonref03_Of.j0
   repeat' first
   | (with_reducible exact ih0 _ _)
   | (with_reducible exact ih1 _ _)
   | (with_reducible exact ih2 _ _ _)
   | (with_reducible exact ih3 _ _)
   | (with_reducible exact pylonref03_Length.mono _ _ _)
   | (with_reducible exact LeO.refl _)
   | (with_reducible exact LeO.none _)
   | (with_reducible refine LeO.ite ?_ ?_)
   | (with_reducible refine LeO.bind ?_ (fun _ => ?_))
   | exact ih0 _ _
   | exact ih1 _ _
   | exact ih2 _ _ _
   | exact ih3 _ _
   | exact pylonref03_Length.mono _ _ _
   | exact LeO.none _
   | refine LeO.ite ?_ ?_
   | refine LeO.bind ?_ (fun _ => ?_)
  ·intro y0 y1
   unfold pylonref03_Of.j2
   repeat' first
   | (with_reducible exact ih0 _ _)
   | (with_reducible exact ih1 _ _)
   | (with_reducible exact ih2 _ _ _)
   | (with_reducible exact ih3 _ _)
   | (with_reducible exact pylonref03_Length.mono _ _ _)
   | (with_reducible exact LeO.refl _)
   | (with_reducible exact LeO.none _)
   | (with_reducible refine LeO.ite ?_ ?_)
   | (with_reducible refine LeO.bind ?_ (fun _ => ?_))
   | exact ih0 _ _
   | exact ih1 _ _
   | exact ih2 _ _ _
   | exact ih3 _ _
   | exact pylonref03_Length.mono _ _ _
   | exact LeO.none _
   | refine LeO.ite ?_ ?_
   | refine LeO.bind ?_ (fun _ => ?_)
  ·intro y0 y1 y2
   unfold pylonref03_Of.l1
   repeat' first
   | (with_reducible exact ih0 _ _)
   | (with_reducible exact ih1 _ _)
   | (with_reducible exact ih2 _ _ _)
   | (with_reducible exact ih3 _ _)
   | (with_reducible exact pylonref03_Length.mono _ _ _)
   | (with_reducible exact LeO.refl _)
   | (with_reducible exact LeO.none _)
   | (with_reducible refine LeO.ite ?_ ?_)
   | (with_reducible refine LeO.bind ?_ (fun _ => ?_))
   | exact ih0 _ _
   | exact ih1 _ _
   | exact ih2 _ _ _
   | exact ih3 _ _
   | exact pylonref03_Length.mono _ _ _
   | exact LeO.none _
   | refine LeO.ite ?_ ?_
   | refine LeO.bind ?_ (fun _ => ?_)
  ·intro y0 y1
   unfold pylonref03_Of.l0
   repeat' first
   | (with_reducible exact ih0 _ _)
   | (with_reducible exact ih1 _ _)
   | (with_reducible exact ih2 _ _ _)
   | (with_reducible exact ih3 _ _)
   | (with_reducible exact pylonref03_Length.mono _ _ _)
   | (with_reducible exact LeO.refl _)
   | (with_reducible exact LeO.none _)
   | (with_reducible refine LeO.ite ?_ ?_)
   | (with_reducible refine LeO.bind ?_ (fun _ => ?_))
   | exact ih0 _ _
   | exact ih1 _ _
   | exact ih2 _ _ _
   | exact ih3 _ _
   | exact pylonref03_Length.mono _ _ _
   | exact LeO.none _
   | refine LeO.ite ?_ ?_
   | refine LeO.bind ?_ (fun _ => ?_)
theorem pylonref03_Of.mono : ∀ a0 k, LeO (pylonref03_Of.f k a0) (pylonref03_Of.f (k + 1) a0) := by
 intro a0 k
 obtain ⟨ih0, ih1, ih2, ih3⟩ := pylonref03_Of.mono_l k
 unfold pylonref03_Of.f
 repeat' first
   | (with_reducible exact ih0 _ _)
   | (with_reducible exact ih1 _ _)
   | (with_reducible exact ih2 _ _ _)
   | (with_reducible exact ih3 _ _)
   | (with_reducible exact pylonref03_Length.mono _ _ _)
   | (with_reducible exact LeO.refl _)
   | (with_reducible exact LeO.none _)
   | (with_reducible refine LeO.ite ?_ ?_)
   | (with_reducible refine LeO.bind ?_ (fun _ => ?_))
   | exact ih0 _ _
   | exact ih1 _ _
   | exact ih2 _ _ _
   | exact ih3 _ _
   | exact pylonref03_Length.mono _ _ _
   | exact LeO.none _
   | refine LeO.ite ?_ ?_
   | refine LeO.bind ?_ (fun _ => ?_)
set_option maxHeartbeats 8000000 in
set_option maxRecDepth 100000 in
theorem pylonref03_Of.calls (k : Nat) (a0 : Int) (r1 : Int) (r2 : Int) (r3 : Int) (r4 : Int) (w : World) (h : pylonref03_Of.f k a0 = some (r1, r2, r3, r4)) :
  Calls Try.prog 25 #[.int .i64 a0] w fun e w' => e = .returned (.tuple #[.agg #[.int .i64 r1, .int .i64 r2, .int .i64 r3], .int .i64 r4]) ∧ Below w.heap.size w w' := by
 have hu33 := Try.underlying33
 have HB := Aside0.mk (Below.refl w.heap.size w)
 have H : (if a0 < (-719162) then (pylonref03_Of.j0 k a0 true) else (pylonref03_Of.j0 k a0 (decide (a0 > 2932896)))) = some (r1, r2, r3, r4) := h
 clear h
 have HC2 := Aside0.mk H
 clear H
 go_enter Try.func25, Try.ntmps25
 go_upto_region 1 with (first | ((with_reducible refine gate_dst (N := 2) rfl ?_); refine box_event ?hg (N := 2) ?hd (cs := #[.int .i64 0, .int .i64 0, .int .i64 0]) (t := 33) ?hr ?_; (case hd => rfl); (case hg => rfl); (case hr => first | (go_simp; done) | (go_simp; rfl)); intro gb338 hg w3 hbox hb; have n0_ := Aside0.mk (below_step (by repeat (first | (with_reducible first | exact HB.out | apply below_alloc | apply pw_below_drewN | apply below_drew1) | exact HB.out)) hb); have n1_ := Aside0.mk (hbox); have n2_ := Aside0.mk ((by rw [hg]; exact (below_size (by repeat (first | (with_reducible first | exact HB.out | apply below_alloc | apply pw_below_drewN | apply below_drew1) | exact HB.out))) : w.heap.size ≤ gb338)); have n3_ := Aside0.mk ((by rw [hg]; exact (below_size (by repeat (first | (with_reducible first | exact HB.out | apply below_alloc | apply pw_below_drewN | apply below_drew1) | exact HB.out))) : w.heap.size ≤ gb338)); clear HB; have HB := n0_; have BK338 := n1_; have GW338 := n2_; have GE338 := n3_; clear n0_ n1_ n2_ n3_; clear hb hbox hg))
 (try simp only [Act.put, List.setIfInBounds_toArray, List.set_cons_zero, List.set_cons_succ])
 go_cut [14] (fun v14 wc => ∃ (kq : Nat) (x14_1 : Bool), v14 = .bool x14_1 ∧ Aside0 (pylonref03_Of.j0 kq a0 x14_1 = some (r1, r2, r3, r4)) ∧ Aside0 (kq ≤ k) ∧ Aside0 (wc.heap[gb338]? = some (.cells #[.int .i64 0, .int .i64 0, .int .i64 0] 33 (0, 0))) ∧ Aside0 (Below w.heap.size w wc))
 case first =>
  have H := HC2.out
  clear HC2
  by_cases c4 : a0 < (-719162)
  ·rw [if_pos c4] at H
   have c4b0 : decide (a0 < (-719162)) = true := decide_eq_true c4
   clear c4
   (first | rw [c4b0] | (simp only [i64_w, i32_w]; rw [c4b0]) | skip)
   have H' := Aside0.mk H
   clear H
   go_wp2
   go_meet
   case rel => exact ⟨_, (true), (by first | rfl | (simp; done) | (simp [*]; done)), H', ⟨by first | omega | exact Nat.le_refl _⟩, ⟨by (with_reducible repeat first|refine blk_drewN ?_ _|refine blk_drew ?_|refine blk_alloc ?_ _); exact BK338.out⟩, ⟨by repeat (first | (with_reducible first | exact HB.out | apply below_alloc | apply pw_below_drewN | apply below_drew1 | refine below_set ?_ GE338.out) | exact HB.out)⟩⟩
  ·rw [if_neg c4] at H
   have c4b0 : decide (a0 < (-719162)) = false := decide_eq_false c4
   clear c4
   (first | rw [c4b0] | (simp only [i64_w, i32_w]; rw [c4b0]) | skip)
   have H' := Aside0.mk H
   clear H
   go_wp2
   go_meet
   case rel => exact ⟨_, (decide (a0 > 2932896)), (by first | rfl | (simp; done) | (simp [*]; done)), H', ⟨by first | omega | exact Nat.le_refl _⟩, ⟨by (with_reducible repeat first|refine blk_drewN ?_ _|refine blk_drew ?_|refine blk_alloc ?_ _); exact BK338.out⟩, ⟨by repeat (first | (with_reducible first | exact HB.out | apply below_alloc | apply pw_below_drewN | apply below_drew1 | refine below_set ?_ GE338.out) | exact HB.out)⟩⟩
 case rest =>
  clear HC2
  try clear c2
  try clear p2
  try clear c4
  try clear c4b0
  obtain ⟨kq, x14_1, rfl, HA, HJ1, BK338, HB⟩ := hcut
  cases kq with
  | zero => exact absurd HA.out (by simp [pylonref03_Of.j0])
  | succ kj1 =>
   have H := HA.out
   clear HA
   simp only [pylonref03_Of.j0] at H
   by_cases c5 : x14_1 = true
   ·subst c5
    have H1 : (some (0, 0, 0, 5)) = some (r1, r2, r3, r4) := by rw [if_pos rfl] at H; exact H
    clear H
    have H := H1
    clear H1
    simp only [Option.some.injEq, Prod.mk.injEq] at H
    obtain ⟨rfl, rfl, rfl, rfl⟩ := H
    have hcz6_0 : wc.cell? ⟨gb338, 0, none⟩ = some (.int .i64 0) := (blk_cell BK338.out 0).trans rfl
    have hcz6_1 : wc.cell? ⟨gb338, 1, none⟩ = some (.int .i64 0) := (blk_cell BK338.out 1).trans rfl
    have hcz6_2 : wc.cell? ⟨gb338, 2, none⟩ = some (.int .i64 0) := (blk_cell BK338.out 2).trans rfl
    have hfz6_0 := blk_frozen BK338.out 0
    have hfz6_1 := blk_frozen BK338.out 1
    have hfz6_2 := blk_frozen BK338.out 2
    go_wp2
    refine bodyPost_ret (results_ct rfl _ _ gb338 33 #[.int .i64 0, .int .i64 0, .int .i64 0] (0, 0) _ rfl (by (with_reducible repeat first|refine blk_drewN ?_ _|refine blk_drew ?_|refine blk_alloc ?_ _); refine blk_put (cs := #[.int .i64 0, .int .i64 0, .int .i64 0]) ?_ 2 _ rfl; (with_reducible repeat first|refine blk_drewN ?_ _|refine blk_drew ?_|refine blk_alloc ?_ _); refine blk_put (cs := #[.int .i64 0, .int .i64 0, .int .i64 0]) ?_ 1 _ rfl; (with_reducible repeat first|refine blk_drewN ?_ _|refine blk_drew ?_|refine blk_alloc ?_ _); refine blk_put (cs := #[.int .i64 0, .int .i64 0, .int .i64 0]) ?_ 0 _ rfl; (with_reducible repeat first|refine blk_drewN ?_ _|refine blk_drew ?_|refine blk_alloc ?_ _); exact BK338.out) Try.underlying33 rfl (by kernel_rfl)) rfl ?_
    exact ⟨by first | rfl | (simp [errW_none, errW_some] <;> rfl) | (simp [*, errW_none, errW_some] <;> rfl), by repeat (first | (with_reducible first | exact HB.out | apply below_alloc | apply pw_below_drewN | apply below_drew1 | refine below_set ?_ GE338.out) | exact HB.out)⟩
   ·replace c5 := Bool.eq_false_iff.mpr c5
    subst c5
    have H1 : (pylonref03_Of.l0 kj1 (wrap64 (a0 + 719162)) (wrap64 ((wrap64 (Int.tdiv (wrap64 (a0 + 719162)) 366)) + 1))) = some (r1, r2, r3, r4) := by rw [if_neg (show ¬ (false = true) by decide)] at H; exact H
    clear H
    have H := H1
    clear H1
    have HC7 := Aside0.mk H
    clear H
    go_upto_block 0 with (fail)
    go_cut [5] (fun v5 wc => ∃ (kq : Nat) (x5_6 : Int), v5 = .int .i64 x5_6 ∧ Aside0 (pylonref03_Of.j2 kq (wrap64 (a0 + 719162)) x5_6 = some (r1, r2, r3, r4)) ∧ Aside0 (kq ≤ kj1) ∧ Aside0 (wc.heap[gb338]? = some (.cells #[.int .i64 0, .int .i64 0, .int .i64 0] 33 (0, 0))) ∧ Aside0 (Below w.heap.size w wc))
    case first =>
     have H := HC7.out
     clear HC7
     have H' := Aside0.mk H
     clear H
     go_wp2
     go_loopg [5] kj1 (fun kq v5 w' => ∃ (x5_2 : Int), v5 = .int .i64 x5_2 ∧ Aside0 (pylonref03_Of.l0 kq (wrap64 (a0 + 719162)) x5_2 = some (r1, r2, r3, r4)) ∧ Aside0 (kq ≤ kj1) ∧ Aside0 (w'.heap[gb338]? = some (.cells #[.int .i64 0, .int .i64 0, .int .i64 0] 33 (0, 0))) ∧ Aside0 (Below w.heap.size w w'))
     case atStart => exact ⟨(wrap64 ((wrap64 (Int.tdiv (wrap64 (a0 + 719162)) 366)) + 1)), (by first | rfl | (simp; done) | (simp [*]; done)), H', ⟨Nat.le_refl _⟩, ⟨by (with_reducible repeat first|refine blk_drewN ?_ _|refine blk_drew ?_|refine blk_alloc ?_ _); exact BK338.out⟩, ⟨by repeat (first | (with_reducible first | exact HB.out | apply below_alloc | apply pw_below_drewN | apply below_drew1 | refine below_set ?_ GE338.out) | exact HB.out)⟩⟩
     case round =>
      clear H'
      try clear c2
      try clear p2
      try clear c4
      try clear c4b0
      try clear c5
      try clear p6
      try clear hcz6_0
      try clear hcz6_1
      try clear hcz6_2
      try clear hfz6_0
      try clear hfz6_1
      try clear hfz6_2
      try clear p2
      obtain ⟨x5_2, rfl, HA, HK2, BK338, HB⟩ := hrel
      cases gk with
      | zero => exact absurd HA.out (by simp [pylonref03_Of.l0])
      | succ k2 =>
       have H := HA.out
       clear HA
       simp only [pylonref03_Of.l0] at H
       by_cases c8 : x5_2 < 9999
       ·rw [if_pos c8] at H
        have c8b0 : decide (x5_2 < 9999) = true := decide_eq_true c8
        clear c8
        (first | rw [c8b0] | (simp only [i64_w, i32_w]; rw [c8b0]) | skip)
        replace H := Option.bind_eq_some_iff.mp H
        obtain ⟨t339, A90, H⟩ := H
        replace H : (if t339 ≤ (wrap64 (a0 + 719162)) then (pylonref03_Of.l0 k2 (wrap64 (a0 + 719162)) (wrap64 (x5_2 + 1))) else (pylonref03_Of.j2 k2 (wrap64 (a0 + 719162)) x5_2)) = some (r1, r2, r3, r4) := H
        have A9 := Aside0.mk A90
        clear A90
        by_cases c10 : t339 ≤ (wrap64 (a0 + 719162))
        ·rw [if_pos c10] at H
         have c10b0 : decide (t339 ≤ (wrap64 (a0 + 719162))) = true := decide_eq_true c10
         clear c10
         have H' := Aside0.mk H
         clear H
         go_wp2_with (first | (go_at_call 47; (with_reducible refine (pylonref03_ahead.calls (wrap64 (x5_2 + 1)) t339 _ A9.out).mono ?_); rintro e w' ⟨rfl, ⟨nd, rfl⟩⟩))
         go_roundg k2
         case measure => have := HJ1.out; have := HK2.out; omega
         case rel => exact ⟨(wrap64 (x5_2 + 1)), (by first | rfl | (simp; done) | (simp [*]; done)), H', ⟨by have := HJ1.out; have := HK2.out; omega⟩, ⟨by (with_reducible repeat first|refine blk_drewN ?_ _|refine blk_drew ?_|refine blk_alloc ?_ _); exact BK338.out⟩, ⟨by repeat (first | (with_reducible first | exact HB.out | apply below_alloc | apply pw_below_drewN | apply below_drew1 | refine below_set ?_ GE338.out) | exact HB.out)⟩⟩
        ·rw [if_neg c10] at H
         have c10b0 : decide (t339 ≤ (wrap64 (a0 + 719162))) = false := decide_eq_false c10
         clear c10
         have H' := Aside0.mk H
         clear H
         go_wp2_with (first | (go_at_call 47; (with_reducible refine (pylonref03_ahead.calls (wrap64 (x5_2 + 1)) t339 _ A9.out).mono ?_); rintro e w' ⟨rfl, ⟨nd, rfl⟩⟩))
         go_meet
         case rel => exact ⟨_, (x5_2), (by first | rfl | (simp; done) | (simp [*]; done)), H', ⟨by have := HJ1.out; have := HK2.out; first | omega | exact Nat.le_refl _⟩, ⟨by (with_reducible repeat first|refine blk_drewN ?_ _|refine blk_drew ?_|refine blk_alloc ?_ _); exact BK338.out⟩, ⟨by repeat (first | (with_reducible first | exact HB.out | apply below_alloc | apply pw_below_drewN | apply below_drew1 | refine below_set ?_ GE338.out) | exact HB.out)⟩⟩
       ·rw [if_neg c8] at H
        have c8b0 : decide (x5_2 < 9999) = false := decide_eq_false c8
        clear c8
        (first | rw [c8b0] | (simp only [i64_w, i32_w]; rw [c8b0]) | skip)
        have H' := Aside0.mk H
        clear H
        go_wp2
        go_meet
        case rel => exact ⟨_, (x5_2), (by first | rfl | (simp; done) | (simp [*]; done)), H', ⟨by have := HJ1.out; have := HK2.out; first | omega | exact Nat.le_refl _⟩, ⟨by (with_reducible repeat first|refine blk_drewN ?_ _|refine blk_drew ?_|refine blk_alloc ?_ _); exact BK338.out⟩, ⟨by repeat (first | (with_reducible first | exact HB.out | apply below_alloc | apply pw_below_drewN | apply below_drew1 | refine below_set ?_ GE338.out) | exact HB.out)⟩⟩
    case rest =>
     clear HC7
     try clear c1
     try clear c2
     try clear p2
     try clear c4
     try clear c4b0
     try clear c5
     try clear p6
     try clear c8
     try clear c8b0
     try clear c10
     try clear c10b0
     try clear hcz6_0
     try clear hcz6_1
     try clear hcz6_2
     try clear hfz6_0
     try clear hfz6_1
     try clear hfz6_2
     try clear p2
     try clear p6
     obtain ⟨kq, x5_6, rfl, HA, HJ6, BK338, HB⟩ := hcut
     cases kq with
     | zero => exact absurd HA.out (by simp [pylonref03_Of.j2])
     | succ kj6 =>
      have H := HA.out
      clear HA
      simp only [pylonref03_Of.j2] at H
      replace H := Option.bind_eq_some_iff.mp H
      obtain ⟨t340, A110, H⟩ := H
      replace H : (pylonref03_Of.l1 kj6 (wrap64 ((wrap64 (a0 + 719162)) - t340)) x5_6 1) = some (r1, r2, r3, r4) := H
      have A11 := Aside0.mk A110
      clear A110
      have H' := Aside0.mk H
      clear H
      go_wp2_with (first | ((with_reducible refine gate_callee (f := 47) rfl ?_); refine goesL_ (some 34) rfl rfl Try.func47 (by kernel_rfl) rfl #[.int .i64 x5_6] rfl (by (try simp only [List.map_toArray, List.map_cons, List.map_nil]); first | done | rfl | (simp only [List.length_drop, List.length_take]; rfl)) ?_; (with_reducible refine (pylonref03_ahead.calls x5_6 t340 _ A11.out).mono ?_); rintro e w' ⟨rfl, ⟨nd, rfl⟩⟩; refine ⟨_, rfl, ?_⟩))
      go_loopg [4, 6] kj6 (fun kq v4 v6 w' => ∃ (x4_3 : Int) (x6_3 : Int) (x339000_3 : Int) (x339001_3 : Int) (x339002_3 : Int), v4 = .int .i64 x4_3 ∧ v6 = .int .i64 x6_3 ∧ Aside0 (pylonref03_Of.l1 kq x4_3 x5_6 x6_3 = some (r1, r2, r3, r4)) ∧ Aside0 (kq ≤ kj6) ∧ Aside0 (w'.heap[gb338]? = some (.cells #[.int .i64 x339000_3, .int .i64 x339001_3, .int .i64 x339002_3] 33 (0, 0))) ∧ Aside0 (Below w.heap.size w w'))
      case atStart => exact ⟨(wrap64 ((wrap64 (a0 + 719162)) - t340)), (1), (0), (0), (0), (by first | rfl | (simp; done) | (simp [*]; done)), (by first | rfl | (simp; done) | (simp [*]; done)), H', ⟨Nat.le_refl _⟩, ⟨by (with_reducible repeat first|refine blk_drewN ?_ _|refine blk_drew ?_|refine blk_alloc ?_ _); exact BK338.out⟩, ⟨by repeat (first | (with_reducible first | exact HB.out | apply below_alloc | apply pw_below_drewN | apply below_drew1 | refine below_set ?_ GE338.out) | exact HB.out)⟩⟩
      case round =>
       clear H'
       try clear c1
       try clear c2
       try clear p2
       try clear c4
       try clear c4b0
       try clear c5
       try clear p6
       try clear c8
       try clear c8b0
       try clear c10
       try clear c10b0
       try clear hcz6_0
       try clear hcz6_1
       try clear hcz6_2
       try clear hfz6_0
       try clear hfz6_1
       try clear hfz6_2
       try clear p2
       try clear p6
       obtain ⟨x4_3, x6_3, x339000_3, x339001_3, x339002_3, rfl, rfl, HA, HK3, BK338, HB⟩ := hrel
       cases gk with
       | zero => exact absurd HA.out (by simp [pylonref03_Of.l1])
       | succ k3 =>
        have H := HA.out
        clear HA
        simp only [pylonref03_Of.l1] at H
        by_cases c12 : x6_3 ≤ 12
        ·rw [if_pos c12] at H
         have c12b0 : decide (x6_3 ≤ 12) = true := decide_eq_true c12
         clear c12
         replace H := Option.bind_eq_some_iff.mp H
         obtain ⟨⟨t341, t342⟩, A130, H⟩ := H
         replace H : (if x4_3 < t341 then (some (x5_6, x6_3, wrap64 (x4_3 + 1), 0)) else (pylonref03_Of.l1 k3 (wrap64 (x4_3 - t341)) x5_6 (wrap64 (x6_3 + 1)))) = some (r1, r2, r3, r4) := H
         have A13 := Aside0.mk A130
         clear A130
         by_cases c14 : x4_3 < t341
         ·rw [if_pos c14] at H
          have c14b0 : decide (x4_3 < t341) = true := decide_eq_true c14
          clear c14
          simp only [Option.some.injEq, Prod.mk.injEq] at H
          obtain ⟨rfl, rfl, rfl, rfl⟩ := H
          go_wp2_with (first | ((with_reducible refine gate_callee (f := 51) rfl ?_); refine goesL_ (some 43) rfl rfl Try.func51 (by kernel_rfl) rfl #[.int .i64 x5_6, .int .i64 x6_3] rfl (by (try simp only [List.map_toArray, List.map_cons, List.map_nil]); first | done | rfl | (simp only [List.length_drop, List.length_take]; rfl)) ?_; (with_reducible refine (pylonref03_Length.calls k3 x5_6 x6_3 t341 t342 _ A13.out).mono ?_); rintro e w' ⟨rfl, ⟨nd, rfl⟩⟩; refine ⟨_, rfl, ?_⟩; (try (rw [drewN_self wr]; generalize hq_ : World.drewN wr _ = wr; have n0_ : Aside0 (wr.heap[gb338]? = some (.cells #[.int .i64 x339000_3, .int .i64 x339001_3, .int .i64 x339002_3] 33 (0, 0))) := ⟨by rw [← hq_]; exact (by (with_reducible repeat first|refine blk_drewN ?_ _|refine blk_drew ?_|refine blk_alloc ?_ _); exact BK338.out)⟩; have n1_ : Aside0 (Below w.heap.size w wr) := ⟨by rw [← hq_]; exact (by repeat (first | (with_reducible first | exact HB.out | apply below_alloc | apply pw_below_drewN | apply below_drew1 | refine below_set ?_ GE338.out) | exact HB.out))⟩; clear BK338 HB hq_; have BK338 := n0_; have HB := n1_; clear n0_ n1_)); have hcz15_0 : wr.cell? ⟨gb338, 0, none⟩ = some (.int .i64 x339000_3) := (blk_cell BK338.out 0).trans rfl; have hcz15_1 : wr.cell? ⟨gb338, 1, none⟩ = some (.int .i64 x339001_3) := (blk_cell BK338.out 1).trans rfl; have hcz15_2 : wr.cell? ⟨gb338, 2, none⟩ = some (.int .i64 x339002_3) := (blk_cell BK338.out 2).trans rfl; have hfz15_0 := blk_frozen BK338.out 0; have hfz15_1 := blk_frozen BK338.out 1; have hfz15_2 := blk_frozen BK338.out 2))
          refine bodyPost_ret (results_ct rfl _ _ gb338 33 #[.int .i64 x5_6, .int .i64 x6_3, .int .i64 (wrap64 (x4_3 + 1))] (0, 0) _ rfl (by (with_reducible repeat first|refine blk_drewN ?_ _|refine blk_drew ?_|refine blk_alloc ?_ _); refine blk_put (cs := #[.int .i64 x5_6, .int .i64 x6_3, .int .i64 x339002_3]) ?_ 2 _ rfl; (with_reducible repeat first|refine blk_drewN ?_ _|refine blk_drew ?_|refine blk_alloc ?_ _); refine blk_put (cs := #[.int .i64 x5_6, .int .i64 x339001_3, .int .i64 x339002_3]) ?_ 1 _ rfl; (with_reducible repeat first|refine blk_drewN ?_ _|refine blk_drew ?_|refine blk_alloc ?_ _); refine blk_put (cs := #[.int .i64 x339000_3, .int .i64 x339001_3, .int .i64 x339002_3]) ?_ 0 _ rfl; (with_reducible repeat first|refine blk_drewN ?_ _|refine blk_drew ?_|refine blk_alloc ?_ _); exact BK338.out) Try.underlying33 rfl (by kernel_rfl)) rfl ?_
          exact ⟨by first | rfl | (simp [errW_none, errW_some] <;> rfl) | (simp [*, errW_none, errW_some] <;> rfl), by repeat (first | (with_reducible first | exact HB.out | apply below_alloc | apply pw_below_drewN | apply below_drew1 | refine below_set ?_ GE338.out) | exact HB.out)⟩
         ·rw [if_neg c14] at H
          have c14b0 : decide (x4_3 < t341) = false := decide_eq_false c14
          clear c14
          have H' := Aside0.mk H
          clear H
          go_wp2_with (first | ((with_reducible refine gate_callee (f := 51) rfl ?_); refine goesL_ (some 43) rfl rfl Try.func51 (by kernel_rfl) rfl #[.int .i64 x5_6, .int .i64 x6_3] rfl (by (try simp only [List.map_toArray, List.map_cons, List.map_nil]); first | done | rfl | (simp only [List.length_drop, List.length_take]; rfl)) ?_; (with_reducible refine (pylonref03_Length.calls k3 x5_6 x6_3 t341 t342 _ A13.out).mono ?_); rintro e w' ⟨rfl, ⟨nd, rfl⟩⟩; refine ⟨_, rfl, ?_⟩))
          go_roundg k3
          case measure => have := HJ1.out; have := HJ6.out; have := HK3.out; omega
          case rel => exact ⟨(wrap64 (x4_3 - t341)), (wrap64 (x6_3 + 1)), (x339000_3), (x339001_3), (x339002_3), (by first | rfl | (simp; done) | (simp [*]; done)), (by first | rfl | (simp; done) | (simp [*]; done)), H', ⟨by have := HJ1.out; have := HJ6.out; have := HK3.out; omega⟩, ⟨by (with_reducible repeat first|refine blk_drewN ?_ _|refine blk_drew ?_|refine blk_alloc ?_ _); exact BK338.out⟩, ⟨by repeat (first | (with_reducible first | exact HB.out | apply below_alloc | apply pw_below_drewN | apply below_drew1 | refine below_set ?_ GE338.out) | exact HB.out)⟩⟩
        ·rw [if_neg c12] at H
         have c12b0 : decide (x6_3 ≤ 12) = false := decide_eq_false c12
         clear c12
         simp only [Option.some.injEq, Prod.mk.injEq] at H
         obtain ⟨rfl, rfl, rfl, rfl⟩ := H
         have hcz16_0 : wr.cell? ⟨gb338, 0, none⟩ = some (.int .i64 x339000_3) := (blk_cell BK338.out 0).trans rfl
         have hcz16_1 : wr.cell? ⟨gb338, 1, none⟩ = some (.int .i64 x339001_3) := (blk_cell BK338.out 1).trans rfl
         have hcz16_2 : wr.cell? ⟨gb338, 2, none⟩ = some (.int .i64 x339002_3) := (blk_cell BK338.out 2).trans rfl
         have hfz16_0 := blk_frozen BK338.out 0
         have hfz16_1 := blk_frozen BK338.out 1
         have hfz16_2 := blk_frozen BK338.out 2
         go_wp2
         refine bodyPost_ret (results_ct rfl _ _ gb338 33 #[.int .i64 0, .int .i64 0, .int .i64 0] (0, 0) _ rfl (by (with_reducible repeat first|refine blk_drewN ?_ _|refine blk_drew ?_|refine blk_alloc ?_ _); refine blk_put (cs := #[.int .i64 0, .int .i64 0, .int .i64 x339002_3]) ?_ 2 _ rfl; (with_reducible repeat first|refine blk_drewN ?_ _|refine blk_drew ?_|refine blk_alloc ?_ _); refine blk_put (cs := #[.int .i64 0, .int .i64 x339001_3, .int .i64 x339002_3]) ?_ 1 _ rfl; (with_reducible repeat first|refine blk_drewN ?_ _|refine blk_drew ?_|refine blk_alloc ?_ _); refine blk_put (cs := #[.int .i64 x339000_3, .int .i64 x339001_3, .int .i64 x339002_3]) ?_ 0 _ rfl; (with_reducible repeat first|refine blk_drewN ?_ _|refine blk_drew ?_|refine blk_alloc ?_ _); exact BK338.out) Try.underlying33 rfl (by kernel_rfl)) rfl ?_
         exact ⟨by first | rfl | (simp [errW_none, errW_some] <;> rfl) | (simp [*, errW_none, errW_some] <;> rfl), by repeat (first | (with_reducible first | exact HB.out | apply below_alloc | apply pw_below_drewN | apply below_drew1 | refine below_set ?_ GE338.out) | exact HB.out)⟩

/-! ### pylonref04_shown: function 61 -/
def pylonref04_shown.j0 : Nat → Int → Int → Bool → Option (Int × Int × Int × Int × Bool)
 | 0, _, _, _ => none
 | k + 1, x0, x1, x17 => if x17 = true then (some (0, 0, 0, 0, false)) else (if (Int.tmod (wrap64 (x0 + (wrap64 (x1 * 60)))) 86400) < 0 then ((pylonref03_Of.f k (wrap64 ((wrap64 (Int.tdiv (wrap64 (x0 + (wrap64 (x1 * 60)))) 86400)) - 1))).bind fun bt344 => (some (bt344.1, bt344.2.1, bt344.2.2.1, wrap64 ((Int.tmod (wrap64 (x0 + (wrap64 (x1 * 60)))) 86400) + 86400), (bt344.2.2.2 == 0)))) else ((pylonref03_Of.f k (wrap64 (Int.tdiv (wrap64 (x0 + (wrap64 (x1 * 60)))) 86400))).bind fun bt349 => (some (bt349.1, bt349.2.1, bt349.2.2.1, Int.tmod (wrap64 (x0 + (wrap64 (x1 * 60)))) 86400, (bt349.2.2.2 == 0)))))
def pylonref04_shown.f (k : Nat) (a0 : Int) (a1 : Int) : Option (Int × Int × Int × Int × Bool) := if a0 < (-62200000000) then (pylonref04_shown.j0 k a0 a1 true) else (pylonref04_shown.j0 k a0 a1 (decide (a0 > 253500000000)))
theorem pylonref04_shown.mono_l : ∀ k, (∀ y0 y1 y2, LeO (pylonref04_shown.j0 k y0 y1 y2) (pylonref04_shown.j0 (k + 1) y0 y1 y2))
 | 0 => fun _ _ _ r h => by simp [pylonref04_shown.j0] at h
 | k + 1 => by
  have ih0 := pylonref04_shown.mono_l k
  ·intro y0 y1 y2
   unfold pylonref04_shown.j0
   repeat' first
   | (with_reducible exact ih0 _ _ _)
   | (with_reducible exact pylonref03_Of.mono _ _)
   | (with_reducible exact LeO.refl _)
   | (with_reducible exact LeO.none _)
   | (with_reducible refine LeO.ite ?_ ?_)
   | (with_reducible refine LeO.bind ?_ (fun _ => ?_))
   | exact ih0 _ _ _
   | exact pylonref03_Of.mono _ _
   | exact LeO.none _
   | refine LeO.ite ?_ ?_
   | refine LeO.bind ?_ (fun _ => ?_)
theorem pylonref04_shown.mono : ∀ a0 a1 k, LeO (pylonref04_shown.f k a0 a1) (pylonref04_shown.f (k + 1) a0 a1) := by
 intro a0 a1 k
 have ih0 := pylonref04_shown.mono_l k
 unfold pylonref04_shown.f
 repeat' first
   | (with_reducible exact ih0 _ _ _)
   | (with_reducible exact pylonref03_Of.mono _ _)
   | (with_reducible exact LeO.refl _)
   | (with_reducible exact LeO.none _)
   | (with_reducible refine LeO.ite ?_ ?_)
   | (with_reducible refine LeO.bind ?_ (fun _ => ?_))
   | exact ih0 _ _ _
   | exact pylonref03_Of.mono _ _
   | exact LeO.none _
   | refine LeO.ite ?_ ?_
   | refine LeO.bind ?_ (fun _ => ?_)
set_option maxHeartbeats 8000000 in
set_option maxRecDepth 100000 in
theorem pylonref04_shown.calls (k : Nat) (a0 : Int) (a1 : Int) (r1 : Int) (r2 : Int) (r3 : Int) (r4 : Int) (r5 : Bool) (w : World) (h : pylonref04_shown.f k a0 a1 = some (r1, r2, r3, r4, r5)) :
  Calls Try.prog 61 #[.int .i64 a0, .int .i64 a1] w fun e w' => e = .returned (.tuple #[.agg #[.int .i64 r1, .int .i64 r2, .int .i64 r3], .int .i64 r4, .bool r5]) ∧ Below w.heap.size w w' := by
 have hu33 := Try.underlying33
 have HB := Aside0.mk (Below.refl w.heap.size w)
 have H : (if a0 < (-62200000000) then (pylonref04_shown.j0 k a0 a1 true) else (pylonref04_shown.j0 k a0 a1 (decide (a0 > 253500000000)))) = some (r1, r2, r3, r4, r5) := h
 clear h
 have HC3 := Aside0.mk H
 clear H
 go_enter Try.func61, Try.ntmps61
 go_upto_region 1 with (first | ((with_reducible refine gate_dst (N := 4) rfl ?_); refine box_event ?hg (N := 4) ?hd (cs := #[.int .i64 0, .int .i64 0, .int .i64 0]) (t := 33) ?hr ?_; (case hd => rfl); (case hg => rfl); (case hr => first | (go_simp; done) | (go_simp; rfl)); intro gb343 hg w4 hbox hb; have n0_ := Aside0.mk (below_step (by repeat (first | (with_reducible first | exact HB.out | apply below_alloc | apply pw_below_drewN | apply below_drew1) | exact HB.out)) hb); have n1_ := Aside0.mk (hbox); have n2_ := Aside0.mk ((by rw [hg]; exact (below_size (by repeat (first | (with_reducible first | exact HB.out | apply below_alloc | apply pw_below_drewN | apply below_drew1) | exact HB.out))) : w.heap.size ≤ gb343)); have n3_ := Aside0.mk ((by rw [hg]; exact (below_size (by repeat (first | (with_reducible first | exact HB.out | apply below_alloc | apply pw_below_drewN | apply below_drew1) | exact HB.out))) : w.heap.size ≤ gb343)); clear HB; have HB := n0_; have BK343 := n1_; have GW343 := n2_; have GE343 := n3_; clear n0_ n1_ n2_ n3_; clear hb hbox hg))
 (try simp only [Act.put, List.setIfInBounds_toArray, List.set_cons_zero, List.set_cons_succ])
 go_cut [17] (fun v17 wc => ∃ (kq : Nat) (x17_2 : Bool), v17 = .bool x17_2 ∧ Aside0 (pylonref04_shown.j0 kq a0 a1 x17_2 = some (r1, r2, r3, r4, r5)) ∧ Aside0 (kq ≤ k) ∧ Aside0 (wc.heap[gb343]? = some (.cells #[.int .i64 0, .int .i64 0, .int .i64 0] 33 (0, 0))) ∧ Aside0 (Below w.heap.size w wc))
 case first =>
  have H := HC3.out
  clear HC3
  by_cases c5 : a0 < (-62200000000)
  ·rw [if_pos c5] at H
   have c5b0 : decide (a0 < (-62200000000)) = true := decide_eq_true c5
   clear c5
   (first | rw [c5b0] | (simp only [i64_w, i32_w]; rw [c5b0]) | skip)
   have H' := Aside0.mk H
   clear H
   go_wp2
   go_meet
   case rel => exact ⟨_, (true), (by first | rfl | (simp; done) | (simp [*]; done)), H', ⟨by first | omega | exact Nat.le_refl _⟩, ⟨by (with_reducible repeat first|refine blk_drewN ?_ _|refine blk_drew ?_|refine blk_alloc ?_ _); exact BK343.out⟩, ⟨by repeat (first | (with_reducible first | exact HB.out | apply below_alloc | apply pw_below_drewN | apply below_drew1 | refine below_set ?_ GE343.out) | exact HB.out)⟩⟩
  ·rw [if_neg c5] at H
   have c5b0 : decide (a0 < (-62200000000)) = false := decide_eq_false c5
   clear c5
   (first | rw [c5b0] | (simp only [i64_w, i32_w]; rw [c5b0]) | skip)
   have H' := Aside0.mk H
   clear H
   go_wp2
   go_meet
   case rel => exact ⟨_, (decide (a0 > 253500000000)), (by first | rfl | (simp; done) | (simp [*]; done)), H', ⟨by first | omega | exact Nat.le_refl _⟩, ⟨by (with_reducible repeat first|refine blk_drewN ?_ _|refine blk_drew ?_|refine blk_alloc ?_ _); exact BK343.out⟩, ⟨by repeat (first | (with_reducible first | exact HB.out | apply below_alloc | apply pw_below_drewN | apply below_drew1 | refine below_set ?_ GE343.out) | exact HB.out)⟩⟩
 case rest =>
  clear HC3
  try clear p2
  try clear c5
  try clear c5b0
  obtain ⟨kq, x17_2, rfl, HA, HJ2, BK343, HB⟩ := hcut
  cases kq with
  | zero => exact absurd HA.out (by simp [pylonref04_shown.j0])
  | succ kj2 =>
   have H := HA.out
   clear HA
   simp only [pylonref04_shown.j0] at H
   by_cases c6 : x17_2 = true
   ·subst c6
    have H1 : (some (0, 0, 0, 0, false)) = some (r1, r2, r3, r4, r5) := by rw [if_pos rfl] at H; exact H
    clear H
    have H := H1
    clear H1
    simp only [Option.some.injEq, Prod.mk.injEq] at H
    obtain ⟨rfl, rfl, rfl, rfl, rfl⟩ := H
    have hcz7_0 : wc.cell? ⟨gb343, 0, none⟩ = some (.int .i64 0) := (blk_cell BK343.out 0).trans rfl
    have hcz7_1 : wc.cell? ⟨gb343, 1, none⟩ = some (.int .i64 0) := (blk_cell BK343.out 1).trans rfl
    have hcz7_2 : wc.cell? ⟨gb343, 2, none⟩ = some (.int .i64 0) := (blk_cell BK343.out 2).trans rfl
    have hfz7_0 := blk_frozen BK343.out 0
    have hfz7_1 := blk_frozen BK343.out 1
    have hfz7_2 := blk_frozen BK343.out 2
    go_wp2
    refine bodyPost_ret (results_ctt rfl _ _ gb343 33 #[.int .i64 0, .int .i64 0, .int .i64 0] (0, 0) _ rfl (by (with_reducible repeat first|refine blk_drewN ?_ _|refine blk_drew ?_|refine blk_alloc ?_ _); refine blk_put (cs := #[.int .i64 0, .int .i64 0, .int .i64 0]) ?_ 2 _ rfl; (with_reducible repeat first|refine blk_drewN ?_ _|refine blk_drew ?_|refine blk_alloc ?_ _); refine blk_put (cs := #[.int .i64 0, .int .i64 0, .int .i64 0]) ?_ 1 _ rfl; (with_reducible repeat first|refine blk_drewN ?_ _|refine blk_drew ?_|refine blk_alloc ?_ _); refine blk_put (cs := #[.int .i64 0, .int .i64 0, .int .i64 0]) ?_ 0 _ rfl; (with_reducible repeat first|refine blk_drewN ?_ _|refine blk_drew ?_|refine blk_alloc ?_ _); exact BK343.out) Try.underlying33 rfl (by kernel_rfl)) rfl ?_
    exact ⟨by first | rfl | (simp [errW_none, errW_some] <;> rfl) | (simp [*, errW_none, errW_some] <;> rfl), by repeat (first | (with_reducible first | exact HB.out | apply below_alloc | apply pw_below_drewN | apply below_drew1 | refine below_set ?_ GE343.out) | exact HB.out)⟩
   ·replace c6 := Bool.eq_false_iff.mpr c6
    subst c6
    have H1 : (if (Int.tmod (wrap64 (a0 + (wrap64 (a1 * 60)))) 86400) < 0 then ((pylonref03_Of.f kj2 (wrap64 ((wrap64 (Int.tdiv (wrap64 (a0 + (wrap64 (a1 * 60)))) 86400)) - 1))).bind fun bt344 => (some (bt344.1, bt344.2.1, bt344.2.2.1, wrap64 ((Int.tmod (wrap64 (a0 + (wrap64 (a1 * 60)))) 86400) + 86400), (bt344.2.2.2 == 0)))) else ((pylonref03_Of.f kj2 (wrap64 (Int.tdiv (wrap64 (a0 + (wrap64 (a1 * 60)))) 86400))).bind fun bt349 => (some (bt349.1, bt349.2.1, bt349.2.2.1, Int.tmod (wrap64 (a0 + (wrap64 (a1 * 60)))) 86400, (bt349.2.2.2 == 0))))) = some (r1, r2, r3, r4, r5) := by rw [if_neg (show ¬ (false = true) by decide)] at H; exact H
    clear H
    have H := H1
    clear H1
    by_cases c8 : (Int.tmod (wrap64 (a0 + (wrap64 (a1 * 60)))) 86400) < 0
    ·rw [if_pos c8] at H
     have c8b0 : decide ((Int.tmod (wrap64 (a0 + (wrap64 (a1 * 60)))) 86400) < 0) = true := decide_eq_true c8
     clear c8
     replace H := Option.bind_eq_some_iff.mp H
     obtain ⟨⟨t344, t345, t346, t347⟩, A90, H⟩ := H
     replace H : (some (t344, t345, t346, wrap64 ((Int.tmod (wrap64 (a0 + (wrap64 (a1 * 60)))) 86400) + 86400), (t347 == 0))) = some (r1, r2, r3, r4, r5) := H
     have A9 := Aside0.mk A90
     clear A90
     simp only [Option.some.injEq, Prod.mk.injEq] at H
     obtain ⟨rfl, rfl, rfl, rfl, rfl⟩ := H
     go_wp2_with (first | ((with_reducible refine gate_callee (f := 25) rfl ?_); refine goesL_ (some 35) rfl rfl Try.func25 (by kernel_rfl) rfl #[.int .i64 (wrap64 ((wrap64 (Int.tdiv (wrap64 (a0 + (wrap64 (a1 * 60)))) 86400)) - 1))] rfl (by (try simp only [List.map_toArray, List.map_cons, List.map_nil]); first | done | rfl | (simp only [List.length_drop, List.length_take]; rfl)) ?_; (with_reducible refine (pylonref03_Of.calls kj2 (wrap64 ((wrap64 (Int.tdiv (wrap64 (a0 + (wrap64 (a1 * 60)))) 86400)) - 1)) t344 t345 t346 t347 _ A9.out).mono ?_); rintro e w10 ⟨rfl, hb⟩; refine ⟨_, rfl, ?_⟩; have n0_ := Aside0.mk (blk_below (g := gb343) (o := .cells #[.int .i64 0, .int .i64 0, .int .i64 0] 33 (0, 0)) (by (with_reducible repeat first|refine blk_drewN ?_ _|refine blk_drew ?_|refine blk_alloc ?_ _); exact BK343.out) hb); have n1_ := Aside0.mk (below_step (by repeat (first | (with_reducible first | exact HB.out | apply below_alloc | apply pw_below_drewN | apply below_drew1 | refine below_set ?_ GE343.out) | exact HB.out)) hb); clear BK343; clear HB; have BK343 := n0_; have HB := n1_; clear n0_ n1_; (try clear hb); (try clear hb2); (try clear hk); (try clear hi)) | ((with_reducible refine gate_dst (N := 10) rfl ?_); refine box_event ?hg (N := 10) ?hd (cs := #[.int .i64 0, .int .i64 0, .int .i64 0]) (t := 33) ?hr ?_; (case hd => rfl); (case hg => rfl); (case hr => first | (go_simp; done) | (go_simp; rfl)); intro gb348 hg w11 hbox hb; have n0_ := Aside0.mk (blk_below (g := gb343) (o := .cells #[.int .i64 0, .int .i64 0, .int .i64 0] 33 (0, 0)) (by (with_reducible repeat first|refine blk_drewN ?_ _|refine blk_drew ?_|refine blk_alloc ?_ _); exact BK343.out) hb); have n1_ := Aside0.mk (below_step (by repeat (first | (with_reducible first | exact HB.out | apply below_alloc | apply pw_below_drewN | apply below_drew1 | refine below_set ?_ GE343.out) | exact HB.out)) hb); have n2_ := Aside0.mk (hbox); have n3_ := Aside0.mk ((by rw [hg]; exact (below_size (by repeat (first | (with_reducible first | exact HB.out | apply below_alloc | apply pw_below_drewN | apply below_drew1 | refine below_set ?_ GE343.out) | exact HB.out))) : w.heap.size ≤ gb348)); have n4_ := Aside0.mk ((by rw [hg]; exact (below_size (by repeat (first | (with_reducible first | exact HB.out | apply below_alloc | apply pw_below_drewN | apply below_drew1 | refine below_set ?_ GE343.out) | exact HB.out))) : w.heap.size ≤ gb348)); have n5_ := Aside0.mk ((by rw [hg]; exact Nat.ne_of_lt (blk_lt (g := gb343) (o := .cells #[.int .i64 0, .int .i64 0, .int .i64 0] 33 (0, 0)) (by (with_reducible repeat first|refine blk_drewN ?_ _|refine blk_drew ?_|refine blk_alloc ?_ _); exact BK343.out)) : gb343 ≠ gb348)); have n6_ := Aside0.mk ((by rw [hg]; exact Nat.ne_of_gt (blk_lt (g := gb343) (o := .cells #[.int .i64 0, .int .i64 0, .int .i64 0] 33 (0, 0)) (by (with_reducible repeat first|refine blk_drewN ?_ _|refine blk_drew ?_|refine blk_alloc ?_ _); exact BK343.out)) : gb348 ≠ gb343)); clear BK343; clear HB; have BK343 := n0_; have HB := n1_; have BK348 := n2_; have GW348 := n3_; have GE348 := n4_; have NB343_348 := n5_; have NB348_343 := n6_; clear n0_ n1_ n2_ n3_ n4_ n5_ n6_; clear hb hbox hg; have hnb12 := NB348_343.out; have hnc12 := NB343_348.out; have hcz13_0 : w11.cell? ⟨gb348, 0, none⟩ = some (.int .i64 0) := (blk_cell BK348.out 0).trans rfl; have hcz13_1 : w11.cell? ⟨gb348, 1, none⟩ = some (.int .i64 0) := (blk_cell BK348.out 1).trans rfl; have hcz13_2 : w11.cell? ⟨gb348, 2, none⟩ = some (.int .i64 0) := (blk_cell BK348.out 2).trans rfl; have hfz13_0 := blk_frozen BK348.out 0; have hfz13_1 := blk_frozen BK348.out 1; have hfz13_2 := blk_frozen BK348.out 2; have hcz14_0 : w11.cell? ⟨gb343, 0, none⟩ = some (.int .i64 0) := (blk_cell BK343.out 0).trans rfl; have hcz14_1 : w11.cell? ⟨gb343, 1, none⟩ = some (.int .i64 0) := (blk_cell BK343.out 1).trans rfl; have hcz14_2 : w11.cell? ⟨gb343, 2, none⟩ = some (.int .i64 0) := (blk_cell BK343.out 2).trans rfl; have hfz14_0 := blk_frozen BK343.out 0; have hfz14_1 := blk_frozen BK343.out 1; have hfz14_2 := blk_frozen BK343.out 2))
     refine bodyPost_ret (results_ctt rfl _ _ gb343 33 #[.int .i64 t344, .int .i64 t345, .int .i64 t346] (0, 0) _ rfl (by (with_reducible repeat first|refine blk_drewN ?_ _|refine blk_drew ?_|refine blk_alloc ?_ _); refine blk_put (cs := #[.int .i64 t344, .int .i64 t345, .int .i64 0]) ?_ 2 _ rfl; (with_reducible repeat first|refine blk_drewN ?_ _|refine blk_drew ?_|refine blk_alloc ?_ _); refine blk_put (cs := #[.int .i64 t344, .int .i64 0, .int .i64 0]) ?_ 1 _ rfl; (with_reducible repeat first|refine blk_drewN ?_ _|refine blk_drew ?_|refine blk_alloc ?_ _); refine blk_put (cs := #[.int .i64 0, .int .i64 0, .int .i64 0]) ?_ 0 _ rfl; (with_reducible repeat first|refine blk_drewN ?_ _|refine blk_drew ?_|refine blk_alloc ?_ _); refine blk_far ?_ NB343_348.out _; (with_reducible repeat first|refine blk_drewN ?_ _|refine blk_drew ?_|refine blk_alloc ?_ _); refine blk_far ?_ NB343_348.out _; (with_reducible repeat first|refine blk_drewN ?_ _|refine blk_drew ?_|refine blk_alloc ?_ _); refine blk_far ?_ NB343_348.out _; (with_reducible repeat first|refine blk_drewN ?_ _|refine blk_drew ?_|refine blk_alloc ?_ _); exact BK343.out) Try.underlying33 rfl (by kernel_rfl)) rfl ?_
     exact ⟨by first | rfl | (simp [errW_none, errW_some] <;> rfl) | (simp [*, errW_none, errW_some] <;> rfl), by repeat (first | (with_reducible first | exact HB.out | apply below_alloc | apply pw_below_drewN | apply below_drew1 | refine below_set ?_ GE343.out | refine below_set ?_ GE348.out) | exact HB.out)⟩
    ·rw [if_neg c8] at H
     have c8b0 : decide ((Int.tmod (wrap64 (a0 + (wrap64 (a1 * 60)))) 86400) < 0) = false := decide_eq_false c8
     clear c8
     replace H := Option.bind_eq_some_iff.mp H
     obtain ⟨⟨t349, t350, t351, t352⟩, A150, H⟩ := H
     replace H : (some (t349, t350, t351, Int.tmod (wrap64 (a0 + (wrap64 (a1 * 60)))) 86400, (t352 == 0))) = some (r1, r2, r3, r4, r5) := H
     have A15 := Aside0.mk A150
     clear A150
     simp only [Option.some.injEq, Prod.mk.injEq] at H
     obtain ⟨rfl, rfl, rfl, rfl, rfl⟩ := H
     go_wp2_with (first | ((with_reducible refine gate_callee (f := 25) rfl ?_); refine goesL_ (some 35) rfl rfl Try.func25 (by kernel_rfl) rfl #[.int .i64 (wrap64 (Int.tdiv (wrap64 (a0 + (wrap64 (a1 * 60)))) 86400))] rfl (by (try simp only [List.map_toArray, List.map_cons, List.map_nil]); first | done | rfl | (simp only [List.length_drop, List.length_take]; rfl)) ?_; (with_reducible refine (pylonref03_Of.calls kj2 (wrap64 (Int.tdiv (wrap64 (a0 + (wrap64 (a1 * 60)))) 86400)) t349 t350 t351 t352 _ A15.out).mono ?_); rintro e w16 ⟨rfl, hb⟩; refine ⟨_, rfl, ?_⟩; have n0_ := Aside0.mk (blk_below (g := gb343) (o := .cells #[.int .i64 0, .int .i64 0, .int .i64 0] 33 (0, 0)) (by (with_reducible repeat first|refine blk_drewN ?_ _|refine blk_drew ?_|refine blk_alloc ?_ _); exact BK343.out) hb); have n1_ := Aside0.mk (below_step (by repeat (first | (with_reducible first | exact HB.out | apply below_alloc | apply pw_below_drewN | apply below_drew1 | refine below_set ?_ GE343.out) | exact HB.out)) hb); clear BK343; clear HB; have BK343 := n0_; have HB := n1_; clear n0_ n1_; (try clear hb); (try clear hb2); (try clear hk); (try clear hi)) | ((with_reducible refine gate_dst (N := 10) rfl ?_); refine box_event ?hg (N := 10) ?hd (cs := #[.int .i64 0, .int .i64 0, .int .i64 0]) (t := 33) ?hr ?_; (case hd => rfl); (case hg => rfl); (case hr => first | (go_simp; done) | (go_simp; rfl)); intro gb353 hg w17 hbox hb; have n0_ := Aside0.mk (blk_below (g := gb343) (o := .cells #[.int .i64 0, .int .i64 0, .int .i64 0] 33 (0, 0)) (by (with_reducible repeat first|refine blk_drewN ?_ _|refine blk_drew ?_|refine blk_alloc ?_ _); exact BK343.out) hb); have n1_ := Aside0.mk (below_step (by repeat (first | (with_reducible first | exact HB.out | apply below_alloc | apply pw_below_drewN | apply below_drew1 | refine below_set ?_ GE343.out) | exact HB.out)) hb); have n2_ := Aside0.mk (hbox); have n3_ := Aside0.mk ((by rw [hg]; exact (below_size (by repeat (first | (with_reducible first | exact HB.out | apply below_alloc | apply pw_below_drewN | apply below_drew1 | refine below_set ?_ GE343.out) | exact HB.out))) : w.heap.size ≤ gb353)); have n4_ := Aside0.mk ((by rw [hg]; exact (below_size (by repeat (first | (with_reducible first | exact HB.out | apply below_alloc | apply pw_below_drewN | apply below_drew1 | refine below_set ?_ GE343.out) | exact HB.out))) : w.heap.size ≤ gb353)); have n5_ := Aside0.mk ((by rw [hg]; exact Nat.ne_of_lt (blk_lt (g := gb343) (o := .cells #[.int .i64 0, .int .i64 0, .int .i64 0] 33 (0, 0)) (by (with_reducible repeat first|refine blk_drewN ?_ _|refine blk_drew ?_|refine blk_alloc ?_ _); exact BK343.out)) : gb343 ≠ gb353)); have n6_ := Aside0.mk ((by rw [hg]; exact Nat.ne_of_gt (blk_lt (g := gb343) (o := .cells #[.int .i64 0, .int .i64 0, .int .i64 0] 33 (0, 0)) (by (with_reducible repeat first|refine blk_drewN ?_ _|refine blk_drew ?_|refine blk_alloc ?_ _); exact BK343.out)) : gb353 ≠ gb343)); clear BK343; clear HB; have BK343 := n0_; have HB := n1_; have BK353 := n2_; have GW353 := n3_; have GE353 := n4_; have NB343_353 := n5_; have NB353_343 := n6_; clear n0_ n1_ n2_ n3_ n4_ n5_ n6_; clear hb hbox hg; have hnb18 := NB353_343.out; have hnc18 := NB343_353.out; have hcz19_0 : w17.cell? ⟨gb353, 0, none⟩ = some (.int .i64 0) := (blk_cell BK353.out 0).trans rfl; have hcz19_1 : w17.cell? ⟨gb353, 1, none⟩ = some (.int .i64 0) := (blk_cell BK353.out 1).trans rfl; have hcz19_2 : w17.cell? ⟨gb353, 2, none⟩ = some (.int .i64 0) := (blk_cell BK353.out 2).trans rfl; have hfz19_0 := blk_frozen BK353.out 0; have hfz19_1 := blk_frozen BK353.out 1; have hfz19_2 := blk_frozen BK353.out 2; have hcz20_0 : w17.cell? ⟨gb343, 0, none⟩ = some (.int .i64 0) := (blk_cell BK343.out 0).trans rfl; have hcz20_1 : w17.cell? ⟨gb343, 1, none⟩ = some (.int .i64 0) := (blk_cell BK343.out 1).trans rfl; have hcz20_2 : w17.cell? ⟨gb343, 2, none⟩ = some (.int .i64 0) := (blk_cell BK343.out 2).trans rfl; have hfz20_0 := blk_frozen BK343.out 0; have hfz20_1 := blk_frozen BK343.out 1; have hfz20_2 := blk_frozen BK343.out 2))
     refine bodyPost_ret (results_ctt rfl _ _ gb343 33 #[.int .i64 t349, .int .i64 t350, .int .i64 t351] (0, 0) _ rfl (by (with_reducible repeat first|refine blk_drewN ?_ _|refine blk_drew ?_|refine blk_alloc ?_ _); refine blk_put (cs := #[.int .i64 t349, .int .i64 t350, .int .i64 0]) ?_ 2 _ rfl; (with_reducible repeat first|refine blk_drewN ?_ _|refine blk_drew ?_|refine blk_alloc ?_ _); refine blk_put (cs := #[.int .i64 t349, .int .i64 0, .int .i64 0]) ?_ 1 _ rfl; (with_reducible repeat first|refine blk_drewN ?_ _|refine blk_drew ?_|refine blk_alloc ?_ _); refine blk_put (cs := #[.int .i64 0, .int .i64 0, .int .i64 0]) ?_ 0 _ rfl; (with_reducible repeat first|refine blk_drewN ?_ _|refine blk_drew ?_|refine blk_alloc ?_ _); refine blk_far ?_ NB343_353.out _; (with_reducible repeat first|refine blk_drewN ?_ _|refine blk_drew ?_|refine blk_alloc ?_ _); refine blk_far ?_ NB343_353.out _; (with_reducible repeat first|refine blk_drewN ?_ _|refine blk_drew ?_|refine blk_alloc ?_ _); refine blk_far ?_ NB343_353.out _; (with_reducible repeat first|refine blk_drewN ?_ _|refine blk_drew ?_|refine blk_alloc ?_ _); exact BK343.out) Try.underlying33 rfl (by kernel_rfl)) rfl ?_
     exact ⟨by first | rfl | (simp [errW_none, errW_some] <;> rfl) | (simp [*, errW_none, errW_some] <;> rfl), by repeat (first | (with_reducible first | exact HB.out | apply below_alloc | apply pw_below_drewN | apply below_drew1 | refine below_set ?_ GE343.out | refine below_set ?_ GE353.out) | exact HB.out)⟩

end Go.Proofs.Ytddkckpfmleffaa.PX
