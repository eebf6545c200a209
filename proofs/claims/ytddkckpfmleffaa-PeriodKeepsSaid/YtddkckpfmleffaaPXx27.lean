/- Functions of the program as plain Lean functions, each with a proof that the call in the machine answers just what the plain function says; condition: the plain function answers at all. -/
import Derived.Test.YtddkckpfmleffaaPXx0
import Derived.Test.YtddkckpfmleffaaPXx21
import Derived.Test.YtddkckpfmleffaaPXx23
import Derived.Test.YtddkckpfmleffaaPXx26
namespace Go.Proofs.Ytddkckpfmleffaa.PX
open Go.RowKit Go.Proofs.YtddkckpfmleffaaW.PrintWords Go.Proofs.YtddkckpfmleffaaW.PrintLast Go.Proofs.YtddkckpfmleffaaW.PrintMore
attribute [local go_sem] max2_int min2_int max_two min_two max_three min_three max_four min_four   -- for this text's walks alone
set_option linter.unusedVariables false
set_option linter.unusedSimpArgs false

/-! ### period_Spans: function 35 -/
mutual
def period_Spans.j0 : Nat → Int → Int → Int → Int → Bool → Int → Int → Int → Int → Int → Int → Int → Int → Int → Int → Option ((List (S74)) × (List (S33)) × Int)
 | 0, _, _, _, _, _, _, _, _, _, _, _, _, _, _, _ => none
 | k + 1, x1, x2, x3, x4, x28, x654000, x654001, x654002, x654003, x654004, x654005, x654006, x654007, x654008, x654009 => if x28 = true then (some (([] : List (S74)), ([] : List (S33)), 8)) else ((period_Dates.f k x654000 x654001 x654002 x654003 x654004 x654005 x654006 x654007 x654008 x654009 x2 x3 x4).bind fun bt654 => (if bt654.2 = 0 then (period_Spans.l0 k x1 x4 bt654.1 ([] : List (S74)) ([] : List (S33)) 0) else (some (([] : List (S74)), ([] : List (S33)), bt654.2))))
def period_Spans.l0 : Nat → Int → Int → List (S33) → List (S74) → List (S33) → Int → Option ((List (S74)) × (List (S33)) × Int)
 | 0, _, _, _, _, _, _ => none
 | k + 1, x1, x4, x13, x15, x16, x17 => if x17 < x4 then (if 0 ≤ x17 then (if x17 < (x13.length : Int) then ((period_Begin.f k ((rd_T33 x13 x17).f0) ((rd_T33 x13 x17).f1) ((rd_T33 x13 x17).f2) x1).bind fun bt659 => ((period_Next.f k ((rd_T33 x13 x17).f0) ((rd_T33 x13 x17).f1) ((rd_T33 x13 x17).f2) x1).bind fun bt665 => (period_Spans.l1 k x1 x4 x13 x15 x16 x17 bt665.2.2.2 x17 bt659.1 bt659.2.1 bt659.2.2.1 bt665.1 bt665.2.1 bt665.2.2.1))) else (none)) else (none)) else (some (x15, x16, 0))
def period_Spans.l1 : Nat → Int → Int → List (S33) → List (S74) → List (S33) → Int → Int → Int → Int → Int → Int → Int → Int → Int → Option ((List (S74)) × (List (S33)) × Int)
 | 0, _, _, _, _, _, _, _, _, _, _, _, _, _, _ => none
 | k + 1, x1, x4, x13, x15, x16, x17, x21, x22, x664000, x664001, x664002, x670000, x670001, x670002 => if x17 < x4 then (if x21 = 0 then (if 0 ≤ x17 then (if x17 < (x13.length : Int) then ((civil_Compare.f ((rd_T33 x13 x17).f0) ((rd_T33 x13 x17).f1) ((rd_T33 x13 x17).f2) x670000 x670001 x670002).bind fun t671 => (period_Spans.j3 k x1 x4 x13 x15 x16 x17 x21 x22 (decide (t671 < 0)) x664000 x664001 x664002 x670000 x670001 x670002)) else (none)) else (none)) else (period_Spans.j3 k x1 x4 x13 x15 x16 x17 x21 x22 true x664000 x664001 x664002 x670000 x670001 x670002)) else (period_Spans.j3 k x1 x4 x13 x15 x16 x17 x21 x22 false x664000 x664001 x664002 x670000 x670001 x670002)
def period_Spans.j3 : Nat → Int → Int → List (S33) → List (S74) → List (S33) → Int → Int → Int → Bool → Int → Int → Int → Int → Int → Int → Option ((List (S74)) × (List (S33)) × Int)
 | 0, _, _, _, _, _, _, _, _, _, _, _, _, _, _, _ => none
 | k + 1, x1, x4, x13, x15, x16, x17, x21, x22, x77, x664000, x664001, x664002, x670000, x670001, x670002 => if x77 = true then (period_Spans.l1 k x1 x4 x13 x15 x16 (wrap64 (x17 + 1)) x21 x22 x664000 x664001 x664002 x670000 x670001 x670002) else ((some (([(⟨x22, x17⟩ : S74)] : List (S74)) : List (S74))).bind fun y672 => (if x15.length + y672.length < 8796093022208 then ((some (([(⟨x664000, x664001, x664002⟩ : S33)] : List (S33)) : List (S33))).bind fun y678 => (if x16.length + y678.length < 5864062014805 then (period_Spans.l0 k x1 x4 x13 (x15 ++ y672) (x16 ++ y678) x17) else (none))) else (none)))
end
def period_Spans.f (k : Nat) (a0_0 : Int) (a0_1 : Int) (a0_2 : Int) (a0_3 : Int) (a0_4 : Int) (a0_5 : Int) (a0_6 : Int) (a0_7 : Int) (a0_8 : Int) (a0_9 : Int) (a1 : Int) (a2 : Int) (a3 : Int) (a4 : Int) : Option ((List (S74)) × (List (S33)) × Int) := if a1 < 1 then (period_Spans.j0 k a1 a2 a3 a4 true a0_0 a0_1 a0_2 a0_3 a0_4 a0_5 a0_6 a0_7 a0_8 a0_9) else (period_Spans.j0 k a1 a2 a3 a4 (decide (a1 > 28)) a0_0 a0_1 a0_2 a0_3 a0_4 a0_5 a0_6 a0_7 a0_8 a0_9)
theorem period_Spans.mono_l : ∀ k, (∀ y0 y1 y2 y3 y4 y5 y6 y7 y8 y9 y10 y11 y12 y13 y14, LeO (period_Spans.j0 k y0 y1 y2 y3 y4 y5 y6 y7 y8 y9 y10 y11 y12 y13 y14) (period_Spans.j0 (k + 1) y0 y1 y2 y3 y4 y5 y6 y7 y8 y9 y10 y11 y12 y13 y14)) ∧ (∀ y0 y1 y2 y3 y4 y5, LeO (period_Spans.l0 k y0 y1 y2 y3 y4 y5) (period_Spans.l0 (k + 1) y0 y1 y2 y3 y4 y5)) ∧ (∀ y0 y1 y2 y3 y4 y5 y6 y7 y8 y9 y10 y11 y12 y13, LeO (period_Spans.l1 k y0 y1 y2 y3 y4 y5 y6 y7 y8 y9 y10 y11 y12 y13) (period_Spans.l1 (k + 1) y0 y1 y2 y3 y4 y5 y6 y7 y8 y9 y10 y11 y12 y13)) ∧ (∀ y0 y1 y2 y3 y4 y5 y6 y7 y8 y9 y10 y11 y12 y13 y14, LeO (period_Spans.j3 k y0 y1 y2 y3 y4 y5 y6 y7 y8 y9 y10 y11 y12 y13 y14) (period_Spans.j3 (k + 1) y0 y1 y2 y3 y4 y5 y6 y7 y8 y9 y10 y11 y12 y13 y14))
 | 0 => ⟨fun _ _ _ _ _ _ _ _ _ _ _ _ _ _ _ r h => by simp [period_Spans.j0] at h, fun _ _ _ _ _ _ r h => by simp [period_Spans.l0] at h, fun _ _ _ _ _ _ _ _ _ _ _ _ _ _ r h => by simp [period_Spans.l1] at h, fun _ _ _ _ _ _ _ _ _ _ _ _ _ _ _ r h => by simp [period_Spans.j3] at h⟩
 | k + 1 => by
  obtain ⟨ih0, ih1, ih2, ih3⟩ := period_Spans.mono_l k
  refine ⟨?_, ?_, ?_, ?_⟩
  ·intro y0 y1 y2 y3 y4 y5 y6 y7 y8 y9 y10 y11 y12 y13 y14
   unfold period_Spans.j0
   repeat' first
   | (with_reducible exact ih0 _ _ _ _ _ _ _ _ _ _ _ _ _ _ _)
   | (with_reducible exact ih1 _ _ _ _ _ _)
   | (with_reducible exact ih2 _ _ _ _ _ _ _ _ _ _ _ _ _ _)
   | (with_reducible exact ih3 _ _ _ _ _ _ _ _ _ _ _ _ _ _ _)
   | (with_reducible exact period_Begin.mono _ _ _ _ _)
   | (with_reducible exact period_Dates.mono _ _ _ _ _ _ _ _ _ _ _ _ _ _)
   | (with_reducible exact period_Next.mono _ _ _ _ _)
   | (with_reducible exact LeO.refl _)
   | (with_reducible exact LeO.none _)
   | (with_reducible refine LeO.ite ?_ ?_)
   | (with_reducible refine LeO.bind ?_ (fun _ => ?_))
   | exact ih0 _ _ _ _ _ _ _ _ _ _ _ _ _ _ _
   | exact ih1 _ _ _ _ _ _
   | exact ih2 _ _ _ _ _ _ _ _ _ _ _ _ _ _
   | exact ih3 _ _ _ _ _ _ _ _ _ _ _ _ _ _ _
   | exact period_Begin.mono _ _ _ _ _
   | exact period_Dates.mono _ _ _ _ _ _ _ _ _ _ _ _ _ _
   | exact period_Next.mono _ _ _ _ _
   | exact LeO.none _
   | refine LeO.ite ?_ ?_
   | refine LeO.bind ?_ (fun _ => ?_)
  ·intro y0 y1 y2 y3 y4 y5
   unfold period_Spans.l0
   repeat' first
   | (with_reducible exact ih0 _ _ _ _ _ _ _ _ _ _ _ _ _ _ _)
   | (with_reducible exact ih1 _ _ _ _ _ _)
   | (with_reducible exact ih2 _ _ _ _ _ _ _ _ _ _ _ _ _ _)
   | (with_reducible exact ih3 _ _ _ _ _ _ _ _ _ _ _ _ _ _ _)
   | (with_reducible exact period_Begin.mono _ _ _ _ _)
   | (with_reducible exact period_Dates.mono _ _ _ _ _ _ _ _ _ _ _ _ _ _)
   | (with_reducible exact period_Next.mono _ _ _ _ _)
   | (with_reducible exact LeO.refl _)
   | (with_reducible exact LeO.none _)
   | (with_reducible refine LeO.ite ?_ ?_)
   | (with_reducible refine LeO.bind ?_ (fun _ => ?_))
   | exact ih0 _ _ _ _ _ _ _ _ _ _ _ _ _ _ _
   | exact ih1 _ _ _ _ _ _
   | exact ih2 _ _ _ _ _ _ _ _ _ _ _ _ _ _
   | exact ih3 _ _ _ _ _ _ _ _ _ _ _ _ _ _ _
   | exact period_Begin.mono _ _ _ _ _
   | exact period_Dates.mono _ _ _ _ _ _ _ _ _ _ _ _ _ _
   | exact period_Next.mono _ _ _ _ _
   | exact LeO.none _
   | refine LeO.ite ?_ ?_
   | refine LeO.bind ?_ (fun _ => ?_)
  ·intro y0 y1 y2 y3 y4 y5 y6 y7 y8 y9 y10 y11 y12 y13
   unfold period_Spans.l1
   repeat' first
   | (with_reducible exact ih0 _ _ _ _ _ _ _ _ _ _ _ _ _ _ _)
   | (with_reducible exact ih1 _ _ _ _ _ _)
   | (with_reducible exact ih2 _ _ _ _ _ _ _ _ _ _ _ _ _ _)
   | (with_reducible exact ih3 _ _ _ _ _ _ _ _ _ _ _ _ _ _ _)
   | (with_reducible exact period_Begin.mono _ _ _ _ _)
   | (with_reducible exact period_Dates.mono _ _ _ _ _ _ _ _ _ _ _ _ _ _)
   | (with_reducible exact period_Next.mono _ _ _ _ _)
   | (with_reducible exact LeO.refl _)
   | (with_reducible exact LeO.none _)
   | (with_reducible refine LeO.ite ?_ ?_)
   | (with_reducible refine LeO.bind ?_ (fun _ => ?_))
   | exact ih0 _ _ _ _ _ _ _ _ _ _ _ _ _ _ _
   | exact ih1 _ _ _ _ _ _
   | exact ih2 _ _ _ _ _ _ _ _ _ _ _ _ _ _
   | exact ih3 _ _ _ _ _ _ _ _ _ _ _ _ _ _ _
   | exact period_Begin.mono _ _ _ _ _
   | exact period_Dates.mono _ _ _ _ _ _ _ _ _ _ _ _ _ _
   | exact period_Next.mono _ _ _ _ _
   | exact LeO.none _
   | refine LeO.ite ?_ ?_
   | refine LeO.bind ?_ (fun _ => ?_)
  ·intro y0 y1 y2 y3 y4 y5 y6 y7 y8 y9 y10 y11 y12 y13 y14
   unfold period_Spans.j3
   repeat' first
   | (with_reducible exact ih0 _ _ _ _ _ _ _ _ _ _ _ _ _ _ _)
   | (with_reducible exact ih1 _ _ _ _ _ _)
   | (with_reducible exact ih2 _ _ _ _ _ _ _ _ _ _ _ _ _ _)
   | (with_reducible exact ih3 _ _ _ _ _ _ _ _ _ _ _ _ _ _ _)
   | (with_reducible exact period_Begin.mono _ _ _ _ _)
   | (with_reducible exact period_Dates.mono _ _ _ _ _ _ _ _ _ _ _ _ _ _)
   | (with_reducible exact period_Next.mono _ _ _ _ _)
   | (with_reducible exact LeO.refl _)
   | (with_reducible exact LeO.none _)
   | (with_reducible refine LeO.ite ?_ ?_)
   | (with_reducible refine LeO.bind ?_ (fun _ => ?_))
   | exact ih0 _ _ _ _ _ _ _ _ _ _ _ _ _ _ _
   | exact ih1 _ _ _ _ _ _
   | exact ih2 _ _ _ _ _ _ _ _ _ _ _ _ _ _
   | exact ih3 _ _ _ _ _ _ _ _ _ _ _ _ _ _ _
   | exact period_Begin.mono _ _ _ _ _
   | exact period_Dates.mono _ _ _ _ _ _ _ _ _ _ _ _ _ _
   | exact period_Next.mono _ _ _ _ _
   | exact LeO.none _
   | refine LeO.ite ?_ ?_
   | refine LeO.bind ?_ (fun _ => ?_)
theorem period_Spans.mono : ∀ a0 a1 a2 a3 a4 a5 a6 a7 a8 a9 a10 a11 a12 a13 k, LeO (period_Spans.f k a0 a1 a2 a3 a4 a5 a6 a7 a8 a9 a10 a11 a12 a13) (period_Spans.f (k + 1) a0 a1 a2 a3 a4 a5 a6 a7 a8 a9 a10 a11 a12 a13) := by
 intro a0 a1 a2 a3 a4 a5 a6 a7 a8 a9 a10 a11 a12 a13 k
 obtain ⟨ih0, ih1, ih2, ih3⟩ := period_Spans.mono_l k
 unfold period_Spans.f
 repeat' first
   | (with_reducible exact ih0 _ _ _ _ _ _ _ _ _ _ _ _ _ _ _)
   | (with_reducible exact ih1 _ _ _ _ _ _)
   | (with_reducible exact ih2 _ _ _ _ _ _ _ _ _ _ _ _ _ _)
   | (with_reducible exact ih3 _ _ _ _ _ _ _ _ _ _ _ _ _ _ _)
   | (with_reducible exact period_Begin.mono _ _ _ _ _)
   | (with_reducible exact period_Dates.mono _ _ _ _ _ _ _ _ _ _ _ _ _ _)
   | (with_reducible exact period_Next.mono _ _ _ _ _)
   | (with_reducible exact LeO.refl _)
   | (with_reducible exact LeO.none _)
   | (with_reducible refine LeO.ite ?_ ?_)
   | (with_reducible refine LeO.bind ?_ (fun _ => ?_))
   | exact ih0 _ _ _ _ _ _ _ _ _ _ _ _ _ _ _
   | exact ih1 _ _ _ _ _ _
   | exact ih2 _ _ _ _ _ _ _ _ _ _ _ _ _ _
   | exact ih3 _ _ _ _ _ _ _ _ _ _ _ _ _ _ _
   | exact period_Begin.mono _ _ _ _ _
   | exact period_Dates.mono _ _ _ _ _ _ _ _ _ _ _ _ _ _
   | exact period_Next.mono _ _ _ _ _
   | exact LeO.none _
   | refine LeO.ite ?_ ?_
   | refine LeO.bind ?_ (fun _ => ?_)
def period_Spans.T13 : Bool × List (List Nat × List Nat) := (true, [([], []), ([], []), ([0, 1], [0, 1]), ([2], [2]), ([3], [3]), ([4, 3], [3, 4]), ([5, 3, 3], [3, 5]), ([6], [6]), ([6], [6]), ([7, 8, 6], [6, 7, 8]), ([9, 6], [6, 9]), ([6], [6]), ([10, 11, 6, 6], [6, 10, 11]), ([12, 6], [6, 12]), ([6, 13, 3], [3, 6, 13]), ([3, 14], [3, 14])])
def period_Spans.B13 : List Nat := [0, 0, 3, 7, 15, 31, 63, 127, 127, 511, 1023, 127, 4095, 8191, 16383, 32767]
theorem period_Spans.tab13 : rtab .any (opsOf Try.f35 13) = period_Spans.T13 := by kernel_rfl
theorem period_Spans.bits13 : waitsOk period_Spans.T13.2 period_Spans.B13 = true := by kernel_rfl
def period_Spans.T15 : Bool × List (List Nat × List Nat) := (true, [([], []), ([], []), ([], []), ([1, 2], [1, 2]), ([3], [3]), ([0, 4], [0, 4]), ([], []), ([], []), ([7], [7]), ([6, 8, 5], [6, 8]), ([5, 9, 0, 1, 2, 3, 4, 5], [0, 5]), ([9, 10, 0, 1, 2, 3, 4, 5, 6, 7, 8, 9, 10], [6, 9])])
def period_Spans.B15 : List Nat := [0, 0, 0, 6, 14, 31, 0, 0, 128, 511, 1023, 2047]
theorem period_Spans.tab15 : rtab .any (opsOf Try.f35 15) = period_Spans.T15 := by kernel_rfl
theorem period_Spans.bits15 : waitsOk period_Spans.T15.2 period_Spans.B15 = true := by kernel_rfl
set_option maxHeartbeats 8000000 in
set_option maxRecDepth 100000 in
theorem period_Spans.calls (k : Nat) (a0_0 : Int) (a0_1 : Int) (a0_2 : Int) (a0_3 : Int) (a0_4 : Int) (a0_5 : Int) (a0_6 : Int) (a0_7 : Int) (a0_8 : Int) (a0_9 : Int) (a1 : Int) (a2 : Int) (a3 : Int) (a4 : Int) (r1 : List (S74)) (r2 : List (S33)) (r3 : Int) (w : World) (h : period_Spans.f k a0_0 a0_1 a0_2 a0_3 a0_4 a0_5 a0_6 a0_7 a0_8 a0_9 a1 a2 a3 a4 = some (r1, r2, r3)) :
  Calls Try.prog 35 #[.agg #[.int .i64 a0_0, .int .i64 a0_1, .int .i64 a0_2, .int .i64 a0_3, .int .i64 a0_4, .int .i64 a0_5, .int .i64 a0_6, .int .i64 a0_7, .int .i64 a0_8, .int .i64 a0_9], .int .i64 a1, .int .i64 a2, .int .i64 a3, .int .i64 a4] w fun e w' => ∃ v0_ v1_ : Value, e = .returned (.tuple #[v0_, v1_, .int .i64 r3]) ∧ Kd.R k74 74 w' w.heap.size (fun _ => True) v0_ r1 ∧ Kd.R k33 33 w' w.heap.size (fun _ => True) v1_ r2 ∧ Below w.heap.size w w' := by
 have hu25 := Try.underlying25
 have hu33 := Try.underlying33
 have hu74 := Try.underlying74
 have HB := AX (Below.refl w.heap.size w)
 have H : (if a1 < 1 then (period_Spans.j0 k a1 a2 a3 a4 true a0_0 a0_1 a0_2 a0_3 a0_4 a0_5 a0_6 a0_7 a0_8 a0_9) else (period_Spans.j0 k a1 a2 a3 a4 (decide (a1 > 28)) a0_0 a0_1 a0_2 a0_3 a0_4 a0_5 a0_6 a0_7 a0_8 a0_9)) = some (r1, r2, r3) := h
 clear h
 have HC6 := AX H
 clear H
 go_enter Try.func35, Try.ntmps35
 go_upto_region 1 with (first | ((with_reducible refine gate_dst (N := 5) rfl ?_); refine box_event ?hg (N := 5) ?hd (cs := #[.int .i64 a0_0, .int .i64 a0_1, .int .i64 a0_2, .int .i64 a0_3, .int .i64 a0_4, .int .i64 a0_5, .int .i64 a0_6, .int .i64 a0_7, .int .i64 a0_8, .int .i64 a0_9]) (t := 25) ?hr ?_; (case hd => rfl); (case hg => rfl); (case hr => first | (go_simp; done) | (go_simp; rfl)); intro gb653 hg w7 hbox hb; have n0_ := AX (below_step bw hb); have n1_ := AX (hbox); have n2_ := AX ((by rw [hg]; exact (below_size bw) : w.heap.size ≤ gb653)); have n3_ := n2_; clear HB; have HB := n0_; have BK653 := n1_; have GW653 := n2_; have GE653 := n3_; clear n0_ n1_ n2_ n3_; clear hb hbox hg))
 (try simp only [Act.put, List.setIfInBounds_toArray, List.set_cons_zero, List.set_cons_succ])
 go_cut [28] (fun v28 wc => ∃ (kq : Nat) (x28_5 : Bool), v28 = .bool x28_5 ∧ Aside0 (period_Spans.j0 kq a1 a2 a3 a4 x28_5 a0_0 a0_1 a0_2 a0_3 a0_4 a0_5 a0_6 a0_7 a0_8 a0_9 = some (r1, r2, r3)) ∧ Aside0 (kq ≤ k) ∧ Aside0 (wc.heap[gb653]? = some (.cells #[.int .i64 a0_0, .int .i64 a0_1, .int .i64 a0_2, .int .i64 a0_3, .int .i64 a0_4, .int .i64 a0_5, .int .i64 a0_6, .int .i64 a0_7, .int .i64 a0_8, .int .i64 a0_9] 25 (0, 0))) ∧ Aside0 (Below w.heap.size w wc))
 case first =>
  have H := HC6.out
  clear HC6
  by_cases c8 : a1 < 1
  ·rw [if_pos c8] at H
   have c8b0 : decide (a1 < 1) = true := decide_eq_true c8
   clear c8
   (first | rw [c8b0] | (simp only [i64_w, i32_w]; rw [c8b0]) | skip)
   have H' := AX H
   clear H
   go_wp2
   go_meet
   case rel => exact ⟨_, (true), (by first | rfl | (simp; done) | (simp [*]; done)), H', ⟨by first | omega | exact Nat.le_refl _⟩, ⟨bkn BK653⟩, ⟨bw⟩⟩
  ·rw [if_neg c8] at H
   have c8b0 : decide (a1 < 1) = false := decide_eq_false c8
   clear c8
   (first | rw [c8b0] | (simp only [i64_w, i32_w]; rw [c8b0]) | skip)
   have H' := AX H
   clear H
   go_wp2
   go_meet
   case rel => exact ⟨_, (decide (a1 > 28)), (by first | rfl | (simp; done) | (simp [*]; done)), H', ⟨by first | omega | exact Nat.le_refl _⟩, ⟨bkn BK653⟩, ⟨bw⟩⟩
 case rest =>
  clear HC6
  obtain ⟨kq, x28_5, rfl, HA, HJ5, BK653, HB⟩ := hcut
  cases kq with
  | zero => exact absurd HA.out (by simp [period_Spans.j0])
  | succ kj5 =>
   have H := HA.out
   clear HA
   simp only [period_Spans.j0] at H
   by_cases c9 : x28_5 = true
   ·subst c9
    have H1 : (some (([] : List (S74)), ([] : List (S33)), 8)) = some (r1, r2, r3) := by rw [if_pos rfl] at H; exact H
    clear H
    have H := H1
    clear H1
    simp only [Option.some.injEq, Prod.mk.injEq] at H
    obtain ⟨rfl, rfl, rfl⟩ := H
    go_wp2
    go_ret3
    exact ⟨_, _, by first | rfl | (simp [errW_none, errW_some] <;> rfl) | (simp [*, errW_none, errW_some] <;> rfl), by first | exact Kd.R_nil _ _ _ _ _ | exact Kd.N_nil _ _ _ _ _ | exact Kd.V_nil _ _ _ _ _ | exact Kd.Q_nil _ _ _ _ _ | exact Kd.S_nil _ _ _ _ _, by first | exact Kd.R_nil _ _ _ _ _ | exact Kd.N_nil _ _ _ _ _ | exact Kd.V_nil _ _ _ _ _ | exact Kd.Q_nil _ _ _ _ _ | exact Kd.S_nil _ _ _ _ _, bw⟩
   ·replace c9 := Bool.eq_false_iff.mpr c9
    subst c9
    have H1 : ((period_Dates.f kj5 a0_0 a0_1 a0_2 a0_3 a0_4 a0_5 a0_6 a0_7 a0_8 a0_9 a2 a3 a4).bind fun bt654 => (if bt654.2 = 0 then (period_Spans.l0 kj5 a1 a4 bt654.1 ([] : List (S74)) ([] : List (S33)) 0) else (some (([] : List (S74)), ([] : List (S33)), bt654.2)))) = some (r1, r2, r3) := by rw [if_neg (show ¬ (false = true) by decide)] at H; exact H
    clear H
    have H := H1
    clear H1
    replace H := Option.bind_eq_some_iff.mp H
    obtain ⟨⟨t654, t657⟩, A100, H⟩ := H
    replace H : (if t657 = 0 then (period_Spans.l0 kj5 a1 a4 t654 ([] : List (S74)) ([] : List (S33)) 0) else (some (([] : List (S74)), ([] : List (S33)), t657))) = some (r1, r2, r3) := H
    have A10 := AX A100
    clear A100
    by_cases c11 : t657 = 0
    ·rw [if_pos c11] at H
     have c11b0 : (t657 == 0) = true := beq_iff_eq.mpr c11
     have c11b1 : (t657 != 0) = false := bne_eq_false_iff_eq.mpr c11
     clear c11
     have H' := AX H
     clear H
     obtain ⟨hcz12_0, hcz12_1, hcz12_2, hcz12_3, hcz12_4, hcz12_5, hcz12_6, hcz12_7, hcz12_8, hcz12_9⟩ := blkC10 (w := wc) BK653.out
     obtain ⟨hfz12_0, hfz12_1, hfz12_2, hfz12_3, hfz12_4, hfz12_5, hfz12_6, hfz12_7, hfz12_8, hfz12_9⟩ := blkF10 BK653.out
     go_wp2_with (first | ((with_reducible refine gate_callee (f := 32) rfl ?_); refine goesL_ (some 34) rfl rfl Try.func32 (by kernel_rfl) rfl #[.agg #[.int .i64 a0_0, .int .i64 a0_1, .int .i64 a0_2, .int .i64 a0_3, .int .i64 a0_4, .int .i64 a0_5, .int .i64 a0_6, .int .i64 a0_7, .int .i64 a0_8, .int .i64 a0_9], .int .i64 a2, .int .i64 a3, .int .i64 a4] rfl (by (try simp only [List.map_toArray, List.map_cons, List.map_nil]); first | done | rfl | (simp only [List.length_drop, List.length_take]; rfl)) ?_; (with_reducible refine (period_Dates.calls kj5 a0_0 a0_1 a0_2 a0_3 a0_4 a0_5 a0_6 a0_7 a0_8 a0_9 a2 a3 a4 t654 t657 _ A10.out).mono ?_); rintro e w13 ⟨v655, rfl, ho0, hb⟩; refine ⟨_, rfl, ?_⟩; have n0_ := AX (Kd.R_lower ho0 (below_size bw)); have n1_ := AX (bkb BK653 hb); have n2_ := AX (below_step bw hb); clear BK653; clear HB; have HO656 := n0_; have BK653 := n1_; have HB := n2_; clear n0_ n1_ n2_; (try clear hb); (try clear hb2); (try clear hk); (try clear hi); (try clear ho0)))
     go_loopg [15, 16, 17] kj5 (fun kq v15 v16 v17 w' => ∃ (x15_2 : List (S74)) (x16_2 : List (S33)) (x17_2 : Int), v17 = .int .i64 x17_2 ∧ Aside0 (period_Spans.l0 kq a1 a4 t654 x15_2 x16_2 x17_2 = some (r1, r2, r3)) ∧ Aside0 (kq ≤ kj5) ∧ Aside0 (Kd.R k33 33 w' w.heap.size (fun k_ => some k_ ≠ (v16 : Value).ownBlock) v655 t654) ∧ Aside0 (Kd.R k74 74 w' w.heap.size (fun _ => True) v15 x15_2) ∧ Aside0 (Kd.R k33 33 w' w.heap.size (fun k_ => some k_ ≠ (v655 : Value).ownBlock) v16 x16_2) ∧ Aside0 (w'.heap[gb653]? = some (.cells #[.int .i64 a0_0, .int .i64 a0_1, .int .i64 a0_2, .int .i64 a0_3, .int .i64 a0_4, .int .i64 a0_5, .int .i64 a0_6, .int .i64 a0_7, .int .i64 a0_8, .int .i64 a0_9] 25 (0, 0))) ∧ Aside0 (Below w.heap.size w w'))
     case atStart => exact ⟨(([] : List (S74))), (([] : List (S33))), (0), (by first | rfl | (simp; done) | (simp [*]; done)), H', ⟨Nat.le_refl _⟩, ⟨by (with_reducible repeat (first | apply Kd.R_alloc | apply Kd.R_drewN | apply Kd.R_drew)); exact Kd.R_mono HO656.out (fun _ hk => (by simp [Value.ownBlock]))⟩, ⟨by first | exact Kd.R_nil _ _ _ _ _ | exact Kd.N_nil _ _ _ _ _ | exact Kd.V_nil _ _ _ _ _ | exact Kd.Q_nil _ _ _ _ _ | exact Kd.S_nil _ _ _ _ _⟩, ⟨by first | exact Kd.R_nil _ _ _ _ _ | exact Kd.N_nil _ _ _ _ _ | exact Kd.V_nil _ _ _ _ _ | exact Kd.Q_nil _ _ _ _ _ | exact Kd.S_nil _ _ _ _ _⟩, ⟨bkn BK653⟩, ⟨bw⟩⟩
     case round =>
      clear H'
      try clear c9
      try clear c11
      try clear c11b0
      try clear c11b1
      try clear hcz12_0 hcz12_1 hcz12_2 hcz12_3 hcz12_4 hcz12_5 hcz12_6 hcz12_7 hcz12_8 hcz12_9
      try clear hfz12_0 hfz12_1 hfz12_2 hfz12_3 hfz12_4 hfz12_5 hfz12_6 hfz12_7 hfz12_8 hfz12_9
      obtain ⟨x15_2, x16_2, x17_2, rfl, HA, HK2, HO_13, HO_15, HO_16, BK653, HB⟩ := hrel
      cases gk with
      | zero => exact absurd HA.out (by simp [period_Spans.l0])
      | succ k2 =>
       have H := HA.out
       clear HA
       simp only [period_Spans.l0] at H
       by_cases c14 : x17_2 < a4
       ·rw [if_pos c14] at H
        have c14b0 : decide (x17_2 < a4) = true := decide_eq_true c14
        clear c14
        by_cases c15 : 0 ≤ x17_2
        ·rw [if_pos c15] at H
         have c15b0 : decide (0 ≤ x17_2) = true := decide_eq_true c15
         clear c15
         by_cases c16 : x17_2 < (t654.length : Int)
         ·rw [if_pos c16] at H
          have c16b0 : decide (x17_2 < (t654.length : Int)) = true := decide_eq_true c16
          clear c16
          replace H := Option.bind_eq_some_iff.mp H
          obtain ⟨⟨t659, t660, t661, t662⟩, A170, H⟩ := H
          replace H : ((period_Next.f k2 ((rd_T33 t654 x17_2).f0) ((rd_T33 t654 x17_2).f1) ((rd_T33 t654 x17_2).f2) a1).bind fun bt665 => (period_Spans.l1 k2 a1 a4 t654 x15_2 x16_2 x17_2 bt665.2.2.2 x17_2 t659 t660 t661 bt665.1 bt665.2.1 bt665.2.2.1)) = some (r1, r2, r3) := H
          have A17 := AX A170
          clear A170
          replace H := Option.bind_eq_some_iff.mp H
          obtain ⟨⟨t665, t666, t667, t668⟩, A180, H⟩ := H
          replace H : (period_Spans.l1 k2 a1 a4 t654 x15_2 x16_2 x17_2 t668 x17_2 t659 t660 t661 t665 t666 t667) = some (r1, r2, r3) := H
          have A18 := AX A180
          clear A180
          have H' := AX H
          clear H
          obtain ⟨Ao19, co19, eo19⟩ := Kd.R_slice HO_13.out
          subst eo19
          have p658 : 0 ≤ (x17_2 : Int) := of_decide_eq_true (by first | (with_reducible assumption) | assumption)
          have q658 : x17_2 < (t654.length : Int) := of_decide_eq_true (by first | (with_reducible assumption) | assumption)
          obtain ⟨ad658, e658, hx658_0, hx658_1, hx658_2⟩ := at_T33 (Kd.R_reads' HO_13.out).2.2 x17_2 p658 q658
          cases e658
          replace p658 := eq_true p658
          replace q658 := eq_true q658
          go_wp2_with (first | ((with_reducible refine gate_callee (f := 39) rfl ?_); refine goesL_ (some 49) rfl rfl Try.func39 (by kernel_rfl) rfl #[.agg #[.int .i64 ((rd_T33 t654 x17_2).f0), .int .i64 ((rd_T33 t654 x17_2).f1), .int .i64 ((rd_T33 t654 x17_2).f2)], .int .i64 a1] rfl (by (try simp only [List.map_toArray, List.map_cons, List.map_nil]); first | done | rfl | (simp only [List.length_drop, List.length_take]; rfl)) ?_; (with_reducible refine (period_Begin.calls k2 ((rd_T33 t654 x17_2).f0) ((rd_T33 t654 x17_2).f1) ((rd_T33 t654 x17_2).f2) a1 t659 t660 t661 t662 _ A17.out).mono ?_); rintro e w20 ⟨rfl, hb⟩; refine ⟨_, rfl, ?_⟩; have n0_ := AX (Kd.R_below (kr HO_13) hb); have n1_ := AX (Kd.R_below (kr HO_15) hb); have n2_ := AX (Kd.R_below (kr HO_16) hb); have n3_ := AX (bkb BK653 hb); have n4_ := AX (below_step bw hb); clear HO_13; clear HO_15; clear HO_16; clear BK653; clear HB; have HO_13 := n0_; have HO_15 := n1_; have HO_16 := n2_; have BK653 := n3_; have HB := n4_; clear n0_ n1_ n2_ n3_ n4_; (try clear hb)) | ((with_reducible refine gate_dst (N := 18) rfl ?_); refine box_event ?hg (N := 18) ?hd (cs := #[.int .i64 0, .int .i64 0, .int .i64 0]) (t := 33) ?hr ?_; (case hd => rfl); (case hg => rfl); (case hr => first | (go_simp; done) | (go_simp; rfl)); intro gb663 hg w21 hbox hb; have n0_ := AX (Kd.R_below (Kd.R_elderB (kr HO_13) gb663 (Nat.le_of_eq hg.symm)) hb); have n1_ := AX (Kd.R_below (kr HO_15) hb); have n2_ := AX (Kd.R_below (Kd.R_elderB (kr HO_16) gb663 (Nat.le_of_eq hg.symm)) hb); have n3_ := AX (bkb BK653 hb); have n4_ := AX (below_step bw hb); have n5_ := AX (hbox); have n6_ := AX ((by rw [hg]; exact (below_size bw) : w.heap.size ≤ gb663)); have n7_ := n6_; have n8_ := AX ((by rw [hg]; exact Nat.ne_of_lt (blk_lt (bkn BK653)) : gb653 ≠ gb663)); have n9_ := AX ((by rw [hg]; exact Nat.ne_of_gt (blk_lt (bkn BK653)) : gb663 ≠ gb653)); clear HO_13; clear HO_15; clear HO_16; clear BK653; clear HB; have HO_13 := n0_; have HO_15 := n1_; have HO_16 := n2_; have BK653 := n3_; have HB := n4_; have BK663 := n5_; have GW663 := n6_; have GE663 := n7_; have NB653_663 := n8_; have NB663_653 := n9_; clear n0_ n1_ n2_ n3_ n4_ n5_ n6_ n7_ n8_ n9_; clear hb hbox hg; have hnb22 := NB663_653.out; have hnc22 := NB653_663.out; obtain ⟨hcz23_0, hcz23_1, hcz23_2⟩ := blkC3 (w := w21) BK663.out; obtain ⟨hfz23_0, hfz23_1, hfz23_2⟩ := blkF3 BK663.out; have p664 : 0 ≤ (x17_2 : Int) := of_decide_eq_true (by first | (with_reducible assumption) | assumption); have q664 : x17_2 < (t654.length : Int) := of_decide_eq_true (by first | (with_reducible assumption) | assumption); obtain ⟨ad664, e664, hx664_0, hx664_1, hx664_2⟩ := at_T33 (Kd.R_reads' HO_13.out).2.2 x17_2 p664 q664; obtain rfl : ad658 = ad664 := (by injection e664); have hn664_0 : ad658.block ≠ gb663 := Kd.own_blk (by first | exact Kd.R_ne HO_13.out BK663.out (by decide) | exact fun e_ => (And.left HO_13.out _ e_.symm).2 rfl | exact fun e_ => (And.left HO_13.out _ e_.symm).1.2 rfl | exact fun e_ => (And.left HO_13.out _ e_.symm).2.1 rfl | exact fun e_ => (And.left HO_13.out _ e_.symm).2.2 rfl); have hn664_1 : ad658.block ≠ gb663 := Kd.own_blk (by first | exact Kd.R_ne HO_13.out BK663.out (by decide) | exact fun e_ => (And.left HO_13.out _ e_.symm).2 rfl | exact fun e_ => (And.left HO_13.out _ e_.symm).1.2 rfl | exact fun e_ => (And.left HO_13.out _ e_.symm).2.1 rfl | exact fun e_ => (And.left HO_13.out _ e_.symm).2.2 rfl); have hn664_2 : ad658.block ≠ gb663 := Kd.own_blk (by first | exact Kd.R_ne HO_13.out BK663.out (by decide) | exact fun e_ => (And.left HO_13.out _ e_.symm).2 rfl | exact fun e_ => (And.left HO_13.out _ e_.symm).1.2 rfl | exact fun e_ => (And.left HO_13.out _ e_.symm).2.1 rfl | exact fun e_ => (And.left HO_13.out _ e_.symm).2.2 rfl); replace hx664_0 := (cell_far (p := ⟨gb663, 0, none⟩) (by first | (rw [add_block]; exact hn664_0) | (show (Addr.add _ _).block ≠ _; rw [add_block]; exact hn664_0) | exact hn664_0) (.int .i64 t659)).trans hx664_0; replace hx664_1 := (cell_far (p := ⟨gb663, 0, none⟩) (by first | (rw [add_block]; exact hn664_0) | (show (Addr.add _ _).block ≠ _; rw [add_block]; exact hn664_0) | exact hn664_0) (.int .i64 t659)).trans hx664_1; replace hx664_2 := (cell_far (p := ⟨gb663, 0, none⟩) (by first | (rw [add_block]; exact hn664_0) | (show (Addr.add _ _).block ≠ _; rw [add_block]; exact hn664_0) | exact hn664_0) (.int .i64 t659)).trans hx664_2; replace hx664_0 := (cell_far (p := ⟨gb663, 1, none⟩) (by first | (rw [add_block]; exact hn664_1) | (show (Addr.add _ _).block ≠ _; rw [add_block]; exact hn664_1) | exact hn664_1) (.int .i64 t660)).trans hx664_0; replace hx664_1 := (cell_far (p := ⟨gb663, 1, none⟩) (by first | (rw [add_block]; exact hn664_1) | (show (Addr.add _ _).block ≠ _; rw [add_block]; exact hn664_1) | exact hn664_1) (.int .i64 t660)).trans hx664_1; replace hx664_2 := (cell_far (p := ⟨gb663, 1, none⟩) (by first | (rw [add_block]; exact hn664_1) | (show (Addr.add _ _).block ≠ _; rw [add_block]; exact hn664_1) | exact hn664_1) (.int .i64 t660)).trans hx664_2; replace hx664_0 := (cell_far (p := ⟨gb663, 2, none⟩) (by first | (rw [add_block]; exact hn664_2) | (show (Addr.add _ _).block ≠ _; rw [add_block]; exact hn664_2) | exact hn664_2) (.int .i64 t661)).trans hx664_0; replace hx664_1 := (cell_far (p := ⟨gb663, 2, none⟩) (by first | (rw [add_block]; exact hn664_2) | (show (Addr.add _ _).block ≠ _; rw [add_block]; exact hn664_2) | exact hn664_2) (.int .i64 t661)).trans hx664_1; replace hx664_2 := (cell_far (p := ⟨gb663, 2, none⟩) (by first | (rw [add_block]; exact hn664_2) | (show (Addr.add _ _).block ≠ _; rw [add_block]; exact hn664_2) | exact hn664_2) (.int .i64 t661)).trans hx664_2; clear hn664_0; clear hn664_1; clear hn664_2; replace p664 := eq_true p664; replace q664 := eq_true q664) | ((with_reducible refine gate_callee (f := 37) rfl ?_); refine goesL_ (some 58) rfl rfl Try.func37 (by kernel_rfl) rfl #[.agg #[.int .i64 ((rd_T33 t654 x17_2).f0), .int .i64 ((rd_T33 t654 x17_2).f1), .int .i64 ((rd_T33 t654 x17_2).f2)], .int .i64 a1] rfl (by (try simp only [List.map_toArray, List.map_cons, List.map_nil]); first | done | rfl | (simp only [List.length_drop, List.length_take]; rfl)) ?_; (with_reducible refine (period_Next.calls k2 ((rd_T33 t654 x17_2).f0) ((rd_T33 t654 x17_2).f1) ((rd_T33 t654 x17_2).f2) a1 t665 t666 t667 t668 _ A18.out).mono ?_); rintro e w24 ⟨rfl, hb⟩; refine ⟨_, rfl, ?_⟩; have n0_ := AX (Kd.R_below (by (with_reducible repeat (first | apply Kd.R_alloc | apply Kd.R_drewN | apply Kd.R_drew)); exact (Kd.R_mono (Kd.R_far (p := ⟨gb663, 2, none⟩) (Kd.R_far (p := ⟨gb663, 1, none⟩) (Kd.R_far (p := ⟨gb663, 0, none⟩) (Kd.R_mono HO_13.out (fun k_ hk => (⟨hk, hk.2⟩ : _ ∧ k_ ≠ gb663))) (fun _ hk => hk.2) (.int .i64 t659)) (fun _ hk => hk.2) (.int .i64 t660)) (fun _ hk => hk.2) (.int .i64 t661)) (fun _ h_ => h_.1))) hb); have n1_ := AX (Kd.R_below (by (with_reducible repeat (first | apply Kd.R_alloc | apply Kd.R_drewN | apply Kd.R_drew)); exact (Kd.R_mono (Kd.R_far (p := ⟨gb663, 2, none⟩) (Kd.R_far (p := ⟨gb663, 1, none⟩) (Kd.R_far (p := ⟨gb663, 0, none⟩) (Kd.R_types HO_15.out BK663.out (by decide)) (fun _ hk => hk.2) (.int .i64 t659)) (fun _ hk => hk.2) (.int .i64 t660)) (fun _ hk => hk.2) (.int .i64 t661)) (fun _ h_ => h_.1))) hb); have n2_ := AX (Kd.R_below (by (with_reducible repeat (first | apply Kd.R_alloc | apply Kd.R_drewN | apply Kd.R_drew)); exact (Kd.R_mono (Kd.R_far (p := ⟨gb663, 2, none⟩) (Kd.R_far (p := ⟨gb663, 1, none⟩) (Kd.R_far (p := ⟨gb663, 0, none⟩) (Kd.R_mono HO_16.out (fun k_ hk => (⟨hk, hk.2⟩ : _ ∧ k_ ≠ gb663))) (fun _ hk => hk.2) (.int .i64 t659)) (fun _ hk => hk.2) (.int .i64 t660)) (fun _ hk => hk.2) (.int .i64 t661)) (fun _ h_ => h_.1))) hb); have n3_ := AX (blk_below (g := gb653) (o := .cells #[.int .i64 a0_0, .int .i64 a0_1, .int .i64 a0_2, .int .i64 a0_3, .int .i64 a0_4, .int .i64 a0_5, .int .i64 a0_6, .int .i64 a0_7, .int .i64 a0_8, .int .i64 a0_9] 25 (0, 0)) (by (with_reducible repeat first|refine blk_drewN ?_ _|refine blk_drew ?_|refine blk_alloc ?_ _|refine blk_far ?_ NB653_663.out _); exact BK653.out) hb); have n4_ := AX (blk_below (g := gb663) (o := .cells #[.int .i64 t659, .int .i64 t660, .int .i64 t661] 33 (0, 0)) (by (with_reducible repeat first|refine blk_drewN ?_ _|refine blk_drew ?_|refine blk_alloc ?_ _); refine blk_put (cs := #[.int .i64 t659, .int .i64 t660, .int .i64 0]) ?_ 2 _ rfl; (with_reducible repeat first|refine blk_drewN ?_ _|refine blk_drew ?_|refine blk_alloc ?_ _); refine blk_put (cs := #[.int .i64 t659, .int .i64 0, .int .i64 0]) ?_ 1 _ rfl; (with_reducible repeat first|refine blk_drewN ?_ _|refine blk_drew ?_|refine blk_alloc ?_ _); refine blk_put (cs := #[.int .i64 0, .int .i64 0, .int .i64 0]) ?_ 0 _ rfl; (with_reducible repeat first|refine blk_drewN ?_ _|refine blk_drew ?_|refine blk_alloc ?_ _); exact BK663.out) hb); have n5_ := AX (below_step bw hb); clear HO_13; clear HO_15; clear HO_16; clear BK653; clear BK663; clear HB; have HO_13 := n0_; have HO_15 := n1_; have HO_16 := n2_; have BK653 := n3_; have BK663 := n4_; have HB := n5_; clear n0_ n1_ n2_ n3_ n4_ n5_; (try clear hb); (try clear hb2); (try clear hk); (try clear hi)) | ((with_reducible refine gate_dst (N := 20) rfl ?_); refine box_event ?hg (N := 20) ?hd (cs := #[.int .i64 0, .int .i64 0, .int .i64 0]) (t := 33) ?hr ?_; (case hd => rfl); (case hg => rfl); (case hr => first | (go_simp; done) | (go_simp; rfl)); intro gb669 hg w25 hbox hb; have n0_ := AX (Kd.R_below (Kd.R_elderB (kr HO_13) gb669 (Nat.le_of_eq hg.symm)) hb); have n1_ := AX (Kd.R_below (kr HO_15) hb); have n2_ := AX (Kd.R_below (Kd.R_elderB (kr HO_16) gb669 (Nat.le_of_eq hg.symm)) hb); have n3_ := AX (bkb BK653 hb); have n4_ := AX (bkb BK663 hb); have n5_ := AX (below_step bw hb); have n6_ := AX (hbox); have n7_ := AX ((by rw [hg]; exact (below_size bw) : w.heap.size ≤ gb669)); have n8_ := n7_; have n9_ := AX ((by rw [hg]; exact Nat.ne_of_lt (blk_lt (bkn BK653)) : gb653 ≠ gb669)); have n10_ := AX ((by rw [hg]; exact Nat.ne_of_gt (blk_lt (bkn BK653)) : gb669 ≠ gb653)); have n11_ := AX ((by rw [hg]; exact Nat.ne_of_lt (blk_lt (bkn BK663)) : gb663 ≠ gb669)); have n12_ := AX ((by rw [hg]; exact Nat.ne_of_gt (blk_lt (bkn BK663)) : gb669 ≠ gb663)); clear HO_13; clear HO_15; clear HO_16; clear BK653; clear BK663; clear HB; have HO_13 := n0_; have HO_15 := n1_; have HO_16 := n2_; have BK653 := n3_; have BK663 := n4_; have HB := n5_; have BK669 := n6_; have GW669 := n7_; have GE669 := n8_; have NB653_669 := n9_; have NB669_653 := n10_; have NB663_669 := n11_; have NB669_663 := n12_; clear n0_ n1_ n2_ n3_ n4_ n5_ n6_ n7_ n8_ n9_ n10_ n11_ n12_; clear hb hbox hg; have hnb26 := NB669_653.out; have hnc26 := NB653_669.out; have hnb27 := NB669_663.out; have hnc27 := NB663_669.out; obtain ⟨hcz28_0, hcz28_1, hcz28_2⟩ := blkC3 (w := w25) BK669.out; obtain ⟨hfz28_0, hfz28_1, hfz28_2⟩ := blkF3 BK669.out))
          go_loopg [17] k2 (fun kq v17 w' => ∃ (x17_3 : Int), v17 = .int .i64 x17_3 ∧ Aside0 (period_Spans.l1 kq a1 a4 t654 x15_2 x16_2 x17_3 t668 x17_2 t659 t660 t661 t665 t666 t667 = some (r1, r2, r3)) ∧ Aside0 (kq ≤ k2) ∧ Aside0 (Kd.R k33 33 w' w.heap.size (fun k_ => some k_ ≠ (u16 : Value).ownBlock ∧ k_ ≠ gb663 ∧ k_ ≠ gb669) (.slice (some ad658) t654.length co19) t654) ∧ Aside0 (Kd.R k74 74 w' w.heap.size (fun _ => True) u15 x15_2) ∧ Aside0 (Kd.R k33 33 w' w.heap.size (fun k_ => some k_ ≠ ((.slice (some ad658) t654.length co19) : Value).ownBlock ∧ k_ ≠ gb663 ∧ k_ ≠ gb669) u16 x16_2) ∧ Aside0 (w'.heap[gb653]? = some (.cells #[.int .i64 a0_0, .int .i64 a0_1, .int .i64 a0_2, .int .i64 a0_3, .int .i64 a0_4, .int .i64 a0_5, .int .i64 a0_6, .int .i64 a0_7, .int .i64 a0_8, .int .i64 a0_9] 25 (0, 0))) ∧ Aside0 (w'.heap[gb663]? = some (.cells #[.int .i64 t659, .int .i64 t660, .int .i64 t661] 33 (0, 0))) ∧ Aside0 (w'.heap[gb669]? = some (.cells #[.int .i64 t665, .int .i64 t666, .int .i64 t667] 33 (0, 0))) ∧ Aside0 (Below w.heap.size w w'))
          case atStart => exact ⟨(x17_2), (by first | rfl | (simp; done) | (simp [*]; done)), H', ⟨Nat.le_refl _⟩, ⟨by (with_reducible repeat (first | apply Kd.R_alloc | apply Kd.R_drewN | apply Kd.R_drew)); exact Kd.R_mono (Kd.R_far (p := ⟨gb669, 2, none⟩) (Kd.R_far (p := ⟨gb669, 1, none⟩) (Kd.R_far (p := ⟨gb669, 0, none⟩) (Kd.R_mono HO_13.out (fun k_ hk => (⟨hk, hk.2⟩ : _ ∧ k_ ≠ gb669))) (fun _ hk => hk.2) (.int .i64 t665)) (fun _ hk => hk.2) (.int .i64 t666)) (fun _ hk => hk.2) (.int .i64 t667)) (fun _ hk => ⟨hk.1.1.1, ⟨hk.1.1.2, hk.1.2⟩⟩)⟩, ⟨by (with_reducible repeat (first | apply Kd.R_alloc | apply Kd.R_drewN | apply Kd.R_drew)); exact Kd.R_mono (Kd.R_far (p := ⟨gb669, 2, none⟩) (Kd.R_far (p := ⟨gb669, 1, none⟩) (Kd.R_far (p := ⟨gb669, 0, none⟩) (Kd.R_types HO_15.out BK669.out (by decide)) (fun _ hk => hk.2) (.int .i64 t665)) (fun _ hk => hk.2) (.int .i64 t666)) (fun _ hk => hk.2) (.int .i64 t667)) (fun _ hk => trivial)⟩, ⟨by (with_reducible repeat (first | apply Kd.R_alloc | apply Kd.R_drewN | apply Kd.R_drew)); exact Kd.R_mono (Kd.R_far (p := ⟨gb669, 2, none⟩) (Kd.R_far (p := ⟨gb669, 1, none⟩) (Kd.R_far (p := ⟨gb669, 0, none⟩) (Kd.R_mono HO_16.out (fun k_ hk => (⟨hk, hk.2⟩ : _ ∧ k_ ≠ gb669))) (fun _ hk => hk.2) (.int .i64 t665)) (fun _ hk => hk.2) (.int .i64 t666)) (fun _ hk => hk.2) (.int .i64 t667)) (fun _ hk => ⟨hk.1.1.1, ⟨hk.1.1.2, hk.1.2⟩⟩)⟩, ⟨by (with_reducible repeat first|refine blk_drewN ?_ _|refine blk_drew ?_|refine blk_alloc ?_ _); refine blk_far ?_ NB653_669.out _; (with_reducible repeat first|refine blk_drewN ?_ _|refine blk_drew ?_|refine blk_alloc ?_ _); refine blk_far ?_ NB653_669.out _; (with_reducible repeat first|refine blk_drewN ?_ _|refine blk_drew ?_|refine blk_alloc ?_ _); refine blk_far ?_ NB653_669.out _; (with_reducible repeat first|refine blk_drewN ?_ _|refine blk_drew ?_|refine blk_alloc ?_ _); exact BK653.out⟩, ⟨by (with_reducible repeat first|refine blk_drewN ?_ _|refine blk_drew ?_|refine blk_alloc ?_ _); refine blk_far ?_ NB663_669.out _; (with_reducible repeat first|refine blk_drewN ?_ _|refine blk_drew ?_|refine blk_alloc ?_ _); refine blk_far ?_ NB663_669.out _; (with_reducible repeat first|refine blk_drewN ?_ _|refine blk_drew ?_|refine blk_alloc ?_ _); refine blk_far ?_ NB663_669.out _; (with_reducible repeat first|refine blk_drewN ?_ _|refine blk_drew ?_|refine blk_alloc ?_ _); exact BK663.out⟩, ⟨by (with_reducible repeat first|refine blk_drewN ?_ _|refine blk_drew ?_|refine blk_alloc ?_ _); refine blk_put (cs := #[.int .i64 t665, .int .i64 t666, .int .i64 0]) ?_ 2 _ rfl; (with_reducible repeat first|refine blk_drewN ?_ _|refine blk_drew ?_|refine blk_alloc ?_ _); refine blk_put (cs := #[.int .i64 t665, .int .i64 0, .int .i64 0]) ?_ 1 _ rfl; (with_reducible repeat first|refine blk_drewN ?_ _|refine blk_drew ?_|refine blk_alloc ?_ _); refine blk_put (cs := #[.int .i64 0, .int .i64 0, .int .i64 0]) ?_ 0 _ rfl; (with_reducible repeat first|refine blk_drewN ?_ _|refine blk_drew ?_|refine blk_alloc ?_ _); exact BK669.out⟩, ⟨bw⟩⟩
          case round =>
           clear H'
           try clear c9
           try clear c11
           try clear c11b0
           try clear c11b1
           try clear c14
           try clear c14b0
           try clear c15
           try clear c15b0
           try clear c16
           try clear c16b0
           try clear hcz12_0 hcz12_1 hcz12_2 hcz12_3 hcz12_4 hcz12_5 hcz12_6 hcz12_7 hcz12_8 hcz12_9
           try clear hcz23_0 hcz23_1 hcz23_2
           try clear hcz28_0 hcz28_1 hcz28_2
           try clear hfz12_0 hfz12_1 hfz12_2 hfz12_3 hfz12_4 hfz12_5 hfz12_6 hfz12_7 hfz12_8 hfz12_9
           try clear hfz23_0 hfz23_1 hfz23_2
           try clear hfz28_0 hfz28_1 hfz28_2
           try clear hx658_0
           try clear hx658_1
           try clear hx658_2
           try clear hx664_0
           try clear hx664_1
           try clear hx664_2
           try clear p658
           try clear p664
           try clear q658
           try clear q664
           obtain ⟨x17_3, rfl, HA, HK3, HO_13, HO_15, HO_16, BK653, BK663, BK669, HB⟩ := hrel
           cases gk with
           | zero => exact absurd HA.out (by simp [period_Spans.l1])
           | succ k3 =>
            have H := HA.out
            clear HA
            simp only [period_Spans.l1] at H
            have HC29 := AX H
            clear H
            go_upto_region 13 with (fail)
            go_cut [77] (fun v77 wc => ∃ (kq : Nat) (x77_28 : Bool), v77 = .bool x77_28 ∧ Aside0 (period_Spans.j3 kq a1 a4 t654 x15_2 x16_2 x17_3 t668 x17_2 x77_28 t659 t660 t661 t665 t666 t667 = some (r1, r2, r3)) ∧ Aside0 (kq ≤ k3) ∧ Aside0 (Kd.R k33 33 wc w.heap.size (fun k_ => some k_ ≠ (u16 : Value).ownBlock ∧ k_ ≠ gb663 ∧ k_ ≠ gb669) (.slice (some ad658) t654.length co19) t654) ∧ Aside0 (Kd.R k74 74 wc w.heap.size (fun _ => True) u15 x15_2) ∧ Aside0 (Kd.R k33 33 wc w.heap.size (fun k_ => some k_ ≠ ((.slice (some ad658) t654.length co19) : Value).ownBlock ∧ k_ ≠ gb663 ∧ k_ ≠ gb669) u16 x16_2) ∧ Aside0 (wc.heap[gb653]? = some (.cells #[.int .i64 a0_0, .int .i64 a0_1, .int .i64 a0_2, .int .i64 a0_3, .int .i64 a0_4, .int .i64 a0_5, .int .i64 a0_6, .int .i64 a0_7, .int .i64 a0_8, .int .i64 a0_9] 25 (0, 0))) ∧ Aside0 (wc.heap[gb663]? = some (.cells #[.int .i64 t659, .int .i64 t660, .int .i64 t661] 33 (0, 0))) ∧ Aside0 (wc.heap[gb669]? = some (.cells #[.int .i64 t665, .int .i64 t666, .int .i64 t667] 33 (0, 0))) ∧ Aside0 (Below w.heap.size w wc))
            case first =>
             have H := HC29.out
             clear HC29
             by_cases c30 : x17_3 < a4
             ·rw [if_pos c30] at H
              have c30b0 : decide (x17_3 < a4) = true := decide_eq_true c30
              clear c30
              (first | rw [c30b0] | (simp only [i64_w, i32_w]; rw [c30b0]) | skip)
              by_cases c31 : t668 = 0
              ·rw [if_pos c31] at H
               have c31b0 : (t668 == 0) = true := beq_iff_eq.mpr c31
               have c31b1 : (t668 != 0) = false := bne_eq_false_iff_eq.mpr c31
               clear c31
               by_cases c32 : 0 ≤ x17_3
               ·rw [if_pos c32] at H
                have c32b0 : decide (0 ≤ x17_3) = true := decide_eq_true c32
                clear c32
                by_cases c33 : x17_3 < (t654.length : Int)
                ·rw [if_pos c33] at H
                 have c33b0 : decide (x17_3 < (t654.length : Int)) = true := decide_eq_true c33
                 clear c33
                 replace H := Option.bind_eq_some_iff.mp H
                 obtain ⟨t671, A340, H⟩ := H
                 replace H : (period_Spans.j3 k3 a1 a4 t654 x15_2 x16_2 x17_3 t668 x17_2 (decide (t671 < 0)) t659 t660 t661 t665 t666 t667) = some (r1, r2, r3) := H
                 have A34 := AX A340
                 clear A340
                 have H' := AX H
                 clear H
                 try go_wp2
                 have n0_ := AX (Kd.R_drew HO_13.out)
                 have n1_ := AX (Kd.R_drew HO_15.out)
                 have n2_ := AX (Kd.R_drew HO_16.out)
                 have n3_ := AX (blk_drew BK653.out)
                 have n4_ := AX (blk_drew BK663.out)
                 have n5_ := AX (blk_drew BK669.out)
                 have n6_ := AX (below_drew1 HB.out)
                 clear HO_13
                 clear HO_15
                 clear HO_16
                 clear BK653
                 clear BK663
                 clear BK669
                 clear HB
                 have HO_13 := n0_
                 have HO_15 := n1_
                 have HO_16 := n2_
                 have BK653 := n3_
                 have BK663 := n4_
                 have BK669 := n5_
                 have HB := n6_
                 clear n0_ n1_ n2_ n3_ n4_ n5_ n6_
                 have p670 : 0 ≤ (x17_3 : Int) := of_decide_eq_true (by first | (with_reducible assumption) | assumption)
                 have q670 : x17_3 < (t654.length : Int) := of_decide_eq_true (by first | (with_reducible assumption) | assumption)
                 obtain ⟨ad670, e670, hx670_0, hx670_1, hx670_2⟩ := at_T33 (Kd.R_reads' HO_13.out).2.2 x17_3 p670 q670
                 obtain rfl : ad658 = ad670 := (by injection e670)
                 replace p670 := eq_true p670
                 replace q670 := eq_true q670
                 refine start_ (n := 16) (S := fun w' => w'.cell? ⟨gb669, 0, none⟩ = some (.int .i64 t665) ∧ w'.cell? ⟨gb669, 1, none⟩ = some (.int .i64 t666) ∧ w'.cell? ⟨gb669, 2, none⟩ = some (.int .i64 t667) ∧ w'.cell? (ad658.add ((x17_3).toNat * 3)) = some (.int .i64 ((rd_T33 t654 x17_3).f0)) ∧ w'.cell? ⟨(ad658.add ((x17_3).toNat * 3)).block, (ad658.add ((x17_3).toNat * 3)).off + 1, none⟩ = some (.int .i64 ((rd_T33 t654 x17_3).f1)) ∧ w'.cell? ⟨(ad658.add ((x17_3).toNat * 3)).block, (ad658.add ((x17_3).toNat * 3)).off + 2, none⟩ = some (.int .i64 ((rd_T33 t654 x17_3).f2))) (ds := []) #[false, false, false, false, false, false, false, false, false, false, false, false, false, false, false, false] (by kernel_rfl) rfl rfl ⟨(blk_cell BK669.out 0).trans rfl, (blk_cell BK669.out 1).trans rfl, (blk_cell BK669.out 2).trans rfl, hx670_0, hx670_1, hx670_2⟩ (fun hHeld => ?_); refine with_tabW period_Spans.tab13 period_Spans.bits13 (fun HT_ HW_ => ?_)
                 generalize wr.drew = w35 at HO_13 HO_15 HO_16 BK653 BK663 BK669 HB hx670_0 hx670_1 hx670_2 hHeld ⊢
                 refine pure_ (i := 0) (N := some 62) (v := ?_) (a' := ?_) #[true, false, false, false, false, false, false, false, false, false, false, false, false, false, false, false] rfl rfl (any_of HT_.out (by kernel_rfl)) (fun _ _ _ h => h) (Or.inl ⟨by rfl, ?_⟩) ?_ ?_
                 rotate_left
                 ·intro w'
                  go_simp
                  with_reducible rfl
                 rotate_left
                 ·simp only [Act.put, List.setIfInBounds_toArray, List.set_cons_zero, List.set_cons_succ, i64_w, i32_w]
                  rfl
                 refine pure_ (i := 1) (N := some 63) (v := ?_) (a' := ?_) #[true, true, false, false, false, false, false, false, false, false, false, false, false, false, false, false] rfl rfl (any_of HT_.out (by kernel_rfl)) (fun _ _ _ h => h) (Or.inl ⟨by rfl, ?_⟩) ?_ ?_
                 rotate_left
                 ·intro w'
                  go_simp
                  with_reducible rfl
                 rotate_left
                 ·simp only [Act.put, List.setIfInBounds_toArray, List.set_cons_zero, List.set_cons_succ, i64_w, i32_w]
                  rfl
                 refine pure_ (i := 2) (N := some 64) (v := ?_) (a' := ?_) #[true, true, true, false, false, false, false, false, false, false, false, false, false, false, false, false] rfl rfl (any_of HT_.out (by kernel_rfl)) (fun _ _ _ h => h) (Or.inl ⟨by rfl, ?_⟩) ?_ ?_
                 rotate_left
                 ·intro w'
                  go_simp
                  with_reducible rfl
                 rotate_left
                 ·simp only [Act.put, List.setIfInBounds_toArray, List.set_cons_zero, List.set_cons_succ, i64_w, i32_w]
                  rfl
                 refine pure_ (i := 3) (N := some 65) (v := ?_) (a' := ?_) #[true, true, true, true, false, false, false, false, false, false, false, false, false, false, false, false] rfl rfl (any_of HT_.out (by kernel_rfl)) (fun _ _ _ h => h) (Or.inl ⟨by rfl, ?_⟩) ?_ ?_
                 rotate_left
                 ·intro w'
                  go_simp
                  with_reducible rfl
                 rotate_left
                 ·simp only [Act.put, List.setIfInBounds_toArray, List.set_cons_zero, List.set_cons_succ, i64_w, i32_w]
                  rfl
                 refine pure_ (i := 4) (N := some 66) (v := ?_) (a' := ?_) #[true, true, true, true, true, false, false, false, false, false, false, false, false, false, false, false] rfl rfl (any_of HT_.out (by kernel_rfl)) (fun _ _ _ h => h) (Or.inl ⟨by rfl, ?_⟩) ?_ ?_
                 rotate_left
                 ·intro w'
                  go_simp
                  with_reducible rfl
                 rotate_left
                 ·simp only [Act.put, List.setIfInBounds_toArray, List.set_cons_zero, List.set_cons_succ, i64_w, i32_w]
                  rfl
                 refine pure_ (i := 5) (N := some 67) (v := ?_) (a' := ?_) #[true, true, true, true, true, true, false, false, false, false, false, false, false, false, false, false] rfl rfl (any_of HT_.out (by kernel_rfl)) (fun _ _ _ h => h) (Or.inl ⟨by rfl, ?_⟩) ?_ ?_
                 rotate_left
                 ·intro w'
                  go_simp
                  with_reducible rfl
                 rotate_left
                 ·simp only [Act.put, List.setIfInBounds_toArray, List.set_cons_zero, List.set_cons_succ, i64_w, i32_w]
                  rfl
                 refine pure_ (i := 6) (N := some 68) (v := ?_) (a' := ?_) #[true, true, true, true, true, true, true, false, false, false, false, false, false, false, false, false] rfl rfl (any_of HT_.out (by kernel_rfl)) (fun _ _ _ h => h) (Or.inl ⟨by rfl, ?_⟩) ?_ ?_
                 rotate_left
                 ·intro w'
                  go_simp
                  with_reducible rfl
                 rotate_left
                 ·simp only [Act.put, List.setIfInBounds_toArray, List.set_cons_zero, List.set_cons_succ, i64_w, i32_w]
                  rfl
                 refine pure_ (i := 7) (N := some 69) (v := ?_) (a' := ?_) #[true, true, true, true, true, true, true, true, false, false, false, false, false, false, false, false] rfl rfl (any_of HT_.out (by kernel_rfl)) (fun _ _ _ h => h) (Or.inl ⟨by rfl, ?_⟩) ?_ ?_
                 rotate_left
                 ·intro w'
                  go_simp
                  with_reducible rfl
                 rotate_left
                 ·simp only [Act.put, List.setIfInBounds_toArray, List.set_cons_zero, List.set_cons_succ, i64_w, i32_w]
                  rfl
                 refine pure_ (i := 8) (N := some 70) (v := ?_) (a' := ?_) #[true, true, true, true, true, true, true, true, true, false, false, false, false, false, false, false] rfl rfl (any_of HT_.out (by kernel_rfl)) (fun _ _ _ h => h) (Or.inl ⟨by rfl, ?_⟩) ?_ ?_
                 rotate_left
                 ·intro w'
                  go_simp
                  with_reducible rfl
                 rotate_left
                 ·simp only [Act.put, List.setIfInBounds_toArray, List.set_cons_zero, List.set_cons_succ, i64_w, i32_w]
                  rfl
                 refine pure_ (i := 9) (N := some 71) (v := ?_) (a' := ?_) #[true, true, true, true, true, true, true, true, true, true, false, false, false, false, false, false] rfl rfl (any_of HT_.out (by kernel_rfl)) (fun _ _ _ h => h) (Or.inl ⟨by rfl, ?_⟩) ?_ ?_
                 rotate_left
                 ·intro w'
                  go_simp
                  with_reducible rfl
                 rotate_left
                 ·simp only [Act.put, List.setIfInBounds_toArray, List.set_cons_zero, List.set_cons_succ, i64_w, i32_w]
                  rfl
                 refine take_ (i := 10) (N := some 72) (v := ?_) (a' := ?_) #[true, true, true, true, true, true, true, true, true, true, true, false, false, false, false, false] rfl rfl (take_ofW HT_.out HW_.out (by kernel_rfl)) (fun _ _ _ h => h) (Or.inl ⟨by rfl, ?_⟩) hHeld ?_ ?_
                 rotate_left
                 ·rintro w' ⟨s0, s1, s2, s3, s4, s5⟩
                  go_simp
                  with_reducible rfl
                 rotate_left
                 ·simp only [Act.put, List.setIfInBounds_toArray, List.set_cons_zero, List.set_cons_succ, i64_w, i32_w]
                  rfl
                 refine take_ (i := 11) (N := some 73) (v := ?_) (a' := ?_) #[true, true, true, true, true, true, true, true, true, true, true, true, false, false, false, false] rfl rfl (take_ofW HT_.out HW_.out (by kernel_rfl)) (fun _ _ _ h => h) (Or.inl ⟨by rfl, ?_⟩) hHeld ?_ ?_
                 rotate_left
                 ·rintro w' ⟨s0, s1, s2, s3, s4, s5⟩
                  go_simp
                  with_reducible rfl
                 rotate_left
                 ·simp only [Act.put, List.setIfInBounds_toArray, List.set_cons_zero, List.set_cons_succ, i64_w, i32_w]
                  rfl
                 refine one_ (i := 12) (N := some 74) #[true, true, true, true, true, true, true, true, true, true, true, true, true, false, false, false] rfl rfl (one_of HT_.out (by kernel_rfl)) (by decide) (fun K hK => ?_)
                 refine goes_ Try.func58 (by kernel_rfl) rfl #[.agg #[.int .i64 ((rd_T33 t654 x17_3).f0), .int .i64 ((rd_T33 t654 x17_3).f1), .int .i64 ((rd_T33 t654 x17_3).f2)], .agg #[.int .i64 t665, .int .i64 t666, .int .i64 t667]] (by rfl) rfl rfl (by (try simp only [List.map_toArray, List.map_cons, List.map_nil]); first | done | rfl | (simp only [List.length_drop, List.length_take]; rfl)) ?_
                 with_reducible refine (civil_Compare.calls ((rd_T33 t654 x17_3).f0) ((rd_T33 t654 x17_3).f1) ((rd_T33 t654 x17_3).f2) t665 t666 t667 t671 _ A34.out).mono ?_
                 rintro e w36 ⟨rfl, hb⟩
                 have HS3_ := (hb.cell (World.block_lt_of_cell? _ _ (hHeld.2.2.2.1))).trans (hHeld.2.2.2.1)
                 have HS4_ := (hb.cell (World.block_lt_of_cell? _ _ (hHeld.2.2.2.2.1))).trans (hHeld.2.2.2.2.1)
                 have HS5_ := (hb.cell (World.block_lt_of_cell? _ _ (hHeld.2.2.2.2.2))).trans (hHeld.2.2.2.2.2)
                 refine ⟨_, rfl, ?_⟩
                 have n0_ := AX (Kd.R_below (kr HO_13) hb)
                 have n1_ := AX (Kd.R_below (kr HO_15) hb)
                 have n2_ := AX (Kd.R_below (kr HO_16) hb)
                 have n3_ := AX (bkb BK653 hb)
                 have n4_ := AX (bkb BK663 hb)
                 have n5_ := AX (bkb BK669 hb)
                 have n6_ := AX (below_step bw hb)
                 clear HO_13
                 clear HO_15
                 clear HO_16
                 clear BK653
                 clear BK663
                 clear BK669
                 clear HB
                 have HO_13 := n0_
                 have HO_15 := n1_
                 have HO_16 := n2_
                 have BK653 := n3_
                 have BK663 := n4_
                 have BK669 := n5_
                 have HB := n6_
                 clear n0_ n1_ n2_ n3_ n4_ n5_ n6_
                 (try clear hb)
                 (try clear hb2)
                 (try clear hk)
                 (try clear hi)
                 refine hK.out _ _ ⟨(blk_cell BK669.out 0).trans rfl, (blk_cell BK669.out 1).trans rfl, (blk_cell BK669.out 2).trans rfl, HS3_, HS4_, HS5_⟩ (fun hHeld => ?_)
                 clear hK K
                 refine norm_ (a' := ?_) ?_ ?_
                 rotate_left
                 ·show Act.put _ (some 74) _ = _
                  simp only [Act.put, List.setIfInBounds_toArray, List.set_cons_zero, List.set_cons_succ, i64_w, i32_w]
                  rfl
                 refine pure_ (i := 13) (N := some 75) (v := ?_) (a' := ?_) #[true, true, true, true, true, true, true, true, true, true, true, true, true, true, false, false] rfl rfl (any_of HT_.out (by kernel_rfl)) (fun _ _ _ h => h) (Or.inl ⟨by rfl, ?_⟩) ?_ ?_
                 rotate_left
                 ·intro w'
                  go_simp
                  with_reducible rfl
                 rotate_left
                 ·simp only [Act.put, List.setIfInBounds_toArray, List.set_cons_zero, List.set_cons_succ, i64_w, i32_w]
                  rfl
                 refine pure_ (i := 14) (N := some 76) (v := ?_) (a' := ?_) #[true, true, true, true, true, true, true, true, true, true, true, true, true, true, true, false] rfl rfl (any_of HT_.out (by kernel_rfl)) (fun _ _ _ h => h) (Or.inl ⟨by rfl, ?_⟩) ?_ ?_
                 rotate_left
                 ·intro w'
                  go_simp
                  with_reducible rfl
                 rotate_left
                 ·simp only [Act.put, List.setIfInBounds_toArray, List.set_cons_zero, List.set_cons_succ, i64_w, i32_w]
                  rfl
                 refine pure_ (i := 15) (N := some 77) (v := ?_) (a' := ?_) #[true, true, true, true, true, true, true, true, true, true, true, true, true, true, true, true] rfl rfl (any_of HT_.out (by kernel_rfl)) (fun _ _ _ h => h) (Or.inl ⟨by rfl, ?_⟩) ?_ ?_
                 rotate_left
                 ·intro w'
                  go_simp
                  with_reducible rfl
                 rotate_left
                 ·simp only [Act.put, List.setIfInBounds_toArray, List.set_cons_zero, List.set_cons_succ, i64_w, i32_w]
                  rfl
                 refine done_ (done_of HT_.out (by kernel_rfl)) ?_
                 try go_wp2
                 go_meet
                 case rel => exact ⟨_, (decide (t671 < 0)), (by first | rfl | (simp; done) | (simp [*]; done)), H', ⟨by have := HJ5.out; have := HK2.out; have := HK3.out; first | omega | exact Nat.le_refl _⟩, ⟨kr HO_13⟩, ⟨kr HO_15⟩, ⟨kr HO_16⟩, ⟨bkn BK653⟩, ⟨bkn BK663⟩, ⟨bkn BK669⟩, ⟨bw⟩⟩
                ·rw [if_neg c33] at H
                 exact absurd H (by simp)
               ·rw [if_neg c32] at H
                exact absurd H (by simp)
              ·rw [if_neg c31] at H
               have c31b0 : (t668 == 0) = false := beq_eq_false_iff_ne.mpr c31
               have c31b1 : (t668 != 0) = true := bne_iff_ne.mpr c31
               have H' := AX H
               clear H
               try go_wp2
               have n0_ := AX (Kd.R_drew HO_13.out)
               have n1_ := AX (Kd.R_drew HO_15.out)
               have n2_ := AX (Kd.R_drew HO_16.out)
               have n3_ := AX (blk_drew BK653.out)
               have n4_ := AX (blk_drew BK663.out)
               have n5_ := AX (blk_drew BK669.out)
               have n6_ := AX (below_drew1 HB.out)
               clear HO_13
               clear HO_15
               clear HO_16
               clear BK653
               clear BK663
               clear BK669
               clear HB
               have HO_13 := n0_
               have HO_15 := n1_
               have HO_16 := n2_
               have BK653 := n3_
               have BK663 := n4_
               have BK669 := n5_
               have HB := n6_
               clear n0_ n1_ n2_ n3_ n4_ n5_ n6_
               refine start_ (n := 16) (S := fun w' => True) (ds := []) #[false, false, false, false, false, false, false, false, false, false, false, false, false, false, false, false] (by kernel_rfl) rfl rfl trivial (fun hHeld => ?_); refine with_tabW period_Spans.tab13 period_Spans.bits13 (fun HT_ HW_ => ?_)
               generalize wr.drew = w37 at HO_13 HO_15 HO_16 BK653 BK663 BK669 HB hHeld ⊢
               refine pure_ (i := 0) (N := some 62) (v := ?_) (a' := ?_) #[true, false, false, false, false, false, false, false, false, false, false, false, false, false, false, false] rfl rfl (any_of HT_.out (by kernel_rfl)) (fun _ _ _ h => h) (Or.inl ⟨by rfl, ?_⟩) ?_ ?_
               rotate_left
               ·intro w'
                go_simp
                with_reducible rfl
               rotate_left
               ·simp only [Act.put, List.setIfInBounds_toArray, List.set_cons_zero, List.set_cons_succ, i64_w, i32_w]
                rfl
               refine pure_ (i := 1) (N := some 63) (v := ?_) (a' := ?_) #[true, true, false, false, false, false, false, false, false, false, false, false, false, false, false, false] rfl rfl (any_of HT_.out (by kernel_rfl)) (fun _ _ _ h => h) (Or.inl ⟨by rfl, ?_⟩) ?_ ?_
               rotate_left
               ·intro w'
                go_simp
                with_reducible rfl
               rotate_left
               ·simp only [Act.put, List.setIfInBounds_toArray, List.set_cons_zero, List.set_cons_succ, i64_w, i32_w]
                rfl
               refine pure_ (i := 2) (N := some 64) (v := ?_) (a' := ?_) #[true, true, true, false, false, false, false, false, false, false, false, false, false, false, false, false] rfl rfl (any_of HT_.out (by kernel_rfl)) (fun _ _ _ h => h) (Or.inl ⟨by rfl, ?_⟩) ?_ ?_
               rotate_left
               ·intro w'
                go_simp
                with_reducible rfl
               rotate_left
               ·simp only [Act.put, List.setIfInBounds_toArray, List.set_cons_zero, List.set_cons_succ, i64_w, i32_w]
                rfl
               refine pure_ (i := 3) (N := some 65) (v := ?_) (a' := ?_) #[true, true, true, true, false, false, false, false, false, false, false, false, false, false, false, false] rfl rfl (any_of HT_.out (by kernel_rfl)) (fun _ _ _ h => h) (Or.inl ⟨by rfl, ?_⟩) ?_ ?_
               rotate_left
               ·intro w'
                go_simp
                with_reducible rfl
               rotate_left
               ·simp only [Act.put, List.setIfInBounds_toArray, List.set_cons_zero, List.set_cons_succ, i64_w, i32_w]
                rfl
               refine pure_ (i := 4) (N := some 66) (v := ?_) (a' := ?_) #[true, true, true, true, true, false, false, false, false, false, false, false, false, false, false, false] rfl rfl (any_of HT_.out (by kernel_rfl)) (fun _ _ _ h => h) (Or.inl ⟨by rfl, ?_⟩) ?_ ?_
               rotate_left
               ·intro w'
                go_simp
                with_reducible rfl
               rotate_left
               ·simp only [Act.put, List.setIfInBounds_toArray, List.set_cons_zero, List.set_cons_succ, i64_w, i32_w]
                rfl
               refine pure_ (i := 5) (N := some 67) (v := ?_) (a' := ?_) #[true, true, true, true, true, true, false, false, false, false, false, false, false, false, false, false] rfl rfl (any_of HT_.out (by kernel_rfl)) (fun _ _ _ h => h) (Or.inl ⟨by rfl, ?_⟩) ?_ ?_
               rotate_left
               ·intro w'
                go_simp
                with_reducible rfl
               rotate_left
               ·simp only [Act.put, List.setIfInBounds_toArray, List.set_cons_zero, List.set_cons_succ, i64_w, i32_w]
                rfl
               refine pure_ (i := 6) (N := some 68) (v := ?_) (a' := ?_) #[true, true, true, true, true, true, true, false, false, false, false, false, false, false, false, false] rfl rfl (any_of HT_.out (by kernel_rfl)) (fun _ _ _ h => h) (Or.inl ⟨by rfl, ?_⟩) ?_ ?_
               rotate_left
               ·intro w'
                go_simp
                with_reducible rfl
               rotate_left
               ·simp only [Act.put, List.setIfInBounds_toArray, List.set_cons_zero, List.set_cons_succ, i64_w, i32_w]
                rfl
               refine pure_ (i := 7) (N := some 69) (v := undef) (a' := ?_) #[true, true, true, true, true, true, true, true, false, false, false, false, false, false, false, false] rfl rfl (any_of HT_.out (by kernel_rfl)) (fun _ _ _ h => h) (Or.inr ⟨by rfl, rfl⟩) ?_ ?_
               rotate_left
               ·simp only [Act.put, List.setIfInBounds_toArray, List.set_cons_zero, List.set_cons_succ, i64_w, i32_w]
                rfl
               refine pure_ (i := 8) (N := some 70) (v := undef) (a' := ?_) #[true, true, true, true, true, true, true, true, true, false, false, false, false, false, false, false] rfl rfl (any_of HT_.out (by kernel_rfl)) (fun _ _ _ h => h) (Or.inr ⟨by rfl, rfl⟩) ?_ ?_
               rotate_left
               ·simp only [Act.put, List.setIfInBounds_toArray, List.set_cons_zero, List.set_cons_succ, i64_w, i32_w]
                rfl
               refine pure_ (i := 9) (N := some 71) (v := undef) (a' := ?_) #[true, true, true, true, true, true, true, true, true, true, false, false, false, false, false, false] rfl rfl (any_of HT_.out (by kernel_rfl)) (fun _ _ _ h => h) (Or.inr ⟨by rfl, rfl⟩) ?_ ?_
               rotate_left
               ·simp only [Act.put, List.setIfInBounds_toArray, List.set_cons_zero, List.set_cons_succ, i64_w, i32_w]
                rfl
               refine pure_ (i := 10) (N := some 72) (v := undef) (a' := ?_) #[true, true, true, true, true, true, true, true, true, true, true, false, false, false, false, false] rfl rfl (any_of HT_.out (by kernel_rfl)) (fun _ _ _ h => h) (Or.inr ⟨by rfl, rfl⟩) ?_ ?_
               rotate_left
               ·simp only [Act.put, List.setIfInBounds_toArray, List.set_cons_zero, List.set_cons_succ, i64_w, i32_w]
                rfl
               refine pure_ (i := 11) (N := some 73) (v := undef) (a' := ?_) #[true, true, true, true, true, true, true, true, true, true, true, true, false, false, false, false] rfl rfl (any_of HT_.out (by kernel_rfl)) (fun _ _ _ h => h) (Or.inr ⟨by rfl, rfl⟩) ?_ ?_
               rotate_left
               ·simp only [Act.put, List.setIfInBounds_toArray, List.set_cons_zero, List.set_cons_succ, i64_w, i32_w]
                rfl
               refine pure_ (i := 12) (N := some 74) (v := undef) (a' := ?_) #[true, true, true, true, true, true, true, true, true, true, true, true, true, false, false, false] rfl rfl (any_of HT_.out (by kernel_rfl)) (fun _ _ _ h => h) (Or.inr ⟨by rfl, rfl⟩) ?_ ?_
               rotate_left
               ·simp only [Act.put, List.setIfInBounds_toArray, List.set_cons_zero, List.set_cons_succ, i64_w, i32_w]
                rfl
               refine pure_ (i := 13) (N := some 75) (v := undef) (a' := ?_) #[true, true, true, true, true, true, true, true, true, true, true, true, true, true, false, false] rfl rfl (any_of HT_.out (by kernel_rfl)) (fun _ _ _ h => h) (Or.inr ⟨by rfl, rfl⟩) ?_ ?_
               rotate_left
               ·simp only [Act.put, List.setIfInBounds_toArray, List.set_cons_zero, List.set_cons_succ, i64_w, i32_w]
                rfl
               refine pure_ (i := 14) (N := some 76) (v := ?_) (a' := ?_) #[true, true, true, true, true, true, true, true, true, true, true, true, true, true, true, false] rfl rfl (any_of HT_.out (by kernel_rfl)) (fun _ _ _ h => h) (Or.inl ⟨by rfl, ?_⟩) ?_ ?_
               rotate_left
               ·intro w'
                go_simp
                with_reducible rfl
               rotate_left
               ·simp only [Act.put, List.setIfInBounds_toArray, List.set_cons_zero, List.set_cons_succ, i64_w, i32_w]
                rfl
               refine pure_ (i := 15) (N := some 77) (v := ?_) (a' := ?_) #[true, true, true, true, true, true, true, true, true, true, true, true, true, true, true, true] rfl rfl (any_of HT_.out (by kernel_rfl)) (fun _ _ _ h => h) (Or.inl ⟨by rfl, ?_⟩) ?_ ?_
               rotate_left
               ·intro w'
                go_simp
                with_reducible rfl
               rotate_left
               ·simp only [Act.put, List.setIfInBounds_toArray, List.set_cons_zero, List.set_cons_succ, i64_w, i32_w]
                rfl
               refine done_ (done_of HT_.out (by kernel_rfl)) ?_
               try go_wp2
               go_meet
               case rel => exact ⟨_, (true), (by first | rfl | (simp; done) | (simp [*]; done)), H', ⟨by have := HJ5.out; have := HK2.out; have := HK3.out; first | omega | exact Nat.le_refl _⟩, ⟨kr HO_13⟩, ⟨kr HO_15⟩, ⟨kr HO_16⟩, ⟨bkn BK653⟩, ⟨bkn BK663⟩, ⟨bkn BK669⟩, ⟨bw⟩⟩
             ·rw [if_neg c30] at H
              have c30b0 : decide (x17_3 < a4) = false := decide_eq_false c30
              clear c30
              (first | rw [c30b0] | (simp only [i64_w, i32_w]; rw [c30b0]) | skip)
              have H' := AX H
              clear H
              try go_wp2
              have n0_ := AX (Kd.R_drew HO_13.out)
              have n1_ := AX (Kd.R_drew HO_15.out)
              have n2_ := AX (Kd.R_drew HO_16.out)
              have n3_ := AX (blk_drew BK653.out)
              have n4_ := AX (blk_drew BK663.out)
              have n5_ := AX (blk_drew BK669.out)
              have n6_ := AX (below_drew1 HB.out)
              clear HO_13
              clear HO_15
              clear HO_16
              clear BK653
              clear BK663
              clear BK669
              clear HB
              have HO_13 := n0_
              have HO_15 := n1_
              have HO_16 := n2_
              have BK653 := n3_
              have BK663 := n4_
              have BK669 := n5_
              have HB := n6_
              clear n0_ n1_ n2_ n3_ n4_ n5_ n6_
              refine start_ (n := 16) (S := fun w' => True) (ds := []) #[false, false, false, false, false, false, false, false, false, false, false, false, false, false, false, false] (by kernel_rfl) rfl rfl trivial (fun hHeld => ?_); refine with_tabW period_Spans.tab13 period_Spans.bits13 (fun HT_ HW_ => ?_)
              generalize wr.drew = w38 at HO_13 HO_15 HO_16 BK653 BK663 BK669 HB hHeld ⊢
              refine pure_ (i := 0) (N := some 62) (v := ?_) (a' := ?_) #[true, false, false, false, false, false, false, false, false, false, false, false, false, false, false, false] rfl rfl (any_of HT_.out (by kernel_rfl)) (fun _ _ _ h => h) (Or.inl ⟨by rfl, ?_⟩) ?_ ?_
              rotate_left
              ·intro w'
               go_simp
               with_reducible rfl
              rotate_left
              ·simp only [Act.put, List.setIfInBounds_toArray, List.set_cons_zero, List.set_cons_succ, i64_w, i32_w]
               rfl
              refine pure_ (i := 1) (N := some 63) (v := ?_) (a' := ?_) #[true, true, false, false, false, false, false, false, false, false, false, false, false, false, false, false] rfl rfl (any_of HT_.out (by kernel_rfl)) (fun _ _ _ h => h) (Or.inl ⟨by rfl, ?_⟩) ?_ ?_
              rotate_left
              ·intro w'
               go_simp
               with_reducible rfl
              rotate_left
              ·simp only [Act.put, List.setIfInBounds_toArray, List.set_cons_zero, List.set_cons_succ, i64_w, i32_w]
               rfl
              refine pure_ (i := 2) (N := some 64) (v := ?_) (a' := ?_) #[true, true, true, false, false, false, false, false, false, false, false, false, false, false, false, false] rfl rfl (any_of HT_.out (by kernel_rfl)) (fun _ _ _ h => h) (Or.inl ⟨by rfl, ?_⟩) ?_ ?_
              rotate_left
              ·intro w'
               go_simp
               with_reducible rfl
              rotate_left
              ·simp only [Act.put, List.setIfInBounds_toArray, List.set_cons_zero, List.set_cons_succ, i64_w, i32_w]
               rfl
              refine pure_ (i := 3) (N := some 65) (v := ?_) (a' := ?_) #[true, true, true, true, false, false, false, false, false, false, false, false, false, false, false, false] rfl rfl (any_of HT_.out (by kernel_rfl)) (fun _ _ _ h => h) (Or.inl ⟨by rfl, ?_⟩) ?_ ?_
              rotate_left
              ·intro w'
               go_simp
               with_reducible rfl
              rotate_left
              ·simp only [Act.put, List.setIfInBounds_toArray, List.set_cons_zero, List.set_cons_succ, i64_w, i32_w]
               rfl
              refine pure_ (i := 4) (N := some 66) (v := undef) (a' := ?_) #[true, true, true, true, true, false, false, false, false, false, false, false, false, false, false, false] rfl rfl (any_of HT_.out (by kernel_rfl)) (fun _ _ _ h => h) (Or.inr ⟨by rfl, rfl⟩) ?_ ?_
              rotate_left
              ·simp only [Act.put, List.setIfInBounds_toArray, List.set_cons_zero, List.set_cons_succ, i64_w, i32_w]
               rfl
              refine pure_ (i := 5) (N := some 67) (v := undef) (a' := ?_) #[true, true, true, true, true, true, false, false, false, false, false, false, false, false, false, false] rfl rfl (any_of HT_.out (by kernel_rfl)) (fun _ _ _ h => h) (Or.inr ⟨by rfl, rfl⟩) ?_ ?_
              rotate_left
              ·simp only [Act.put, List.setIfInBounds_toArray, List.set_cons_zero, List.set_cons_succ, i64_w, i32_w]
               rfl
              refine pure_ (i := 6) (N := some 68) (v := undef) (a' := ?_) #[true, true, true, true, true, true, true, false, false, false, false, false, false, false, false, false] rfl rfl (any_of HT_.out (by kernel_rfl)) (fun _ _ _ h => h) (Or.inr ⟨by rfl, rfl⟩) ?_ ?_
              rotate_left
              ·simp only [Act.put, List.setIfInBounds_toArray, List.set_cons_zero, List.set_cons_succ, i64_w, i32_w]
               rfl
              refine pure_ (i := 7) (N := some 69) (v := undef) (a' := ?_) #[true, true, true, true, true, true, true, true, false, false, false, false, false, false, false, false] rfl rfl (any_of HT_.out (by kernel_rfl)) (fun _ _ _ h => h) (Or.inr ⟨by rfl, rfl⟩) ?_ ?_
              rotate_left
              ·simp only [Act.put, List.setIfInBounds_toArray, List.set_cons_zero, List.set_cons_succ, i64_w, i32_w]
               rfl
              refine pure_ (i := 8) (N := some 70) (v := undef) (a' := ?_) #[true, true, true, true, true, true, true, true, true, false, false, false, false, false, false, false] rfl rfl (any_of HT_.out (by kernel_rfl)) (fun _ _ _ h => h) (Or.inr ⟨by rfl, rfl⟩) ?_ ?_
              rotate_left
              ·simp only [Act.put, List.setIfInBounds_toArray, List.set_cons_zero, List.set_cons_succ, i64_w, i32_w]
               rfl
              refine pure_ (i := 9) (N := some 71) (v := undef) (a' := ?_) #[true, true, true, true, true, true, true, true, true, true, false, false, false, false, false, false] rfl rfl (any_of HT_.out (by kernel_rfl)) (fun _ _ _ h => h) (Or.inr ⟨by rfl, rfl⟩) ?_ ?_
              rotate_left
              ·simp only [Act.put, List.setIfInBounds_toArray, List.set_cons_zero, List.set_cons_succ, i64_w, i32_w]
               rfl
              refine pure_ (i := 10) (N := some 72) (v := undef) (a' := ?_) #[true, true, true, true, true, true, true, true, true, true, true, false, false, false, false, false] rfl rfl (any_of HT_.out (by kernel_rfl)) (fun _ _ _ h => h) (Or.inr ⟨by rfl, rfl⟩) ?_ ?_
              rotate_left
              ·simp only [Act.put, List.setIfInBounds_toArray, List.set_cons_zero, List.set_cons_succ, i64_w, i32_w]
               rfl
              refine pure_ (i := 11) (N := some 73) (v := undef) (a' := ?_) #[true, true, true, true, true, true, true, true, true, true, true, true, false, false, false, false] rfl rfl (any_of HT_.out (by kernel_rfl)) (fun _ _ _ h => h) (Or.inr ⟨by rfl, rfl⟩) ?_ ?_
              rotate_left
              ·simp only [Act.put, List.setIfInBounds_toArray, List.set_cons_zero, List.set_cons_succ, i64_w, i32_w]
               rfl
              refine pure_ (i := 12) (N := some 74) (v := undef) (a' := ?_) #[true, true, true, true, true, true, true, true, true, true, true, true, true, false, false, false] rfl rfl (any_of HT_.out (by kernel_rfl)) (fun _ _ _ h => h) (Or.inr ⟨by rfl, rfl⟩) ?_ ?_
              rotate_left
              ·simp only [Act.put, List.setIfInBounds_toArray, List.set_cons_zero, List.set_cons_succ, i64_w, i32_w]
               rfl
              refine pure_ (i := 13) (N := some 75) (v := undef) (a' := ?_) #[true, true, true, true, true, true, true, true, true, true, true, true, true, true, false, false] rfl rfl (any_of HT_.out (by kernel_rfl)) (fun _ _ _ h => h) (Or.inr ⟨by rfl, rfl⟩) ?_ ?_
              rotate_left
              ·simp only [Act.put, List.setIfInBounds_toArray, List.set_cons_zero, List.set_cons_succ, i64_w, i32_w]
               rfl
              refine pure_ (i := 14) (N := some 76) (v := undef) (a' := ?_) #[true, true, true, true, true, true, true, true, true, true, true, true, true, true, true, false] rfl rfl (any_of HT_.out (by kernel_rfl)) (fun _ _ _ h => h) (Or.inr ⟨by rfl, rfl⟩) ?_ ?_
              rotate_left
              ·simp only [Act.put, List.setIfInBounds_toArray, List.set_cons_zero, List.set_cons_succ, i64_w, i32_w]
               rfl
              refine pure_ (i := 15) (N := some 77) (v := ?_) (a' := ?_) #[true, true, true, true, true, true, true, true, true, true, true, true, true, true, true, true] rfl rfl (any_of HT_.out (by kernel_rfl)) (fun _ _ _ h => h) (Or.inl ⟨by rfl, ?_⟩) ?_ ?_
              rotate_left
              ·intro w'
               go_simp
               with_reducible rfl
              rotate_left
              ·simp only [Act.put, List.setIfInBounds_toArray, List.set_cons_zero, List.set_cons_succ, i64_w, i32_w]
               rfl
              refine done_ (done_of HT_.out (by kernel_rfl)) ?_
              try go_wp2
              go_meet
              case rel => exact ⟨_, (false), (by first | rfl | (simp; done) | (simp [*]; done)), H', ⟨by have := HJ5.out; have := HK2.out; have := HK3.out; first | omega | exact Nat.le_refl _⟩, ⟨kr HO_13⟩, ⟨kr HO_15⟩, ⟨kr HO_16⟩, ⟨bkn BK653⟩, ⟨bkn BK663⟩, ⟨bkn BK669⟩, ⟨bw⟩⟩
            case rest =>
             clear HC29
             try clear c9
             try clear c11
             try clear c11b0
             try clear c11b1
             try clear c14
             try clear c14b0
             try clear c15
             try clear c15b0
             try clear c16
             try clear c16b0
             try clear hcz12_0 hcz12_1 hcz12_2 hcz12_3 hcz12_4 hcz12_5 hcz12_6 hcz12_7 hcz12_8 hcz12_9
             try clear hcz23_0 hcz23_1 hcz23_2
             try clear hcz28_0 hcz28_1 hcz28_2
             try clear hfz12_0 hfz12_1 hfz12_2 hfz12_3 hfz12_4 hfz12_5 hfz12_6 hfz12_7 hfz12_8 hfz12_9
             try clear hfz23_0 hfz23_1 hfz23_2
             try clear hfz28_0 hfz28_1 hfz28_2
             try clear hx658_0
             try clear hx658_1
             try clear hx658_2
             try clear hx664_0
             try clear hx664_1
             try clear hx664_2
             try clear p658
             try clear p664
             try clear q658
             try clear q664
             obtain ⟨kq, x77_28, rfl, HA, HJ28, HO_13, HO_15, HO_16, BK653, BK663, BK669, HB⟩ := hcut
             cases kq with
             | zero => exact absurd HA.out (by simp [period_Spans.j3])
             | succ kj28 =>
              have H := HA.out
              clear HA
              simp only [period_Spans.j3] at H
              by_cases c39 : x77_28 = true
              ·subst c39
               have H1 : (period_Spans.l1 kj28 a1 a4 t654 x15_2 x16_2 (wrap64 (x17_3 + 1)) t668 x17_2 t659 t660 t661 t665 t666 t667) = some (r1, r2, r3) := by rw [if_pos rfl] at H; exact H
               clear H
               have H := H1
               clear H1
               have H' := AX H
               clear H
               go_wp2
               go_roundg kj28
               case measure => have := HJ5.out; have := HK2.out; have := HK3.out; have := HJ28.out; omega
               case rel => exact ⟨(wrap64 (x17_3 + 1)), (by first | rfl | (simp; done) | (simp [*]; done)), H', ⟨by have := HJ5.out; have := HK2.out; have := HK3.out; have := HJ28.out; omega⟩, ⟨kr HO_13⟩, ⟨kr HO_15⟩, ⟨kr HO_16⟩, ⟨bkn BK653⟩, ⟨bkn BK663⟩, ⟨bkn BK669⟩, ⟨bw⟩⟩
              ·replace c39 := Bool.eq_false_iff.mpr c39
               subst c39
               have H1 : ((some (([(⟨x17_2, x17_3⟩ : S74)] : List (S74)) : List (S74))).bind fun y672 => (if x15_2.length + y672.length < 8796093022208 then ((some (([(⟨t659, t660, t661⟩ : S33)] : List (S33)) : List (S33))).bind fun y678 => (if x16_2.length + y678.length < 5864062014805 then (period_Spans.l0 kj28 a1 a4 t654 (x15_2 ++ y672) (x16_2 ++ y678) x17_3) else (none))) else (none))) = some (r1, r2, r3) := by rw [if_neg (show ¬ (false = true) by decide)] at H; exact H
               clear H
               have H := H1
               clear H1
               obtain ⟨y672, hy672⟩ : ∃ y_ : List (S74), y_ = (([(⟨x17_2, x17_3⟩ : S74)] : List (S74))) := ⟨_, rfl⟩
               replace H : (if x15_2.length + y672.length < 8796093022208 then ((some (([(⟨t659, t660, t661⟩ : S33)] : List (S33)) : List (S33))).bind fun y678 => (if x16_2.length + y678.length < 5864062014805 then (period_Spans.l0 kj28 a1 a4 t654 (x15_2 ++ y672) (x16_2 ++ y678) x17_3) else (none))) else (none)) = some (r1, r2, r3) := by first | (rw [hy672]; with_reducible exact H) | (have H2_ := (Option.bind_some _ _).symm.trans H; rw [hy672]; with_reducible exact H2_) | (have H2_ := (Option.bind_some _ _).symm.trans H; with_reducible exact H2_) | with_reducible exact H | (rw [hy672]; exact H) | exact H
               have Ny672 := AX hy672
               clear hy672
               by_cases c40 : x15_2.length + y672.length < 8796093022208
               ·rw [if_pos c40] at H
                have LMc40 := AX c40
                clear c40
                obtain ⟨y675, hy675⟩ : ∃ y_ : List (S74), y_ = (x15_2 ++ y672) := ⟨_, rfl⟩
                replace H : ((some (([(⟨t659, t660, t661⟩ : S33)] : List (S33)) : List (S33))).bind fun y678 => (if x16_2.length + y678.length < 5864062014805 then (period_Spans.l0 kj28 a1 a4 t654 y675 (x16_2 ++ y678) x17_3) else (none))) = some (r1, r2, r3) := by first | (rw [hy675]; with_reducible exact H) | (have H2_ := (Option.bind_some _ _).symm.trans H; rw [hy675]; with_reducible exact H2_) | (have H2_ := (Option.bind_some _ _).symm.trans H; with_reducible exact H2_) | with_reducible exact H | (rw [hy675]; exact H) | exact H
                have Ny675 := AX hy675
                clear hy675
                obtain ⟨y678, hy678⟩ : ∃ y_ : List (S33), y_ = (([(⟨t659, t660, t661⟩ : S33)] : List (S33))) := ⟨_, rfl⟩
                replace H : (if x16_2.length + y678.length < 5864062014805 then (period_Spans.l0 kj28 a1 a4 t654 y675 (x16_2 ++ y678) x17_3) else (none)) = some (r1, r2, r3) := by first | (rw [hy678]; with_reducible exact H) | (have H2_ := (Option.bind_some _ _).symm.trans H; rw [hy678]; with_reducible exact H2_) | (have H2_ := (Option.bind_some _ _).symm.trans H; with_reducible exact H2_) | with_reducible exact H | (rw [hy678]; exact H) | exact H
                have Ny678 := AX hy678
                clear hy678
                by_cases c41 : x16_2.length + y678.length < 5864062014805
                ·rw [if_pos c41] at H
                 have LMc41 := AX c41
                 clear c41
                 obtain ⟨y681, hy681⟩ : ∃ y_ : List (S33), y_ = (x16_2 ++ y678) := ⟨_, rfl⟩
                 replace H : (period_Spans.l0 kj28 a1 a4 t654 y675 y681 x17_3) = some (r1, r2, r3) := by first | (rw [hy681]; with_reducible exact H) | (have H2_ := (Option.bind_some _ _).symm.trans H; rw [hy681]; with_reducible exact H2_) | (have H2_ := (Option.bind_some _ _).symm.trans H; with_reducible exact H2_) | with_reducible exact H | (rw [hy681]; exact H) | exact H
                 have Ny681 := AX hy681
                 clear hy681
                 have H' := AX H
                 clear H
                 obtain ⟨Ao42, co42, eo42⟩ := Kd.R_slice HO_15.out
                 subst eo42
                 obtain ⟨Ao43, co43, eo43⟩ := Kd.R_slice HO_16.out
                 subst eo43
                 try go_wp2
                 have n0_ := AX (Kd.R_drew HO_13.out)
                 have n1_ := AX (Kd.R_drew HO_15.out)
                 have n2_ := AX (Kd.R_drew HO_16.out)
                 have n3_ := AX (blk_drew BK653.out)
                 have n4_ := AX (blk_drew BK663.out)
                 have n5_ := AX (blk_drew BK669.out)
                 have n6_ := AX (below_drew1 HB.out)
                 clear HO_13
                 clear HO_15
                 clear HO_16
                 clear BK653
                 clear BK663
                 clear BK669
                 clear HB
                 have HO_13 := n0_
                 have HO_15 := n1_
                 have HO_16 := n2_
                 have BK653 := n3_
                 have BK663 := n4_
                 have BK669 := n5_
                 have HB := n6_
                 clear n0_ n1_ n2_ n3_ n4_ n5_ n6_
                 refine start_ (n := 12) (S := fun w' => w'.cell? ⟨gb663, 0, none⟩ = some (.int .i64 t659) ∧ w'.cell? ⟨gb663, 1, none⟩ = some (.int .i64 t660) ∧ w'.cell? ⟨gb663, 2, none⟩ = some (.int .i64 t661)) (ds := []) #[false, false, false, false, false, false, false, false, false, false, false, false] (by kernel_rfl) rfl rfl ⟨(blk_cell BK663.out 0).trans rfl, (blk_cell BK663.out 1).trans rfl, (blk_cell BK663.out 2).trans rfl⟩ (fun hHeld => ?_); refine with_tabW period_Spans.tab15 period_Spans.bits15 (fun HT_ HW_ => ?_)
                 generalize wc.drew = w44 at HO_13 HO_15 HO_16 BK653 BK663 BK669 HB hHeld ⊢
                 refine pure_ (i := 0) (N := some 80) (v := ?_) (a' := ?_) #[true, false, false, false, false, false, false, false, false, false, false, false] rfl rfl (any_of HT_.out (by kernel_rfl)) (fun _ _ _ h => h) (Or.inl ⟨by rfl, ?_⟩) ?_ ?_
                 rotate_left
                 ·intro w'
                  go_simp
                  with_reducible rfl
                 rotate_left
                 ·simp only [Act.put, List.setIfInBounds_toArray, List.set_cons_zero, List.set_cons_succ, i64_w, i32_w]
                  rfl
                 refine pure_ (i := 1) (N := some 81) (v := ?_) (a' := ?_) #[true, true, false, false, false, false, false, false, false, false, false, false] rfl rfl (any_of HT_.out (by kernel_rfl)) (fun _ _ _ h => h) (Or.inl ⟨by rfl, ?_⟩) ?_ ?_
                 rotate_left
                 ·intro w'
                  go_simp
                  with_reducible rfl
                 rotate_left
                 ·simp only [Act.put, List.setIfInBounds_toArray, List.set_cons_zero, List.set_cons_succ, i64_w, i32_w]
                  rfl
                 refine pure_ (i := 2) (N := some 82) (v := ?_) (a' := ?_) #[true, true, true, false, false, false, false, false, false, false, false, false] rfl rfl (any_of HT_.out (by kernel_rfl)) (fun _ _ _ h => h) (Or.inl ⟨by rfl, ?_⟩) ?_ ?_
                 rotate_left
                 ·intro w'
                  go_simp
                  with_reducible rfl
                 rotate_left
                 ·simp only [Act.put, List.setIfInBounds_toArray, List.set_cons_zero, List.set_cons_succ, i64_w, i32_w]
                  rfl
                 refine pure_ (i := 3) (N := some 83) (v := ?_) (a' := ?_) #[true, true, true, true, false, false, false, false, false, false, false, false] rfl rfl (any_of HT_.out (by kernel_rfl)) (fun _ _ _ h => h) (Or.inl ⟨by rfl, ?_⟩) ?_ ?_
                 rotate_left
                 ·intro w'
                  go_simp
                  with_reducible rfl
                 rotate_left
                 ·simp only [Act.put, List.setIfInBounds_toArray, List.set_cons_zero, List.set_cons_succ, i64_w, i32_w]
                  rfl
                 refine pure_ (i := 6) (N := some 86) (v := ?_) (a' := ?_) #[true, true, true, true, false, false, true, false, false, false, false, false] rfl rfl (any_of HT_.out (by kernel_rfl)) (fun _ _ _ h => h) (Or.inl ⟨by rfl, ?_⟩) ?_ ?_
                 rotate_left
                 ·intro w'
                  go_simp
                  with_reducible rfl
                 rotate_left
                 ·simp only [Act.put, List.setIfInBounds_toArray, List.set_cons_zero, List.set_cons_succ, i64_w, i32_w]
                  rfl
                 refine take_ (i := 7) (N := some 87) (v := ?_) (a' := ?_) #[true, true, true, true, false, false, true, true, false, false, false, false] rfl rfl (take_ofW HT_.out HW_.out (by kernel_rfl)) (fun _ _ _ h => h) (Or.inl ⟨by rfl, ?_⟩) hHeld ?_ ?_
                 rotate_left
                 ·rintro w' ⟨s0, s1, s2⟩
                  go_simp
                  with_reducible rfl
                 rotate_left
                 ·simp only [Act.put, List.setIfInBounds_toArray, List.set_cons_zero, List.set_cons_succ, i64_w, i32_w]
                  rfl
                 refine join_ (σ := Value × Value × Value) 3 #[true, true, true, true, true, true, true, true, true, false, false, false] (fun s_ => [(84, s_.1), (85, s_.2.1), (88, s_.2.2)]) (fun s_ w' => (w'.cell? ⟨gb663, 0, none⟩ = some (.int .i64 t659) ∧ w'.cell? ⟨gb663, 1, none⟩ = some (.int .i64 t660) ∧ w'.cell? ⟨gb663, 2, none⟩ = some (.int .i64 t661)) ∧ (Kd.R k74 74 w' w.heap.size (fun k_ => some k_ ≠ (s_.2.1 : Value).ownBlock) s_.1 y672) ∧ (Kd.R k74 74 w' w.heap.size (fun k_ => some k_ ≠ (s_.1 : Value).ownBlock) s_.2.1 y675) ∧ (Kd.R k33 33 w' w.heap.size (fun k_ => some k_ ≠ (.slice (some ad658) t654.length co19 : Value).ownBlock ∧ some k_ ≠ (.slice Ao43 x16_2.length co43 : Value).ownBlock ∧ k_ ≠ gb663 ∧ k_ ≠ gb669) s_.2.2 y678) ∧ (Kd.R k33 33 w' w.heap.size (fun k_ => some k_ ≠ (s_.2.2 : Value).ownBlock ∧ some k_ ≠ (.slice Ao43 x16_2.length co43 : Value).ownBlock ∧ k_ ≠ gb663 ∧ k_ ≠ gb669) (.slice (some ad658) t654.length co19) t654) ∧ (Kd.R k33 33 w' w.heap.size (fun k_ => some k_ ≠ (s_.2.2 : Value).ownBlock ∧ some k_ ≠ (.slice (some ad658) t654.length co19 : Value).ownBlock ∧ k_ ≠ gb663 ∧ k_ ≠ gb669) (.slice Ao43 x16_2.length co43) x16_2) ∧ (w'.heap[gb653]? = some (.cells #[.int .i64 a0_0, .int .i64 a0_1, .int .i64 a0_2, .int .i64 a0_3, .int .i64 a0_4, .int .i64 a0_5, .int .i64 a0_6, .int .i64 a0_7, .int .i64 a0_8, .int .i64 a0_9] 25 (0, 0))) ∧ (w'.heap[gb663]? = some (.cells #[.int .i64 t659, .int .i64 t660, .int .i64 t661] 33 (0, 0))) ∧ (w'.heap[gb669]? = some (.cells #[.int .i64 t665, .int .i64 t666, .int .i64 t667] 33 (0, 0))) ∧ (Below w.heap.size w w')) ?_ ?_
                 rotate_left
                 ·intro hCont
                  refine two_ (i := 4) (j := 8) (Ni := some 84) (Nj := some 88) #[true, true, true, true, true, false, true, true, false, false, false, false] #[true, true, true, true, false, false, true, true, true, false, false, false] rfl rfl rfl rfl (two_of HT_.out (by kernel_rfl)) (by decide) (by decide) (fun K hK => ?_) (fun K hK => ?_)
                  ·skip
                   refine Kd.R_lit_step k74 _ 74 ?hg (N := 84) ?hd (xs := ([(⟨x17_2, x17_3⟩ : S74)] : List (S74))) (inner := [.int .i64 x17_2, .int .i64 x17_3]) (ok := fun _ => True) (okp := fun _ => True) ?hr ?hp (fun _ hk => hk) trivial (Below.refl _ _) (Nat.le_refl _) (by simp) ?_; (case hd => rfl); (case hg => rfl); (case hr => first | (go_simp; done) | (go_simp; rfl)); (case hp => exact (Reps.c2 (show Kd.M k74 _ _ _ (⟨x17_2, x17_3⟩ : S74) [.int .i64 x17_2, .int .i64 x17_3] from (k74_mkM _ _ _ (⟨x17_2, x17_3⟩ : S74) )) (Reps.none _ _)))
                   intro v673 w45 ho46 hb hg_ hnew_
                   clear hg_ hnew_
                   (first | rw [← Ny672.out] at ho46 | (simp only [Int.reduceToNat] at ho46; rw [← Ny672.out] at ho46))
                   have n0_ := AX (Kd.R_below (kr HO_13) hb)
                   have n1_ := AX (Kd.R_elder' (kr HO_15) (Kd.R_base ho46) hb)
                   have n2_ := AX (Kd.R_below (kr HO_16) hb)
                   have n3_ := AX (Kd.R_lower (Kd.R_new' ho46 (Kd.R_lt (kr HO_15))) (below_size bw))
                   have n4_ := AX (bkb BK653 hb)
                   have n5_ := AX (bkb BK663 hb)
                   have n6_ := AX (bkb BK669 hb)
                   have n7_ := AX (below_step bw hb)
                   clear HO_13
                   clear HO_15
                   clear HO_16
                   clear BK653
                   clear BK663
                   clear BK669
                   clear HB
                   have HO_13 := n0_
                   have HO_15 := n1_
                   have HO_16 := n2_
                   have HO674 := n3_
                   have BK653 := n4_
                   have BK663 := n5_
                   have BK669 := n6_
                   have HB := n7_
                   clear n0_ n1_ n2_ n3_ n4_ n5_ n6_ n7_
                   clear hb ho46
                   obtain ⟨Ao48, co48, eo48⟩ := Kd.R_slice HO674.out
                   (first | subst eo48 | (injection eo48 with f1_ f2_ f3_; have f4_ := f1_.symm; have f5_ := f3_.symm; clear f1_ f2_ f3_; subst f4_; subst f5_))
                   refine hK.out _ _ ⟨(blk_cell BK663.out 0).trans rfl, (blk_cell BK663.out 1).trans rfl, (blk_cell BK663.out 2).trans rfl⟩ (fun hHeld => ?_)
                   clear hK K
                   refine norm_ (a' := ?_) ?_ ?_
                   rotate_left
                   ·show Act.put _ (some 84) _ = _
                    simp only [Act.put, List.setIfInBounds_toArray, List.set_cons_zero, List.set_cons_succ, i64_w, i32_w]
                    rfl
                   refine two_ (i := 5) (j := 8) (Ni := some 85) (Nj := some 88) #[true, true, true, true, true, true, true, true, false, false, false, false] #[true, true, true, true, true, false, true, true, true, false, false, false] rfl rfl rfl rfl (two_of HT_.out (by kernel_rfl)) (by decide) (by decide) (fun K hK => ?_) (fun K hK => ?_)
                   ·skip
                    refine Kd.R_append_rows_step k74 (w0 := w) w.heap.size (by rfl) (.tmp 80) (.tmp 84) 68 74 (.agg #[(.int .i64 0), (.int .i64 0)]) 16 rfl Try.underlying68 info74 rfl (by decide) (by omega) (.slice Ao42 x15_2.length co42) x15_2 y672 _ _ _ (fun k_ => some k_ ≠ (.slice Ao48 y672.length co48 : Value).ownBlock) (fun _ => False) rfl rfl ?aO ?aR (fun _ _ h => h) (fun _ h => h.elim) ?aF ?aB ?aS ?aL ?_
                    (case aR => repeat (first | exact (Kd.R_reads' HO674.out).2.2 | (with_reducible refine Kd.C_alloc ?_ _) | (with_reducible refine Kd.C_drewN ?_ _) | (with_reducible refine Kd.C_drew ?_)))
                    (case aB => exact bw)
                    (case aF => exact (fun k_ hk => Kd.fresh' (Kd.R_lt (kr HO674)) k_ hk))
                    (case aO => exact (by (with_reducible repeat (first | apply Kd.R_alloc | apply Kd.R_drewN | apply Kd.R_drew)); exact Kd.R_mono HO_15.out (fun _ hk => hk.2)))
                    (case aS => exact (below_size bw))
                    (case aL => have := LMc40.out; omega)
                    intro v676 w47 ho hb hg hat
                    rw [← Ny675.out] at ho
                    have n0_ := AX (Kd.R_over' (kr HO_13) (Kd.R_typed (kr HO_15)) (by decide) hg)
                    have n1_ := AX (Kd.R_over' (kr HO_16) (Kd.R_typed (kr HO_15)) (by decide) hg)
                    have n2_ := AX (blk_grown (g := gb653) (o := .cells #[.int .i64 a0_0, .int .i64 a0_1, .int .i64 a0_2, .int .i64 a0_3, .int .i64 a0_4, .int .i64 a0_5, .int .i64 a0_6, .int .i64 a0_7, .int .i64 a0_8, .int .i64 a0_9] 25 (0, 0)) (bkn BK653) hg (by first | exact Kd.R_ne HO_15.out BK653.out (by decide) | exact fun e_ => (And.left HO_15.out _ e_.symm).2 rfl | exact fun e_ => (And.left HO_15.out _ e_.symm).1.2 rfl | exact fun e_ => (And.left HO_15.out _ e_.symm).2.1 rfl | exact fun e_ => (And.left HO_15.out _ e_.symm).2.2 rfl))
                    have n3_ := AX (blk_grown (g := gb663) (o := .cells #[.int .i64 t659, .int .i64 t660, .int .i64 t661] 33 (0, 0)) (bkn BK663) hg (by first | exact Kd.R_ne HO_15.out BK663.out (by decide) | exact fun e_ => (And.left HO_15.out _ e_.symm).2 rfl | exact fun e_ => (And.left HO_15.out _ e_.symm).1.2 rfl | exact fun e_ => (And.left HO_15.out _ e_.symm).2.1 rfl | exact fun e_ => (And.left HO_15.out _ e_.symm).2.2 rfl))
                    have n4_ := AX (blk_grown (g := gb669) (o := .cells #[.int .i64 t665, .int .i64 t666, .int .i64 t667] 33 (0, 0)) (bkn BK669) hg (by first | exact Kd.R_ne HO_15.out BK669.out (by decide) | exact fun e_ => (And.left HO_15.out _ e_.symm).2 rfl | exact fun e_ => (And.left HO_15.out _ e_.symm).1.2 rfl | exact fun e_ => (And.left HO_15.out _ e_.symm).2.1 rfl | exact fun e_ => (And.left HO_15.out _ e_.symm).2.2 rfl))
                    have n5_ := AX (Kd.R_after (ok := (fun _ => True)) (kr HO674) hg hat)
                    have n6_ := AX (hb)
                    have n7_ := AX (ho)
                    clear HO_13
                    clear HO_16
                    clear BK653
                    clear BK663
                    clear BK669
                    clear HO674
                    clear HB
                    clear HO_15
                    have HO_13 := n0_
                    have HO_16 := n1_
                    have BK653 := n2_
                    have BK663 := n3_
                    have BK669 := n4_
                    have HO674 := n5_
                    have HB := n6_
                    have HO677 := n7_
                    clear n0_ n1_ n2_ n3_ n4_ n5_ n6_ n7_
                    clear ho hb hg hat
                    refine hK.out _ _ ⟨(blk_cell BK663.out 0).trans rfl, (blk_cell BK663.out 1).trans rfl, (blk_cell BK663.out 2).trans rfl⟩ (fun hHeld => ?_)
                    clear hK K
                    refine norm_ (a' := ?_) ?_ ?_
                    rotate_left
                    ·show Act.put _ (some 85) _ = _
                     simp only [Act.put, List.setIfInBounds_toArray, List.set_cons_zero, List.set_cons_succ, i64_w, i32_w]
                     rfl
                    refine one_ (i := 8) (N := some 88) #[true, true, true, true, true, true, true, true, true, false, false, false] rfl rfl (one_of HT_.out (by kernel_rfl)) (by decide) (fun K hK => ?_)
                    refine Kd.R_lit_step k33 _ 33 ?hg (N := 88) ?hd (xs := ([(⟨t659, t660, t661⟩ : S33)] : List (S33))) (inner := [.int .i64 t659, .int .i64 t660, .int .i64 t661]) (ok := fun _ => True) (okp := fun _ => True) ?hr ?hp (fun _ hk => hk) trivial (Below.refl _ _) (Nat.le_refl _) (by simp) ?_; (case hd => rfl); (case hg => rfl); (case hr => first | (go_simp; done) | (go_simp; rfl)); (case hp => exact (Reps.c3 (show Kd.M k33 _ _ _ (⟨t659, t660, t661⟩ : S33) [.int .i64 t659, .int .i64 t660, .int .i64 t661] from (k33_mkM _ _ _ (⟨t659, t660, t661⟩ : S33) )) (Reps.none _ _)))
                    intro v679 w49 ho50 hb hg_ hnew_
                    clear hg_ hnew_
                    (first | rw [← Ny678.out] at ho50 | (simp only [Int.reduceToNat] at ho50; rw [← Ny678.out] at ho50))
                    have n0_ := AX (Kd.R_elder' (kr HO_13) (Kd.R_base ho50) hb)
                    have n1_ := AX (Kd.R_elder' (kr HO_16) (Kd.R_base ho50) hb)
                    have n2_ := AX (Kd.R_below (kr HO674) hb)
                    have n3_ := AX (Kd.R_below (kr HO677) hb)
                    have n4_ := AX (Kd.R_lower (Kd.R_newB (Kd.R_newB (Kd.R_new' (Kd.R_new' ho50 (Kd.R_lt (kr HO_13))) (Kd.R_lt (kr HO_16))) (g := gb663) (o := .cells #[.int .i64 t659, .int .i64 t660, .int .i64 t661] 33 (0, 0)) (bkn BK663)) (g := gb669) (o := .cells #[.int .i64 t665, .int .i64 t666, .int .i64 t667] 33 (0, 0)) (bkn BK669)) (below_size bw))
                    have n5_ := AX (bkb BK653 hb)
                    have n6_ := AX (bkb BK663 hb)
                    have n7_ := AX (bkb BK669 hb)
                    have n8_ := AX (below_step bw hb)
                    clear HO_13
                    clear HO_16
                    clear HO674
                    clear HO677
                    clear BK653
                    clear BK663
                    clear BK669
                    clear HB
                    have HO_13 := n0_
                    have HO_16 := n1_
                    have HO674 := n2_
                    have HO677 := n3_
                    have HO680 := n4_
                    have BK653 := n5_
                    have BK663 := n6_
                    have BK669 := n7_
                    have HB := n8_
                    clear n0_ n1_ n2_ n3_ n4_ n5_ n6_ n7_ n8_
                    clear hb ho50
                    refine hK.out _ _ ⟨(blk_cell BK663.out 0).trans rfl, (blk_cell BK663.out 1).trans rfl, (blk_cell BK663.out 2).trans rfl⟩ (fun hHeld => ?_)
                    clear hK K
                    refine norm_ (a' := ?_) ?_ ?_
                    rotate_left
                    ·show Act.put _ (some 88) _ = _
                     simp only [Act.put, List.setIfInBounds_toArray, List.set_cons_zero, List.set_cons_succ, i64_w, i32_w]
                     rfl
                    exact norm_ (by simp only [putAll, Act.put, List.setIfInBounds_toArray, List.set_cons_zero, List.set_cons_succ]) (hCont (.slice Ao48 y672.length co48, v676, v679) _ ⟨hHeld, (by (with_reducible repeat (first | apply Kd.R_alloc | apply Kd.R_drewN | apply Kd.R_drew)); exact Kd.R_mono HO674.out (fun _ hk => hk.2)), (kr HO677), (by (with_reducible repeat (first | apply Kd.R_alloc | apply Kd.R_drewN | apply Kd.R_drew)); exact Kd.R_mono HO680.out (fun _ hk => ⟨hk.1.1.1.2, ⟨hk.1.1.2, ⟨hk.1.2, hk.2⟩⟩⟩)), (by (with_reducible repeat (first | apply Kd.R_alloc | apply Kd.R_drewN | apply Kd.R_drew)); exact Kd.R_mono HO_13.out (fun _ hk => ⟨hk.2, ⟨hk.1.1, ⟨hk.1.2.1, hk.1.2.2⟩⟩⟩)), (by (with_reducible repeat (first | apply Kd.R_alloc | apply Kd.R_drewN | apply Kd.R_drew)); exact Kd.R_mono HO_16.out (fun _ hk => ⟨hk.2, ⟨hk.1.1, ⟨hk.1.2.1, hk.1.2.2⟩⟩⟩)), (bkn BK653), (bkn BK663), (bkn BK669), bw⟩)
                   ·skip
                    refine Kd.R_lit_step k33 _ 33 ?hg (N := 88) ?hd (xs := ([(⟨t659, t660, t661⟩ : S33)] : List (S33))) (inner := [.int .i64 t659, .int .i64 t660, .int .i64 t661]) (ok := fun _ => True) (okp := fun _ => True) ?hr ?hp (fun _ hk => hk) trivial (Below.refl _ _) (Nat.le_refl _) (by simp) ?_; (case hd => rfl); (case hg => rfl); (case hr => first | (go_simp; done) | (go_simp; rfl)); (case hp => exact (Reps.c3 (show Kd.M k33 _ _ _ (⟨t659, t660, t661⟩ : S33) [.int .i64 t659, .int .i64 t660, .int .i64 t661] from (k33_mkM _ _ _ (⟨t659, t660, t661⟩ : S33) )) (Reps.none _ _)))
                    intro v679 w47 ho48 hb hg_ hnew_
                    clear hg_ hnew_
                    (first | rw [← Ny678.out] at ho48 | (simp only [Int.reduceToNat] at ho48; rw [← Ny678.out] at ho48))
                    have n0_ := AX (Kd.R_elder' (kr HO_13) (Kd.R_base ho48) hb)
                    have n1_ := AX (Kd.R_below (kr HO_15) hb)
                    have n2_ := AX (Kd.R_elder' (kr HO_16) (Kd.R_base ho48) hb)
                    have n3_ := AX (Kd.R_below (kr HO674) hb)
                    have n4_ := AX (Kd.R_lower (Kd.R_newB (Kd.R_newB (Kd.R_new' (Kd.R_new' ho48 (Kd.R_lt (kr HO_13))) (Kd.R_lt (kr HO_16))) (g := gb663) (o := .cells #[.int .i64 t659, .int .i64 t660, .int .i64 t661] 33 (0, 0)) (bkn BK663)) (g := gb669) (o := .cells #[.int .i64 t665, .int .i64 t666, .int .i64 t667] 33 (0, 0)) (bkn BK669)) (below_size bw))
                    have n5_ := AX (bkb BK653 hb)
                    have n6_ := AX (bkb BK663 hb)
                    have n7_ := AX (bkb BK669 hb)
                    have n8_ := AX (below_step bw hb)
                    clear HO_13
                    clear HO_15
                    clear HO_16
                    clear HO674
                    clear BK653
                    clear BK663
                    clear BK669
                    clear HB
                    have HO_13 := n0_
                    have HO_15 := n1_
                    have HO_16 := n2_
                    have HO674 := n3_
                    have HO680 := n4_
                    have BK653 := n5_
                    have BK663 := n6_
                    have BK669 := n7_
                    have HB := n8_
                    clear n0_ n1_ n2_ n3_ n4_ n5_ n6_ n7_ n8_
                    clear hb ho48
                    obtain ⟨Ao50, co50, eo50⟩ := Kd.R_slice HO674.out
                    (first | subst eo50 | (injection eo50 with f1_ f2_ f3_; have f4_ := f1_.symm; have f5_ := f3_.symm; clear f1_ f2_ f3_; subst f4_; subst f5_))
                    refine hK.out _ _ ⟨(blk_cell BK663.out 0).trans rfl, (blk_cell BK663.out 1).trans rfl, (blk_cell BK663.out 2).trans rfl⟩ (fun hHeld => ?_)
                    clear hK K
                    refine norm_ (a' := ?_) ?_ ?_
                    rotate_left
                    ·show Act.put _ (some 88) _ = _
                     simp only [Act.put, List.setIfInBounds_toArray, List.set_cons_zero, List.set_cons_succ, i64_w, i32_w]
                     rfl
                    refine one_ (i := 5) (N := some 85) #[true, true, true, true, true, true, true, true, true, false, false, false] rfl rfl (one_of HT_.out (by kernel_rfl)) (by decide) (fun K hK => ?_)
                    refine Kd.R_append_rows_step k74 (w0 := w) w.heap.size (by rfl) (.tmp 80) (.tmp 84) 68 74 (.agg #[(.int .i64 0), (.int .i64 0)]) 16 rfl Try.underlying68 info74 rfl (by decide) (by omega) (.slice Ao42 x15_2.length co42) x15_2 y672 _ _ _ (fun k_ => some k_ ≠ (.slice Ao50 y672.length co50 : Value).ownBlock) (fun _ => False) rfl rfl ?aO ?aR (fun _ _ h => h) (fun _ h => h.elim) ?aF ?aB ?aS ?aL ?_
                    (case aR => repeat (first | exact (Kd.R_reads' HO674.out).2.2 | (with_reducible refine Kd.C_alloc ?_ _) | (with_reducible refine Kd.C_drewN ?_ _) | (with_reducible refine Kd.C_drew ?_)))
                    (case aB => exact bw)
                    (case aF => exact (fun k_ hk => Kd.fresh' (Kd.R_lt (kr HO674)) k_ hk))
                    (case aO => exact (by (with_reducible repeat (first | apply Kd.R_alloc | apply Kd.R_drewN | apply Kd.R_drew)); exact Kd.R_mono HO_15.out (fun _ hk => hk.2)))
                    (case aS => exact (below_size bw))
                    (case aL => have := LMc40.out; omega)
                    intro v676 w49 ho hb hg hat
                    rw [← Ny675.out] at ho
                    have n0_ := AX (Kd.R_over' (kr HO_13) (Kd.R_typed (kr HO_15)) (by decide) hg)
                    have n1_ := AX (Kd.R_over' (kr HO_16) (Kd.R_typed (kr HO_15)) (by decide) hg)
                    have n2_ := AX (blk_grown (g := gb653) (o := .cells #[.int .i64 a0_0, .int .i64 a0_1, .int .i64 a0_2, .int .i64 a0_3, .int .i64 a0_4, .int .i64 a0_5, .int .i64 a0_6, .int .i64 a0_7, .int .i64 a0_8, .int .i64 a0_9] 25 (0, 0)) (bkn BK653) hg (by first | exact Kd.R_ne HO_15.out BK653.out (by decide) | exact fun e_ => (And.left HO_15.out _ e_.symm).2 rfl | exact fun e_ => (And.left HO_15.out _ e_.symm).1.2 rfl | exact fun e_ => (And.left HO_15.out _ e_.symm).2.1 rfl | exact fun e_ => (And.left HO_15.out _ e_.symm).2.2 rfl))
                    have n3_ := AX (blk_grown (g := gb663) (o := .cells #[.int .i64 t659, .int .i64 t660, .int .i64 t661] 33 (0, 0)) (bkn BK663) hg (by first | exact Kd.R_ne HO_15.out BK663.out (by decide) | exact fun e_ => (And.left HO_15.out _ e_.symm).2 rfl | exact fun e_ => (And.left HO_15.out _ e_.symm).1.2 rfl | exact fun e_ => (And.left HO_15.out _ e_.symm).2.1 rfl | exact fun e_ => (And.left HO_15.out _ e_.symm).2.2 rfl))
                    have n4_ := AX (blk_grown (g := gb669) (o := .cells #[.int .i64 t665, .int .i64 t666, .int .i64 t667] 33 (0, 0)) (bkn BK669) hg (by first | exact Kd.R_ne HO_15.out BK669.out (by decide) | exact fun e_ => (And.left HO_15.out _ e_.symm).2 rfl | exact fun e_ => (And.left HO_15.out _ e_.symm).1.2 rfl | exact fun e_ => (And.left HO_15.out _ e_.symm).2.1 rfl | exact fun e_ => (And.left HO_15.out _ e_.symm).2.2 rfl))
                    have n5_ := AX (Kd.R_after (ok := (fun _ => True)) (kr HO674) hg hat)
                    have n6_ := AX (Kd.R_over' (kr HO680) (Kd.R_typed (kr HO_15)) (by decide) hg)
                    have n7_ := AX (hb)
                    have n8_ := AX (ho)
                    clear HO_13
                    clear HO_16
                    clear BK653
                    clear BK663
                    clear BK669
                    clear HO674
                    clear HO680
                    clear HB
                    clear HO_15
                    have HO_13 := n0_
                    have HO_16 := n1_
                    have BK653 := n2_
                    have BK663 := n3_
                    have BK669 := n4_
                    have HO674 := n5_
                    have HO680 := n6_
                    have HB := n7_
                    have HO677 := n8_
                    clear n0_ n1_ n2_ n3_ n4_ n5_ n6_ n7_ n8_
                    clear ho hb hg hat
                    refine hK.out _ _ ⟨(blk_cell BK663.out 0).trans rfl, (blk_cell BK663.out 1).trans rfl, (blk_cell BK663.out 2).trans rfl⟩ (fun hHeld => ?_)
                    clear hK K
                    refine norm_ (a' := ?_) ?_ ?_
                    rotate_left
                    ·show Act.put _ (some 85) _ = _
                     simp only [Act.put, List.setIfInBounds_toArray, List.set_cons_zero, List.set_cons_succ, i64_w, i32_w]
                     rfl
                    exact norm_ (by simp only [putAll, Act.put, List.setIfInBounds_toArray, List.set_cons_zero, List.set_cons_succ]) (hCont (.slice Ao50 y672.length co50, v676, v679) _ ⟨hHeld, (by (with_reducible repeat (first | apply Kd.R_alloc | apply Kd.R_drewN | apply Kd.R_drew)); exact Kd.R_mono HO674.out (fun _ hk => hk.2)), (kr HO677), (by (with_reducible repeat (first | apply Kd.R_alloc | apply Kd.R_drewN | apply Kd.R_drew)); exact Kd.R_mono HO680.out (fun _ hk => ⟨hk.1.1.1.2, ⟨hk.1.1.2, ⟨hk.1.2, hk.2⟩⟩⟩)), (by (with_reducible repeat (first | apply Kd.R_alloc | apply Kd.R_drewN | apply Kd.R_drew)); exact Kd.R_mono HO_13.out (fun _ hk => ⟨hk.2, ⟨hk.1.1, ⟨hk.1.2.1, hk.1.2.2⟩⟩⟩)), (by (with_reducible repeat (first | apply Kd.R_alloc | apply Kd.R_drewN | apply Kd.R_drew)); exact Kd.R_mono HO_16.out (fun _ hk => ⟨hk.2, ⟨hk.1.1, ⟨hk.1.2.1, hk.1.2.2⟩⟩⟩)), (bkn BK653), (bkn BK663), (bkn BK669), bw⟩)
                  ·skip
                   refine Kd.R_lit_step k33 _ 33 ?hg (N := 88) ?hd (xs := ([(⟨t659, t660, t661⟩ : S33)] : List (S33))) (inner := [.int .i64 t659, .int .i64 t660, .int .i64 t661]) (ok := fun _ => True) (okp := fun _ => True) ?hr ?hp (fun _ hk => hk) trivial (Below.refl _ _) (Nat.le_refl _) (by simp) ?_; (case hd => rfl); (case hg => rfl); (case hr => first | (go_simp; done) | (go_simp; rfl)); (case hp => exact (Reps.c3 (show Kd.M k33 _ _ _ (⟨t659, t660, t661⟩ : S33) [.int .i64 t659, .int .i64 t660, .int .i64 t661] from (k33_mkM _ _ _ (⟨t659, t660, t661⟩ : S33) )) (Reps.none _ _)))
                   intro v679 w45 ho46 hb hg_ hnew_
                   clear hg_ hnew_
                   (first | rw [← Ny678.out] at ho46 | (simp only [Int.reduceToNat] at ho46; rw [← Ny678.out] at ho46))
                   have n0_ := AX (Kd.R_elder' (kr HO_13) (Kd.R_base ho46) hb)
                   have n1_ := AX (Kd.R_below (kr HO_15) hb)
                   have n2_ := AX (Kd.R_elder' (kr HO_16) (Kd.R_base ho46) hb)
                   have n3_ := AX (Kd.R_lower (Kd.R_newB (Kd.R_newB (Kd.R_new' (Kd.R_new' ho46 (Kd.R_lt (kr HO_13))) (Kd.R_lt (kr HO_16))) (g := gb663) (o := .cells #[.int .i64 t659, .int .i64 t660, .int .i64 t661] 33 (0, 0)) (bkn BK663)) (g := gb669) (o := .cells #[.int .i64 t665, .int .i64 t666, .int .i64 t667] 33 (0, 0)) (bkn BK669)) (below_size bw))
                   have n4_ := AX (bkb BK653 hb)
                   have n5_ := AX (bkb BK663 hb)
                   have n6_ := AX (bkb BK669 hb)
                   have n7_ := AX (below_step bw hb)
                   clear HO_13
                   clear HO_15
                   clear HO_16
                   clear BK653
                   clear BK663
                   clear BK669
                   clear HB
                   have HO_13 := n0_
                   have HO_15 := n1_
                   have HO_16 := n2_
                   have HO680 := n3_
                   have BK653 := n4_
                   have BK663 := n5_
                   have BK669 := n6_
                   have HB := n7_
                   clear n0_ n1_ n2_ n3_ n4_ n5_ n6_ n7_
                   clear hb ho46
                   refine hK.out _ _ ⟨(blk_cell BK663.out 0).trans rfl, (blk_cell BK663.out 1).trans rfl, (blk_cell BK663.out 2).trans rfl⟩ (fun hHeld => ?_)
                   clear hK K
                   refine norm_ (a' := ?_) ?_ ?_
                   rotate_left
                   ·show Act.put _ (some 88) _ = _
                    simp only [Act.put, List.setIfInBounds_toArray, List.set_cons_zero, List.set_cons_succ, i64_w, i32_w]
                    rfl
                   refine one_ (i := 4) (N := some 84) #[true, true, true, true, true, false, true, true, true, false, false, false] rfl rfl (one_of HT_.out (by kernel_rfl)) (by decide) (fun K hK => ?_)
                   refine Kd.R_lit_step k74 _ 74 ?hg (N := 84) ?hd (xs := ([(⟨x17_2, x17_3⟩ : S74)] : List (S74))) (inner := [.int .i64 x17_2, .int .i64 x17_3]) (ok := fun _ => True) (okp := fun _ => True) ?hr ?hp (fun _ hk => hk) trivial (Below.refl _ _) (Nat.le_refl _) (by simp) ?_; (case hd => rfl); (case hg => rfl); (case hr => first | (go_simp; done) | (go_simp; rfl)); (case hp => exact (Reps.c2 (show Kd.M k74 _ _ _ (⟨x17_2, x17_3⟩ : S74) [.int .i64 x17_2, .int .i64 x17_3] from (k74_mkM _ _ _ (⟨x17_2, x17_3⟩ : S74) )) (Reps.none _ _)))
                   intro v673 w47 ho48 hb hg_ hnew_
                   clear hg_ hnew_
                   (first | rw [← Ny672.out] at ho48 | (simp only [Int.reduceToNat] at ho48; rw [← Ny672.out] at ho48))
                   have n0_ := AX (Kd.R_below (kr HO_13) hb)
                   have n1_ := AX (Kd.R_elder' (kr HO_15) (Kd.R_base ho48) hb)
                   have n2_ := AX (Kd.R_below (kr HO_16) hb)
                   have n3_ := AX (Kd.R_below (kr HO680) hb)
                   have n4_ := AX (Kd.R_lower (Kd.R_new' ho48 (Kd.R_lt (kr HO_15))) (below_size bw))
                   have n5_ := AX (bkb BK653 hb)
                   have n6_ := AX (bkb BK663 hb)
                   have n7_ := AX (bkb BK669 hb)
                   have n8_ := AX (below_step bw hb)
                   clear HO_13
                   clear HO_15
                   clear HO_16
                   clear HO680
                   clear BK653
                   clear BK663
                   clear BK669
                   clear HB
                   have HO_13 := n0_
                   have HO_15 := n1_
                   have HO_16 := n2_
                   have HO680 := n3_
                   have HO674 := n4_
                   have BK653 := n5_
                   have BK663 := n6_
                   have BK669 := n7_
                   have HB := n8_
                   clear n0_ n1_ n2_ n3_ n4_ n5_ n6_ n7_ n8_
                   clear hb ho48
                   obtain ⟨Ao50, co50, eo50⟩ := Kd.R_slice HO674.out
                   (first | subst eo50 | (injection eo50 with f1_ f2_ f3_; have f4_ := f1_.symm; have f5_ := f3_.symm; clear f1_ f2_ f3_; subst f4_; subst f5_))
                   refine hK.out _ _ ⟨(blk_cell BK663.out 0).trans rfl, (blk_cell BK663.out 1).trans rfl, (blk_cell BK663.out 2).trans rfl⟩ (fun hHeld => ?_)
                   clear hK K
                   refine norm_ (a' := ?_) ?_ ?_
                   rotate_left
                   ·show Act.put _ (some 84) _ = _
                    simp only [Act.put, List.setIfInBounds_toArray, List.set_cons_zero, List.set_cons_succ, i64_w, i32_w]
                    rfl
                   refine one_ (i := 5) (N := some 85) #[true, true, true, true, true, true, true, true, true, false, false, false] rfl rfl (one_of HT_.out (by kernel_rfl)) (by decide) (fun K hK => ?_)
                   refine Kd.R_append_rows_step k74 (w0 := w) w.heap.size (by rfl) (.tmp 80) (.tmp 84) 68 74 (.agg #[(.int .i64 0), (.int .i64 0)]) 16 rfl Try.underlying68 info74 rfl (by decide) (by omega) (.slice Ao42 x15_2.length co42) x15_2 y672 _ _ _ (fun k_ => some k_ ≠ (.slice Ao50 y672.length co50 : Value).ownBlock) (fun _ => False) rfl rfl ?aO ?aR (fun _ _ h => h) (fun _ h => h.elim) ?aF ?aB ?aS ?aL ?_
                   (case aR => repeat (first | exact (Kd.R_reads' HO674.out).2.2 | (with_reducible refine Kd.C_alloc ?_ _) | (with_reducible refine Kd.C_drewN ?_ _) | (with_reducible refine Kd.C_drew ?_)))
                   (case aB => exact bw)
                   (case aF => exact (fun k_ hk => Kd.fresh' (Kd.R_lt (kr HO674)) k_ hk))
                   (case aO => exact (by (with_reducible repeat (first | apply Kd.R_alloc | apply Kd.R_drewN | apply Kd.R_drew)); exact Kd.R_mono HO_15.out (fun _ hk => hk.2)))
                   (case aS => exact (below_size bw))
                   (case aL => have := LMc40.out; omega)
                   intro v676 w49 ho hb hg hat
                   rw [← Ny675.out] at ho
                   have n0_ := AX (Kd.R_over' (kr HO_13) (Kd.R_typed (kr HO_15)) (by decide) hg)
                   have n1_ := AX (Kd.R_over' (kr HO_16) (Kd.R_typed (kr HO_15)) (by decide) hg)
                   have n2_ := AX (blk_grown (g := gb653) (o := .cells #[.int .i64 a0_0, .int .i64 a0_1, .int .i64 a0_2, .int .i64 a0_3, .int .i64 a0_4, .int .i64 a0_5, .int .i64 a0_6, .int .i64 a0_7, .int .i64 a0_8, .int .i64 a0_9] 25 (0, 0)) (bkn BK653) hg (by first | exact Kd.R_ne HO_15.out BK653.out (by decide) | exact fun e_ => (And.left HO_15.out _ e_.symm).2 rfl | exact fun e_ => (And.left HO_15.out _ e_.symm).1.2 rfl | exact fun e_ => (And.left HO_15.out _ e_.symm).2.1 rfl | exact fun e_ => (And.left HO_15.out _ e_.symm).2.2 rfl))
                   have n3_ := AX (blk_grown (g := gb663) (o := .cells #[.int .i64 t659, .int .i64 t660, .int .i64 t661] 33 (0, 0)) (bkn BK663) hg (by first | exact Kd.R_ne HO_15.out BK663.out (by decide) | exact fun e_ => (And.left HO_15.out _ e_.symm).2 rfl | exact fun e_ => (And.left HO_15.out _ e_.symm).1.2 rfl | exact fun e_ => (And.left HO_15.out _ e_.symm).2.1 rfl | exact fun e_ => (And.left HO_15.out _ e_.symm).2.2 rfl))
                   have n4_ := AX (blk_grown (g := gb669) (o := .cells #[.int .i64 t665, .int .i64 t666, .int .i64 t667] 33 (0, 0)) (bkn BK669) hg (by first | exact Kd.R_ne HO_15.out BK669.out (by decide) | exact fun e_ => (And.left HO_15.out _ e_.symm).2 rfl | exact fun e_ => (And.left HO_15.out _ e_.symm).1.2 rfl | exact fun e_ => (And.left HO_15.out _ e_.symm).2.1 rfl | exact fun e_ => (And.left HO_15.out _ e_.symm).2.2 rfl))
                   have n5_ := AX (Kd.R_over' (kr HO680) (Kd.R_typed (kr HO_15)) (by decide) hg)
                   have n6_ := AX (Kd.R_after (ok := (fun _ => True)) (kr HO674) hg hat)
                   have n7_ := AX (hb)
                   have n8_ := AX (ho)
                   clear HO_13
                   clear HO_16
                   clear BK653
                   clear BK663
                   clear BK669
                   clear HO680
                   clear HO674
                   clear HB
                   clear HO_15
                   have HO_13 := n0_
                   have HO_16 := n1_
                   have BK653 := n2_
                   have BK663 := n3_
                   have BK669 := n4_
                   have HO680 := n5_
                   have HO674 := n6_
                   have HB := n7_
                   have HO677 := n8_
                   clear n0_ n1_ n2_ n3_ n4_ n5_ n6_ n7_ n8_
                   clear ho hb hg hat
                   refine hK.out _ _ ⟨(blk_cell BK663.out 0).trans rfl, (blk_cell BK663.out 1).trans rfl, (blk_cell BK663.out 2).trans rfl⟩ (fun hHeld => ?_)
                   clear hK K
                   refine norm_ (a' := ?_) ?_ ?_
                   rotate_left
                   ·show Act.put _ (some 85) _ = _
                    simp only [Act.put, List.setIfInBounds_toArray, List.set_cons_zero, List.set_cons_succ, i64_w, i32_w]
                    rfl
                   exact norm_ (by simp only [putAll, Act.put, List.setIfInBounds_toArray, List.set_cons_zero, List.set_cons_succ]) (hCont (.slice Ao50 y672.length co50, v676, v679) _ ⟨hHeld, (by (with_reducible repeat (first | apply Kd.R_alloc | apply Kd.R_drewN | apply Kd.R_drew)); exact Kd.R_mono HO674.out (fun _ hk => hk.2)), (kr HO677), (by (with_reducible repeat (first | apply Kd.R_alloc | apply Kd.R_drewN | apply Kd.R_drew)); exact Kd.R_mono HO680.out (fun _ hk => ⟨hk.1.1.1.2, ⟨hk.1.1.2, ⟨hk.1.2, hk.2⟩⟩⟩)), (by (with_reducible repeat (first | apply Kd.R_alloc | apply Kd.R_drewN | apply Kd.R_drew)); exact Kd.R_mono HO_13.out (fun _ hk => ⟨hk.2, ⟨hk.1.1, ⟨hk.1.2.1, hk.1.2.2⟩⟩⟩)), (by (with_reducible repeat (first | apply Kd.R_alloc | apply Kd.R_drewN | apply Kd.R_drew)); exact Kd.R_mono HO_16.out (fun _ hk => ⟨hk.2, ⟨hk.1.1, ⟨hk.1.2.1, hk.1.2.2⟩⟩⟩)), (bkn BK653), (bkn BK663), (bkn BK669), bw⟩)
                 rintro ⟨v673, v676, v679⟩ w51 ⟨hS_, h0_, h1_, h2_, h3_, h4_, h5_, h6_, h7_, h8_⟩
                 have n0_ : Aside0 (Kd.R k74 74 w51 w.heap.size (fun k_ => some k_ ≠ (v676 : Value).ownBlock) v673 y672) := ⟨h0_⟩
                 have n1_ : Aside0 (Kd.R k74 74 w51 w.heap.size (fun k_ => some k_ ≠ (v673 : Value).ownBlock) v676 y675) := ⟨h1_⟩
                 have n2_ : Aside0 (Kd.R k33 33 w51 w.heap.size (fun k_ => some k_ ≠ (.slice (some ad658) t654.length co19 : Value).ownBlock ∧ some k_ ≠ (.slice Ao43 x16_2.length co43 : Value).ownBlock ∧ k_ ≠ gb663 ∧ k_ ≠ gb669) v679 y678) := ⟨h2_⟩
                 have n3_ : Aside0 (Kd.R k33 33 w51 w.heap.size (fun k_ => some k_ ≠ (v679 : Value).ownBlock ∧ some k_ ≠ (.slice Ao43 x16_2.length co43 : Value).ownBlock ∧ k_ ≠ gb663 ∧ k_ ≠ gb669) (.slice (some ad658) t654.length co19) t654) := ⟨h3_⟩
                 have n4_ : Aside0 (Kd.R k33 33 w51 w.heap.size (fun k_ => some k_ ≠ (v679 : Value).ownBlock ∧ some k_ ≠ (.slice (some ad658) t654.length co19 : Value).ownBlock ∧ k_ ≠ gb663 ∧ k_ ≠ gb669) (.slice Ao43 x16_2.length co43) x16_2) := ⟨h4_⟩
                 have n5_ : Aside0 (w51.heap[gb653]? = some (.cells #[.int .i64 a0_0, .int .i64 a0_1, .int .i64 a0_2, .int .i64 a0_3, .int .i64 a0_4, .int .i64 a0_5, .int .i64 a0_6, .int .i64 a0_7, .int .i64 a0_8, .int .i64 a0_9] 25 (0, 0))) := ⟨h5_⟩
                 have n6_ : Aside0 (w51.heap[gb663]? = some (.cells #[.int .i64 t659, .int .i64 t660, .int .i64 t661] 33 (0, 0))) := ⟨h6_⟩
                 have n7_ : Aside0 (w51.heap[gb669]? = some (.cells #[.int .i64 t665, .int .i64 t666, .int .i64 t667] 33 (0, 0))) := ⟨h7_⟩
                 have n8_ : Aside0 (Below w.heap.size w w51) := ⟨h8_⟩
                 clear HO_13
                 clear HO_15
                 clear HO_16
                 clear BK653
                 clear BK663
                 clear BK669
                 clear HB
                 clear h0_ h1_ h2_ h3_ h4_ h5_ h6_ h7_ h8_
                 have HO674 := n0_
                 have HO677 := n1_
                 have HO680 := n2_
                 have HO_13 := n3_
                 have HO_16 := n4_
                 have BK653 := n5_
                 have BK663 := n6_
                 have BK669 := n7_
                 have HB := n8_
                 clear n0_ n1_ n2_ n3_ n4_ n5_ n6_ n7_ n8_
                 have hHeld : w51.cell? ⟨gb663, 0, none⟩ = some (.int .i64 t659) ∧ w51.cell? ⟨gb663, 1, none⟩ = some (.int .i64 t660) ∧ w51.cell? ⟨gb663, 2, none⟩ = some (.int .i64 t661) := hS_
                 obtain ⟨Ao53, co53, eo53⟩ := Kd.R_slice HO680.out
                 (first | subst eo53 | (injection eo53 with f1_ f2_ f3_; have f4_ := f1_.symm; have f5_ := f3_.symm; clear f1_ f2_ f3_; subst f4_; subst f5_))
                 refine norm_ (a' := ?_) ?_ ?_
                 rotate_left
                 ·simp only [putAll, Act.put, List.setIfInBounds_toArray, List.set_cons_zero, List.set_cons_succ]
                  rfl
                 refine one_ (i := 9) (N := some 89) #[true, true, true, true, true, true, true, true, true, true, false, false] rfl rfl (one_of HT_.out (by kernel_rfl)) (by decide) (fun K hK => ?_)
                 refine Kd.R_append_rows_step k33 (w0 := w) w.heap.size (by rfl) (.tmp 86) (.tmp 88) 63 33 (.agg #[(.int .i64 0), (.int .i64 0), (.int .i64 0)]) 24 rfl Try.underlying63 info33 rfl (by decide) (by omega) (.slice Ao43 x16_2.length co43) x16_2 y678 _ _ _ (fun k_ => some k_ ≠ (.slice (some ad658) t654.length co19 : Value).ownBlock ∧ some k_ ≠ (.slice Ao53 y678.length co53 : Value).ownBlock ∧ k_ ≠ gb663 ∧ k_ ≠ gb669) (fun _ => False) rfl rfl ?aO ?aR (fun _ _ h => h) (fun _ h => h.elim) ?aF ?aB ?aS ?aL ?_
                 (case aR => repeat (first | exact (Kd.R_reads' HO680.out).2.2 | (with_reducible refine Kd.C_alloc ?_ _) | (with_reducible refine Kd.C_drewN ?_ _) | (with_reducible refine Kd.C_drew ?_)))
                 (case aB => exact bw)
                 (case aF => exact (fun k_ hk => ⟨Kd.fresh' (Kd.R_lt (kr HO_13)) k_ hk, Kd.fresh' (Kd.R_lt (kr HO680)) k_ hk, Kd.freshB (g := gb663) (o := .cells #[.int .i64 t659, .int .i64 t660, .int .i64 t661] 33 (0, 0)) (bkn BK663) k_ hk, Kd.freshB (g := gb669) (o := .cells #[.int .i64 t665, .int .i64 t666, .int .i64 t667] 33 (0, 0)) (bkn BK669) k_ hk⟩))
                 (case aO => exact (by (with_reducible repeat (first | apply Kd.R_alloc | apply Kd.R_drewN | apply Kd.R_drew)); exact Kd.R_mono HO_16.out (fun _ hk => ⟨hk.2.1, ⟨hk.1, ⟨hk.2.2.1, hk.2.2.2⟩⟩⟩)))
                 (case aS => exact (below_size bw))
                 (case aL => have := LMc41.out; omega)
                 intro v682 w52 ho hb hg hat
                 rw [← Ny681.out] at ho
                 have n0_ := AX (Kd.R_after (ok := (fun k_ => some k_ ≠ (.slice Ao53 y678.length co53 : Value).ownBlock ∧ k_ ≠ gb663 ∧ k_ ≠ gb669)) (by (with_reducible repeat (first | apply Kd.R_alloc | apply Kd.R_drewN | apply Kd.R_drew)); exact Kd.R_mono HO_13.out (fun _ hk => ⟨⟨hk.1, ⟨hk.2.2.1, hk.2.2.2⟩⟩, hk.2.1⟩)) hg hat)
                 have n1_ := AX (blk_grown (g := gb653) (o := .cells #[.int .i64 a0_0, .int .i64 a0_1, .int .i64 a0_2, .int .i64 a0_3, .int .i64 a0_4, .int .i64 a0_5, .int .i64 a0_6, .int .i64 a0_7, .int .i64 a0_8, .int .i64 a0_9] 25 (0, 0)) (bkn BK653) hg (by first | exact Kd.R_ne HO_16.out BK653.out (by decide) | exact fun e_ => (And.left HO_16.out _ e_.symm).2 rfl | exact fun e_ => (And.left HO_16.out _ e_.symm).1.2 rfl | exact fun e_ => (And.left HO_16.out _ e_.symm).2.1 rfl | exact fun e_ => (And.left HO_16.out _ e_.symm).2.2 rfl))
                 have n2_ := AX (blk_grown (g := gb663) (o := .cells #[.int .i64 t659, .int .i64 t660, .int .i64 t661] 33 (0, 0)) (bkn BK663) hg (Kd.R_away HO_16.out (fun _ hk => hk.2.2.1)))
                 have n3_ := AX (blk_grown (g := gb669) (o := .cells #[.int .i64 t665, .int .i64 t666, .int .i64 t667] 33 (0, 0)) (bkn BK669) hg (Kd.R_away HO_16.out (fun _ hk => hk.2.2.2)))
                 have n4_ := AX (Kd.R_over' (kr HO674) (Kd.R_typed (kr HO_16)) (by decide) hg)
                 have n5_ := AX (Kd.R_over' (kr HO677) (Kd.R_typed (kr HO_16)) (by decide) hg)
                 have n6_ := AX (Kd.R_after (ok := (fun k_ => some k_ ≠ (.slice (some ad658) t654.length co19 : Value).ownBlock ∧ k_ ≠ gb663 ∧ k_ ≠ gb669)) (by (with_reducible repeat (first | apply Kd.R_alloc | apply Kd.R_drewN | apply Kd.R_drew)); exact Kd.R_mono HO680.out (fun _ hk => ⟨⟨hk.1, ⟨hk.2.2.1, hk.2.2.2⟩⟩, hk.2.1⟩)) hg hat)
                 have n7_ := AX (hb)
                 have n8_ := AX (ho)
                 clear HO_13
                 clear BK653
                 clear BK663
                 clear BK669
                 clear HO674
                 clear HO677
                 clear HO680
                 clear HB
                 clear HO_16
                 have HO_13 := n0_
                 have BK653 := n1_
                 have BK663 := n2_
                 have BK669 := n3_
                 have HO674 := n4_
                 have HO677 := n5_
                 have HO680 := n6_
                 have HB := n7_
                 have HO683 := n8_
                 clear n0_ n1_ n2_ n3_ n4_ n5_ n6_ n7_ n8_
                 clear ho hb hg hat
                 refine hK.out _ _ ⟨(blk_cell BK663.out 0).trans rfl, (blk_cell BK663.out 1).trans rfl, (blk_cell BK663.out 2).trans rfl⟩ (fun hHeld => ?_)
                 clear hK K
                 refine norm_ (a' := ?_) ?_ ?_
                 rotate_left
                 ·show Act.put _ (some 89) _ = _
                  simp only [Act.put, List.setIfInBounds_toArray, List.set_cons_zero, List.set_cons_succ, i64_w, i32_w]
                  rfl
                 refine pure_ (i := 10) (N := some 15) (v := ?_) (a' := ?_) #[true, true, true, true, true, true, true, true, true, true, true, false] rfl rfl (any_of HT_.out (by kernel_rfl)) (fun _ _ _ h => h) (Or.inl ⟨by rfl, ?_⟩) ?_ ?_
                 rotate_left
                 ·intro w'
                  go_simp
                  with_reducible rfl
                 rotate_left
                 ·simp only [Act.put, List.setIfInBounds_toArray, List.set_cons_zero, List.set_cons_succ, i64_w, i32_w]
                  rfl
                 refine pure_ (i := 11) (N := some 16) (v := ?_) (a' := ?_) #[true, true, true, true, true, true, true, true, true, true, true, true] rfl rfl (any_of HT_.out (by kernel_rfl)) (fun _ _ _ h => h) (Or.inl ⟨by rfl, ?_⟩) ?_ ?_
                 rotate_left
                 ·intro w'
                  go_simp
                  with_reducible rfl
                 rotate_left
                 ·simp only [Act.put, List.setIfInBounds_toArray, List.set_cons_zero, List.set_cons_succ, i64_w, i32_w]
                  rfl
                 refine done_ (done_of HT_.out (by kernel_rfl)) ?_
                 try go_wp2
                 go_roundg kj28
                 case measure => have := HJ5.out; have := HK2.out; have := HK3.out; have := HJ28.out; omega
                 case rel => exact ⟨(y675), (y681), (x17_3), (by first | rfl | (simp; done) | (simp [*]; done)), H', ⟨by have := HJ5.out; have := HK2.out; have := HK3.out; have := HJ28.out; omega⟩, ⟨by (with_reducible repeat (first | apply Kd.R_alloc | apply Kd.R_drewN | apply Kd.R_drew)); exact Kd.R_mono HO_13.out (fun _ hk => hk.2)⟩, ⟨by (with_reducible repeat (first | apply Kd.R_alloc | apply Kd.R_drewN | apply Kd.R_drew)); exact Kd.R_mono HO677.out (fun _ hk => trivial)⟩, ⟨by (with_reducible repeat (first | apply Kd.R_alloc | apply Kd.R_drewN | apply Kd.R_drew)); exact Kd.R_mono HO683.out (fun _ hk => hk.1)⟩, ⟨bkn BK653⟩, ⟨bw⟩⟩
                ·rw [if_neg c41] at H
                 exact absurd H (by simp)
               ·rw [if_neg c40] at H
                exact absurd H (by simp)
         ·rw [if_neg c16] at H
          exact absurd H (by simp)
        ·rw [if_neg c15] at H
         exact absurd H (by simp)
       ·rw [if_neg c14] at H
        have c14b0 : decide (x17_2 < a4) = false := decide_eq_false c14
        clear c14
        simp only [Option.some.injEq, Prod.mk.injEq] at H
        obtain ⟨rfl, rfl, rfl⟩ := H
        go_wp2
        go_ret3
        exact ⟨_, _, by first | rfl | (simp [errW_none, errW_some] <;> rfl) | (simp [*, errW_none, errW_some] <;> rfl), kr HO_15, by (with_reducible repeat (first | apply Kd.R_alloc | apply Kd.R_drewN | apply Kd.R_drew)); exact Kd.R_mono HO_16.out (fun _ hk => trivial), bw⟩
    ·rw [if_neg c11] at H
     have c11b0 : (t657 == 0) = false := beq_eq_false_iff_ne.mpr c11
     have c11b1 : (t657 != 0) = true := bne_iff_ne.mpr c11
     simp only [Option.some.injEq, Prod.mk.injEq] at H
     obtain ⟨rfl, rfl, rfl⟩ := H
     obtain ⟨hcz54_0, hcz54_1, hcz54_2, hcz54_3, hcz54_4, hcz54_5, hcz54_6, hcz54_7, hcz54_8, hcz54_9⟩ := blkC10 (w := wc) BK653.out
     obtain ⟨hfz54_0, hfz54_1, hfz54_2, hfz54_3, hfz54_4, hfz54_5, hfz54_6, hfz54_7, hfz54_8, hfz54_9⟩ := blkF10 BK653.out
     go_wp2_with (first | ((with_reducible refine gate_callee (f := 32) rfl ?_); refine goesL_ (some 34) rfl rfl Try.func32 (by kernel_rfl) rfl #[.agg #[.int .i64 a0_0, .int .i64 a0_1, .int .i64 a0_2, .int .i64 a0_3, .int .i64 a0_4, .int .i64 a0_5, .int .i64 a0_6, .int .i64 a0_7, .int .i64 a0_8, .int .i64 a0_9], .int .i64 a2, .int .i64 a3, .int .i64 a4] rfl (by (try simp only [List.map_toArray, List.map_cons, List.map_nil]); first | done | rfl | (simp only [List.length_drop, List.length_take]; rfl)) ?_; (with_reducible refine (period_Dates.calls kj5 a0_0 a0_1 a0_2 a0_3 a0_4 a0_5 a0_6 a0_7 a0_8 a0_9 a2 a3 a4 t654 t657 _ A10.out).mono ?_); rintro e w55 ⟨v655, rfl, ho0, hb⟩; refine ⟨_, rfl, ?_⟩; have n0_ := AX (Kd.R_lower ho0 (below_size bw)); have n1_ := AX (bkb BK653 hb); have n2_ := AX (below_step bw hb); clear BK653; clear HB; have HO656 := n0_; have BK653 := n1_; have HB := n2_; clear n0_ n1_ n2_; (try clear hb); (try clear hb2); (try clear hk); (try clear hi); (try clear ho0)))
     go_ret3
     exact ⟨_, _, by first | rfl | (simp [errW_none, errW_some] <;> rfl) | (simp [*, errW_none, errW_some] <;> rfl), by first | exact Kd.R_nil _ _ _ _ _ | exact Kd.N_nil _ _ _ _ _ | exact Kd.V_nil _ _ _ _ _ | exact Kd.Q_nil _ _ _ _ _ | exact Kd.S_nil _ _ _ _ _, by first | exact Kd.R_nil _ _ _ _ _ | exact Kd.N_nil _ _ _ _ _ | exact Kd.V_nil _ _ _ _ _ | exact Kd.Q_nil _ _ _ _ _ | exact Kd.S_nil _ _ _ _ _, bw⟩

end Go.Proofs.Ytddkckpfmleffaa.PX
