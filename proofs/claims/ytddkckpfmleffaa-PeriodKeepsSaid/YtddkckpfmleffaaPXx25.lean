/- Functions of the program as plain Lean functions, each with a proof that the call in the machine answers just what the plain function says; condition: the plain function answers at all. -/
import Derived.Test.YtddkckpfmleffaaPXx0
import Derived.Test.YtddkckpfmleffaaPXx1
import Derived.Test.YtddkckpfmleffaaPXx22
import Derived.Test.YtddkckpfmleffaaPXx24
namespace Go.Proofs.Ytddkckpfmleffaa.PX
open Go.RowKit Go.Proofs.YtddkckpfmleffaaW.PrintWords Go.Proofs.YtddkckpfmleffaaW.PrintLast Go.Proofs.YtddkckpfmleffaaW.PrintMore
attribute [local go_sem] max2_int min2_int max_two min_two max_three min_three max_four min_four   -- for this text's walks alone
set_option linter.unusedVariables false
set_option linter.unusedSimpArgs false

attribute [local go_sem high] eqA33
/-! ### pylonref13_Spans: function 34 -/
mutual
def pylonref13_Spans.j0 : Nat → Int → Int → Int → Int → Bool → Int → Int → Int → Int → Int → Int → Int → Int → Int → Int → Option ((List (S74)) × (List (S33)) × Int)
 | 0, _, _, _, _, _, _, _, _, _, _, _, _, _, _, _ => none
 | k + 1, x1, x2, x3, x4, x25, x627000, x627001, x627002, x627003, x627004, x627005, x627006, x627007, x627008, x627009 => if x25 = true then (some (([] : List (S74)), ([] : List (S33)), 8)) else ((pylonref13_Dates.f k x627000 x627001 x627002 x627003 x627004 x627005 x627006 x627007 x627008 x627009 x2 x3 x4).bind fun bt627 => (if bt627.2 = 0 then (pylonref13_Spans.l0 k x1 bt627.1 ([] : List (S74)) ([] : List (S33)) (bt627.1.length : Int) 0) else (some (([] : List (S74)), ([] : List (S33)), bt627.2))))
def pylonref13_Spans.l0 : Nat → Int → List (S33) → List (S74) → List (S33) → Int → Int → Option ((List (S74)) × (List (S33)) × Int)
 | 0, _, _, _, _, _, _ => none
 | k + 1, x1, x13, x15, x16, x38, x39 => if x39 < x38 then (if 0 ≤ x39 then (if x39 < (x13.length : Int) then ((pylonref13_Begin.f k ((rd_T33 x13 x39).f0) ((rd_T33 x13 x39).f1) ((rd_T33 x13 x39).f2) x1).bind fun bt632 => (if (x16.length : Int) > 0 then (if 0 ≤ (wrap64 ((x16.length : Int) - 1)) then (if (wrap64 ((x16.length : Int) - 1)) < (x16.length : Int) then (pylonref13_Spans.j2 k x1 x13 x15 x16 x39 x38 x39 (((rd_T33 x16 (wrap64 ((x16.length : Int) - 1))).f0) == bt632.1 && (((rd_T33 x16 (wrap64 ((x16.length : Int) - 1))).f1) == bt632.2.1 && (((rd_T33 x16 (wrap64 ((x16.length : Int) - 1))).f2) == bt632.2.2.1))) bt632.1 bt632.2.1 bt632.2.2.1) else (none)) else (none)) else (pylonref13_Spans.j2 k x1 x13 x15 x16 x39 x38 x39 false bt632.1 bt632.2.1 bt632.2.2.1))) else (none)) else (none)) else (some (x15, x16, 0))
def pylonref13_Spans.j3 : Nat → Int → List (S33) → List (S74) → List (S33) → Int → Int → Option ((List (S74)) × (List (S33)) × Int)
 | 0, _, _, _, _, _, _ => none
 | k + 1, x1, x13, x15, x16, x38, x39 => pylonref13_Spans.l0 k x1 x13 x15 x16 x38 (wrap64 (x39 + 1))
def pylonref13_Spans.j2 : Nat → Int → List (S33) → List (S74) → List (S33) → Int → Int → Int → Bool → Int → Int → Int → Option ((List (S74)) × (List (S33)) × Int)
 | 0, _, _, _, _, _, _, _, _, _, _, _ => none
 | k + 1, x1, x13, x15, x16, x17, x38, x39, x63, x637000, x637001, x637002 => if x63 = true then (if 0 ≤ (wrap64 ((x15.length : Int) - 1)) then (if (wrap64 ((x15.length : Int) - 1)) < (x15.length : Int) then (pylonref13_Spans.j3 k x1 x13 (x15.set ((wrap64 ((x15.length : Int) - 1)) : Int).toNat (⟨(rd_T74 x15 (wrap64 ((x15.length : Int) - 1))).f0, wrap64 (x17 + 1)⟩ : S74)) x16 x38 x39) else (none)) else (none)) else (if x15.length < 8796093022208 then (if x16.length < 5864062014805 then (pylonref13_Spans.j3 k x1 x13 (x15 ++ [(⟨x17, wrap64 (x17 + 1)⟩ : S74)]) (x16 ++ [(⟨x637000, x637001, x637002⟩ : S33)]) x38 x39) else (none)) else (none))
end
def pylonref13_Spans.f (k : Nat) (a0_0 : Int) (a0_1 : Int) (a0_2 : Int) (a0_3 : Int) (a0_4 : Int) (a0_5 : Int) (a0_6 : Int) (a0_7 : Int) (a0_8 : Int) (a0_9 : Int) (a1 : Int) (a2 : Int) (a3 : Int) (a4 : Int) : Option ((List (S74)) × (List (S33)) × Int) := if a1 < 1 then (pylonref13_Spans.j0 k a1 a2 a3 a4 true a0_0 a0_1 a0_2 a0_3 a0_4 a0_5 a0_6 a0_7 a0_8 a0_9) else (pylonref13_Spans.j0 k a1 a2 a3 a4 (decide (a1 > 28)) a0_0 a0_1 a0_2 a0_3 a0_4 a0_5 a0_6 a0_7 a0_8 a0_9)
theorem pylonref13_Spans.mono_l : ∀ k, (∀ y0 y1 y2 y3 y4 y5 y6 y7 y8 y9 y10 y11 y12 y13 y14, LeO (pylonref13_Spans.j0 k y0 y1 y2 y3 y4 y5 y6 y7 y8 y9 y10 y11 y12 y13 y14) (pylonref13_Spans.j0 (k + 1) y0 y1 y2 y3 y4 y5 y6 y7 y8 y9 y10 y11 y12 y13 y14)) ∧ (∀ y0 y1 y2 y3 y4 y5, LeO (pylonref13_Spans.l0 k y0 y1 y2 y3 y4 y5) (pylonref13_Spans.l0 (k + 1) y0 y1 y2 y3 y4 y5)) ∧ (∀ y0 y1 y2 y3 y4 y5, LeO (pylonref13_Spans.j3 k y0 y1 y2 y3 y4 y5) (pylonref13_Spans.j3 (k + 1) y0 y1 y2 y3 y4 y5)) ∧ (∀ y0 y1 y2 y3 y4 y5 y6 y7 y8 y9 y10, LeO (pylonref13_Spans.j2 k y0 y1 y2 y3 y4 y5 y6 y7 y8 y9 y10) (pylonref13_Spans.j2 (k + 1) y0 y1 y2 y3 y4 y5 y6 y7 y8 y9 y10))
 | 0 => ⟨fun _ _ _ _ _ _ _ _ _ _ _ _ _ _ _ r h => by simp [pylonref13_Spans.j0] at h, fun _ _ _ _ _ _ r h => by simp [pylonref13_Spans.l0] at h, fun _ _ _ _ _ _ r h => by simp [pylonref13_Spans.j3] at h, fun _ _ _ _ _ _ _ _ _ _ _ r h => by simp [pylonref13_Spans.j2] at h⟩
 | k + 1 => by
  obtain ⟨ih0, ih1, ih2, ih3⟩ := pylonref13_Spans.mono_l k
  refine ⟨?_, ?_, ?_, ?_⟩
  ·intro y0 y1 y2 y3 y4 y5 y6 y7 y8 y9 y10 y11 y12 y13 y14
   unfold pylonref13_Spans.j0
   repeat' first
   | (with_reducible exact ih0 _ _ _ _ _ _ _ _ _ _ _ _ _ _ _)
   | (with_reducible exact ih1 _ _ _ _ _ _)
   | (with_reducible exact ih2 _ _ _ _ _ _)
   | (with_reducible exact ih3 _ _ _ _ _ _ _ _ _ _ _)
   | (with_reducible exact pylonref13_Begin.mono _ _ _ _ _)
   | (with_reducible exact pylonref13_Dates.mono _ _ _ _ _ _ _ _ _ _ _ _ _ _)
   | (with_reducible exact LeO.refl _)
   | (with_reducible exact LeO.none _)
   | (with_reducible refine LeO.ite ?_ ?_)
   | (with_reducible refine LeO.bind ?_ (fun _ => ?_))
   | exact ih0 _ _ _ _ _ _ _ _ _ _ _ _ _ _ _
   | exact ih1 _ _ _ _ _ _
   | exact ih2 _ _ _ _ _ _
   | exact ih3 _ _ _ _ _ _ _ _ _ _ _
   | exact pylonref13_Begin.mono _ _ _ _ _
   | exact pylonref13_Dates.mono _ _ _ _ _ _ _ _ _ _ _ _ _ _
   | exact LeO.none _
   | refine LeO.ite ?_ ?_
   | refine LeO.bind ?_ (fun _ => ?_)
  ·intro y0 y1 y2 y3 y4 y5
   unfold pylonref13_Spans.l0
   repeat' first
   | (with_reducible exact ih0 _ _ _ _ _ _ _ _ _ _ _ _ _ _ _)
   | (with_reducible exact ih1 _ _ _ _ _ _)
   | (with_reducible exact ih2 _ _ _ _ _ _)
   | (with_reducible exact ih3 _ _ _ _ _ _ _ _ _ _ _)
   | (with_reducible exact pylonref13_Begin.mono _ _ _ _ _)
   | (with_reducible exact pylonref13_Dates.mono _ _ _ _ _ _ _ _ _ _ _ _ _ _)
   | (with_reducible exact LeO.refl _)
   | (with_reducible exact LeO.none _)
   | (with_reducible refine LeO.ite ?_ ?_)
   | (with_reducible refine LeO.bind ?_ (fun _ => ?_))
   | exact ih0 _ _ _ _ _ _ _ _ _ _ _ _ _ _ _
   | exact ih1 _ _ _ _ _ _
   | exact ih2 _ _ _ _ _ _
   | exact ih3 _ _ _ _ _ _ _ _ _ _ _
   | exact pylonref13_Begin.mono _ _ _ _ _
   | exact pylonref13_Dates.mono _ _ _ _ _ _ _ _ _ _ _ _ _ _
   | exact LeO.none _
   | refine LeO.ite ?_ ?_
   | refine LeO.bind ?_ (fun _ => ?_)
  ·intro y0 y1 y2 y3 y4 y5
   unfold pylonref13_Spans.j3
   repeat' first
   | (with_reducible exact ih0 _ _ _ _ _ _ _ _ _ _ _ _ _ _ _)
   | (with_reducible exact ih1 _ _ _ _ _ _)
   | (with_reducible exact ih2 _ _ _ _ _ _)
   | (with_reducible exact ih3 _ _ _ _ _ _ _ _ _ _ _)
   | (with_reducible exact pylonref13_Begin.mono _ _ _ _ _)
   | (with_reducible exact pylonref13_Dates.mono _ _ _ _ _ _ _ _ _ _ _ _ _ _)
   | (with_reducible exact LeO.refl _)
   | (with_reducible exact LeO.none _)
   | (with_reducible refine LeO.ite ?_ ?_)
   | (with_reducible refine LeO.bind ?_ (fun _ => ?_))
   | exact ih0 _ _ _ _ _ _ _ _ _ _ _ _ _ _ _
   | exact ih1 _ _ _ _ _ _
   | exact ih2 _ _ _ _ _ _
   | exact ih3 _ _ _ _ _ _ _ _ _ _ _
   | exact pylonref13_Begin.mono _ _ _ _ _
   | exact pylonref13_Dates.mono _ _ _ _ _ _ _ _ _ _ _ _ _ _
   | exact LeO.none _
   | refine LeO.ite ?_ ?_
   | refine LeO.bind ?_ (fun _ => ?_)
  ·intro y0 y1 y2 y3 y4 y5 y6 y7 y8 y9 y10
   unfold pylonref13_Spans.j2
   repeat' first
   | (with_reducible exact ih0 _ _ _ _ _ _ _ _ _ _ _ _ _ _ _)
   | (with_reducible exact ih1 _ _ _ _ _ _)
   | (with_reducible exact ih2 _ _ _ _ _ _)
   | (with_reducible exact ih3 _ _ _ _ _ _ _ _ _ _ _)
   | (with_reducible exact pylonref13_Begin.mono _ _ _ _ _)
   | (with_reducible exact pylonref13_Dates.mono _ _ _ _ _ _ _ _ _ _ _ _ _ _)
   | (with_reducible exact LeO.refl _)
   | (with_reducible exact LeO.none _)
   | (with_reducible refine LeO.ite ?_ ?_)
   | (with_reducible refine LeO.bind ?_ (fun _ => ?_))
   | exact ih0 _ _ _ _ _ _ _ _ _ _ _ _ _ _ _
   | exact ih1 _ _ _ _ _ _
   | exact ih2 _ _ _ _ _ _
   | exact ih3 _ _ _ _ _ _ _ _ _ _ _
   | exact pylonref13_Begin.mono _ _ _ _ _
   | exact pylonref13_Dates.mono _ _ _ _ _ _ _ _ _ _ _ _ _ _
   | exact LeO.none _
   | refine LeO.ite ?_ ?_
   | refine LeO.bind ?_ (fun _ => ?_)
theorem pylonref13_Spans.mono : ∀ a0 a1 a2 a3 a4 a5 a6 a7 a8 a9 a10 a11 a12 a13 k, LeO (pylonref13_Spans.f k a0 a1 a2 a3 a4 a5 a6 a7 a8 a9 a10 a11 a12 a13) (pylonref13_Spans.f (k + 1) a0 a1 a2 a3 a4 a5 a6 a7 a8 a9 a10 a11 a12 a13) := by
 intro a0 a1 a2 a3 a4 a5 a6 a7 a8 a9 a10 a11 a12 a13 k
 obtain ⟨ih0, ih1, ih2, ih3⟩ := pylonref13_Spans.mono_l k
 unfold pylonref13_Spans.f
 repeat' first
   | (with_reducible exact ih0 _ _ _ _ _ _ _ _ _ _ _ _ _ _ _)
   | (with_reducible exact ih1 _ _ _ _ _ _)
   | (with_reducible exact ih2 _ _ _ _ _ _)
   | (with_reducible exact ih3 _ _ _ _ _ _ _ _ _ _ _)
   | (with_reducible exact pylonref13_Begin.mono _ _ _ _ _)
   | (with_reducible exact pylonref13_Dates.mono _ _ _ _ _ _ _ _ _ _ _ _ _ _)
   | (with_reducible exact LeO.refl _)
   | (with_reducible exact LeO.none _)
   | (with_reducible refine LeO.ite ?_ ?_)
   | (with_reducible refine LeO.bind ?_ (fun _ => ?_))
   | exact ih0 _ _ _ _ _ _ _ _ _ _ _ _ _ _ _
   | exact ih1 _ _ _ _ _ _
   | exact ih2 _ _ _ _ _ _
   | exact ih3 _ _ _ _ _ _ _ _ _ _ _
   | exact pylonref13_Begin.mono _ _ _ _ _
   | exact pylonref13_Dates.mono _ _ _ _ _ _ _ _ _ _ _ _ _ _
   | exact LeO.none _
   | refine LeO.ite ?_ ?_
   | refine LeO.bind ?_ (fun _ => ?_)
set_option maxHeartbeats 8000000 in
set_option maxRecDepth 100000 in
theorem pylonref13_Spans.calls (k : Nat) (a0_0 : Int) (a0_1 : Int) (a0_2 : Int) (a0_3 : Int) (a0_4 : Int) (a0_5 : Int) (a0_6 : Int) (a0_7 : Int) (a0_8 : Int) (a0_9 : Int) (a1 : Int) (a2 : Int) (a3 : Int) (a4 : Int) (r1 : List (S74)) (r2 : List (S33)) (r3 : Int) (w : World) (h : pylonref13_Spans.f k a0_0 a0_1 a0_2 a0_3 a0_4 a0_5 a0_6 a0_7 a0_8 a0_9 a1 a2 a3 a4 = some (r1, r2, r3)) :
  Calls Try.prog 34 #[.agg #[.int .i64 a0_0, .int .i64 a0_1, .int .i64 a0_2, .int .i64 a0_3, .int .i64 a0_4, .int .i64 a0_5, .int .i64 a0_6, .int .i64 a0_7, .int .i64 a0_8, .int .i64 a0_9], .int .i64 a1, .int .i64 a2, .int .i64 a3, .int .i64 a4] w fun e w' => ∃ v0_ v1_ : Value, e = .returned (.tuple #[v0_, v1_, .int .i64 r3]) ∧ Kd.R k74 74 w' w.heap.size (fun _ => True) v0_ r1 ∧ Kd.R k33 33 w' w.heap.size (fun _ => True) v1_ r2 ∧ Below w.heap.size w w' := by
 have hu25 := Try.underlying25
 have hu33 := Try.underlying33
 have hu74 := Try.underlying74
 have HB := AX (Below.refl w.heap.size w)
 have H : (if a1 < 1 then (pylonref13_Spans.j0 k a1 a2 a3 a4 true a0_0 a0_1 a0_2 a0_3 a0_4 a0_5 a0_6 a0_7 a0_8 a0_9) else (pylonref13_Spans.j0 k a1 a2 a3 a4 (decide (a1 > 28)) a0_0 a0_1 a0_2 a0_3 a0_4 a0_5 a0_6 a0_7 a0_8 a0_9)) = some (r1, r2, r3) := h
 clear h
 have HC6 := AX H
 clear H
 go_enter Try.func34, Try.ntmps34
 go_upto_region 1 with (first | ((with_reducible refine gate_dst (N := 5) rfl ?_); (try (refine gate_guard (by rfl) ?_; dsimp only)); refine box_event ?hg (N := 5) ?hd (cs := #[.int .i64 a0_0, .int .i64 a0_1, .int .i64 a0_2, .int .i64 a0_3, .int .i64 a0_4, .int .i64 a0_5, .int .i64 a0_6, .int .i64 a0_7, .int .i64 a0_8, .int .i64 a0_9]) (t := 25) ?hr ?_; (case hd => rfl); (case hg => rfl); (case hr => first | (go_simp; done) | (go_simp; rfl)); intro gb626 hg w7 hbox hb; have n0_ := AX (below_step bw hb); have n1_ := AX (hbox); have n2_ := AX ((by rw [hg]; exact (below_size bw) : w.heap.size ≤ gb626)); have n3_ := n2_; clear HB; have HB := n0_; have BK626 := n1_; have GW626 := n2_; have GE626 := n3_; clear n0_ n1_ n2_ n3_; clear hb hbox hg))
 repeat (go_quiet (first | ((with_reducible refine gate_dst (N := 5) rfl ?_); (try (refine gate_guard (by rfl) ?_; dsimp only)); refine box_event ?hg (N := 5) ?hd (cs := #[.int .i64 a0_0, .int .i64 a0_1, .int .i64 a0_2, .int .i64 a0_3, .int .i64 a0_4, .int .i64 a0_5, .int .i64 a0_6, .int .i64 a0_7, .int .i64 a0_8, .int .i64 a0_9]) (t := 25) ?hr ?_; (case hd => rfl); (case hg => rfl); (case hr => first | (go_simp; done) | (go_simp; rfl)); intro gb626 hg w7 hbox hb; have n0_ := AX (below_step bw hb); have n1_ := AX (hbox); have n2_ := AX ((by rw [hg]; exact (below_size bw) : w.heap.size ≤ gb626)); have n3_ := n2_; clear HB; have HB := n0_; have BK626 := n1_; have GW626 := n2_; have GE626 := n3_; clear n0_ n1_ n2_ n3_; clear hb hbox hg)); go_upto_region 1 with (first | ((with_reducible refine gate_dst (N := 5) rfl ?_); (try (refine gate_guard (by rfl) ?_; dsimp only)); refine box_event ?hg (N := 5) ?hd (cs := #[.int .i64 a0_0, .int .i64 a0_1, .int .i64 a0_2, .int .i64 a0_3, .int .i64 a0_4, .int .i64 a0_5, .int .i64 a0_6, .int .i64 a0_7, .int .i64 a0_8, .int .i64 a0_9]) (t := 25) ?hr ?_; (case hd => rfl); (case hg => rfl); (case hr => first | (go_simp; done) | (go_simp; rfl)); intro gb626 hg w7 hbox hb; have n0_ := AX (below_step bw hb); have n1_ := AX (hbox); have n2_ := AX ((by rw [hg]; exact (below_size bw) : w.heap.size ≤ gb626)); have n3_ := n2_; clear HB; have HB := n0_; have BK626 := n1_; have GW626 := n2_; have GE626 := n3_; clear n0_ n1_ n2_ n3_; clear hb hbox hg)))
 (try simp only [Act.put, List.setIfInBounds_toArray, List.set_cons_zero, List.set_cons_succ])
 go_cut [25] (fun v25 wc => ∃ (kq : Nat) (x25_5 : Bool), v25 = .bool x25_5 ∧ Aside0 (pylonref13_Spans.j0 kq a1 a2 a3 a4 x25_5 a0_0 a0_1 a0_2 a0_3 a0_4 a0_5 a0_6 a0_7 a0_8 a0_9 = some (r1, r2, r3)) ∧ Aside0 (kq ≤ k) ∧ Aside0 (wc.heap[gb626]? = some (.cells #[.int .i64 a0_0, .int .i64 a0_1, .int .i64 a0_2, .int .i64 a0_3, .int .i64 a0_4, .int .i64 a0_5, .int .i64 a0_6, .int .i64 a0_7, .int .i64 a0_8, .int .i64 a0_9] 25 (0, 0))) ∧ Aside0 (Below w.heap.size w wc))
 case first =>
  have H := HC6.out
  clear HC6
  by_cases c8 : a1 < 1
  ·rw [if_pos c8] at H
   have c8b0 : decide (a1 < 1) = true := decide_eq_true c8
   clear c8
   (first | rw [c8b0] | (simp only [i64_w, i32_w]; rw [c8b0]) | skip)
   have H' := AX H
   clear H
   go_wp2
   repeat (go_quiet (fail); try go_wp2)
   go_meet
   case rel => exact ⟨_, (true), (by first | rfl | (simp; done) | (simp [*]; done)), H', ⟨by first | omega | exact Nat.le_refl _⟩, ⟨bkn BK626⟩, ⟨bw⟩⟩
  ·rw [if_neg c8] at H
   have c8b0 : decide (a1 < 1) = false := decide_eq_false c8
   clear c8
   (first | rw [c8b0] | (simp only [i64_w, i32_w]; rw [c8b0]) | skip)
   have H' := AX H
   clear H
   go_wp2
   repeat (go_quiet (fail); try go_wp2)
   go_meet
   case rel => exact ⟨_, (decide (a1 > 28)), (by first | rfl | (simp; done) | (simp [*]; done)), H', ⟨by first | omega | exact Nat.le_refl _⟩, ⟨bkn BK626⟩, ⟨bw⟩⟩
 case rest =>
  clear HC6
  obtain ⟨kq, x25_5, rfl, HA, HJ5, BK626, HB⟩ := hcut
  cases kq with
  | zero => exact absurd HA.out (by simp [pylonref13_Spans.j0])
  | succ kj5 =>
   have H := HA.out
   clear HA
   simp only [pylonref13_Spans.j0] at H
   by_cases c9 : x25_5 = true
   ·subst c9
    have H1 : (some (([] : List (S74)), ([] : List (S33)), 8)) = some (r1, r2, r3) := by rw [if_pos rfl] at H; exact H
    clear H
    have H := H1
    clear H1
    simp only [Option.some.injEq, Prod.mk.injEq] at H
    obtain ⟨rfl, rfl, rfl⟩ := H
    go_wp2
    repeat (go_quiet (fail); try go_wp2)
    go_ret3
    exact ⟨_, _, by first | rfl | (simp [errW_none, errW_some] <;> rfl) | (simp [*, errW_none, errW_some] <;> rfl), by first | exact Kd.R_nil _ _ _ _ _ | exact Kd.N_nil _ _ _ _ _ | exact Kd.V_nil _ _ _ _ _ | exact Kd.Q_nil _ _ _ _ _ | exact Kd.S_nil _ _ _ _ _, by first | exact Kd.R_nil _ _ _ _ _ | exact Kd.N_nil _ _ _ _ _ | exact Kd.V_nil _ _ _ _ _ | exact Kd.Q_nil _ _ _ _ _ | exact Kd.S_nil _ _ _ _ _, bw⟩
   ·replace c9 := Bool.eq_false_iff.mpr c9
    subst c9
    have H1 : ((pylonref13_Dates.f kj5 a0_0 a0_1 a0_2 a0_3 a0_4 a0_5 a0_6 a0_7 a0_8 a0_9 a2 a3 a4).bind fun bt627 => (if bt627.2 = 0 then (pylonref13_Spans.l0 kj5 a1 bt627.1 ([] : List (S74)) ([] : List (S33)) (bt627.1.length : Int) 0) else (some (([] : List (S74)), ([] : List (S33)), bt627.2)))) = some (r1, r2, r3) := by rw [if_neg (show ¬ (false = true) by decide)] at H; exact H
    clear H
    have H := H1
    clear H1
    replace H := Option.bind_eq_some_iff.mp H
    obtain ⟨⟨t627, t630⟩, A100, H⟩ := H
    replace H : (if t630 = 0 then (pylonref13_Spans.l0 kj5 a1 t627 ([] : List (S74)) ([] : List (S33)) (t627.length : Int) 0) else (some (([] : List (S74)), ([] : List (S33)), t630))) = some (r1, r2, r3) := H
    have A10 := AX A100
    clear A100
    by_cases c11 : t630 = 0
    ·rw [if_pos c11] at H
     have c11b0 : (t630 == 0) = true := beq_iff_eq.mpr c11
     have c11b1 : (t630 != 0) = false := bne_eq_false_iff_eq.mpr c11
     clear c11
     have H' := AX H
     clear H
     obtain ⟨hcz12_0, hcz12_1, hcz12_2, hcz12_3, hcz12_4, hcz12_5, hcz12_6, hcz12_7, hcz12_8, hcz12_9⟩ := blkC10 (w := wc) BK626.out
     obtain ⟨hfz12_0, hfz12_1, hfz12_2, hfz12_3, hfz12_4, hfz12_5, hfz12_6, hfz12_7, hfz12_8, hfz12_9⟩ := blkF10 BK626.out
     go_wp2_with (first | (go_at_call 31; (with_reducible refine (pylonref13_Dates.calls kj5 a0_0 a0_1 a0_2 a0_3 a0_4 a0_5 a0_6 a0_7 a0_8 a0_9 a2 a3 a4 t627 t630 _ A10.out).mono ?_); rintro e w13 ⟨v628, rfl, ho0, hb⟩; have n0_ := AX (Kd.R_lower ho0 (below_size bw)); have n1_ := AX (bkb BK626 hb); have n2_ := AX (below_step bw hb); clear BK626; clear HB; have HO629 := n0_; have BK626 := n1_; have HB := n2_; clear n0_ n1_ n2_; (try clear hb); (try clear hb2); (try clear hk); (try clear hi); (try clear ho0); obtain ⟨Ao14, co14, eo14⟩ := Kd.R_slice HO629.out; subst eo14))
     repeat (go_quiet (first | (go_at_call 31; (with_reducible refine (pylonref13_Dates.calls kj5 a0_0 a0_1 a0_2 a0_3 a0_4 a0_5 a0_6 a0_7 a0_8 a0_9 a2 a3 a4 t627 t630 _ A10.out).mono ?_); rintro e w13 ⟨v628, rfl, ho0, hb⟩; have n0_ := AX (Kd.R_lower ho0 (below_size bw)); have n1_ := AX (bkb BK626 hb); have n2_ := AX (below_step bw hb); clear BK626; clear HB; have HO629 := n0_; have BK626 := n1_; have HB := n2_; clear n0_ n1_ n2_; (try clear hb); (try clear hb2); (try clear hk); (try clear hi); (try clear ho0); obtain ⟨Ao14, co14, eo14⟩ := Kd.R_slice HO629.out; subst eo14)); try go_wp2_with (first | (go_at_call 31; (with_reducible refine (pylonref13_Dates.calls kj5 a0_0 a0_1 a0_2 a0_3 a0_4 a0_5 a0_6 a0_7 a0_8 a0_9 a2 a3 a4 t627 t630 _ A10.out).mono ?_); rintro e w13 ⟨v628, rfl, ho0, hb⟩; have n0_ := AX (Kd.R_lower ho0 (below_size bw)); have n1_ := AX (bkb BK626 hb); have n2_ := AX (below_step bw hb); clear BK626; clear HB; have HO629 := n0_; have BK626 := n1_; have HB := n2_; clear n0_ n1_ n2_; (try clear hb); (try clear hb2); (try clear hk); (try clear hi); (try clear ho0); obtain ⟨Ao14, co14, eo14⟩ := Kd.R_slice HO629.out; subst eo14)))
     go_loopg [15, 16, 39] kj5 (fun kq v15 v16 v39 w' => ∃ (x15_2 : List (S74)) (x16_2 : List (S33)) (x39_2 : Int), v39 = .int .i64 x39_2 ∧ Aside0 (pylonref13_Spans.l0 kq a1 t627 x15_2 x16_2 (t627.length : Int) x39_2 = some (r1, r2, r3)) ∧ Aside0 (kq ≤ kj5) ∧ Aside0 (Kd.R k33 33 w' w.heap.size (fun k_ => some k_ ≠ (v16 : Value).ownBlock) (.slice Ao14 t627.length co14) t627) ∧ Aside0 (Kd.R k74 74 w' w.heap.size (fun _ => True) v15 x15_2) ∧ Aside0 (Kd.R k33 33 w' w.heap.size (fun k_ => some k_ ≠ ((.slice Ao14 t627.length co14) : Value).ownBlock) v16 x16_2) ∧ Aside0 (w'.heap[gb626]? = some (.cells #[.int .i64 a0_0, .int .i64 a0_1, .int .i64 a0_2, .int .i64 a0_3, .int .i64 a0_4, .int .i64 a0_5, .int .i64 a0_6, .int .i64 a0_7, .int .i64 a0_8, .int .i64 a0_9] 25 (0, 0))) ∧ Aside0 (Below w.heap.size w w'))
     case atStart => exact ⟨(([] : List (S74))), (([] : List (S33))), (0), (by first | rfl | (simp; done) | (simp [*]; done)), H', ⟨Nat.le_refl _⟩, ⟨by (with_reducible repeat (first | apply Kd.R_alloc | apply Kd.R_drewN | apply Kd.R_drew)); exact Kd.R_mono HO629.out (fun _ hk => (by simp [Value.ownBlock]))⟩, ⟨by first | exact Kd.R_nil _ _ _ _ _ | exact Kd.N_nil _ _ _ _ _ | exact Kd.V_nil _ _ _ _ _ | exact Kd.Q_nil _ _ _ _ _ | exact Kd.S_nil _ _ _ _ _⟩, ⟨by first | exact Kd.R_nil _ _ _ _ _ | exact Kd.N_nil _ _ _ _ _ | exact Kd.V_nil _ _ _ _ _ | exact Kd.Q_nil _ _ _ _ _ | exact Kd.S_nil _ _ _ _ _⟩, ⟨bkn BK626⟩, ⟨bw⟩⟩
     case round =>
      clear H'
      try clear c9
      try clear c11
      try clear c11b0
      try clear c11b1
      try clear hcz12_0 hcz12_1 hcz12_2 hcz12_3 hcz12_4 hcz12_5 hcz12_6 hcz12_7 hcz12_8 hcz12_9
      try clear hfz12_0 hfz12_1 hfz12_2 hfz12_3 hfz12_4 hfz12_5 hfz12_6 hfz12_7 hfz12_8 hfz12_9
      obtain ⟨x15_2, x16_2, x39_2, rfl, HA, HK2, HO_13, HO_15, HO_16, BK626, HB⟩ := hrel
      cases gk with
      | zero => exact absurd HA.out (by simp [pylonref13_Spans.l0])
      | succ k2 =>
       have H := HA.out
       clear HA
       simp only [pylonref13_Spans.l0] at H
       by_cases c15 : x39_2 < (t627.length : Int)
       ·rw [if_pos c15] at H
        have c15b0 : decide (x39_2 < (t627.length : Int)) = true := decide_eq_true c15
        clear c15
        have HC16 := AX H
        clear H
        go_upto_block 1 with (fail)
        repeat (go_quiet (fail); go_upto_block 1 with (fail))
        go_cut [15, 16] (fun v15 v16 wc => ∃ (kq : Nat) (x15_15 : List (S74)) (x16_15 : List (S33)), Aside0 (pylonref13_Spans.j3 kq a1 t627 x15_15 x16_15 (t627.length : Int) x39_2 = some (r1, r2, r3)) ∧ Aside0 (kq ≤ k2) ∧ Aside0 (Kd.R k33 33 wc w.heap.size (fun k_ => some k_ ≠ (v16 : Value).ownBlock) (.slice Ao14 t627.length co14) t627) ∧ Aside0 (Kd.R k74 74 wc w.heap.size (fun _ => True) v15 x15_15) ∧ Aside0 (Kd.R k33 33 wc w.heap.size (fun k_ => some k_ ≠ ((.slice Ao14 t627.length co14) : Value).ownBlock) v16 x16_15) ∧ Aside0 (wc.heap[gb626]? = some (.cells #[.int .i64 a0_0, .int .i64 a0_1, .int .i64 a0_2, .int .i64 a0_3, .int .i64 a0_4, .int .i64 a0_5, .int .i64 a0_6, .int .i64 a0_7, .int .i64 a0_8, .int .i64 a0_9] 25 (0, 0))) ∧ Aside0 (Below w.heap.size w wc))
        case first =>
         have H := HC16.out
         clear HC16
         by_cases c17 : 0 ≤ x39_2
         ·rw [if_pos c17] at H
          have c17b0 : decide (0 ≤ x39_2) = true := decide_eq_true c17
          clear c17
          (first | rw [c17b0] | (simp only [i64_w, i32_w]; rw [c17b0]) | skip)
          by_cases c18 : x39_2 < (t627.length : Int)
          ·rw [if_pos c18] at H
           have c18b0 : decide (x39_2 < (t627.length : Int)) = true := decide_eq_true c18
           clear c18
           replace H := Option.bind_eq_some_iff.mp H
           obtain ⟨⟨t632, t633, t634, t635⟩, A190, H⟩ := H
           replace H : (if (x16_2.length : Int) > 0 then (if 0 ≤ (wrap64 ((x16_2.length : Int) - 1)) then (if (wrap64 ((x16_2.length : Int) - 1)) < (x16_2.length : Int) then (pylonref13_Spans.j2 k2 a1 t627 x15_2 x16_2 x39_2 (t627.length : Int) x39_2 (((rd_T33 x16_2 (wrap64 ((x16_2.length : Int) - 1))).f0) == t632 && (((rd_T33 x16_2 (wrap64 ((x16_2.length : Int) - 1))).f1) == t633 && (((rd_T33 x16_2 (wrap64 ((x16_2.length : Int) - 1))).f2) == t634))) t632 t633 t634) else (none)) else (none)) else (pylonref13_Spans.j2 k2 a1 t627 x15_2 x16_2 x39_2 (t627.length : Int) x39_2 false t632 t633 t634)) = some (r1, r2, r3) := H
           have A19 := AX A190
           clear A190
           have HC20 := AX H
           clear H
           have p631 : 0 ≤ (x39_2 : Int) := of_decide_eq_true (by first | (with_reducible assumption) | assumption)
           have q631 : x39_2 < (t627.length : Int) := of_decide_eq_true (by first | (with_reducible assumption) | assumption)
           obtain ⟨ad631, e631, hx631_0, hx631_1, hx631_2⟩ := at_T33 (Kd.R_reads' HO_13.out).2.2 x39_2 p631 q631
           cases e631
           replace p631 := eq_true p631
           replace q631 := eq_true q631
           go_upto_region 12 with (first | (go_at_call 57; (with_reducible refine (pylonref13_Begin.calls k2 ((rd_T33 t627 x39_2).f0) ((rd_T33 t627 x39_2).f1) ((rd_T33 t627 x39_2).f2) a1 t632 t633 t634 t635 _ A19.out).mono ?_); rintro e w21 ⟨rfl, hb⟩; have n0_ := AX (Kd.R_below (kr HO_13) hb); have n1_ := AX (Kd.R_below (kr HO_15) hb); have n2_ := AX (Kd.R_below (kr HO_16) hb); have n3_ := AX (bkb BK626 hb); have n4_ := AX (below_step bw hb); clear HO_13; clear HO_15; clear HO_16; clear BK626; clear HB; have HO_13 := n0_; have HO_15 := n1_; have HO_16 := n2_; have BK626 := n3_; have HB := n4_; clear n0_ n1_ n2_ n3_ n4_; (try clear hb)) | ((with_reducible refine gate_dst (N := 18) rfl ?_); (try (refine gate_guard (by rfl) ?_; dsimp only)); refine box_event ?hg (N := 18) ?hd (cs := #[.int .i64 0, .int .i64 0, .int .i64 0]) (t := 33) ?hr ?_; (case hd => rfl); (case hg => rfl); (case hr => first | (go_simp; done) | (go_simp; rfl)); intro gb636 hg w22 hbox hb; have n0_ := AX (Kd.R_below (Kd.R_elderB (kr HO_13) gb636 (Nat.le_of_eq hg.symm)) hb); have n1_ := AX (Kd.R_below (kr HO_15) hb); have n2_ := AX (Kd.R_below (Kd.R_elderB (kr HO_16) gb636 (Nat.le_of_eq hg.symm)) hb); have n3_ := AX (bkb BK626 hb); have n4_ := AX (below_step bw hb); have n5_ := AX (hbox); have n6_ := AX ((by rw [hg]; exact (below_size bw) : w.heap.size ≤ gb636)); have n7_ := n6_; have n8_ := AX ((by rw [hg]; exact Nat.ne_of_lt (blk_lt (bkn BK626)) : gb626 ≠ gb636)); have n9_ := AX ((by rw [hg]; exact Nat.ne_of_gt (blk_lt (bkn BK626)) : gb636 ≠ gb626)); clear HO_13; clear HO_15; clear HO_16; clear BK626; clear HB; have HO_13 := n0_; have HO_15 := n1_; have HO_16 := n2_; have BK626 := n3_; have HB := n4_; have BK636 := n5_; have GW636 := n6_; have GE636 := n7_; have NB626_636 := n8_; have NB636_626 := n9_; clear n0_ n1_ n2_ n3_ n4_ n5_ n6_ n7_ n8_ n9_; clear hb hbox hg; have hnb23 := NB636_626.out; have hnc23 := NB626_636.out; obtain ⟨hcz24_0, hcz24_1, hcz24_2⟩ := blkC3 (w := w22) BK636.out; obtain ⟨hfz24_0, hfz24_1, hfz24_2⟩ := blkF3 BK636.out))
           repeat (go_quiet (first | (go_at_call 57; (with_reducible refine (pylonref13_Begin.calls k2 ((rd_T33 t627 x39_2).f0) ((rd_T33 t627 x39_2).f1) ((rd_T33 t627 x39_2).f2) a1 t632 t633 t634 t635 _ A19.out).mono ?_); rintro e w21 ⟨rfl, hb⟩; have n0_ := AX (Kd.R_below (kr HO_13) hb); have n1_ := AX (Kd.R_below (kr HO_15) hb); have n2_ := AX (Kd.R_below (kr HO_16) hb); have n3_ := AX (bkb BK626 hb); have n4_ := AX (below_step bw hb); clear HO_13; clear HO_15; clear HO_16; clear BK626; clear HB; have HO_13 := n0_; have HO_15 := n1_; have HO_16 := n2_; have BK626 := n3_; have HB := n4_; clear n0_ n1_ n2_ n3_ n4_; (try clear hb)) | ((with_reducible refine gate_dst (N := 18) rfl ?_); (try (refine gate_guard (by rfl) ?_; dsimp only)); refine box_event ?hg (N := 18) ?hd (cs := #[.int .i64 0, .int .i64 0, .int .i64 0]) (t := 33) ?hr ?_; (case hd => rfl); (case hg => rfl); (case hr => first | (go_simp; done) | (go_simp; rfl)); intro gb636 hg w22 hbox hb; have n0_ := AX (Kd.R_below (Kd.R_elderB (kr HO_13) gb636 (Nat.le_of_eq hg.symm)) hb); have n1_ := AX (Kd.R_below (kr HO_15) hb); have n2_ := AX (Kd.R_below (Kd.R_elderB (kr HO_16) gb636 (Nat.le_of_eq hg.symm)) hb); have n3_ := AX (bkb BK626 hb); have n4_ := AX (below_step bw hb); have n5_ := AX (hbox); have n6_ := AX ((by rw [hg]; exact (below_size bw) : w.heap.size ≤ gb636)); have n7_ := n6_; have n8_ := AX ((by rw [hg]; exact Nat.ne_of_lt (blk_lt (bkn BK626)) : gb626 ≠ gb636)); have n9_ := AX ((by rw [hg]; exact Nat.ne_of_gt (blk_lt (bkn BK626)) : gb636 ≠ gb626)); clear HO_13; clear HO_15; clear HO_16; clear BK626; clear HB; have HO_13 := n0_; have HO_15 := n1_; have HO_16 := n2_; have BK626 := n3_; have HB := n4_; have BK636 := n5_; have GW636 := n6_; have GE636 := n7_; have NB626_636 := n8_; have NB636_626 := n9_; clear n0_ n1_ n2_ n3_ n4_ n5_ n6_ n7_ n8_ n9_; clear hb hbox hg; have hnb23 := NB636_626.out; have hnc23 := NB626_636.out; obtain ⟨hcz24_0, hcz24_1, hcz24_2⟩ := blkC3 (w := w22) BK636.out; obtain ⟨hfz24_0, hfz24_1, hfz24_2⟩ := blkF3 BK636.out)); go_upto_region 12 with (first | (go_at_call 57; (with_reducible refine (pylonref13_Begin.calls k2 ((rd_T33 t627 x39_2).f0) ((rd_T33 t627 x39_2).f1) ((rd_T33 t627 x39_2).f2) a1 t632 t633 t634 t635 _ A19.out).mono ?_); rintro e w21 ⟨rfl, hb⟩; have n0_ := AX (Kd.R_below (kr HO_13) hb); have n1_ := AX (Kd.R_below (kr HO_15) hb); have n2_ := AX (Kd.R_below (kr HO_16) hb); have n3_ := AX (bkb BK626 hb); have n4_ := AX (below_step bw hb); clear HO_13; clear HO_15; clear HO_16; clear BK626; clear HB; have HO_13 := n0_; have HO_15 := n1_; have HO_16 := n2_; have BK626 := n3_; have HB := n4_; clear n0_ n1_ n2_ n3_ n4_; (try clear hb)) | ((with_reducible refine gate_dst (N := 18) rfl ?_); (try (refine gate_guard (by rfl) ?_; dsimp only)); refine box_event ?hg (N := 18) ?hd (cs := #[.int .i64 0, .int .i64 0, .int .i64 0]) (t := 33) ?hr ?_; (case hd => rfl); (case hg => rfl); (case hr => first | (go_simp; done) | (go_simp; rfl)); intro gb636 hg w22 hbox hb; have n0_ := AX (Kd.R_below (Kd.R_elderB (kr HO_13) gb636 (Nat.le_of_eq hg.symm)) hb); have n1_ := AX (Kd.R_below (kr HO_15) hb); have n2_ := AX (Kd.R_below (Kd.R_elderB (kr HO_16) gb636 (Nat.le_of_eq hg.symm)) hb); have n3_ := AX (bkb BK626 hb); have n4_ := AX (below_step bw hb); have n5_ := AX (hbox); have n6_ := AX ((by rw [hg]; exact (below_size bw) : w.heap.size ≤ gb636)); have n7_ := n6_; have n8_ := AX ((by rw [hg]; exact Nat.ne_of_lt (blk_lt (bkn BK626)) : gb626 ≠ gb636)); have n9_ := AX ((by rw [hg]; exact Nat.ne_of_gt (blk_lt (bkn BK626)) : gb636 ≠ gb626)); clear HO_13; clear HO_15; clear HO_16; clear BK626; clear HB; have HO_13 := n0_; have HO_15 := n1_; have HO_16 := n2_; have BK626 := n3_; have HB := n4_; have BK636 := n5_; have GW636 := n6_; have GE636 := n7_; have NB626_636 := n8_; have NB636_626 := n9_; clear n0_ n1_ n2_ n3_ n4_ n5_ n6_ n7_ n8_ n9_; clear hb hbox hg; have hnb23 := NB636_626.out; have hnc23 := NB626_636.out; obtain ⟨hcz24_0, hcz24_1, hcz24_2⟩ := blkC3 (w := w22) BK636.out; obtain ⟨hfz24_0, hfz24_1, hfz24_2⟩ := blkF3 BK636.out)))
           (try simp only [Act.put, List.setIfInBounds_toArray, List.set_cons_zero, List.set_cons_succ])
           go_cut [63] (fun v63 wc => ∃ (kq : Nat) (x63_19 : Bool), v63 = .bool x63_19 ∧ Aside0 (pylonref13_Spans.j2 kq a1 t627 x15_2 x16_2 x39_2 (t627.length : Int) x39_2 x63_19 t632 t633 t634 = some (r1, r2, r3)) ∧ Aside0 (kq ≤ k2) ∧ Aside0 (Kd.R k33 33 wc w.heap.size (fun k_ => some k_ ≠ (u16 : Value).ownBlock ∧ k_ ≠ gb636) (.slice (some ad631) t627.length co14) t627) ∧ Aside0 (Kd.R k74 74 wc w.heap.size (fun _ => True) u15 x15_2) ∧ Aside0 (Kd.R k33 33 wc w.heap.size (fun k_ => some k_ ≠ ((.slice (some ad631) t627.length co14) : Value).ownBlock ∧ k_ ≠ gb636) u16 x16_2) ∧ Aside0 (wc.heap[gb626]? = some (.cells #[.int .i64 a0_0, .int .i64 a0_1, .int .i64 a0_2, .int .i64 a0_3, .int .i64 a0_4, .int .i64 a0_5, .int .i64 a0_6, .int .i64 a0_7, .int .i64 a0_8, .int .i64 a0_9] 25 (0, 0))) ∧ Aside0 (wc.heap[gb636]? = some (.cells #[.int .i64 t632, .int .i64 t633, .int .i64 t634] 33 (0, 0))) ∧ Aside0 (Below w.heap.size w wc))
           case first =>
            have H := HC20.out
            clear HC20
            by_cases c25 : (x16_2.length : Int) > 0
            ·rw [if_pos c25] at H
             have c25b0 : decide (0 < (x16_2.length : Int)) = true := decide_eq_true c25
             have c25b1 : decide (0 < x16_2.length) = true := decide_eq_true (by omega)
             clear c25
             (first | rw [c25b0] | (simp only [i64_w, i32_w]; rw [c25b0]) | skip)
             obtain ⟨ji26, hji26⟩ : ∃ j_ : Int, (wrap64 ((x16_2.length : Int) - 1)) = j_ := ⟨_, rfl⟩
             replace H : (if 0 ≤ (ji26) then (if (ji26) < (x16_2.length : Int) then (pylonref13_Spans.j2 k2 a1 t627 x15_2 x16_2 x39_2 (t627.length : Int) x39_2 (((rd_T33 x16_2 (ji26)).f0) == t632 && (((rd_T33 x16_2 (ji26)).f1) == t633 && (((rd_T33 x16_2 (ji26)).f2) == t634))) t632 t633 t634) else (none)) else (none)) = some (r1, r2, r3) := by first | (rw [hji26] at H; exact H) | (simp only [hji26] at H ⊢; exact H)
             have hji26w : (IntKind.i64.wrap ((x16_2.length : Int) - 1)) = ji26 := (i64_w _).trans hji26
             by_cases c27 : 0 ≤ (ji26)
             ·rw [if_pos c27] at H
              have c27b0 : decide (0 ≤ (ji26)) = true := decide_eq_true c27
              clear c27
              by_cases c28 : (ji26) < (x16_2.length : Int)
              ·rw [if_pos c28] at H
               have c28b0 : decide ((ji26) < (x16_2.length : Int)) = true := decide_eq_true c28
               clear c28
               have H' := AX H
               clear H
               obtain ⟨Ao29, co29, eo29⟩ := Kd.R_slice HO_16.out
               subst eo29
               have p637 : 0 ≤ ((ji26) : Int) := of_decide_eq_true (by first | (with_reducible assumption) | assumption)
               have q637 : (ji26) < (x16_2.length : Int) := of_decide_eq_true (by first | (with_reducible assumption) | assumption)
               obtain ⟨ad637, e637, hx637_0, hx637_1, hx637_2⟩ := at_T33 (Kd.R_reads' HO_16.out).2.2 (ji26) p637 q637
               cases e637
               have hn637_0 : ad637.block ≠ gb636 := Kd.own_blk (by first | exact Kd.R_ne HO_16.out BK636.out (by decide) | exact fun e_ => (And.left HO_16.out _ e_.symm).2 rfl | exact fun e_ => (And.left HO_16.out _ e_.symm).1.2 rfl | exact fun e_ => (And.left HO_16.out _ e_.symm).2.1 rfl | exact fun e_ => (And.left HO_16.out _ e_.symm).2.2 rfl)
               have hn637_1 : ad637.block ≠ gb636 := Kd.own_blk (by first | exact Kd.R_ne HO_16.out BK636.out (by decide) | exact fun e_ => (And.left HO_16.out _ e_.symm).2 rfl | exact fun e_ => (And.left HO_16.out _ e_.symm).1.2 rfl | exact fun e_ => (And.left HO_16.out _ e_.symm).2.1 rfl | exact fun e_ => (And.left HO_16.out _ e_.symm).2.2 rfl)
               have hn637_2 : ad637.block ≠ gb636 := Kd.own_blk (by first | exact Kd.R_ne HO_16.out BK636.out (by decide) | exact fun e_ => (And.left HO_16.out _ e_.symm).2 rfl | exact fun e_ => (And.left HO_16.out _ e_.symm).1.2 rfl | exact fun e_ => (And.left HO_16.out _ e_.symm).2.1 rfl | exact fun e_ => (And.left HO_16.out _ e_.symm).2.2 rfl)
               replace hx637_0 := (cell_far (p := ⟨gb636, 0, none⟩) (by first | (rw [add_block]; exact hn637_0) | (show (Addr.add _ _).block ≠ _; rw [add_block]; exact hn637_0) | exact hn637_0) (.int .i64 t632)).trans hx637_0
               replace hx637_1 := (cell_far (p := ⟨gb636, 0, none⟩) (by first | (rw [add_block]; exact hn637_0) | (show (Addr.add _ _).block ≠ _; rw [add_block]; exact hn637_0) | exact hn637_0) (.int .i64 t632)).trans hx637_1
               replace hx637_2 := (cell_far (p := ⟨gb636, 0, none⟩) (by first | (rw [add_block]; exact hn637_0) | (show (Addr.add _ _).block ≠ _; rw [add_block]; exact hn637_0) | exact hn637_0) (.int .i64 t632)).trans hx637_2
               replace hx637_0 := (cell_far (p := ⟨gb636, 1, none⟩) (by first | (rw [add_block]; exact hn637_1) | (show (Addr.add _ _).block ≠ _; rw [add_block]; exact hn637_1) | exact hn637_1) (.int .i64 t633)).trans hx637_0
               replace hx637_1 := (cell_far (p := ⟨gb636, 1, none⟩) (by first | (rw [add_block]; exact hn637_1) | (show (Addr.add _ _).block ≠ _; rw [add_block]; exact hn637_1) | exact hn637_1) (.int .i64 t633)).trans hx637_1
               replace hx637_2 := (cell_far (p := ⟨gb636, 1, none⟩) (by first | (rw [add_block]; exact hn637_1) | (show (Addr.add _ _).block ≠ _; rw [add_block]; exact hn637_1) | exact hn637_1) (.int .i64 t633)).trans hx637_2
               replace hx637_0 := (cell_far (p := ⟨gb636, 2, none⟩) (by first | (rw [add_block]; exact hn637_2) | (show (Addr.add _ _).block ≠ _; rw [add_block]; exact hn637_2) | exact hn637_2) (.int .i64 t634)).trans hx637_0
               replace hx637_1 := (cell_far (p := ⟨gb636, 2, none⟩) (by first | (rw [add_block]; exact hn637_2) | (show (Addr.add _ _).block ≠ _; rw [add_block]; exact hn637_2) | exact hn637_2) (.int .i64 t634)).trans hx637_1
               replace hx637_2 := (cell_far (p := ⟨gb636, 2, none⟩) (by first | (rw [add_block]; exact hn637_2) | (show (Addr.add _ _).block ≠ _; rw [add_block]; exact hn637_2) | exact hn637_2) (.int .i64 t634)).trans hx637_2
               (try have hy637_0 := fun (n_ : Nat) => (show (((((w22.drewN n_).setCell ⟨gb636, 0, none⟩ (.int .i64 t632)).setCell ⟨gb636, 1, none⟩ (.int .i64 t633)).setCell ⟨gb636, 2, none⟩ (.int .i64 t634))).cell? _ = some _ from hx637_0))
               (try have hy637_1 := fun (n_ : Nat) => (show (((((w22.drewN n_).setCell ⟨gb636, 0, none⟩ (.int .i64 t632)).setCell ⟨gb636, 1, none⟩ (.int .i64 t633)).setCell ⟨gb636, 2, none⟩ (.int .i64 t634))).cell? _ = some _ from hx637_1))
               (try have hy637_2 := fun (n_ : Nat) => (show (((((w22.drewN n_).setCell ⟨gb636, 0, none⟩ (.int .i64 t632)).setCell ⟨gb636, 1, none⟩ (.int .i64 t633)).setCell ⟨gb636, 2, none⟩ (.int .i64 t634))).cell? _ = some _ from hx637_2))
               clear hn637_0
               clear hn637_1
               clear hn637_2
               replace p637 := eq_true p637
               replace q637 := eq_true q637
               have hnb30 := NB636_626.out
               have hnc30 := NB626_636.out
               obtain ⟨hcz31_0, hcz31_1, hcz31_2⟩ := blkC3 (w := w22) BK636.out
               obtain ⟨hfz31_0, hfz31_1, hfz31_2⟩ := blkF3 BK636.out
               go_wp2
               repeat (go_quiet (fail); try go_wp2)
               go_meet
               case rel => exact ⟨_, ((((rd_T33 x16_2 (ji26)).f0) == t632 && (((rd_T33 x16_2 (ji26)).f1) == t633 && (((rd_T33 x16_2 (ji26)).f2) == t634)))), (by first | rfl | (simp; done) | (simp only [← hji26] <;> (first | rfl | simp)) | (simp [*]; done)), H', ⟨by have := HJ5.out; have := HK2.out; first | omega | exact Nat.le_refl _⟩, ⟨by (with_reducible repeat (first | apply Kd.R_alloc | apply Kd.R_drewN | apply Kd.R_drew)); exact Kd.R_mono (Kd.R_far (p := ⟨gb636, 2, none⟩) (Kd.R_far (p := ⟨gb636, 1, none⟩) (Kd.R_far (p := ⟨gb636, 0, none⟩) (Kd.R_mono HO_13.out (fun k_ hk => (⟨hk, hk.2⟩ : _ ∧ k_ ≠ gb636))) (fun _ hk => hk.2) (.int .i64 t632)) (fun _ hk => hk.2) (.int .i64 t633)) (fun _ hk => hk.2) (.int .i64 t634)) (fun _ hk => ⟨hk.1.1, hk.1.2⟩)⟩, ⟨by (with_reducible repeat (first | apply Kd.R_alloc | apply Kd.R_drewN | apply Kd.R_drew)); exact Kd.R_mono (Kd.R_far (p := ⟨gb636, 2, none⟩) (Kd.R_far (p := ⟨gb636, 1, none⟩) (Kd.R_far (p := ⟨gb636, 0, none⟩) (Kd.R_types HO_15.out BK636.out (by decide)) (fun _ hk => hk.2) (.int .i64 t632)) (fun _ hk => hk.2) (.int .i64 t633)) (fun _ hk => hk.2) (.int .i64 t634)) (fun _ hk => trivial)⟩, ⟨by (with_reducible repeat (first | apply Kd.R_alloc | apply Kd.R_drewN | apply Kd.R_drew)); exact Kd.R_mono (Kd.R_far (p := ⟨gb636, 2, none⟩) (Kd.R_far (p := ⟨gb636, 1, none⟩) (Kd.R_far (p := ⟨gb636, 0, none⟩) (Kd.R_mono HO_16.out (fun k_ hk => (⟨hk, hk.2⟩ : _ ∧ k_ ≠ gb636))) (fun _ hk => hk.2) (.int .i64 t632)) (fun _ hk => hk.2) (.int .i64 t633)) (fun _ hk => hk.2) (.int .i64 t634)) (fun _ hk => ⟨hk.1.1, hk.1.2⟩)⟩, ⟨by (with_reducible repeat first|refine blk_drewN ?_ _|refine blk_drew ?_|refine blk_alloc ?_ _); refine blk_far ?_ NB626_636.out _; (with_reducible repeat first|refine blk_drewN ?_ _|refine blk_drew ?_|refine blk_alloc ?_ _); refine blk_far ?_ NB626_636.out _; (with_reducible repeat first|refine blk_drewN ?_ _|refine blk_drew ?_|refine blk_alloc ?_ _); refine blk_far ?_ NB626_636.out _; (with_reducible repeat first|refine blk_drewN ?_ _|refine blk_drew ?_|refine blk_alloc ?_ _); exact BK626.out⟩, ⟨by (with_reducible repeat first|refine blk_drewN ?_ _|refine blk_drew ?_|refine blk_alloc ?_ _); refine blk_put (cs := #[.int .i64 t632, .int .i64 t633, .int .i64 0]) ?_ 2 _ rfl; (with_reducible repeat first|refine blk_drewN ?_ _|refine blk_drew ?_|refine blk_alloc ?_ _); refine blk_put (cs := #[.int .i64 t632, .int .i64 0, .int .i64 0]) ?_ 1 _ rfl; (with_reducible repeat first|refine blk_drewN ?_ _|refine blk_drew ?_|refine blk_alloc ?_ _); refine blk_put (cs := #[.int .i64 0, .int .i64 0, .int .i64 0]) ?_ 0 _ rfl; (with_reducible repeat first|refine blk_drewN ?_ _|refine blk_drew ?_|refine blk_alloc ?_ _); exact BK636.out⟩, ⟨bw⟩⟩
              ·rw [if_neg c28] at H
               exact absurd H (by simp)
             ·rw [if_neg c27] at H
              exact absurd H (by simp)
            ·rw [if_neg c25] at H
             have c25b0 : decide (0 < (x16_2.length : Int)) = false := decide_eq_false c25
             have c25b1 : decide (0 < x16_2.length) = false := decide_eq_false (by omega)
             clear c25
             (first | rw [c25b0] | (simp only [i64_w, i32_w]; rw [c25b0]) | skip)
             have H' := AX H
             clear H
             obtain ⟨Ao32, co32, eo32⟩ := Kd.R_slice HO_16.out
             subst eo32
             go_wp2
             repeat (go_quiet (fail); try go_wp2)
             go_meet
             case rel => exact ⟨_, (false), (by first | rfl | (simp; done) | (simp [*]; done)), H', ⟨by have := HJ5.out; have := HK2.out; first | omega | exact Nat.le_refl _⟩, ⟨by (with_reducible repeat (first | apply Kd.R_alloc | apply Kd.R_drewN | apply Kd.R_drew)); exact Kd.R_mono (Kd.R_far (p := ⟨gb636, 2, none⟩) (Kd.R_far (p := ⟨gb636, 1, none⟩) (Kd.R_far (p := ⟨gb636, 0, none⟩) (Kd.R_mono HO_13.out (fun k_ hk => (⟨hk, hk.2⟩ : _ ∧ k_ ≠ gb636))) (fun _ hk => hk.2) (.int .i64 t632)) (fun _ hk => hk.2) (.int .i64 t633)) (fun _ hk => hk.2) (.int .i64 t634)) (fun _ hk => ⟨hk.1.1, hk.1.2⟩)⟩, ⟨by (with_reducible repeat (first | apply Kd.R_alloc | apply Kd.R_drewN | apply Kd.R_drew)); exact Kd.R_mono (Kd.R_far (p := ⟨gb636, 2, none⟩) (Kd.R_far (p := ⟨gb636, 1, none⟩) (Kd.R_far (p := ⟨gb636, 0, none⟩) (Kd.R_types HO_15.out BK636.out (by decide)) (fun _ hk => hk.2) (.int .i64 t632)) (fun _ hk => hk.2) (.int .i64 t633)) (fun _ hk => hk.2) (.int .i64 t634)) (fun _ hk => trivial)⟩, ⟨by (with_reducible repeat (first | apply Kd.R_alloc | apply Kd.R_drewN | apply Kd.R_drew)); exact Kd.R_mono (Kd.R_far (p := ⟨gb636, 2, none⟩) (Kd.R_far (p := ⟨gb636, 1, none⟩) (Kd.R_far (p := ⟨gb636, 0, none⟩) (Kd.R_mono HO_16.out (fun k_ hk => (⟨hk, hk.2⟩ : _ ∧ k_ ≠ gb636))) (fun _ hk => hk.2) (.int .i64 t632)) (fun _ hk => hk.2) (.int .i64 t633)) (fun _ hk => hk.2) (.int .i64 t634)) (fun _ hk => ⟨hk.1.1, hk.1.2⟩)⟩, ⟨by (with_reducible repeat first|refine blk_drewN ?_ _|refine blk_drew ?_|refine blk_alloc ?_ _); refine blk_far ?_ NB626_636.out _; (with_reducible repeat first|refine blk_drewN ?_ _|refine blk_drew ?_|refine blk_alloc ?_ _); refine blk_far ?_ NB626_636.out _; (with_reducible repeat first|refine blk_drewN ?_ _|refine blk_drew ?_|refine blk_alloc ?_ _); refine blk_far ?_ NB626_636.out _; (with_reducible repeat first|refine blk_drewN ?_ _|refine blk_drew ?_|refine blk_alloc ?_ _); exact BK626.out⟩, ⟨by (with_reducible repeat first|refine blk_drewN ?_ _|refine blk_drew ?_|refine blk_alloc ?_ _); refine blk_put (cs := #[.int .i64 t632, .int .i64 t633, .int .i64 0]) ?_ 2 _ rfl; (with_reducible repeat first|refine blk_drewN ?_ _|refine blk_drew ?_|refine blk_alloc ?_ _); refine blk_put (cs := #[.int .i64 t632, .int .i64 0, .int .i64 0]) ?_ 1 _ rfl; (with_reducible repeat first|refine blk_drewN ?_ _|refine blk_drew ?_|refine blk_alloc ?_ _); refine blk_put (cs := #[.int .i64 0, .int .i64 0, .int .i64 0]) ?_ 0 _ rfl; (with_reducible repeat first|refine blk_drewN ?_ _|refine blk_drew ?_|refine blk_alloc ?_ _); exact BK636.out⟩, ⟨bw⟩⟩
           case rest =>
            clear HC20
            try clear c9
            try clear c11
            try clear c11b0
            try clear c11b1
            try clear c15
            try clear c15b0
            try clear c17
            try clear c17b0
            try clear c18
            try clear c18b0
            try clear hcz12_0 hcz12_1 hcz12_2 hcz12_3 hcz12_4 hcz12_5 hcz12_6 hcz12_7 hcz12_8 hcz12_9
            try clear hcz24_0 hcz24_1 hcz24_2
            try clear hfz12_0 hfz12_1 hfz12_2 hfz12_3 hfz12_4 hfz12_5 hfz12_6 hfz12_7 hfz12_8 hfz12_9
            try clear hfz24_0 hfz24_1 hfz24_2
            try clear hx631_0
            try clear hx631_1
            try clear hx631_2
            try clear p631
            try clear q631
            obtain ⟨kq, x63_19, rfl, HA, HJ19, HO_13, HO_15, HO_16, BK626, BK636, HB⟩ := hcut
            cases kq with
            | zero => exact absurd HA.out (by simp [pylonref13_Spans.j2])
            | succ kj19 =>
             have H := HA.out
             clear HA
             simp only [pylonref13_Spans.j2] at H
             by_cases c33 : x63_19 = true
             ·subst c33
              have H1 : (if 0 ≤ (wrap64 ((x15_2.length : Int) - 1)) then (if (wrap64 ((x15_2.length : Int) - 1)) < (x15_2.length : Int) then (pylonref13_Spans.j3 kj19 a1 t627 (x15_2.set ((wrap64 ((x15_2.length : Int) - 1)) : Int).toNat (⟨(rd_T74 x15_2 (wrap64 ((x15_2.length : Int) - 1))).f0, wrap64 (x39_2 + 1)⟩ : S74)) x16_2 (t627.length : Int) x39_2) else (none)) else (none)) = some (r1, r2, r3) := by rw [if_pos rfl] at H; exact H
              clear H
              have H := H1
              clear H1
              obtain ⟨ji34, hji34⟩ : ∃ j_ : Int, (wrap64 ((x15_2.length : Int) - 1)) = j_ := ⟨_, rfl⟩
              replace H : (if 0 ≤ (ji34) then (if (ji34) < (x15_2.length : Int) then (pylonref13_Spans.j3 kj19 a1 t627 (x15_2.set ((ji34) : Int).toNat (⟨(rd_T74 x15_2 (ji34)).f0, wrap64 (x39_2 + 1)⟩ : S74)) x16_2 (t627.length : Int) x39_2) else (none)) else (none)) = some (r1, r2, r3) := by first | (rw [hji34] at H; exact H) | (simp only [hji34] at H ⊢; exact H)
              have hji34w : (IntKind.i64.wrap ((x15_2.length : Int) - 1)) = ji34 := (i64_w _).trans hji34
              by_cases c35 : 0 ≤ (ji34)
              ·rw [if_pos c35] at H
               have c35b0 : decide (0 ≤ (ji34)) = true := decide_eq_true c35
               clear c35
               by_cases c36 : (ji34) < (x15_2.length : Int)
               ·rw [if_pos c36] at H
                have c36b0 : decide ((ji34) < (x15_2.length : Int)) = true := decide_eq_true c36
                clear c36
                obtain ⟨y638, hy638⟩ : ∃ y_ : List (S74), y_ = (x15_2.set ((ji34) : Int).toNat (⟨(rd_T74 x15_2 (ji34)).f0, wrap64 (x39_2 + 1)⟩ : S74)) := ⟨_, rfl⟩
                replace H : (pylonref13_Spans.j3 kj19 a1 t627 y638 x16_2 (t627.length : Int) x39_2) = some (r1, r2, r3) := by first | (rw [hy638]; with_reducible exact H) | (have H2_ := (Option.bind_some _ _).symm.trans H; rw [hy638]; with_reducible exact H2_) | (have H2_ := (Option.bind_some _ _).symm.trans H; with_reducible exact H2_) | with_reducible exact H | (rw [hy638]; exact H) | exact H
                have Ny638 := AX hy638
                clear hy638
                have H' := AX H
                clear H
                obtain ⟨Ao38, co38, eo38⟩ := Kd.R_slice HO_15.out
                subst eo38
                have p37 : 0 ≤ ((ji34) : Int) := of_decide_eq_true (by first | (with_reducible assumption) | assumption)
                have q37 : ((ji34) : Int) < ((x15_2.length : Int) : Int) := of_decide_eq_true (by first | (with_reducible assumption) | assumption)
                obtain ⟨go37, co37, eo37, gb37, gl37, cl37, HG37⟩ := Kd.R_form HO_15.out (by omega)
                (first | cases eo37 | (injection eo37 with ea_ en_ ec_; (first | subst ea_ | (injection ea_ with ea_; subst ea_)); subst ec_; clear en_))
                have GB37 := AX gb37
                have GG37 := AX HG37
                clear gb37 gl37 HG37
                obtain ⟨ce37, hcl37, hM37, hcc37, hfr37⟩ := Kd.R_elem HO_15.out z74 ((ji34) : Int) p37 q37
                obtain rfl := k74_openM hM37
                have hx37_0 : wc.cell? ⟨go37, ((ji34) : Int).toNat * 2, none⟩ = some (.int .i64 ((rd_T74 x15_2 (ji34)).f0)) := hcc37 0 _ rfl
                have hx37_1 : wc.cell? ⟨go37, ((ji34) : Int).toNat * 2 + 1, none⟩ = some (.int .i64 ((rd_T74 x15_2 (ji34)).f1)) := hcc37 1 _ rfl
                have hf37_0 : wc.frozen? ⟨go37, ((ji34) : Int).toNat * 2, none⟩ = false := hfr37 0
                have hf37_1 : wc.frozen? ⟨go37, ((ji34) : Int).toNat * 2 + 1, none⟩ = false := hfr37 1
                clear hcl37 hcc37 hfr37 hM37
                replace p37 := eq_true p37
                replace q37 := eq_true q37
                have HX39 := AX (show Kd.R k74 74 wc w.heap.size (fun _ => True) (.slice (some ⟨go37, 0, none⟩) x15_2.length co38) x15_2 from (kr HO_15))
                obtain ⟨ce39, hcl39, hM39, hcc39, hfr39⟩ := Kd.R_elem HX39.out z74 ((ji34) : Int) (of_decide_eq_true (by first | (with_reducible assumption) | assumption)) (by have h_ : ((ji34) : Int) < ((x15_2.length : Int) : Int) := of_decide_eq_true (by first | (with_reducible assumption) | assumption); first | exact h_ | (have e_ := (Kd.R_reads' HO_15.out).1; omega) | simpa using h_)
                obtain rfl := k74_openM hM39
                have HP39 := Kd.R_seg HX39.out ((ji34) : Int) (of_decide_eq_true (by first | (with_reducible assumption) | assumption)) (by have h_ : ((ji34) : Int) < ((x15_2.length : Int) : Int) := of_decide_eq_true (by first | (with_reducible assumption) | assumption); first | exact h_ | (have e_ := (Kd.R_reads' HO_15.out).1; omega) | simpa using h_) (seg := [.int .i64 (wrap64 (x39_2 + 1))]) (j := 1) hcl39 hcc39 (show 2 ≤ 2 from by decide) (x' := (⟨(rd_T74 x15_2 (ji34)).f0, wrap64 (x39_2 + 1)⟩ : S74)) (k74_mkM _ _ _ (⟨(rd_T74 x15_2 (ji34)).f0, wrap64 (x39_2 + 1)⟩ : S74) ) (fun _ hk => hk)
                have hx39_1 := hcc39 1 _ rfl
                (try simp only [show (k74).sz = 2 from rfl, Nat.mul_one, Nat.add_zero] at hx39_1)
                have hf39_1 := hfr39 1
                (try simp only [show (k74).sz = 2 from rfl, Nat.mul_one, Nat.add_zero] at hf39_1)
                clear hcl39 hcc39 hfr39 hM39
                go_wp2_with (first | ((with_reducible refine gate_store (t := 3) (p := 71) rfl ?_); (try (rw [drewN_self wc]; generalize hq_ : World.drewN wc _ = wc; have n0_ := AX (Kd.R_at hq_ HO_13.out); have n1_ := AX (Kd.R_at hq_ HO_15.out); have n2_ := AX (Kd.R_at hq_ HO_16.out); have n3_ := AX (blk_at hq_ BK626.out); have n4_ := AX (blk_at hq_ BK636.out); have n5_ := AX (below_at hq_ HB.out); clear hq_ HO_13 HO_15 HO_16 BK626 BK636 HB; have HO_13 := n0_; have HO_15 := n1_; have HO_16 := n2_; have BK626 := n3_; have BK636 := n4_; have HB := n5_; clear n0_ n1_ n2_ n3_ n4_ n5_; (try (have HX39 := AX (show Kd.R k74 74 wc w.heap.size (fun _ => True) (.slice (some ⟨go37, 0, none⟩) x15_2.length co38) x15_2 from (kr HO_15)))); (try (obtain ⟨ce39, hcl39, hM39, hcc39, hfr39⟩ := Kd.R_elem HX39.out z74 ((ji34) : Int) (of_decide_eq_true (by first | (with_reducible assumption) | assumption)) (by have h_ : ((ji34) : Int) < ((x15_2.length : Int) : Int) := of_decide_eq_true (by first | (with_reducible assumption) | assumption); first | exact h_ | (have e_ := (Kd.R_reads' HO_15.out).1; omega) | simpa using h_))); (try (obtain rfl := k74_openM hM39)); (try (have HP39 := Kd.R_seg HX39.out ((ji34) : Int) (of_decide_eq_true (by first | (with_reducible assumption) | assumption)) (by have h_ : ((ji34) : Int) < ((x15_2.length : Int) : Int) := of_decide_eq_true (by first | (with_reducible assumption) | assumption); first | exact h_ | (have e_ := (Kd.R_reads' HO_15.out).1; omega) | simpa using h_) (seg := [.int .i64 (wrap64 (x39_2 + 1))]) (j := 1) hcl39 hcc39 (show 2 ≤ 2 from by decide) (x' := (⟨(rd_T74 x15_2 (ji34)).f0, wrap64 (x39_2 + 1)⟩ : S74)) (k74_mkM _ _ _ (⟨(rd_T74 x15_2 (ji34)).f0, wrap64 (x39_2 + 1)⟩ : S74) ) (fun _ hk => hk))); (try (have hx39_1 := hcc39 1 _ rfl)); (try (try simp only [show (k74).sz = 2 from rfl, Nat.mul_one, Nat.add_zero] at hx39_1)); (try (have hf39_1 := hfr39 1)); (try (try simp only [show (k74).sz = 2 from rfl, Nat.mul_one, Nat.add_zero] at hf39_1)); (try (clear hcl39 hcc39 hfr39 hM39)))); refine store_event (t := 3) (p := 71) (v := ?vo_w40) (w1 := (wc.setCell ⟨go37, ((ji34) : Int).toNat * 2 + 1, none⟩ (.int .i64 (wrap64 (x39_2 + 1))))) ?hg ?ho ?hn ?hr ?_; (case ho => rfl); (case hg => rfl); (case hn => rfl); (case hr => first | (go_simp; done) | (go_simp; rfl)); intro w40 hw; have hg : wc.grownBy w40 (some go37) := (by rw [hw]; exact HP39.2); have hp_ : Kd.R k74 74 w40 w.heap.size (fun _ => True) (.slice (some ⟨go37, 0, none⟩) x15_2.length co38) y638 := (by rw [hw, Ny638.out]; exact HP39.1); clear HP39; have n0_ := AX (Kd.R_over' (v := (.slice (some ⟨go37, 0, none⟩) x15_2.length co38)) (kr HO_13) (Kd.R_typed HO_15.out) (by decide) hg); have n1_ := AX (hp_); have n2_ := AX (Kd.R_over' (v := (.slice (some ⟨go37, 0, none⟩) x15_2.length co38)) (kr HO_16) (Kd.R_typed HO_15.out) (by decide) hg); have n3_ := AX (blk_grown (g := gb626) (o := .cells #[.int .i64 a0_0, .int .i64 a0_1, .int .i64 a0_2, .int .i64 a0_3, .int .i64 a0_4, .int .i64 a0_5, .int .i64 a0_6, .int .i64 a0_7, .int .i64 a0_8, .int .i64 a0_9] 25 (0, 0)) (bkn BK626) hg (by first | exact Kd.R_ne HO_15.out BK626.out (by decide) | exact fun e_ => (And.left HO_15.out _ e_.symm).2 rfl | exact fun e_ => (And.left HO_15.out _ e_.symm).1.2 rfl | exact fun e_ => (And.left HO_15.out _ e_.symm).2.1 rfl | exact fun e_ => (And.left HO_15.out _ e_.symm).2.2 rfl)); have n4_ := AX (blk_grown (g := gb636) (o := .cells #[.int .i64 t632, .int .i64 t633, .int .i64 t634] 33 (0, 0)) (bkn BK636) hg (by first | exact Kd.R_ne HO_15.out BK636.out (by decide) | exact fun e_ => (And.left HO_15.out _ e_.symm).2 rfl | exact fun e_ => (And.left HO_15.out _ e_.symm).1.2 rfl | exact fun e_ => (And.left HO_15.out _ e_.symm).2.1 rfl | exact fun e_ => (And.left HO_15.out _ e_.symm).2.2 rfl)); have n5_ := AX ((by rw [hw]; exact below_set (HB.out) GB37.out : Below w.heap.size w w40)); clear HO_13; clear HO_15; clear HO_16; clear BK626; clear BK636; clear HB; have HO_13 := n0_; have HO_15 := n1_; have HO_16 := n2_; have BK626 := n3_; have BK636 := n4_; have HB := n5_; clear n0_ n1_ n2_ n3_ n4_ n5_; clear hg hw hp_))
                repeat (go_quiet (first | ((with_reducible refine gate_store (t := 3) (p := 71) rfl ?_); (try (rw [drewN_self wc]; generalize hq_ : World.drewN wc _ = wc; have n0_ := AX (Kd.R_at hq_ HO_13.out); have n1_ := AX (Kd.R_at hq_ HO_15.out); have n2_ := AX (Kd.R_at hq_ HO_16.out); have n3_ := AX (blk_at hq_ BK626.out); have n4_ := AX (blk_at hq_ BK636.out); have n5_ := AX (below_at hq_ HB.out); clear hq_ HO_13 HO_15 HO_16 BK626 BK636 HB; have HO_13 := n0_; have HO_15 := n1_; have HO_16 := n2_; have BK626 := n3_; have BK636 := n4_; have HB := n5_; clear n0_ n1_ n2_ n3_ n4_ n5_; (try (have HX39 := AX (show Kd.R k74 74 wc w.heap.size (fun _ => True) (.slice (some ⟨go37, 0, none⟩) x15_2.length co38) x15_2 from (kr HO_15)))); (try (obtain ⟨ce39, hcl39, hM39, hcc39, hfr39⟩ := Kd.R_elem HX39.out z74 ((ji34) : Int) (of_decide_eq_true (by first | (with_reducible assumption) | assumption)) (by have h_ : ((ji34) : Int) < ((x15_2.length : Int) : Int) := of_decide_eq_true (by first | (with_reducible assumption) | assumption); first | exact h_ | (have e_ := (Kd.R_reads' HO_15.out).1; omega) | simpa using h_))); (try (obtain rfl := k74_openM hM39)); (try (have HP39 := Kd.R_seg HX39.out ((ji34) : Int) (of_decide_eq_true (by first | (with_reducible assumption) | assumption)) (by have h_ : ((ji34) : Int) < ((x15_2.length : Int) : Int) := of_decide_eq_true (by first | (with_reducible assumption) | assumption); first | exact h_ | (have e_ := (Kd.R_reads' HO_15.out).1; omega) | simpa using h_) (seg := [.int .i64 (wrap64 (x39_2 + 1))]) (j := 1) hcl39 hcc39 (show 2 ≤ 2 from by decide) (x' := (⟨(rd_T74 x15_2 (ji34)).f0, wrap64 (x39_2 + 1)⟩ : S74)) (k74_mkM _ _ _ (⟨(rd_T74 x15_2 (ji34)).f0, wrap64 (x39_2 + 1)⟩ : S74) ) (fun _ hk => hk))); (try (have hx39_1 := hcc39 1 _ rfl)); (try (try simp only [show (k74).sz = 2 from rfl, Nat.mul_one, Nat.add_zero] at hx39_1)); (try (have hf39_1 := hfr39 1)); (try (try simp only [show (k74).sz = 2 from rfl, Nat.mul_one, Nat.add_zero] at hf39_1)); (try (clear hcl39 hcc39 hfr39 hM39)))); refine store_event (t := 3) (p := 71) (v := ?vo_w40) (w1 := (wc.setCell ⟨go37, ((ji34) : Int).toNat * 2 + 1, none⟩ (.int .i64 (wrap64 (x39_2 + 1))))) ?hg ?ho ?hn ?hr ?_; (case ho => rfl); (case hg => rfl); (case hn => rfl); (case hr => first | (go_simp; done) | (go_simp; rfl)); intro w40 hw; have hg : wc.grownBy w40 (some go37) := (by rw [hw]; exact HP39.2); have hp_ : Kd.R k74 74 w40 w.heap.size (fun _ => True) (.slice (some ⟨go37, 0, none⟩) x15_2.length co38) y638 := (by rw [hw, Ny638.out]; exact HP39.1); clear HP39; have n0_ := AX (Kd.R_over' (v := (.slice (some ⟨go37, 0, none⟩) x15_2.length co38)) (kr HO_13) (Kd.R_typed HO_15.out) (by decide) hg); have n1_ := AX (hp_); have n2_ := AX (Kd.R_over' (v := (.slice (some ⟨go37, 0, none⟩) x15_2.length co38)) (kr HO_16) (Kd.R_typed HO_15.out) (by decide) hg); have n3_ := AX (blk_grown (g := gb626) (o := .cells #[.int .i64 a0_0, .int .i64 a0_1, .int .i64 a0_2, .int .i64 a0_3, .int .i64 a0_4, .int .i64 a0_5, .int .i64 a0_6, .int .i64 a0_7, .int .i64 a0_8, .int .i64 a0_9] 25 (0, 0)) (bkn BK626) hg (by first | exact Kd.R_ne HO_15.out BK626.out (by decide) | exact fun e_ => (And.left HO_15.out _ e_.symm).2 rfl | exact fun e_ => (And.left HO_15.out _ e_.symm).1.2 rfl | exact fun e_ => (And.left HO_15.out _ e_.symm).2.1 rfl | exact fun e_ => (And.left HO_15.out _ e_.symm).2.2 rfl)); have n4_ := AX (blk_grown (g := gb636) (o := .cells #[.int .i64 t632, .int .i64 t633, .int .i64 t634] 33 (0, 0)) (bkn BK636) hg (by first | exact Kd.R_ne HO_15.out BK636.out (by decide) | exact fun e_ => (And.left HO_15.out _ e_.symm).2 rfl | exact fun e_ => (And.left HO_15.out _ e_.symm).1.2 rfl | exact fun e_ => (And.left HO_15.out _ e_.symm).2.1 rfl | exact fun e_ => (And.left HO_15.out _ e_.symm).2.2 rfl)); have n5_ := AX ((by rw [hw]; exact below_set (HB.out) GB37.out : Below w.heap.size w w40)); clear HO_13; clear HO_15; clear HO_16; clear BK626; clear BK636; clear HB; have HO_13 := n0_; have HO_15 := n1_; have HO_16 := n2_; have BK626 := n3_; have BK636 := n4_; have HB := n5_; clear n0_ n1_ n2_ n3_ n4_ n5_; clear hg hw hp_)); try go_wp2_with (first | ((with_reducible refine gate_store (t := 3) (p := 71) rfl ?_); (try (rw [drewN_self wc]; generalize hq_ : World.drewN wc _ = wc; have n0_ := AX (Kd.R_at hq_ HO_13.out); have n1_ := AX (Kd.R_at hq_ HO_15.out); have n2_ := AX (Kd.R_at hq_ HO_16.out); have n3_ := AX (blk_at hq_ BK626.out); have n4_ := AX (blk_at hq_ BK636.out); have n5_ := AX (below_at hq_ HB.out); clear hq_ HO_13 HO_15 HO_16 BK626 BK636 HB; have HO_13 := n0_; have HO_15 := n1_; have HO_16 := n2_; have BK626 := n3_; have BK636 := n4_; have HB := n5_; clear n0_ n1_ n2_ n3_ n4_ n5_; (try (have HX39 := AX (show Kd.R k74 74 wc w.heap.size (fun _ => True) (.slice (some ⟨go37, 0, none⟩) x15_2.length co38) x15_2 from (kr HO_15)))); (try (obtain ⟨ce39, hcl39, hM39, hcc39, hfr39⟩ := Kd.R_elem HX39.out z74 ((ji34) : Int) (of_decide_eq_true (by first | (with_reducible assumption) | assumption)) (by have h_ : ((ji34) : Int) < ((x15_2.length : Int) : Int) := of_decide_eq_true (by first | (with_reducible assumption) | assumption); first | exact h_ | (have e_ := (Kd.R_reads' HO_15.out).1; omega) | simpa using h_))); (try (obtain rfl := k74_openM hM39)); (try (have HP39 := Kd.R_seg HX39.out ((ji34) : Int) (of_decide_eq_true (by first | (with_reducible assumption) | assumption)) (by have h_ : ((ji34) : Int) < ((x15_2.length : Int) : Int) := of_decide_eq_true (by first | (with_reducible assumption) | assumption); first | exact h_ | (have e_ := (Kd.R_reads' HO_15.out).1; omega) | simpa using h_) (seg := [.int .i64 (wrap64 (x39_2 + 1))]) (j := 1) hcl39 hcc39 (show 2 ≤ 2 from by decide) (x' := (⟨(rd_T74 x15_2 (ji34)).f0, wrap64 (x39_2 + 1)⟩ : S74)) (k74_mkM _ _ _ (⟨(rd_T74 x15_2 (ji34)).f0, wrap64 (x39_2 + 1)⟩ : S74) ) (fun _ hk => hk))); (try (have hx39_1 := hcc39 1 _ rfl)); (try (try simp only [show (k74).sz = 2 from rfl, Nat.mul_one, Nat.add_zero] at hx39_1)); (try (have hf39_1 := hfr39 1)); (try (try simp only [show (k74).sz = 2 from rfl, Nat.mul_one, Nat.add_zero] at hf39_1)); (try (clear hcl39 hcc39 hfr39 hM39)))); refine store_event (t := 3) (p := 71) (v := ?vo_w40) (w1 := (wc.setCell ⟨go37, ((ji34) : Int).toNat * 2 + 1, none⟩ (.int .i64 (wrap64 (x39_2 + 1))))) ?hg ?ho ?hn ?hr ?_; (case ho => rfl); (case hg => rfl); (case hn => rfl); (case hr => first | (go_simp; done) | (go_simp; rfl)); intro w40 hw; have hg : wc.grownBy w40 (some go37) := (by rw [hw]; exact HP39.2); have hp_ : Kd.R k74 74 w40 w.heap.size (fun _ => True) (.slice (some ⟨go37, 0, none⟩) x15_2.length co38) y638 := (by rw [hw, Ny638.out]; exact HP39.1); clear HP39; have n0_ := AX (Kd.R_over' (v := (.slice (some ⟨go37, 0, none⟩) x15_2.length co38)) (kr HO_13) (Kd.R_typed HO_15.out) (by decide) hg); have n1_ := AX (hp_); have n2_ := AX (Kd.R_over' (v := (.slice (some ⟨go37, 0, none⟩) x15_2.length co38)) (kr HO_16) (Kd.R_typed HO_15.out) (by decide) hg); have n3_ := AX (blk_grown (g := gb626) (o := .cells #[.int .i64 a0_0, .int .i64 a0_1, .int .i64 a0_2, .int .i64 a0_3, .int .i64 a0_4, .int .i64 a0_5, .int .i64 a0_6, .int .i64 a0_7, .int .i64 a0_8, .int .i64 a0_9] 25 (0, 0)) (bkn BK626) hg (by first | exact Kd.R_ne HO_15.out BK626.out (by decide) | exact fun e_ => (And.left HO_15.out _ e_.symm).2 rfl | exact fun e_ => (And.left HO_15.out _ e_.symm).1.2 rfl | exact fun e_ => (And.left HO_15.out _ e_.symm).2.1 rfl | exact fun e_ => (And.left HO_15.out _ e_.symm).2.2 rfl)); have n4_ := AX (blk_grown (g := gb636) (o := .cells #[.int .i64 t632, .int .i64 t633, .int .i64 t634] 33 (0, 0)) (bkn BK636) hg (by first | exact Kd.R_ne HO_15.out BK636.out (by decide) | exact fun e_ => (And.left HO_15.out _ e_.symm).2 rfl | exact fun e_ => (And.left HO_15.out _ e_.symm).1.2 rfl | exact fun e_ => (And.left HO_15.out _ e_.symm).2.1 rfl | exact fun e_ => (And.left HO_15.out _ e_.symm).2.2 rfl)); have n5_ := AX ((by rw [hw]; exact below_set (HB.out) GB37.out : Below w.heap.size w w40)); clear HO_13; clear HO_15; clear HO_16; clear BK626; clear BK636; clear HB; have HO_13 := n0_; have HO_15 := n1_; have HO_16 := n2_; have BK626 := n3_; have BK636 := n4_; have HB := n5_; clear n0_ n1_ n2_ n3_ n4_ n5_; clear hg hw hp_)))
                go_meet
                case rel => exact ⟨_, (y638), (x16_2), H', ⟨by have := HJ5.out; have := HK2.out; have := HJ19.out; first | omega | exact Nat.le_refl _⟩, ⟨by (with_reducible repeat (first | apply Kd.R_alloc | apply Kd.R_drewN | apply Kd.R_drew)); exact Kd.R_mono HO_13.out (fun _ hk => hk.1)⟩, ⟨kr HO_15⟩, ⟨by (with_reducible repeat (first | apply Kd.R_alloc | apply Kd.R_drewN | apply Kd.R_drew)); exact Kd.R_mono HO_16.out (fun _ hk => hk.1)⟩, ⟨bkn BK626⟩, ⟨bw⟩⟩
               ·rw [if_neg c36] at H
                exact absurd H (by simp)
              ·rw [if_neg c35] at H
               exact absurd H (by simp)
             ·replace c33 := Bool.eq_false_iff.mpr c33
              subst c33
              have H1 : (if x15_2.length < 8796093022208 then (if x16_2.length < 5864062014805 then (pylonref13_Spans.j3 kj19 a1 t627 (x15_2 ++ [(⟨x39_2, wrap64 (x39_2 + 1)⟩ : S74)]) (x16_2 ++ [(⟨t632, t633, t634⟩ : S33)]) (t627.length : Int) x39_2) else (none)) else (none)) = some (r1, r2, r3) := by rw [if_neg (show ¬ (false = true) by decide)] at H; exact H
              clear H
              have H := H1
              clear H1
              by_cases c41 : x15_2.length < 8796093022208
              ·rw [if_pos c41] at H
               have LMc41 := AX c41
               clear c41
               obtain ⟨y639, hy639⟩ : ∃ y_ : List (S74), y_ = (x15_2 ++ [(⟨x39_2, wrap64 (x39_2 + 1)⟩ : S74)]) := ⟨_, rfl⟩
               replace H : (if x16_2.length < 5864062014805 then (pylonref13_Spans.j3 kj19 a1 t627 y639 (x16_2 ++ [(⟨t632, t633, t634⟩ : S33)]) (t627.length : Int) x39_2) else (none)) = some (r1, r2, r3) := by first | (rw [hy639]; with_reducible exact H) | (have H2_ := (Option.bind_some _ _).symm.trans H; rw [hy639]; with_reducible exact H2_) | (have H2_ := (Option.bind_some _ _).symm.trans H; with_reducible exact H2_) | with_reducible exact H | (rw [hy639]; exact H) | exact H
               have Ny639 := AX hy639
               clear hy639
               by_cases c42 : x16_2.length < 5864062014805
               ·rw [if_pos c42] at H
                have LMc42 := AX c42
                clear c42
                obtain ⟨y642, hy642⟩ : ∃ y_ : List (S33), y_ = (x16_2 ++ [(⟨t632, t633, t634⟩ : S33)]) := ⟨_, rfl⟩
                replace H : (pylonref13_Spans.j3 kj19 a1 t627 y639 y642 (t627.length : Int) x39_2) = some (r1, r2, r3) := by first | (rw [hy642]; with_reducible exact H) | (have H2_ := (Option.bind_some _ _).symm.trans H; rw [hy642]; with_reducible exact H2_) | (have H2_ := (Option.bind_some _ _).symm.trans H; with_reducible exact H2_) | with_reducible exact H | (rw [hy642]; exact H) | exact H
                have Ny642 := AX hy642
                clear hy642
                have H' := AX H
                clear H
                go_wp2_with (first | ((with_reducible refine gate_builtin (b := .append) (xs := #[.tmp 72, .tmp 77]) rfl ?_); (try (refine gate_guard (by rfl) ?_; dsimp only)); at_builtin; refine Kd.R_append k74 (w0 := w) w.heap.size rfl (.tmp 72) (.tmp 77) 68 74 (.agg #[(.int .i64 0), (.int .i64 0)]) 16 rfl Try.underlying68 info74 rfl (by decide) (by omega) u15 x15_2 (⟨x39_2, wrap64 (x39_2 + 1)⟩ : S74) [.int .i64 x39_2, .int .i64 (wrap64 (x39_2 + 1))] (fun _ => True) (fun _ => False) rfl rfl ?aP (fun _ hk => hk.elim) ?aF ?aO ?aB ?aS ?aL ?_; (case aP => exact k74_mkM _ _ _ (⟨x39_2, wrap64 (x39_2 + 1)⟩ : S74)); (case aB => exact bw); (case aF => exact (fun _ _ => trivial)); (case aO => exact (kr HO_15)); (case aS => exact (below_size bw)); (case aL => have := LMc41.out; omega); intro v640 w43 ho hb hg hat; rw [← Ny639.out] at ho; have n0_ := AX (Kd.R_over' (kr HO_13) (Kd.R_typed (kr HO_15)) (by decide) hg); have n1_ := AX (Kd.R_over' (kr HO_16) (Kd.R_typed (kr HO_15)) (by decide) hg); have n2_ := AX (blk_grown (g := gb626) (o := .cells #[.int .i64 a0_0, .int .i64 a0_1, .int .i64 a0_2, .int .i64 a0_3, .int .i64 a0_4, .int .i64 a0_5, .int .i64 a0_6, .int .i64 a0_7, .int .i64 a0_8, .int .i64 a0_9] 25 (0, 0)) (bkn BK626) hg (by first | exact Kd.R_ne HO_15.out BK626.out (by decide) | exact fun e_ => (And.left HO_15.out _ e_.symm).2 rfl | exact fun e_ => (And.left HO_15.out _ e_.symm).1.2 rfl | exact fun e_ => (And.left HO_15.out _ e_.symm).2.1 rfl | exact fun e_ => (And.left HO_15.out _ e_.symm).2.2 rfl)); have n3_ := AX (blk_grown (g := gb636) (o := .cells #[.int .i64 t632, .int .i64 t633, .int .i64 t634] 33 (0, 0)) (bkn BK636) hg (by first | exact Kd.R_ne HO_15.out BK636.out (by decide) | exact fun e_ => (And.left HO_15.out _ e_.symm).2 rfl | exact fun e_ => (And.left HO_15.out _ e_.symm).1.2 rfl | exact fun e_ => (And.left HO_15.out _ e_.symm).2.1 rfl | exact fun e_ => (And.left HO_15.out _ e_.symm).2.2 rfl)); have n4_ := AX (hb); have n5_ := AX (ho); clear HO_13; clear HO_16; clear BK626; clear BK636; clear HB; clear HO_15; have HO_13 := n0_; have HO_16 := n1_; have BK626 := n2_; have BK636 := n3_; have HB := n4_; have HO641 := n5_; clear n0_ n1_ n2_ n3_ n4_ n5_; clear ho hb hg hat; have hnb44 := NB636_626.out; have hnc44 := NB626_636.out; obtain ⟨hcz45_0, hcz45_1, hcz45_2⟩ := blkC3 (w := w43) BK636.out; obtain ⟨hfz45_0, hfz45_1, hfz45_2⟩ := blkF3 BK636.out) | ((with_reducible refine gate_builtin (b := .append) (xs := #[.tmp 79, .tmp 81]) rfl ?_); (try (refine gate_guard (by rfl) ?_; dsimp only)); at_builtin; refine Kd.R_append k33 (w0 := w) w.heap.size rfl (.tmp 79) (.tmp 81) 63 33 (.agg #[(.int .i64 0), (.int .i64 0), (.int .i64 0)]) 24 rfl Try.underlying63 info33 rfl (by decide) (by omega) u16 x16_2 (⟨t632, t633, t634⟩ : S33) [.int .i64 t632, .int .i64 t633, .int .i64 t634] (fun k_ => some k_ ≠ (.slice (some ad631) t627.length co14 : Value).ownBlock ∧ k_ ≠ gb636) (fun _ => False) rfl rfl ?aP (fun _ hk => hk.elim) ?aF ?aO ?aB ?aS ?aL ?_; (case aP => exact k33_mkM _ _ _ (⟨t632, t633, t634⟩ : S33)); (case aB => exact bw); (case aF => exact (fun k_ hk => ⟨Kd.fresh' (Kd.R_lt (kr HO_13)) k_ hk, Kd.freshB (g := gb636) (o := .cells #[.int .i64 t632, .int .i64 t633, .int .i64 t634] 33 (0, 0)) (bkn BK636) k_ hk⟩)); (case aO => exact (kr HO_16)); (case aS => exact (below_size bw)); (case aL => have := LMc42.out; omega); intro v643 w46 ho hb hg hat; rw [← Ny642.out] at ho; have n0_ := AX (Kd.R_after (ok := (fun k_ => k_ ≠ gb636)) (by (with_reducible repeat (first | apply Kd.R_alloc | apply Kd.R_drewN | apply Kd.R_drew)); exact Kd.R_mono HO_13.out (fun _ hk => ⟨hk.2, hk.1⟩)) hg hat); have n1_ := AX (blk_grown (g := gb626) (o := .cells #[.int .i64 a0_0, .int .i64 a0_1, .int .i64 a0_2, .int .i64 a0_3, .int .i64 a0_4, .int .i64 a0_5, .int .i64 a0_6, .int .i64 a0_7, .int .i64 a0_8, .int .i64 a0_9] 25 (0, 0)) (bkn BK626) hg (by first | exact Kd.R_ne HO_16.out BK626.out (by decide) | exact fun e_ => (And.left HO_16.out _ e_.symm).2 rfl | exact fun e_ => (And.left HO_16.out _ e_.symm).1.2 rfl | exact fun e_ => (And.left HO_16.out _ e_.symm).2.1 rfl | exact fun e_ => (And.left HO_16.out _ e_.symm).2.2 rfl)); have n2_ := AX (blk_grown (g := gb636) (o := .cells #[.int .i64 t632, .int .i64 t633, .int .i64 t634] 33 (0, 0)) (bkn BK636) hg (Kd.R_away HO_16.out (fun _ hk => hk.2))); have n3_ := AX (Kd.R_over' (kr HO641) (Kd.R_typed (kr HO_16)) (by decide) hg); have n4_ := AX (hb); have n5_ := AX (ho); clear HO_13; clear BK626; clear BK636; clear HO641; clear HB; clear HO_16; have HO_13 := n0_; have BK626 := n1_; have BK636 := n2_; have HO641 := n3_; have HB := n4_; have HO644 := n5_; clear n0_ n1_ n2_ n3_ n4_ n5_; clear ho hb hg hat))
                repeat (go_quiet (first | ((with_reducible refine gate_builtin (b := .append) (xs := #[.tmp 72, .tmp 77]) rfl ?_); (try (refine gate_guard (by rfl) ?_; dsimp only)); at_builtin; refine Kd.R_append k74 (w0 := w) w.heap.size rfl (.tmp 72) (.tmp 77) 68 74 (.agg #[(.int .i64 0), (.int .i64 0)]) 16 rfl Try.underlying68 info74 rfl (by decide) (by omega) u15 x15_2 (⟨x39_2, wrap64 (x39_2 + 1)⟩ : S74) [.int .i64 x39_2, .int .i64 (wrap64 (x39_2 + 1))] (fun _ => True) (fun _ => False) rfl rfl ?aP (fun _ hk => hk.elim) ?aF ?aO ?aB ?aS ?aL ?_; (case aP => exact k74_mkM _ _ _ (⟨x39_2, wrap64 (x39_2 + 1)⟩ : S74)); (case aB => exact bw); (case aF => exact (fun _ _ => trivial)); (case aO => exact (kr HO_15)); (case aS => exact (below_size bw)); (case aL => have := LMc41.out; omega); intro v640 w43 ho hb hg hat; rw [← Ny639.out] at ho; have n0_ := AX (Kd.R_over' (kr HO_13) (Kd.R_typed (kr HO_15)) (by decide) hg); have n1_ := AX (Kd.R_over' (kr HO_16) (Kd.R_typed (kr HO_15)) (by decide) hg); have n2_ := AX (blk_grown (g := gb626) (o := .cells #[.int .i64 a0_0, .int .i64 a0_1, .int .i64 a0_2, .int .i64 a0_3, .int .i64 a0_4, .int .i64 a0_5, .int .i64 a0_6, .int .i64 a0_7, .int .i64 a0_8, .int .i64 a0_9] 25 (0, 0)) (bkn BK626) hg (by first | exact Kd.R_ne HO_15.out BK626.out (by decide) | exact fun e_ => (And.left HO_15.out _ e_.symm).2 rfl | exact fun e_ => (And.left HO_15.out _ e_.symm).1.2 rfl | exact fun e_ => (And.left HO_15.out _ e_.symm).2.1 rfl | exact fun e_ => (And.left HO_15.out _ e_.symm).2.2 rfl)); have n3_ := AX (blk_grown (g := gb636) (o := .cells #[.int .i64 t632, .int .i64 t633, .int .i64 t634] 33 (0, 0)) (bkn BK636) hg (by first | exact Kd.R_ne HO_15.out BK636.out (by decide) | exact fun e_ => (And.left HO_15.out _ e_.symm).2 rfl | exact fun e_ => (And.left HO_15.out _ e_.symm).1.2 rfl | exact fun e_ => (And.left HO_15.out _ e_.symm).2.1 rfl | exact fun e_ => (And.left HO_15.out _ e_.symm).2.2 rfl)); have n4_ := AX (hb); have n5_ := AX (ho); clear HO_13; clear HO_16; clear BK626; clear BK636; clear HB; clear HO_15; have HO_13 := n0_; have HO_16 := n1_; have BK626 := n2_; have BK636 := n3_; have HB := n4_; have HO641 := n5_; clear n0_ n1_ n2_ n3_ n4_ n5_; clear ho hb hg hat; have hnb44 := NB636_626.out; have hnc44 := NB626_636.out; obtain ⟨hcz45_0, hcz45_1, hcz45_2⟩ := blkC3 (w := w43) BK636.out; obtain ⟨hfz45_0, hfz45_1, hfz45_2⟩ := blkF3 BK636.out) | ((with_reducible refine gate_builtin (b := .append) (xs := #[.tmp 79, .tmp 81]) rfl ?_); (try (refine gate_guard (by rfl) ?_; dsimp only)); at_builtin; refine Kd.R_append k33 (w0 := w) w.heap.size rfl (.tmp 79) (.tmp 81) 63 33 (.agg #[(.int .i64 0), (.int .i64 0), (.int .i64 0)]) 24 rfl Try.underlying63 info33 rfl (by decide) (by omega) u16 x16_2 (⟨t632, t633, t634⟩ : S33) [.int .i64 t632, .int .i64 t633, .int .i64 t634] (fun k_ => some k_ ≠ (.slice (some ad631) t627.length co14 : Value).ownBlock ∧ k_ ≠ gb636) (fun _ => False) rfl rfl ?aP (fun _ hk => hk.elim) ?aF ?aO ?aB ?aS ?aL ?_; (case aP => exact k33_mkM _ _ _ (⟨t632, t633, t634⟩ : S33)); (case aB => exact bw); (case aF => exact (fun k_ hk => ⟨Kd.fresh' (Kd.R_lt (kr HO_13)) k_ hk, Kd.freshB (g := gb636) (o := .cells #[.int .i64 t632, .int .i64 t633, .int .i64 t634] 33 (0, 0)) (bkn BK636) k_ hk⟩)); (case aO => exact (kr HO_16)); (case aS => exact (below_size bw)); (case aL => have := LMc42.out; omega); intro v643 w46 ho hb hg hat; rw [← Ny642.out] at ho; have n0_ := AX (Kd.R_after (ok := (fun k_ => k_ ≠ gb636)) (by (with_reducible repeat (first | apply Kd.R_alloc | apply Kd.R_drewN | apply Kd.R_drew)); exact Kd.R_mono HO_13.out (fun _ hk => ⟨hk.2, hk.1⟩)) hg hat); have n1_ := AX (blk_grown (g := gb626) (o := .cells #[.int .i64 a0_0, .int .i64 a0_1, .int .i64 a0_2, .int .i64 a0_3, .int .i64 a0_4, .int .i64 a0_5, .int .i64 a0_6, .int .i64 a0_7, .int .i64 a0_8, .int .i64 a0_9] 25 (0, 0)) (bkn BK626) hg (by first | exact Kd.R_ne HO_16.out BK626.out (by decide) | exact fun e_ => (And.left HO_16.out _ e_.symm).2 rfl | exact fun e_ => (And.left HO_16.out _ e_.symm).1.2 rfl | exact fun e_ => (And.left HO_16.out _ e_.symm).2.1 rfl | exact fun e_ => (And.left HO_16.out _ e_.symm).2.2 rfl)); have n2_ := AX (blk_grown (g := gb636) (o := .cells #[.int .i64 t632, .int .i64 t633, .int .i64 t634] 33 (0, 0)) (bkn BK636) hg (Kd.R_away HO_16.out (fun _ hk => hk.2))); have n3_ := AX (Kd.R_over' (kr HO641) (Kd.R_typed (kr HO_16)) (by decide) hg); have n4_ := AX (hb); have n5_ := AX (ho); clear HO_13; clear BK626; clear BK636; clear HO641; clear HB; clear HO_16; have HO_13 := n0_; have BK626 := n1_; have BK636 := n2_; have HO641 := n3_; have HB := n4_; have HO644 := n5_; clear n0_ n1_ n2_ n3_ n4_ n5_; clear ho hb hg hat)); try go_wp2_with (first | ((with_reducible refine gate_builtin (b := .append) (xs := #[.tmp 72, .tmp 77]) rfl ?_); (try (refine gate_guard (by rfl) ?_; dsimp only)); at_builtin; refine Kd.R_append k74 (w0 := w) w.heap.size rfl (.tmp 72) (.tmp 77) 68 74 (.agg #[(.int .i64 0), (.int .i64 0)]) 16 rfl Try.underlying68 info74 rfl (by decide) (by omega) u15 x15_2 (⟨x39_2, wrap64 (x39_2 + 1)⟩ : S74) [.int .i64 x39_2, .int .i64 (wrap64 (x39_2 + 1))] (fun _ => True) (fun _ => False) rfl rfl ?aP (fun _ hk => hk.elim) ?aF ?aO ?aB ?aS ?aL ?_; (case aP => exact k74_mkM _ _ _ (⟨x39_2, wrap64 (x39_2 + 1)⟩ : S74)); (case aB => exact bw); (case aF => exact (fun _ _ => trivial)); (case aO => exact (kr HO_15)); (case aS => exact (below_size bw)); (case aL => have := LMc41.out; omega); intro v640 w43 ho hb hg hat; rw [← Ny639.out] at ho; have n0_ := AX (Kd.R_over' (kr HO_13) (Kd.R_typed (kr HO_15)) (by decide) hg); have n1_ := AX (Kd.R_over' (kr HO_16) (Kd.R_typed (kr HO_15)) (by decide) hg); have n2_ := AX (blk_grown (g := gb626) (o := .cells #[.int .i64 a0_0, .int .i64 a0_1, .int .i64 a0_2, .int .i64 a0_3, .int .i64 a0_4, .int .i64 a0_5, .int .i64 a0_6, .int .i64 a0_7, .int .i64 a0_8, .int .i64 a0_9] 25 (0, 0)) (bkn BK626) hg (by first | exact Kd.R_ne HO_15.out BK626.out (by decide) | exact fun e_ => (And.left HO_15.out _ e_.symm).2 rfl | exact fun e_ => (And.left HO_15.out _ e_.symm).1.2 rfl | exact fun e_ => (And.left HO_15.out _ e_.symm).2.1 rfl | exact fun e_ => (And.left HO_15.out _ e_.symm).2.2 rfl)); have n3_ := AX (blk_grown (g := gb636) (o := .cells #[.int .i64 t632, .int .i64 t633, .int .i64 t634] 33 (0, 0)) (bkn BK636) hg (by first | exact Kd.R_ne HO_15.out BK636.out (by decide) | exact fun e_ => (And.left HO_15.out _ e_.symm).2 rfl | exact fun e_ => (And.left HO_15.out _ e_.symm).1.2 rfl | exact fun e_ => (And.left HO_15.out _ e_.symm).2.1 rfl | exact fun e_ => (And.left HO_15.out _ e_.symm).2.2 rfl)); have n4_ := AX (hb); have n5_ := AX (ho); clear HO_13; clear HO_16; clear BK626; clear BK636; clear HB; clear HO_15; have HO_13 := n0_; have HO_16 := n1_; have BK626 := n2_; have BK636 := n3_; have HB := n4_; have HO641 := n5_; clear n0_ n1_ n2_ n3_ n4_ n5_; clear ho hb hg hat; have hnb44 := NB636_626.out; have hnc44 := NB626_636.out; obtain ⟨hcz45_0, hcz45_1, hcz45_2⟩ := blkC3 (w := w43) BK636.out; obtain ⟨hfz45_0, hfz45_1, hfz45_2⟩ := blkF3 BK636.out) | ((with_reducible refine gate_builtin (b := .append) (xs := #[.tmp 79, .tmp 81]) rfl ?_); (try (refine gate_guard (by rfl) ?_; dsimp only)); at_builtin; refine Kd.R_append k33 (w0 := w) w.heap.size rfl (.tmp 79) (.tmp 81) 63 33 (.agg #[(.int .i64 0), (.int .i64 0), (.int .i64 0)]) 24 rfl Try.underlying63 info33 rfl (by decide) (by omega) u16 x16_2 (⟨t632, t633, t634⟩ : S33) [.int .i64 t632, .int .i64 t633, .int .i64 t634] (fun k_ => some k_ ≠ (.slice (some ad631) t627.length co14 : Value).ownBlock ∧ k_ ≠ gb636) (fun _ => False) rfl rfl ?aP (fun _ hk => hk.elim) ?aF ?aO ?aB ?aS ?aL ?_; (case aP => exact k33_mkM _ _ _ (⟨t632, t633, t634⟩ : S33)); (case aB => exact bw); (case aF => exact (fun k_ hk => ⟨Kd.fresh' (Kd.R_lt (kr HO_13)) k_ hk, Kd.freshB (g := gb636) (o := .cells #[.int .i64 t632, .int .i64 t633, .int .i64 t634] 33 (0, 0)) (bkn BK636) k_ hk⟩)); (case aO => exact (kr HO_16)); (case aS => exact (below_size bw)); (case aL => have := LMc42.out; omega); intro v643 w46 ho hb hg hat; rw [← Ny642.out] at ho; have n0_ := AX (Kd.R_after (ok := (fun k_ => k_ ≠ gb636)) (by (with_reducible repeat (first | apply Kd.R_alloc | apply Kd.R_drewN | apply Kd.R_drew)); exact Kd.R_mono HO_13.out (fun _ hk => ⟨hk.2, hk.1⟩)) hg hat); have n1_ := AX (blk_grown (g := gb626) (o := .cells #[.int .i64 a0_0, .int .i64 a0_1, .int .i64 a0_2, .int .i64 a0_3, .int .i64 a0_4, .int .i64 a0_5, .int .i64 a0_6, .int .i64 a0_7, .int .i64 a0_8, .int .i64 a0_9] 25 (0, 0)) (bkn BK626) hg (by first | exact Kd.R_ne HO_16.out BK626.out (by decide) | exact fun e_ => (And.left HO_16.out _ e_.symm).2 rfl | exact fun e_ => (And.left HO_16.out _ e_.symm).1.2 rfl | exact fun e_ => (And.left HO_16.out _ e_.symm).2.1 rfl | exact fun e_ => (And.left HO_16.out _ e_.symm).2.2 rfl)); have n2_ := AX (blk_grown (g := gb636) (o := .cells #[.int .i64 t632, .int .i64 t633, .int .i64 t634] 33 (0, 0)) (bkn BK636) hg (Kd.R_away HO_16.out (fun _ hk => hk.2))); have n3_ := AX (Kd.R_over' (kr HO641) (Kd.R_typed (kr HO_16)) (by decide) hg); have n4_ := AX (hb); have n5_ := AX (ho); clear HO_13; clear BK626; clear BK636; clear HO641; clear HB; clear HO_16; have HO_13 := n0_; have BK626 := n1_; have BK636 := n2_; have HO641 := n3_; have HB := n4_; have HO644 := n5_; clear n0_ n1_ n2_ n3_ n4_ n5_; clear ho hb hg hat)))
                go_meet
                case rel => exact ⟨_, (y639), (y642), H', ⟨by have := HJ5.out; have := HK2.out; have := HJ19.out; first | omega | exact Nat.le_refl _⟩, ⟨by (with_reducible repeat (first | apply Kd.R_alloc | apply Kd.R_drewN | apply Kd.R_drew)); exact Kd.R_mono HO_13.out (fun _ hk => hk.2)⟩, ⟨kr HO641⟩, ⟨by (with_reducible repeat (first | apply Kd.R_alloc | apply Kd.R_drewN | apply Kd.R_drew)); exact Kd.R_mono HO644.out (fun _ hk => hk.1)⟩, ⟨bkn BK626⟩, ⟨bw⟩⟩
               ·rw [if_neg c42] at H
                exact absurd H (by simp)
              ·rw [if_neg c41] at H
               exact absurd H (by simp)
          ·rw [if_neg c18] at H
           exact absurd H (by simp)
         ·rw [if_neg c17] at H
          exact absurd H (by simp)
        case rest =>
         clear HC16
         try clear c9
         try clear c11
         try clear c11b0
         try clear c11b1
         try clear c15
         try clear c15b0
         try clear hcz12_0 hcz12_1 hcz12_2 hcz12_3 hcz12_4 hcz12_5 hcz12_6 hcz12_7 hcz12_8 hcz12_9
         try clear hfz12_0 hfz12_1 hfz12_2 hfz12_3 hfz12_4 hfz12_5 hfz12_6 hfz12_7 hfz12_8 hfz12_9
         obtain ⟨kq, x15_15, x16_15, HA, HJ15, HO_13, HO_15, HO_16, BK626, HB⟩ := hcut
         cases kq with
         | zero => exact absurd HA.out (by simp [pylonref13_Spans.j3])
         | succ kj15 =>
          have H := HA.out
          clear HA
          simp only [pylonref13_Spans.j3] at H
          have H' := AX H
          clear H
          go_wp2
          repeat (go_quiet (fail); try go_wp2)
          go_roundg kj15
          case measure => have := HJ5.out; have := HK2.out; have := HJ15.out; omega
          case rel => exact ⟨(x15_15), (x16_15), (wrap64 (x39_2 + 1)), (by first | rfl | (simp; done) | (simp [*]; done)), H', ⟨by have := HJ5.out; have := HK2.out; have := HJ15.out; omega⟩, ⟨kr HO_13⟩, ⟨kr HO_15⟩, ⟨kr HO_16⟩, ⟨bkn BK626⟩, ⟨bw⟩⟩
       ·rw [if_neg c15] at H
        have c15b0 : decide (x39_2 < (t627.length : Int)) = false := decide_eq_false c15
        clear c15
        simp only [Option.some.injEq, Prod.mk.injEq] at H
        obtain ⟨rfl, rfl, rfl⟩ := H
        go_wp2
        repeat (go_quiet (fail); try go_wp2)
        go_ret3
        exact ⟨_, _, by first | rfl | (simp [errW_none, errW_some] <;> rfl) | (simp [*, errW_none, errW_some] <;> rfl), kr HO_15, by (with_reducible repeat (first | apply Kd.R_alloc | apply Kd.R_drewN | apply Kd.R_drew)); exact Kd.R_mono HO_16.out (fun _ hk => trivial), bw⟩
    ·rw [if_neg c11] at H
     have c11b0 : (t630 == 0) = false := beq_eq_false_iff_ne.mpr c11
     have c11b1 : (t630 != 0) = true := bne_iff_ne.mpr c11
     simp only [Option.some.injEq, Prod.mk.injEq] at H
     obtain ⟨rfl, rfl, rfl⟩ := H
     obtain ⟨hcz47_0, hcz47_1, hcz47_2, hcz47_3, hcz47_4, hcz47_5, hcz47_6, hcz47_7, hcz47_8, hcz47_9⟩ := blkC10 (w := wc) BK626.out
     obtain ⟨hfz47_0, hfz47_1, hfz47_2, hfz47_3, hfz47_4, hfz47_5, hfz47_6, hfz47_7, hfz47_8, hfz47_9⟩ := blkF10 BK626.out
     go_wp2_with (first | (go_at_call 31; (with_reducible refine (pylonref13_Dates.calls kj5 a0_0 a0_1 a0_2 a0_3 a0_4 a0_5 a0_6 a0_7 a0_8 a0_9 a2 a3 a4 t627 t630 _ A10.out).mono ?_); rintro e w48 ⟨v628, rfl, ho0, hb⟩; have n0_ := AX (Kd.R_lower ho0 (below_size bw)); have n1_ := AX (bkb BK626 hb); have n2_ := AX (below_step bw hb); clear BK626; clear HB; have HO629 := n0_; have BK626 := n1_; have HB := n2_; clear n0_ n1_ n2_; (try clear hb); (try clear hb2); (try clear hk); (try clear hi); (try clear ho0)))
     repeat (go_quiet (first | (go_at_call 31; (with_reducible refine (pylonref13_Dates.calls kj5 a0_0 a0_1 a0_2 a0_3 a0_4 a0_5 a0_6 a0_7 a0_8 a0_9 a2 a3 a4 t627 t630 _ A10.out).mono ?_); rintro e w48 ⟨v628, rfl, ho0, hb⟩; have n0_ := AX (Kd.R_lower ho0 (below_size bw)); have n1_ := AX (bkb BK626 hb); have n2_ := AX (below_step bw hb); clear BK626; clear HB; have HO629 := n0_; have BK626 := n1_; have HB := n2_; clear n0_ n1_ n2_; (try clear hb); (try clear hb2); (try clear hk); (try clear hi); (try clear ho0))); try go_wp2_with (first | (go_at_call 31; (with_reducible refine (pylonref13_Dates.calls kj5 a0_0 a0_1 a0_2 a0_3 a0_4 a0_5 a0_6 a0_7 a0_8 a0_9 a2 a3 a4 t627 t630 _ A10.out).mono ?_); rintro e w48 ⟨v628, rfl, ho0, hb⟩; have n0_ := AX (Kd.R_lower ho0 (below_size bw)); have n1_ := AX (bkb BK626 hb); have n2_ := AX (below_step bw hb); clear BK626; clear HB; have HO629 := n0_; have BK626 := n1_; have HB := n2_; clear n0_ n1_ n2_; (try clear hb); (try clear hb2); (try clear hk); (try clear hi); (try clear ho0))))
     go_ret3
     exact ⟨_, _, by first | rfl | (simp [errW_none, errW_some] <;> rfl) | (simp [*, errW_none, errW_some] <;> rfl), by first | exact Kd.R_nil _ _ _ _ _ | exact Kd.N_nil _ _ _ _ _ | exact Kd.V_nil _ _ _ _ _ | exact Kd.Q_nil _ _ _ _ _ | exact Kd.S_nil _ _ _ _ _, by first | exact Kd.R_nil _ _ _ _ _ | exact Kd.N_nil _ _ _ _ _ | exact Kd.V_nil _ _ _ _ _ | exact Kd.Q_nil _ _ _ _ _ | exact Kd.S_nil _ _ _ _ _, bw⟩

end Go.Proofs.Ytddkckpfmleffaa.PX
