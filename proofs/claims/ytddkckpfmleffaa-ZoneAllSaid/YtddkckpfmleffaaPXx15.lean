/- Functions of the program as plain Lean functions, each with a proof that the call in the machine answers just what the plain function says; condition: the plain function answers at all. -/
import Derived.Test.YtddkckpfmleffaaPXx0
import Derived.Test.YtddkckpfmleffaaPXx1
import Derived.Test.YtddkckpfmleffaaPXx7
import Derived.Test.YtddkckpfmleffaaPXx9
import Derived.Test.YtddkckpfmleffaaPXx13
import Derived.Test.YtddkckpfmleffaaPXx14
namespace Go.Proofs.Ytddkckpfmleffaa.PX
open Go.RowKit Go.Proofs.YtddkckpfmleffaaW.PrintWords Go.Proofs.YtddkckpfmleffaaW.PrintLast Go.Proofs.YtddkckpfmleffaaW.PrintMore
attribute [local go_sem] max2_int min2_int max_two min_two max_three min_three max_four min_four   -- for this text's walks alone
set_option linter.unusedVariables false
set_option linter.unusedSimpArgs false

attribute [local go_sem high] eqA33
/-! ### pylonref04_Moments: function 49 -/
mutual
def pylonref04_Moments.j0 : Nat → Int → Int → Bool → Int → Int → Int → Int → Int → Int → Int → Int → Int → Int → Int → Int → Int → Option (List Int × Int)
 | 0, _, _, _, _, _, _, _, _, _, _, _, _, _, _, _, _ => none
 | k + 1, x2, x8, x30, x382000, x382001, x382002, x382003, x382004, x382005, x382006, x382007, x382008, x382009, x383000, x383001, x383002 => if x30 = true then (some (([] : List Int), 8)) else (pylonref04_Moments.l0 k x2 x8 ([] : List Int) 60 x382000 x382001 x382002 x382003 x382004 x382005 x382006 x382007 x382008 x382009 x383000 x383001 x383002)
def pylonref04_Moments.l0 : Nat → Int → Int → List Int → Int → Int → Int → Int → Int → Int → Int → Int → Int → Int → Int → Int → Int → Int → Option (List Int × Int)
 | 0, _, _, _, _, _, _, _, _, _, _, _, _, _, _, _, _, _ => none
 | k + 1, x2, x8, x10, x11, x382000, x382001, x382002, x382003, x382004, x382005, x382006, x382007, x382008, x382009, x383000, x383001, x383002 => if x11 ≥ 0 then ((pylonref04_At.f k x382000 x382001 x382002 x382003 x382004 x382005 x382006 x382007 x382008 x382009 (wrap64 ((wrap64 (x8 * 86400)) + (wrap64 ((wrap64 ((wrap64 (x2 - x382000)) - x11)) * 60))))).bind fun bt386 => (if bt386.2.2.2.2.2 = 0 then (if (bt386.1 == x383000 && (bt386.2.1 == x383001 && (bt386.2.2.1 == x383002))) = true then (if bt386.2.2.2.1 = x2 then (if x10.length < 17592186044416 then (pylonref04_Moments.l0 k x2 x8 (x10 ++ [wrap64 ((wrap64 (x8 * 86400)) + (wrap64 ((wrap64 ((wrap64 (x2 - x382000)) - x11)) * 60)))]) (wrap64 (x11 - 30)) x382000 x382001 x382002 x382003 x382004 x382005 x382006 x382007 x382008 x382009 x383000 x383001 x383002) else (none)) else (pylonref04_Moments.l0 k x2 x8 x10 (wrap64 (x11 - 30)) x382000 x382001 x382002 x382003 x382004 x382005 x382006 x382007 x382008 x382009 x383000 x383001 x383002)) else (pylonref04_Moments.l0 k x2 x8 x10 (wrap64 (x11 - 30)) x382000 x382001 x382002 x382003 x382004 x382005 x382006 x382007 x382008 x382009 x383000 x383001 x383002)) else (pylonref04_Moments.l0 k x2 x8 x10 (wrap64 (x11 - 30)) x382000 x382001 x382002 x382003 x382004 x382005 x382006 x382007 x382008 x382009 x383000 x383001 x383002))) else (some (x10, 0))
end
def pylonref04_Moments.f (k : Nat) (a0_0 : Int) (a0_1 : Int) (a0_2 : Int) (a0_3 : Int) (a0_4 : Int) (a0_5 : Int) (a0_6 : Int) (a0_7 : Int) (a0_8 : Int) (a0_9 : Int) (a1_0 : Int) (a1_1 : Int) (a1_2 : Int) (a2 : Int) : Option (List Int × Int) := (pylonref04_Check.f k a0_0 a0_1 a0_2 a0_3 a0_4 a0_5 a0_6 a0_7 a0_8 a0_9).bind fun t383 => (if t383 = 0 then ((pylonref03_Days.f k a1_0 a1_1 a1_2).bind fun bt384 => (if bt384.2 = 0 then (if a2 < 0 then (pylonref04_Moments.j0 k a2 bt384.1 true a0_0 a0_1 a0_2 a0_3 a0_4 a0_5 a0_6 a0_7 a0_8 a0_9 a1_0 a1_1 a1_2) else (pylonref04_Moments.j0 k a2 bt384.1 (decide (a2 > 1439)) a0_0 a0_1 a0_2 a0_3 a0_4 a0_5 a0_6 a0_7 a0_8 a0_9 a1_0 a1_1 a1_2)) else (some (([] : List Int), 5)))) else (some (([] : List Int), 8)))
theorem pylonref04_Moments.mono_l : ∀ k, (∀ y0 y1 y2 y3 y4 y5 y6 y7 y8 y9 y10 y11 y12 y13 y14 y15, LeO (pylonref04_Moments.j0 k y0 y1 y2 y3 y4 y5 y6 y7 y8 y9 y10 y11 y12 y13 y14 y15) (pylonref04_Moments.j0 (k + 1) y0 y1 y2 y3 y4 y5 y6 y7 y8 y9 y10 y11 y12 y13 y14 y15)) ∧ (∀ y0 y1 y2 y3 y4 y5 y6 y7 y8 y9 y10 y11 y12 y13 y14 y15 y16, LeO (pylonref04_Moments.l0 k y0 y1 y2 y3 y4 y5 y6 y7 y8 y9 y10 y11 y12 y13 y14 y15 y16) (pylonref04_Moments.l0 (k + 1) y0 y1 y2 y3 y4 y5 y6 y7 y8 y9 y10 y11 y12 y13 y14 y15 y16))
 | 0 => ⟨fun _ _ _ _ _ _ _ _ _ _ _ _ _ _ _ _ r h => by simp [pylonref04_Moments.j0] at h, fun _ _ _ _ _ _ _ _ _ _ _ _ _ _ _ _ _ r h => by simp [pylonref04_Moments.l0] at h⟩
 | k + 1 => by
  obtain ⟨ih0, ih1⟩ := pylonref04_Moments.mono_l k
  refine ⟨?_, ?_⟩
  ·intro y0 y1 y2 y3 y4 y5 y6 y7 y8 y9 y10 y11 y12 y13 y14 y15
   unfold pylonref04_Moments.j0
   repeat' first
   | (with_reducible exact ih0 _ _ _ _ _ _ _ _ _ _ _ _ _ _ _ _)
   | (with_reducible exact ih1 _ _ _ _ _ _ _ _ _ _ _ _ _ _ _ _ _)
   | (with_reducible exact pylonref03_Days.mono _ _ _ _)
   | (with_reducible exact pylonref04_At.mono _ _ _ _ _ _ _ _ _ _ _ _)
   | (with_reducible exact pylonref04_Check.mono _ _ _ _ _ _ _ _ _ _ _)
   | (with_reducible exact LeO.refl _)
   | (with_reducible exact LeO.none _)
   | (with_reducible refine LeO.ite ?_ ?_)
   | (with_reducible refine LeO.bind ?_ (fun _ => ?_))
  ·intro y0 y1 y2 y3 y4 y5 y6 y7 y8 y9 y10 y11 y12 y13 y14 y15 y16
   unfold pylonref04_Moments.l0
   repeat' first
   | (with_reducible exact ih0 _ _ _ _ _ _ _ _ _ _ _ _ _ _ _ _)
   | (with_reducible exact ih1 _ _ _ _ _ _ _ _ _ _ _ _ _ _ _ _ _)
   | (with_reducible exact pylonref03_Days.mono _ _ _ _)
   | (with_reducible exact pylonref04_At.mono _ _ _ _ _ _ _ _ _ _ _ _)
   | (with_reducible exact pylonref04_Check.mono _ _ _ _ _ _ _ _ _ _ _)
   | (with_reducible exact LeO.refl _)
   | (with_reducible exact LeO.none _)
   | (with_reducible refine LeO.ite ?_ ?_)
   | (with_reducible refine LeO.bind ?_ (fun _ => ?_))
theorem pylonref04_Moments.mono : ∀ a0 a1 a2 a3 a4 a5 a6 a7 a8 a9 a10 a11 a12 a13 k, LeO (pylonref04_Moments.f k a0 a1 a2 a3 a4 a5 a6 a7 a8 a9 a10 a11 a12 a13) (pylonref04_Moments.f (k + 1) a0 a1 a2 a3 a4 a5 a6 a7 a8 a9 a10 a11 a12 a13) := by
 intro a0 a1 a2 a3 a4 a5 a6 a7 a8 a9 a10 a11 a12 a13 k
 obtain ⟨ih0, ih1⟩ := pylonref04_Moments.mono_l k
 unfold pylonref04_Moments.f
 repeat' first
   | (with_reducible exact ih0 _ _ _ _ _ _ _ _ _ _ _ _ _ _ _ _)
   | (with_reducible exact ih1 _ _ _ _ _ _ _ _ _ _ _ _ _ _ _ _ _)
   | (with_reducible exact pylonref03_Days.mono _ _ _ _)
   | (with_reducible exact pylonref04_At.mono _ _ _ _ _ _ _ _ _ _ _ _)
   | (with_reducible exact pylonref04_Check.mono _ _ _ _ _ _ _ _ _ _ _)
   | (with_reducible exact LeO.refl _)
   | (with_reducible exact LeO.none _)
   | (with_reducible refine LeO.ite ?_ ?_)
   | (with_reducible refine LeO.bind ?_ (fun _ => ?_))
set_option maxHeartbeats 8000000 in
set_option maxRecDepth 100000 in
theorem pylonref04_Moments.calls (k : Nat) (a0_0 : Int) (a0_1 : Int) (a0_2 : Int) (a0_3 : Int) (a0_4 : Int) (a0_5 : Int) (a0_6 : Int) (a0_7 : Int) (a0_8 : Int) (a0_9 : Int) (a1_0 : Int) (a1_1 : Int) (a1_2 : Int) (a2 : Int) (r1 : List Int) (r2 : Int) (w : World) (h : pylonref04_Moments.f k a0_0 a0_1 a0_2 a0_3 a0_4 a0_5 a0_6 a0_7 a0_8 a0_9 a1_0 a1_1 a1_2 a2 = some (r1, r2)) :
  Calls Try.prog 49 #[.agg #[.int .i64 a0_0, .int .i64 a0_1, .int .i64 a0_2, .int .i64 a0_3, .int .i64 a0_4, .int .i64 a0_5, .int .i64 a0_6, .int .i64 a0_7, .int .i64 a0_8, .int .i64 a0_9], .agg #[.int .i64 a1_0, .int .i64 a1_1, .int .i64 a1_2], .int .i64 a2] w fun e w' => ∃ v0_ : Value, e = .returned (.tuple #[v0_, .int .i64 r2]) ∧ Kd.R (Kd.int .i64) 2 w' w.heap.size (fun _ => True) v0_ r1 ∧ Below w.heap.size w w' := by
 have hu25 := Try.underlying25
 have hu33 := Try.underlying33
 have hu35 := Try.underlying35
 have HB := AX (Below.refl w.heap.size w)
 have H : ((pylonref04_Check.f k a0_0 a0_1 a0_2 a0_3 a0_4 a0_5 a0_6 a0_7 a0_8 a0_9).bind fun t383 => (if t383 = 0 then ((pylonref03_Days.f k a1_0 a1_1 a1_2).bind fun bt384 => (if bt384.2 = 0 then (if a2 < 0 then (pylonref04_Moments.j0 k a2 bt384.1 true a0_0 a0_1 a0_2 a0_3 a0_4 a0_5 a0_6 a0_7 a0_8 a0_9 a1_0 a1_1 a1_2) else (pylonref04_Moments.j0 k a2 bt384.1 (decide (a2 > 1439)) a0_0 a0_1 a0_2 a0_3 a0_4 a0_5 a0_6 a0_7 a0_8 a0_9 a1_0 a1_1 a1_2)) else (some (([] : List Int), 5)))) else (some (([] : List Int), 8)))) = some (r1, r2) := h
 clear h
 replace H := Option.bind_eq_some_iff.mp H
 obtain ⟨t383, A40, H⟩ := H
 replace H : (if t383 = 0 then ((pylonref03_Days.f k a1_0 a1_1 a1_2).bind fun bt384 => (if bt384.2 = 0 then (if a2 < 0 then (pylonref04_Moments.j0 k a2 bt384.1 true a0_0 a0_1 a0_2 a0_3 a0_4 a0_5 a0_6 a0_7 a0_8 a0_9 a1_0 a1_1 a1_2) else (pylonref04_Moments.j0 k a2 bt384.1 (decide (a2 > 1439)) a0_0 a0_1 a0_2 a0_3 a0_4 a0_5 a0_6 a0_7 a0_8 a0_9 a1_0 a1_1 a1_2)) else (some (([] : List Int), 5)))) else (some (([] : List Int), 8))) = some (r1, r2) := H
 have A4 := AX A40
 clear A40
 by_cases c5 : t383 = 0
 ·rw [if_pos c5] at H
  have c5b0 : (t383 == 0) = true := beq_iff_eq.mpr c5
  have c5b1 : (t383 != 0) = false := bne_eq_false_iff_eq.mpr c5
  clear c5
  replace H := Option.bind_eq_some_iff.mp H
  obtain ⟨⟨t384, t385⟩, A60, H⟩ := H
  replace H : (if t385 = 0 then (if a2 < 0 then (pylonref04_Moments.j0 k a2 t384 true a0_0 a0_1 a0_2 a0_3 a0_4 a0_5 a0_6 a0_7 a0_8 a0_9 a1_0 a1_1 a1_2) else (pylonref04_Moments.j0 k a2 t384 (decide (a2 > 1439)) a0_0 a0_1 a0_2 a0_3 a0_4 a0_5 a0_6 a0_7 a0_8 a0_9 a1_0 a1_1 a1_2)) else (some (([] : List Int), 5))) = some (r1, r2) := H
  have A6 := AX A60
  clear A60
  by_cases c7 : t385 = 0
  ·rw [if_pos c7] at H
   have c7b0 : (t385 == 0) = true := beq_iff_eq.mpr c7
   have c7b1 : (t385 != 0) = false := bne_eq_false_iff_eq.mpr c7
   clear c7
   have HC8 := AX H
   clear H
   go_enter Try.func49, Try.ntmps49
   go_upto_region 6 with (first | ((with_reducible refine gate_dst (N := 3) rfl ?_); refine bx 3 #[.int .i64 a0_0, .int .i64 a0_1, .int .i64 a0_2, .int .i64 a0_3, .int .i64 a0_4, .int .i64 a0_5, .int .i64 a0_6, .int .i64 a0_7, .int .i64 a0_8, .int .i64 a0_9] 25 ?_; intro gb381 hg w9 hbox hb; have BK381 := AX (hbox); have GW381 := gwl (w := w) hg bw; have GE381 := GW381; replace HB := AX (below_step bw hb); clear hb hbox hg) | ((with_reducible refine gate_dst (N := 4) rfl ?_); refine bx 4 #[.int .i64 a1_0, .int .i64 a1_1, .int .i64 a1_2] 33 ?_; intro gb382 hg w10 hbox hb; have BK382 := AX (hbox); have GW382 := gwl (w := w) hg bw; have GE382 := GW382; have NB381_382 := nbl hg (bkn BK381); have NB382_381 := nbg hg (bkn BK381); replace BK381 := AX (bkb BK381 hb); replace HB := AX (below_step bw hb); clear hb hbox hg; have hnb11 := NB381_382.out; have hnc11 := NB382_381.out; obtain ⟨hcz12_0, hcz12_1, hcz12_2, hcz12_3, hcz12_4, hcz12_5, hcz12_6, hcz12_7, hcz12_8, hcz12_9⟩ := blkC10 (w := w10) BK381.out; obtain ⟨hfz12_0, hfz12_1, hfz12_2, hfz12_3, hfz12_4, hfz12_5, hfz12_6, hfz12_7, hfz12_8, hfz12_9⟩ := blkF10 BK381.out) | ((with_reducible refine gate_callee (f := 16) rfl ?_); refine gL (some 16) Try.func16 #[.agg #[.int .i64 a0_0, .int .i64 a0_1, .int .i64 a0_2, .int .i64 a0_3, .int .i64 a0_4, .int .i64 a0_5, .int .i64 a0_6, .int .i64 a0_7, .int .i64 a0_8, .int .i64 a0_9]] ?_; (with_reducible refine (pylonref04_Check.calls k a0_0 a0_1 a0_2 a0_3 a0_4 a0_5 a0_6 a0_7 a0_8 a0_9 t383 _ A4.out).mono ?_); rintro e w13 ⟨rfl, hb⟩; refine ⟨_, rfl, ?_⟩; replace BK381 := AX (bkb BK381 hb); replace BK382 := AX (bkb BK382 hb); replace HB := AX (below_step bw hb); (try clear hb); obtain ⟨hcz14_0, hcz14_1, hcz14_2⟩ := blkC3 (w := w13) BK382.out; obtain ⟨hfz14_0, hfz14_1, hfz14_2⟩ := blkF3 BK382.out) | ((with_reducible refine gate_callee (f := 21) rfl ?_); refine gL (some 20) Try.func21 #[.agg #[.int .i64 a1_0, .int .i64 a1_1, .int .i64 a1_2]] ?_; (with_reducible refine (pylonref03_Days.calls k a1_0 a1_1 a1_2 t384 t385 _ A6.out).mono ?_); rintro e w15 ⟨rfl, hb⟩; refine ⟨_, rfl, ?_⟩; replace BK381 := AX (bkb BK381 hb); replace BK382 := AX (bkb BK382 hb); replace HB := AX (below_step bw hb); (try clear hb)))
   (try simp only [Act.put, List.setIfInBounds_toArray, List.set_cons_zero, List.set_cons_succ])
   go_cut [30] (fun v30 wc => ∃ (kq : Nat) (x30_7 : Bool), v30 = .bool x30_7 ∧ Aside0 (pylonref04_Moments.j0 kq a2 t384 x30_7 a0_0 a0_1 a0_2 a0_3 a0_4 a0_5 a0_6 a0_7 a0_8 a0_9 a1_0 a1_1 a1_2 = some (r1, r2)) ∧ Aside0 (kq ≤ k) ∧ Aside0 (wc.heap[gb381]? = some (.cells #[.int .i64 a0_0, .int .i64 a0_1, .int .i64 a0_2, .int .i64 a0_3, .int .i64 a0_4, .int .i64 a0_5, .int .i64 a0_6, .int .i64 a0_7, .int .i64 a0_8, .int .i64 a0_9] 25 (0, 0))) ∧ Aside0 (wc.heap[gb382]? = some (.cells #[.int .i64 a1_0, .int .i64 a1_1, .int .i64 a1_2] 33 (0, 0))) ∧ Aside0 (Below w.heap.size w wc))
   case first =>
    have H := HC8.out
    clear HC8
    by_cases c16 : a2 < 0
    ·rw [if_pos c16] at H
     have c16b0 : decide (a2 < 0) = true := decide_eq_true c16
     clear c16
     (first | rw [c16b0] | (simp only [i64_w, i32_w]; rw [c16b0]) | skip)
     have H' := AX H
     clear H
     go_wp2
     go_meet
     case rel => exact ⟨_, (true), (by first | rfl | (simp; done) | (simp [*]; done)), H', ⟨by first | omega | exact Nat.le_refl _⟩, ⟨bkn BK381⟩, ⟨bkn BK382⟩, ⟨bw⟩⟩
    ·rw [if_neg c16] at H
     have c16b0 : decide (a2 < 0) = false := decide_eq_false c16
     clear c16
     (first | rw [c16b0] | (simp only [i64_w, i32_w]; rw [c16b0]) | skip)
     have H' := AX H
     clear H
     go_wp2
     go_meet
     case rel => exact ⟨_, (decide (a2 > 1439)), (by first | rfl | (simp; done) | (simp [*]; done)), H', ⟨by first | omega | exact Nat.le_refl _⟩, ⟨bkn BK381⟩, ⟨bkn BK382⟩, ⟨bw⟩⟩
   case rest =>
    clear HC8
    try clear c5b0 c5b1
    try clear c7b0 c7b1
    try clear hcz12_0 hcz12_1 hcz12_2 hcz12_3 hcz12_4 hcz12_5 hcz12_6 hcz12_7 hcz12_8 hcz12_9
    try clear hcz14_0 hcz14_1 hcz14_2
    try clear hfz12_0 hfz12_1 hfz12_2 hfz12_3 hfz12_4 hfz12_5 hfz12_6 hfz12_7 hfz12_8 hfz12_9
    try clear hfz14_0 hfz14_1 hfz14_2
    obtain ⟨kq, x30_7, rfl, HA, HJ7, BK381, BK382, HB⟩ := hcut
    cases kq with
    | zero => exact absurd HA.out (by simp [pylonref04_Moments.j0])
    | succ kj7 =>
     have H := HA.out
     clear HA
     simp only [pylonref04_Moments.j0] at H
     by_cases c17 : x30_7 = true
     ·subst c17
      have H1 : (some (([] : List Int), 8)) = some (r1, r2) := by rw [if_pos rfl] at H; exact H
      clear H
      have H := H1
      clear H1
      simp only [Option.some.injEq, Prod.mk.injEq] at H
      obtain ⟨rfl, rfl⟩ := H
      go_wp2
      go_ret2
      exact ⟨_, by first | rfl | (simp [errW_none, errW_some] <;> rfl) | (simp [*, errW_none, errW_some] <;> rfl), by first | exact Kd.R_nil _ _ _ _ _ | exact Kd.N_nil _ _ _ _ _ | exact Kd.V_nil _ _ _ _ _ | exact Kd.Q_nil _ _ _ _ _ | exact Kd.S_nil _ _ _ _ _, bw⟩
     ·replace c17 := Bool.eq_false_iff.mpr c17
      subst c17
      have H1 : (pylonref04_Moments.l0 kj7 a2 t384 ([] : List Int) 60 a0_0 a0_1 a0_2 a0_3 a0_4 a0_5 a0_6 a0_7 a0_8 a0_9 a1_0 a1_1 a1_2) = some (r1, r2) := by rw [if_neg (show ¬ (false = true) by decide)] at H; exact H
      clear H
      have H := H1
      clear H1
      have H' := AX H
      clear H
      go_wp2
      go_loopg [10, 11] kj7 (fun kq v10 v11 w' => ∃ (x10_2 : List Int) (x11_2 : Int), v11 = .int .i64 x11_2 ∧ Aside0 (pylonref04_Moments.l0 kq a2 t384 x10_2 x11_2 a0_0 a0_1 a0_2 a0_3 a0_4 a0_5 a0_6 a0_7 a0_8 a0_9 a1_0 a1_1 a1_2 = some (r1, r2)) ∧ Aside0 (kq ≤ kj7) ∧ Aside0 (Kd.R (Kd.int .i64) 2 w' w.heap.size (fun _ => True) v10 x10_2) ∧ Aside0 (w'.heap[gb381]? = some (.cells #[.int .i64 a0_0, .int .i64 a0_1, .int .i64 a0_2, .int .i64 a0_3, .int .i64 a0_4, .int .i64 a0_5, .int .i64 a0_6, .int .i64 a0_7, .int .i64 a0_8, .int .i64 a0_9] 25 (0, 0))) ∧ Aside0 (w'.heap[gb382]? = some (.cells #[.int .i64 a1_0, .int .i64 a1_1, .int .i64 a1_2] 33 (0, 0))) ∧ Aside0 (Below w.heap.size w w'))
      case atStart => exact ⟨(([] : List Int)), (60), (by first | rfl | (simp; done) | (simp [*]; done)), H', ⟨Nat.le_refl _⟩, ⟨by first | exact Kd.R_nil _ _ _ _ _ | exact Kd.N_nil _ _ _ _ _ | exact Kd.V_nil _ _ _ _ _ | exact Kd.Q_nil _ _ _ _ _ | exact Kd.S_nil _ _ _ _ _⟩, ⟨bkn BK381⟩, ⟨bkn BK382⟩, ⟨bw⟩⟩
      case round =>
       clear H'
       try clear c17
       obtain ⟨x10_2, x11_2, rfl, HA, HK2, HO_10, BK381, BK382, HB⟩ := hrel
       cases gk with
       | zero => exact absurd HA.out (by simp [pylonref04_Moments.l0])
       | succ k2 =>
        have H := HA.out
        clear HA
        simp only [pylonref04_Moments.l0] at H
        by_cases c18 : x11_2 ≥ 0
        ·rw [if_pos c18] at H
         have c18b0 : decide (0 ≤ x11_2) = true := decide_eq_true c18
         clear c18
         replace H := Option.bind_eq_some_iff.mp H
         obtain ⟨⟨t386, t387, t388, t389, t390, t391⟩, A190, H⟩ := H
         replace H : (if t391 = 0 then (if (t386 == a1_0 && (t387 == a1_1 && (t388 == a1_2))) = true then (if t389 = a2 then (if x10_2.length < 17592186044416 then (pylonref04_Moments.l0 k2 a2 t384 (x10_2 ++ [wrap64 ((wrap64 (t384 * 86400)) + (wrap64 ((wrap64 ((wrap64 (a2 - a0_0)) - x11_2)) * 60)))]) (wrap64 (x11_2 - 30)) a0_0 a0_1 a0_2 a0_3 a0_4 a0_5 a0_6 a0_7 a0_8 a0_9 a1_0 a1_1 a1_2) else (none)) else (pylonref04_Moments.l0 k2 a2 t384 x10_2 (wrap64 (x11_2 - 30)) a0_0 a0_1 a0_2 a0_3 a0_4 a0_5 a0_6 a0_7 a0_8 a0_9 a1_0 a1_1 a1_2)) else (pylonref04_Moments.l0 k2 a2 t384 x10_2 (wrap64 (x11_2 - 30)) a0_0 a0_1 a0_2 a0_3 a0_4 a0_5 a0_6 a0_7 a0_8 a0_9 a1_0 a1_1 a1_2)) else (pylonref04_Moments.l0 k2 a2 t384 x10_2 (wrap64 (x11_2 - 30)) a0_0 a0_1 a0_2 a0_3 a0_4 a0_5 a0_6 a0_7 a0_8 a0_9 a1_0 a1_1 a1_2)) = some (r1, r2) := H
         have A19 := AX A190
         clear A190
         by_cases c20 : t391 = 0
         ·rw [if_pos c20] at H
          have c20b0 : (t391 == 0) = true := beq_iff_eq.mpr c20
          have c20b1 : (t391 != 0) = false := bne_eq_false_iff_eq.mpr c20
          clear c20
          by_cases c21 : (t386 == a1_0 && (t387 == a1_1 && (t388 == a1_2))) = true
          ·rw [if_pos c21] at H
           have c21b0 : (t386 == a1_0 && (t387 == a1_1 && (t388 == a1_2))) = true := c21
           (try (have c21b1 : decide (t386 = a1_0 && (t387 == a1_1 && (t388 == a1_2))) = true := by simpa using c21))
           (try (have c21b2 : (t386 == a1_0 && (t387 == a1_1 && (t388 == a1_2))) = true := by simpa using c21))
           clear c21
           by_cases c22 : t389 = a2
           ·rw [if_pos c22] at H
            have c22b0 : (t389 == a2) = true := beq_iff_eq.mpr c22
            have c22b1 : (t389 != a2) = false := bne_eq_false_iff_eq.mpr c22
            clear c22
            by_cases c23 : x10_2.length < 17592186044416
            ·rw [if_pos c23] at H
             have LMc23 := AX c23
             clear c23
             obtain ⟨y393, hy393⟩ : ∃ y_ : List Int, y_ = (x10_2 ++ [wrap64 ((wrap64 (t384 * 86400)) + (wrap64 ((wrap64 ((wrap64 (a2 - a0_0)) - x11_2)) * 60)))]) := ⟨_, rfl⟩
             replace H : (pylonref04_Moments.l0 k2 a2 t384 y393 (wrap64 (x11_2 - 30)) a0_0 a0_1 a0_2 a0_3 a0_4 a0_5 a0_6 a0_7 a0_8 a0_9 a1_0 a1_1 a1_2) = some (r1, r2) := by first | (rw [hy393]; with_reducible exact H) | (have H2_ := (Option.bind_some _ _).symm.trans H; rw [hy393]; with_reducible exact H2_) | (have H2_ := (Option.bind_some _ _).symm.trans H; with_reducible exact H2_) | with_reducible exact H | (rw [hy393]; exact H) | exact H
             have Ny393 := AX hy393
             clear hy393
             have H' := AX H
             clear H
             have hnb24 := NB381_382.out
             have hnc24 := NB382_381.out
             obtain ⟨hcz25_0, hcz25_1, hcz25_2, hcz25_3, hcz25_4, hcz25_5, hcz25_6, hcz25_7, hcz25_8, hcz25_9⟩ := blkC10 (w := wr) BK381.out
             obtain ⟨hfz25_0, hfz25_1, hfz25_2, hfz25_3, hfz25_4, hfz25_5, hfz25_6, hfz25_7, hfz25_8, hfz25_9⟩ := blkF10 BK381.out
             go_wp2_with (first | ((with_reducible refine gate_callee (f := 38) rfl ?_); refine gL (some 48) Try.func38 #[.agg #[.int .i64 a0_0, .int .i64 a0_1, .int .i64 a0_2, .int .i64 a0_3, .int .i64 a0_4, .int .i64 a0_5, .int .i64 a0_6, .int .i64 a0_7, .int .i64 a0_8, .int .i64 a0_9], .int .i64 (wrap64 ((wrap64 (t384 * 86400)) + (wrap64 ((wrap64 ((wrap64 (a2 - a0_0)) - x11_2)) * 60))))] ?_; (with_reducible refine (pylonref04_At.calls k2 a0_0 a0_1 a0_2 a0_3 a0_4 a0_5 a0_6 a0_7 a0_8 a0_9 (wrap64 ((wrap64 (t384 * 86400)) + (wrap64 ((wrap64 ((wrap64 (a2 - a0_0)) - x11_2)) * 60)))) t386 t387 t388 t389 t390 t391 _ A19.out).mono ?_); rintro e w26 ⟨rfl, hb⟩; refine ⟨_, rfl, ?_⟩; replace HO_10 := AX (Kd.R_below (kr HO_10) hb); replace BK381 := AX (bkb BK381 hb); replace BK382 := AX (bkb BK382 hb); replace HB := AX (below_step bw hb); (try clear hb)) | ((with_reducible refine gate_dst (N := 13) rfl ?_); refine bx 13 #[.int .i64 0, .int .i64 0, .int .i64 0, .int .i64 0, .int .i64 0] 35 ?_; intro gb392 hg w27 hbox hb; have BK392 := AX (hbox); have GW392 := gwl (w := w) hg bw; have GE392 := GW392; have NB381_392 := nbl hg (bkn BK381); have NB392_381 := nbg hg (bkn BK381); have NB382_392 := nbl hg (bkn BK382); have NB392_382 := nbg hg (bkn BK382); replace HO_10 := AX (Kd.R_below (kr HO_10) hb); replace BK381 := AX (bkb BK381 hb); replace BK382 := AX (bkb BK382 hb); replace HB := AX (below_step bw hb); clear hb hbox hg; have hnb28 := NB392_381.out; have hnc28 := NB381_392.out; have hnb29 := NB392_382.out; have hnc29 := NB382_392.out; obtain ⟨hcz30_0, hcz30_1, hcz30_2, hcz30_3, hcz30_4⟩ := blkC5 (w := w27) BK392.out; obtain ⟨hfz30_0, hfz30_1, hfz30_2, hfz30_3, hfz30_4⟩ := blkF5 BK392.out; obtain ⟨hcz31_0, hcz31_1, hcz31_2⟩ := blkC3 (w := w27) BK382.out; obtain ⟨hfz31_0, hfz31_1, hfz31_2⟩ := blkF3 BK382.out) | ((with_reducible refine gate_builtin (b := .append) (xs := #[.tmp 65, .tmp 67]) rfl ?_); at_builtin; refine Kd.R_append (Kd.int .i64) (w0 := w) w.heap.size rfl (.tmp 65) (.tmp 67) 40 2 (.int .i64 0) 8 rfl Try.underlying40 info2 rfl (by decide) (by omega) u10 x10_2 (wrap64 ((wrap64 (t384 * 86400)) + (wrap64 ((wrap64 ((wrap64 (a2 - a0_0)) - x11_2)) * 60)))) [.int .i64 (wrap64 ((wrap64 (t384 * 86400)) + (wrap64 ((wrap64 ((wrap64 (a2 - a0_0)) - x11_2)) * 60))))] (fun _ => True) (fun _ => False) rfl (by first | (go_simp; done) | (go_simp; rfl)) ?aP (fun _ hk => hk.elim) ?aF ?aO ?aB ?aS ?aL ?_; (case aP => exact rfl); (case aB => exact bw); (case aF => exact (fun _ _ => trivial)); (case aO => exact (by (with_reducible repeat (first | apply Kd.R_alloc | apply Kd.R_drewN | apply Kd.R_drew)); exact Kd.R_mono (Kd.R_far (p := ⟨gb392, 4, none⟩) (Kd.R_far (p := ⟨gb392, 3, none⟩) (Kd.R_far (p := ⟨gb392, 2, none⟩) (Kd.R_far (p := ⟨gb392, 1, none⟩) (Kd.R_far (p := ⟨gb392, 0, none⟩) (Kd.R_types HO_10.out BK392.out (by decide)) (fun _ hk => hk.2) (.int .i64 t386)) (fun _ hk => hk.2) (.int .i64 t387)) (fun _ hk => hk.2) (.int .i64 t388)) (fun _ hk => hk.2) (.int .i64 t389)) (fun _ hk => hk.2) (.int .i64 t390)) (fun _ hk => trivial))); (case aS => exact (below_size bw)); (case aL => have := LMc23.out; omega); intro v394 w32 ho hb hg hat; rw [← Ny393.out] at ho; have n0_ := AX (blk_grown (g := gb381) (o := .cells #[.int .i64 a0_0, .int .i64 a0_1, .int .i64 a0_2, .int .i64 a0_3, .int .i64 a0_4, .int .i64 a0_5, .int .i64 a0_6, .int .i64 a0_7, .int .i64 a0_8, .int .i64 a0_9] 25 (0, 0)) (by (with_reducible repeat first|refine blk_drewN ?_ _|refine blk_drew ?_|refine blk_alloc ?_ _|refine blk_far ?_ NB381_392.out _); exact BK381.out) hg (Kd.R_ne HO_10.out BK381.out (by decide))); have n1_ := AX (blk_grown (g := gb382) (o := .cells #[.int .i64 a1_0, .int .i64 a1_1, .int .i64 a1_2] 33 (0, 0)) (by (with_reducible repeat first|refine blk_drewN ?_ _|refine blk_drew ?_|refine blk_alloc ?_ _|refine blk_far ?_ NB382_392.out _); exact BK382.out) hg (Kd.R_ne HO_10.out BK382.out (by decide))); have n2_ := AX (blk_grown (g := gb392) (o := .cells #[.int .i64 t386, .int .i64 t387, .int .i64 t388, .int .i64 t389, .int .i64 t390] 35 (0, 0)) (by (with_reducible repeat first|refine blk_drewN ?_ _|refine blk_drew ?_|refine blk_alloc ?_ _); refine blk_put (cs := #[.int .i64 t386, .int .i64 t387, .int .i64 t388, .int .i64 t389, .int .i64 0]) ?_ 4 _ rfl; (with_reducible repeat first|refine blk_drewN ?_ _|refine blk_drew ?_|refine blk_alloc ?_ _); refine blk_put (cs := #[.int .i64 t386, .int .i64 t387, .int .i64 t388, .int .i64 0, .int .i64 0]) ?_ 3 _ rfl; (with_reducible repeat first|refine blk_drewN ?_ _|refine blk_drew ?_|refine blk_alloc ?_ _); refine blk_put (cs := #[.int .i64 t386, .int .i64 t387, .int .i64 0, .int .i64 0, .int .i64 0]) ?_ 2 _ rfl; (with_reducible repeat first|refine blk_drewN ?_ _|refine blk_drew ?_|refine blk_alloc ?_ _); refine blk_put (cs := #[.int .i64 t386, .int .i64 0, .int .i64 0, .int .i64 0, .int .i64 0]) ?_ 1 _ rfl; (with_reducible repeat first|refine blk_drewN ?_ _|refine blk_drew ?_|refine blk_alloc ?_ _); refine blk_put (cs := #[.int .i64 0, .int .i64 0, .int .i64 0, .int .i64 0, .int .i64 0]) ?_ 0 _ rfl; (with_reducible repeat first|refine blk_drewN ?_ _|refine blk_drew ?_|refine blk_alloc ?_ _); exact BK392.out) hg (Kd.R_ne HO_10.out BK392.out (by decide))); have n3_ := AX (hb); have n4_ := AX (ho); clear BK381; clear BK382; clear BK392; clear HB; clear HO_10; have BK381 := n0_; have BK382 := n1_; have BK392 := n2_; have HB := n3_; have HO395 := n4_; clear n0_ n1_ n2_ n3_ n4_; clear ho hb hg hat))
             go_roundg k2
             case measure => have := HJ7.out; have := HK2.out; omega
             case rel => exact ⟨(y393), (wrap64 (x11_2 - 30)), (by first | rfl | (simp; done) | (simp [*]; done)), H', ⟨by have := HJ7.out; have := HK2.out; omega⟩, ⟨kr HO395⟩, ⟨bkn BK381⟩, ⟨bkn BK382⟩, ⟨bw⟩⟩
            ·rw [if_neg c23] at H
             exact absurd H (by simp)
           ·rw [if_neg c22] at H
            have c22b0 : (t389 == a2) = false := beq_eq_false_iff_ne.mpr c22
            have c22b1 : (t389 != a2) = true := bne_iff_ne.mpr c22
            have H' := AX H
            clear H
            have hnb33 := NB381_382.out
            have hnc33 := NB382_381.out
            obtain ⟨hcz34_0, hcz34_1, hcz34_2, hcz34_3, hcz34_4, hcz34_5, hcz34_6, hcz34_7, hcz34_8, hcz34_9⟩ := blkC10 (w := wr) BK381.out
            obtain ⟨hfz34_0, hfz34_1, hfz34_2, hfz34_3, hfz34_4, hfz34_5, hfz34_6, hfz34_7, hfz34_8, hfz34_9⟩ := blkF10 BK381.out
            go_wp2_with (first | ((with_reducible refine gate_callee (f := 38) rfl ?_); refine gL (some 48) Try.func38 #[.agg #[.int .i64 a0_0, .int .i64 a0_1, .int .i64 a0_2, .int .i64 a0_3, .int .i64 a0_4, .int .i64 a0_5, .int .i64 a0_6, .int .i64 a0_7, .int .i64 a0_8, .int .i64 a0_9], .int .i64 (wrap64 ((wrap64 (t384 * 86400)) + (wrap64 ((wrap64 ((wrap64 (a2 - a0_0)) - x11_2)) * 60))))] ?_; (with_reducible refine (pylonref04_At.calls k2 a0_0 a0_1 a0_2 a0_3 a0_4 a0_5 a0_6 a0_7 a0_8 a0_9 (wrap64 ((wrap64 (t384 * 86400)) + (wrap64 ((wrap64 ((wrap64 (a2 - a0_0)) - x11_2)) * 60)))) t386 t387 t388 t389 t390 t391 _ A19.out).mono ?_); rintro e w35 ⟨rfl, hb⟩; refine ⟨_, rfl, ?_⟩; replace HO_10 := AX (Kd.R_below (kr HO_10) hb); replace BK381 := AX (bkb BK381 hb); replace BK382 := AX (bkb BK382 hb); replace HB := AX (below_step bw hb); (try clear hb)) | ((with_reducible refine gate_dst (N := 13) rfl ?_); refine bx 13 #[.int .i64 0, .int .i64 0, .int .i64 0, .int .i64 0, .int .i64 0] 35 ?_; intro gb392 hg w36 hbox hb; have BK392 := AX (hbox); have GW392 := gwl (w := w) hg bw; have GE392 := GW392; have NB381_392 := nbl hg (bkn BK381); have NB392_381 := nbg hg (bkn BK381); have NB382_392 := nbl hg (bkn BK382); have NB392_382 := nbg hg (bkn BK382); replace HO_10 := AX (Kd.R_below (kr HO_10) hb); replace BK381 := AX (bkb BK381 hb); replace BK382 := AX (bkb BK382 hb); replace HB := AX (below_step bw hb); clear hb hbox hg; have hnb37 := NB392_381.out; have hnc37 := NB381_392.out; have hnb38 := NB392_382.out; have hnc38 := NB382_392.out; obtain ⟨hcz39_0, hcz39_1, hcz39_2, hcz39_3, hcz39_4⟩ := blkC5 (w := w36) BK392.out; obtain ⟨hfz39_0, hfz39_1, hfz39_2, hfz39_3, hfz39_4⟩ := blkF5 BK392.out; obtain ⟨hcz40_0, hcz40_1, hcz40_2⟩ := blkC3 (w := w36) BK382.out; obtain ⟨hfz40_0, hfz40_1, hfz40_2⟩ := blkF3 BK382.out))
            go_roundg k2
            case measure => have := HJ7.out; have := HK2.out; omega
            case rel => exact ⟨(x10_2), (wrap64 (x11_2 - 30)), (by first | rfl | (simp; done) | (simp [*]; done)), H', ⟨by have := HJ7.out; have := HK2.out; omega⟩, ⟨by (with_reducible repeat (first | apply Kd.R_alloc | apply Kd.R_drewN | apply Kd.R_drew)); exact Kd.R_mono (Kd.R_far (p := ⟨gb392, 4, none⟩) (Kd.R_far (p := ⟨gb392, 3, none⟩) (Kd.R_far (p := ⟨gb392, 2, none⟩) (Kd.R_far (p := ⟨gb392, 1, none⟩) (Kd.R_far (p := ⟨gb392, 0, none⟩) (Kd.R_types HO_10.out BK392.out (by decide)) (fun _ hk => hk.2) (.int .i64 t386)) (fun _ hk => hk.2) (.int .i64 t387)) (fun _ hk => hk.2) (.int .i64 t388)) (fun _ hk => hk.2) (.int .i64 t389)) (fun _ hk => hk.2) (.int .i64 t390)) (fun _ hk => trivial)⟩, ⟨by (with_reducible repeat first|refine blk_drewN ?_ _|refine blk_drew ?_|refine blk_alloc ?_ _); refine blk_far ?_ NB381_392.out _; (with_reducible repeat first|refine blk_drewN ?_ _|refine blk_drew ?_|refine blk_alloc ?_ _); refine blk_far ?_ NB381_392.out _; (with_reducible repeat first|refine blk_drewN ?_ _|refine blk_drew ?_|refine blk_alloc ?_ _); refine blk_far ?_ NB381_392.out _; (with_reducible repeat first|refine blk_drewN ?_ _|refine blk_drew ?_|refine blk_alloc ?_ _); refine blk_far ?_ NB381_392.out _; (with_reducible repeat first|refine blk_drewN ?_ _|refine blk_drew ?_|refine blk_alloc ?_ _); refine blk_far ?_ NB381_392.out _; (with_reducible repeat first|refine blk_drewN ?_ _|refine blk_drew ?_|refine blk_alloc ?_ _); exact BK381.out⟩, ⟨by (with_reducible repeat first|refine blk_drewN ?_ _|refine blk_drew ?_|refine blk_alloc ?_ _); refine blk_far ?_ NB382_392.out _; (with_reducible repeat first|refine blk_drewN ?_ _|refine blk_drew ?_|refine blk_alloc ?_ _); refine blk_far ?_ NB382_392.out _; (with_reducible repeat first|refine blk_drewN ?_ _|refine blk_drew ?_|refine blk_alloc ?_ _); refine blk_far ?_ NB382_392.out _; (with_reducible repeat first|refine blk_drewN ?_ _|refine blk_drew ?_|refine blk_alloc ?_ _); refine blk_far ?_ NB382_392.out _; (with_reducible repeat first|refine blk_drewN ?_ _|refine blk_drew ?_|refine blk_alloc ?_ _); refine blk_far ?_ NB382_392.out _; (with_reducible repeat first|refine blk_drewN ?_ _|refine blk_drew ?_|refine blk_alloc ?_ _); exact BK382.out⟩, ⟨bw⟩⟩
          ·rw [if_neg c21] at H
           have c21b0 : (t386 == a1_0 && (t387 == a1_1 && (t388 == a1_2))) = false := by simpa using c21
           (try (have c21b1 : decide (t386 = a1_0 && (t387 == a1_1 && (t388 == a1_2))) = false := by simpa using c21))
           (try (have c21b2 : (t386 == a1_0 && (t387 == a1_1 && (t388 == a1_2))) = false := by simpa using c21))
           (try (have c21b3 : ¬ (t386 = a1_0 && (t387 == a1_1 && (t388 == a1_2))) := by simpa using c21))
           clear c21
           have H' := AX H
           clear H
           have hnb41 := NB381_382.out
           have hnc41 := NB382_381.out
           obtain ⟨hcz42_0, hcz42_1, hcz42_2, hcz42_3, hcz42_4, hcz42_5, hcz42_6, hcz42_7, hcz42_8, hcz42_9⟩ := blkC10 (w := wr) BK381.out
           obtain ⟨hfz42_0, hfz42_1, hfz42_2, hfz42_3, hfz42_4, hfz42_5, hfz42_6, hfz42_7, hfz42_8, hfz42_9⟩ := blkF10 BK381.out
           go_wp2_with (first | ((with_reducible refine gate_callee (f := 38) rfl ?_); refine gL (some 48) Try.func38 #[.agg #[.int .i64 a0_0, .int .i64 a0_1, .int .i64 a0_2, .int .i64 a0_3, .int .i64 a0_4, .int .i64 a0_5, .int .i64 a0_6, .int .i64 a0_7, .int .i64 a0_8, .int .i64 a0_9], .int .i64 (wrap64 ((wrap64 (t384 * 86400)) + (wrap64 ((wrap64 ((wrap64 (a2 - a0_0)) - x11_2)) * 60))))] ?_; (with_reducible refine (pylonref04_At.calls k2 a0_0 a0_1 a0_2 a0_3 a0_4 a0_5 a0_6 a0_7 a0_8 a0_9 (wrap64 ((wrap64 (t384 * 86400)) + (wrap64 ((wrap64 ((wrap64 (a2 - a0_0)) - x11_2)) * 60)))) t386 t387 t388 t389 t390 t391 _ A19.out).mono ?_); rintro e w43 ⟨rfl, hb⟩; refine ⟨_, rfl, ?_⟩; replace HO_10 := AX (Kd.R_below (kr HO_10) hb); replace BK381 := AX (bkb BK381 hb); replace BK382 := AX (bkb BK382 hb); replace HB := AX (below_step bw hb); (try clear hb)) | ((with_reducible refine gate_dst (N := 13) rfl ?_); refine bx 13 #[.int .i64 0, .int .i64 0, .int .i64 0, .int .i64 0, .int .i64 0] 35 ?_; intro gb392 hg w44 hbox hb; have BK392 := AX (hbox); have GW392 := gwl (w := w) hg bw; have GE392 := GW392; have NB381_392 := nbl hg (bkn BK381); have NB392_381 := nbg hg (bkn BK381); have NB382_392 := nbl hg (bkn BK382); have NB392_382 := nbg hg (bkn BK382); replace HO_10 := AX (Kd.R_below (kr HO_10) hb); replace BK381 := AX (bkb BK381 hb); replace BK382 := AX (bkb BK382 hb); replace HB := AX (below_step bw hb); clear hb hbox hg; have hnb45 := NB392_381.out; have hnc45 := NB381_392.out; have hnb46 := NB392_382.out; have hnc46 := NB382_392.out; obtain ⟨hcz47_0, hcz47_1, hcz47_2, hcz47_3, hcz47_4⟩ := blkC5 (w := w44) BK392.out; obtain ⟨hfz47_0, hfz47_1, hfz47_2, hfz47_3, hfz47_4⟩ := blkF5 BK392.out; obtain ⟨hcz48_0, hcz48_1, hcz48_2⟩ := blkC3 (w := w44) BK382.out; obtain ⟨hfz48_0, hfz48_1, hfz48_2⟩ := blkF3 BK382.out))
           go_roundg k2
           case measure => have := HJ7.out; have := HK2.out; omega
           case rel => exact ⟨(x10_2), (wrap64 (x11_2 - 30)), (by first | rfl | (simp; done) | (simp [*]; done)), H', ⟨by have := HJ7.out; have := HK2.out; omega⟩, ⟨by (with_reducible repeat (first | apply Kd.R_alloc | apply Kd.R_drewN | apply Kd.R_drew)); exact Kd.R_mono (Kd.R_far (p := ⟨gb392, 4, none⟩) (Kd.R_far (p := ⟨gb392, 3, none⟩) (Kd.R_far (p := ⟨gb392, 2, none⟩) (Kd.R_far (p := ⟨gb392, 1, none⟩) (Kd.R_far (p := ⟨gb392, 0, none⟩) (Kd.R_types HO_10.out BK392.out (by decide)) (fun _ hk => hk.2) (.int .i64 t386)) (fun _ hk => hk.2) (.int .i64 t387)) (fun _ hk => hk.2) (.int .i64 t388)) (fun _ hk => hk.2) (.int .i64 t389)) (fun _ hk => hk.2) (.int .i64 t390)) (fun _ hk => trivial)⟩, ⟨by (with_reducible repeat first|refine blk_drewN ?_ _|refine blk_drew ?_|refine blk_alloc ?_ _); refine blk_far ?_ NB381_392.out _; (with_reducible repeat first|refine blk_drewN ?_ _|refine blk_drew ?_|refine blk_alloc ?_ _); refine blk_far ?_ NB381_392.out _; (with_reducible repeat first|refine blk_drewN ?_ _|refine blk_drew ?_|refine blk_alloc ?_ _); refine blk_far ?_ NB381_392.out _; (with_reducible repeat first|refine blk_drewN ?_ _|refine blk_drew ?_|refine blk_alloc ?_ _); refine blk_far ?_ NB381_392.out _; (with_reducible repeat first|refine blk_drewN ?_ _|refine blk_drew ?_|refine blk_alloc ?_ _); refine blk_far ?_ NB381_392.out _; (with_reducible repeat first|refine blk_drewN ?_ _|refine blk_drew ?_|refine blk_alloc ?_ _); exact BK381.out⟩, ⟨by (with_reducible repeat first|refine blk_drewN ?_ _|refine blk_drew ?_|refine blk_alloc ?_ _); refine blk_far ?_ NB382_392.out _; (with_reducible repeat first|refine blk_drewN ?_ _|refine blk_drew ?_|refine blk_alloc ?_ _); refine blk_far ?_ NB382_392.out _; (with_reducible repeat first|refine blk_drewN ?_ _|refine blk_drew ?_|refine blk_alloc ?_ _); refine blk_far ?_ NB382_392.out _; (with_reducible repeat first|refine blk_drewN ?_ _|refine blk_drew ?_|refine blk_alloc ?_ _); refine blk_far ?_ NB382_392.out _; (with_reducible repeat first|refine blk_drewN ?_ _|refine blk_drew ?_|refine blk_alloc ?_ _); refine blk_far ?_ NB382_392.out _; (with_reducible repeat first|refine blk_drewN ?_ _|refine blk_drew ?_|refine blk_alloc ?_ _); exact BK382.out⟩, ⟨bw⟩⟩
         ·rw [if_neg c20] at H
          have c20b0 : (t391 == 0) = false := beq_eq_false_iff_ne.mpr c20
          have c20b1 : (t391 != 0) = true := bne_iff_ne.mpr c20
          have H' := AX H
          clear H
          have hnb49 := NB381_382.out
          have hnc49 := NB382_381.out
          obtain ⟨hcz50_0, hcz50_1, hcz50_2, hcz50_3, hcz50_4, hcz50_5, hcz50_6, hcz50_7, hcz50_8, hcz50_9⟩ := blkC10 (w := wr) BK381.out
          obtain ⟨hfz50_0, hfz50_1, hfz50_2, hfz50_3, hfz50_4, hfz50_5, hfz50_6, hfz50_7, hfz50_8, hfz50_9⟩ := blkF10 BK381.out
          go_wp2_with (first | ((with_reducible refine gate_callee (f := 38) rfl ?_); refine gL (some 48) Try.func38 #[.agg #[.int .i64 a0_0, .int .i64 a0_1, .int .i64 a0_2, .int .i64 a0_3, .int .i64 a0_4, .int .i64 a0_5, .int .i64 a0_6, .int .i64 a0_7, .int .i64 a0_8, .int .i64 a0_9], .int .i64 (wrap64 ((wrap64 (t384 * 86400)) + (wrap64 ((wrap64 ((wrap64 (a2 - a0_0)) - x11_2)) * 60))))] ?_; (with_reducible refine (pylonref04_At.calls k2 a0_0 a0_1 a0_2 a0_3 a0_4 a0_5 a0_6 a0_7 a0_8 a0_9 (wrap64 ((wrap64 (t384 * 86400)) + (wrap64 ((wrap64 ((wrap64 (a2 - a0_0)) - x11_2)) * 60)))) t386 t387 t388 t389 t390 t391 _ A19.out).mono ?_); rintro e w51 ⟨rfl, hb⟩; refine ⟨_, rfl, ?_⟩; replace HO_10 := AX (Kd.R_below (kr HO_10) hb); replace BK381 := AX (bkb BK381 hb); replace BK382 := AX (bkb BK382 hb); replace HB := AX (below_step bw hb); (try clear hb)) | ((with_reducible refine gate_dst (N := 13) rfl ?_); refine bx 13 #[.int .i64 0, .int .i64 0, .int .i64 0, .int .i64 0, .int .i64 0] 35 ?_; intro gb392 hg w52 hbox hb; have BK392 := AX (hbox); have GW392 := gwl (w := w) hg bw; have GE392 := GW392; have NB381_392 := nbl hg (bkn BK381); have NB392_381 := nbg hg (bkn BK381); have NB382_392 := nbl hg (bkn BK382); have NB392_382 := nbg hg (bkn BK382); replace HO_10 := AX (Kd.R_below (kr HO_10) hb); replace BK381 := AX (bkb BK381 hb); replace BK382 := AX (bkb BK382 hb); replace HB := AX (below_step bw hb); clear hb hbox hg; have hnb53 := NB392_381.out; have hnc53 := NB381_392.out; have hnb54 := NB392_382.out; have hnc54 := NB382_392.out; obtain ⟨hcz55_0, hcz55_1, hcz55_2, hcz55_3, hcz55_4⟩ := blkC5 (w := w52) BK392.out; obtain ⟨hfz55_0, hfz55_1, hfz55_2, hfz55_3, hfz55_4⟩ := blkF5 BK392.out))
          go_roundg k2
          case measure => have := HJ7.out; have := HK2.out; omega
          case rel => exact ⟨(x10_2), (wrap64 (x11_2 - 30)), (by first | rfl | (simp; done) | (simp [*]; done)), H', ⟨by have := HJ7.out; have := HK2.out; omega⟩, ⟨by (with_reducible repeat (first | apply Kd.R_alloc | apply Kd.R_drewN | apply Kd.R_drew)); exact Kd.R_mono (Kd.R_far (p := ⟨gb392, 4, none⟩) (Kd.R_far (p := ⟨gb392, 3, none⟩) (Kd.R_far (p := ⟨gb392, 2, none⟩) (Kd.R_far (p := ⟨gb392, 1, none⟩) (Kd.R_far (p := ⟨gb392, 0, none⟩) (Kd.R_types HO_10.out BK392.out (by decide)) (fun _ hk => hk.2) (.int .i64 t386)) (fun _ hk => hk.2) (.int .i64 t387)) (fun _ hk => hk.2) (.int .i64 t388)) (fun _ hk => hk.2) (.int .i64 t389)) (fun _ hk => hk.2) (.int .i64 t390)) (fun _ hk => trivial)⟩, ⟨by (with_reducible repeat first|refine blk_drewN ?_ _|refine blk_drew ?_|refine blk_alloc ?_ _); refine blk_far ?_ NB381_392.out _; (with_reducible repeat first|refine blk_drewN ?_ _|refine blk_drew ?_|refine blk_alloc ?_ _); refine blk_far ?_ NB381_392.out _; (with_reducible repeat first|refine blk_drewN ?_ _|refine blk_drew ?_|refine blk_alloc ?_ _); refine blk_far ?_ NB381_392.out _; (with_reducible repeat first|refine blk_drewN ?_ _|refine blk_drew ?_|refine blk_alloc ?_ _); refine blk_far ?_ NB381_392.out _; (with_reducible repeat first|refine blk_drewN ?_ _|refine blk_drew ?_|refine blk_alloc ?_ _); refine blk_far ?_ NB381_392.out _; (with_reducible repeat first|refine blk_drewN ?_ _|refine blk_drew ?_|refine blk_alloc ?_ _); exact BK381.out⟩, ⟨by (with_reducible repeat first|refine blk_drewN ?_ _|refine blk_drew ?_|refine blk_alloc ?_ _); refine blk_far ?_ NB382_392.out _; (with_reducible repeat first|refine blk_drewN ?_ _|refine blk_drew ?_|refine blk_alloc ?_ _); refine blk_far ?_ NB382_392.out _; (with_reducible repeat first|refine blk_drewN ?_ _|refine blk_drew ?_|refine blk_alloc ?_ _); refine blk_far ?_ NB382_392.out _; (with_reducible repeat first|refine blk_drewN ?_ _|refine blk_drew ?_|refine blk_alloc ?_ _); refine blk_far ?_ NB382_392.out _; (with_reducible repeat first|refine blk_drewN ?_ _|refine blk_drew ?_|refine blk_alloc ?_ _); refine blk_far ?_ NB382_392.out _; (with_reducible repeat first|refine blk_drewN ?_ _|refine blk_drew ?_|refine blk_alloc ?_ _); exact BK382.out⟩, ⟨bw⟩⟩
        ·rw [if_neg c18] at H
         have c18b0 : decide (0 ≤ x11_2) = false := decide_eq_false c18
         clear c18
         simp only [Option.some.injEq, Prod.mk.injEq] at H
         obtain ⟨rfl, rfl⟩ := H
         go_wp2
         go_ret2
         exact ⟨_, by first | rfl | (simp [errW_none, errW_some] <;> rfl) | (simp [*, errW_none, errW_some] <;> rfl), kr HO_10, bw⟩
  ·rw [if_neg c7] at H
   have c7b0 : (t385 == 0) = false := beq_eq_false_iff_ne.mpr c7
   have c7b1 : (t385 != 0) = true := bne_iff_ne.mpr c7
   simp only [Option.some.injEq, Prod.mk.injEq] at H
   obtain ⟨rfl, rfl⟩ := H
   go_enter Try.func49, Try.ntmps49
   go_wp2_with (first | ((with_reducible refine gate_dst (N := 3) rfl ?_); refine bx 3 #[.int .i64 a0_0, .int .i64 a0_1, .int .i64 a0_2, .int .i64 a0_3, .int .i64 a0_4, .int .i64 a0_5, .int .i64 a0_6, .int .i64 a0_7, .int .i64 a0_8, .int .i64 a0_9] 25 ?_; intro gb381 hg w56 hbox hb; have BK381 := AX (hbox); have GW381 := gwl (w := w) hg bw; have GE381 := GW381; replace HB := AX (below_step bw hb); clear hb hbox hg) | ((with_reducible refine gate_dst (N := 4) rfl ?_); refine bx 4 #[.int .i64 a1_0, .int .i64 a1_1, .int .i64 a1_2] 33 ?_; intro gb382 hg w57 hbox hb; have BK382 := AX (hbox); have GW382 := gwl (w := w) hg bw; have GE382 := GW382; have NB381_382 := nbl hg (bkn BK381); have NB382_381 := nbg hg (bkn BK381); replace BK381 := AX (bkb BK381 hb); replace HB := AX (below_step bw hb); clear hb hbox hg; have hnb58 := NB381_382.out; have hnc58 := NB382_381.out; obtain ⟨hcz59_0, hcz59_1, hcz59_2, hcz59_3, hcz59_4, hcz59_5, hcz59_6, hcz59_7, hcz59_8, hcz59_9⟩ := blkC10 (w := w57) BK381.out; obtain ⟨hfz59_0, hfz59_1, hfz59_2, hfz59_3, hfz59_4, hfz59_5, hfz59_6, hfz59_7, hfz59_8, hfz59_9⟩ := blkF10 BK381.out) | ((with_reducible refine gate_callee (f := 16) rfl ?_); refine gL (some 16) Try.func16 #[.agg #[.int .i64 a0_0, .int .i64 a0_1, .int .i64 a0_2, .int .i64 a0_3, .int .i64 a0_4, .int .i64 a0_5, .int .i64 a0_6, .int .i64 a0_7, .int .i64 a0_8, .int .i64 a0_9]] ?_; (with_reducible refine (pylonref04_Check.calls k a0_0 a0_1 a0_2 a0_3 a0_4 a0_5 a0_6 a0_7 a0_8 a0_9 t383 _ A4.out).mono ?_); rintro e w60 ⟨rfl, hb⟩; refine ⟨_, rfl, ?_⟩; replace BK381 := AX (bkb BK381 hb); replace BK382 := AX (bkb BK382 hb); replace HB := AX (below_step bw hb); (try clear hb); obtain ⟨hcz61_0, hcz61_1, hcz61_2⟩ := blkC3 (w := w60) BK382.out; obtain ⟨hfz61_0, hfz61_1, hfz61_2⟩ := blkF3 BK382.out) | ((with_reducible refine gate_callee (f := 21) rfl ?_); refine gL (some 20) Try.func21 #[.agg #[.int .i64 a1_0, .int .i64 a1_1, .int .i64 a1_2]] ?_; (with_reducible refine (pylonref03_Days.calls k a1_0 a1_1 a1_2 t384 t385 _ A6.out).mono ?_); rintro e w62 ⟨rfl, hb⟩; refine ⟨_, rfl, ?_⟩; replace BK381 := AX (bkb BK381 hb); replace BK382 := AX (bkb BK382 hb); replace HB := AX (below_step bw hb); (try clear hb)))
   go_ret2
   exact ⟨_, by first | rfl | (simp [errW_none, errW_some] <;> rfl) | (simp [*, errW_none, errW_some] <;> rfl), by first | exact Kd.R_nil _ _ _ _ _ | exact Kd.N_nil _ _ _ _ _ | exact Kd.V_nil _ _ _ _ _ | exact Kd.Q_nil _ _ _ _ _ | exact Kd.S_nil _ _ _ _ _, bw⟩
 ·rw [if_neg c5] at H
  have c5b0 : (t383 == 0) = false := beq_eq_false_iff_ne.mpr c5
  have c5b1 : (t383 != 0) = true := bne_iff_ne.mpr c5
  simp only [Option.some.injEq, Prod.mk.injEq] at H
  obtain ⟨rfl, rfl⟩ := H
  go_enter Try.func49, Try.ntmps49
  go_wp2_with (first | ((with_reducible refine gate_dst (N := 3) rfl ?_); refine bx 3 #[.int .i64 a0_0, .int .i64 a0_1, .int .i64 a0_2, .int .i64 a0_3, .int .i64 a0_4, .int .i64 a0_5, .int .i64 a0_6, .int .i64 a0_7, .int .i64 a0_8, .int .i64 a0_9] 25 ?_; intro gb381 hg w63 hbox hb; have BK381 := AX (hbox); have GW381 := gwl (w := w) hg bw; have GE381 := GW381; replace HB := AX (below_step bw hb); clear hb hbox hg) | ((with_reducible refine gate_dst (N := 4) rfl ?_); refine bx 4 #[.int .i64 a1_0, .int .i64 a1_1, .int .i64 a1_2] 33 ?_; intro gb382 hg w64 hbox hb; have BK382 := AX (hbox); have GW382 := gwl (w := w) hg bw; have GE382 := GW382; have NB381_382 := nbl hg (bkn BK381); have NB382_381 := nbg hg (bkn BK381); replace BK381 := AX (bkb BK381 hb); replace HB := AX (below_step bw hb); clear hb hbox hg; have hnb65 := NB381_382.out; have hnc65 := NB382_381.out; obtain ⟨hcz66_0, hcz66_1, hcz66_2, hcz66_3, hcz66_4, hcz66_5, hcz66_6, hcz66_7, hcz66_8, hcz66_9⟩ := blkC10 (w := w64) BK381.out; obtain ⟨hfz66_0, hfz66_1, hfz66_2, hfz66_3, hfz66_4, hfz66_5, hfz66_6, hfz66_7, hfz66_8, hfz66_9⟩ := blkF10 BK381.out) | ((with_reducible refine gate_callee (f := 16) rfl ?_); refine gL (some 16) Try.func16 #[.agg #[.int .i64 a0_0, .int .i64 a0_1, .int .i64 a0_2, .int .i64 a0_3, .int .i64 a0_4, .int .i64 a0_5, .int .i64 a0_6, .int .i64 a0_7, .int .i64 a0_8, .int .i64 a0_9]] ?_; (with_reducible refine (pylonref04_Check.calls k a0_0 a0_1 a0_2 a0_3 a0_4 a0_5 a0_6 a0_7 a0_8 a0_9 t383 _ A4.out).mono ?_); rintro e w67 ⟨rfl, hb⟩; refine ⟨_, rfl, ?_⟩; replace BK381 := AX (bkb BK381 hb); replace BK382 := AX (bkb BK382 hb); replace HB := AX (below_step bw hb); (try clear hb)))
  go_ret2
  exact ⟨_, by first | rfl | (simp [errW_none, errW_some] <;> rfl) | (simp [*, errW_none, errW_some] <;> rfl), by first | exact Kd.R_nil _ _ _ _ _ | exact Kd.N_nil _ _ _ _ _ | exact Kd.V_nil _ _ _ _ _ | exact Kd.Q_nil _ _ _ _ _ | exact Kd.S_nil _ _ _ _ _, bw⟩

/-! ### pylonref03_Add: function 26 -/
def pylonref03_Add.f (k : Nat) (a0_0 : Int) (a0_1 : Int) (a0_2 : Int) (a1 : Int) : Option (Int × Int × Int × Int) := (pylonref03_Days.f k a0_0 a0_1 a0_2).bind fun bt398 => (if bt398.2 = 0 then (if a1 > 5000000 then (some (0, 0, 0, 5)) else (if a1 < (-5000000) then (some (0, 0, 0, 5)) else ((pylonref03_Of.f k (wrap64 (bt398.1 + a1))).bind fun bt400 => (some (bt400.1, bt400.2.1, bt400.2.2.1, bt400.2.2.2))))) else (some (0, 0, 0, 5)))
theorem pylonref03_Add.mono : ∀ a0 a1 a2 a3 k, LeO (pylonref03_Add.f k a0 a1 a2 a3) (pylonref03_Add.f (k + 1) a0 a1 a2 a3) := by
 intro a0 a1 a2 a3 k
 unfold pylonref03_Add.f
 repeat' first
   | (with_reducible exact pylonref03_Days.mono _ _ _ _)
   | (with_reducible exact pylonref03_Of.mono _ _)
   | (with_reducible exact LeO.refl _)
   | (with_reducible exact LeO.none _)
   | (with_reducible refine LeO.ite ?_ ?_)
   | (with_reducible refine LeO.bind ?_ (fun _ => ?_))
set_option maxHeartbeats 8000000 in
set_option maxRecDepth 100000 in
theorem pylonref03_Add.calls (k : Nat) (a0_0 : Int) (a0_1 : Int) (a0_2 : Int) (a1 : Int) (r1 : Int) (r2 : Int) (r3 : Int) (r4 : Int) (w : World) (h : pylonref03_Add.f k a0_0 a0_1 a0_2 a1 = some (r1, r2, r3, r4)) :
  Calls Try.prog 26 #[.agg #[.int .i64 a0_0, .int .i64 a0_1, .int .i64 a0_2], .int .i64 a1] w fun e w' => e = .returned (.tuple #[.agg #[.int .i64 r1, .int .i64 r2, .int .i64 r3], .int .i64 r4]) ∧ Below w.heap.size w w' := by
 have hu33 := Try.underlying33
 have HB := AX (Below.refl w.heap.size w)
 have H : ((pylonref03_Days.f k a0_0 a0_1 a0_2).bind fun bt398 => (if bt398.2 = 0 then (if a1 > 5000000 then (some (0, 0, 0, 5)) else (if a1 < (-5000000) then (some (0, 0, 0, 5)) else ((pylonref03_Of.f k (wrap64 (bt398.1 + a1))).bind fun bt400 => (some (bt400.1, bt400.2.1, bt400.2.2.1, bt400.2.2.2))))) else (some (0, 0, 0, 5)))) = some (r1, r2, r3, r4) := h
 clear h
 replace H := Option.bind_eq_some_iff.mp H
 obtain ⟨⟨t398, t399⟩, A30, H⟩ := H
 replace H : (if t399 = 0 then (if a1 > 5000000 then (some (0, 0, 0, 5)) else (if a1 < (-5000000) then (some (0, 0, 0, 5)) else ((pylonref03_Of.f k (wrap64 (t398 + a1))).bind fun bt400 => (some (bt400.1, bt400.2.1, bt400.2.2.1, bt400.2.2.2))))) else (some (0, 0, 0, 5))) = some (r1, r2, r3, r4) := H
 have A3 := AX A30
 clear A30
 by_cases c4 : t399 = 0
 ·rw [if_pos c4] at H
  have c4b0 : (t399 == 0) = true := beq_iff_eq.mpr c4
  have c4b1 : (t399 != 0) = false := bne_eq_false_iff_eq.mpr c4
  clear c4
  by_cases c5 : a1 > 5000000
  ·rw [if_pos c5] at H
   have c5b0 : decide (5000000 < a1) = true := decide_eq_true c5
   clear c5
   simp only [Option.some.injEq, Prod.mk.injEq] at H
   obtain ⟨rfl, rfl, rfl, rfl⟩ := H
   go_enter Try.func26, Try.ntmps26
   go_wp2_with (first | ((with_reducible refine gate_dst (N := 2) rfl ?_); refine bx 2 #[.int .i64 a0_0, .int .i64 a0_1, .int .i64 a0_2] 33 ?_; intro gb396 hg w6 hbox hb; have BK396 := AX (hbox); have GW396 := gwl (w := w) hg bw; have GE396 := GW396; replace HB := AX (below_step bw hb); clear hb hbox hg) | ((with_reducible refine gate_dst (N := 4) rfl ?_); refine bx 4 #[.int .i64 0, .int .i64 0, .int .i64 0] 33 ?_; intro gb397 hg w7 hbox hb; have BK397 := AX (hbox); have GW397 := gwl (w := w) hg bw; have GE397 := GW397; have NB396_397 := nbl hg (bkn BK396); have NB397_396 := nbg hg (bkn BK396); replace BK396 := AX (bkb BK396 hb); replace HB := AX (below_step bw hb); clear hb hbox hg; have hnb8 := NB396_397.out; have hnc8 := NB397_396.out; obtain ⟨hcz9_0, hcz9_1, hcz9_2⟩ := blkC3 (w := w7) BK396.out; obtain ⟨hfz9_0, hfz9_1, hfz9_2⟩ := blkF3 BK396.out) | ((with_reducible refine gate_callee (f := 21) rfl ?_); refine gL (some 10) Try.func21 #[.agg #[.int .i64 a0_0, .int .i64 a0_1, .int .i64 a0_2]] ?_; (with_reducible refine (pylonref03_Days.calls k a0_0 a0_1 a0_2 t398 t399 _ A3.out).mono ?_); rintro e w10 ⟨rfl, hb⟩; refine ⟨_, rfl, ?_⟩; replace BK396 := AX (bkb BK396 hb); replace BK397 := AX (bkb BK397 hb); replace HB := AX (below_step bw hb); (try clear hb); obtain ⟨hcz11_0, hcz11_1, hcz11_2⟩ := blkC3 (w := w10) BK397.out; obtain ⟨hfz11_0, hfz11_1, hfz11_2⟩ := blkF3 BK397.out))
   refine bodyPost_ret (results_ct rfl _ _ gb397 33 #[.int .i64 0, .int .i64 0, .int .i64 0] (0, 0) _ rfl (by (with_reducible repeat first|refine blk_drewN ?_ _|refine blk_drew ?_|refine blk_alloc ?_ _); refine blk_put (cs := #[.int .i64 0, .int .i64 0, .int .i64 0]) ?_ 2 _ rfl; (with_reducible repeat first|refine blk_drewN ?_ _|refine blk_drew ?_|refine blk_alloc ?_ _); refine blk_put (cs := #[.int .i64 0, .int .i64 0, .int .i64 0]) ?_ 1 _ rfl; (with_reducible repeat first|refine blk_drewN ?_ _|refine blk_drew ?_|refine blk_alloc ?_ _); refine blk_put (cs := #[.int .i64 0, .int .i64 0, .int .i64 0]) ?_ 0 _ rfl; (with_reducible repeat first|refine blk_drewN ?_ _|refine blk_drew ?_|refine blk_alloc ?_ _); exact BK397.out) Try.underlying33 rfl (by kernel_rfl)) rfl ?_
   exact ⟨by first | rfl | (simp [errW_none, errW_some] <;> rfl) | (simp [*, errW_none, errW_some] <;> rfl), bw⟩
  ·rw [if_neg c5] at H
   have c5b0 : decide (5000000 < a1) = false := decide_eq_false c5
   clear c5
   by_cases c12 : a1 < (-5000000)
   ·rw [if_pos c12] at H
    have c12b0 : decide (a1 < (-5000000)) = true := decide_eq_true c12
    clear c12
    simp only [Option.some.injEq, Prod.mk.injEq] at H
    obtain ⟨rfl, rfl, rfl, rfl⟩ := H
    go_enter Try.func26, Try.ntmps26
    go_wp2_with (first | ((with_reducible refine gate_dst (N := 2) rfl ?_); refine bx 2 #[.int .i64 a0_0, .int .i64 a0_1, .int .i64 a0_2] 33 ?_; intro gb396 hg w13 hbox hb; have BK396 := AX (hbox); have GW396 := gwl (w := w) hg bw; have GE396 := GW396; replace HB := AX (below_step bw hb); clear hb hbox hg) | ((with_reducible refine gate_dst (N := 4) rfl ?_); refine bx 4 #[.int .i64 0, .int .i64 0, .int .i64 0] 33 ?_; intro gb397 hg w14 hbox hb; have BK397 := AX (hbox); have GW397 := gwl (w := w) hg bw; have GE397 := GW397; have NB396_397 := nbl hg (bkn BK396); have NB397_396 := nbg hg (bkn BK396); replace BK396 := AX (bkb BK396 hb); replace HB := AX (below_step bw hb); clear hb hbox hg; have hnb15 := NB396_397.out; have hnc15 := NB397_396.out; obtain ⟨hcz16_0, hcz16_1, hcz16_2⟩ := blkC3 (w := w14) BK396.out; obtain ⟨hfz16_0, hfz16_1, hfz16_2⟩ := blkF3 BK396.out) | ((with_reducible refine gate_callee (f := 21) rfl ?_); refine gL (some 10) Try.func21 #[.agg #[.int .i64 a0_0, .int .i64 a0_1, .int .i64 a0_2]] ?_; (with_reducible refine (pylonref03_Days.calls k a0_0 a0_1 a0_2 t398 t399 _ A3.out).mono ?_); rintro e w17 ⟨rfl, hb⟩; refine ⟨_, rfl, ?_⟩; replace BK396 := AX (bkb BK396 hb); replace BK397 := AX (bkb BK397 hb); replace HB := AX (below_step bw hb); (try clear hb); obtain ⟨hcz18_0, hcz18_1, hcz18_2⟩ := blkC3 (w := w17) BK397.out; obtain ⟨hfz18_0, hfz18_1, hfz18_2⟩ := blkF3 BK397.out))
    refine bodyPost_ret (results_ct rfl _ _ gb397 33 #[.int .i64 0, .int .i64 0, .int .i64 0] (0, 0) _ rfl (by (with_reducible repeat first|refine blk_drewN ?_ _|refine blk_drew ?_|refine blk_alloc ?_ _); refine blk_put (cs := #[.int .i64 0, .int .i64 0, .int .i64 0]) ?_ 2 _ rfl; (with_reducible repeat first|refine blk_drewN ?_ _|refine blk_drew ?_|refine blk_alloc ?_ _); refine blk_put (cs := #[.int .i64 0, .int .i64 0, .int .i64 0]) ?_ 1 _ rfl; (with_reducible repeat first|refine blk_drewN ?_ _|refine blk_drew ?_|refine blk_alloc ?_ _); refine blk_put (cs := #[.int .i64 0, .int .i64 0, .int .i64 0]) ?_ 0 _ rfl; (with_reducible repeat first|refine blk_drewN ?_ _|refine blk_drew ?_|refine blk_alloc ?_ _); exact BK397.out) Try.underlying33 rfl (by kernel_rfl)) rfl ?_
    exact ⟨by first | rfl | (simp [errW_none, errW_some] <;> rfl) | (simp [*, errW_none, errW_some] <;> rfl), bw⟩
   ·rw [if_neg c12] at H
    have c12b0 : decide (a1 < (-5000000)) = false := decide_eq_false c12
    clear c12
    replace H := Option.bind_eq_some_iff.mp H
    obtain ⟨⟨t400, t401, t402, t403⟩, A190, H⟩ := H
    replace H : (some (t400, t401, t402, t403)) = some (r1, r2, r3, r4) := H
    have A19 := AX A190
    clear A190
    simp only [Option.some.injEq, Prod.mk.injEq] at H
    obtain ⟨rfl, rfl, rfl, rfl⟩ := H
    go_enter Try.func26, Try.ntmps26
    go_wp2_with (first | ((with_reducible refine gate_dst (N := 2) rfl ?_); refine bx 2 #[.int .i64 a0_0, .int .i64 a0_1, .int .i64 a0_2] 33 ?_; intro gb396 hg w20 hbox hb; have BK396 := AX (hbox); have GW396 := gwl (w := w) hg bw; have GE396 := GW396; replace HB := AX (below_step bw hb); clear hb hbox hg) | ((with_reducible refine gate_dst (N := 4) rfl ?_); refine bx 4 #[.int .i64 0, .int .i64 0, .int .i64 0] 33 ?_; intro gb397 hg w21 hbox hb; have BK397 := AX (hbox); have GW397 := gwl (w := w) hg bw; have GE397 := GW397; have NB396_397 := nbl hg (bkn BK396); have NB397_396 := nbg hg (bkn BK396); replace BK396 := AX (bkb BK396 hb); replace HB := AX (below_step bw hb); clear hb hbox hg; have hnb22 := NB396_397.out; have hnc22 := NB397_396.out; obtain ⟨hcz23_0, hcz23_1, hcz23_2⟩ := blkC3 (w := w21) BK396.out; obtain ⟨hfz23_0, hfz23_1, hfz23_2⟩ := blkF3 BK396.out) | ((with_reducible refine gate_callee (f := 21) rfl ?_); refine gL (some 10) Try.func21 #[.agg #[.int .i64 a0_0, .int .i64 a0_1, .int .i64 a0_2]] ?_; (with_reducible refine (pylonref03_Days.calls k a0_0 a0_1 a0_2 t398 t399 _ A3.out).mono ?_); rintro e w24 ⟨rfl, hb⟩; refine ⟨_, rfl, ?_⟩; replace BK396 := AX (bkb BK396 hb); replace BK397 := AX (bkb BK397 hb); replace HB := AX (below_step bw hb); (try clear hb)) | ((with_reducible refine gate_callee (f := 25) rfl ?_); refine gL (some 27) Try.func25 #[.int .i64 (wrap64 (t398 + a1))] ?_; (with_reducible refine (pylonref03_Of.calls k (wrap64 (t398 + a1)) t400 t401 t402 t403 _ A19.out).mono ?_); rintro e w25 ⟨rfl, hb⟩; refine ⟨_, rfl, ?_⟩; replace BK396 := AX (bkb BK396 hb); replace BK397 := AX (bkb BK397 hb); replace HB := AX (below_step bw hb); (try clear hb); obtain ⟨hcz26_0, hcz26_1, hcz26_2⟩ := blkC3 (w := w25) BK397.out; obtain ⟨hfz26_0, hfz26_1, hfz26_2⟩ := blkF3 BK397.out))
    refine bodyPost_ret (results_ct rfl _ _ gb397 33 #[.int .i64 t400, .int .i64 t401, .int .i64 t402] (0, 0) _ rfl (by (with_reducible repeat first|refine blk_drewN ?_ _|refine blk_drew ?_|refine blk_alloc ?_ _); refine blk_put (cs := #[.int .i64 t400, .int .i64 t401, .int .i64 0]) ?_ 2 _ rfl; (with_reducible repeat first|refine blk_drewN ?_ _|refine blk_drew ?_|refine blk_alloc ?_ _); refine blk_put (cs := #[.int .i64 t400, .int .i64 0, .int .i64 0]) ?_ 1 _ rfl; (with_reducible repeat first|refine blk_drewN ?_ _|refine blk_drew ?_|refine blk_alloc ?_ _); refine blk_put (cs := #[.int .i64 0, .int .i64 0, .int .i64 0]) ?_ 0 _ rfl; (with_reducible repeat first|refine blk_drewN ?_ _|refine blk_drew ?_|refine blk_alloc ?_ _); exact BK397.out) Try.underlying33 rfl (by kernel_rfl)) rfl ?_
    exact ⟨by first | rfl | (simp [errW_none, errW_some] <;> rfl) | (simp [*, errW_none, errW_some] <;> rfl), bw⟩
 ·rw [if_neg c4] at H
  have c4b0 : (t399 == 0) = false := beq_eq_false_iff_ne.mpr c4
  have c4b1 : (t399 != 0) = true := bne_iff_ne.mpr c4
  simp only [Option.some.injEq, Prod.mk.injEq] at H
  obtain ⟨rfl, rfl, rfl, rfl⟩ := H
  go_enter Try.func26, Try.ntmps26
  go_wp2_with (first | ((with_reducible refine gate_dst (N := 2) rfl ?_); refine bx 2 #[.int .i64 a0_0, .int .i64 a0_1, .int .i64 a0_2] 33 ?_; intro gb396 hg w27 hbox hb; have BK396 := AX (hbox); have GW396 := gwl (w := w) hg bw; have GE396 := GW396; replace HB := AX (below_step bw hb); clear hb hbox hg) | ((with_reducible refine gate_dst (N := 4) rfl ?_); refine bx 4 #[.int .i64 0, .int .i64 0, .int .i64 0] 33 ?_; intro gb397 hg w28 hbox hb; have BK397 := AX (hbox); have GW397 := gwl (w := w) hg bw; have GE397 := GW397; have NB396_397 := nbl hg (bkn BK396); have NB397_396 := nbg hg (bkn BK396); replace BK396 := AX (bkb BK396 hb); replace HB := AX (below_step bw hb); clear hb hbox hg; have hnb29 := NB396_397.out; have hnc29 := NB397_396.out; obtain ⟨hcz30_0, hcz30_1, hcz30_2⟩ := blkC3 (w := w28) BK396.out; obtain ⟨hfz30_0, hfz30_1, hfz30_2⟩ := blkF3 BK396.out) | ((with_reducible refine gate_callee (f := 21) rfl ?_); refine gL (some 10) Try.func21 #[.agg #[.int .i64 a0_0, .int .i64 a0_1, .int .i64 a0_2]] ?_; (with_reducible refine (pylonref03_Days.calls k a0_0 a0_1 a0_2 t398 t399 _ A3.out).mono ?_); rintro e w31 ⟨rfl, hb⟩; refine ⟨_, rfl, ?_⟩; replace BK396 := AX (bkb BK396 hb); replace BK397 := AX (bkb BK397 hb); replace HB := AX (below_step bw hb); (try clear hb); obtain ⟨hcz32_0, hcz32_1, hcz32_2⟩ := blkC3 (w := w31) BK397.out; obtain ⟨hfz32_0, hfz32_1, hfz32_2⟩ := blkF3 BK397.out))
  refine bodyPost_ret (results_ct rfl _ _ gb397 33 #[.int .i64 0, .int .i64 0, .int .i64 0] (0, 0) _ rfl (by (with_reducible repeat first|refine blk_drewN ?_ _|refine blk_drew ?_|refine blk_alloc ?_ _); refine blk_put (cs := #[.int .i64 0, .int .i64 0, .int .i64 0]) ?_ 2 _ rfl; (with_reducible repeat first|refine blk_drewN ?_ _|refine blk_drew ?_|refine blk_alloc ?_ _); refine blk_put (cs := #[.int .i64 0, .int .i64 0, .int .i64 0]) ?_ 1 _ rfl; (with_reducible repeat first|refine blk_drewN ?_ _|refine blk_drew ?_|refine blk_alloc ?_ _); refine blk_put (cs := #[.int .i64 0, .int .i64 0, .int .i64 0]) ?_ 0 _ rfl; (with_reducible repeat first|refine blk_drewN ?_ _|refine blk_drew ?_|refine blk_alloc ?_ _); exact BK397.out) Try.underlying33 rfl (by kernel_rfl)) rfl ?_
  exact ⟨by first | rfl | (simp [errW_none, errW_some] <;> rfl) | (simp [*, errW_none, errW_some] <;> rfl), bw⟩

end Go.Proofs.Ytddkckpfmleffaa.PX
