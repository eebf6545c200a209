/- Functions of the program as plain Lean functions, each with a proof that the call in the machine answers just what the plain function says; condition: the plain function answers at all. -/
import Derived.Test.YtddkckpfmleffaaPXx0
import Derived.Test.YtddkckpfmleffaaPXx4
import Derived.Test.YtddkckpfmleffaaPXx5
import Derived.Test.YtddkckpfmleffaaPXx6
namespace Go.Proofs.Ytddkckpfmleffaa.PX
open Go.RowKit Go.Proofs.YtddkckpfmleffaaW.PrintWords Go.Proofs.YtddkckpfmleffaaW.PrintLast Go.Proofs.YtddkckpfmleffaaW.PrintMore
attribute [local go_sem] max2_int min2_int max_two min_two max_three min_three max_four min_four   -- for this text's walks alone
set_option linter.unusedVariables false
set_option linter.unusedSimpArgs false

/-! ### zone_Moments: function 20 -/
mutual
def zone_Moments.j0 : Nat → Int → Int → Bool → Int → Int → Int → Int → Int → Int → Int → Int → Int → Int → Option (List Int × Int)
 | 0, _, _, _, _, _, _, _, _, _, _, _, _, _ => none
 | k + 1, x2, x8, x33, x220000, x220001, x220002, x220003, x220004, x220005, x220006, x220007, x220008, x220009 => if x33 = true then (some (([] : List Int), 8)) else ((some (([x220001, 0] : List Int) : List Int)).bind fun y224 => (zone_Moments.l0 k ([] : List Int) (wrap64 ((wrap64 (x8 * 86400)) + (wrap64 (60 * (wrap64 (x2 - x220000)))))) y224 (y224.length : Int) 0 x220000 x220001 x220002 x220003 x220004 x220005 x220006 x220007 x220008 x220009))
def zone_Moments.l0 : Nat → List Int → Int → List Int → Int → Int → Int → Int → Int → Int → Int → Int → Int → Int → Int → Int → Option (List Int × Int)
 | 0, _, _, _, _, _, _, _, _, _, _, _, _, _, _, _ => none
 | k + 1, x10, x11, x44, x45, x46, x220000, x220001, x220002, x220003, x220004, x220005, x220006, x220007, x220008, x220009 => if x46 < x45 then (if 0 ≤ x46 then (if x46 < (x44.length : Int) then ((zone_At.f k x220000 x220001 x220002 x220003 x220004 x220005 x220006 x220007 x220008 x220009 (wrap64 (x11 - (wrap64 (60 * (rd x44 x46)))))).bind fun bt228 => (if bt228.2.2.2.2.2 = 0 then (if bt228.2.2.2.2.1 = (wrap64 (x220000 + (rd x44 x46))) then (if (x10.length : Int) = 0 then (if x10.length < 17592186044416 then (zone_Moments.l0 k (x10 ++ [wrap64 (x11 - (wrap64 (60 * (rd x44 x46))))]) x11 x44 x45 (wrap64 (x46 + 1)) x220000 x220001 x220002 x220003 x220004 x220005 x220006 x220007 x220008 x220009) else (none)) else (if 0 < (x10.length : Int) then (if (rd x10 0) = (wrap64 (x11 - (wrap64 (60 * (rd x44 x46))))) then (zone_Moments.l0 k x10 x11 x44 x45 (wrap64 (x46 + 1)) x220000 x220001 x220002 x220003 x220004 x220005 x220006 x220007 x220008 x220009) else (if x10.length < 17592186044416 then (zone_Moments.l0 k (x10 ++ [wrap64 (x11 - (wrap64 (60 * (rd x44 x46))))]) x11 x44 x45 (wrap64 (x46 + 1)) x220000 x220001 x220002 x220003 x220004 x220005 x220006 x220007 x220008 x220009) else (none))) else (none))) else (zone_Moments.l0 k x10 x11 x44 x45 (wrap64 (x46 + 1)) x220000 x220001 x220002 x220003 x220004 x220005 x220006 x220007 x220008 x220009)) else (zone_Moments.l0 k x10 x11 x44 x45 (wrap64 (x46 + 1)) x220000 x220001 x220002 x220003 x220004 x220005 x220006 x220007 x220008 x220009))) else (none)) else (none)) else (some (x10, 0))
end
def zone_Moments.f (k : Nat) (a0_0 : Int) (a0_1 : Int) (a0_2 : Int) (a0_3 : Int) (a0_4 : Int) (a0_5 : Int) (a0_6 : Int) (a0_7 : Int) (a0_8 : Int) (a0_9 : Int) (a1_0 : Int) (a1_1 : Int) (a1_2 : Int) (a2 : Int) : Option (List Int × Int) := (zone_Check.f k a0_0 a0_1 a0_2 a0_3 a0_4 a0_5 a0_6 a0_7 a0_8 a0_9).bind fun t221 => (if t221 = 0 then ((civil_Days.f a1_0 a1_1 a1_2).bind fun bt222 => (if bt222.2 = 0 then (if a2 < 0 then (zone_Moments.j0 k a2 bt222.1 true a0_0 a0_1 a0_2 a0_3 a0_4 a0_5 a0_6 a0_7 a0_8 a0_9) else (zone_Moments.j0 k a2 bt222.1 (decide (a2 > 1439)) a0_0 a0_1 a0_2 a0_3 a0_4 a0_5 a0_6 a0_7 a0_8 a0_9)) else (some (([] : List Int), bt222.2)))) else (some (([] : List Int), 8)))
theorem zone_Moments.mono_l : ∀ k, (∀ y0 y1 y2 y3 y4 y5 y6 y7 y8 y9 y10 y11 y12, LeO (zone_Moments.j0 k y0 y1 y2 y3 y4 y5 y6 y7 y8 y9 y10 y11 y12) (zone_Moments.j0 (k + 1) y0 y1 y2 y3 y4 y5 y6 y7 y8 y9 y10 y11 y12)) ∧ (∀ y0 y1 y2 y3 y4 y5 y6 y7 y8 y9 y10 y11 y12 y13 y14, LeO (zone_Moments.l0 k y0 y1 y2 y3 y4 y5 y6 y7 y8 y9 y10 y11 y12 y13 y14) (zone_Moments.l0 (k + 1) y0 y1 y2 y3 y4 y5 y6 y7 y8 y9 y10 y11 y12 y13 y14))
 | 0 => ⟨fun _ _ _ _ _ _ _ _ _ _ _ _ _ r h => by simp [zone_Moments.j0] at h, fun _ _ _ _ _ _ _ _ _ _ _ _ _ _ _ r h => by simp [zone_Moments.l0] at h⟩
 | k + 1 => by
  obtain ⟨ih0, ih1⟩ := zone_Moments.mono_l k
  refine ⟨?_, ?_⟩
  ·intro y0 y1 y2 y3 y4 y5 y6 y7 y8 y9 y10 y11 y12
   unfold zone_Moments.j0
   repeat' first
   | (with_reducible exact ih0 _ _ _ _ _ _ _ _ _ _ _ _ _)
   | (with_reducible exact ih1 _ _ _ _ _ _ _ _ _ _ _ _ _ _ _)
   | (with_reducible exact zone_At.mono _ _ _ _ _ _ _ _ _ _ _ _)
   | (with_reducible exact zone_Check.mono _ _ _ _ _ _ _ _ _ _ _)
   | (with_reducible exact LeO.refl _)
   | (with_reducible exact LeO.none _)
   | (with_reducible refine LeO.ite ?_ ?_)
   | (with_reducible refine LeO.bind ?_ (fun _ => ?_))
  ·intro y0 y1 y2 y3 y4 y5 y6 y7 y8 y9 y10 y11 y12 y13 y14
   unfold zone_Moments.l0
   repeat' first
   | (with_reducible exact ih0 _ _ _ _ _ _ _ _ _ _ _ _ _)
   | (with_reducible exact ih1 _ _ _ _ _ _ _ _ _ _ _ _ _ _ _)
   | (with_reducible exact zone_At.mono _ _ _ _ _ _ _ _ _ _ _ _)
   | (with_reducible exact zone_Check.mono _ _ _ _ _ _ _ _ _ _ _)
   | (with_reducible exact LeO.refl _)
   | (with_reducible exact LeO.none _)
   | (with_reducible refine LeO.ite ?_ ?_)
   | (with_reducible refine LeO.bind ?_ (fun _ => ?_))
theorem zone_Moments.mono : ∀ a0 a1 a2 a3 a4 a5 a6 a7 a8 a9 a10 a11 a12 a13 k, LeO (zone_Moments.f k a0 a1 a2 a3 a4 a5 a6 a7 a8 a9 a10 a11 a12 a13) (zone_Moments.f (k + 1) a0 a1 a2 a3 a4 a5 a6 a7 a8 a9 a10 a11 a12 a13) := by
 intro a0 a1 a2 a3 a4 a5 a6 a7 a8 a9 a10 a11 a12 a13 k
 obtain ⟨ih0, ih1⟩ := zone_Moments.mono_l k
 unfold zone_Moments.f
 repeat' first
   | (with_reducible exact ih0 _ _ _ _ _ _ _ _ _ _ _ _ _)
   | (with_reducible exact ih1 _ _ _ _ _ _ _ _ _ _ _ _ _ _ _)
   | (with_reducible exact zone_At.mono _ _ _ _ _ _ _ _ _ _ _ _)
   | (with_reducible exact zone_Check.mono _ _ _ _ _ _ _ _ _ _ _)
   | (with_reducible exact LeO.refl _)
   | (with_reducible exact LeO.none _)
   | (with_reducible refine LeO.ite ?_ ?_)
   | (with_reducible refine LeO.bind ?_ (fun _ => ?_))
set_option maxHeartbeats 8000000 in
set_option maxRecDepth 100000 in
theorem zone_Moments.calls (k : Nat) (a0_0 : Int) (a0_1 : Int) (a0_2 : Int) (a0_3 : Int) (a0_4 : Int) (a0_5 : Int) (a0_6 : Int) (a0_7 : Int) (a0_8 : Int) (a0_9 : Int) (a1_0 : Int) (a1_1 : Int) (a1_2 : Int) (a2 : Int) (r1 : List Int) (r2 : Int) (w : World) (h : zone_Moments.f k a0_0 a0_1 a0_2 a0_3 a0_4 a0_5 a0_6 a0_7 a0_8 a0_9 a1_0 a1_1 a1_2 a2 = some (r1, r2)) :
  Calls Try.prog 20 #[.agg #[.int .i64 a0_0, .int .i64 a0_1, .int .i64 a0_2, .int .i64 a0_3, .int .i64 a0_4, .int .i64 a0_5, .int .i64 a0_6, .int .i64 a0_7, .int .i64 a0_8, .int .i64 a0_9], .agg #[.int .i64 a1_0, .int .i64 a1_1, .int .i64 a1_2], .int .i64 a2] w fun e w' => ∃ v0_ : Value, e = .returned (.tuple #[v0_, .int .i64 r2]) ∧ Kd.R (Kd.int .i64) 2 w' w.heap.size (fun _ => True) v0_ r1 ∧ Below w.heap.size w w' := by
 have hu25 := Try.underlying25
 have hu33 := Try.underlying33
 have hu35 := Try.underlying35
 have HB := AX (Below.refl w.heap.size w)
 have H : ((zone_Check.f k a0_0 a0_1 a0_2 a0_3 a0_4 a0_5 a0_6 a0_7 a0_8 a0_9).bind fun t221 => (if t221 = 0 then ((civil_Days.f a1_0 a1_1 a1_2).bind fun bt222 => (if bt222.2 = 0 then (if a2 < 0 then (zone_Moments.j0 k a2 bt222.1 true a0_0 a0_1 a0_2 a0_3 a0_4 a0_5 a0_6 a0_7 a0_8 a0_9) else (zone_Moments.j0 k a2 bt222.1 (decide (a2 > 1439)) a0_0 a0_1 a0_2 a0_3 a0_4 a0_5 a0_6 a0_7 a0_8 a0_9)) else (some (([] : List Int), bt222.2)))) else (some (([] : List Int), 8)))) = some (r1, r2) := h
 clear h
 replace H := Option.bind_eq_some_iff.mp H
 obtain ⟨t221, A40, H⟩ := H
 replace H : (if t221 = 0 then ((civil_Days.f a1_0 a1_1 a1_2).bind fun bt222 => (if bt222.2 = 0 then (if a2 < 0 then (zone_Moments.j0 k a2 bt222.1 true a0_0 a0_1 a0_2 a0_3 a0_4 a0_5 a0_6 a0_7 a0_8 a0_9) else (zone_Moments.j0 k a2 bt222.1 (decide (a2 > 1439)) a0_0 a0_1 a0_2 a0_3 a0_4 a0_5 a0_6 a0_7 a0_8 a0_9)) else (some (([] : List Int), bt222.2)))) else (some (([] : List Int), 8))) = some (r1, r2) := H
 have A4 := AX A40
 clear A40
 by_cases c5 : t221 = 0
 ·rw [if_pos c5] at H
  have c5b0 : (t221 == 0) = true := beq_iff_eq.mpr c5
  have c5b1 : (t221 != 0) = false := bne_eq_false_iff_eq.mpr c5
  clear c5
  replace H := Option.bind_eq_some_iff.mp H
  obtain ⟨⟨t222, t223⟩, A60, H⟩ := H
  replace H : (if t223 = 0 then (if a2 < 0 then (zone_Moments.j0 k a2 t222 true a0_0 a0_1 a0_2 a0_3 a0_4 a0_5 a0_6 a0_7 a0_8 a0_9) else (zone_Moments.j0 k a2 t222 (decide (a2 > 1439)) a0_0 a0_1 a0_2 a0_3 a0_4 a0_5 a0_6 a0_7 a0_8 a0_9)) else (some (([] : List Int), t223))) = some (r1, r2) := H
  have A6 := AX A60
  clear A60
  by_cases c7 : t223 = 0
  ·rw [if_pos c7] at H
   have c7b0 : (t223 == 0) = true := beq_iff_eq.mpr c7
   have c7b1 : (t223 != 0) = false := bne_eq_false_iff_eq.mpr c7
   clear c7
   have HC8 := AX H
   clear H
   go_enter Try.func20, Try.ntmps20
   go_upto_region 6 with (first | ((with_reducible refine gate_dst (N := 3) rfl ?_); (try (refine gate_guard (by rfl) ?_; dsimp only)); refine bx 3 #[.int .i64 a0_0, .int .i64 a0_1, .int .i64 a0_2, .int .i64 a0_3, .int .i64 a0_4, .int .i64 a0_5, .int .i64 a0_6, .int .i64 a0_7, .int .i64 a0_8, .int .i64 a0_9] 25 ?_; intro gb219 hg w9 hbox hb; have BK219 := AX (hbox); have GW219 := gwl (w := w) hg bw; have GE219 := GW219; replace HB := AX (below_step bw hb); clear hb hbox hg) | ((with_reducible refine gate_dst (N := 4) rfl ?_); (try (refine gate_guard (by rfl) ?_; dsimp only)); refine bx 4 #[.int .i64 a1_0, .int .i64 a1_1, .int .i64 a1_2] 33 ?_; intro gb220 hg w10 hbox hb; have BK220 := AX (hbox); have GW220 := gwl (w := w) hg bw; have GE220 := GW220; have NB219_220 := nbl hg (bkn BK219); have NB220_219 := nbg hg (bkn BK219); replace BK219 := AX (bkb BK219 hb); replace HB := AX (below_step bw hb); clear hb hbox hg; have hnb11 := NB219_220.out; have hnc11 := NB220_219.out; obtain ⟨hcz12_0, hcz12_1, hcz12_2, hcz12_3, hcz12_4, hcz12_5, hcz12_6, hcz12_7, hcz12_8, hcz12_9⟩ := blkC10 (w := w10) BK219.out; obtain ⟨hfz12_0, hfz12_1, hfz12_2, hfz12_3, hfz12_4, hfz12_5, hfz12_6, hfz12_7, hfz12_8, hfz12_9⟩ := blkF10 BK219.out) | ((with_reducible refine gate_callee (f := 19) rfl ?_); refine gL (some 18) Try.func19 #[.agg #[.int .i64 a0_0, .int .i64 a0_1, .int .i64 a0_2, .int .i64 a0_3, .int .i64 a0_4, .int .i64 a0_5, .int .i64 a0_6, .int .i64 a0_7, .int .i64 a0_8, .int .i64 a0_9]] ?_; (with_reducible refine (zone_Check.calls k a0_0 a0_1 a0_2 a0_3 a0_4 a0_5 a0_6 a0_7 a0_8 a0_9 t221 _ A4.out).mono ?_); rintro e w13 ⟨rfl, hb⟩; refine ⟨_, rfl, ?_⟩; replace BK219 := AX (bkb BK219 hb); replace BK220 := AX (bkb BK220 hb); replace HB := AX (below_step bw hb); (try clear hb); obtain ⟨hcz14_0, hcz14_1, hcz14_2⟩ := blkC3 (w := w13) BK220.out; obtain ⟨hfz14_0, hfz14_1, hfz14_2⟩ := blkF3 BK220.out) | ((with_reducible refine gate_callee (f := 45) rfl ?_); refine gL (some 22) Try.func45 #[.agg #[.int .i64 a1_0, .int .i64 a1_1, .int .i64 a1_2]] ?_; (with_reducible refine (civil_Days.calls a1_0 a1_1 a1_2 t222 t223 _ A6.out).mono ?_); rintro e w15 ⟨rfl, hb⟩; refine ⟨_, rfl, ?_⟩; replace BK219 := AX (bkb BK219 hb); replace BK220 := AX (bkb BK220 hb); replace HB := AX (below_step bw hb); (try clear hb)))
   (try simp only [Act.put, List.setIfInBounds_toArray, List.set_cons_zero, List.set_cons_succ])
   go_cut [33] (fun v33 wc => ∃ (kq : Nat) (x33_7 : Bool), v33 = .bool x33_7 ∧ Aside0 (zone_Moments.j0 kq a2 t222 x33_7 a0_0 a0_1 a0_2 a0_3 a0_4 a0_5 a0_6 a0_7 a0_8 a0_9 = some (r1, r2)) ∧ Aside0 (kq ≤ k) ∧ Aside0 (wc.heap[gb219]? = some (.cells #[.int .i64 a0_0, .int .i64 a0_1, .int .i64 a0_2, .int .i64 a0_3, .int .i64 a0_4, .int .i64 a0_5, .int .i64 a0_6, .int .i64 a0_7, .int .i64 a0_8, .int .i64 a0_9] 25 (0, 0))) ∧ Aside0 (wc.heap[gb220]? = some (.cells #[.int .i64 a1_0, .int .i64 a1_1, .int .i64 a1_2] 33 (0, 0))) ∧ Aside0 (Below w.heap.size w wc))
   case first =>
    have H := HC8.out
    clear HC8
    by_cases c16 : a2 < 0
    ·rw [if_pos c16] at H
     have c16b0 : decide (a2 < 0) = true := decide_eq_true c16
     clear c16
     (first | rw [c16b0] | (simp only [i64_w, i32_w]; rw [c16b0]) | skip)
     have H' := AX H
     clear H
     go_wp2
     go_meet
     case rel => exact ⟨_, (true), (by first | rfl | (simp; done) | (simp [*]; done)), H', ⟨by first | omega | exact Nat.le_refl _⟩, ⟨bkn BK219⟩, ⟨bkn BK220⟩, ⟨bw⟩⟩
    ·rw [if_neg c16] at H
     have c16b0 : decide (a2 < 0) = false := decide_eq_false c16
     clear c16
     (first | rw [c16b0] | (simp only [i64_w, i32_w]; rw [c16b0]) | skip)
     have H' := AX H
     clear H
     go_wp2
     go_meet
     case rel => exact ⟨_, (decide (a2 > 1439)), (by first | rfl | (simp; done) | (simp [*]; done)), H', ⟨by first | omega | exact Nat.le_refl _⟩, ⟨bkn BK219⟩, ⟨bkn BK220⟩, ⟨bw⟩⟩
   case rest =>
    clear HC8
    try clear c5b0 c5b1
    try clear c7b0 c7b1
    try clear hcz12_0 hcz12_1 hcz12_2 hcz12_3 hcz12_4 hcz12_5 hcz12_6 hcz12_7 hcz12_8 hcz12_9
    try clear hcz14_0 hcz14_1 hcz14_2
    try clear hfz12_0 hfz12_1 hfz12_2 hfz12_3 hfz12_4 hfz12_5 hfz12_6 hfz12_7 hfz12_8 hfz12_9
    try clear hfz14_0 hfz14_1 hfz14_2
    obtain ⟨kq, x33_7, rfl, HA, HJ7, BK219, BK220, HB⟩ := hcut
    cases kq with
    | zero => exact absurd HA.out (by simp [zone_Moments.j0])
    | succ kj7 =>
     have H := HA.out
     clear HA
     simp only [zone_Moments.j0] at H
     by_cases c17 : x33_7 = true
     ·subst c17
      have H1 : (some (([] : List Int), 8)) = some (r1, r2) := by rw [if_pos rfl] at H; exact H
      clear H
      have H := H1
      clear H1
      simp only [Option.some.injEq, Prod.mk.injEq] at H
      obtain ⟨rfl, rfl⟩ := H
      go_wp2
      go_ret2
      exact ⟨_, by first | rfl | (simp [errW_none, errW_some] <;> rfl) | (simp [*, errW_none, errW_some] <;> rfl), by first | exact Kd.R_nil _ _ _ _ _ | exact Kd.N_nil _ _ _ _ _ | exact Kd.V_nil _ _ _ _ _ | exact Kd.Q_nil _ _ _ _ _ | exact Kd.S_nil _ _ _ _ _, bw⟩
     ·replace c17 := Bool.eq_false_iff.mpr c17
      subst c17
      have H1 : ((some (([a0_1, 0] : List Int) : List Int)).bind fun y224 => (zone_Moments.l0 kj7 ([] : List Int) (wrap64 ((wrap64 (t222 * 86400)) + (wrap64 (60 * (wrap64 (a2 - a0_0)))))) y224 (y224.length : Int) 0 a0_0 a0_1 a0_2 a0_3 a0_4 a0_5 a0_6 a0_7 a0_8 a0_9)) = some (r1, r2) := by rw [if_neg (show ¬ (false = true) by decide)] at H; exact H
      clear H
      have H := H1
      clear H1
      obtain ⟨y224, hy224⟩ : ∃ y_ : List Int, y_ = (([a0_1, 0] : List Int)) := ⟨_, rfl⟩
      replace H : (zone_Moments.l0 kj7 ([] : List Int) (wrap64 ((wrap64 (t222 * 86400)) + (wrap64 (60 * (wrap64 (a2 - a0_0)))))) y224 (y224.length : Int) 0 a0_0 a0_1 a0_2 a0_3 a0_4 a0_5 a0_6 a0_7 a0_8 a0_9) = some (r1, r2) := by first | (rw [hy224]; with_reducible exact H) | (have H2_ := (Option.bind_some _ _).symm.trans H; rw [hy224]; with_reducible exact H2_) | (have H2_ := (Option.bind_some _ _).symm.trans H; with_reducible exact H2_) | with_reducible exact H | (rw [hy224]; exact H) | exact H
      have Ny224 := AX hy224
      clear hy224
      have H' := AX H
      clear H
      have hnb18 := NB219_220.out
      have hnc18 := NB220_219.out
      obtain ⟨hcz19_0, hcz19_1, hcz19_2, hcz19_3, hcz19_4, hcz19_5, hcz19_6, hcz19_7, hcz19_8, hcz19_9⟩ := blkC10 (w := wc) BK219.out
      obtain ⟨hfz19_0, hfz19_1, hfz19_2, hfz19_3, hfz19_4, hfz19_5, hfz19_6, hfz19_7, hfz19_8, hfz19_9⟩ := blkF10 BK219.out
      go_wp2_with (first | ((with_reducible refine gate_dst (N := 44) rfl ?_); (try (refine gate_guard (by rfl) ?_; dsimp only)); refine Kd.R_lit (Kd.int .i64) _ 3 ?hg (N := 44) ?hd (xs := ([a0_1, 0] : List Int)) (inner := [.int .i64 a0_1, .int .i64 0]) (ok := fun _ => True) (okp := fun _ => True) ?hr ?hp (fun _ hk => hk) trivial (Below.refl _ _) (Nat.le_refl _) (by simp) ?_; (case hd => rfl); (case hg => rfl); (case hr => first | (go_simp; done) | (go_simp; rfl)); (case hp => exact (Reps.one (show Kd.M (Kd.int .i64) _ _ _ a0_1 [.int .i64 a0_1] from rfl) (Reps.one (show Kd.M (Kd.int .i64) _ _ _ 0 [.int .i64 0] from rfl) (Reps.none _ _)))); intro v225 w20 ho21 hb hg_ hnew_; clear hg_ hnew_; (first | rw [← Ny224.out] at ho21 | (simp only [Int.reduceToNat] at ho21; rw [← Ny224.out] at ho21)); have HO226 := AX (Kd.R_lower ho21 (below_size bw)); replace BK219 := AX (bkb BK219 hb); replace BK220 := AX (bkb BK220 hb); replace HB := AX (below_step bw hb); clear hb ho21; obtain ⟨Ao22, co22, eo22⟩ := Kd.R_slice HO226.out; subst eo22))
      go_loopg [10, 46] kj7 (fun kq v10 v46 w' => ∃ (x10_2 : List Int) (x46_2 : Int), v46 = .int .i64 x46_2 ∧ Aside0 (zone_Moments.l0 kq x10_2 (wrap64 ((wrap64 (t222 * 86400)) + (wrap64 (60 * (wrap64 (a2 - a0_0)))))) y224 (y224.length : Int) x46_2 a0_0 a0_1 a0_2 a0_3 a0_4 a0_5 a0_6 a0_7 a0_8 a0_9 = some (r1, r2)) ∧ Aside0 (kq ≤ kj7) ∧ Aside0 (Kd.R (Kd.int .i64) 2 w' w.heap.size (fun _ => True) v10 x10_2) ∧ Aside0 (Kd.R (Kd.int .i64) 3 w' w.heap.size (fun _ => True) (.slice Ao22 y224.length co22) y224) ∧ Aside0 (w'.heap[gb219]? = some (.cells #[.int .i64 a0_0, .int .i64 a0_1, .int .i64 a0_2, .int .i64 a0_3, .int .i64 a0_4, .int .i64 a0_5, .int .i64 a0_6, .int .i64 a0_7, .int .i64 a0_8, .int .i64 a0_9] 25 (0, 0))) ∧ Aside0 (w'.heap[gb220]? = some (.cells #[.int .i64 a1_0, .int .i64 a1_1, .int .i64 a1_2] 33 (0, 0))) ∧ Aside0 (Below w.heap.size w w'))
      case atStart => exact ⟨(([] : List Int)), (0), (by first | rfl | (simp; done) | (simp [*]; done)), H', ⟨Nat.le_refl _⟩, ⟨by first | exact Kd.R_nil _ _ _ _ _ | exact Kd.N_nil _ _ _ _ _ | exact Kd.V_nil _ _ _ _ _ | exact Kd.Q_nil _ _ _ _ _ | exact Kd.S_nil _ _ _ _ _⟩, ⟨kr HO226⟩, ⟨bkn BK219⟩, ⟨bkn BK220⟩, ⟨bw⟩⟩
      case round =>
       clear H'
       try clear c17
       try clear hcz19_0 hcz19_1 hcz19_2 hcz19_3 hcz19_4 hcz19_5 hcz19_6 hcz19_7 hcz19_8 hcz19_9
       try clear hfz19_0 hfz19_1 hfz19_2 hfz19_3 hfz19_4 hfz19_5 hfz19_6 hfz19_7 hfz19_8 hfz19_9
       obtain ⟨x10_2, x46_2, rfl, HA, HK2, HO_10, HO_44, BK219, BK220, HB⟩ := hrel
       cases gk with
       | zero => exact absurd HA.out (by simp [zone_Moments.l0])
       | succ k2 =>
        have H := HA.out
        clear HA
        simp only [zone_Moments.l0] at H
        by_cases c23 : x46_2 < (y224.length : Int)
        ·rw [if_pos c23] at H
         have c23b0 : decide (x46_2 < (y224.length : Int)) = true := decide_eq_true c23
         clear c23
         by_cases c24 : 0 ≤ x46_2
         ·rw [if_pos c24] at H
          have c24b0 : decide (0 ≤ x46_2) = true := decide_eq_true c24
          clear c24
          by_cases c25 : x46_2 < (y224.length : Int)
          ·rw [if_pos c25] at H
           have c25b0 : decide (x46_2 < (y224.length : Int)) = true := decide_eq_true c25
           clear c25
           replace H := Option.bind_eq_some_iff.mp H
           obtain ⟨⟨t228, t229, t230, t231, t232, t233⟩, A260, H⟩ := H
           replace H : (if t233 = 0 then (if t232 = (wrap64 (a0_0 + (rd y224 x46_2))) then (if (x10_2.length : Int) = 0 then (if x10_2.length < 17592186044416 then (zone_Moments.l0 k2 (x10_2 ++ [wrap64 ((wrap64 ((wrap64 (t222 * 86400)) + (wrap64 (60 * (wrap64 (a2 - a0_0)))))) - (wrap64 (60 * (rd y224 x46_2))))]) (wrap64 ((wrap64 (t222 * 86400)) + (wrap64 (60 * (wrap64 (a2 - a0_0)))))) y224 (y224.length : Int) (wrap64 (x46_2 + 1)) a0_0 a0_1 a0_2 a0_3 a0_4 a0_5 a0_6 a0_7 a0_8 a0_9) else (none)) else (if 0 < (x10_2.length : Int) then (if (rd x10_2 0) = (wrap64 ((wrap64 ((wrap64 (t222 * 86400)) + (wrap64 (60 * (wrap64 (a2 - a0_0)))))) - (wrap64 (60 * (rd y224 x46_2))))) then (zone_Moments.l0 k2 x10_2 (wrap64 ((wrap64 (t222 * 86400)) + (wrap64 (60 * (wrap64 (a2 - a0_0)))))) y224 (y224.length : Int) (wrap64 (x46_2 + 1)) a0_0 a0_1 a0_2 a0_3 a0_4 a0_5 a0_6 a0_7 a0_8 a0_9) else (if x10_2.length < 17592186044416 then (zone_Moments.l0 k2 (x10_2 ++ [wrap64 ((wrap64 ((wrap64 (t222 * 86400)) + (wrap64 (60 * (wrap64 (a2 - a0_0)))))) - (wrap64 (60 * (rd y224 x46_2))))]) (wrap64 ((wrap64 (t222 * 86400)) + (wrap64 (60 * (wrap64 (a2 - a0_0)))))) y224 (y224.length : Int) (wrap64 (x46_2 + 1)) a0_0 a0_1 a0_2 a0_3 a0_4 a0_5 a0_6 a0_7 a0_8 a0_9) else (none))) else (none))) else (zone_Moments.l0 k2 x10_2 (wrap64 ((wrap64 (t222 * 86400)) + (wrap64 (60 * (wrap64 (a2 - a0_0)))))) y224 (y224.length : Int) (wrap64 (x46_2 + 1)) a0_0 a0_1 a0_2 a0_3 a0_4 a0_5 a0_6 a0_7 a0_8 a0_9)) else (zone_Moments.l0 k2 x10_2 (wrap64 ((wrap64 (t222 * 86400)) + (wrap64 (60 * (wrap64 (a2 - a0_0)))))) y224 (y224.length : Int) (wrap64 (x46_2 + 1)) a0_0 a0_1 a0_2 a0_3 a0_4 a0_5 a0_6 a0_7 a0_8 a0_9)) = some (r1, r2) := H
           have A26 := AX A260
           clear A260
           by_cases c27 : t233 = 0
           ·rw [if_pos c27] at H
            have c27b0 : (t233 == 0) = true := beq_iff_eq.mpr c27
            have c27b1 : (t233 != 0) = false := bne_eq_false_iff_eq.mpr c27
            clear c27
            by_cases c28 : t232 = (wrap64 (a0_0 + (rd y224 x46_2)))
            ·rw [if_pos c28] at H
             have c28b0 : (t232 == (wrap64 (a0_0 + (rd y224 x46_2)))) = true := beq_iff_eq.mpr c28
             have c28b1 : (t232 != (wrap64 (a0_0 + (rd y224 x46_2)))) = false := bne_eq_false_iff_eq.mpr c28
             clear c28
             by_cases c29 : (x10_2.length : Int) = 0
             ·rw [if_pos c29] at H
              have c29b0 : ((x10_2.length : Int) == 0) = true := beq_iff_eq.mpr c29
              have c29b1 : ((x10_2.length : Int) != 0) = false := bne_eq_false_iff_eq.mpr c29
              clear c29
              by_cases c30 : x10_2.length < 17592186044416
              ·rw [if_pos c30] at H
               have LMc30 := AX c30
               clear c30
               obtain ⟨y235, hy235⟩ : ∃ y_ : List Int, y_ = (x10_2 ++ [wrap64 ((wrap64 ((wrap64 (t222 * 86400)) + (wrap64 (60 * (wrap64 (a2 - a0_0)))))) - (wrap64 (60 * (rd y224 x46_2))))]) := ⟨_, rfl⟩
               replace H : (zone_Moments.l0 k2 y235 (wrap64 ((wrap64 (t222 * 86400)) + (wrap64 (60 * (wrap64 (a2 - a0_0)))))) y224 (y224.length : Int) (wrap64 (x46_2 + 1)) a0_0 a0_1 a0_2 a0_3 a0_4 a0_5 a0_6 a0_7 a0_8 a0_9) = some (r1, r2) := by first | (rw [hy235]; with_reducible exact H) | (have H2_ := (Option.bind_some _ _).symm.trans H; rw [hy235]; with_reducible exact H2_) | (have H2_ := (Option.bind_some _ _).symm.trans H; with_reducible exact H2_) | with_reducible exact H | (rw [hy235]; exact H) | exact H
               have Ny235 := AX hy235
               clear hy235
               have H' := AX H
               clear H
               have p227 : 0 ≤ (x46_2 : Int) := of_decide_eq_true (by first | (with_reducible assumption) | assumption)
               have q227 : x46_2 < (y224.length : Int) := of_decide_eq_true (by first | (with_reducible assumption) | assumption)
               obtain ⟨ad227, e227, hx227_0⟩ := Kd.at_int (Kd.R_reads' HO_44.out).2.2 x46_2 p227 q227
               cases e227
               replace p227 := eq_true p227
               replace q227 := eq_true q227
               have hnb31 := NB219_220.out
               have hnc31 := NB220_219.out
               obtain ⟨hcz32_0, hcz32_1, hcz32_2, hcz32_3, hcz32_4, hcz32_5, hcz32_6, hcz32_7, hcz32_8, hcz32_9⟩ := blkC10 (w := wr) BK219.out
               obtain ⟨hfz32_0, hfz32_1, hfz32_2, hfz32_3, hfz32_4, hfz32_5, hfz32_6, hfz32_7, hfz32_8, hfz32_9⟩ := blkF10 BK219.out
               go_wp2_with (first | ((with_reducible refine gate_callee (f := 17) rfl ?_); refine gL (some 57) Try.func17 #[.agg #[.int .i64 a0_0, .int .i64 a0_1, .int .i64 a0_2, .int .i64 a0_3, .int .i64 a0_4, .int .i64 a0_5, .int .i64 a0_6, .int .i64 a0_7, .int .i64 a0_8, .int .i64 a0_9], .int .i64 (wrap64 ((wrap64 ((wrap64 (t222 * 86400)) + (wrap64 (60 * (wrap64 (a2 - a0_0)))))) - (wrap64 (60 * (rd y224 x46_2)))))] ?_; (with_reducible refine (zone_At.calls k2 a0_0 a0_1 a0_2 a0_3 a0_4 a0_5 a0_6 a0_7 a0_8 a0_9 (wrap64 ((wrap64 ((wrap64 (t222 * 86400)) + (wrap64 (60 * (wrap64 (a2 - a0_0)))))) - (wrap64 (60 * (rd y224 x46_2))))) t228 t229 t230 t231 t232 t233 _ A26.out).mono ?_); rintro e w33 ⟨rfl, hb⟩; refine ⟨_, rfl, ?_⟩; replace HO_10 := AX (Kd.R_below (kr HO_10) hb); replace HO_44 := AX (Kd.R_below (kr HO_44) hb); replace BK219 := AX (bkb BK219 hb); replace BK220 := AX (bkb BK220 hb); replace HB := AX (below_step bw hb); (try clear hb)) | ((with_reducible refine gate_dst (N := 15) rfl ?_); (try (refine gate_guard (by rfl) ?_; dsimp only)); refine bx 15 #[.int .i64 0, .int .i64 0, .int .i64 0, .int .i64 0, .int .i64 0] 35 ?_; intro gb234 hg w34 hbox hb; have BK234 := AX (hbox); have GW234 := gwl (w := w) hg bw; have GE234 := GW234; have NB219_234 := nbl hg (bkn BK219); have NB234_219 := nbg hg (bkn BK219); have NB220_234 := nbl hg (bkn BK220); have NB234_220 := nbg hg (bkn BK220); replace HO_10 := AX (Kd.R_below (kr HO_10) hb); replace HO_44 := AX (Kd.R_below (kr HO_44) hb); replace BK219 := AX (bkb BK219 hb); replace BK220 := AX (bkb BK220 hb); replace HB := AX (below_step bw hb); clear hb hbox hg; have hnb35 := NB234_219.out; have hnc35 := NB219_234.out; have hnb36 := NB234_220.out; have hnc36 := NB220_234.out; obtain ⟨hcz37_0, hcz37_1, hcz37_2, hcz37_3, hcz37_4⟩ := blkC5 (w := w34) BK234.out; obtain ⟨hfz37_0, hfz37_1, hfz37_2, hfz37_3, hfz37_4⟩ := blkF5 BK234.out; obtain ⟨hcz38_0, hcz38_1, hcz38_2, hcz38_3, hcz38_4, hcz38_5, hcz38_6, hcz38_7, hcz38_8, hcz38_9⟩ := blkC10 (w := w34) BK219.out; obtain ⟨hfz38_0, hfz38_1, hfz38_2, hfz38_3, hfz38_4, hfz38_5, hfz38_6, hfz38_7, hfz38_8, hfz38_9⟩ := blkF10 BK219.out; obtain ⟨Ao39, co39, eo39⟩ := Kd.R_slice HO_10.out; subst eo39) | ((with_reducible refine gate_builtin (b := .append) (xs := #[.tmp 83, .tmp 85]) rfl ?_); (try (refine gate_guard (by rfl) ?_; dsimp only)); at_builtin; refine Kd.R_append (Kd.int .i64) (w0 := w) w.heap.size rfl (.tmp 83) (.tmp 85) 40 2 (.int .i64 0) 8 rfl Try.underlying40 info2 rfl (by decide) (by omega) (.slice Ao39 x10_2.length co39) x10_2 (wrap64 ((wrap64 ((wrap64 (t222 * 86400)) + (wrap64 (60 * (wrap64 (a2 - a0_0)))))) - (wrap64 (60 * (rd y224 x46_2))))) [.int .i64 (wrap64 ((wrap64 ((wrap64 (t222 * 86400)) + (wrap64 (60 * (wrap64 (a2 - a0_0)))))) - (wrap64 (60 * (rd y224 x46_2)))))] (fun _ => True) (fun _ => False) rfl (by first | (go_simp; done) | (go_simp; rfl)) ?aP (fun _ hk => hk.elim) ?aF ?aO ?aB ?aS ?aL ?_; (case aP => exact rfl); (case aB => exact bw); (case aF => exact (fun _ _ => trivial)); (case aO => exact (by (with_reducible repeat (first | apply Kd.R_alloc | apply Kd.R_drewN | apply Kd.R_drew)); exact Kd.R_mono (Kd.R_far (p := ⟨gb234, 4, none⟩) (Kd.R_far (p := ⟨gb234, 3, none⟩) (Kd.R_far (p := ⟨gb234, 2, none⟩) (Kd.R_far (p := ⟨gb234, 1, none⟩) (Kd.R_far (p := ⟨gb234, 0, none⟩) (Kd.R_types HO_10.out BK234.out (by decide)) (fun _ hk => hk.2) (.int .i64 t228)) (fun _ hk => hk.2) (.int .i64 t229)) (fun _ hk => hk.2) (.int .i64 t230)) (fun _ hk => hk.2) (.int .i64 t231)) (fun _ hk => hk.2) (.int .i64 t232)) (fun _ hk => trivial))); (case aS => exact (below_size bw)); (case aL => have := LMc30.out; omega); intro v236 w40 ho hb hg hat; rw [← Ny235.out] at ho; have n0_ := AX (Kd.R_over' (by (with_reducible repeat (first | apply Kd.R_alloc | apply Kd.R_drewN | apply Kd.R_drew)); exact (Kd.R_mono (Kd.R_far (p := ⟨gb234, 4, none⟩) (Kd.R_far (p := ⟨gb234, 3, none⟩) (Kd.R_far (p := ⟨gb234, 2, none⟩) (Kd.R_far (p := ⟨gb234, 1, none⟩) (Kd.R_far (p := ⟨gb234, 0, none⟩) (Kd.R_types HO_44.out BK234.out (by decide)) (fun _ hk => hk.2) (.int .i64 t228)) (fun _ hk => hk.2) (.int .i64 t229)) (fun _ hk => hk.2) (.int .i64 t230)) (fun _ hk => hk.2) (.int .i64 t231)) (fun _ hk => hk.2) (.int .i64 t232)) (fun _ h_ => h_.1))) (Kd.R_typed (by (with_reducible repeat (first | apply Kd.R_alloc | apply Kd.R_drewN | apply Kd.R_drew)); exact (Kd.R_mono (Kd.R_far (p := ⟨gb234, 4, none⟩) (Kd.R_far (p := ⟨gb234, 3, none⟩) (Kd.R_far (p := ⟨gb234, 2, none⟩) (Kd.R_far (p := ⟨gb234, 1, none⟩) (Kd.R_far (p := ⟨gb234, 0, none⟩) (Kd.R_types HO_10.out BK234.out (by decide)) (fun _ hk => hk.2) (.int .i64 t228)) (fun _ hk => hk.2) (.int .i64 t229)) (fun _ hk => hk.2) (.int .i64 t230)) (fun _ hk => hk.2) (.int .i64 t231)) (fun _ hk => hk.2) (.int .i64 t232)) (fun _ h_ => h_.1)))) (by decide) hg); have n1_ := AX (blk_grown (g := gb219) (o := .cells #[.int .i64 a0_0, .int .i64 a0_1, .int .i64 a0_2, .int .i64 a0_3, .int .i64 a0_4, .int .i64 a0_5, .int .i64 a0_6, .int .i64 a0_7, .int .i64 a0_8, .int .i64 a0_9] 25 (0, 0)) (by (with_reducible repeat first|refine blk_drewN ?_ _|refine blk_drew ?_|refine blk_alloc ?_ _|refine blk_far ?_ NB219_234.out _); exact BK219.out) hg (Kd.R_ne HO_10.out BK219.out (by decide))); have n2_ := AX (blk_grown (g := gb220) (o := .cells #[.int .i64 a1_0, .int .i64 a1_1, .int .i64 a1_2] 33 (0, 0)) (by (with_reducible repeat first|refine blk_drewN ?_ _|refine blk_drew ?_|refine blk_alloc ?_ _|refine blk_far ?_ NB220_234.out _); exact BK220.out) hg (Kd.R_ne HO_10.out BK220.out (by decide))); have n3_ := AX (blk_grown (g := gb234) (o := .cells #[.int .i64 t228, .int .i64 t229, .int .i64 t230, .int .i64 t231, .int .i64 t232] 35 (0, 0)) (by (with_reducible repeat first|refine blk_drewN ?_ _|refine blk_drew ?_|refine blk_alloc ?_ _); refine blk_put (cs := #[.int .i64 t228, .int .i64 t229, .int .i64 t230, .int .i64 t231, .int .i64 0]) ?_ 4 _ rfl; (with_reducible repeat first|refine blk_drewN ?_ _|refine blk_drew ?_|refine blk_alloc ?_ _); refine blk_put (cs := #[.int .i64 t228, .int .i64 t229, .int .i64 t230, .int .i64 0, .int .i64 0]) ?_ 3 _ rfl; (with_reducible repeat first|refine blk_drewN ?_ _|refine blk_drew ?_|refine blk_alloc ?_ _); refine blk_put (cs := #[.int .i64 t228, .int .i64 t229, .int .i64 0, .int .i64 0, .int .i64 0]) ?_ 2 _ rfl; (with_reducible repeat first|refine blk_drewN ?_ _|refine blk_drew ?_|refine blk_alloc ?_ _); refine blk_put (cs := #[.int .i64 t228, .int .i64 0, .int .i64 0, .int .i64 0, .int .i64 0]) ?_ 1 _ rfl; (with_reducible repeat first|refine blk_drewN ?_ _|refine blk_drew ?_|refine blk_alloc ?_ _); refine blk_put (cs := #[.int .i64 0, .int .i64 0, .int .i64 0, .int .i64 0, .int .i64 0]) ?_ 0 _ rfl; (with_reducible repeat first|refine blk_drewN ?_ _|refine blk_drew ?_|refine blk_alloc ?_ _); exact BK234.out) hg (Kd.R_ne HO_10.out BK234.out (by decide))); have n4_ := AX (hb); have n5_ := AX (ho); clear HO_44; clear BK219; clear BK220; clear BK234; clear HB; clear HO_10; have HO_44 := n0_; have BK219 := n1_; have BK220 := n2_; have BK234 := n3_; have HB := n4_; have HO237 := n5_; clear n0_ n1_ n2_ n3_ n4_ n5_; clear ho hb hg hat))
               go_roundg k2
               case measure => have := HJ7.out; have := HK2.out; omega
               case rel => exact ⟨(y235), (wrap64 (x46_2 + 1)), (by first | rfl | (simp; done) | (simp [*]; done)), H', ⟨by have := HJ7.out; have := HK2.out; omega⟩, ⟨kr HO237⟩, ⟨kr HO_44⟩, ⟨bkn BK219⟩, ⟨bkn BK220⟩, ⟨bw⟩⟩
              ·rw [if_neg c30] at H
               exact absurd H (by simp)
             ·rw [if_neg c29] at H
              have c29b0 : ((x10_2.length : Int) == 0) = false := beq_eq_false_iff_ne.mpr c29
              have c29b1 : ((x10_2.length : Int) != 0) = true := bne_iff_ne.mpr c29
              have c29b2 : ¬ (x10_2 = []) := fun h_ => c29 (by rw [h_]; rfl)
              by_cases c41 : 0 < (x10_2.length : Int)
              ·rw [if_pos c41] at H
               have c41b0 : decide (0 < (x10_2.length : Int)) = true := decide_eq_true c41
               have c41b1 : decide (0 < x10_2.length) = true := decide_eq_true (by omega)
               clear c41
               by_cases c42 : (rd x10_2 0) = (wrap64 ((wrap64 ((wrap64 (t222 * 86400)) + (wrap64 (60 * (wrap64 (a2 - a0_0)))))) - (wrap64 (60 * (rd y224 x46_2)))))
               ·rw [if_pos c42] at H
                have c42b0 : ((rd x10_2 0) == (wrap64 ((wrap64 ((wrap64 (t222 * 86400)) + (wrap64 (60 * (wrap64 (a2 - a0_0)))))) - (wrap64 (60 * (rd y224 x46_2)))))) = true := beq_iff_eq.mpr c42
                have c42b1 : ((rd x10_2 0) != (wrap64 ((wrap64 ((wrap64 (t222 * 86400)) + (wrap64 (60 * (wrap64 (a2 - a0_0)))))) - (wrap64 (60 * (rd y224 x46_2)))))) = false := bne_eq_false_iff_eq.mpr c42
                clear c42
                have H' := AX H
                clear H
                have p227 : 0 ≤ (x46_2 : Int) := of_decide_eq_true (by first | (with_reducible assumption) | assumption)
                have q227 : x46_2 < (y224.length : Int) := of_decide_eq_true (by first | (with_reducible assumption) | assumption)
                obtain ⟨ad227, e227, hx227_0⟩ := Kd.at_int (Kd.R_reads' HO_44.out).2.2 x46_2 p227 q227
                cases e227
                replace p227 := eq_true p227
                replace q227 := eq_true q227
                have hnb43 := NB219_220.out
                have hnc43 := NB220_219.out
                obtain ⟨hcz44_0, hcz44_1, hcz44_2, hcz44_3, hcz44_4, hcz44_5, hcz44_6, hcz44_7, hcz44_8, hcz44_9⟩ := blkC10 (w := wr) BK219.out
                obtain ⟨hfz44_0, hfz44_1, hfz44_2, hfz44_3, hfz44_4, hfz44_5, hfz44_6, hfz44_7, hfz44_8, hfz44_9⟩ := blkF10 BK219.out
                go_wp2_with (first | ((with_reducible refine gate_callee (f := 17) rfl ?_); refine gL (some 57) Try.func17 #[.agg #[.int .i64 a0_0, .int .i64 a0_1, .int .i64 a0_2, .int .i64 a0_3, .int .i64 a0_4, .int .i64 a0_5, .int .i64 a0_6, .int .i64 a0_7, .int .i64 a0_8, .int .i64 a0_9], .int .i64 (wrap64 ((wrap64 ((wrap64 (t222 * 86400)) + (wrap64 (60 * (wrap64 (a2 - a0_0)))))) - (wrap64 (60 * (rd y224 x46_2)))))] ?_; (with_reducible refine (zone_At.calls k2 a0_0 a0_1 a0_2 a0_3 a0_4 a0_5 a0_6 a0_7 a0_8 a0_9 (wrap64 ((wrap64 ((wrap64 (t222 * 86400)) + (wrap64 (60 * (wrap64 (a2 - a0_0)))))) - (wrap64 (60 * (rd y224 x46_2))))) t228 t229 t230 t231 t232 t233 _ A26.out).mono ?_); rintro e w45 ⟨rfl, hb⟩; refine ⟨_, rfl, ?_⟩; replace HO_10 := AX (Kd.R_below (kr HO_10) hb); replace HO_44 := AX (Kd.R_below (kr HO_44) hb); replace BK219 := AX (bkb BK219 hb); replace BK220 := AX (bkb BK220 hb); replace HB := AX (below_step bw hb); (try clear hb)) | ((with_reducible refine gate_dst (N := 15) rfl ?_); (try (refine gate_guard (by rfl) ?_; dsimp only)); refine bx 15 #[.int .i64 0, .int .i64 0, .int .i64 0, .int .i64 0, .int .i64 0] 35 ?_; intro gb234 hg w46 hbox hb; have BK234 := AX (hbox); have GW234 := gwl (w := w) hg bw; have GE234 := GW234; have NB219_234 := nbl hg (bkn BK219); have NB234_219 := nbg hg (bkn BK219); have NB220_234 := nbl hg (bkn BK220); have NB234_220 := nbg hg (bkn BK220); replace HO_10 := AX (Kd.R_below (kr HO_10) hb); replace HO_44 := AX (Kd.R_below (kr HO_44) hb); replace BK219 := AX (bkb BK219 hb); replace BK220 := AX (bkb BK220 hb); replace HB := AX (below_step bw hb); clear hb hbox hg; have hnb47 := NB234_219.out; have hnc47 := NB219_234.out; have hnb48 := NB234_220.out; have hnc48 := NB220_234.out; obtain ⟨hcz49_0, hcz49_1, hcz49_2, hcz49_3, hcz49_4⟩ := blkC5 (w := w46) BK234.out; obtain ⟨hfz49_0, hfz49_1, hfz49_2, hfz49_3, hfz49_4⟩ := blkF5 BK234.out; obtain ⟨hcz50_0, hcz50_1, hcz50_2, hcz50_3, hcz50_4, hcz50_5, hcz50_6, hcz50_7, hcz50_8, hcz50_9⟩ := blkC10 (w := w46) BK219.out; obtain ⟨hfz50_0, hfz50_1, hfz50_2, hfz50_3, hfz50_4, hfz50_5, hfz50_6, hfz50_7, hfz50_8, hfz50_9⟩ := blkF10 BK219.out; obtain ⟨Ao51, co51, eo51⟩ := Kd.R_slice HO_10.out; subst eo51; have p238 : 0 ≤ (0 : Int) := (by omega); have q238 : 0 < (x10_2.length : Int) := of_decide_eq_true (by first | (with_reducible assumption) | assumption); obtain ⟨ad238, e238, hx238_0⟩ := Kd.at_int (Kd.R_reads' HO_10.out).2.2 0 p238 q238; cases e238; have qi238 : (0 < x10_2.length) = True := eq_true (by omega); (try rw [show ((0 : Int)).toNat = 0 from rfl] at hx238_0); (try rw [Addr.add_zero'] at hx238_0); have hn238_0 : ad238.block ≠ gb234 := Kd.own_blk (Kd.R_ne HO_10.out BK234.out (by decide)); have hn238_1 : ad238.block ≠ gb234 := Kd.own_blk (Kd.R_ne HO_10.out BK234.out (by decide)); have hn238_2 : ad238.block ≠ gb234 := Kd.own_blk (Kd.R_ne HO_10.out BK234.out (by decide)); have hn238_3 : ad238.block ≠ gb234 := Kd.own_blk (Kd.R_ne HO_10.out BK234.out (by decide)); have hn238_4 : ad238.block ≠ gb234 := Kd.own_blk (Kd.R_ne HO_10.out BK234.out (by decide)); replace hx238_0 := (cell_far (p := ⟨gb234, 0, none⟩) (by first | (rw [add_block]; exact hn238_0) | (show (Addr.add _ _).block ≠ _; rw [add_block]; exact hn238_0) | exact hn238_0) (.int .i64 t228)).trans hx238_0; replace hx238_0 := (cell_far (p := ⟨gb234, 1, none⟩) (by first | (rw [add_block]; exact hn238_1) | (show (Addr.add _ _).block ≠ _; rw [add_block]; exact hn238_1) | exact hn238_1) (.int .i64 t229)).trans hx238_0; replace hx238_0 := (cell_far (p := ⟨gb234, 2, none⟩) (by first | (rw [add_block]; exact hn238_2) | (show (Addr.add _ _).block ≠ _; rw [add_block]; exact hn238_2) | exact hn238_2) (.int .i64 t230)).trans hx238_0; replace hx238_0 := (cell_far (p := ⟨gb234, 3, none⟩) (by first | (rw [add_block]; exact hn238_3) | (show (Addr.add _ _).block ≠ _; rw [add_block]; exact hn238_3) | exact hn238_3) (.int .i64 t231)).trans hx238_0; replace hx238_0 := (cell_far (p := ⟨gb234, 4, none⟩) (by first | (rw [add_block]; exact hn238_4) | (show (Addr.add _ _).block ≠ _; rw [add_block]; exact hn238_4) | exact hn238_4) (.int .i64 t232)).trans hx238_0; clear hn238_0; clear hn238_1; clear hn238_2; clear hn238_3; clear hn238_4; replace p238 := eq_true p238; replace q238 := eq_true q238))
                go_roundg k2
                case measure => have := HJ7.out; have := HK2.out; omega
                case rel => exact ⟨(x10_2), (wrap64 (x46_2 + 1)), (by first | rfl | (simp; done) | (simp [*]; done)), H', ⟨by have := HJ7.out; have := HK2.out; omega⟩, ⟨by (with_reducible repeat (first | apply Kd.R_alloc | apply Kd.R_drewN | apply Kd.R_drew)); exact Kd.R_mono (Kd.R_far (p := ⟨gb234, 4, none⟩) (Kd.R_far (p := ⟨gb234, 3, none⟩) (Kd.R_far (p := ⟨gb234, 2, none⟩) (Kd.R_far (p := ⟨gb234, 1, none⟩) (Kd.R_far (p := ⟨gb234, 0, none⟩) (Kd.R_types HO_10.out BK234.out (by decide)) (fun _ hk => hk.2) (.int .i64 t228)) (fun _ hk => hk.2) (.int .i64 t229)) (fun _ hk => hk.2) (.int .i64 t230)) (fun _ hk => hk.2) (.int .i64 t231)) (fun _ hk => hk.2) (.int .i64 t232)) (fun _ hk => trivial)⟩, ⟨by (with_reducible repeat (first | apply Kd.R_alloc | apply Kd.R_drewN | apply Kd.R_drew)); exact Kd.R_mono (Kd.R_far (p := ⟨gb234, 4, none⟩) (Kd.R_far (p := ⟨gb234, 3, none⟩) (Kd.R_far (p := ⟨gb234, 2, none⟩) (Kd.R_far (p := ⟨gb234, 1, none⟩) (Kd.R_far (p := ⟨gb234, 0, none⟩) (Kd.R_types HO_44.out BK234.out (by decide)) (fun _ hk => hk.2) (.int .i64 t228)) (fun _ hk => hk.2) (.int .i64 t229)) (fun _ hk => hk.2) (.int .i64 t230)) (fun _ hk => hk.2) (.int .i64 t231)) (fun _ hk => hk.2) (.int .i64 t232)) (fun _ hk => trivial)⟩, ⟨by (with_reducible repeat first|refine blk_drewN ?_ _|refine blk_drew ?_|refine blk_alloc ?_ _); refine blk_far ?_ NB219_234.out _; (with_reducible repeat first|refine blk_drewN ?_ _|refine blk_drew ?_|refine blk_alloc ?_ _); refine blk_far ?_ NB219_234.out _; (with_reducible repeat first|refine blk_drewN ?_ _|refine blk_drew ?_|refine blk_alloc ?_ _); refine blk_far ?_ NB219_234.out _; (with_reducible repeat first|refine blk_drewN ?_ _|refine blk_drew ?_|refine blk_alloc ?_ _); refine blk_far ?_ NB219_234.out _; (with_reducible repeat first|refine blk_drewN ?_ _|refine blk_drew ?_|refine blk_alloc ?_ _); refine blk_far ?_ NB219_234.out _; (with_reducible repeat first|refine blk_drewN ?_ _|refine blk_drew ?_|refine blk_alloc ?_ _); exact BK219.out⟩, ⟨by (with_reducible repeat first|refine blk_drewN ?_ _|refine blk_drew ?_|refine blk_alloc ?_ _); refine blk_far ?_ NB220_234.out _; (with_reducible repeat first|refine blk_drewN ?_ _|refine blk_drew ?_|refine blk_alloc ?_ _); refine blk_far ?_ NB220_234.out _; (with_reducible repeat first|refine blk_drewN ?_ _|refine blk_drew ?_|refine blk_alloc ?_ _); refine blk_far ?_ NB220_234.out _; (with_reducible repeat first|refine blk_drewN ?_ _|refine blk_drew ?_|refine blk_alloc ?_ _); refine blk_far ?_ NB220_234.out _; (with_reducible repeat first|refine blk_drewN ?_ _|refine blk_drew ?_|refine blk_alloc ?_ _); refine blk_far ?_ NB220_234.out _; (with_reducible repeat first|refine blk_drewN ?_ _|refine blk_drew ?_|refine blk_alloc ?_ _); exact BK220.out⟩, ⟨bw⟩⟩
               ·rw [if_neg c42] at H
                have c42b0 : ((rd x10_2 0) == (wrap64 ((wrap64 ((wrap64 (t222 * 86400)) + (wrap64 (60 * (wrap64 (a2 - a0_0)))))) - (wrap64 (60 * (rd y224 x46_2)))))) = false := beq_eq_false_iff_ne.mpr c42
                have c42b1 : ((rd x10_2 0) != (wrap64 ((wrap64 ((wrap64 (t222 * 86400)) + (wrap64 (60 * (wrap64 (a2 - a0_0)))))) - (wrap64 (60 * (rd y224 x46_2)))))) = true := bne_iff_ne.mpr c42
                by_cases c52 : x10_2.length < 17592186044416
                ·rw [if_pos c52] at H
                 have LMc52 := AX c52
                 clear c52
                 obtain ⟨y239, hy239⟩ : ∃ y_ : List Int, y_ = (x10_2 ++ [wrap64 ((wrap64 ((wrap64 (t222 * 86400)) + (wrap64 (60 * (wrap64 (a2 - a0_0)))))) - (wrap64 (60 * (rd y224 x46_2))))]) := ⟨_, rfl⟩
                 replace H : (zone_Moments.l0 k2 y239 (wrap64 ((wrap64 (t222 * 86400)) + (wrap64 (60 * (wrap64 (a2 - a0_0)))))) y224 (y224.length : Int) (wrap64 (x46_2 + 1)) a0_0 a0_1 a0_2 a0_3 a0_4 a0_5 a0_6 a0_7 a0_8 a0_9) = some (r1, r2) := by first | (rw [hy239]; with_reducible exact H) | (have H2_ := (Option.bind_some _ _).symm.trans H; rw [hy239]; with_reducible exact H2_) | (have H2_ := (Option.bind_some _ _).symm.trans H; with_reducible exact H2_) | with_reducible exact H | (rw [hy239]; exact H) | exact H
                 have Ny239 := AX hy239
                 clear hy239
                 have H' := AX H
                 clear H
                 have p227 : 0 ≤ (x46_2 : Int) := of_decide_eq_true (by first | (with_reducible assumption) | assumption)
                 have q227 : x46_2 < (y224.length : Int) := of_decide_eq_true (by first | (with_reducible assumption) | assumption)
                 obtain ⟨ad227, e227, hx227_0⟩ := Kd.at_int (Kd.R_reads' HO_44.out).2.2 x46_2 p227 q227
                 cases e227
                 replace p227 := eq_true p227
                 replace q227 := eq_true q227
                 have hnb53 := NB219_220.out
                 have hnc53 := NB220_219.out
                 obtain ⟨hcz54_0, hcz54_1, hcz54_2, hcz54_3, hcz54_4, hcz54_5, hcz54_6, hcz54_7, hcz54_8, hcz54_9⟩ := blkC10 (w := wr) BK219.out
                 obtain ⟨hfz54_0, hfz54_1, hfz54_2, hfz54_3, hfz54_4, hfz54_5, hfz54_6, hfz54_7, hfz54_8, hfz54_9⟩ := blkF10 BK219.out
                 go_wp2_with (first | ((with_reducible refine gate_callee (f := 17) rfl ?_); refine gL (some 57) Try.func17 #[.agg #[.int .i64 a0_0, .int .i64 a0_1, .int .i64 a0_2, .int .i64 a0_3, .int .i64 a0_4, .int .i64 a0_5, .int .i64 a0_6, .int .i64 a0_7, .int .i64 a0_8, .int .i64 a0_9], .int .i64 (wrap64 ((wrap64 ((wrap64 (t222 * 86400)) + (wrap64 (60 * (wrap64 (a2 - a0_0)))))) - (wrap64 (60 * (rd y224 x46_2)))))] ?_; (with_reducible refine (zone_At.calls k2 a0_0 a0_1 a0_2 a0_3 a0_4 a0_5 a0_6 a0_7 a0_8 a0_9 (wrap64 ((wrap64 ((wrap64 (t222 * 86400)) + (wrap64 (60 * (wrap64 (a2 - a0_0)))))) - (wrap64 (60 * (rd y224 x46_2))))) t228 t229 t230 t231 t232 t233 _ A26.out).mono ?_); rintro e w55 ⟨rfl, hb⟩; refine ⟨_, rfl, ?_⟩; replace HO_10 := AX (Kd.R_below (kr HO_10) hb); replace HO_44 := AX (Kd.R_below (kr HO_44) hb); replace BK219 := AX (bkb BK219 hb); replace BK220 := AX (bkb BK220 hb); replace HB := AX (below_step bw hb); (try clear hb)) | ((with_reducible refine gate_dst (N := 15) rfl ?_); (try (refine gate_guard (by rfl) ?_; dsimp only)); refine bx 15 #[.int .i64 0, .int .i64 0, .int .i64 0, .int .i64 0, .int .i64 0] 35 ?_; intro gb234 hg w56 hbox hb; have BK234 := AX (hbox); have GW234 := gwl (w := w) hg bw; have GE234 := GW234; have NB219_234 := nbl hg (bkn BK219); have NB234_219 := nbg hg (bkn BK219); have NB220_234 := nbl hg (bkn BK220); have NB234_220 := nbg hg (bkn BK220); replace HO_10 := AX (Kd.R_below (kr HO_10) hb); replace HO_44 := AX (Kd.R_below (kr HO_44) hb); replace BK219 := AX (bkb BK219 hb); replace BK220 := AX (bkb BK220 hb); replace HB := AX (below_step bw hb); clear hb hbox hg; have hnb57 := NB234_219.out; have hnc57 := NB219_234.out; have hnb58 := NB234_220.out; have hnc58 := NB220_234.out; obtain ⟨hcz59_0, hcz59_1, hcz59_2, hcz59_3, hcz59_4⟩ := blkC5 (w := w56) BK234.out; obtain ⟨hfz59_0, hfz59_1, hfz59_2, hfz59_3, hfz59_4⟩ := blkF5 BK234.out; obtain ⟨hcz60_0, hcz60_1, hcz60_2, hcz60_3, hcz60_4, hcz60_5, hcz60_6, hcz60_7, hcz60_8, hcz60_9⟩ := blkC10 (w := w56) BK219.out; obtain ⟨hfz60_0, hfz60_1, hfz60_2, hfz60_3, hfz60_4, hfz60_5, hfz60_6, hfz60_7, hfz60_8, hfz60_9⟩ := blkF10 BK219.out; obtain ⟨Ao61, co61, eo61⟩ := Kd.R_slice HO_10.out; subst eo61; have p238 : 0 ≤ (0 : Int) := (by omega); have q238 : 0 < (x10_2.length : Int) := of_decide_eq_true (by first | (with_reducible assumption) | assumption); obtain ⟨ad238, e238, hx238_0⟩ := Kd.at_int (Kd.R_reads' HO_10.out).2.2 0 p238 q238; cases e238; have qi238 : (0 < x10_2.length) = True := eq_true (by omega); (try rw [show ((0 : Int)).toNat = 0 from rfl] at hx238_0); (try rw [Addr.add_zero'] at hx238_0); have hn238_0 : ad238.block ≠ gb234 := Kd.own_blk (Kd.R_ne HO_10.out BK234.out (by decide)); have hn238_1 : ad238.block ≠ gb234 := Kd.own_blk (Kd.R_ne HO_10.out BK234.out (by decide)); have hn238_2 : ad238.block ≠ gb234 := Kd.own_blk (Kd.R_ne HO_10.out BK234.out (by decide)); have hn238_3 : ad238.block ≠ gb234 := Kd.own_blk (Kd.R_ne HO_10.out BK234.out (by decide)); have hn238_4 : ad238.block ≠ gb234 := Kd.own_blk (Kd.R_ne HO_10.out BK234.out (by decide)); replace hx238_0 := (cell_far (p := ⟨gb234, 0, none⟩) (by first | (rw [add_block]; exact hn238_0) | (show (Addr.add _ _).block ≠ _; rw [add_block]; exact hn238_0) | exact hn238_0) (.int .i64 t228)).trans hx238_0; replace hx238_0 := (cell_far (p := ⟨gb234, 1, none⟩) (by first | (rw [add_block]; exact hn238_1) | (show (Addr.add _ _).block ≠ _; rw [add_block]; exact hn238_1) | exact hn238_1) (.int .i64 t229)).trans hx238_0; replace hx238_0 := (cell_far (p := ⟨gb234, 2, none⟩) (by first | (rw [add_block]; exact hn238_2) | (show (Addr.add _ _).block ≠ _; rw [add_block]; exact hn238_2) | exact hn238_2) (.int .i64 t230)).trans hx238_0; replace hx238_0 := (cell_far (p := ⟨gb234, 3, none⟩) (by first | (rw [add_block]; exact hn238_3) | (show (Addr.add _ _).block ≠ _; rw [add_block]; exact hn238_3) | exact hn238_3) (.int .i64 t231)).trans hx238_0; replace hx238_0 := (cell_far (p := ⟨gb234, 4, none⟩) (by first | (rw [add_block]; exact hn238_4) | (show (Addr.add _ _).block ≠ _; rw [add_block]; exact hn238_4) | exact hn238_4) (.int .i64 t232)).trans hx238_0; clear hn238_0; clear hn238_1; clear hn238_2; clear hn238_3; clear hn238_4; replace p238 := eq_true p238; replace q238 := eq_true q238) | ((with_reducible refine gate_builtin (b := .append) (xs := #[.tmp 83, .tmp 85]) rfl ?_); (try (refine gate_guard (by rfl) ?_; dsimp only)); at_builtin; refine Kd.R_append (Kd.int .i64) (w0 := w) w.heap.size rfl (.tmp 83) (.tmp 85) 40 2 (.int .i64 0) 8 rfl Try.underlying40 info2 rfl (by decide) (by omega) (.slice (some ad238) x10_2.length co61) x10_2 (wrap64 ((wrap64 ((wrap64 (t222 * 86400)) + (wrap64 (60 * (wrap64 (a2 - a0_0)))))) - (wrap64 (60 * (rd y224 x46_2))))) [.int .i64 (wrap64 ((wrap64 ((wrap64 (t222 * 86400)) + (wrap64 (60 * (wrap64 (a2 - a0_0)))))) - (wrap64 (60 * (rd y224 x46_2)))))] (fun _ => True) (fun _ => False) rfl (by first | (go_simp; done) | (go_simp; rfl)) ?aP (fun _ hk => hk.elim) ?aF ?aO ?aB ?aS ?aL ?_; (case aP => exact rfl); (case aB => exact bw); (case aF => exact (fun _ _ => trivial)); (case aO => exact (by (with_reducible repeat (first | apply Kd.R_alloc | apply Kd.R_drewN | apply Kd.R_drew)); exact Kd.R_mono (Kd.R_far (p := ⟨gb234, 4, none⟩) (Kd.R_far (p := ⟨gb234, 3, none⟩) (Kd.R_far (p := ⟨gb234, 2, none⟩) (Kd.R_far (p := ⟨gb234, 1, none⟩) (Kd.R_far (p := ⟨gb234, 0, none⟩) (Kd.R_types HO_10.out BK234.out (by decide)) (fun _ hk => hk.2) (.int .i64 t228)) (fun _ hk => hk.2) (.int .i64 t229)) (fun _ hk => hk.2) (.int .i64 t230)) (fun _ hk => hk.2) (.int .i64 t231)) (fun _ hk => hk.2) (.int .i64 t232)) (fun _ hk => trivial))); (case aS => exact (below_size bw)); (case aL => have := LMc52.out; omega); intro v240 w62 ho hb hg hat; rw [← Ny239.out] at ho; have n0_ := AX (Kd.R_over' (by (with_reducible repeat (first | apply Kd.R_alloc | apply Kd.R_drewN | apply Kd.R_drew)); exact (Kd.R_mono (Kd.R_far (p := ⟨gb234, 4, none⟩) (Kd.R_far (p := ⟨gb234, 3, none⟩) (Kd.R_far (p := ⟨gb234, 2, none⟩) (Kd.R_far (p := ⟨gb234, 1, none⟩) (Kd.R_far (p := ⟨gb234, 0, none⟩) (Kd.R_types HO_44.out BK234.out (by decide)) (fun _ hk => hk.2) (.int .i64 t228)) (fun _ hk => hk.2) (.int .i64 t229)) (fun _ hk => hk.2) (.int .i64 t230)) (fun _ hk => hk.2) (.int .i64 t231)) (fun _ hk => hk.2) (.int .i64 t232)) (fun _ h_ => h_.1))) (Kd.R_typed (by (with_reducible repeat (first | apply Kd.R_alloc | apply Kd.R_drewN | apply Kd.R_drew)); exact (Kd.R_mono (Kd.R_far (p := ⟨gb234, 4, none⟩) (Kd.R_far (p := ⟨gb234, 3, none⟩) (Kd.R_far (p := ⟨gb234, 2, none⟩) (Kd.R_far (p := ⟨gb234, 1, none⟩) (Kd.R_far (p := ⟨gb234, 0, none⟩) (Kd.R_types HO_10.out BK234.out (by decide)) (fun _ hk => hk.2) (.int .i64 t228)) (fun _ hk => hk.2) (.int .i64 t229)) (fun _ hk => hk.2) (.int .i64 t230)) (fun _ hk => hk.2) (.int .i64 t231)) (fun _ hk => hk.2) (.int .i64 t232)) (fun _ h_ => h_.1)))) (by decide) hg); have n1_ := AX (blk_grown (g := gb219) (o := .cells #[.int .i64 a0_0, .int .i64 a0_1, .int .i64 a0_2, .int .i64 a0_3, .int .i64 a0_4, .int .i64 a0_5, .int .i64 a0_6, .int .i64 a0_7, .int .i64 a0_8, .int .i64 a0_9] 25 (0, 0)) (by (with_reducible repeat first|refine blk_drewN ?_ _|refine blk_drew ?_|refine blk_alloc ?_ _|refine blk_far ?_ NB219_234.out _); exact BK219.out) hg (Kd.R_ne HO_10.out BK219.out (by decide))); have n2_ := AX (blk_grown (g := gb220) (o := .cells #[.int .i64 a1_0, .int .i64 a1_1, .int .i64 a1_2] 33 (0, 0)) (by (with_reducible repeat first|refine blk_drewN ?_ _|refine blk_drew ?_|refine blk_alloc ?_ _|refine blk_far ?_ NB220_234.out _); exact BK220.out) hg (Kd.R_ne HO_10.out BK220.out (by decide))); have n3_ := AX (blk_grown (g := gb234) (o := .cells #[.int .i64 t228, .int .i64 t229, .int .i64 t230, .int .i64 t231, .int .i64 t232] 35 (0, 0)) (by (with_reducible repeat first|refine blk_drewN ?_ _|refine blk_drew ?_|refine blk_alloc ?_ _); refine blk_put (cs := #[.int .i64 t228, .int .i64 t229, .int .i64 t230, .int .i64 t231, .int .i64 0]) ?_ 4 _ rfl; (with_reducible repeat first|refine blk_drewN ?_ _|refine blk_drew ?_|refine blk_alloc ?_ _); refine blk_put (cs := #[.int .i64 t228, .int .i64 t229, .int .i64 t230, .int .i64 0, .int .i64 0]) ?_ 3 _ rfl; (with_reducible repeat first|refine blk_drewN ?_ _|refine blk_drew ?_|refine blk_alloc ?_ _); refine blk_put (cs := #[.int .i64 t228, .int .i64 t229, .int .i64 0, .int .i64 0, .int .i64 0]) ?_ 2 _ rfl; (with_reducible repeat first|refine blk_drewN ?_ _|refine blk_drew ?_|refine blk_alloc ?_ _); refine blk_put (cs := #[.int .i64 t228, .int .i64 0, .int .i64 0, .int .i64 0, .int .i64 0]) ?_ 1 _ rfl; (with_reducible repeat first|refine blk_drewN ?_ _|refine blk_drew ?_|refine blk_alloc ?_ _); refine blk_put (cs := #[.int .i64 0, .int .i64 0, .int .i64 0, .int .i64 0, .int .i64 0]) ?_ 0 _ rfl; (with_reducible repeat first|refine blk_drewN ?_ _|refine blk_drew ?_|refine blk_alloc ?_ _); exact BK234.out) hg (Kd.R_ne HO_10.out BK234.out (by decide))); have n4_ := AX (hb); have n5_ := AX (ho); clear HO_44; clear BK219; clear BK220; clear BK234; clear HB; clear HO_10; have HO_44 := n0_; have BK219 := n1_; have BK220 := n2_; have BK234 := n3_; have HB := n4_; have HO241 := n5_; clear n0_ n1_ n2_ n3_ n4_ n5_; clear ho hb hg hat))
                 go_roundg k2
                 case measure => have := HJ7.out; have := HK2.out; omega
                 case rel => exact ⟨(y239), (wrap64 (x46_2 + 1)), (by first | rfl | (simp; done) | (simp [*]; done)), H', ⟨by have := HJ7.out; have := HK2.out; omega⟩, ⟨kr HO241⟩, ⟨kr HO_44⟩, ⟨bkn BK219⟩, ⟨bkn BK220⟩, ⟨bw⟩⟩
                ·rw [if_neg c52] at H
                 exact absurd H (by simp)
              ·rw [if_neg c41] at H
               exact absurd H (by simp)
            ·rw [if_neg c28] at H
             have c28b0 : (t232 == (wrap64 (a0_0 + (rd y224 x46_2)))) = false := beq_eq_false_iff_ne.mpr c28
             have c28b1 : (t232 != (wrap64 (a0_0 + (rd y224 x46_2)))) = true := bne_iff_ne.mpr c28
             have H' := AX H
             clear H
             have p227 : 0 ≤ (x46_2 : Int) := of_decide_eq_true (by first | (with_reducible assumption) | assumption)
             have q227 : x46_2 < (y224.length : Int) := of_decide_eq_true (by first | (with_reducible assumption) | assumption)
             obtain ⟨ad227, e227, hx227_0⟩ := Kd.at_int (Kd.R_reads' HO_44.out).2.2 x46_2 p227 q227
             cases e227
             replace p227 := eq_true p227
             replace q227 := eq_true q227
             have hnb63 := NB219_220.out
             have hnc63 := NB220_219.out
             obtain ⟨hcz64_0, hcz64_1, hcz64_2, hcz64_3, hcz64_4, hcz64_5, hcz64_6, hcz64_7, hcz64_8, hcz64_9⟩ := blkC10 (w := wr) BK219.out
             obtain ⟨hfz64_0, hfz64_1, hfz64_2, hfz64_3, hfz64_4, hfz64_5, hfz64_6, hfz64_7, hfz64_8, hfz64_9⟩ := blkF10 BK219.out
             go_wp2_with (first | ((with_reducible refine gate_callee (f := 17) rfl ?_); refine gL (some 57) Try.func17 #[.agg #[.int .i64 a0_0, .int .i64 a0_1, .int .i64 a0_2, .int .i64 a0_3, .int .i64 a0_4, .int .i64 a0_5, .int .i64 a0_6, .int .i64 a0_7, .int .i64 a0_8, .int .i64 a0_9], .int .i64 (wrap64 ((wrap64 ((wrap64 (t222 * 86400)) + (wrap64 (60 * (wrap64 (a2 - a0_0)))))) - (wrap64 (60 * (rd y224 x46_2)))))] ?_; (with_reducible refine (zone_At.calls k2 a0_0 a0_1 a0_2 a0_3 a0_4 a0_5 a0_6 a0_7 a0_8 a0_9 (wrap64 ((wrap64 ((wrap64 (t222 * 86400)) + (wrap64 (60 * (wrap64 (a2 - a0_0)))))) - (wrap64 (60 * (rd y224 x46_2))))) t228 t229 t230 t231 t232 t233 _ A26.out).mono ?_); rintro e w65 ⟨rfl, hb⟩; refine ⟨_, rfl, ?_⟩; replace HO_10 := AX (Kd.R_below (kr HO_10) hb); replace HO_44 := AX (Kd.R_below (kr HO_44) hb); replace BK219 := AX (bkb BK219 hb); replace BK220 := AX (bkb BK220 hb); replace HB := AX (below_step bw hb); (try clear hb)) | ((with_reducible refine gate_dst (N := 15) rfl ?_); (try (refine gate_guard (by rfl) ?_; dsimp only)); refine bx 15 #[.int .i64 0, .int .i64 0, .int .i64 0, .int .i64 0, .int .i64 0] 35 ?_; intro gb234 hg w66 hbox hb; have BK234 := AX (hbox); have GW234 := gwl (w := w) hg bw; have GE234 := GW234; have NB219_234 := nbl hg (bkn BK219); have NB234_219 := nbg hg (bkn BK219); have NB220_234 := nbl hg (bkn BK220); have NB234_220 := nbg hg (bkn BK220); replace HO_10 := AX (Kd.R_below (kr HO_10) hb); replace HO_44 := AX (Kd.R_below (kr HO_44) hb); replace BK219 := AX (bkb BK219 hb); replace BK220 := AX (bkb BK220 hb); replace HB := AX (below_step bw hb); clear hb hbox hg; have hnb67 := NB234_219.out; have hnc67 := NB219_234.out; have hnb68 := NB234_220.out; have hnc68 := NB220_234.out; obtain ⟨hcz69_0, hcz69_1, hcz69_2, hcz69_3, hcz69_4⟩ := blkC5 (w := w66) BK234.out; obtain ⟨hfz69_0, hfz69_1, hfz69_2, hfz69_3, hfz69_4⟩ := blkF5 BK234.out; obtain ⟨hcz70_0, hcz70_1, hcz70_2, hcz70_3, hcz70_4, hcz70_5, hcz70_6, hcz70_7, hcz70_8, hcz70_9⟩ := blkC10 (w := w66) BK219.out; obtain ⟨hfz70_0, hfz70_1, hfz70_2, hfz70_3, hfz70_4, hfz70_5, hfz70_6, hfz70_7, hfz70_8, hfz70_9⟩ := blkF10 BK219.out))
             go_roundg k2
             case measure => have := HJ7.out; have := HK2.out; omega
             case rel => exact ⟨(x10_2), (wrap64 (x46_2 + 1)), (by first | rfl | (simp; done) | (simp [*]; done)), H', ⟨by have := HJ7.out; have := HK2.out; omega⟩, ⟨by (with_reducible repeat (first | apply Kd.R_alloc | apply Kd.R_drewN | apply Kd.R_drew)); exact Kd.R_mono (Kd.R_far (p := ⟨gb234, 4, none⟩) (Kd.R_far (p := ⟨gb234, 3, none⟩) (Kd.R_far (p := ⟨gb234, 2, none⟩) (Kd.R_far (p := ⟨gb234, 1, none⟩) (Kd.R_far (p := ⟨gb234, 0, none⟩) (Kd.R_types HO_10.out BK234.out (by decide)) (fun _ hk => hk.2) (.int .i64 t228)) (fun _ hk => hk.2) (.int .i64 t229)) (fun _ hk => hk.2) (.int .i64 t230)) (fun _ hk => hk.2) (.int .i64 t231)) (fun _ hk => hk.2) (.int .i64 t232)) (fun _ hk => trivial)⟩, ⟨by (with_reducible repeat (first | apply Kd.R_alloc | apply Kd.R_drewN | apply Kd.R_drew)); exact Kd.R_mono (Kd.R_far (p := ⟨gb234, 4, none⟩) (Kd.R_far (p := ⟨gb234, 3, none⟩) (Kd.R_far (p := ⟨gb234, 2, none⟩) (Kd.R_far (p := ⟨gb234, 1, none⟩) (Kd.R_far (p := ⟨gb234, 0, none⟩) (Kd.R_types HO_44.out BK234.out (by decide)) (fun _ hk => hk.2) (.int .i64 t228)) (fun _ hk => hk.2) (.int .i64 t229)) (fun _ hk => hk.2) (.int .i64 t230)) (fun _ hk => hk.2) (.int .i64 t231)) (fun _ hk => hk.2) (.int .i64 t232)) (fun _ hk => trivial)⟩, ⟨by (with_reducible repeat first|refine blk_drewN ?_ _|refine blk_drew ?_|refine blk_alloc ?_ _); refine blk_far ?_ NB219_234.out _; (with_reducible repeat first|refine blk_drewN ?_ _|refine blk_drew ?_|refine blk_alloc ?_ _); refine blk_far ?_ NB219_234.out _; (with_reducible repeat first|refine blk_drewN ?_ _|refine blk_drew ?_|refine blk_alloc ?_ _); refine blk_far ?_ NB219_234.out _; (with_reducible repeat first|refine blk_drewN ?_ _|refine blk_drew ?_|refine blk_alloc ?_ _); refine blk_far ?_ NB219_234.out _; (with_reducible repeat first|refine blk_drewN ?_ _|refine blk_drew ?_|refine blk_alloc ?_ _); refine blk_far ?_ NB219_234.out _; (with_reducible repeat first|refine blk_drewN ?_ _|refine blk_drew ?_|refine blk_alloc ?_ _); exact BK219.out⟩, ⟨by (with_reducible repeat first|refine blk_drewN ?_ _|refine blk_drew ?_|refine blk_alloc ?_ _); refine blk_far ?_ NB220_234.out _; (with_reducible repeat first|refine blk_drewN ?_ _|refine blk_drew ?_|refine blk_alloc ?_ _); refine blk_far ?_ NB220_234.out _; (with_reducible repeat first|refine blk_drewN ?_ _|refine blk_drew ?_|refine blk_alloc ?_ _); refine blk_far ?_ NB220_234.out _; (with_reducible repeat first|refine blk_drewN ?_ _|refine blk_drew ?_|refine blk_alloc ?_ _); refine blk_far ?_ NB220_234.out _; (with_reducible repeat first|refine blk_drewN ?_ _|refine blk_drew ?_|refine blk_alloc ?_ _); refine blk_far ?_ NB220_234.out _; (with_reducible repeat first|refine blk_drewN ?_ _|refine blk_drew ?_|refine blk_alloc ?_ _); exact BK220.out⟩, ⟨bw⟩⟩
           ·rw [if_neg c27] at H
            have c27b0 : (t233 == 0) = false := beq_eq_false_iff_ne.mpr c27
            have c27b1 : (t233 != 0) = true := bne_iff_ne.mpr c27
            have H' := AX H
            clear H
            have p227 : 0 ≤ (x46_2 : Int) := of_decide_eq_true (by first | (with_reducible assumption) | assumption)
            have q227 : x46_2 < (y224.length : Int) := of_decide_eq_true (by first | (with_reducible assumption) | assumption)
            obtain ⟨ad227, e227, hx227_0⟩ := Kd.at_int (Kd.R_reads' HO_44.out).2.2 x46_2 p227 q227
            cases e227
            replace p227 := eq_true p227
            replace q227 := eq_true q227
            have hnb71 := NB219_220.out
            have hnc71 := NB220_219.out
            obtain ⟨hcz72_0, hcz72_1, hcz72_2, hcz72_3, hcz72_4, hcz72_5, hcz72_6, hcz72_7, hcz72_8, hcz72_9⟩ := blkC10 (w := wr) BK219.out
            obtain ⟨hfz72_0, hfz72_1, hfz72_2, hfz72_3, hfz72_4, hfz72_5, hfz72_6, hfz72_7, hfz72_8, hfz72_9⟩ := blkF10 BK219.out
            go_wp2_with (first | ((with_reducible refine gate_callee (f := 17) rfl ?_); refine gL (some 57) Try.func17 #[.agg #[.int .i64 a0_0, .int .i64 a0_1, .int .i64 a0_2, .int .i64 a0_3, .int .i64 a0_4, .int .i64 a0_5, .int .i64 a0_6, .int .i64 a0_7, .int .i64 a0_8, .int .i64 a0_9], .int .i64 (wrap64 ((wrap64 ((wrap64 (t222 * 86400)) + (wrap64 (60 * (wrap64 (a2 - a0_0)))))) - (wrap64 (60 * (rd y224 x46_2)))))] ?_; (with_reducible refine (zone_At.calls k2 a0_0 a0_1 a0_2 a0_3 a0_4 a0_5 a0_6 a0_7 a0_8 a0_9 (wrap64 ((wrap64 ((wrap64 (t222 * 86400)) + (wrap64 (60 * (wrap64 (a2 - a0_0)))))) - (wrap64 (60 * (rd y224 x46_2))))) t228 t229 t230 t231 t232 t233 _ A26.out).mono ?_); rintro e w73 ⟨rfl, hb⟩; refine ⟨_, rfl, ?_⟩; replace HO_10 := AX (Kd.R_below (kr HO_10) hb); replace HO_44 := AX (Kd.R_below (kr HO_44) hb); replace BK219 := AX (bkb BK219 hb); replace BK220 := AX (bkb BK220 hb); replace HB := AX (below_step bw hb); (try clear hb)) | ((with_reducible refine gate_dst (N := 15) rfl ?_); (try (refine gate_guard (by rfl) ?_; dsimp only)); refine bx 15 #[.int .i64 0, .int .i64 0, .int .i64 0, .int .i64 0, .int .i64 0] 35 ?_; intro gb234 hg w74 hbox hb; have BK234 := AX (hbox); have GW234 := gwl (w := w) hg bw; have GE234 := GW234; have NB219_234 := nbl hg (bkn BK219); have NB234_219 := nbg hg (bkn BK219); have NB220_234 := nbl hg (bkn BK220); have NB234_220 := nbg hg (bkn BK220); replace HO_10 := AX (Kd.R_below (kr HO_10) hb); replace HO_44 := AX (Kd.R_below (kr HO_44) hb); replace BK219 := AX (bkb BK219 hb); replace BK220 := AX (bkb BK220 hb); replace HB := AX (below_step bw hb); clear hb hbox hg; have hnb75 := NB234_219.out; have hnc75 := NB219_234.out; have hnb76 := NB234_220.out; have hnc76 := NB220_234.out; obtain ⟨hcz77_0, hcz77_1, hcz77_2, hcz77_3, hcz77_4⟩ := blkC5 (w := w74) BK234.out; obtain ⟨hfz77_0, hfz77_1, hfz77_2, hfz77_3, hfz77_4⟩ := blkF5 BK234.out))
            go_roundg k2
            case measure => have := HJ7.out; have := HK2.out; omega
            case rel => exact ⟨(x10_2), (wrap64 (x46_2 + 1)), (by first | rfl | (simp; done) | (simp [*]; done)), H', ⟨by have := HJ7.out; have := HK2.out; omega⟩, ⟨by (with_reducible repeat (first | apply Kd.R_alloc | apply Kd.R_drewN | apply Kd.R_drew)); exact Kd.R_mono (Kd.R_far (p := ⟨gb234, 4, none⟩) (Kd.R_far (p := ⟨gb234, 3, none⟩) (Kd.R_far (p := ⟨gb234, 2, none⟩) (Kd.R_far (p := ⟨gb234, 1, none⟩) (Kd.R_far (p := ⟨gb234, 0, none⟩) (Kd.R_types HO_10.out BK234.out (by decide)) (fun _ hk => hk.2) (.int .i64 t228)) (fun _ hk => hk.2) (.int .i64 t229)) (fun _ hk => hk.2) (.int .i64 t230)) (fun _ hk => hk.2) (.int .i64 t231)) (fun _ hk => hk.2) (.int .i64 t232)) (fun _ hk => trivial)⟩, ⟨by (with_reducible repeat (first | apply Kd.R_alloc | apply Kd.R_drewN | apply Kd.R_drew)); exact Kd.R_mono (Kd.R_far (p := ⟨gb234, 4, none⟩) (Kd.R_far (p := ⟨gb234, 3, none⟩) (Kd.R_far (p := ⟨gb234, 2, none⟩) (Kd.R_far (p := ⟨gb234, 1, none⟩) (Kd.R_far (p := ⟨gb234, 0, none⟩) (Kd.R_types HO_44.out BK234.out (by decide)) (fun _ hk => hk.2) (.int .i64 t228)) (fun _ hk => hk.2) (.int .i64 t229)) (fun _ hk => hk.2) (.int .i64 t230)) (fun _ hk => hk.2) (.int .i64 t231)) (fun _ hk => hk.2) (.int .i64 t232)) (fun _ hk => trivial)⟩, ⟨by (with_reducible repeat first|refine blk_drewN ?_ _|refine blk_drew ?_|refine blk_alloc ?_ _); refine blk_far ?_ NB219_234.out _; (with_reducible repeat first|refine blk_drewN ?_ _|refine blk_drew ?_|refine blk_alloc ?_ _); refine blk_far ?_ NB219_234.out _; (with_reducible repeat first|refine blk_drewN ?_ _|refine blk_drew ?_|refine blk_alloc ?_ _); refine blk_far ?_ NB219_234.out _; (with_reducible repeat first|refine blk_drewN ?_ _|refine blk_drew ?_|refine blk_alloc ?_ _); refine blk_far ?_ NB219_234.out _; (with_reducible repeat first|refine blk_drewN ?_ _|refine blk_drew ?_|refine blk_alloc ?_ _); refine blk_far ?_ NB219_234.out _; (with_reducible repeat first|refine blk_drewN ?_ _|refine blk_drew ?_|refine blk_alloc ?_ _); exact BK219.out⟩, ⟨by (with_reducible repeat first|refine blk_drewN ?_ _|refine blk_drew ?_|refine blk_alloc ?_ _); refine blk_far ?_ NB220_234.out _; (with_reducible repeat first|refine blk_drewN ?_ _|refine blk_drew ?_|refine blk_alloc ?_ _); refine blk_far ?_ NB220_234.out _; (with_reducible repeat first|refine blk_drewN ?_ _|refine blk_drew ?_|refine blk_alloc ?_ _); refine blk_far ?_ NB220_234.out _; (with_reducible repeat first|refine blk_drewN ?_ _|refine blk_drew ?_|refine blk_alloc ?_ _); refine blk_far ?_ NB220_234.out _; (with_reducible repeat first|refine blk_drewN ?_ _|refine blk_drew ?_|refine blk_alloc ?_ _); refine blk_far ?_ NB220_234.out _; (with_reducible repeat first|refine blk_drewN ?_ _|refine blk_drew ?_|refine blk_alloc ?_ _); exact BK220.out⟩, ⟨bw⟩⟩
          ·rw [if_neg c25] at H
           exact absurd H (by simp)
         ·rw [if_neg c24] at H
          exact absurd H (by simp)
        ·rw [if_neg c23] at H
         have c23b0 : decide (x46_2 < (y224.length : Int)) = false := decide_eq_false c23
         clear c23
         simp only [Option.some.injEq, Prod.mk.injEq] at H
         obtain ⟨rfl, rfl⟩ := H
         go_wp2
         go_ret2
         exact ⟨_, by first | rfl | (simp [errW_none, errW_some] <;> rfl) | (simp [*, errW_none, errW_some] <;> rfl), kr HO_10, bw⟩
  ·rw [if_neg c7] at H
   have c7b0 : (t223 == 0) = false := beq_eq_false_iff_ne.mpr c7
   have c7b1 : (t223 != 0) = true := bne_iff_ne.mpr c7
   simp only [Option.some.injEq, Prod.mk.injEq] at H
   obtain ⟨rfl, rfl⟩ := H
   go_enter Try.func20, Try.ntmps20
   go_wp2_with (first | ((with_reducible refine gate_dst (N := 3) rfl ?_); (try (refine gate_guard (by rfl) ?_; dsimp only)); refine bx 3 #[.int .i64 a0_0, .int .i64 a0_1, .int .i64 a0_2, .int .i64 a0_3, .int .i64 a0_4, .int .i64 a0_5, .int .i64 a0_6, .int .i64 a0_7, .int .i64 a0_8, .int .i64 a0_9] 25 ?_; intro gb219 hg w78 hbox hb; have BK219 := AX (hbox); have GW219 := gwl (w := w) hg bw; have GE219 := GW219; replace HB := AX (below_step bw hb); clear hb hbox hg) | ((with_reducible refine gate_dst (N := 4) rfl ?_); (try (refine gate_guard (by rfl) ?_; dsimp only)); refine bx 4 #[.int .i64 a1_0, .int .i64 a1_1, .int .i64 a1_2] 33 ?_; intro gb220 hg w79 hbox hb; have BK220 := AX (hbox); have GW220 := gwl (w := w) hg bw; have GE220 := GW220; have NB219_220 := nbl hg (bkn BK219); have NB220_219 := nbg hg (bkn BK219); replace BK219 := AX (bkb BK219 hb); replace HB := AX (below_step bw hb); clear hb hbox hg; have hnb80 := NB219_220.out; have hnc80 := NB220_219.out; obtain ⟨hcz81_0, hcz81_1, hcz81_2, hcz81_3, hcz81_4, hcz81_5, hcz81_6, hcz81_7, hcz81_8, hcz81_9⟩ := blkC10 (w := w79) BK219.out; obtain ⟨hfz81_0, hfz81_1, hfz81_2, hfz81_3, hfz81_4, hfz81_5, hfz81_6, hfz81_7, hfz81_8, hfz81_9⟩ := blkF10 BK219.out) | ((with_reducible refine gate_callee (f := 19) rfl ?_); refine gL (some 18) Try.func19 #[.agg #[.int .i64 a0_0, .int .i64 a0_1, .int .i64 a0_2, .int .i64 a0_3, .int .i64 a0_4, .int .i64 a0_5, .int .i64 a0_6, .int .i64 a0_7, .int .i64 a0_8, .int .i64 a0_9]] ?_; (with_reducible refine (zone_Check.calls k a0_0 a0_1 a0_2 a0_3 a0_4 a0_5 a0_6 a0_7 a0_8 a0_9 t221 _ A4.out).mono ?_); rintro e w82 ⟨rfl, hb⟩; refine ⟨_, rfl, ?_⟩; replace BK219 := AX (bkb BK219 hb); replace BK220 := AX (bkb BK220 hb); replace HB := AX (below_step bw hb); (try clear hb); obtain ⟨hcz83_0, hcz83_1, hcz83_2⟩ := blkC3 (w := w82) BK220.out; obtain ⟨hfz83_0, hfz83_1, hfz83_2⟩ := blkF3 BK220.out) | ((with_reducible refine gate_callee (f := 45) rfl ?_); refine gL (some 22) Try.func45 #[.agg #[.int .i64 a1_0, .int .i64 a1_1, .int .i64 a1_2]] ?_; (with_reducible refine (civil_Days.calls a1_0 a1_1 a1_2 t222 t223 _ A6.out).mono ?_); rintro e w84 ⟨rfl, hb⟩; refine ⟨_, rfl, ?_⟩; replace BK219 := AX (bkb BK219 hb); replace BK220 := AX (bkb BK220 hb); replace HB := AX (below_step bw hb); (try clear hb)))
   go_ret2
   exact ⟨_, by first | rfl | (simp [errW_none, errW_some] <;> rfl) | (simp [*, errW_none, errW_some] <;> rfl), by first | exact Kd.R_nil _ _ _ _ _ | exact Kd.N_nil _ _ _ _ _ | exact Kd.V_nil _ _ _ _ _ | exact Kd.Q_nil _ _ _ _ _ | exact Kd.S_nil _ _ _ _ _, bw⟩
 ·rw [if_neg c5] at H
  have c5b0 : (t221 == 0) = false := beq_eq_false_iff_ne.mpr c5
  have c5b1 : (t221 != 0) = true := bne_iff_ne.mpr c5
  simp only [Option.some.injEq, Prod.mk.injEq] at H
  obtain ⟨rfl, rfl⟩ := H
  go_enter Try.func20, Try.ntmps20
  go_wp2_with (first | ((with_reducible refine gate_dst (N := 3) rfl ?_); (try (refine gate_guard (by rfl) ?_; dsimp only)); refine bx 3 #[.int .i64 a0_0, .int .i64 a0_1, .int .i64 a0_2, .int .i64 a0_3, .int .i64 a0_4, .int .i64 a0_5, .int .i64 a0_6, .int .i64 a0_7, .int .i64 a0_8, .int .i64 a0_9] 25 ?_; intro gb219 hg w85 hbox hb; have BK219 := AX (hbox); have GW219 := gwl (w := w) hg bw; have GE219 := GW219; replace HB := AX (below_step bw hb); clear hb hbox hg) | ((with_reducible refine gate_dst (N := 4) rfl ?_); (try (refine gate_guard (by rfl) ?_; dsimp only)); refine bx 4 #[.int .i64 a1_0, .int .i64 a1_1, .int .i64 a1_2] 33 ?_; intro gb220 hg w86 hbox hb; have BK220 := AX (hbox); have GW220 := gwl (w := w) hg bw; have GE220 := GW220; have NB219_220 := nbl hg (bkn BK219); have NB220_219 := nbg hg (bkn BK219); replace BK219 := AX (bkb BK219 hb); replace HB := AX (below_step bw hb); clear hb hbox hg; have hnb87 := NB219_220.out; have hnc87 := NB220_219.out; obtain ⟨hcz88_0, hcz88_1, hcz88_2, hcz88_3, hcz88_4, hcz88_5, hcz88_6, hcz88_7, hcz88_8, hcz88_9⟩ := blkC10 (w := w86) BK219.out; obtain ⟨hfz88_0, hfz88_1, hfz88_2, hfz88_3, hfz88_4, hfz88_5, hfz88_6, hfz88_7, hfz88_8, hfz88_9⟩ := blkF10 BK219.out) | ((with_reducible refine gate_callee (f := 19) rfl ?_); refine gL (some 18) Try.func19 #[.agg #[.int .i64 a0_0, .int .i64 a0_1, .int .i64 a0_2, .int .i64 a0_3, .int .i64 a0_4, .int .i64 a0_5, .int .i64 a0_6, .int .i64 a0_7, .int .i64 a0_8, .int .i64 a0_9]] ?_; (with_reducible refine (zone_Check.calls k a0_0 a0_1 a0_2 a0_3 a0_4 a0_5 a0_6 a0_7 a0_8 a0_9 t221 _ A4.out).mono ?_); rintro e w89 ⟨rfl, hb⟩; refine ⟨_, rfl, ?_⟩; replace BK219 := AX (bkb BK219 hb); replace BK220 := AX (bkb BK220 hb); replace HB := AX (below_step bw hb); (try clear hb)))
  go_ret2
  exact ⟨_, by first | rfl | (simp [errW_none, errW_some] <;> rfl) | (simp [*, errW_none, errW_some] <;> rfl), by first | exact Kd.R_nil _ _ _ _ _ | exact Kd.N_nil _ _ _ _ _ | exact Kd.V_nil _ _ _ _ _ | exact Kd.Q_nil _ _ _ _ _ | exact Kd.S_nil _ _ _ _ _, bw⟩

end Go.Proofs.Ytddkckpfmleffaa.PX
