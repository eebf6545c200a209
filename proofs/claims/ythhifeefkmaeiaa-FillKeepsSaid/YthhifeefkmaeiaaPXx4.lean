/- Functions of the program as plain Lean functions, each with a proof that the call in the machine answers just what the plain function says; condition: the plain function answers at all. -/
import Derived.Test.YthhifeefkmaeiaaPXx0
import Derived.Test.YthhifeefkmaeiaaPXx3
namespace Go.Proofs.Ythhifeefkmaeiaa.PX
open Go.RowKit Go.Proofs.YthhifeefkmaeiaaW.PrintWords Go.Proofs.YthhifeefkmaeiaaW.PrintLast Go.Proofs.YthhifeefkmaeiaaW.PrintMore
attribute [local go_sem] max2_int min2_int max_two min_two max_three min_three max_four min_four   -- for this text's walks alone
set_option linter.unusedVariables false
set_option linter.unusedSimpArgs false

/-! ### pylonref11_Line: function 11 -/
mutual
def pylonref11_Line.j0 : Nat → Int → Int → Int → Bool → Option (List Int × Int)
 | 0, _, _, _, _ => none
 | k + 1, x0, x1, x2, x34 => if x34 = true then (some (([] : List Int), 8)) else (if 0 ≤ x2 then (if (x2 : Int).toNat ≤ 35184372088832 then ((pylonref01_Div.f (wrap64 (x2 * (wrap64 (x0 + x1)))) 2).bind fun bt119 => (pylonref11_Line.l0 k x0 x1 x2 (List.replicate (x2 : Int).toNat 0) (List.replicate (x2 : Int).toNat 0) bt119.1 1)) else (none)) else (none))
def pylonref11_Line.l0 : Nat → Int → Int → Int → List Int → List Int → Int → Int → Option (List Int × Int)
 | 0, _, _, _, _, _, _, _ => none
 | k + 1, x0, x1, x2, x8, x9, x10, x13 => if x13 ≤ x2 then ((pylonref01_Div.f (wrap64 ((wrap64 (x0 * (wrap64 ((wrap64 (x2 + 1)) - x13)))) + (wrap64 (x1 * x13)))) (wrap64 (x2 + 1))).bind fun bt122 => (if 0 ≤ (wrap64 (x13 - 1)) then (if (wrap64 (x13 - 1)) < (x8.length : Int) then (if (wrap64 (x13 - 1)) < (x9.length : Int) then (pylonref11_Line.l0 k x0 x1 x2 (x8.set ((wrap64 (x13 - 1)) : Int).toNat bt122.1) (x9.set ((wrap64 (x13 - 1)) : Int).toNat bt122.2.1) (wrap64 (x10 - bt122.1)) (wrap64 (x13 + 1))) else (none)) else (none)) else (none))) else (pylonref11_Line.l1 k x8 x9 x10)
def pylonref11_Line.l1 : Nat → List Int → List Int → Int → Option (List Int × Int)
 | 0, _, _, _ => none
 | k + 1, x8, x9, x10 => if x10 > 0 then (pylonref11_Line.l2 k x8 x9 x10 0 (x9.length : Int) 0) else (some (x8, 0))
def pylonref11_Line.l2 : Nat → List Int → List Int → Int → Int → Int → Int → Option (List Int × Int)
 | 0, _, _, _, _, _, _ => none
 | k + 1, x8, x9, x10, x17, x87, x88 => if x88 < x87 then (if 0 ≤ x88 then (if x88 < (x9.length : Int) then (if 0 ≤ x17 then (if x17 < (x9.length : Int) then (if (rd x9 x88) > (rd x9 x17) then (pylonref11_Line.l2 k x8 x9 x10 x88 x87 (wrap64 (x88 + 1))) else (pylonref11_Line.l2 k x8 x9 x10 x17 x87 (wrap64 (x88 + 1)))) else (none)) else (none)) else (none)) else (none)) else (if 0 ≤ x17 then (if x17 < (x8.length : Int) then (if x17 < (x9.length : Int) then (pylonref11_Line.l1 k (x8.set (x17 : Int).toNat (wrap64 ((rd x8 x17) + 1))) (x9.set (x17 : Int).toNat (-1)) (wrap64 (x10 - 1))) else (none)) else (none)) else (none))
end
def pylonref11_Line.f (k : Nat) (a0 : Int) (a1 : Int) (a2 : Int) : Option (List Int × Int) := if a2 < 0 then (pylonref11_Line.j0 k a0 a1 a2 true) else (if a2 > 40000 then (pylonref11_Line.j0 k a0 a1 a2 true) else ((pylonref11_near.f a0).bind fun t111 => (if t111 = true then ((pylonref11_near.f a1).bind fun t112 => (pylonref11_Line.j0 k a0 a1 a2 (!t112))) else (pylonref11_Line.j0 k a0 a1 a2 true))))
theorem pylonref11_Line.mono_l : ∀ k, (∀ y0 y1 y2 y3, LeO (pylonref11_Line.j0 k y0 y1 y2 y3) (pylonref11_Line.j0 (k + 1) y0 y1 y2 y3)) ∧ (∀ y0 y1 y2 y3 y4 y5 y6, LeO (pylonref11_Line.l0 k y0 y1 y2 y3 y4 y5 y6) (pylonref11_Line.l0 (k + 1) y0 y1 y2 y3 y4 y5 y6)) ∧ (∀ y0 y1 y2, LeO (pylonref11_Line.l1 k y0 y1 y2) (pylonref11_Line.l1 (k + 1) y0 y1 y2)) ∧ (∀ y0 y1 y2 y3 y4 y5, LeO (pylonref11_Line.l2 k y0 y1 y2 y3 y4 y5) (pylonref11_Line.l2 (k + 1) y0 y1 y2 y3 y4 y5))
 | 0 => ⟨fun _ _ _ _ r h => by simp [pylonref11_Line.j0] at h, fun _ _ _ _ _ _ _ r h => by simp [pylonref11_Line.l0] at h, fun _ _ _ r h => by simp [pylonref11_Line.l1] at h, fun _ _ _ _ _ _ r h => by simp [pylonref11_Line.l2] at h⟩
 | k + 1 => by
  obtain ⟨ih0, ih1, ih2, ih3⟩ := pylonref11_Line.mono_l k
  refine ⟨?_, ?_, ?_, ?_⟩
  ·intro y0 y1 y2 y3
   unfold pylonref11_Line.j0
   repeat' first
   | (with_reducible exact ih0 _ _ _ _)
   | (with_reducible exact ih1 _ _ _ _ _ _ _)
   | (with_reducible exact ih2 _ _ _)
   | (with_reducible exact ih3 _ _ _ _ _ _)
   | (with_reducible exact LeO.refl _)
   | (with_reducible exact LeO.none _)
   | (with_reducible refine LeO.ite ?_ ?_)
   | (with_reducible refine LeO.bind ?_ (fun _ => ?_))
  ·intro y0 y1 y2 y3 y4 y5 y6
   unfold pylonref11_Line.l0
   repeat' first
   | (with_reducible exact ih0 _ _ _ _)
   | (with_reducible exact ih1 _ _ _ _ _ _ _)
   | (with_reducible exact ih2 _ _ _)
   | (with_reducible exact ih3 _ _ _ _ _ _)
   | (with_reducible exact LeO.refl _)
   | (with_reducible exact LeO.none _)
   | (with_reducible refine LeO.ite ?_ ?_)
   | (with_reducible refine LeO.bind ?_ (fun _ => ?_))
  ·intro y0 y1 y2
   unfold pylonref11_Line.l1
   repeat' first
   | (with_reducible exact ih0 _ _ _ _)
   | (with_reducible exact ih1 _ _ _ _ _ _ _)
   | (with_reducible exact ih2 _ _ _)
   | (with_reducible exact ih3 _ _ _ _ _ _)
   | (with_reducible exact LeO.refl _)
   | (with_reducible exact LeO.none _)
   | (with_reducible refine LeO.ite ?_ ?_)
   | (with_reducible refine LeO.bind ?_ (fun _ => ?_))
  ·intro y0 y1 y2 y3 y4 y5
   unfold pylonref11_Line.l2
   repeat' first
   | (with_reducible exact ih0 _ _ _ _)
   | (with_reducible exact ih1 _ _ _ _ _ _ _)
   | (with_reducible exact ih2 _ _ _)
   | (with_reducible exact ih3 _ _ _ _ _ _)
   | (with_reducible exact LeO.refl _)
   | (with_reducible exact LeO.none _)
   | (with_reducible refine LeO.ite ?_ ?_)
   | (with_reducible refine LeO.bind ?_ (fun _ => ?_))
theorem pylonref11_Line.mono : ∀ a0 a1 a2 k, LeO (pylonref11_Line.f k a0 a1 a2) (pylonref11_Line.f (k + 1) a0 a1 a2) := by
 intro a0 a1 a2 k
 obtain ⟨ih0, ih1, ih2, ih3⟩ := pylonref11_Line.mono_l k
 unfold pylonref11_Line.f
 repeat' first
   | (with_reducible exact ih0 _ _ _ _)
   | (with_reducible exact ih1 _ _ _ _ _ _ _)
   | (with_reducible exact ih2 _ _ _)
   | (with_reducible exact ih3 _ _ _ _ _ _)
   | (with_reducible exact LeO.refl _)
   | (with_reducible exact LeO.none _)
   | (with_reducible refine LeO.ite ?_ ?_)
   | (with_reducible refine LeO.bind ?_ (fun _ => ?_))
set_option maxHeartbeats 8000000 in
set_option maxRecDepth 100000 in
theorem pylonref11_Line.calls (k : Nat) (a0 : Int) (a1 : Int) (a2 : Int) (r1 : List Int) (r2 : Int) (w : World) (h : pylonref11_Line.f k a0 a1 a2 = some (r1, r2)) :
  Calls Try.prog 11 #[.int .i64 a0, .int .i64 a1, .int .i64 a2] w fun e w' => ∃ v0_ : Value, e = .returned (.tuple #[v0_, .int .i64 r2]) ∧ Kd.R (Kd.int .i64) 2 w' w.heap.size (fun _ => True) v0_ r1 ∧ Below w.heap.size w w' := by
 have HB := AX (Below.refl w.heap.size w)
 have H : (if a2 < 0 then (pylonref11_Line.j0 k a0 a1 a2 true) else (if a2 > 40000 then (pylonref11_Line.j0 k a0 a1 a2 true) else ((pylonref11_near.f a0).bind fun t111 => (if t111 = true then ((pylonref11_near.f a1).bind fun t112 => (pylonref11_Line.j0 k a0 a1 a2 (!t112))) else (pylonref11_Line.j0 k a0 a1 a2 true))))) = some (r1, r2) := h
 clear h
 have HC4 := AX H
 clear H
 go_enter Try.func11, Try.ntmps11
 go_upto_region 1 with (fail)
 repeat (go_quiet (fail); go_upto_region 1 with (fail))
 go_cut [34] (fun v34 wc => ∃ (kq : Nat) (x34_3 : Bool), v34 = .bool x34_3 ∧ Aside0 (pylonref11_Line.j0 kq a0 a1 a2 x34_3 = some (r1, r2)) ∧ Aside0 (kq ≤ k) ∧ Aside0 (Below w.heap.size w wc))
 case first =>
  have H := HC4.out
  clear HC4
  by_cases c5 : a2 < 0
  ·rw [if_pos c5] at H
   have c5b0 : decide (a2 < 0) = true := decide_eq_true c5
   clear c5
   (first | rw [c5b0] | (simp only [i64_w, i32_w]; rw [c5b0]) | skip)
   have H' := AX H
   clear H
   go_wp2
   repeat (go_quiet (fail); try go_wp2)
   go_meet
   case rel => exact ⟨_, (true), (by first | rfl | (simp; done) | (simp [*]; done)), H', ⟨by first | omega | exact Nat.le_refl _⟩, ⟨bw⟩⟩
  ·rw [if_neg c5] at H
   have c5b0 : decide (a2 < 0) = false := decide_eq_false c5
   clear c5
   (first | rw [c5b0] | (simp only [i64_w, i32_w]; rw [c5b0]) | skip)
   by_cases c6 : a2 > 40000
   ·rw [if_pos c6] at H
    have c6b0 : decide (40000 < a2) = true := decide_eq_true c6
    clear c6
    have H' := AX H
    clear H
    go_wp2
    repeat (go_quiet (fail); try go_wp2)
    go_meet
    case rel => exact ⟨_, (true), (by first | rfl | (simp; done) | (simp [*]; done)), H', ⟨by first | omega | exact Nat.le_refl _⟩, ⟨bw⟩⟩
   ·rw [if_neg c6] at H
    have c6b0 : decide (40000 < a2) = false := decide_eq_false c6
    clear c6
    replace H := Option.bind_eq_some_iff.mp H
    obtain ⟨t111, A70, H⟩ := H
    replace H : (if t111 = true then ((pylonref11_near.f a1).bind fun t112 => (pylonref11_Line.j0 k a0 a1 a2 (!t112))) else (pylonref11_Line.j0 k a0 a1 a2 true)) = some (r1, r2) := H
    have A7 := AX A70
    clear A70
    by_cases c8 : t111 = true
    ·subst c8
     have H1 : ((pylonref11_near.f a1).bind fun t112 => (pylonref11_Line.j0 k a0 a1 a2 (!t112))) = some (r1, r2) := by rw [if_pos rfl] at H; exact H
     clear H
     have H := H1
     clear H1
     replace H := Option.bind_eq_some_iff.mp H
     obtain ⟨t112, A90, H⟩ := H
     replace H : (pylonref11_Line.j0 k a0 a1 a2 (!t112)) = some (r1, r2) := H
     have A9 := AX A90
     clear A90
     have H' := AX H
     clear H
     go_wp2_with (first | (go_at_call 23; (with_reducible refine (pylonref11_near.calls a0 true _ A7.out).mono ?_); rintro e w' ⟨rfl, ⟨nd, rfl⟩⟩; (try first | exact ⟨rfl, _, World.drewN_drewN _ _ _⟩ | exact ⟨rfl, _, Eq.trans (World.drewN_drewN _ _ _) (congrArg (World.drewN _) (Nat.add_assoc _ _ _))⟩)) | (go_at_call 23; (with_reducible refine (pylonref11_near.calls a1 t112 _ A9.out).mono ?_); rintro e w' ⟨rfl, ⟨nd, rfl⟩⟩; (try first | exact ⟨rfl, _, World.drewN_drewN _ _ _⟩ | exact ⟨rfl, _, Eq.trans (World.drewN_drewN _ _ _) (congrArg (World.drewN _) (Nat.add_assoc _ _ _))⟩)))
     repeat (go_quiet (first | (go_at_call 23; (with_reducible refine (pylonref11_near.calls a0 true _ A7.out).mono ?_); rintro e w' ⟨rfl, ⟨nd, rfl⟩⟩; (try first | exact ⟨rfl, _, World.drewN_drewN _ _ _⟩ | exact ⟨rfl, _, Eq.trans (World.drewN_drewN _ _ _) (congrArg (World.drewN _) (Nat.add_assoc _ _ _))⟩)) | (go_at_call 23; (with_reducible refine (pylonref11_near.calls a1 t112 _ A9.out).mono ?_); rintro e w' ⟨rfl, ⟨nd, rfl⟩⟩; (try first | exact ⟨rfl, _, World.drewN_drewN _ _ _⟩ | exact ⟨rfl, _, Eq.trans (World.drewN_drewN _ _ _) (congrArg (World.drewN _) (Nat.add_assoc _ _ _))⟩))); try go_wp2_with (first | (go_at_call 23; (with_reducible refine (pylonref11_near.calls a0 true _ A7.out).mono ?_); rintro e w' ⟨rfl, ⟨nd, rfl⟩⟩; (try first | exact ⟨rfl, _, World.drewN_drewN _ _ _⟩ | exact ⟨rfl, _, Eq.trans (World.drewN_drewN _ _ _) (congrArg (World.drewN _) (Nat.add_assoc _ _ _))⟩)) | (go_at_call 23; (with_reducible refine (pylonref11_near.calls a1 t112 _ A9.out).mono ?_); rintro e w' ⟨rfl, ⟨nd, rfl⟩⟩; (try first | exact ⟨rfl, _, World.drewN_drewN _ _ _⟩ | exact ⟨rfl, _, Eq.trans (World.drewN_drewN _ _ _) (congrArg (World.drewN _) (Nat.add_assoc _ _ _))⟩))))
     go_meet
     case rel => exact ⟨_, (!t112), (by first | rfl | (simp; done) | (simp [*]; done)), H', ⟨by first | omega | exact Nat.le_refl _⟩, ⟨bw⟩⟩
    ·replace c8 := Bool.eq_false_iff.mpr c8
     subst c8
     have H1 : (pylonref11_Line.j0 k a0 a1 a2 true) = some (r1, r2) := by rw [if_neg (show ¬ (false = true) by decide)] at H; exact H
     clear H
     have H := H1
     clear H1
     have H' := AX H
     clear H
     go_wp2_with (first | (go_at_call 23; (with_reducible refine (pylonref11_near.calls a0 false _ A7.out).mono ?_); rintro e w' ⟨rfl, ⟨nd, rfl⟩⟩; (try first | exact ⟨rfl, _, World.drewN_drewN _ _ _⟩ | exact ⟨rfl, _, Eq.trans (World.drewN_drewN _ _ _) (congrArg (World.drewN _) (Nat.add_assoc _ _ _))⟩)))
     repeat (go_quiet (first | (go_at_call 23; (with_reducible refine (pylonref11_near.calls a0 false _ A7.out).mono ?_); rintro e w' ⟨rfl, ⟨nd, rfl⟩⟩; (try first | exact ⟨rfl, _, World.drewN_drewN _ _ _⟩ | exact ⟨rfl, _, Eq.trans (World.drewN_drewN _ _ _) (congrArg (World.drewN _) (Nat.add_assoc _ _ _))⟩))); try go_wp2_with (first | (go_at_call 23; (with_reducible refine (pylonref11_near.calls a0 false _ A7.out).mono ?_); rintro e w' ⟨rfl, ⟨nd, rfl⟩⟩; (try first | exact ⟨rfl, _, World.drewN_drewN _ _ _⟩ | exact ⟨rfl, _, Eq.trans (World.drewN_drewN _ _ _) (congrArg (World.drewN _) (Nat.add_assoc _ _ _))⟩))))
     go_meet
     case rel => exact ⟨_, (true), (by first | rfl | (simp; done) | (simp [*]; done)), H', ⟨by first | omega | exact Nat.le_refl _⟩, ⟨bw⟩⟩
 case rest =>
  clear HC4
  obtain ⟨kq, x34_3, rfl, HA, HJ3, HB⟩ := hcut
  cases kq with
  | zero => exact absurd HA.out (by simp [pylonref11_Line.j0])
  | succ kj3 =>
   have H := HA.out
   clear HA
   simp only [pylonref11_Line.j0] at H
   by_cases c10 : x34_3 = true
   ·subst c10
    have H1 : (some (([] : List Int), 8)) = some (r1, r2) := by rw [if_pos rfl] at H; exact H
    clear H
    have H := H1
    clear H1
    simp only [Option.some.injEq, Prod.mk.injEq] at H
    obtain ⟨rfl, rfl⟩ := H
    go_wp2
    repeat (go_quiet (fail); try go_wp2)
    go_ret2
    exact ⟨_, by first | rfl | (simp [errW_none, errW_some] <;> rfl) | (simp [*, errW_none, errW_some] <;> rfl), by first | exact Kd.R_nil _ _ _ _ _ | exact Kd.N_nil _ _ _ _ _ | exact Kd.V_nil _ _ _ _ _ | exact Kd.Q_nil _ _ _ _ _ | exact Kd.S_nil _ _ _ _ _, bw⟩
   ·replace c10 := Bool.eq_false_iff.mpr c10
    subst c10
    have H1 : (if 0 ≤ a2 then (if (a2 : Int).toNat ≤ 35184372088832 then ((pylonref01_Div.f (wrap64 (a2 * (wrap64 (a0 + a1)))) 2).bind fun bt119 => (pylonref11_Line.l0 kj3 a0 a1 a2 (List.replicate (a2 : Int).toNat 0) (List.replicate (a2 : Int).toNat 0) bt119.1 1)) else (none)) else (none)) = some (r1, r2) := by rw [if_neg (show ¬ (false = true) by decide)] at H; exact H
    clear H
    have H := H1
    clear H1
    by_cases c11 : 0 ≤ a2
    ·rw [if_pos c11] at H
     have c11b0 := eq_true c11
     have c11b1 : decide (0 ≤ a2) = true := decide_eq_true c11
     clear c11
     by_cases c12 : (a2 : Int).toNat ≤ 35184372088832
     ·rw [if_pos c12] at H
      have c12b0 := eq_true c12
      have c12b1 : decide ((a2 : Int).toNat ≤ 35184372088832) = true := decide_eq_true c12
      clear c12
      obtain ⟨y113, hy113⟩ : ∃ y_ : List Int, y_ = (List.replicate (a2 : Int).toNat 0) := ⟨_, rfl⟩
      replace H : ((pylonref01_Div.f (wrap64 (a2 * (wrap64 (a0 + a1)))) 2).bind fun bt119 => (pylonref11_Line.l0 kj3 a0 a1 a2 y113 (List.replicate (a2 : Int).toNat 0) bt119.1 1)) = some (r1, r2) := by first | (rw [hy113]; with_reducible exact H) | (have H2_ := (Option.bind_some _ _).symm.trans H; rw [hy113]; with_reducible exact H2_) | (have H2_ := (Option.bind_some _ _).symm.trans H; with_reducible exact H2_) | with_reducible exact H | (rw [hy113]; exact H) | exact H
      have Ny113 := AX hy113
      clear hy113
      obtain ⟨y116, hy116⟩ : ∃ y_ : List Int, y_ = (List.replicate (a2 : Int).toNat 0) := ⟨_, rfl⟩
      replace H : ((pylonref01_Div.f (wrap64 (a2 * (wrap64 (a0 + a1)))) 2).bind fun bt119 => (pylonref11_Line.l0 kj3 a0 a1 a2 y113 y116 bt119.1 1)) = some (r1, r2) := by first | (rw [hy116]; with_reducible exact H) | (have H2_ := (Option.bind_some _ _).symm.trans H; rw [hy116]; with_reducible exact H2_) | (have H2_ := (Option.bind_some _ _).symm.trans H; with_reducible exact H2_) | with_reducible exact H | (rw [hy116]; exact H) | exact H
      have Ny116 := AX hy116
      clear hy116
      replace H := Option.bind_eq_some_iff.mp H
      obtain ⟨⟨t119, t120, t121⟩, A130, H⟩ := H
      replace H : (pylonref11_Line.l0 kj3 a0 a1 a2 y113 y116 t119 1) = some (r1, r2) := H
      have A13 := AX A130
      clear A130
      have H' := AX H
      clear H
      go_wp2_with (first | ((with_reducible refine gate_dst (N := 36) rfl ?_); refine Kd.R_make (Kd.int .i64) _ 2 rfl (N := 36) rfl 23 _ _ rfl a2 rfl rfl Try.underlying23 (.int .i64 0) 8 info2 rfl (by decide) (by omega) 0 (ok := fun _ => True) (okp := fun _ => True) rfl (fun _ hk => hk) trivial (of_decide_eq_true (by first | (with_reducible assumption) | assumption)) (Nat.le_trans (Nat.mul_le_mul_right _ (of_decide_eq_true (by first | (with_reducible assumption) | assumption) : a2.toNat ≤ 35184372088832)) (by omega)) (Below.refl _ _) (Nat.le_refl _) ?_; intro v114 w14 ho15 hb hg_ hnew_; clear hg_ hnew_; (first | rw [← Ny113.out] at ho15 | (simp only [Int.reduceToNat] at ho15; rw [← Ny113.out] at ho15)); have HO115 := AX (Kd.R_lower ho15 (below_size bw)); replace HB := AX (below_step bw hb); clear hb ho15) | ((with_reducible refine gate_dst (N := 38) rfl ?_); refine Kd.R_make (Kd.int .i64) _ 2 rfl (N := 38) rfl 23 _ _ rfl a2 rfl rfl Try.underlying23 (.int .i64 0) 8 info2 rfl (by decide) (by omega) 0 (ok := fun _ => True) (okp := fun _ => True) rfl (fun _ hk => hk) trivial (of_decide_eq_true (by first | (with_reducible assumption) | assumption)) (Nat.le_trans (Nat.mul_le_mul_right _ (of_decide_eq_true (by first | (with_reducible assumption) | assumption) : a2.toNat ≤ 35184372088832)) (by omega)) (Below.refl _ _) (Nat.le_refl _) ?_; intro v117 w16 ho17 hb hg_ hnew_; clear hg_ hnew_; (first | rw [← Ny116.out] at ho17 | (simp only [Int.reduceToNat] at ho17; rw [← Ny116.out] at ho17)); have HO118 := AX (Kd.R_lower (Kd.R_new' ho17 (Kd.R_lt (kr HO115))) (below_size bw)); replace HO115 := AX (Kd.R_elder' (kr HO115) (Kd.R_base ho17) hb); replace HB := AX (below_step bw hb); clear hb ho17) | (go_at_call 24; (with_reducible refine (pylonref01_Div.calls (wrap64 (a2 * (wrap64 (a0 + a1)))) 2 t119 t120 t121 _ A13.out).mono ?_); rintro e w' ⟨rfl, ⟨nd, rfl⟩⟩; (try first | exact ⟨rfl, _, World.drewN_drewN _ _ _⟩ | exact ⟨rfl, _, Eq.trans (World.drewN_drewN _ _ _) (congrArg (World.drewN _) (Nat.add_assoc _ _ _))⟩)))
      repeat (go_quiet (first | ((with_reducible refine gate_dst (N := 36) rfl ?_); refine Kd.R_make (Kd.int .i64) _ 2 rfl (N := 36) rfl 23 _ _ rfl a2 rfl rfl Try.underlying23 (.int .i64 0) 8 info2 rfl (by decide) (by omega) 0 (ok := fun _ => True) (okp := fun _ => True) rfl (fun _ hk => hk) trivial (of_decide_eq_true (by first | (with_reducible assumption) | assumption)) (Nat.le_trans (Nat.mul_le_mul_right _ (of_decide_eq_true (by first | (with_reducible assumption) | assumption) : a2.toNat ≤ 35184372088832)) (by omega)) (Below.refl _ _) (Nat.le_refl _) ?_; intro v114 w14 ho15 hb hg_ hnew_; clear hg_ hnew_; (first | rw [← Ny113.out] at ho15 | (simp only [Int.reduceToNat] at ho15; rw [← Ny113.out] at ho15)); have HO115 := AX (Kd.R_lower ho15 (below_size bw)); replace HB := AX (below_step bw hb); clear hb ho15) | ((with_reducible refine gate_dst (N := 38) rfl ?_); refine Kd.R_make (Kd.int .i64) _ 2 rfl (N := 38) rfl 23 _ _ rfl a2 rfl rfl Try.underlying23 (.int .i64 0) 8 info2 rfl (by decide) (by omega) 0 (ok := fun _ => True) (okp := fun _ => True) rfl (fun _ hk => hk) trivial (of_decide_eq_true (by first | (with_reducible assumption) | assumption)) (Nat.le_trans (Nat.mul_le_mul_right _ (of_decide_eq_true (by first | (with_reducible assumption) | assumption) : a2.toNat ≤ 35184372088832)) (by omega)) (Below.refl _ _) (Nat.le_refl _) ?_; intro v117 w16 ho17 hb hg_ hnew_; clear hg_ hnew_; (first | rw [← Ny116.out] at ho17 | (simp only [Int.reduceToNat] at ho17; rw [← Ny116.out] at ho17)); have HO118 := AX (Kd.R_lower (Kd.R_new' ho17 (Kd.R_lt (kr HO115))) (below_size bw)); replace HO115 := AX (Kd.R_elder' (kr HO115) (Kd.R_base ho17) hb); replace HB := AX (below_step bw hb); clear hb ho17) | (go_at_call 24; (with_reducible refine (pylonref01_Div.calls (wrap64 (a2 * (wrap64 (a0 + a1)))) 2 t119 t120 t121 _ A13.out).mono ?_); rintro e w' ⟨rfl, ⟨nd, rfl⟩⟩; (try first | exact ⟨rfl, _, World.drewN_drewN _ _ _⟩ | exact ⟨rfl, _, Eq.trans (World.drewN_drewN _ _ _) (congrArg (World.drewN _) (Nat.add_assoc _ _ _))⟩))); try go_wp2_with (first | ((with_reducible refine gate_dst (N := 36) rfl ?_); refine Kd.R_make (Kd.int .i64) _ 2 rfl (N := 36) rfl 23 _ _ rfl a2 rfl rfl Try.underlying23 (.int .i64 0) 8 info2 rfl (by decide) (by omega) 0 (ok := fun _ => True) (okp := fun _ => True) rfl (fun _ hk => hk) trivial (of_decide_eq_true (by first | (with_reducible assumption) | assumption)) (Nat.le_trans (Nat.mul_le_mul_right _ (of_decide_eq_true (by first | (with_reducible assumption) | assumption) : a2.toNat ≤ 35184372088832)) (by omega)) (Below.refl _ _) (Nat.le_refl _) ?_; intro v114 w14 ho15 hb hg_ hnew_; clear hg_ hnew_; (first | rw [← Ny113.out] at ho15 | (simp only [Int.reduceToNat] at ho15; rw [← Ny113.out] at ho15)); have HO115 := AX (Kd.R_lower ho15 (below_size bw)); replace HB := AX (below_step bw hb); clear hb ho15) | ((with_reducible refine gate_dst (N := 38) rfl ?_); refine Kd.R_make (Kd.int .i64) _ 2 rfl (N := 38) rfl 23 _ _ rfl a2 rfl rfl Try.underlying23 (.int .i64 0) 8 info2 rfl (by decide) (by omega) 0 (ok := fun _ => True) (okp := fun _ => True) rfl (fun _ hk => hk) trivial (of_decide_eq_true (by first | (with_reducible assumption) | assumption)) (Nat.le_trans (Nat.mul_le_mul_right _ (of_decide_eq_true (by first | (with_reducible assumption) | assumption) : a2.toNat ≤ 35184372088832)) (by omega)) (Below.refl _ _) (Nat.le_refl _) ?_; intro v117 w16 ho17 hb hg_ hnew_; clear hg_ hnew_; (first | rw [← Ny116.out] at ho17 | (simp only [Int.reduceToNat] at ho17; rw [← Ny116.out] at ho17)); have HO118 := AX (Kd.R_lower (Kd.R_new' ho17 (Kd.R_lt (kr HO115))) (below_size bw)); replace HO115 := AX (Kd.R_elder' (kr HO115) (Kd.R_base ho17) hb); replace HB := AX (below_step bw hb); clear hb ho17) | (go_at_call 24; (with_reducible refine (pylonref01_Div.calls (wrap64 (a2 * (wrap64 (a0 + a1)))) 2 t119 t120 t121 _ A13.out).mono ?_); rintro e w' ⟨rfl, ⟨nd, rfl⟩⟩; (try first | exact ⟨rfl, _, World.drewN_drewN _ _ _⟩ | exact ⟨rfl, _, Eq.trans (World.drewN_drewN _ _ _) (congrArg (World.drewN _) (Nat.add_assoc _ _ _))⟩))))
      go_loopg [10, 13] kj3 (fun kq v10 v13 w' => ∃ (x8_2 : List Int) (x9_2 : List Int) (x10_2 : Int) (x13_2 : Int), v10 = .int .i64 x10_2 ∧ v13 = .int .i64 x13_2 ∧ Aside0 (pylonref11_Line.l0 kq a0 a1 a2 x8_2 x9_2 x10_2 x13_2 = some (r1, r2)) ∧ Aside0 (kq ≤ kj3) ∧ Aside0 (Kd.R (Kd.int .i64) 2 w' w.heap.size (fun k_ => some k_ ≠ (v117 : Value).ownBlock) v114 x8_2) ∧ Aside0 (Kd.R (Kd.int .i64) 2 w' w.heap.size (fun k_ => some k_ ≠ (v114 : Value).ownBlock) v117 x9_2) ∧ Aside0 (Below w.heap.size w w'))
      case atStart => exact ⟨(y113), (y116), (t119), (1), (by first | rfl | (simp; done) | (simp [*]; done)), (by first | rfl | (simp; done) | (simp [*]; done)), H', ⟨Nat.le_refl _⟩, ⟨by (with_reducible repeat (first | apply Kd.R_alloc | apply Kd.R_drewN | apply Kd.R_drew)); exact Kd.R_mono HO115.out (fun _ hk => hk.2)⟩, ⟨by (with_reducible repeat (first | apply Kd.R_alloc | apply Kd.R_drewN | apply Kd.R_drew)); exact Kd.R_mono HO118.out (fun _ hk => hk.2)⟩, ⟨bw⟩⟩
      case round =>
       clear H'
       try clear c10
       try clear c11b0 c11b1
       try clear c12b0 c12b1
       obtain ⟨x8_2, x9_2, x10_2, x13_2, rfl, rfl, HA, HK2, HO_8, HO_9, HB⟩ := hrel
       cases gk with
       | zero => exact absurd HA.out (by simp [pylonref11_Line.l0])
       | succ k2 =>
        have H := HA.out
        clear HA
        simp only [pylonref11_Line.l0] at H
        by_cases c18 : x13_2 ≤ a2
        ·rw [if_pos c18] at H
         have c18b0 : decide (x13_2 ≤ a2) = true := decide_eq_true c18
         clear c18
         replace H := Option.bind_eq_some_iff.mp H
         obtain ⟨⟨t122, t123, t124⟩, A190, H⟩ := H
         replace H : (if 0 ≤ (wrap64 (x13_2 - 1)) then (if (wrap64 (x13_2 - 1)) < (x8_2.length : Int) then (if (wrap64 (x13_2 - 1)) < (x9_2.length : Int) then (pylonref11_Line.l0 k2 a0 a1 a2 (x8_2.set ((wrap64 (x13_2 - 1)) : Int).toNat t122) (x9_2.set ((wrap64 (x13_2 - 1)) : Int).toNat t123) (wrap64 (x10_2 - t122)) (wrap64 (x13_2 + 1))) else (none)) else (none)) else (none)) = some (r1, r2) := H
         have A19 := AX A190
         clear A190
         obtain ⟨ji20, hji20⟩ : ∃ j_ : Int, (wrap64 (x13_2 - 1)) = j_ := ⟨_, rfl⟩
         replace H : (if 0 ≤ (ji20) then (if (ji20) < (x8_2.length : Int) then (if (ji20) < (x9_2.length : Int) then (pylonref11_Line.l0 k2 a0 a1 a2 (x8_2.set ((ji20) : Int).toNat t122) (x9_2.set ((ji20) : Int).toNat t123) (wrap64 (x10_2 - t122)) (wrap64 (x13_2 + 1))) else (none)) else (none)) else (none)) = some (r1, r2) := by first | (rw [hji20] at H; exact H) | (simp only [hji20] at H ⊢; exact H)
         (try rw [hji20] at A19)
         have hji20w : (IntKind.i64.wrap (x13_2 - 1)) = ji20 := (i64_w _).trans hji20
         by_cases c21 : 0 ≤ (ji20)
         ·rw [if_pos c21] at H
          have c21b0 : decide (0 ≤ (ji20)) = true := decide_eq_true c21
          clear c21
          by_cases c22 : (ji20) < (x8_2.length : Int)
          ·rw [if_pos c22] at H
           have c22b0 : decide ((ji20) < (x8_2.length : Int)) = true := decide_eq_true c22
           clear c22
           obtain ⟨y125, hy125⟩ : ∃ y_ : List Int, y_ = (x8_2.set ((ji20) : Int).toNat t122) := ⟨_, rfl⟩
           replace H : (if (ji20) < (x9_2.length : Int) then (pylonref11_Line.l0 k2 a0 a1 a2 y125 (x9_2.set ((ji20) : Int).toNat t123) (wrap64 (x10_2 - t122)) (wrap64 (x13_2 + 1))) else (none)) = some (r1, r2) := by first | (rw [hy125]; with_reducible exact H) | (have H2_ := (Option.bind_some _ _).symm.trans H; rw [hy125]; with_reducible exact H2_) | (have H2_ := (Option.bind_some _ _).symm.trans H; with_reducible exact H2_) | with_reducible exact H | (rw [hy125]; exact H) | exact H
           have Ny125 := AX hy125
           clear hy125
           by_cases c24 : (ji20) < (x9_2.length : Int)
           ·rw [if_pos c24] at H
            have c24b0 : decide ((ji20) < (x9_2.length : Int)) = true := decide_eq_true c24
            clear c24
            obtain ⟨y126, hy126⟩ : ∃ y_ : List Int, y_ = (x9_2.set ((ji20) : Int).toNat t123) := ⟨_, rfl⟩
            replace H : (pylonref11_Line.l0 k2 a0 a1 a2 y125 y126 (wrap64 (x10_2 - t122)) (wrap64 (x13_2 + 1))) = some (r1, r2) := by first | (rw [hy126]; with_reducible exact H) | (have H2_ := (Option.bind_some _ _).symm.trans H; rw [hy126]; with_reducible exact H2_) | (have H2_ := (Option.bind_some _ _).symm.trans H; with_reducible exact H2_) | with_reducible exact H | (rw [hy126]; exact H) | exact H
            have Ny126 := AX hy126
            clear hy126
            have H' := AX H
            clear H
            go_wp2_with (first | (go_at_call 24; (with_reducible refine (pylonref01_Div.calls (wrap64 ((wrap64 (a0 * (wrap64 ((wrap64 (a2 + 1)) - x13_2)))) + (wrap64 (a1 * x13_2)))) (wrap64 (a2 + 1)) t122 t123 t124 _ A19.out).mono ?_); rintro e w' ⟨rfl, ⟨nd, rfl⟩⟩; (try first | exact ⟨rfl, _, World.drewN_drewN _ _ _⟩ | exact ⟨rfl, _, Eq.trans (World.drewN_drewN _ _ _) (congrArg (World.drewN _) (Nat.add_assoc _ _ _))⟩); have p23 : 0 ≤ ((ji20) : Int) := of_decide_eq_true (by first | (with_reducible assumption) | assumption); have q23 : ((ji20) : Int) < ((x8_2.length : Int) : Int) := of_decide_eq_true (by first | (with_reducible assumption) | assumption); obtain ⟨go23, co23, eo23, gb23, gl23, cl23, HG23⟩ := Kd.R_form HO_8.out (by omega); (first | cases eo23 | (injection eo23 with ea_ en_ ec_; (first | subst ea_ | (injection ea_ with ea_; subst ea_)); subst ec_; clear en_)); have GB23 := AX gb23; have GG23 := AX HG23; clear gb23 gl23 HG23; obtain ⟨hx23_0, hf23_0⟩ := Kd.R_celln 0 HO_8.out ((ji20) : Int) p23 q23; replace p23 := eq_true p23; replace q23 := eq_true q23; obtain ⟨hy26_, hz26_⟩ := Kd.R_celln 0 HO_8.out ((ji20) : Int) (of_decide_eq_true (by first | (with_reducible assumption) | assumption)) (of_decide_eq_true (by first | (with_reducible assumption) | assumption)); have HP26 := Kd.R_putg HO_8.out ((ji20) : Int) t122) | ((with_reducible refine gate_store (t := 2) (p := 79) rfl ?_); (try (rw [drewN_self wr]; generalize hq_ : World.drewN wr _ = wr; have n0_ := AX (Kd.R_at hq_ HO_8.out); have n1_ := AX (Kd.R_at hq_ HO_9.out); have n2_ := AX (below_at hq_ HB.out); clear hq_ HO_8 HO_9 HB; have HO_8 := n0_; have HO_9 := n1_; have HB := n2_; clear n0_ n1_ n2_; (try (obtain ⟨hy26_, hz26_⟩ := Kd.R_celln 0 HO_8.out ((ji20) : Int) (of_decide_eq_true (by first | (with_reducible assumption) | assumption)) (of_decide_eq_true (by first | (with_reducible assumption) | assumption)))); (try (have HP26 := Kd.R_putg HO_8.out ((ji20) : Int) t122)))); refine store_event (t := 2) (p := 79) (v := ?vo_w27) (w1 := (wr.setCell ⟨go23, ((ji20) : Int).toNat, none⟩ (.int .i64 t122))) ?hg ?ho ?hn ?hr ?_; (case ho => rfl); (case hg => rfl); (case hn => rfl); (case hr => first | (go_simp; done) | (go_simp; rfl)); intro w27 hw; have hg : wr.grownBy w27 (some go23) := (by rw [hw]; exact HP26.2); have hp_ : Kd.R (Kd.int .i64) 2 w27 w.heap.size (fun k_ => some k_ ≠ (v117 : Value).ownBlock) (.slice (some ⟨go23, 0, none⟩) x8_2.length co23) y125 := (by rw [hw, Ny125.out]; exact HP26.1); clear HP26; replace HO_8 := AX (hp_); replace HO_9 := AX (Kd.R_after (v := (.slice (some ⟨go23, 0, none⟩) x8_2.length co23)) (v1 := (.slice (some ⟨go23, 0, none⟩) x8_2.length co23)) (ok := (fun _ => True)) (by (with_reducible repeat (first | apply Kd.R_alloc | apply Kd.R_drewN | apply Kd.R_drew)); exact Kd.R_mono HO_9.out (fun _ hk => ⟨trivial, hk⟩)) hg (.inl rfl)); replace HB := AX ((by rw [hw]; exact below_set (HB.out) GB23.out : Below w.heap.size w w27)); clear hg hw hp_; have p25 : 0 ≤ ((ji20) : Int) := of_decide_eq_true (by first | (with_reducible assumption) | assumption); have q25 : ((ji20) : Int) < ((x9_2.length : Int) : Int) := of_decide_eq_true (by first | (with_reducible assumption) | assumption); obtain ⟨go25, co25, eo25, gb25, gl25, cl25, HG25⟩ := Kd.R_form HO_9.out (by omega); (first | cases eo25 | (injection eo25 with ea_ en_ ec_; (first | subst ea_ | (injection ea_ with ea_; subst ea_)); subst ec_; clear en_)); have GB25 := AX gb25; have GG25 := AX HG25; clear gb25 gl25 HG25; obtain ⟨hx25_0, hf25_0⟩ := Kd.R_celln 0 HO_9.out ((ji20) : Int) p25 q25; replace p25 := eq_true p25; replace q25 := eq_true q25; have n_ := AX (Kd.R_mono (ok' := (fun k_ => some k_ ≠ (.slice (some ⟨go23, 0, none⟩) x8_2.length co23 : Value).ownBlock)) HO_9.out (fun k_ hk => hk.2)); clear HO_9; have HO_9 := n_; clear n_; obtain ⟨hy28_, hz28_⟩ := Kd.R_celln 0 HO_9.out ((ji20) : Int) (of_decide_eq_true (by first | (with_reducible assumption) | assumption)) (of_decide_eq_true (by first | (with_reducible assumption) | assumption)); have HP28 := Kd.R_putg HO_9.out ((ji20) : Int) t123) | ((with_reducible refine gate_store (t := 2) (p := 80) rfl ?_); (try (rw [drewN_self w27]; generalize hq_ : World.drewN w27 _ = w27; have n0_ := AX (Kd.R_at hq_ HO_8.out); have n1_ := AX (Kd.R_at hq_ HO_9.out); have n2_ := AX (below_at hq_ HB.out); clear hq_ HO_8 HO_9 HB; have HO_8 := n0_; have HO_9 := n1_; have HB := n2_; clear n0_ n1_ n2_; (try (have n_ := AX (Kd.R_mono (ok' := (fun k_ => some k_ ≠ (.slice (some ⟨go23, 0, none⟩) x8_2.length co23 : Value).ownBlock)) HO_9.out (fun k_ hk => hk.2)); clear HO_9; have HO_9 := n_; clear n_)); (try (obtain ⟨hy28_, hz28_⟩ := Kd.R_celln 0 HO_9.out ((ji20) : Int) (of_decide_eq_true (by first | (with_reducible assumption) | assumption)) (of_decide_eq_true (by first | (with_reducible assumption) | assumption)))); (try (have HP28 := Kd.R_putg HO_9.out ((ji20) : Int) t123)))); refine store_event (t := 2) (p := 80) (v := ?vo_w29) (w1 := (w27.setCell ⟨go25, ((ji20) : Int).toNat, none⟩ (.int .i64 t123))) ?hg ?ho ?hn ?hr ?_; (case ho => rfl); (case hg => rfl); (case hn => rfl); (case hr => first | (go_simp; done) | (go_simp; rfl)); intro w29 hw; have hg : w27.grownBy w29 (some go25) := (by rw [hw]; exact HP28.2); have hp_ : Kd.R (Kd.int .i64) 2 w29 w.heap.size (fun k_ => some k_ ≠ (.slice (some ⟨go23, 0, none⟩) x8_2.length co23 : Value).ownBlock) (.slice (some ⟨go25, 0, none⟩) x9_2.length co25) y126 := (by rw [hw, Ny126.out]; exact HP28.1); clear HP28; replace HO_8 := AX (Kd.R_after (v := (.slice (some ⟨go25, 0, none⟩) x9_2.length co25)) (v1 := (.slice (some ⟨go25, 0, none⟩) x9_2.length co25)) (ok := (fun _ => True)) (by (with_reducible repeat (first | apply Kd.R_alloc | apply Kd.R_drewN | apply Kd.R_drew)); exact Kd.R_mono HO_8.out (fun _ hk => ⟨trivial, hk⟩)) hg (.inl rfl)); replace HO_9 := AX (hp_); replace HB := AX ((by rw [hw]; exact below_set (HB.out) GB25.out : Below w.heap.size w w29)); clear hg hw hp_))
            repeat (go_quiet (first | (go_at_call 24; (with_reducible refine (pylonref01_Div.calls (wrap64 ((wrap64 (a0 * (wrap64 ((wrap64 (a2 + 1)) - x13_2)))) + (wrap64 (a1 * x13_2)))) (wrap64 (a2 + 1)) t122 t123 t124 _ A19.out).mono ?_); rintro e w' ⟨rfl, ⟨nd, rfl⟩⟩; (try first | exact ⟨rfl, _, World.drewN_drewN _ _ _⟩ | exact ⟨rfl, _, Eq.trans (World.drewN_drewN _ _ _) (congrArg (World.drewN _) (Nat.add_assoc _ _ _))⟩); have p23 : 0 ≤ ((ji20) : Int) := of_decide_eq_true (by first | (with_reducible assumption) | assumption); have q23 : ((ji20) : Int) < ((x8_2.length : Int) : Int) := of_decide_eq_true (by first | (with_reducible assumption) | assumption); obtain ⟨go23, co23, eo23, gb23, gl23, cl23, HG23⟩ := Kd.R_form HO_8.out (by omega); (first | cases eo23 | (injection eo23 with ea_ en_ ec_; (first | subst ea_ | (injection ea_ with ea_; subst ea_)); subst ec_; clear en_)); have GB23 := AX gb23; have GG23 := AX HG23; clear gb23 gl23 HG23; obtain ⟨hx23_0, hf23_0⟩ := Kd.R_celln 0 HO_8.out ((ji20) : Int) p23 q23; replace p23 := eq_true p23; replace q23 := eq_true q23; obtain ⟨hy26_, hz26_⟩ := Kd.R_celln 0 HO_8.out ((ji20) : Int) (of_decide_eq_true (by first | (with_reducible assumption) | assumption)) (of_decide_eq_true (by first | (with_reducible assumption) | assumption)); have HP26 := Kd.R_putg HO_8.out ((ji20) : Int) t122) | ((with_reducible refine gate_store (t := 2) (p := 79) rfl ?_); (try (rw [drewN_self wr]; generalize hq_ : World.drewN wr _ = wr; have n0_ := AX (Kd.R_at hq_ HO_8.out); have n1_ := AX (Kd.R_at hq_ HO_9.out); have n2_ := AX (below_at hq_ HB.out); clear hq_ HO_8 HO_9 HB; have HO_8 := n0_; have HO_9 := n1_; have HB := n2_; clear n0_ n1_ n2_; (try (obtain ⟨hy26_, hz26_⟩ := Kd.R_celln 0 HO_8.out ((ji20) : Int) (of_decide_eq_true (by first | (with_reducible assumption) | assumption)) (of_decide_eq_true (by first | (with_reducible assumption) | assumption)))); (try (have HP26 := Kd.R_putg HO_8.out ((ji20) : Int) t122)))); refine store_event (t := 2) (p := 79) (v := ?vo_w27) (w1 := (wr.setCell ⟨go23, ((ji20) : Int).toNat, none⟩ (.int .i64 t122))) ?hg ?ho ?hn ?hr ?_; (case ho => rfl); (case hg => rfl); (case hn => rfl); (case hr => first | (go_simp; done) | (go_simp; rfl)); intro w27 hw; have hg : wr.grownBy w27 (some go23) := (by rw [hw]; exact HP26.2); have hp_ : Kd.R (Kd.int .i64) 2 w27 w.heap.size (fun k_ => some k_ ≠ (v117 : Value).ownBlock) (.slice (some ⟨go23, 0, none⟩) x8_2.length co23) y125 := (by rw [hw, Ny125.out]; exact HP26.1); clear HP26; replace HO_8 := AX (hp_); replace HO_9 := AX (Kd.R_after (v := (.slice (some ⟨go23, 0, none⟩) x8_2.length co23)) (v1 := (.slice (some ⟨go23, 0, none⟩) x8_2.length co23)) (ok := (fun _ => True)) (by (with_reducible repeat (first | apply Kd.R_alloc | apply Kd.R_drewN | apply Kd.R_drew)); exact Kd.R_mono HO_9.out (fun _ hk => ⟨trivial, hk⟩)) hg (.inl rfl)); replace HB := AX ((by rw [hw]; exact below_set (HB.out) GB23.out : Below w.heap.size w w27)); clear hg hw hp_; have p25 : 0 ≤ ((ji20) : Int) := of_decide_eq_true (by first | (with_reducible assumption) | assumption); have q25 : ((ji20) : Int) < ((x9_2.length : Int) : Int) := of_decide_eq_true (by first | (with_reducible assumption) | assumption); obtain ⟨go25, co25, eo25, gb25, gl25, cl25, HG25⟩ := Kd.R_form HO_9.out (by omega); (first | cases eo25 | (injection eo25 with ea_ en_ ec_; (first | subst ea_ | (injection ea_ with ea_; subst ea_)); subst ec_; clear en_)); have GB25 := AX gb25; have GG25 := AX HG25; clear gb25 gl25 HG25; obtain ⟨hx25_0, hf25_0⟩ := Kd.R_celln 0 HO_9.out ((ji20) : Int) p25 q25; replace p25 := eq_true p25; replace q25 := eq_true q25; have n_ := AX (Kd.R_mono (ok' := (fun k_ => some k_ ≠ (.slice (some ⟨go23, 0, none⟩) x8_2.length co23 : Value).ownBlock)) HO_9.out (fun k_ hk => hk.2)); clear HO_9; have HO_9 := n_; clear n_; obtain ⟨hy28_, hz28_⟩ := Kd.R_celln 0 HO_9.out ((ji20) : Int) (of_decide_eq_true (by first | (with_reducible assumption) | assumption)) (of_decide_eq_true (by first | (with_reducible assumption) | assumption)); have HP28 := Kd.R_putg HO_9.out ((ji20) : Int) t123) | ((with_reducible refine gate_store (t := 2) (p := 80) rfl ?_); (try (rw [drewN_self w27]; generalize hq_ : World.drewN w27 _ = w27; have n0_ := AX (Kd.R_at hq_ HO_8.out); have n1_ := AX (Kd.R_at hq_ HO_9.out); have n2_ := AX (below_at hq_ HB.out); clear hq_ HO_8 HO_9 HB; have HO_8 := n0_; have HO_9 := n1_; have HB := n2_; clear n0_ n1_ n2_; (try (have n_ := AX (Kd.R_mono (ok' := (fun k_ => some k_ ≠ (.slice (some ⟨go23, 0, none⟩) x8_2.length co23 : Value).ownBlock)) HO_9.out (fun k_ hk => hk.2)); clear HO_9; have HO_9 := n_; clear n_)); (try (obtain ⟨hy28_, hz28_⟩ := Kd.R_celln 0 HO_9.out ((ji20) : Int) (of_decide_eq_true (by first | (with_reducible assumption) | assumption)) (of_decide_eq_true (by first | (with_reducible assumption) | assumption)))); (try (have HP28 := Kd.R_putg HO_9.out ((ji20) : Int) t123)))); refine store_event (t := 2) (p := 80) (v := ?vo_w29) (w1 := (w27.setCell ⟨go25, ((ji20) : Int).toNat, none⟩ (.int .i64 t123))) ?hg ?ho ?hn ?hr ?_; (case ho => rfl); (case hg => rfl); (case hn => rfl); (case hr => first | (go_simp; done) | (go_simp; rfl)); intro w29 hw; have hg : w27.grownBy w29 (some go25) := (by rw [hw]; exact HP28.2); have hp_ : Kd.R (Kd.int .i64) 2 w29 w.heap.size (fun k_ => some k_ ≠ (.slice (some ⟨go23, 0, none⟩) x8_2.length co23 : Value).ownBlock) (.slice (some ⟨go25, 0, none⟩) x9_2.length co25) y126 := (by rw [hw, Ny126.out]; exact HP28.1); clear HP28; replace HO_8 := AX (Kd.R_after (v := (.slice (some ⟨go25, 0, none⟩) x9_2.length co25)) (v1 := (.slice (some ⟨go25, 0, none⟩) x9_2.length co25)) (ok := (fun _ => True)) (by (with_reducible repeat (first | apply Kd.R_alloc | apply Kd.R_drewN | apply Kd.R_drew)); exact Kd.R_mono HO_8.out (fun _ hk => ⟨trivial, hk⟩)) hg (.inl rfl)); replace HO_9 := AX (hp_); replace HB := AX ((by rw [hw]; exact below_set (HB.out) GB25.out : Below w.heap.size w w29)); clear hg hw hp_)); try go_wp2_with (first | (go_at_call 24; (with_reducible refine (pylonref01_Div.calls (wrap64 ((wrap64 (a0 * (wrap64 ((wrap64 (a2 + 1)) - x13_2)))) + (wrap64 (a1 * x13_2)))) (wrap64 (a2 + 1)) t122 t123 t124 _ A19.out).mono ?_); rintro e w' ⟨rfl, ⟨nd, rfl⟩⟩; (try first | exact ⟨rfl, _, World.drewN_drewN _ _ _⟩ | exact ⟨rfl, _, Eq.trans (World.drewN_drewN _ _ _) (congrArg (World.drewN _) (Nat.add_assoc _ _ _))⟩); have p23 : 0 ≤ ((ji20) : Int) := of_decide_eq_true (by first | (with_reducible assumption) | assumption); have q23 : ((ji20) : Int) < ((x8_2.length : Int) : Int) := of_decide_eq_true (by first | (with_reducible assumption) | assumption); obtain ⟨go23, co23, eo23, gb23, gl23, cl23, HG23⟩ := Kd.R_form HO_8.out (by omega); (first | cases eo23 | (injection eo23 with ea_ en_ ec_; (first | subst ea_ | (injection ea_ with ea_; subst ea_)); subst ec_; clear en_)); have GB23 := AX gb23; have GG23 := AX HG23; clear gb23 gl23 HG23; obtain ⟨hx23_0, hf23_0⟩ := Kd.R_celln 0 HO_8.out ((ji20) : Int) p23 q23; replace p23 := eq_true p23; replace q23 := eq_true q23; obtain ⟨hy26_, hz26_⟩ := Kd.R_celln 0 HO_8.out ((ji20) : Int) (of_decide_eq_true (by first | (with_reducible assumption) | assumption)) (of_decide_eq_true (by first | (with_reducible assumption) | assumption)); have HP26 := Kd.R_putg HO_8.out ((ji20) : Int) t122) | ((with_reducible refine gate_store (t := 2) (p := 79) rfl ?_); (try (rw [drewN_self wr]; generalize hq_ : World.drewN wr _ = wr; have n0_ := AX (Kd.R_at hq_ HO_8.out); have n1_ := AX (Kd.R_at hq_ HO_9.out); have n2_ := AX (below_at hq_ HB.out); clear hq_ HO_8 HO_9 HB; have HO_8 := n0_; have HO_9 := n1_; have HB := n2_; clear n0_ n1_ n2_; (try (obtain ⟨hy26_, hz26_⟩ := Kd.R_celln 0 HO_8.out ((ji20) : Int) (of_decide_eq_true (by first | (with_reducible assumption) | assumption)) (of_decide_eq_true (by first | (with_reducible assumption) | assumption)))); (try (have HP26 := Kd.R_putg HO_8.out ((ji20) : Int) t122)))); refine store_event (t := 2) (p := 79) (v := ?vo_w27) (w1 := (wr.setCell ⟨go23, ((ji20) : Int).toNat, none⟩ (.int .i64 t122))) ?hg ?ho ?hn ?hr ?_; (case ho => rfl); (case hg => rfl); (case hn => rfl); (case hr => first | (go_simp; done) | (go_simp; rfl)); intro w27 hw; have hg : wr.grownBy w27 (some go23) := (by rw [hw]; exact HP26.2); have hp_ : Kd.R (Kd.int .i64) 2 w27 w.heap.size (fun k_ => some k_ ≠ (v117 : Value).ownBlock) (.slice (some ⟨go23, 0, none⟩) x8_2.length co23) y125 := (by rw [hw, Ny125.out]; exact HP26.1); clear HP26; replace HO_8 := AX (hp_); replace HO_9 := AX (Kd.R_after (v := (.slice (some ⟨go23, 0, none⟩) x8_2.length co23)) (v1 := (.slice (some ⟨go23, 0, none⟩) x8_2.length co23)) (ok := (fun _ => True)) (by (with_reducible repeat (first | apply Kd.R_alloc | apply Kd.R_drewN | apply Kd.R_drew)); exact Kd.R_mono HO_9.out (fun _ hk => ⟨trivial, hk⟩)) hg (.inl rfl)); replace HB := AX ((by rw [hw]; exact below_set (HB.out) GB23.out : Below w.heap.size w w27)); clear hg hw hp_; have p25 : 0 ≤ ((ji20) : Int) := of_decide_eq_true (by first | (with_reducible assumption) | assumption); have q25 : ((ji20) : Int) < ((x9_2.length : Int) : Int) := of_decide_eq_true (by first | (with_reducible assumption) | assumption); obtain ⟨go25, co25, eo25, gb25, gl25, cl25, HG25⟩ := Kd.R_form HO_9.out (by omega); (first | cases eo25 | (injection eo25 with ea_ en_ ec_; (first | subst ea_ | (injection ea_ with ea_; subst ea_)); subst ec_; clear en_)); have GB25 := AX gb25; have GG25 := AX HG25; clear gb25 gl25 HG25; obtain ⟨hx25_0, hf25_0⟩ := Kd.R_celln 0 HO_9.out ((ji20) : Int) p25 q25; replace p25 := eq_true p25; replace q25 := eq_true q25; have n_ := AX (Kd.R_mono (ok' := (fun k_ => some k_ ≠ (.slice (some ⟨go23, 0, none⟩) x8_2.length co23 : Value).ownBlock)) HO_9.out (fun k_ hk => hk.2)); clear HO_9; have HO_9 := n_; clear n_; obtain ⟨hy28_, hz28_⟩ := Kd.R_celln 0 HO_9.out ((ji20) : Int) (of_decide_eq_true (by first | (with_reducible assumption) | assumption)) (of_decide_eq_true (by first | (with_reducible assumption) | assumption)); have HP28 := Kd.R_putg HO_9.out ((ji20) : Int) t123) | ((with_reducible refine gate_store (t := 2) (p := 80) rfl ?_); (try (rw [drewN_self w27]; generalize hq_ : World.drewN w27 _ = w27; have n0_ := AX (Kd.R_at hq_ HO_8.out); have n1_ := AX (Kd.R_at hq_ HO_9.out); have n2_ := AX (below_at hq_ HB.out); clear hq_ HO_8 HO_9 HB; have HO_8 := n0_; have HO_9 := n1_; have HB := n2_; clear n0_ n1_ n2_; (try (have n_ := AX (Kd.R_mono (ok' := (fun k_ => some k_ ≠ (.slice (some ⟨go23, 0, none⟩) x8_2.length co23 : Value).ownBlock)) HO_9.out (fun k_ hk => hk.2)); clear HO_9; have HO_9 := n_; clear n_)); (try (obtain ⟨hy28_, hz28_⟩ := Kd.R_celln 0 HO_9.out ((ji20) : Int) (of_decide_eq_true (by first | (with_reducible assumption) | assumption)) (of_decide_eq_true (by first | (with_reducible assumption) | assumption)))); (try (have HP28 := Kd.R_putg HO_9.out ((ji20) : Int) t123)))); refine store_event (t := 2) (p := 80) (v := ?vo_w29) (w1 := (w27.setCell ⟨go25, ((ji20) : Int).toNat, none⟩ (.int .i64 t123))) ?hg ?ho ?hn ?hr ?_; (case ho => rfl); (case hg => rfl); (case hn => rfl); (case hr => first | (go_simp; done) | (go_simp; rfl)); intro w29 hw; have hg : w27.grownBy w29 (some go25) := (by rw [hw]; exact HP28.2); have hp_ : Kd.R (Kd.int .i64) 2 w29 w.heap.size (fun k_ => some k_ ≠ (.slice (some ⟨go23, 0, none⟩) x8_2.length co23 : Value).ownBlock) (.slice (some ⟨go25, 0, none⟩) x9_2.length co25) y126 := (by rw [hw, Ny126.out]; exact HP28.1); clear HP28; replace HO_8 := AX (Kd.R_after (v := (.slice (some ⟨go25, 0, none⟩) x9_2.length co25)) (v1 := (.slice (some ⟨go25, 0, none⟩) x9_2.length co25)) (ok := (fun _ => True)) (by (with_reducible repeat (first | apply Kd.R_alloc | apply Kd.R_drewN | apply Kd.R_drew)); exact Kd.R_mono HO_8.out (fun _ hk => ⟨trivial, hk⟩)) hg (.inl rfl)); replace HO_9 := AX (hp_); replace HB := AX ((by rw [hw]; exact below_set (HB.out) GB25.out : Below w.heap.size w w29)); clear hg hw hp_)))
            go_roundg k2
            case measure => have := HJ3.out; have := HK2.out; omega
            case rel => exact ⟨(y125), (y126), (wrap64 (x10_2 - t122)), (wrap64 (x13_2 + 1)), (by first | rfl | (simp; done) | (simp [*]; done)), (by first | rfl | (simp; done) | (simp [*]; done)), H', ⟨by have := HJ3.out; have := HK2.out; omega⟩, ⟨by (with_reducible repeat (first | apply Kd.R_alloc | apply Kd.R_drewN | apply Kd.R_drew)); exact Kd.R_mono HO_8.out (fun _ hk => hk.2)⟩, ⟨kr HO_9⟩, ⟨bw⟩⟩
           ·rw [if_neg c24] at H
            exact absurd H (by simp)
          ·rw [if_neg c22] at H
           exact absurd H (by simp)
         ·rw [if_neg c21] at H
          exact absurd H (by simp)
        ·rw [if_neg c18] at H
         have c18b0 : decide (x13_2 ≤ a2) = false := decide_eq_false c18
         clear c18
         have H' := AX H
         clear H
         go_wp2
         repeat (go_quiet (fail); try go_wp2)
         go_loopg [10] k2 (fun kq v10 w' => ∃ (x8_3 : List Int) (x9_3 : List Int) (x10_3 : Int), v10 = .int .i64 x10_3 ∧ Aside0 (pylonref11_Line.l1 kq x8_3 x9_3 x10_3 = some (r1, r2)) ∧ Aside0 (kq ≤ k2) ∧ Aside0 (Kd.R (Kd.int .i64) 2 w' w.heap.size (fun k_ => some k_ ≠ (v117 : Value).ownBlock) v114 x8_3) ∧ Aside0 (Kd.R (Kd.int .i64) 2 w' w.heap.size (fun k_ => some k_ ≠ (v114 : Value).ownBlock) v117 x9_3) ∧ Aside0 (Below w.heap.size w w'))
         case atStart => exact ⟨(x8_2), (x9_2), (x10_2), (by first | rfl | (simp; done) | (simp [*]; done)), H', ⟨Nat.le_refl _⟩, ⟨kr HO_8⟩, ⟨kr HO_9⟩, ⟨bw⟩⟩
         case round =>
          clear H'
          try clear c18b0
          obtain ⟨x8_3, x9_3, x10_3, rfl, HA, HK3, HO_8, HO_9, HB⟩ := hrel
          cases gk with
          | zero => exact absurd HA.out (by simp [pylonref11_Line.l1])
          | succ k3 =>
           have H := HA.out
           clear HA
           simp only [pylonref11_Line.l1] at H
           by_cases c30 : x10_3 > 0
           ·rw [if_pos c30] at H
            have c30b0 : decide (0 < x10_3) = true := decide_eq_true c30
            clear c30
            have H' := AX H
            clear H
            obtain ⟨Ao31, co31, eo31⟩ := Kd.R_slice HO_9.out
            subst eo31
            go_wp2
            repeat (go_quiet (fail); try go_wp2)
            go_loopg [17, 88] k3 (fun kq v17 v88 w' => ∃ (x17_4 : Int) (x88_4 : Int), v17 = .int .i64 x17_4 ∧ v88 = .int .i64 x88_4 ∧ Aside0 (pylonref11_Line.l2 kq x8_3 x9_3 x10_3 x17_4 (x9_3.length : Int) x88_4 = some (r1, r2)) ∧ Aside0 (kq ≤ k3) ∧ Aside0 (Kd.R (Kd.int .i64) 2 w' w.heap.size (fun k_ => some k_ ≠ ((.slice Ao31 x9_3.length co31) : Value).ownBlock) v114 x8_3) ∧ Aside0 (Kd.R (Kd.int .i64) 2 w' w.heap.size (fun k_ => some k_ ≠ (v114 : Value).ownBlock) (.slice Ao31 x9_3.length co31) x9_3) ∧ Aside0 (Below w.heap.size w w'))
            case atStart => exact ⟨(0), (0), (by first | rfl | (simp; done) | (simp [*]; done)), (by first | rfl | (simp; done) | (simp [*]; done)), H', ⟨Nat.le_refl _⟩, ⟨kr HO_8⟩, ⟨kr HO_9⟩, ⟨bw⟩⟩
            case round =>
             clear H'
             try clear c30b0
             obtain ⟨x17_4, x88_4, rfl, rfl, HA, HK4, HO_8, HO_9, HB⟩ := hrel
             cases gk with
             | zero => exact absurd HA.out (by simp [pylonref11_Line.l2])
             | succ k4 =>
              have H := HA.out
              clear HA
              simp only [pylonref11_Line.l2] at H
              by_cases c32 : x88_4 < (x9_3.length : Int)
              ·rw [if_pos c32] at H
               have c32b0 : decide (x88_4 < (x9_3.length : Int)) = true := decide_eq_true c32
               clear c32
               by_cases c33 : 0 ≤ x88_4
               ·rw [if_pos c33] at H
                have c33b0 : decide (0 ≤ x88_4) = true := decide_eq_true c33
                clear c33
                by_cases c34 : x88_4 < (x9_3.length : Int)
                ·rw [if_pos c34] at H
                 have c34b0 : decide (x88_4 < (x9_3.length : Int)) = true := decide_eq_true c34
                 clear c34
                 by_cases c35 : 0 ≤ x17_4
                 ·rw [if_pos c35] at H
                  have c35b0 : decide (0 ≤ x17_4) = true := decide_eq_true c35
                  clear c35
                  by_cases c36 : x17_4 < (x9_3.length : Int)
                  ·rw [if_pos c36] at H
                   have c36b0 : decide (x17_4 < (x9_3.length : Int)) = true := decide_eq_true c36
                   clear c36
                   by_cases c37 : (rd x9_3 x88_4) > (rd x9_3 x17_4)
                   ·rw [if_pos c37] at H
                    have c37b0 : decide ((rd x9_3 x17_4) < (rd x9_3 x88_4)) = true := decide_eq_true c37
                    clear c37
                    have H' := AX H
                    clear H
                    have p127 : 0 ≤ (x88_4 : Int) := of_decide_eq_true (by first | (with_reducible assumption) | assumption)
                    have q127 : x88_4 < (x9_3.length : Int) := of_decide_eq_true (by first | (with_reducible assumption) | assumption)
                    obtain ⟨ad127, e127, hx127_0⟩ := Kd.at_int (Kd.R_reads' HO_9.out).2.2 x88_4 p127 q127
                    cases e127
                    replace p127 := eq_true p127
                    replace q127 := eq_true q127
                    have p128 : 0 ≤ (x17_4 : Int) := of_decide_eq_true (by first | (with_reducible assumption) | assumption)
                    have q128 : x17_4 < (x9_3.length : Int) := of_decide_eq_true (by first | (with_reducible assumption) | assumption)
                    obtain ⟨ad128, e128, hx128_0⟩ := Kd.at_int (Kd.R_reads' HO_9.out).2.2 x17_4 p128 q128
                    obtain rfl : ad127 = ad128 := (by injection e128)
                    replace p128 := eq_true p128
                    replace q128 := eq_true q128
                    go_wp2
                    repeat (go_quiet (fail); try go_wp2)
                    go_roundg k4
                    case measure => have := HJ3.out; have := HK2.out; have := HK3.out; have := HK4.out; omega
                    case rel => exact ⟨(x88_4), (wrap64 (x88_4 + 1)), (by first | rfl | (simp; done) | (simp [*]; done)), (by first | rfl | (simp; done) | (simp [*]; done)), H', ⟨by have := HJ3.out; have := HK2.out; have := HK3.out; have := HK4.out; omega⟩, ⟨kr HO_8⟩, ⟨kr HO_9⟩, ⟨bw⟩⟩
                   ·rw [if_neg c37] at H
                    have c37b0 : decide ((rd x9_3 x17_4) < (rd x9_3 x88_4)) = false := decide_eq_false c37
                    clear c37
                    have H' := AX H
                    clear H
                    have p127 : 0 ≤ (x88_4 : Int) := of_decide_eq_true (by first | (with_reducible assumption) | assumption)
                    have q127 : x88_4 < (x9_3.length : Int) := of_decide_eq_true (by first | (with_reducible assumption) | assumption)
                    obtain ⟨ad127, e127, hx127_0⟩ := Kd.at_int (Kd.R_reads' HO_9.out).2.2 x88_4 p127 q127
                    cases e127
                    replace p127 := eq_true p127
                    replace q127 := eq_true q127
                    have p128 : 0 ≤ (x17_4 : Int) := of_decide_eq_true (by first | (with_reducible assumption) | assumption)
                    have q128 : x17_4 < (x9_3.length : Int) := of_decide_eq_true (by first | (with_reducible assumption) | assumption)
                    obtain ⟨ad128, e128, hx128_0⟩ := Kd.at_int (Kd.R_reads' HO_9.out).2.2 x17_4 p128 q128
                    obtain rfl : ad127 = ad128 := (by injection e128)
                    replace p128 := eq_true p128
                    replace q128 := eq_true q128
                    go_wp2
                    repeat (go_quiet (fail); try go_wp2)
                    go_roundg k4
                    case measure => have := HJ3.out; have := HK2.out; have := HK3.out; have := HK4.out; omega
                    case rel => exact ⟨(x17_4), (wrap64 (x88_4 + 1)), (by first | rfl | (simp; done) | (simp [*]; done)), (by first | rfl | (simp; done) | (simp [*]; done)), H', ⟨by have := HJ3.out; have := HK2.out; have := HK3.out; have := HK4.out; omega⟩, ⟨kr HO_8⟩, ⟨kr HO_9⟩, ⟨bw⟩⟩
                  ·rw [if_neg c36] at H
                   exact absurd H (by simp)
                 ·rw [if_neg c35] at H
                  exact absurd H (by simp)
                ·rw [if_neg c34] at H
                 exact absurd H (by simp)
               ·rw [if_neg c33] at H
                exact absurd H (by simp)
              ·rw [if_neg c32] at H
               have c32b0 : decide (x88_4 < (x9_3.length : Int)) = false := decide_eq_false c32
               clear c32
               by_cases c38 : 0 ≤ x17_4
               ·rw [if_pos c38] at H
                have c38b0 : decide (0 ≤ x17_4) = true := decide_eq_true c38
                clear c38
                by_cases c39 : x17_4 < (x8_3.length : Int)
                ·rw [if_pos c39] at H
                 have c39b0 : decide (x17_4 < (x8_3.length : Int)) = true := decide_eq_true c39
                 clear c39
                 obtain ⟨y130, hy130⟩ : ∃ y_ : List Int, y_ = (x8_3.set (x17_4 : Int).toNat (wrap64 ((rd x8_3 x17_4) + 1))) := ⟨_, rfl⟩
                 replace H : (if x17_4 < (x9_3.length : Int) then (pylonref11_Line.l1 k4 y130 (x9_3.set (x17_4 : Int).toNat (-1)) (wrap64 (x10_3 - 1))) else (none)) = some (r1, r2) := by first | (rw [hy130]; with_reducible exact H) | (have H2_ := (Option.bind_some _ _).symm.trans H; rw [hy130]; with_reducible exact H2_) | (have H2_ := (Option.bind_some _ _).symm.trans H; with_reducible exact H2_) | with_reducible exact H | (rw [hy130]; exact H) | exact H
                 have Ny130 := AX hy130
                 clear hy130
                 by_cases c41 : x17_4 < (x9_3.length : Int)
                 ·rw [if_pos c41] at H
                  have c41b0 : decide (x17_4 < (x9_3.length : Int)) = true := decide_eq_true c41
                  clear c41
                  obtain ⟨y131, hy131⟩ : ∃ y_ : List Int, y_ = (x9_3.set (x17_4 : Int).toNat (-1)) := ⟨_, rfl⟩
                  replace H : (pylonref11_Line.l1 k4 y130 y131 (wrap64 (x10_3 - 1))) = some (r1, r2) := by first | (rw [hy131]; with_reducible exact H) | (have H2_ := (Option.bind_some _ _).symm.trans H; rw [hy131]; with_reducible exact H2_) | (have H2_ := (Option.bind_some _ _).symm.trans H; with_reducible exact H2_) | with_reducible exact H | (rw [hy131]; exact H) | exact H
                  have Ny131 := AX hy131
                  clear hy131
                  have H' := AX H
                  clear H
                  obtain ⟨Ao43, co43, eo43⟩ := Kd.R_slice HO_8.out
                  subst eo43
                  have p129 : 0 ≤ (x17_4 : Int) := of_decide_eq_true (by first | (with_reducible assumption) | assumption)
                  have q129 : x17_4 < (x8_3.length : Int) := of_decide_eq_true (by first | (with_reducible assumption) | assumption)
                  obtain ⟨ad129, e129, hx129_0⟩ := Kd.at_int (Kd.R_reads' HO_8.out).2.2 x17_4 p129 q129
                  cases e129
                  replace p129 := eq_true p129
                  replace q129 := eq_true q129
                  have p40 : 0 ≤ (x17_4 : Int) := of_decide_eq_true (by first | (with_reducible assumption) | assumption)
                  have q40 : (x17_4 : Int) < ((x8_3.length : Int) : Int) := of_decide_eq_true (by first | (with_reducible assumption) | assumption)
                  obtain ⟨go40, co40, eo40, gb40, gl40, cl40, HG40⟩ := Kd.R_form HO_8.out (by omega)
                  (first | cases eo40 | (injection eo40 with ea_ en_ ec_; (first | subst ea_ | (injection ea_ with ea_; subst ea_)); subst ec_; clear en_))
                  have GB40 := AX gb40
                  have GG40 := AX HG40
                  clear gb40 gl40 HG40
                  (first | simp only [add_plain] at hx129_0 | skip)
                  obtain ⟨hx40_0, hf40_0⟩ := Kd.R_celln 0 HO_8.out (x17_4 : Int) p40 q40
                  replace p40 := eq_true p40
                  replace q40 := eq_true q40
                  have HP44 := Kd.R_putg HO_8.out (x17_4 : Int) (wrap64 ((rd x8_3 x17_4) + 1))
                  go_wp2_with (first | ((with_reducible refine gate_store (t := 2) (p := 107) rfl ?_); (try (rw [drewN_self wr]; generalize hq_ : World.drewN wr _ = wr; have n0_ := AX (Kd.R_at hq_ HO_8.out); have n1_ := AX (Kd.R_at hq_ HO_9.out); have n2_ := AX (below_at hq_ HB.out); clear hq_ HO_8 HO_9 HB; have HO_8 := n0_; have HO_9 := n1_; have HB := n2_; clear n0_ n1_ n2_; (try (have HP44 := Kd.R_putg HO_8.out (x17_4 : Int) (wrap64 ((rd x8_3 x17_4) + 1)))))); refine store_event (t := 2) (p := 107) (v := ?vo_w45) (w1 := (wr.setCell ⟨go40, (x17_4 : Int).toNat, none⟩ (.int .i64 (wrap64 ((rd x8_3 x17_4) + 1))))) ?hg ?ho ?hn ?hr ?_; (case ho => rfl); (case hg => rfl); (case hn => rfl); (case hr => first | (go_simp; done) | (go_simp; rfl)); intro w45 hw; have hg : wr.grownBy w45 (some go40) := (by rw [hw]; exact HP44.2); have hp_ : Kd.R (Kd.int .i64) 2 w45 w.heap.size (fun k_ => some k_ ≠ (.slice Ao31 x9_3.length co31 : Value).ownBlock) (.slice (some ⟨go40, 0, none⟩) x8_3.length co43) y130 := (by rw [hw, Ny130.out]; exact HP44.1); clear HP44; replace HO_8 := AX (hp_); replace HO_9 := AX (Kd.R_after (v := (.slice (some ⟨go40, 0, none⟩) x8_3.length co43)) (v1 := (.slice (some ⟨go40, 0, none⟩) x8_3.length co43)) (ok := (fun _ => True)) (by (with_reducible repeat (first | apply Kd.R_alloc | apply Kd.R_drewN | apply Kd.R_drew)); exact Kd.R_mono HO_9.out (fun _ hk => ⟨trivial, hk⟩)) hg (.inl rfl)); replace HB := AX ((by rw [hw]; exact below_set (HB.out) GB40.out : Below w.heap.size w w45)); clear hg hw hp_; have p42 : 0 ≤ (x17_4 : Int) := of_decide_eq_true (by first | (with_reducible assumption) | assumption); have q42 : (x17_4 : Int) < ((x9_3.length : Int) : Int) := of_decide_eq_true (by first | (with_reducible assumption) | assumption); obtain ⟨go42, co42, eo42, gb42, gl42, cl42, HG42⟩ := Kd.R_form HO_9.out (by omega); (first | cases eo42 | (injection eo42 with ea_ en_ ec_; (first | subst ea_ | (injection ea_ with ea_; subst ea_)); subst ec_; clear en_)); have GB42 := AX gb42; have GG42 := AX HG42; clear gb42 gl42 HG42; obtain ⟨hx42_0, hf42_0⟩ := Kd.R_celln 0 HO_9.out (x17_4 : Int) p42 q42; replace p42 := eq_true p42; replace q42 := eq_true q42; have n_ := AX (Kd.R_mono (ok' := (fun k_ => some k_ ≠ (.slice (some ⟨go40, 0, none⟩) x8_3.length co43 : Value).ownBlock)) HO_9.out (fun k_ hk => hk.2)); clear HO_9; have HO_9 := n_; clear n_; obtain ⟨hy46_, hz46_⟩ := Kd.R_celln 0 HO_9.out (x17_4 : Int) (of_decide_eq_true (by first | (with_reducible assumption) | assumption)) (of_decide_eq_true (by first | (with_reducible assumption) | assumption)); have HP46 := Kd.R_putg HO_9.out (x17_4 : Int) (-1)) | ((with_reducible refine gate_store (t := 2) (p := 110) rfl ?_); (try (rw [drewN_self w45]; generalize hq_ : World.drewN w45 _ = w45; have n0_ := AX (Kd.R_at hq_ HO_8.out); have n1_ := AX (Kd.R_at hq_ HO_9.out); have n2_ := AX (below_at hq_ HB.out); clear hq_ HO_8 HO_9 HB; have HO_8 := n0_; have HO_9 := n1_; have HB := n2_; clear n0_ n1_ n2_; (try (have n_ := AX (Kd.R_mono (ok' := (fun k_ => some k_ ≠ (.slice (some ⟨go40, 0, none⟩) x8_3.length co43 : Value).ownBlock)) HO_9.out (fun k_ hk => hk.2)); clear HO_9; have HO_9 := n_; clear n_)); (try (obtain ⟨hy46_, hz46_⟩ := Kd.R_celln 0 HO_9.out (x17_4 : Int) (of_decide_eq_true (by first | (with_reducible assumption) | assumption)) (of_decide_eq_true (by first | (with_reducible assumption) | assumption)))); (try (have HP46 := Kd.R_putg HO_9.out (x17_4 : Int) (-1))))); refine store_event (t := 2) (p := 110) (v := ?vo_w47) (w1 := (w45.setCell ⟨go42, (x17_4 : Int).toNat, none⟩ (.int .i64 (-1)))) ?hg ?ho ?hn ?hr ?_; (case ho => rfl); (case hg => rfl); (case hn => rfl); (case hr => first | (go_simp; done) | (go_simp; rfl)); intro w47 hw; have hg : w45.grownBy w47 (some go42) := (by rw [hw]; exact HP46.2); have hp_ : Kd.R (Kd.int .i64) 2 w47 w.heap.size (fun k_ => some k_ ≠ (.slice (some ⟨go40, 0, none⟩) x8_3.length co43 : Value).ownBlock) (.slice (some ⟨go42, 0, none⟩) x9_3.length co31) y131 := (by rw [hw, Ny131.out]; exact HP46.1); clear HP46; replace HO_8 := AX (Kd.R_after (v := (.slice (some ⟨go42, 0, none⟩) x9_3.length co31)) (v1 := (.slice (some ⟨go42, 0, none⟩) x9_3.length co31)) (ok := (fun _ => True)) (by (with_reducible repeat (first | apply Kd.R_alloc | apply Kd.R_drewN | apply Kd.R_drew)); exact Kd.R_mono HO_8.out (fun _ hk => ⟨trivial, hk⟩)) hg (.inl rfl)); replace HO_9 := AX (hp_); replace HB := AX ((by rw [hw]; exact below_set (HB.out) GB42.out : Below w.heap.size w w47)); clear hg hw hp_))
                  repeat (go_quiet (first | ((with_reducible refine gate_store (t := 2) (p := 107) rfl ?_); (try (rw [drewN_self wr]; generalize hq_ : World.drewN wr _ = wr; have n0_ := AX (Kd.R_at hq_ HO_8.out); have n1_ := AX (Kd.R_at hq_ HO_9.out); have n2_ := AX (below_at hq_ HB.out); clear hq_ HO_8 HO_9 HB; have HO_8 := n0_; have HO_9 := n1_; have HB := n2_; clear n0_ n1_ n2_; (try (have HP44 := Kd.R_putg HO_8.out (x17_4 : Int) (wrap64 ((rd x8_3 x17_4) + 1)))))); refine store_event (t := 2) (p := 107) (v := ?vo_w45) (w1 := (wr.setCell ⟨go40, (x17_4 : Int).toNat, none⟩ (.int .i64 (wrap64 ((rd x8_3 x17_4) + 1))))) ?hg ?ho ?hn ?hr ?_; (case ho => rfl); (case hg => rfl); (case hn => rfl); (case hr => first | (go_simp; done) | (go_simp; rfl)); intro w45 hw; have hg : wr.grownBy w45 (some go40) := (by rw [hw]; exact HP44.2); have hp_ : Kd.R (Kd.int .i64) 2 w45 w.heap.size (fun k_ => some k_ ≠ (.slice Ao31 x9_3.length co31 : Value).ownBlock) (.slice (some ⟨go40, 0, none⟩) x8_3.length co43) y130 := (by rw [hw, Ny130.out]; exact HP44.1); clear HP44; replace HO_8 := AX (hp_); replace HO_9 := AX (Kd.R_after (v := (.slice (some ⟨go40, 0, none⟩) x8_3.length co43)) (v1 := (.slice (some ⟨go40, 0, none⟩) x8_3.length co43)) (ok := (fun _ => True)) (by (with_reducible repeat (first | apply Kd.R_alloc | apply Kd.R_drewN | apply Kd.R_drew)); exact Kd.R_mono HO_9.out (fun _ hk => ⟨trivial, hk⟩)) hg (.inl rfl)); replace HB := AX ((by rw [hw]; exact below_set (HB.out) GB40.out : Below w.heap.size w w45)); clear hg hw hp_; have p42 : 0 ≤ (x17_4 : Int) := of_decide_eq_true (by first | (with_reducible assumption) | assumption); have q42 : (x17_4 : Int) < ((x9_3.length : Int) : Int) := of_decide_eq_true (by first | (with_reducible assumption) | assumption); obtain ⟨go42, co42, eo42, gb42, gl42, cl42, HG42⟩ := Kd.R_form HO_9.out (by omega); (first | cases eo42 | (injection eo42 with ea_ en_ ec_; (first | subst ea_ | (injection ea_ with ea_; subst ea_)); subst ec_; clear en_)); have GB42 := AX gb42; have GG42 := AX HG42; clear gb42 gl42 HG42; obtain ⟨hx42_0, hf42_0⟩ := Kd.R_celln 0 HO_9.out (x17_4 : Int) p42 q42; replace p42 := eq_true p42; replace q42 := eq_true q42; have n_ := AX (Kd.R_mono (ok' := (fun k_ => some k_ ≠ (.slice (some ⟨go40, 0, none⟩) x8_3.length co43 : Value).ownBlock)) HO_9.out (fun k_ hk => hk.2)); clear HO_9; have HO_9 := n_; clear n_; obtain ⟨hy46_, hz46_⟩ := Kd.R_celln 0 HO_9.out (x17_4 : Int) (of_decide_eq_true (by first | (with_reducible assumption) | assumption)) (of_decide_eq_true (by first | (with_reducible assumption) | assumption)); have HP46 := Kd.R_putg HO_9.out (x17_4 : Int) (-1)) | ((with_reducible refine gate_store (t := 2) (p := 110) rfl ?_); (try (rw [drewN_self w45]; generalize hq_ : World.drewN w45 _ = w45; have n0_ := AX (Kd.R_at hq_ HO_8.out); have n1_ := AX (Kd.R_at hq_ HO_9.out); have n2_ := AX (below_at hq_ HB.out); clear hq_ HO_8 HO_9 HB; have HO_8 := n0_; have HO_9 := n1_; have HB := n2_; clear n0_ n1_ n2_; (try (have n_ := AX (Kd.R_mono (ok' := (fun k_ => some k_ ≠ (.slice (some ⟨go40, 0, none⟩) x8_3.length co43 : Value).ownBlock)) HO_9.out (fun k_ hk => hk.2)); clear HO_9; have HO_9 := n_; clear n_)); (try (obtain ⟨hy46_, hz46_⟩ := Kd.R_celln 0 HO_9.out (x17_4 : Int) (of_decide_eq_true (by first | (with_reducible assumption) | assumption)) (of_decide_eq_true (by first | (with_reducible assumption) | assumption)))); (try (have HP46 := Kd.R_putg HO_9.out (x17_4 : Int) (-1))))); refine store_event (t := 2) (p := 110) (v := ?vo_w47) (w1 := (w45.setCell ⟨go42, (x17_4 : Int).toNat, none⟩ (.int .i64 (-1)))) ?hg ?ho ?hn ?hr ?_; (case ho => rfl); (case hg => rfl); (case hn => rfl); (case hr => first | (go_simp; done) | (go_simp; rfl)); intro w47 hw; have hg : w45.grownBy w47 (some go42) := (by rw [hw]; exact HP46.2); have hp_ : Kd.R (Kd.int .i64) 2 w47 w.heap.size (fun k_ => some k_ ≠ (.slice (some ⟨go40, 0, none⟩) x8_3.length co43 : Value).ownBlock) (.slice (some ⟨go42, 0, none⟩) x9_3.length co31) y131 := (by rw [hw, Ny131.out]; exact HP46.1); clear HP46; replace HO_8 := AX (Kd.R_after (v := (.slice (some ⟨go42, 0, none⟩) x9_3.length co31)) (v1 := (.slice (some ⟨go42, 0, none⟩) x9_3.length co31)) (ok := (fun _ => True)) (by (with_reducible repeat (first | apply Kd.R_alloc | apply Kd.R_drewN | apply Kd.R_drew)); exact Kd.R_mono HO_8.out (fun _ hk => ⟨trivial, hk⟩)) hg (.inl rfl)); replace HO_9 := AX (hp_); replace HB := AX ((by rw [hw]; exact below_set (HB.out) GB42.out : Below w.heap.size w w47)); clear hg hw hp_)); try go_wp2_with (first | ((with_reducible refine gate_store (t := 2) (p := 107) rfl ?_); (try (rw [drewN_self wr]; generalize hq_ : World.drewN wr _ = wr; have n0_ := AX (Kd.R_at hq_ HO_8.out); have n1_ := AX (Kd.R_at hq_ HO_9.out); have n2_ := AX (below_at hq_ HB.out); clear hq_ HO_8 HO_9 HB; have HO_8 := n0_; have HO_9 := n1_; have HB := n2_; clear n0_ n1_ n2_; (try (have HP44 := Kd.R_putg HO_8.out (x17_4 : Int) (wrap64 ((rd x8_3 x17_4) + 1)))))); refine store_event (t := 2) (p := 107) (v := ?vo_w45) (w1 := (wr.setCell ⟨go40, (x17_4 : Int).toNat, none⟩ (.int .i64 (wrap64 ((rd x8_3 x17_4) + 1))))) ?hg ?ho ?hn ?hr ?_; (case ho => rfl); (case hg => rfl); (case hn => rfl); (case hr => first | (go_simp; done) | (go_simp; rfl)); intro w45 hw; have hg : wr.grownBy w45 (some go40) := (by rw [hw]; exact HP44.2); have hp_ : Kd.R (Kd.int .i64) 2 w45 w.heap.size (fun k_ => some k_ ≠ (.slice Ao31 x9_3.length co31 : Value).ownBlock) (.slice (some ⟨go40, 0, none⟩) x8_3.length co43) y130 := (by rw [hw, Ny130.out]; exact HP44.1); clear HP44; replace HO_8 := AX (hp_); replace HO_9 := AX (Kd.R_after (v := (.slice (some ⟨go40, 0, none⟩) x8_3.length co43)) (v1 := (.slice (some ⟨go40, 0, none⟩) x8_3.length co43)) (ok := (fun _ => True)) (by (with_reducible repeat (first | apply Kd.R_alloc | apply Kd.R_drewN | apply Kd.R_drew)); exact Kd.R_mono HO_9.out (fun _ hk => ⟨trivial, hk⟩)) hg (.inl rfl)); replace HB := AX ((by rw [hw]; exact below_set (HB.out) GB40.out : Below w.heap.size w w45)); clear hg hw hp_; have p42 : 0 ≤ (x17_4 : Int) := of_decide_eq_true (by first | (with_reducible assumption) | assumption); have q42 : (x17_4 : Int) < ((x9_3.length : Int) : Int) := of_decide_eq_true (by first | (with_reducible assumption) | assumption); obtain ⟨go42, co42, eo42, gb42, gl42, cl42, HG42⟩ := Kd.R_form HO_9.out (by omega); (first | cases eo42 | (injection eo42 with ea_ en_ ec_; (first | subst ea_ | (injection ea_ with ea_; subst ea_)); subst ec_; clear en_)); have GB42 := AX gb42; have GG42 := AX HG42; clear gb42 gl42 HG42; obtain ⟨hx42_0, hf42_0⟩ := Kd.R_celln 0 HO_9.out (x17_4 : Int) p42 q42; replace p42 := eq_true p42; replace q42 := eq_true q42; have n_ := AX (Kd.R_mono (ok' := (fun k_ => some k_ ≠ (.slice (some ⟨go40, 0, none⟩) x8_3.length co43 : Value).ownBlock)) HO_9.out (fun k_ hk => hk.2)); clear HO_9; have HO_9 := n_; clear n_; obtain ⟨hy46_, hz46_⟩ := Kd.R_celln 0 HO_9.out (x17_4 : Int) (of_decide_eq_true (by first | (with_reducible assumption) | assumption)) (of_decide_eq_true (by first | (with_reducible assumption) | assumption)); have HP46 := Kd.R_putg HO_9.out (x17_4 : Int) (-1)) | ((with_reducible refine gate_store (t := 2) (p := 110) rfl ?_); (try (rw [drewN_self w45]; generalize hq_ : World.drewN w45 _ = w45; have n0_ := AX (Kd.R_at hq_ HO_8.out); have n1_ := AX (Kd.R_at hq_ HO_9.out); have n2_ := AX (below_at hq_ HB.out); clear hq_ HO_8 HO_9 HB; have HO_8 := n0_; have HO_9 := n1_; have HB := n2_; clear n0_ n1_ n2_; (try (have n_ := AX (Kd.R_mono (ok' := (fun k_ => some k_ ≠ (.slice (some ⟨go40, 0, none⟩) x8_3.length co43 : Value).ownBlock)) HO_9.out (fun k_ hk => hk.2)); clear HO_9; have HO_9 := n_; clear n_)); (try (obtain ⟨hy46_, hz46_⟩ := Kd.R_celln 0 HO_9.out (x17_4 : Int) (of_decide_eq_true (by first | (with_reducible assumption) | assumption)) (of_decide_eq_true (by first | (with_reducible assumption) | assumption)))); (try (have HP46 := Kd.R_putg HO_9.out (x17_4 : Int) (-1))))); refine store_event (t := 2) (p := 110) (v := ?vo_w47) (w1 := (w45.setCell ⟨go42, (x17_4 : Int).toNat, none⟩ (.int .i64 (-1)))) ?hg ?ho ?hn ?hr ?_; (case ho => rfl); (case hg => rfl); (case hn => rfl); (case hr => first | (go_simp; done) | (go_simp; rfl)); intro w47 hw; have hg : w45.grownBy w47 (some go42) := (by rw [hw]; exact HP46.2); have hp_ : Kd.R (Kd.int .i64) 2 w47 w.heap.size (fun k_ => some k_ ≠ (.slice (some ⟨go40, 0, none⟩) x8_3.length co43 : Value).ownBlock) (.slice (some ⟨go42, 0, none⟩) x9_3.length co31) y131 := (by rw [hw, Ny131.out]; exact HP46.1); clear HP46; replace HO_8 := AX (Kd.R_after (v := (.slice (some ⟨go42, 0, none⟩) x9_3.length co31)) (v1 := (.slice (some ⟨go42, 0, none⟩) x9_3.length co31)) (ok := (fun _ => True)) (by (with_reducible repeat (first | apply Kd.R_alloc | apply Kd.R_drewN | apply Kd.R_drew)); exact Kd.R_mono HO_8.out (fun _ hk => ⟨trivial, hk⟩)) hg (.inl rfl)); replace HO_9 := AX (hp_); replace HB := AX ((by rw [hw]; exact below_set (HB.out) GB42.out : Below w.heap.size w w47)); clear hg hw hp_)))
                  go_roundg k4
                  case measure => have := HJ3.out; have := HK2.out; have := HK3.out; have := HK4.out; omega
                  case rel => exact ⟨(y130), (y131), (wrap64 (x10_3 - 1)), (by first | rfl | (simp; done) | (simp [*]; done)), H', ⟨by have := HJ3.out; have := HK2.out; have := HK3.out; have := HK4.out; omega⟩, ⟨by (with_reducible repeat (first | apply Kd.R_alloc | apply Kd.R_drewN | apply Kd.R_drew)); exact Kd.R_mono HO_8.out (fun _ hk => hk.2)⟩, ⟨kr HO_9⟩, ⟨bw⟩⟩
                 ·rw [if_neg c41] at H
                  exact absurd H (by simp)
                ·rw [if_neg c39] at H
                 exact absurd H (by simp)
               ·rw [if_neg c38] at H
                exact absurd H (by simp)
           ·rw [if_neg c30] at H
            have c30b0 : decide (0 < x10_3) = false := decide_eq_false c30
            clear c30
            simp only [Option.some.injEq, Prod.mk.injEq] at H
            obtain ⟨rfl, rfl⟩ := H
            go_wp2
            repeat (go_quiet (fail); try go_wp2)
            go_ret2
            exact ⟨_, by first | rfl | (simp [errW_none, errW_some] <;> rfl) | (simp [*, errW_none, errW_some] <;> rfl), by (with_reducible repeat (first | apply Kd.R_alloc | apply Kd.R_drewN | apply Kd.R_drew)); exact Kd.R_mono HO_8.out (fun _ hk => trivial), bw⟩
     ·rw [if_neg c12] at H
      exact absurd H (by simp)
    ·rw [if_neg c11] at H
     exact absurd H (by simp)

end Go.Proofs.Ythhifeefkmaeiaa.PX
