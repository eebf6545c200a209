/- Functions of the program as plain Lean functions, each with a proof that the call in the machine answers just what the plain function says; condition: the plain function answers at all. -/
import Derived.Test.YthhifeefkmaeiaaPXx0
import Derived.Test.YthhifeefkmaeiaaPXx3
namespace Go.Proofs.Ythhifeefkmaeiaa.PX
open Go.RowKit Go.Proofs.YthhifeefkmaeiaaW.PrintWords Go.Proofs.YthhifeefkmaeiaaW.PrintLast Go.Proofs.YthhifeefkmaeiaaW.PrintMore
attribute [local go_sem] max2_int min2_int max_two min_two max_three min_three max_four min_four   -- for this text's walks alone
set_option linter.unusedVariables false
set_option linter.unusedSimpArgs false

/-! ### pylonlaw11_FillLaw: function 4 -/
mutual
def pylonlaw11_FillLaw.j0 : Nat → Int → Int → Int → List Int → Int → Bool → Option (Bool)
 | 0, _, _, _, _, _, _ => none
 | k + 1, x0, x1, x2, x7, x8, x42 => if x42 = true then (if x8 = 8 then (some ((x7.length : Int) == 0)) else (some false)) else (if x8 = 0 then (pylonlaw11_FillLaw.j1 k x0 x1 x2 x7 ((x7.length : Int) != x2)) else (pylonlaw11_FillLaw.j1 k x0 x1 x2 x7 true))
def pylonlaw11_FillLaw.j1 : Nat → Int → Int → Int → List Int → Bool → Option (Bool)
 | 0, _, _, _, _, _ => none
 | k + 1, x0, x1, x2, x7, x57 => if x57 = true then (some false) else (pylonlaw11_FillLaw.l0 k x0 x1 x2 x7 0 (x7.length : Int) 0)
def pylonlaw11_FillLaw.l0 : Nat → Int → Int → Int → List Int → Int → Int → Int → Option (Bool)
 | 0, _, _, _, _, _, _, _ => none
 | k + 1, x0, x1, x2, x7, x9, x59, x60 => if x60 < x59 then (if 0 ≤ x60 then (if x60 < (x7.length : Int) then (if (rd x7 x60) < (mn x0 x1) then (some false) else (if (rd x7 x60) > (mx x0 x1) then (some false) else (if x60 > 0 then (if x0 ≤ x1 then (if 0 ≤ (wrap64 (x60 - 1)) then (if (wrap64 (x60 - 1)) < (x7.length : Int) then (if (rd x7 x60) < (rd x7 (wrap64 (x60 - 1))) then (some false) else (if x0 ≥ x1 then (if (rd x7 x60) > (rd x7 (wrap64 (x60 - 1))) then (some false) else (pylonlaw11_FillLaw.l0 k x0 x1 x2 x7 (wrap64 (x9 + (rd x7 x60))) x59 (wrap64 (x60 + 1)))) else (pylonlaw11_FillLaw.l0 k x0 x1 x2 x7 (wrap64 (x9 + (rd x7 x60))) x59 (wrap64 (x60 + 1))))) else (none)) else (none)) else (if x0 ≥ x1 then (if 0 ≤ (wrap64 (x60 - 1)) then (if (wrap64 (x60 - 1)) < (x7.length : Int) then (if (rd x7 x60) > (rd x7 (wrap64 (x60 - 1))) then (some false) else (pylonlaw11_FillLaw.l0 k x0 x1 x2 x7 (wrap64 (x9 + (rd x7 x60))) x59 (wrap64 (x60 + 1)))) else (none)) else (none)) else (pylonlaw11_FillLaw.l0 k x0 x1 x2 x7 (wrap64 (x9 + (rd x7 x60))) x59 (wrap64 (x60 + 1))))) else (pylonlaw11_FillLaw.l0 k x0 x1 x2 x7 (wrap64 (x9 + (rd x7 x60))) x59 (wrap64 (x60 + 1)))))) else (none)) else (none)) else (if (wrap64 (2 * x9)) = (wrap64 (x2 * (wrap64 (x0 + x1)))) then (some true) else (some ((wrap64 (2 * x9)) == (wrap64 ((wrap64 (x2 * (wrap64 (x0 + x1)))) - 1)))))
end
def pylonlaw11_FillLaw.f (k : Nat) (a0 : Int) (a1 : Int) (a2 : Int) : Option (Bool) := (pylonlaw11_awake.f k).bind fun t151 => (if t151 = true then ((fill_Line.f a0 a1 a2).bind fun bt152 => (if a2 < 0 then (pylonlaw11_FillLaw.j0 k a0 a1 a2 bt152.1 bt152.2 true) else (if a2 > 40000 then (pylonlaw11_FillLaw.j0 k a0 a1 a2 bt152.1 bt152.2 true) else (if a0 < (-10000000) then (pylonlaw11_FillLaw.j0 k a0 a1 a2 bt152.1 bt152.2 true) else (if a0 > 10000000 then (pylonlaw11_FillLaw.j0 k a0 a1 a2 bt152.1 bt152.2 true) else (if a1 < (-10000000) then (pylonlaw11_FillLaw.j0 k a0 a1 a2 bt152.1 bt152.2 true) else (pylonlaw11_FillLaw.j0 k a0 a1 a2 bt152.1 bt152.2 (decide (a1 > 10000000))))))))) else (some false))
theorem pylonlaw11_FillLaw.mono_l : ∀ k, (∀ y0 y1 y2 y3 y4 y5, LeO (pylonlaw11_FillLaw.j0 k y0 y1 y2 y3 y4 y5) (pylonlaw11_FillLaw.j0 (k + 1) y0 y1 y2 y3 y4 y5)) ∧ (∀ y0 y1 y2 y3 y4, LeO (pylonlaw11_FillLaw.j1 k y0 y1 y2 y3 y4) (pylonlaw11_FillLaw.j1 (k + 1) y0 y1 y2 y3 y4)) ∧ (∀ y0 y1 y2 y3 y4 y5 y6, LeO (pylonlaw11_FillLaw.l0 k y0 y1 y2 y3 y4 y5 y6) (pylonlaw11_FillLaw.l0 (k + 1) y0 y1 y2 y3 y4 y5 y6))
 | 0 => ⟨fun _ _ _ _ _ _ r h => by simp [pylonlaw11_FillLaw.j0] at h, fun _ _ _ _ _ r h => by simp [pylonlaw11_FillLaw.j1] at h, fun _ _ _ _ _ _ _ r h => by simp [pylonlaw11_FillLaw.l0] at h⟩
 | k + 1 => by
  obtain ⟨ih0, ih1, ih2⟩ := pylonlaw11_FillLaw.mono_l k
  refine ⟨?_, ?_, ?_⟩
  ·intro y0 y1 y2 y3 y4 y5
   unfold pylonlaw11_FillLaw.j0
   repeat' first
   | (with_reducible exact ih0 _ _ _ _ _ _)
   | (with_reducible exact ih1 _ _ _ _ _)
   | (with_reducible exact ih2 _ _ _ _ _ _ _)
   | (with_reducible exact pylonlaw11_awake.mono _)
   | (with_reducible exact LeO.refl _)
   | (with_reducible exact LeO.none _)
   | (with_reducible refine LeO.ite ?_ ?_)
   | (with_reducible refine LeO.bind ?_ (fun _ => ?_))
  ·intro y0 y1 y2 y3 y4
   unfold pylonlaw11_FillLaw.j1
   repeat' first
   | (with_reducible exact ih0 _ _ _ _ _ _)
   | (with_reducible exact ih1 _ _ _ _ _)
   | (with_reducible exact ih2 _ _ _ _ _ _ _)
   | (with_reducible exact pylonlaw11_awake.mono _)
   | (with_reducible exact LeO.refl _)
   | (with_reducible exact LeO.none _)
   | (with_reducible refine LeO.ite ?_ ?_)
   | (with_reducible refine LeO.bind ?_ (fun _ => ?_))
  ·intro y0 y1 y2 y3 y4 y5 y6
   unfold pylonlaw11_FillLaw.l0
   repeat' first
   | (with_reducible exact ih0 _ _ _ _ _ _)
   | (with_reducible exact ih1 _ _ _ _ _)
   | (with_reducible exact ih2 _ _ _ _ _ _ _)
   | (with_reducible exact pylonlaw11_awake.mono _)
   | (with_reducible exact LeO.refl _)
   | (with_reducible exact LeO.none _)
   | (with_reducible refine LeO.ite ?_ ?_)
   | (with_reducible refine LeO.bind ?_ (fun _ => ?_))
theorem pylonlaw11_FillLaw.mono : ∀ a0 a1 a2 k, LeO (pylonlaw11_FillLaw.f k a0 a1 a2) (pylonlaw11_FillLaw.f (k + 1) a0 a1 a2) := by
 intro a0 a1 a2 k
 obtain ⟨ih0, ih1, ih2⟩ := pylonlaw11_FillLaw.mono_l k
 unfold pylonlaw11_FillLaw.f
 repeat' first
   | (with_reducible exact ih0 _ _ _ _ _ _)
   | (with_reducible exact ih1 _ _ _ _ _)
   | (with_reducible exact ih2 _ _ _ _ _ _ _)
   | (with_reducible exact pylonlaw11_awake.mono _)
   | (with_reducible exact LeO.refl _)
   | (with_reducible exact LeO.none _)
   | (with_reducible refine LeO.ite ?_ ?_)
   | (with_reducible refine LeO.bind ?_ (fun _ => ?_))
set_option maxHeartbeats 8000000 in
set_option maxRecDepth 100000 in
theorem pylonlaw11_FillLaw.calls (k : Nat) (a0 : Int) (a1 : Int) (a2 : Int) (r : Bool) (w : World) (h : pylonlaw11_FillLaw.f k a0 a1 a2 = some r) :
  Calls Try.prog 4 #[.int .i64 a0, .int .i64 a1, .int .i64 a2] w fun e w' => e = .returned (.bool r) ∧ Below w.heap.size w w' := by
 have HB := AX (Below.refl w.heap.size w)
 have H : ((pylonlaw11_awake.f k).bind fun t151 => (if t151 = true then ((fill_Line.f a0 a1 a2).bind fun bt152 => (if a2 < 0 then (pylonlaw11_FillLaw.j0 k a0 a1 a2 bt152.1 bt152.2 true) else (if a2 > 40000 then (pylonlaw11_FillLaw.j0 k a0 a1 a2 bt152.1 bt152.2 true) else (if a0 < (-10000000) then (pylonlaw11_FillLaw.j0 k a0 a1 a2 bt152.1 bt152.2 true) else (if a0 > 10000000 then (pylonlaw11_FillLaw.j0 k a0 a1 a2 bt152.1 bt152.2 true) else (if a1 < (-10000000) then (pylonlaw11_FillLaw.j0 k a0 a1 a2 bt152.1 bt152.2 true) else (pylonlaw11_FillLaw.j0 k a0 a1 a2 bt152.1 bt152.2 (decide (a1 > 10000000))))))))) else (some false))) = some r := h
 clear h
 replace H := Option.bind_eq_some_iff.mp H
 obtain ⟨t151, A40, H⟩ := H
 replace H : (if t151 = true then ((fill_Line.f a0 a1 a2).bind fun bt152 => (if a2 < 0 then (pylonlaw11_FillLaw.j0 k a0 a1 a2 bt152.1 bt152.2 true) else (if a2 > 40000 then (pylonlaw11_FillLaw.j0 k a0 a1 a2 bt152.1 bt152.2 true) else (if a0 < (-10000000) then (pylonlaw11_FillLaw.j0 k a0 a1 a2 bt152.1 bt152.2 true) else (if a0 > 10000000 then (pylonlaw11_FillLaw.j0 k a0 a1 a2 bt152.1 bt152.2 true) else (if a1 < (-10000000) then (pylonlaw11_FillLaw.j0 k a0 a1 a2 bt152.1 bt152.2 true) else (pylonlaw11_FillLaw.j0 k a0 a1 a2 bt152.1 bt152.2 (decide (a1 > 10000000))))))))) else (some false)) = some r := H
 have A4 := AX A40
 clear A40
 by_cases c5 : t151 = true
 ·subst c5
  have H1 : ((fill_Line.f a0 a1 a2).bind fun bt152 => (if a2 < 0 then (pylonlaw11_FillLaw.j0 k a0 a1 a2 bt152.1 bt152.2 true) else (if a2 > 40000 then (pylonlaw11_FillLaw.j0 k a0 a1 a2 bt152.1 bt152.2 true) else (if a0 < (-10000000) then (pylonlaw11_FillLaw.j0 k a0 a1 a2 bt152.1 bt152.2 true) else (if a0 > 10000000 then (pylonlaw11_FillLaw.j0 k a0 a1 a2 bt152.1 bt152.2 true) else (if a1 < (-10000000) then (pylonlaw11_FillLaw.j0 k a0 a1 a2 bt152.1 bt152.2 true) else (pylonlaw11_FillLaw.j0 k a0 a1 a2 bt152.1 bt152.2 (decide (a1 > 10000000))))))))) = some r := by rw [if_pos rfl] at H; exact H
  clear H
  have H := H1
  clear H1
  replace H := Option.bind_eq_some_iff.mp H
  obtain ⟨⟨t152, t153⟩, A60, H⟩ := H
  replace H : (if a2 < 0 then (pylonlaw11_FillLaw.j0 k a0 a1 a2 t152 t153 true) else (if a2 > 40000 then (pylonlaw11_FillLaw.j0 k a0 a1 a2 t152 t153 true) else (if a0 < (-10000000) then (pylonlaw11_FillLaw.j0 k a0 a1 a2 t152 t153 true) else (if a0 > 10000000 then (pylonlaw11_FillLaw.j0 k a0 a1 a2 t152 t153 true) else (if a1 < (-10000000) then (pylonlaw11_FillLaw.j0 k a0 a1 a2 t152 t153 true) else (pylonlaw11_FillLaw.j0 k a0 a1 a2 t152 t153 (decide (a1 > 10000000)))))))) = some r := H
  have A6 := AX A60
  clear A60
  have HC7 := AX H
  clear H
  go_enter Try.func4, Try.ntmps4
  go_upto_region 4 with (first | (go_at_call 10; (with_reducible refine (pylonlaw11_awake.calls k  true _ A4.out).mono ?_); rintro e w8 ⟨rfl, hb⟩; replace HB := AX (below_step bw hb); (try clear hb)) | (go_at_call 12; (with_reducible refine (fill_Line.calls a0 a1 a2 t152 t153 _ A6.out).mono ?_); rintro e w9 ⟨v154, rfl, ho0, hb⟩; have HO155 := AX (Kd.R_lower ho0 (below_size bw)); replace HB := AX (below_step bw hb); (try clear hb); (try clear hb2); (try clear hk); (try clear hi); (try clear ho0)))
  repeat (go_quiet (first | (go_at_call 10; (with_reducible refine (pylonlaw11_awake.calls k  true _ A4.out).mono ?_); rintro e w8 ⟨rfl, hb⟩; replace HB := AX (below_step bw hb); (try clear hb)) | (go_at_call 12; (with_reducible refine (fill_Line.calls a0 a1 a2 t152 t153 _ A6.out).mono ?_); rintro e w9 ⟨v154, rfl, ho0, hb⟩; have HO155 := AX (Kd.R_lower ho0 (below_size bw)); replace HB := AX (below_step bw hb); (try clear hb); (try clear hb2); (try clear hk); (try clear hi); (try clear ho0))); go_upto_region 4 with (first | (go_at_call 10; (with_reducible refine (pylonlaw11_awake.calls k  true _ A4.out).mono ?_); rintro e w8 ⟨rfl, hb⟩; replace HB := AX (below_step bw hb); (try clear hb)) | (go_at_call 12; (with_reducible refine (fill_Line.calls a0 a1 a2 t152 t153 _ A6.out).mono ?_); rintro e w9 ⟨v154, rfl, ho0, hb⟩; have HO155 := AX (Kd.R_lower ho0 (below_size bw)); replace HB := AX (below_step bw hb); (try clear hb); (try clear hb2); (try clear hk); (try clear hi); (try clear ho0))))
  (try simp only [Act.put, List.setIfInBounds_toArray, List.set_cons_zero, List.set_cons_succ])
  go_cut [42] (fun v42 wc => ∃ (kq : Nat) (x42_6 : Bool), v42 = .bool x42_6 ∧ Aside0 (pylonlaw11_FillLaw.j0 kq a0 a1 a2 t152 t153 x42_6 = some r) ∧ Aside0 (kq ≤ k) ∧ Aside0 (Kd.R (Kd.int .i64) 2 wc w.heap.size (fun _ => True) v154 t152) ∧ Aside0 (Below w.heap.size w wc))
  case first =>
   have H := HC7.out
   clear HC7
   by_cases c10 : a2 < 0
   ·rw [if_pos c10] at H
    have c10b0 : decide (a2 < 0) = true := decide_eq_true c10
    clear c10
    (first | rw [c10b0] | (simp only [i64_w, i32_w]; rw [c10b0]) | skip)
    have H' := AX H
    clear H
    go_wp2
    repeat (go_quiet (fail); try go_wp2)
    go_meet
    case rel => exact ⟨_, (true), (by first | rfl | (simp; done) | (simp [*]; done)), H', ⟨by first | omega | exact Nat.le_refl _⟩, ⟨kr HO155⟩, ⟨bw⟩⟩
   ·rw [if_neg c10] at H
    have c10b0 : decide (a2 < 0) = false := decide_eq_false c10
    clear c10
    (first | rw [c10b0] | (simp only [i64_w, i32_w]; rw [c10b0]) | skip)
    by_cases c11 : a2 > 40000
    ·rw [if_pos c11] at H
     have c11b0 : decide (40000 < a2) = true := decide_eq_true c11
     clear c11
     have H' := AX H
     clear H
     go_wp2
     repeat (go_quiet (fail); try go_wp2)
     go_meet
     case rel => exact ⟨_, (true), (by first | rfl | (simp; done) | (simp [*]; done)), H', ⟨by first | omega | exact Nat.le_refl _⟩, ⟨kr HO155⟩, ⟨bw⟩⟩
    ·rw [if_neg c11] at H
     have c11b0 : decide (40000 < a2) = false := decide_eq_false c11
     clear c11
     by_cases c12 : a0 < (-10000000)
     ·rw [if_pos c12] at H
      have c12b0 : decide (a0 < (-10000000)) = true := decide_eq_true c12
      clear c12
      have H' := AX H
      clear H
      go_wp2
      repeat (go_quiet (fail); try go_wp2)
      go_meet
      case rel => exact ⟨_, (true), (by first | rfl | (simp; done) | (simp [*]; done)), H', ⟨by first | omega | exact Nat.le_refl _⟩, ⟨kr HO155⟩, ⟨bw⟩⟩
     ·rw [if_neg c12] at H
      have c12b0 : decide (a0 < (-10000000)) = false := decide_eq_false c12
      clear c12
      by_cases c13 : a0 > 10000000
      ·rw [if_pos c13] at H
       have c13b0 : decide (10000000 < a0) = true := decide_eq_true c13
       clear c13
       have H' := AX H
       clear H
       go_wp2
       repeat (go_quiet (fail); try go_wp2)
       go_meet
       case rel => exact ⟨_, (true), (by first | rfl | (simp; done) | (simp [*]; done)), H', ⟨by first | omega | exact Nat.le_refl _⟩, ⟨kr HO155⟩, ⟨bw⟩⟩
      ·rw [if_neg c13] at H
       have c13b0 : decide (10000000 < a0) = false := decide_eq_false c13
       clear c13
       by_cases c14 : a1 < (-10000000)
       ·rw [if_pos c14] at H
        have c14b0 : decide (a1 < (-10000000)) = true := decide_eq_true c14
        clear c14
        have H' := AX H
        clear H
        go_wp2
        repeat (go_quiet (fail); try go_wp2)
        go_meet
        case rel => exact ⟨_, (true), (by first | rfl | (simp; done) | (simp [*]; done)), H', ⟨by first | omega | exact Nat.le_refl _⟩, ⟨kr HO155⟩, ⟨bw⟩⟩
       ·rw [if_neg c14] at H
        have c14b0 : decide (a1 < (-10000000)) = false := decide_eq_false c14
        clear c14
        have H' := AX H
        clear H
        go_wp2
        repeat (go_quiet (fail); try go_wp2)
        go_meet
        case rel => exact ⟨_, (decide (a1 > 10000000)), (by first | rfl | (simp; done) | (simp [*]; done)), H', ⟨by first | omega | exact Nat.le_refl _⟩, ⟨kr HO155⟩, ⟨bw⟩⟩
  case rest =>
   clear HC7
   try clear c5
   obtain ⟨kq, x42_6, rfl, HA, HJ6, HO_7, HB⟩ := hcut
   cases kq with
   | zero => exact absurd HA.out (by simp [pylonlaw11_FillLaw.j0])
   | succ kj6 =>
    have H := HA.out
    clear HA
    simp only [pylonlaw11_FillLaw.j0] at H
    by_cases c15 : x42_6 = true
    ·subst c15
     have H1 : (if t153 = 8 then (some ((t152.length : Int) == 0)) else (some false)) = some r := by rw [if_pos rfl] at H; exact H
     clear H
     have H := H1
     clear H1
     by_cases c16 : t153 = 8
     ·rw [if_pos c16] at H
      have c16b0 : (t153 == 8) = true := beq_iff_eq.mpr c16
      have c16b1 : (t153 != 8) = false := bne_eq_false_iff_eq.mpr c16
      clear c16
      obtain rfl := Option.some.inj H
      obtain ⟨Ao17, co17, eo17⟩ := Kd.R_slice HO_7.out
      subst eo17
      go_wp2
      repeat (go_quiet (fail); try go_wp2)
      go_ret
      exact ⟨by first | rfl | (simp [errW_none, errW_some] <;> rfl) | (simp [*, errW_none, errW_some] <;> rfl), bw⟩
     ·rw [if_neg c16] at H
      have c16b0 : (t153 == 8) = false := beq_eq_false_iff_ne.mpr c16
      have c16b1 : (t153 != 8) = true := bne_iff_ne.mpr c16
      obtain rfl := Option.some.inj H
      go_wp2
      repeat (go_quiet (fail); try go_wp2)
      go_ret
      exact ⟨by first | rfl | (simp [errW_none, errW_some] <;> rfl) | (simp [*, errW_none, errW_some] <;> rfl), bw⟩
    ·replace c15 := Bool.eq_false_iff.mpr c15
     subst c15
     have H1 : (if t153 = 0 then (pylonlaw11_FillLaw.j1 kj6 a0 a1 a2 t152 ((t152.length : Int) != a2)) else (pylonlaw11_FillLaw.j1 kj6 a0 a1 a2 t152 true)) = some r := by rw [if_neg (show ¬ (false = true) by decide)] at H; exact H
     clear H
     have H := H1
     clear H1
     have HC18 := AX H
     clear H
     go_upto_region 6 with (fail)
     repeat (go_quiet (fail); go_upto_region 6 with (fail))
     go_cut [57] (fun v57 wc => ∃ (kq : Nat) (x57_17 : Bool), v57 = .bool x57_17 ∧ Aside0 (pylonlaw11_FillLaw.j1 kq a0 a1 a2 t152 x57_17 = some r) ∧ Aside0 (kq ≤ kj6) ∧ Aside0 (Kd.R (Kd.int .i64) 2 wc w.heap.size (fun _ => True) v154 t152) ∧ Aside0 (Below w.heap.size w wc))
     case first =>
      have H := HC18.out
      clear HC18
      by_cases c19 : t153 = 0
      ·rw [if_pos c19] at H
       have c19b0 : (t153 == 0) = true := beq_iff_eq.mpr c19
       have c19b1 : (t153 != 0) = false := bne_eq_false_iff_eq.mpr c19
       clear c19
       (first | rw [c19b0] | (simp only [i64_w, i32_w]; rw [c19b0]) | skip)
       have H' := AX H
       clear H
       obtain ⟨Ao20, co20, eo20⟩ := Kd.R_slice HO_7.out
       subst eo20
       go_wp2
       repeat (go_quiet (fail); try go_wp2)
       go_meet
       case rel => exact ⟨_, (((t152.length : Int) != a2)), (by first | rfl | (simp; done) | (simp [*]; done)), H', ⟨by have := HJ6.out; first | omega | exact Nat.le_refl _⟩, ⟨kr HO_7⟩, ⟨bw⟩⟩
      ·rw [if_neg c19] at H
       have c19b0 : (t153 == 0) = false := beq_eq_false_iff_ne.mpr c19
       have c19b1 : (t153 != 0) = true := bne_iff_ne.mpr c19
       (first | rw [c19b0] | (simp only [i64_w, i32_w]; rw [c19b0]) | skip)
       have H' := AX H
       clear H
       go_wp2
       repeat (go_quiet (fail); try go_wp2)
       go_meet
       case rel => exact ⟨_, (true), (by first | rfl | (simp; done) | (simp [*]; done)), H', ⟨by have := HJ6.out; first | omega | exact Nat.le_refl _⟩, ⟨kr HO_7⟩, ⟨bw⟩⟩
     case rest =>
      clear HC18
      try clear c15
      obtain ⟨kq, x57_17, rfl, HA, HJ17, HO_7, HB⟩ := hcut
      cases kq with
      | zero => exact absurd HA.out (by simp [pylonlaw11_FillLaw.j1])
      | succ kj17 =>
       have H := HA.out
       clear HA
       simp only [pylonlaw11_FillLaw.j1] at H
       by_cases c21 : x57_17 = true
       ·subst c21
        have H1 : (some false) = some r := by rw [if_pos rfl] at H; exact H
        clear H
        have H := H1
        clear H1
        obtain rfl := Option.some.inj H
        go_wp2
        repeat (go_quiet (fail); try go_wp2)
        go_ret
        exact ⟨by first | rfl | (simp [errW_none, errW_some] <;> rfl) | (simp [*, errW_none, errW_some] <;> rfl), bw⟩
       ·replace c21 := Bool.eq_false_iff.mpr c21
        subst c21
        have H1 : (pylonlaw11_FillLaw.l0 kj17 a0 a1 a2 t152 0 (t152.length : Int) 0) = some r := by rw [if_neg (show ¬ (false = true) by decide)] at H; exact H
        clear H
        have H := H1
        clear H1
        have H' := AX H
        clear H
        obtain ⟨Ao22, co22, eo22⟩ := Kd.R_slice HO_7.out
        subst eo22
        go_wp2
        repeat (go_quiet (fail); try go_wp2)
        go_loopg [9, 60] kj17 (fun kq v9 v60 w' => ∃ (x9_3 : Int) (x60_3 : Int), v9 = .int .i64 x9_3 ∧ v60 = .int .i64 x60_3 ∧ Aside0 (pylonlaw11_FillLaw.l0 kq a0 a1 a2 t152 x9_3 (t152.length : Int) x60_3 = some r) ∧ Aside0 (kq ≤ kj17) ∧ Aside0 (Kd.R (Kd.int .i64) 2 w' w.heap.size (fun _ => True) (.slice Ao22 t152.length co22) t152) ∧ Aside0 (Below w.heap.size w w'))
        case atStart => exact ⟨(0), (0), (by first | rfl | (simp; done) | (simp [*]; done)), (by first | rfl | (simp; done) | (simp [*]; done)), H', ⟨Nat.le_refl _⟩, ⟨kr HO_7⟩, ⟨bw⟩⟩
        case round =>
         clear H'
         try clear c21
         obtain ⟨x9_3, x60_3, rfl, rfl, HA, HK3, HO_7, HB⟩ := hrel
         cases gk with
         | zero => exact absurd HA.out (by simp [pylonlaw11_FillLaw.l0])
         | succ k3 =>
          have H := HA.out
          clear HA
          simp only [pylonlaw11_FillLaw.l0] at H
          by_cases c23 : x60_3 < (t152.length : Int)
          ·rw [if_pos c23] at H
           have c23b0 : decide (x60_3 < (t152.length : Int)) = true := decide_eq_true c23
           clear c23
           by_cases c24 : 0 ≤ x60_3
           ·rw [if_pos c24] at H
            have c24b0 : decide (0 ≤ x60_3) = true := decide_eq_true c24
            clear c24
            by_cases c25 : x60_3 < (t152.length : Int)
            ·rw [if_pos c25] at H
             have c25b0 : decide (x60_3 < (t152.length : Int)) = true := decide_eq_true c25
             clear c25
             obtain ⟨ji26, hji26⟩ : ∃ j_ : Int, (mn a0 a1) = j_ := ⟨_, rfl⟩
             replace H : (if (rd t152 x60_3) < (ji26) then (some false) else (if (rd t152 x60_3) > (mx a0 a1) then (some false) else (if x60_3 > 0 then (if a0 ≤ a1 then (if 0 ≤ (wrap64 (x60_3 - 1)) then (if (wrap64 (x60_3 - 1)) < (t152.length : Int) then (if (rd t152 x60_3) < (rd t152 (wrap64 (x60_3 - 1))) then (some false) else (if a0 ≥ a1 then (if (rd t152 x60_3) > (rd t152 (wrap64 (x60_3 - 1))) then (some false) else (pylonlaw11_FillLaw.l0 k3 a0 a1 a2 t152 (wrap64 (x9_3 + (rd t152 x60_3))) (t152.length : Int) (wrap64 (x60_3 + 1)))) else (pylonlaw11_FillLaw.l0 k3 a0 a1 a2 t152 (wrap64 (x9_3 + (rd t152 x60_3))) (t152.length : Int) (wrap64 (x60_3 + 1))))) else (none)) else (none)) else (if a0 ≥ a1 then (if 0 ≤ (wrap64 (x60_3 - 1)) then (if (wrap64 (x60_3 - 1)) < (t152.length : Int) then (if (rd t152 x60_3) > (rd t152 (wrap64 (x60_3 - 1))) then (some false) else (pylonlaw11_FillLaw.l0 k3 a0 a1 a2 t152 (wrap64 (x9_3 + (rd t152 x60_3))) (t152.length : Int) (wrap64 (x60_3 + 1)))) else (none)) else (none)) else (pylonlaw11_FillLaw.l0 k3 a0 a1 a2 t152 (wrap64 (x9_3 + (rd t152 x60_3))) (t152.length : Int) (wrap64 (x60_3 + 1))))) else (pylonlaw11_FillLaw.l0 k3 a0 a1 a2 t152 (wrap64 (x9_3 + (rd t152 x60_3))) (t152.length : Int) (wrap64 (x60_3 + 1)))))) = some r := by first | (rw [hji26] at H; exact H) | (simp only [hji26] at H ⊢; exact H)
             have hji26_ : (if a1 < a0 then a1 else a0) = ji26 := hji26
             by_cases c27 : (rd t152 x60_3) < (ji26)
             ·rw [if_pos c27] at H
              have c27b0 : decide ((rd t152 x60_3) < (ji26)) = true := decide_eq_true c27
              clear c27
              obtain rfl := Option.some.inj H
              have p156 : 0 ≤ (x60_3 : Int) := of_decide_eq_true (by first | (with_reducible assumption) | assumption)
              have q156 : x60_3 < (t152.length : Int) := of_decide_eq_true (by first | (with_reducible assumption) | assumption)
              obtain ⟨ad156, e156, hx156_0⟩ := Kd.at_int (Kd.R_reads' HO_7.out).2.2 x60_3 p156 q156
              cases e156
              replace p156 := eq_true p156
              replace q156 := eq_true q156
              go_wp2
              repeat (go_quiet (fail); try go_wp2)
              go_ret
              exact ⟨by first | rfl | (simp [errW_none, errW_some] <;> rfl) | (simp only [← hji26]; first | rfl | (simp [errW_none, errW_some] <;> rfl)) | (simp [*, errW_none, errW_some] <;> rfl), bw⟩
             ·rw [if_neg c27] at H
              have c27b0 : decide ((rd t152 x60_3) < (ji26)) = false := decide_eq_false c27
              clear c27
              obtain ⟨ji28, hji28⟩ : ∃ j_ : Int, (mx a0 a1) = j_ := ⟨_, rfl⟩
              replace H : (if (rd t152 x60_3) > (ji28) then (some false) else (if x60_3 > 0 then (if a0 ≤ a1 then (if 0 ≤ (wrap64 (x60_3 - 1)) then (if (wrap64 (x60_3 - 1)) < (t152.length : Int) then (if (rd t152 x60_3) < (rd t152 (wrap64 (x60_3 - 1))) then (some false) else (if a0 ≥ a1 then (if (rd t152 x60_3) > (rd t152 (wrap64 (x60_3 - 1))) then (some false) else (pylonlaw11_FillLaw.l0 k3 a0 a1 a2 t152 (wrap64 (x9_3 + (rd t152 x60_3))) (t152.length : Int) (wrap64 (x60_3 + 1)))) else (pylonlaw11_FillLaw.l0 k3 a0 a1 a2 t152 (wrap64 (x9_3 + (rd t152 x60_3))) (t152.length : Int) (wrap64 (x60_3 + 1))))) else (none)) else (none)) else (if a0 ≥ a1 then (if 0 ≤ (wrap64 (x60_3 - 1)) then (if (wrap64 (x60_3 - 1)) < (t152.length : Int) then (if (rd t152 x60_3) > (rd t152 (wrap64 (x60_3 - 1))) then (some false) else (pylonlaw11_FillLaw.l0 k3 a0 a1 a2 t152 (wrap64 (x9_3 + (rd t152 x60_3))) (t152.length : Int) (wrap64 (x60_3 + 1)))) else (none)) else (none)) else (pylonlaw11_FillLaw.l0 k3 a0 a1 a2 t152 (wrap64 (x9_3 + (rd t152 x60_3))) (t152.length : Int) (wrap64 (x60_3 + 1))))) else (pylonlaw11_FillLaw.l0 k3 a0 a1 a2 t152 (wrap64 (x9_3 + (rd t152 x60_3))) (t152.length : Int) (wrap64 (x60_3 + 1))))) = some r := by first | (rw [hji28] at H; exact H) | (simp only [hji28] at H ⊢; exact H)
              have hji28_ : (if a0 < a1 then a1 else a0) = ji28 := hji28
              by_cases c29 : (rd t152 x60_3) > (ji28)
              ·rw [if_pos c29] at H
               have c29b0 : decide ((ji28) < (rd t152 x60_3)) = true := decide_eq_true c29
               clear c29
               obtain rfl := Option.some.inj H
               have p156 : 0 ≤ (x60_3 : Int) := of_decide_eq_true (by first | (with_reducible assumption) | assumption)
               have q156 : x60_3 < (t152.length : Int) := of_decide_eq_true (by first | (with_reducible assumption) | assumption)
               obtain ⟨ad156, e156, hx156_0⟩ := Kd.at_int (Kd.R_reads' HO_7.out).2.2 x60_3 p156 q156
               cases e156
               replace p156 := eq_true p156
               replace q156 := eq_true q156
               have p157 : 0 ≤ (x60_3 : Int) := of_decide_eq_true (by first | (with_reducible assumption) | assumption)
               have q157 : x60_3 < (t152.length : Int) := of_decide_eq_true (by first | (with_reducible assumption) | assumption)
               obtain ⟨ad157, e157, hx157_0⟩ := Kd.at_int (Kd.R_reads' HO_7.out).2.2 x60_3 p157 q157
               obtain rfl : ad156 = ad157 := (by injection e157)
               replace p157 := eq_true p157
               replace q157 := eq_true q157
               go_wp2
               repeat (go_quiet (fail); try go_wp2)
               go_ret
               exact ⟨by first | rfl | (simp [errW_none, errW_some] <;> rfl) | (simp only [← hji26, ← hji28]; first | rfl | (simp [errW_none, errW_some] <;> rfl)) | (simp [*, errW_none, errW_some] <;> rfl), bw⟩
              ·rw [if_neg c29] at H
               have c29b0 : decide ((ji28) < (rd t152 x60_3)) = false := decide_eq_false c29
               clear c29
               by_cases c30 : x60_3 > 0
               ·rw [if_pos c30] at H
                have c30b0 : decide (0 < x60_3) = true := decide_eq_true c30
                clear c30
                by_cases c31 : a0 ≤ a1
                ·rw [if_pos c31] at H
                 have c31b0 : decide (a0 ≤ a1) = true := decide_eq_true c31
                 clear c31
                 obtain ⟨ji32, hji32⟩ : ∃ j_ : Int, (wrap64 (x60_3 - 1)) = j_ := ⟨_, rfl⟩
                 replace H : (if 0 ≤ (ji32) then (if (ji32) < (t152.length : Int) then (if (rd t152 x60_3) < (rd t152 (ji32)) then (some false) else (if a0 ≥ a1 then (if (rd t152 x60_3) > (rd t152 (ji32)) then (some false) else (pylonlaw11_FillLaw.l0 k3 a0 a1 a2 t152 (wrap64 (x9_3 + (rd t152 x60_3))) (t152.length : Int) (wrap64 (x60_3 + 1)))) else (pylonlaw11_FillLaw.l0 k3 a0 a1 a2 t152 (wrap64 (x9_3 + (rd t152 x60_3))) (t152.length : Int) (wrap64 (x60_3 + 1))))) else (none)) else (none)) = some r := by first | (rw [hji32] at H; exact H) | (simp only [hji32] at H ⊢; exact H)
                 have hji32w : (IntKind.i64.wrap (x60_3 - 1)) = ji32 := (i64_w _).trans hji32
                 by_cases c33 : 0 ≤ (ji32)
                 ·rw [if_pos c33] at H
                  have c33b0 : decide (0 ≤ (ji32)) = true := decide_eq_true c33
                  clear c33
                  by_cases c34 : (ji32) < (t152.length : Int)
                  ·rw [if_pos c34] at H
                   have c34b0 : decide ((ji32) < (t152.length : Int)) = true := decide_eq_true c34
                   clear c34
                   by_cases c35 : (rd t152 x60_3) < (rd t152 (ji32))
                   ·rw [if_pos c35] at H
                    have c35b0 : decide ((rd t152 x60_3) < (rd t152 (ji32))) = true := decide_eq_true c35
                    clear c35
                    obtain rfl := Option.some.inj H
                    have p156 : 0 ≤ (x60_3 : Int) := of_decide_eq_true (by first | (with_reducible assumption) | assumption)
                    have q156 : x60_3 < (t152.length : Int) := of_decide_eq_true (by first | (with_reducible assumption) | assumption)
                    obtain ⟨ad156, e156, hx156_0⟩ := Kd.at_int (Kd.R_reads' HO_7.out).2.2 x60_3 p156 q156
                    cases e156
                    replace p156 := eq_true p156
                    replace q156 := eq_true q156
                    have p157 : 0 ≤ (x60_3 : Int) := of_decide_eq_true (by first | (with_reducible assumption) | assumption)
                    have q157 : x60_3 < (t152.length : Int) := of_decide_eq_true (by first | (with_reducible assumption) | assumption)
                    obtain ⟨ad157, e157, hx157_0⟩ := Kd.at_int (Kd.R_reads' HO_7.out).2.2 x60_3 p157 q157
                    obtain rfl : ad156 = ad157 := (by injection e157)
                    replace p157 := eq_true p157
                    replace q157 := eq_true q157
                    have p158 : 0 ≤ (x60_3 : Int) := of_decide_eq_true (by first | (with_reducible assumption) | assumption)
                    have q158 : x60_3 < (t152.length : Int) := of_decide_eq_true (by first | (with_reducible assumption) | assumption)
                    obtain ⟨ad158, e158, hx158_0⟩ := Kd.at_int (Kd.R_reads' HO_7.out).2.2 x60_3 p158 q158
                    obtain rfl : ad156 = ad158 := (by injection e158)
                    replace p158 := eq_true p158
                    replace q158 := eq_true q158
                    have p159 : 0 ≤ ((ji32) : Int) := of_decide_eq_true (by first | (with_reducible assumption) | assumption)
                    have q159 : (ji32) < (t152.length : Int) := of_decide_eq_true (by first | (with_reducible assumption) | assumption)
                    obtain ⟨ad159, e159, hx159_0⟩ := Kd.at_int (Kd.R_reads' HO_7.out).2.2 (ji32) p159 q159
                    obtain rfl : ad156 = ad159 := (by injection e159)
                    replace p159 := eq_true p159
                    replace q159 := eq_true q159
                    go_wp2
                    repeat (go_quiet (fail); try go_wp2)
                    go_ret
                    exact ⟨by first | rfl | (simp [errW_none, errW_some] <;> rfl) | (simp only [← hji26, ← hji28, ← hji32]; first | rfl | (simp [errW_none, errW_some] <;> rfl)) | (simp [*, errW_none, errW_some] <;> rfl), bw⟩
                   ·rw [if_neg c35] at H
                    have c35b0 : decide ((rd t152 x60_3) < (rd t152 (ji32))) = false := decide_eq_false c35
                    clear c35
                    by_cases c36 : a0 ≥ a1
                    ·rw [if_pos c36] at H
                     have c36b0 : decide (a1 ≤ a0) = true := decide_eq_true c36
                     clear c36
                     by_cases c37 : (rd t152 x60_3) > (rd t152 (ji32))
                     ·rw [if_pos c37] at H
                      have c37b0 : decide ((rd t152 (ji32)) < (rd t152 x60_3)) = true := decide_eq_true c37
                      clear c37
                      obtain rfl := Option.some.inj H
                      have p156 : 0 ≤ (x60_3 : Int) := of_decide_eq_true (by first | (with_reducible assumption) | assumption)
                      have q156 : x60_3 < (t152.length : Int) := of_decide_eq_true (by first | (with_reducible assumption) | assumption)
                      obtain ⟨ad156, e156, hx156_0⟩ := Kd.at_int (Kd.R_reads' HO_7.out).2.2 x60_3 p156 q156
                      cases e156
                      replace p156 := eq_true p156
                      replace q156 := eq_true q156
                      have p157 : 0 ≤ (x60_3 : Int) := of_decide_eq_true (by first | (with_reducible assumption) | assumption)
                      have q157 : x60_3 < (t152.length : Int) := of_decide_eq_true (by first | (with_reducible assumption) | assumption)
                      obtain ⟨ad157, e157, hx157_0⟩ := Kd.at_int (Kd.R_reads' HO_7.out).2.2 x60_3 p157 q157
                      obtain rfl : ad156 = ad157 := (by injection e157)
                      replace p157 := eq_true p157
                      replace q157 := eq_true q157
                      have p158 : 0 ≤ (x60_3 : Int) := of_decide_eq_true (by first | (with_reducible assumption) | assumption)
                      have q158 : x60_3 < (t152.length : Int) := of_decide_eq_true (by first | (with_reducible assumption) | assumption)
                      obtain ⟨ad158, e158, hx158_0⟩ := Kd.at_int (Kd.R_reads' HO_7.out).2.2 x60_3 p158 q158
                      obtain rfl : ad156 = ad158 := (by injection e158)
                      replace p158 := eq_true p158
                      replace q158 := eq_true q158
                      have p159 : 0 ≤ ((ji32) : Int) := of_decide_eq_true (by first | (with_reducible assumption) | assumption)
                      have q159 : (ji32) < (t152.length : Int) := of_decide_eq_true (by first | (with_reducible assumption) | assumption)
                      obtain ⟨ad159, e159, hx159_0⟩ := Kd.at_int (Kd.R_reads' HO_7.out).2.2 (ji32) p159 q159
                      obtain rfl : ad156 = ad159 := (by injection e159)
                      replace p159 := eq_true p159
                      replace q159 := eq_true q159
                      have p160 : 0 ≤ (x60_3 : Int) := of_decide_eq_true (by first | (with_reducible assumption) | assumption)
                      have q160 : x60_3 < (t152.length : Int) := of_decide_eq_true (by first | (with_reducible assumption) | assumption)
                      obtain ⟨ad160, e160, hx160_0⟩ := Kd.at_int (Kd.R_reads' HO_7.out).2.2 x60_3 p160 q160
                      obtain rfl : ad156 = ad160 := (by injection e160)
                      replace p160 := eq_true p160
                      replace q160 := eq_true q160
                      have p161 : 0 ≤ ((ji32) : Int) := of_decide_eq_true (by first | (with_reducible assumption) | assumption)
                      have q161 : (ji32) < (t152.length : Int) := of_decide_eq_true (by first | (with_reducible assumption) | assumption)
                      obtain ⟨ad161, e161, hx161_0⟩ := Kd.at_int (Kd.R_reads' HO_7.out).2.2 (ji32) p161 q161
                      obtain rfl : ad156 = ad161 := (by injection e161)
                      replace p161 := eq_true p161
                      replace q161 := eq_true q161
                      go_wp2
                      repeat (go_quiet (fail); try go_wp2)
                      go_ret
                      exact ⟨by first | rfl | (simp [errW_none, errW_some] <;> rfl) | (simp only [← hji26, ← hji28, ← hji32]; first | rfl | (simp [errW_none, errW_some] <;> rfl)) | (simp [*, errW_none, errW_some] <;> rfl), bw⟩
                     ·rw [if_neg c37] at H
                      have c37b0 : decide ((rd t152 (ji32)) < (rd t152 x60_3)) = false := decide_eq_false c37
                      clear c37
                      have H' := AX H
                      clear H
                      have p156 : 0 ≤ (x60_3 : Int) := of_decide_eq_true (by first | (with_reducible assumption) | assumption)
                      have q156 : x60_3 < (t152.length : Int) := of_decide_eq_true (by first | (with_reducible assumption) | assumption)
                      obtain ⟨ad156, e156, hx156_0⟩ := Kd.at_int (Kd.R_reads' HO_7.out).2.2 x60_3 p156 q156
                      cases e156
                      replace p156 := eq_true p156
                      replace q156 := eq_true q156
                      have p157 : 0 ≤ (x60_3 : Int) := of_decide_eq_true (by first | (with_reducible assumption) | assumption)
                      have q157 : x60_3 < (t152.length : Int) := of_decide_eq_true (by first | (with_reducible assumption) | assumption)
                      obtain ⟨ad157, e157, hx157_0⟩ := Kd.at_int (Kd.R_reads' HO_7.out).2.2 x60_3 p157 q157
                      obtain rfl : ad156 = ad157 := (by injection e157)
                      replace p157 := eq_true p157
                      replace q157 := eq_true q157
                      have p158 : 0 ≤ (x60_3 : Int) := of_decide_eq_true (by first | (with_reducible assumption) | assumption)
                      have q158 : x60_3 < (t152.length : Int) := of_decide_eq_true (by first | (with_reducible assumption) | assumption)
                      obtain ⟨ad158, e158, hx158_0⟩ := Kd.at_int (Kd.R_reads' HO_7.out).2.2 x60_3 p158 q158
                      obtain rfl : ad156 = ad158 := (by injection e158)
                      replace p158 := eq_true p158
                      replace q158 := eq_true q158
                      have p159 : 0 ≤ ((ji32) : Int) := of_decide_eq_true (by first | (with_reducible assumption) | assumption)
                      have q159 : (ji32) < (t152.length : Int) := of_decide_eq_true (by first | (with_reducible assumption) | assumption)
                      obtain ⟨ad159, e159, hx159_0⟩ := Kd.at_int (Kd.R_reads' HO_7.out).2.2 (ji32) p159 q159
                      obtain rfl : ad156 = ad159 := (by injection e159)
                      replace p159 := eq_true p159
                      replace q159 := eq_true q159
                      have p160 : 0 ≤ (x60_3 : Int) := of_decide_eq_true (by first | (with_reducible assumption) | assumption)
                      have q160 : x60_3 < (t152.length : Int) := of_decide_eq_true (by first | (with_reducible assumption) | assumption)
                      obtain ⟨ad160, e160, hx160_0⟩ := Kd.at_int (Kd.R_reads' HO_7.out).2.2 x60_3 p160 q160
                      obtain rfl : ad156 = ad160 := (by injection e160)
                      replace p160 := eq_true p160
                      replace q160 := eq_true q160
                      have p161 : 0 ≤ ((ji32) : Int) := of_decide_eq_true (by first | (with_reducible assumption) | assumption)
                      have q161 : (ji32) < (t152.length : Int) := of_decide_eq_true (by first | (with_reducible assumption) | assumption)
                      obtain ⟨ad161, e161, hx161_0⟩ := Kd.at_int (Kd.R_reads' HO_7.out).2.2 (ji32) p161 q161
                      obtain rfl : ad156 = ad161 := (by injection e161)
                      replace p161 := eq_true p161
                      replace q161 := eq_true q161
                      have p162 : 0 ≤ (x60_3 : Int) := of_decide_eq_true (by first | (with_reducible assumption) | assumption)
                      have q162 : x60_3 < (t152.length : Int) := of_decide_eq_true (by first | (with_reducible assumption) | assumption)
                      obtain ⟨ad162, e162, hx162_0⟩ := Kd.at_int (Kd.R_reads' HO_7.out).2.2 x60_3 p162 q162
                      obtain rfl : ad156 = ad162 := (by injection e162)
                      replace p162 := eq_true p162
                      replace q162 := eq_true q162
                      go_wp2
                      repeat (go_quiet (fail); try go_wp2)
                      go_roundg k3
                      case measure => have := HJ6.out; have := HJ17.out; have := HK3.out; omega
                      case rel => exact ⟨(wrap64 (x9_3 + (rd t152 x60_3))), (wrap64 (x60_3 + 1)), (by first | rfl | (simp; done) | (simp [*]; done)), (by first | rfl | (simp; done) | (simp [*]; done)), H', ⟨by have := HJ6.out; have := HJ17.out; have := HK3.out; omega⟩, ⟨kr HO_7⟩, ⟨bw⟩⟩
                    ·rw [if_neg c36] at H
                     have c36b0 : decide (a1 ≤ a0) = false := decide_eq_false c36
                     clear c36
                     have H' := AX H
                     clear H
                     have p156 : 0 ≤ (x60_3 : Int) := of_decide_eq_true (by first | (with_reducible assumption) | assumption)
                     have q156 : x60_3 < (t152.length : Int) := of_decide_eq_true (by first | (with_reducible assumption) | assumption)
                     obtain ⟨ad156, e156, hx156_0⟩ := Kd.at_int (Kd.R_reads' HO_7.out).2.2 x60_3 p156 q156
                     cases e156
                     replace p156 := eq_true p156
                     replace q156 := eq_true q156
                     have p157 : 0 ≤ (x60_3 : Int) := of_decide_eq_true (by first | (with_reducible assumption) | assumption)
                     have q157 : x60_3 < (t152.length : Int) := of_decide_eq_true (by first | (with_reducible assumption) | assumption)
                     obtain ⟨ad157, e157, hx157_0⟩ := Kd.at_int (Kd.R_reads' HO_7.out).2.2 x60_3 p157 q157
                     obtain rfl : ad156 = ad157 := (by injection e157)
                     replace p157 := eq_true p157
                     replace q157 := eq_true q157
                     have p158 : 0 ≤ (x60_3 : Int) := of_decide_eq_true (by first | (with_reducible assumption) | assumption)
                     have q158 : x60_3 < (t152.length : Int) := of_decide_eq_true (by first | (with_reducible assumption) | assumption)
                     obtain ⟨ad158, e158, hx158_0⟩ := Kd.at_int (Kd.R_reads' HO_7.out).2.2 x60_3 p158 q158
                     obtain rfl : ad156 = ad158 := (by injection e158)
                     replace p158 := eq_true p158
                     replace q158 := eq_true q158
                     have p159 : 0 ≤ ((ji32) : Int) := of_decide_eq_true (by first | (with_reducible assumption) | assumption)
                     have q159 : (ji32) < (t152.length : Int) := of_decide_eq_true (by first | (with_reducible assumption) | assumption)
                     obtain ⟨ad159, e159, hx159_0⟩ := Kd.at_int (Kd.R_reads' HO_7.out).2.2 (ji32) p159 q159
                     obtain rfl : ad156 = ad159 := (by injection e159)
                     replace p159 := eq_true p159
                     replace q159 := eq_true q159
                     have p163 : 0 ≤ (x60_3 : Int) := of_decide_eq_true (by first | (with_reducible assumption) | assumption)
                     have q163 : x60_3 < (t152.length : Int) := of_decide_eq_true (by first | (with_reducible assumption) | assumption)
                     obtain ⟨ad163, e163, hx163_0⟩ := Kd.at_int (Kd.R_reads' HO_7.out).2.2 x60_3 p163 q163
                     obtain rfl : ad156 = ad163 := (by injection e163)
                     replace p163 := eq_true p163
                     replace q163 := eq_true q163
                     go_wp2
                     repeat (go_quiet (fail); try go_wp2)
                     go_roundg k3
                     case measure => have := HJ6.out; have := HJ17.out; have := HK3.out; omega
                     case rel => exact ⟨(wrap64 (x9_3 + (rd t152 x60_3))), (wrap64 (x60_3 + 1)), (by first | rfl | (simp; done) | (simp [*]; done)), (by first | rfl | (simp; done) | (simp [*]; done)), H', ⟨by have := HJ6.out; have := HJ17.out; have := HK3.out; omega⟩, ⟨kr HO_7⟩, ⟨bw⟩⟩
                  ·rw [if_neg c34] at H
                   exact absurd H (by simp)
                 ·rw [if_neg c33] at H
                  exact absurd H (by simp)
                ·rw [if_neg c31] at H
                 have c31b0 : decide (a0 ≤ a1) = false := decide_eq_false c31
                 clear c31
                 by_cases c38 : a0 ≥ a1
                 ·rw [if_pos c38] at H
                  have c38b0 : decide (a1 ≤ a0) = true := decide_eq_true c38
                  clear c38
                  obtain ⟨ji39, hji39⟩ : ∃ j_ : Int, (wrap64 (x60_3 - 1)) = j_ := ⟨_, rfl⟩
                  replace H : (if 0 ≤ (ji39) then (if (ji39) < (t152.length : Int) then (if (rd t152 x60_3) > (rd t152 (ji39)) then (some false) else (pylonlaw11_FillLaw.l0 k3 a0 a1 a2 t152 (wrap64 (x9_3 + (rd t152 x60_3))) (t152.length : Int) (wrap64 (x60_3 + 1)))) else (none)) else (none)) = some r := by first | (rw [hji39] at H; exact H) | (simp only [hji39] at H ⊢; exact H)
                  have hji39w : (IntKind.i64.wrap (x60_3 - 1)) = ji39 := (i64_w _).trans hji39
                  by_cases c40 : 0 ≤ (ji39)
                  ·rw [if_pos c40] at H
                   have c40b0 : decide (0 ≤ (ji39)) = true := decide_eq_true c40
                   clear c40
                   by_cases c41 : (ji39) < (t152.length : Int)
                   ·rw [if_pos c41] at H
                    have c41b0 : decide ((ji39) < (t152.length : Int)) = true := decide_eq_true c41
                    clear c41
                    by_cases c42 : (rd t152 x60_3) > (rd t152 (ji39))
                    ·rw [if_pos c42] at H
                     have c42b0 : decide ((rd t152 (ji39)) < (rd t152 x60_3)) = true := decide_eq_true c42
                     clear c42
                     obtain rfl := Option.some.inj H
                     have p156 : 0 ≤ (x60_3 : Int) := of_decide_eq_true (by first | (with_reducible assumption) | assumption)
                     have q156 : x60_3 < (t152.length : Int) := of_decide_eq_true (by first | (with_reducible assumption) | assumption)
                     obtain ⟨ad156, e156, hx156_0⟩ := Kd.at_int (Kd.R_reads' HO_7.out).2.2 x60_3 p156 q156
                     cases e156
                     replace p156 := eq_true p156
                     replace q156 := eq_true q156
                     have p157 : 0 ≤ (x60_3 : Int) := of_decide_eq_true (by first | (with_reducible assumption) | assumption)
                     have q157 : x60_3 < (t152.length : Int) := of_decide_eq_true (by first | (with_reducible assumption) | assumption)
                     obtain ⟨ad157, e157, hx157_0⟩ := Kd.at_int (Kd.R_reads' HO_7.out).2.2 x60_3 p157 q157
                     obtain rfl : ad156 = ad157 := (by injection e157)
                     replace p157 := eq_true p157
                     replace q157 := eq_true q157
                     have p164 : 0 ≤ (x60_3 : Int) := of_decide_eq_true (by first | (with_reducible assumption) | assumption)
                     have q164 : x60_3 < (t152.length : Int) := of_decide_eq_true (by first | (with_reducible assumption) | assumption)
                     obtain ⟨ad164, e164, hx164_0⟩ := Kd.at_int (Kd.R_reads' HO_7.out).2.2 x60_3 p164 q164
                     obtain rfl : ad156 = ad164 := (by injection e164)
                     replace p164 := eq_true p164
                     replace q164 := eq_true q164
                     have p165 : 0 ≤ ((ji39) : Int) := of_decide_eq_true (by first | (with_reducible assumption) | assumption)
                     have q165 : (ji39) < (t152.length : Int) := of_decide_eq_true (by first | (with_reducible assumption) | assumption)
                     obtain ⟨ad165, e165, hx165_0⟩ := Kd.at_int (Kd.R_reads' HO_7.out).2.2 (ji39) p165 q165
                     obtain rfl : ad156 = ad165 := (by injection e165)
                     replace p165 := eq_true p165
                     replace q165 := eq_true q165
                     go_wp2
                     repeat (go_quiet (fail); try go_wp2)
                     go_ret
                     exact ⟨by first | rfl | (simp [errW_none, errW_some] <;> rfl) | (simp only [← hji26, ← hji28, ← hji39]; first | rfl | (simp [errW_none, errW_some] <;> rfl)) | (simp [*, errW_none, errW_some] <;> rfl), bw⟩
                    ·rw [if_neg c42] at H
                     have c42b0 : decide ((rd t152 (ji39)) < (rd t152 x60_3)) = false := decide_eq_false c42
                     clear c42
                     have H' := AX H
                     clear H
                     have p156 : 0 ≤ (x60_3 : Int) := of_decide_eq_true (by first | (with_reducible assumption) | assumption)
                     have q156 : x60_3 < (t152.length : Int) := of_decide_eq_true (by first | (with_reducible assumption) | assumption)
                     obtain ⟨ad156, e156, hx156_0⟩ := Kd.at_int (Kd.R_reads' HO_7.out).2.2 x60_3 p156 q156
                     cases e156
                     replace p156 := eq_true p156
                     replace q156 := eq_true q156
                     have p157 : 0 ≤ (x60_3 : Int) := of_decide_eq_true (by first | (with_reducible assumption) | assumption)
                     have q157 : x60_3 < (t152.length : Int) := of_decide_eq_true (by first | (with_reducible assumption) | assumption)
                     obtain ⟨ad157, e157, hx157_0⟩ := Kd.at_int (Kd.R_reads' HO_7.out).2.2 x60_3 p157 q157
                     obtain rfl : ad156 = ad157 := (by injection e157)
                     replace p157 := eq_true p157
                     replace q157 := eq_true q157
                     have p164 : 0 ≤ (x60_3 : Int) := of_decide_eq_true (by first | (with_reducible assumption) | assumption)
                     have q164 : x60_3 < (t152.length : Int) := of_decide_eq_true (by first | (with_reducible assumption) | assumption)
                     obtain ⟨ad164, e164, hx164_0⟩ := Kd.at_int (Kd.R_reads' HO_7.out).2.2 x60_3 p164 q164
                     obtain rfl : ad156 = ad164 := (by injection e164)
                     replace p164 := eq_true p164
                     replace q164 := eq_true q164
                     have p165 : 0 ≤ ((ji39) : Int) := of_decide_eq_true (by first | (with_reducible assumption) | assumption)
                     have q165 : (ji39) < (t152.length : Int) := of_decide_eq_true (by first | (with_reducible assumption) | assumption)
                     obtain ⟨ad165, e165, hx165_0⟩ := Kd.at_int (Kd.R_reads' HO_7.out).2.2 (ji39) p165 q165
                     obtain rfl : ad156 = ad165 := (by injection e165)
                     replace p165 := eq_true p165
                     replace q165 := eq_true q165
                     have p166 : 0 ≤ (x60_3 : Int) := of_decide_eq_true (by first | (with_reducible assumption) | assumption)
                     have q166 : x60_3 < (t152.length : Int) := of_decide_eq_true (by first | (with_reducible assumption) | assumption)
                     obtain ⟨ad166, e166, hx166_0⟩ := Kd.at_int (Kd.R_reads' HO_7.out).2.2 x60_3 p166 q166
                     obtain rfl : ad156 = ad166 := (by injection e166)
                     replace p166 := eq_true p166
                     replace q166 := eq_true q166
                     go_wp2
                     repeat (go_quiet (fail); try go_wp2)
                     go_roundg k3
                     case measure => have := HJ6.out; have := HJ17.out; have := HK3.out; omega
                     case rel => exact ⟨(wrap64 (x9_3 + (rd t152 x60_3))), (wrap64 (x60_3 + 1)), (by first | rfl | (simp; done) | (simp [*]; done)), (by first | rfl | (simp; done) | (simp [*]; done)), H', ⟨by have := HJ6.out; have := HJ17.out; have := HK3.out; omega⟩, ⟨kr HO_7⟩, ⟨bw⟩⟩
                   ·rw [if_neg c41] at H
                    exact absurd H (by simp)
                  ·rw [if_neg c40] at H
                   exact absurd H (by simp)
                 ·rw [if_neg c38] at H
                  have c38b0 : decide (a1 ≤ a0) = false := decide_eq_false c38
                  clear c38
                  have H' := AX H
                  clear H
                  have p156 : 0 ≤ (x60_3 : Int) := of_decide_eq_true (by first | (with_reducible assumption) | assumption)
                  have q156 : x60_3 < (t152.length : Int) := of_decide_eq_true (by first | (with_reducible assumption) | assumption)
                  obtain ⟨ad156, e156, hx156_0⟩ := Kd.at_int (Kd.R_reads' HO_7.out).2.2 x60_3 p156 q156
                  cases e156
                  replace p156 := eq_true p156
                  replace q156 := eq_true q156
                  have p157 : 0 ≤ (x60_3 : Int) := of_decide_eq_true (by first | (with_reducible assumption) | assumption)
                  have q157 : x60_3 < (t152.length : Int) := of_decide_eq_true (by first | (with_reducible assumption) | assumption)
                  obtain ⟨ad157, e157, hx157_0⟩ := Kd.at_int (Kd.R_reads' HO_7.out).2.2 x60_3 p157 q157
                  obtain rfl : ad156 = ad157 := (by injection e157)
                  replace p157 := eq_true p157
                  replace q157 := eq_true q157
                  have p167 : 0 ≤ (x60_3 : Int) := of_decide_eq_true (by first | (with_reducible assumption) | assumption)
                  have q167 : x60_3 < (t152.length : Int) := of_decide_eq_true (by first | (with_reducible assumption) | assumption)
                  obtain ⟨ad167, e167, hx167_0⟩ := Kd.at_int (Kd.R_reads' HO_7.out).2.2 x60_3 p167 q167
                  obtain rfl : ad156 = ad167 := (by injection e167)
                  replace p167 := eq_true p167
                  replace q167 := eq_true q167
                  go_wp2
                  repeat (go_quiet (fail); try go_wp2)
                  go_roundg k3
                  case measure => have := HJ6.out; have := HJ17.out; have := HK3.out; omega
                  case rel => exact ⟨(wrap64 (x9_3 + (rd t152 x60_3))), (wrap64 (x60_3 + 1)), (by first | rfl | (simp; done) | (simp [*]; done)), (by first | rfl | (simp; done) | (simp [*]; done)), H', ⟨by have := HJ6.out; have := HJ17.out; have := HK3.out; omega⟩, ⟨kr HO_7⟩, ⟨bw⟩⟩
               ·rw [if_neg c30] at H
                have c30b0 : decide (0 < x60_3) = false := decide_eq_false c30
                clear c30
                have H' := AX H
                clear H
                have p156 : 0 ≤ (x60_3 : Int) := of_decide_eq_true (by first | (with_reducible assumption) | assumption)
                have q156 : x60_3 < (t152.length : Int) := of_decide_eq_true (by first | (with_reducible assumption) | assumption)
                obtain ⟨ad156, e156, hx156_0⟩ := Kd.at_int (Kd.R_reads' HO_7.out).2.2 x60_3 p156 q156
                cases e156
                replace p156 := eq_true p156
                replace q156 := eq_true q156
                have p157 : 0 ≤ (x60_3 : Int) := of_decide_eq_true (by first | (with_reducible assumption) | assumption)
                have q157 : x60_3 < (t152.length : Int) := of_decide_eq_true (by first | (with_reducible assumption) | assumption)
                obtain ⟨ad157, e157, hx157_0⟩ := Kd.at_int (Kd.R_reads' HO_7.out).2.2 x60_3 p157 q157
                obtain rfl : ad156 = ad157 := (by injection e157)
                replace p157 := eq_true p157
                replace q157 := eq_true q157
                have p168 : 0 ≤ (x60_3 : Int) := of_decide_eq_true (by first | (with_reducible assumption) | assumption)
                have q168 : x60_3 < (t152.length : Int) := of_decide_eq_true (by first | (with_reducible assumption) | assumption)
                obtain ⟨ad168, e168, hx168_0⟩ := Kd.at_int (Kd.R_reads' HO_7.out).2.2 x60_3 p168 q168
                obtain rfl : ad156 = ad168 := (by injection e168)
                replace p168 := eq_true p168
                replace q168 := eq_true q168
                go_wp2
                repeat (go_quiet (fail); try go_wp2)
                go_roundg k3
                case measure => have := HJ6.out; have := HJ17.out; have := HK3.out; omega
                case rel => exact ⟨(wrap64 (x9_3 + (rd t152 x60_3))), (wrap64 (x60_3 + 1)), (by first | rfl | (simp; done) | (simp [*]; done)), (by first | rfl | (simp; done) | (simp [*]; done)), H', ⟨by have := HJ6.out; have := HJ17.out; have := HK3.out; omega⟩, ⟨kr HO_7⟩, ⟨bw⟩⟩
            ·rw [if_neg c25] at H
             exact absurd H (by simp)
           ·rw [if_neg c24] at H
            exact absurd H (by simp)
          ·rw [if_neg c23] at H
           have c23b0 : decide (x60_3 < (t152.length : Int)) = false := decide_eq_false c23
           clear c23
           by_cases c43 : (wrap64 (2 * x9_3)) = (wrap64 (a2 * (wrap64 (a0 + a1))))
           ·rw [if_pos c43] at H
            have c43b0 : ((wrap64 (2 * x9_3)) == (wrap64 (a2 * (wrap64 (a0 + a1))))) = true := beq_iff_eq.mpr c43
            have c43b1 : ((wrap64 (2 * x9_3)) != (wrap64 (a2 * (wrap64 (a0 + a1))))) = false := bne_eq_false_iff_eq.mpr c43
            clear c43
            obtain rfl := Option.some.inj H
            go_wp2
            repeat (go_quiet (fail); try go_wp2)
            go_ret
            exact ⟨by first | rfl | (simp [errW_none, errW_some] <;> rfl) | (simp [*, errW_none, errW_some] <;> rfl), bw⟩
           ·rw [if_neg c43] at H
            have c43b0 : ((wrap64 (2 * x9_3)) == (wrap64 (a2 * (wrap64 (a0 + a1))))) = false := beq_eq_false_iff_ne.mpr c43
            have c43b1 : ((wrap64 (2 * x9_3)) != (wrap64 (a2 * (wrap64 (a0 + a1))))) = true := bne_iff_ne.mpr c43
            obtain rfl := Option.some.inj H
            go_wp2
            repeat (go_quiet (fail); try go_wp2)
            go_ret
            exact ⟨by first | rfl | (simp [errW_none, errW_some] <;> rfl) | (simp [*, errW_none, errW_some] <;> rfl), bw⟩
 ·replace c5 := Bool.eq_false_iff.mpr c5
  subst c5
  have H1 : (some false) = some r := by rw [if_neg (show ¬ (false = true) by decide)] at H; exact H
  clear H
  have H := H1
  clear H1
  obtain rfl := Option.some.inj H
  go_enter Try.func4, Try.ntmps4
  go_wp2_with (first | (go_at_call 10; (with_reducible refine (pylonlaw11_awake.calls k  false _ A4.out).mono ?_); rintro e w44 ⟨rfl, hb⟩; replace HB := AX (below_step bw hb); (try clear hb)))
  repeat (go_quiet (first | (go_at_call 10; (with_reducible refine (pylonlaw11_awake.calls k  false _ A4.out).mono ?_); rintro e w44 ⟨rfl, hb⟩; replace HB := AX (below_step bw hb); (try clear hb))); try go_wp2_with (first | (go_at_call 10; (with_reducible refine (pylonlaw11_awake.calls k  false _ A4.out).mono ?_); rintro e w44 ⟨rfl, hb⟩; replace HB := AX (below_step bw hb); (try clear hb))))
  go_ret
  exact ⟨by first | rfl | (simp [errW_none, errW_some] <;> rfl) | (simp [*, errW_none, errW_some] <;> rfl), bw⟩

/-- THE ONE PURE STATEMENT of pylonlaw11_FillLaw: yours. -/
def pylonlaw11_FillLaw.Pure : Prop := ∀ (a0 : Int) (a1 : Int) (a2 : Int), (Lit.int .i64 a0).wf = true → (Lit.int .i64 a1).wf = true → (Lit.int .i64 a2).wf = true → ∃ k, pylonlaw11_FillLaw.f k a0 a1 a2 = some true
theorem pylonlaw11_FillLaw.walk (P : pylonlaw11_FillLaw.Pure) (a0 : Int) (a1 : Int) (a2 : Int) (w : World) (w0 : (Lit.int .i64 a0).wf = true) (w1 : (Lit.int .i64 a1).wf = true) (w2 : (Lit.int .i64 a2).wf = true) :
  Calls Try.prog 4 #[.int .i64 a0, .int .i64 a1, .int .i64 a2] w fun e w' => e = .returned (.bool true) ∧ Below w.heap.size w w' := by
 obtain ⟨k, h⟩ := P a0 a1 a2 w0 w1 w2
 refine (pylonlaw11_FillLaw.calls k a0 a1 a2 true w h).mono ?_
 rintro e w' ⟨rfl, hd⟩
 exact ⟨rfl, hd⟩

end Go.Proofs.Ythhifeefkmaeiaa.PX
