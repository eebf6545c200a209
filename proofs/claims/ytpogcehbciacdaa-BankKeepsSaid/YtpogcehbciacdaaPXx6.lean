/- Functions of the program as plain Lean functions, each with a proof that the call in the machine answers just what the plain function says; condition: the plain function answers at all. -/
import Derived.Test.YtpogcehbciacdaaPXx0
import Derived.Test.YtpogcehbciacdaaPXx3
namespace Go.Proofs.Ytpogcehbciacdaa.PX
open Go.RowKit Go.Proofs.YtpogcehbciacdaaW.PrintWords Go.Proofs.YtpogcehbciacdaaW.PrintLast Go.Proofs.YtpogcehbciacdaaW.PrintMore
attribute [local go_sem] max2_int min2_int max_two min_two max_three min_three max_four min_four   -- for this text's walks alone
set_option linter.unusedVariables false
set_option linter.unusedSimpArgs false

/-! ### pylonref19_Take: function 18 -/
def pylonref19_Take.l0 : Nat → List (S32) → Int → List (S32) → Int → Int → Int → Option ((List (S32)) × Int × Int)
 | 0, _, _, _, _, _, _ => none
 | k + 1, x0, x1, x7, x8, x17, x18 => if x18 < x17 then (if 0 ≤ x18 then (if x18 < (x0.length : Int) then (if (mn ((rd_T32 x0 x18).f0) (wrap64 (x1 - x8))) < ((rd_T32 x0 x18).f0) then (if x7.length < 8796093022208 then (pylonref19_Take.l0 k x0 x1 (x7 ++ [(⟨wrap64 (((rd_T32 x0 x18).f0) - (mn ((rd_T32 x0 x18).f0) (wrap64 (x1 - x8)))), (rd_T32 x0 x18).f1⟩ : S32)]) (wrap64 (x8 + (mn ((rd_T32 x0 x18).f0) (wrap64 (x1 - x8))))) x17 (wrap64 (x18 + 1))) else (none)) else (pylonref19_Take.l0 k x0 x1 x7 (wrap64 (x8 + (mn ((rd_T32 x0 x18).f0) (wrap64 (x1 - x8))))) x17 (wrap64 (x18 + 1)))) else (none)) else (none)) else (some (x7, x8, 0))
def pylonref19_Take.f (k : Nat) (l0 : List (S32)) (a1 : Int) : Option ((List (S32)) × Int × Int) := (pylonref19_Check.f k l0).bind fun t258 => (if t258 = 0 then (if a1 < 0 then (some (([] : List (S32)), 0, 5)) else (pylonref19_Take.l0 k l0 a1 ([] : List (S32)) 0 (l0.length : Int) 0)) else (some (([] : List (S32)), 0, 8)))
theorem pylonref19_Take.mono_l : ∀ k, (∀ y0 y1 y2 y3 y4 y5, LeO (pylonref19_Take.l0 k y0 y1 y2 y3 y4 y5) (pylonref19_Take.l0 (k + 1) y0 y1 y2 y3 y4 y5))
 | 0 => fun _ _ _ _ _ _ r h => by simp [pylonref19_Take.l0] at h
 | k + 1 => by
  have ih0 := pylonref19_Take.mono_l k
  ·intro y0 y1 y2 y3 y4 y5
   unfold pylonref19_Take.l0
   repeat' first
   | (with_reducible exact ih0 _ _ _ _ _ _)
   | (with_reducible exact pylonref19_Check.mono _ _)
   | (with_reducible exact LeO.refl _)
   | (with_reducible exact LeO.none _)
   | (with_reducible refine LeO.ite ?_ ?_)
   | (with_reducible refine LeO.bind ?_ (fun _ => ?_))
theorem pylonref19_Take.mono : ∀ a0 a1 k, LeO (pylonref19_Take.f k a0 a1) (pylonref19_Take.f (k + 1) a0 a1) := by
 intro a0 a1 k
 have ih0 := pylonref19_Take.mono_l k
 unfold pylonref19_Take.f
 repeat' first
   | (with_reducible exact ih0 _ _ _ _ _ _)
   | (with_reducible exact pylonref19_Check.mono _ _)
   | (with_reducible exact LeO.refl _)
   | (with_reducible exact LeO.none _)
   | (with_reducible refine LeO.ite ?_ ?_)
   | (with_reducible refine LeO.bind ?_ (fun _ => ?_))
def pylonref19_Take.T13 : Bool × List (List Nat × List Nat) := (true, [([], []), ([], []), ([], []), ([1, 2], [1, 2]), ([3], [3]), ([4], [4]), ([], []), ([5, 6], [5, 6]), ([], []), ([], []), ([8, 9], [8, 9]), ([10], [10]), ([11], [11]), ([7, 12], [7, 12]), ([13], [13]), ([0, 14], [0, 14]), ([15, 15, 0, 1, 2, 3, 4, 5, 6, 7, 8, 9, 10, 11, 12, 13, 14, 15], [0, 15])])
def pylonref19_Take.B13 : List Nat := [0, 0, 0, 6, 14, 30, 0, 126, 0, 0, 768, 1792, 3840, 8190, 16382, 32767, 65535]
theorem pylonref19_Take.tab13 : rtab .any (opsOf Try.f18 13) = pylonref19_Take.T13 := by kernel_rfl
theorem pylonref19_Take.bits13 : waitsOk pylonref19_Take.T13.2 pylonref19_Take.B13 = true := by kernel_rfl
set_option maxHeartbeats 8000000 in
set_option maxRecDepth 100000 in
theorem pylonref19_Take.calls (k : Nat) (A0 : Option Addr) (c0 : Nat) (l0 : List (S32)) (a1 : Int) (r1 : List (S32)) (r2 : Int) (r3 : Int) (w : World) (hr0 : Kd.C k32 w A0 l0.length l0) (hc0 : l0.length ≤ c0) (h : pylonref19_Take.f k l0 a1 = some (r1, r2, r3)) :
  Calls Try.prog 18 #[.slice A0 l0.length c0, .int .i64 a1] w fun e w' => ∃ v0_ : Value, e = .returned (.tuple #[v0_, .int .i64 r2, .int .i64 r3]) ∧ Kd.R k32 32 w' w.heap.size (fun _ => True) v0_ r1 ∧ Below w.heap.size w w' := by
 have hu32 := Try.underlying32
 have HR0 := AX hr0
 have HC0 := AX hc0
 clear hr0 hc0
 have HB := AX (Below.refl w.heap.size w)
 have H : ((pylonref19_Check.f k l0).bind fun t258 => (if t258 = 0 then (if a1 < 0 then (some (([] : List (S32)), 0, 5)) else (pylonref19_Take.l0 k l0 a1 ([] : List (S32)) 0 (l0.length : Int) 0)) else (some (([] : List (S32)), 0, 8)))) = some (r1, r2, r3) := h
 clear h
 replace H := Option.bind_eq_some_iff.mp H
 obtain ⟨t258, A30, H⟩ := H
 replace H : (if t258 = 0 then (if a1 < 0 then (some (([] : List (S32)), 0, 5)) else (pylonref19_Take.l0 k l0 a1 ([] : List (S32)) 0 (l0.length : Int) 0)) else (some (([] : List (S32)), 0, 8))) = some (r1, r2, r3) := H
 have A3 := AX A30
 clear A30
 by_cases c4 : t258 = 0
 ·rw [if_pos c4] at H
  have c4b0 : (t258 == 0) = true := beq_iff_eq.mpr c4
  have c4b1 : (t258 != 0) = false := bne_eq_false_iff_eq.mpr c4
  clear c4
  by_cases c5 : a1 < 0
  ·rw [if_pos c5] at H
   have c5b0 : decide (a1 < 0) = true := decide_eq_true c5
   clear c5
   simp only [Option.some.injEq, Prod.mk.injEq] at H
   obtain ⟨rfl, rfl, rfl⟩ := H
   go_enter Try.func18, Try.ntmps18
   go_wp2_with (first | ((with_reducible refine gate_callee (f := 11) rfl ?_); refine gL (some 12) Try.func11 #[.slice A0 l0.length c0] ?_; (with_reducible refine (pylonref19_Check.calls k _ _ l0 t258 _ ?side1 ?side2 A3.out).mono ?_); (case side1 => repeat (first | exact HR0.out | (with_reducible refine Kd.C_alloc ?_ _) | (with_reducible refine Kd.C_drewN ?_ _) | (with_reducible refine Kd.C_drew ?_))); (case side2 => exact HC0.out); rintro e w6 ⟨rfl, hb⟩; refine ⟨_, rfl, ?_⟩; replace HB := AX (below_step bw hb); (try clear hb); (try clear hb2); (try clear hk); (try clear hi)))
   go_ret3
   exact ⟨_, by first | rfl | (simp [errW_none, errW_some] <;> rfl) | (simp [*, errW_none, errW_some] <;> rfl), by first | exact Kd.R_nil _ _ _ _ _ | exact Kd.N_nil _ _ _ _ _ | exact Kd.V_nil _ _ _ _ _ | exact Kd.Q_nil _ _ _ _ _ | exact Kd.S_nil _ _ _ _ _, bw⟩
  ·rw [if_neg c5] at H
   have c5b0 : decide (a1 < 0) = false := decide_eq_false c5
   clear c5
   have H' := AX H
   clear H
   go_enter Try.func18, Try.ntmps18
   go_wp2_with (first | ((with_reducible refine gate_callee (f := 11) rfl ?_); refine gL (some 12) Try.func11 #[.slice A0 l0.length c0] ?_; (with_reducible refine (pylonref19_Check.calls k _ _ l0 t258 _ ?side1 ?side2 A3.out).mono ?_); (case side1 => repeat (first | exact HR0.out | (with_reducible refine Kd.C_alloc ?_ _) | (with_reducible refine Kd.C_drewN ?_ _) | (with_reducible refine Kd.C_drew ?_))); (case side2 => exact HC0.out); rintro e w7 ⟨rfl, hb⟩; refine ⟨_, rfl, ?_⟩; replace HB := AX (below_step bw hb); (try clear hb); (try clear hb2); (try clear hk); (try clear hi)))
   go_loopg [7, 8, 18] k (fun kq v7 v8 v18 w' => ∃ (x7_1 : List (S32)) (x8_1 : Int) (x18_1 : Int), v8 = .int .i64 x8_1 ∧ v18 = .int .i64 x18_1 ∧ Aside0 (pylonref19_Take.l0 kq l0 a1 x7_1 x8_1 (l0.length : Int) x18_1 = some (r1, r2, r3)) ∧ Aside0 (kq ≤ k) ∧ Aside0 (Kd.R k32 32 w' w.heap.size (fun _ => True) v7 x7_1) ∧ Aside0 (Below w.heap.size w w'))
   case atStart => exact ⟨(([] : List (S32))), (0), (0), (by first | rfl | (simp; done) | (simp [*]; done)), (by first | rfl | (simp; done) | (simp [*]; done)), H', ⟨Nat.le_refl _⟩, ⟨by first | exact Kd.R_nil _ _ _ _ _ | exact Kd.N_nil _ _ _ _ _ | exact Kd.V_nil _ _ _ _ _ | exact Kd.Q_nil _ _ _ _ _ | exact Kd.S_nil _ _ _ _ _⟩, ⟨bw⟩⟩
   case round =>
    clear H'
    try clear c4b0 c4b1
    try clear c5b0
    obtain ⟨x7_1, x8_1, x18_1, rfl, rfl, HA, HK1, HO_7, HB⟩ := hrel
    cases gk with
    | zero => exact absurd HA.out (by simp [pylonref19_Take.l0])
    | succ k1 =>
     have H := HA.out
     clear HA
     simp only [pylonref19_Take.l0] at H
     by_cases c8 : x18_1 < (l0.length : Int)
     ·rw [if_pos c8] at H
      have c8b0 : decide (x18_1 < (l0.length : Int)) = true := decide_eq_true c8
      clear c8
      by_cases c9 : 0 ≤ x18_1
      ·rw [if_pos c9] at H
       have c9b0 : decide (0 ≤ x18_1) = true := decide_eq_true c9
       clear c9
       by_cases c10 : x18_1 < (l0.length : Int)
       ·rw [if_pos c10] at H
        have c10b0 : decide (x18_1 < (l0.length : Int)) = true := decide_eq_true c10
        clear c10
        obtain ⟨ji11, hji11⟩ : ∃ j_ : Int, (mn ((rd_T32 l0 x18_1).f0) (wrap64 (a1 - x8_1))) = j_ := ⟨_, rfl⟩
        replace H : (if (ji11) < ((rd_T32 l0 x18_1).f0) then (if x7_1.length < 8796093022208 then (pylonref19_Take.l0 k1 l0 a1 (x7_1 ++ [(⟨wrap64 (((rd_T32 l0 x18_1).f0) - (ji11)), (rd_T32 l0 x18_1).f1⟩ : S32)]) (wrap64 (x8_1 + (ji11))) (l0.length : Int) (wrap64 (x18_1 + 1))) else (none)) else (pylonref19_Take.l0 k1 l0 a1 x7_1 (wrap64 (x8_1 + (ji11))) (l0.length : Int) (wrap64 (x18_1 + 1)))) = some (r1, r2, r3) := by first | (rw [hji11] at H; exact H) | (simp only [hji11] at H ⊢; exact H)
        have hji11_ : (if (wrap64 (a1 - x8_1)) < ((rd_T32 l0 x18_1).f0) then (wrap64 (a1 - x8_1)) else ((rd_T32 l0 x18_1).f0)) = ji11 := hji11
        by_cases c12 : (ji11) < ((rd_T32 l0 x18_1).f0)
        ·rw [if_pos c12] at H
         have c12b0 : decide ((ji11) < ((rd_T32 l0 x18_1).f0)) = true := decide_eq_true c12
         clear c12
         by_cases c13 : x7_1.length < 8796093022208
         ·rw [if_pos c13] at H
          have LMc13 := AX c13
          clear c13
          obtain ⟨y263, hy263⟩ : ∃ y_ : List (S32), y_ = (x7_1 ++ [(⟨wrap64 (((rd_T32 l0 x18_1).f0) - (ji11)), (rd_T32 l0 x18_1).f1⟩ : S32)]) := ⟨_, rfl⟩
          replace H : (pylonref19_Take.l0 k1 l0 a1 y263 (wrap64 (x8_1 + (ji11))) (l0.length : Int) (wrap64 (x18_1 + 1))) = some (r1, r2, r3) := by first | (rw [hy263]; with_reducible exact H) | (have H2_ := (Option.bind_some _ _).symm.trans H; rw [hy263]; with_reducible exact H2_) | (have H2_ := (Option.bind_some _ _).symm.trans H; with_reducible exact H2_) | with_reducible exact H | (rw [hy263]; exact H) | exact H
          have Ny263 := AX hy263
          clear hy263
          have H' := AX H
          clear H
          have p259 : 0 ≤ (x18_1 : Int) := of_decide_eq_true (by first | (with_reducible assumption) | assumption)
          have q259 : x18_1 < (l0.length : Int) := of_decide_eq_true (by first | (with_reducible assumption) | assumption)
          obtain ⟨ad259, e259, hx259_0, hx259_1⟩ := at_T32 HR0.out x18_1 p259 q259
          cases e259
          replace hx259_0 := bcl HB hx259_0
          replace hx259_1 := bcl HB hx259_1
          replace p259 := eq_true p259
          replace q259 := eq_true q259
          have p260 : 0 ≤ (x18_1 : Int) := of_decide_eq_true (by first | (with_reducible assumption) | assumption)
          have q260 : x18_1 < (l0.length : Int) := of_decide_eq_true (by first | (with_reducible assumption) | assumption)
          obtain ⟨ad260, e260, hx260_0, hx260_1⟩ := at_T32 HR0.out x18_1 p260 q260
          obtain rfl : ad259 = ad260 := (by injection e260)
          replace hx260_0 := bcl HB hx260_0
          replace hx260_1 := bcl HB hx260_1
          replace p260 := eq_true p260
          replace q260 := eq_true q260
          try go_wp2
          have n0_ := AX (Kd.R_drew HO_7.out)
          have n1_ := AX (below_drew1 HB.out)
          clear HO_7
          clear HB
          have HO_7 := n0_
          have HB := n1_
          clear n0_ n1_
          have p261 : 0 ≤ (x18_1 : Int) := of_decide_eq_true (by first | (with_reducible assumption) | assumption)
          have q261 : x18_1 < (l0.length : Int) := of_decide_eq_true (by first | (with_reducible assumption) | assumption)
          obtain ⟨ad261, e261, hx261_0, hx261_1⟩ := at_T32 HR0.out x18_1 p261 q261
          have hw261_1 := hx261_1
          have hw261_0 := hx261_0
          obtain rfl : ad259 = ad261 := (by injection e261)
          replace hx261_0 := bcl HB hx261_0
          replace hx261_1 := bcl HB hx261_1
          replace p261 := eq_true p261
          replace q261 := eq_true q261
          have p262 : 0 ≤ (x18_1 : Int) := of_decide_eq_true (by first | (with_reducible assumption) | assumption)
          have q262 : x18_1 < (l0.length : Int) := of_decide_eq_true (by first | (with_reducible assumption) | assumption)
          obtain ⟨ad262, e262, hx262_0, hx262_1⟩ := at_T32 HR0.out x18_1 p262 q262
          have hw262_1 := hx262_1
          have hw262_0 := hx262_0
          obtain rfl : ad259 = ad262 := (by injection e262)
          replace hx262_0 := bcl HB hx262_0
          replace hx262_1 := bcl HB hx262_1
          replace p262 := eq_true p262
          replace q262 := eq_true q262
          refine start_ (n := 17) (S := fun w' => w'.cell? (ad259.add ((x18_1).toNat * 2)) = some (.int .i64 ((rd_T32 l0 x18_1).f0)) ∧ w'.cell? ⟨(ad259.add ((x18_1).toNat * 2)).block, (ad259.add ((x18_1).toNat * 2)).off + 1, none⟩ = some (.int .i64 ((rd_T32 l0 x18_1).f1)) ∧ w'.cell? (ad259.add ((x18_1).toNat * 2)) = some (.int .i64 ((rd_T32 l0 x18_1).f0)) ∧ w'.cell? ⟨(ad259.add ((x18_1).toNat * 2)).block, (ad259.add ((x18_1).toNat * 2)).off + 1, none⟩ = some (.int .i64 ((rd_T32 l0 x18_1).f1))) (ds := []) #[false, false, false, false, false, false, false, false, false, false, false, false, false, false, false, false, false] (by kernel_rfl) rfl rfl ⟨(bcl HB hw261_0), (bcl HB hw261_1), (bcl HB hw262_0), (bcl HB hw262_1)⟩ (fun hHeld => ?_); refine with_tabW pylonref19_Take.tab13 pylonref19_Take.bits13 (fun HT_ HW_ => ?_)
          generalize wr.drew = w14 at HO_7 HB hx261_0 hx261_1 hx262_0 hx262_1 hHeld ⊢
          refine pure_ (i := 0) (N := some 40) (v := ?_) (a' := ?_) #[true, false, false, false, false, false, false, false, false, false, false, false, false, false, false, false, false] rfl rfl (any_of HT_.out (by kernel_rfl)) (fun _ _ _ h => h) (Or.inl ⟨by rfl, ?_⟩) ?_ ?_
          rotate_left
          ·intro w'
           go_simp
           with_reducible rfl
          rotate_left
          ·simp only [Act.put, List.setIfInBounds_toArray, List.set_cons_zero, List.set_cons_succ, i64_w, i32_w]
           rfl
          refine pure_ (i := 1) (N := some 41) (v := ?_) (a' := ?_) #[true, true, false, false, false, false, false, false, false, false, false, false, false, false, false, false, false] rfl rfl (any_of HT_.out (by kernel_rfl)) (fun _ _ _ h => h) (Or.inl ⟨by rfl, ?_⟩) ?_ ?_
          rotate_left
          ·intro w'
           go_simp
           with_reducible rfl
          rotate_left
          ·simp only [Act.put, List.setIfInBounds_toArray, List.set_cons_zero, List.set_cons_succ, i64_w, i32_w]
           rfl
          refine pure_ (i := 2) (N := some 42) (v := ?_) (a' := ?_) #[true, true, true, false, false, false, false, false, false, false, false, false, false, false, false, false, false] rfl rfl (any_of HT_.out (by kernel_rfl)) (fun _ _ _ h => h) (Or.inl ⟨by rfl, ?_⟩) ?_ ?_
          rotate_left
          ·intro w'
           go_simp
           with_reducible rfl
          rotate_left
          ·simp only [Act.put, List.setIfInBounds_toArray, List.set_cons_zero, List.set_cons_succ, i64_w, i32_w]
           rfl
          refine pure_ (i := 3) (N := some 43) (v := ?_) (a' := ?_) #[true, true, true, true, false, false, false, false, false, false, false, false, false, false, false, false, false] rfl rfl (any_of HT_.out (by kernel_rfl)) (fun _ _ _ h => h) (Or.inl ⟨by rfl, ?_⟩) ?_ ?_
          rotate_left
          ·intro w'
           go_simp
           with_reducible rfl
          rotate_left
          ·simp only [Act.put, List.setIfInBounds_toArray, List.set_cons_zero, List.set_cons_succ, i64_w, i32_w]
           rfl
          refine pure_ (i := 4) (N := some 44) (v := ?_) (a' := ?_) #[true, true, true, true, true, false, false, false, false, false, false, false, false, false, false, false, false] rfl rfl (any_of HT_.out (by kernel_rfl)) (fun _ _ _ h => h) (Or.inl ⟨by rfl, ?_⟩) ?_ ?_
          rotate_left
          ·intro w'
           go_simp
           with_reducible rfl
          rotate_left
          ·simp only [Act.put, List.setIfInBounds_toArray, List.set_cons_zero, List.set_cons_succ, i64_w, i32_w]
           rfl
          refine pure_ (i := 6) (N := some 46) (v := ?_) (a' := ?_) #[true, true, true, true, true, false, true, false, false, false, false, false, false, false, false, false, false] rfl rfl (any_of HT_.out (by kernel_rfl)) (fun _ _ _ h => h) (Or.inl ⟨by rfl, ?_⟩) ?_ ?_
          rotate_left
          ·intro w'
           go_simp
           with_reducible rfl
          rotate_left
          ·simp only [Act.put, List.setIfInBounds_toArray, List.set_cons_zero, List.set_cons_succ, i64_w, i32_w]
           rfl
          refine pure_ (i := 8) (N := some 48) (v := ?_) (a' := ?_) #[true, true, true, true, true, false, true, false, true, false, false, false, false, false, false, false, false] rfl rfl (any_of HT_.out (by kernel_rfl)) (fun _ _ _ h => h) (Or.inl ⟨by rfl, ?_⟩) ?_ ?_
          rotate_left
          ·intro w'
           go_simp
           with_reducible rfl
          rotate_left
          ·simp only [Act.put, List.setIfInBounds_toArray, List.set_cons_zero, List.set_cons_succ, i64_w, i32_w]
           rfl
          refine pure_ (i := 9) (N := some 49) (v := ?_) (a' := ?_) #[true, true, true, true, true, false, true, false, true, true, false, false, false, false, false, false, false] rfl rfl (any_of HT_.out (by kernel_rfl)) (fun _ _ _ h => h) (Or.inl ⟨by rfl, ?_⟩) ?_ ?_
          rotate_left
          ·intro w'
           go_simp
           with_reducible rfl
          rotate_left
          ·simp only [Act.put, List.setIfInBounds_toArray, List.set_cons_zero, List.set_cons_succ, i64_w, i32_w]
           rfl
          refine pure_ (i := 10) (N := some 50) (v := ?_) (a' := ?_) #[true, true, true, true, true, false, true, false, true, true, true, false, false, false, false, false, false] rfl rfl (any_of HT_.out (by kernel_rfl)) (fun _ _ _ h => h) (Or.inl ⟨by rfl, ?_⟩) ?_ ?_
          rotate_left
          ·intro w'
           go_simp
           with_reducible rfl
          rotate_left
          ·simp only [Act.put, List.setIfInBounds_toArray, List.set_cons_zero, List.set_cons_succ, i64_w, i32_w]
           rfl
          refine pure_ (i := 11) (N := some 51) (v := ?_) (a' := ?_) #[true, true, true, true, true, false, true, false, true, true, true, true, false, false, false, false, false] rfl rfl (any_of HT_.out (by kernel_rfl)) (fun _ _ _ h => h) (Or.inl ⟨by rfl, ?_⟩) ?_ ?_
          rotate_left
          ·intro w'
           go_simp
           with_reducible rfl
          rotate_left
          ·simp only [Act.put, List.setIfInBounds_toArray, List.set_cons_zero, List.set_cons_succ, i64_w, i32_w]
           rfl
          refine take_ (i := 5) (N := some 45) (v := ?_) (a' := ?_) #[true, true, true, true, true, true, true, false, true, true, true, true, false, false, false, false, false] rfl rfl (take_ofW HT_.out HW_.out (by kernel_rfl)) (fun _ _ _ h => h) (Or.inl ⟨by rfl, ?_⟩) hHeld ?_ ?_
          rotate_left
          ·rintro w' ⟨s0, s1, s2, s3⟩
           go_simp
           with_reducible rfl
          rotate_left
          ·simp only [Act.put, List.setIfInBounds_toArray, List.set_cons_zero, List.set_cons_succ, i64_w, i32_w]
           rfl
          refine pure_ (i := 7) (N := some 47) (v := ?_) (a' := ?_) #[true, true, true, true, true, true, true, true, true, true, true, true, false, false, false, false, false] rfl rfl (any_of HT_.out (by kernel_rfl)) (fun _ _ _ h => h) (Or.inl ⟨by rfl, ?_⟩) ?_ ?_
          rotate_left
          ·intro w'
           go_simp
           with_reducible rfl
          rotate_left
          ·simp only [Act.put, List.setIfInBounds_toArray, List.set_cons_zero, List.set_cons_succ, i64_w, i32_w]
           rfl
          refine take_ (i := 12) (N := some 52) (v := ?_) (a' := ?_) #[true, true, true, true, true, true, true, true, true, true, true, true, true, false, false, false, false] rfl rfl (take_ofW HT_.out HW_.out (by kernel_rfl)) (fun _ _ _ h => h) (Or.inl ⟨by rfl, ?_⟩) hHeld ?_ ?_
          rotate_left
          ·rintro w' ⟨s0, s1, s2, s3⟩
           go_simp
           with_reducible rfl
          rotate_left
          ·simp only [Act.put, List.setIfInBounds_toArray, List.set_cons_zero, List.set_cons_succ, i64_w, i32_w]
           rfl
          refine pure_ (i := 13) (N := some 53) (v := ?_) (a' := ?_) #[true, true, true, true, true, true, true, true, true, true, true, true, true, true, false, false, false] rfl rfl (any_of HT_.out (by kernel_rfl)) (fun _ _ _ h => h) (Or.inl ⟨by rfl, ?_⟩) ?_ ?_
          rotate_left
          ·intro w'
           go_simp
           with_reducible rfl
          rotate_left
          ·simp only [Act.put, List.setIfInBounds_toArray, List.set_cons_zero, List.set_cons_succ, i64_w, i32_w]
           rfl
          refine one_ (i := 14) (N := some 54) #[true, true, true, true, true, true, true, true, true, true, true, true, true, true, true, false, false] rfl rfl (one_of HT_.out (by kernel_rfl)) (by decide) (fun K hK => ?_)
          refine value_ (w1 := ?_) (v := ?_) (by rfl) rfl ?_ ?_
          rotate_left 2
          ·go_simp
           constructor
           ·rfl
           ·rfl
          refine hK.out _ _ ⟨(World.cell?_alloc_lt _ _ _ (World.block_lt_of_cell? _ _ ((bcl HB hw261_0)))).trans ((bcl HB hw261_0)), (World.cell?_alloc_lt _ _ _ (World.block_lt_of_cell? _ _ ((bcl HB hw261_1)))).trans ((bcl HB hw261_1)), (World.cell?_alloc_lt _ _ _ (World.block_lt_of_cell? _ _ ((bcl HB hw262_0)))).trans ((bcl HB hw262_0)), (World.cell?_alloc_lt _ _ _ (World.block_lt_of_cell? _ _ ((bcl HB hw262_1)))).trans ((bcl HB hw262_1))⟩ (fun hHeld => ?_)
          clear hK K
          refine norm_ (a' := ?_) ?_ ?_
          rotate_left
          ·show Act.put _ (some 54) _ = _
           simp only [Act.put, List.setIfInBounds_toArray, List.set_cons_zero, List.set_cons_succ, i64_w, i32_w]
           rfl
          refine one_ (i := 15) (N := some 55) #[true, true, true, true, true, true, true, true, true, true, true, true, true, true, true, true, false] rfl rfl (one_of HT_.out (by kernel_rfl)) (by decide) (fun K hK => ?_)
          refine Kd.R_append_step k32 (w0 := w) w.heap.size (by rfl) (.tmp 40) (.tmp 54) 22 32 (.agg #[(.int .i64 0), (.int .i64 0)]) 16 rfl Try.underlying22 info32 rfl (by decide) (by omega) u7 x7_1 (⟨wrap64 (((rd_T32 l0 x18_1).f0) - (ji11)), (rd_T32 l0 x18_1).f1⟩ : S32) [.int .i64 (wrap64 (((rd_T32 l0 x18_1).f0) - (ji11))), .int .i64 ((rd_T32 l0 x18_1).f1)] (fun _ => True) (fun _ => False) rfl rfl ?aP (fun _ hk => hk.elim) ?aF ?aO ?aB ?aS ?aL ?_
          (case aP => exact k32_mkM _ _ _ (⟨wrap64 (((rd_T32 l0 x18_1).f0) - (ji11)), (rd_T32 l0 x18_1).f1⟩ : S32))
          (case aB => exact bw)
          (case aF => exact (fun _ _ => trivial))
          (case aO => exact (kr HO_7))
          (case aS => exact (below_size bw))
          (case aL => have := LMc13.out; omega)
          intro v264 w15 ho hb hg hat
          rw [← Ny263.out] at ho
          have n0_ := AX (hb)
          have n1_ := AX (ho)
          clear HB
          clear HO_7
          have HB := n0_
          have HO265 := n1_
          clear n0_ n1_
          clear ho hb hg hat
          refine hK.out _ _ ⟨(bcl HB hw261_0), (bcl HB hw261_1), (bcl HB hw262_0), (bcl HB hw262_1)⟩ (fun hHeld => ?_)
          clear hK K
          refine norm_ (a' := ?_) ?_ ?_
          rotate_left
          ·show Act.put _ (some 55) _ = _
           simp only [Act.put, List.setIfInBounds_toArray, List.set_cons_zero, List.set_cons_succ, i64_w, i32_w]
           rfl
          refine pure_ (i := 16) (N := some 7) (v := ?_) (a' := ?_) #[true, true, true, true, true, true, true, true, true, true, true, true, true, true, true, true, true] rfl rfl (any_of HT_.out (by kernel_rfl)) (fun _ _ _ h => h) (Or.inl ⟨by rfl, ?_⟩) ?_ ?_
          rotate_left
          ·intro w'
           go_simp
           with_reducible rfl
          rotate_left
          ·simp only [Act.put, List.setIfInBounds_toArray, List.set_cons_zero, List.set_cons_succ, i64_w, i32_w]
           rfl
          refine done_ (done_of HT_.out (by kernel_rfl)) ?_
          try go_wp2
          go_roundg k1
          case measure => have := HK1.out; omega
          case rel => exact ⟨(y263), (wrap64 (x8_1 + (ji11))), (wrap64 (x18_1 + 1)), (by first | rfl | (simp; done) | (simp only [← hji11] <;> (first | rfl | simp)) | (simp [*]; done)), (by first | rfl | (simp; done) | (simp [*]; done)), H', ⟨by have := HK1.out; omega⟩, ⟨kr HO265⟩, ⟨bw⟩⟩
         ·rw [if_neg c13] at H
          exact absurd H (by simp)
        ·rw [if_neg c12] at H
         have c12b0 : decide ((ji11) < ((rd_T32 l0 x18_1).f0)) = false := decide_eq_false c12
         clear c12
         have H' := AX H
         clear H
         have p259 : 0 ≤ (x18_1 : Int) := of_decide_eq_true (by first | (with_reducible assumption) | assumption)
         have q259 : x18_1 < (l0.length : Int) := of_decide_eq_true (by first | (with_reducible assumption) | assumption)
         obtain ⟨ad259, e259, hx259_0, hx259_1⟩ := at_T32 HR0.out x18_1 p259 q259
         cases e259
         replace hx259_0 := bcl HB hx259_0
         replace hx259_1 := bcl HB hx259_1
         replace p259 := eq_true p259
         replace q259 := eq_true q259
         have p260 : 0 ≤ (x18_1 : Int) := of_decide_eq_true (by first | (with_reducible assumption) | assumption)
         have q260 : x18_1 < (l0.length : Int) := of_decide_eq_true (by first | (with_reducible assumption) | assumption)
         obtain ⟨ad260, e260, hx260_0, hx260_1⟩ := at_T32 HR0.out x18_1 p260 q260
         obtain rfl : ad259 = ad260 := (by injection e260)
         replace hx260_0 := bcl HB hx260_0
         replace hx260_1 := bcl HB hx260_1
         replace p260 := eq_true p260
         replace q260 := eq_true q260
         go_wp2
         go_roundg k1
         case measure => have := HK1.out; omega
         case rel => exact ⟨(x7_1), (wrap64 (x8_1 + (ji11))), (wrap64 (x18_1 + 1)), (by first | rfl | (simp; done) | (simp only [← hji11] <;> (first | rfl | simp)) | (simp [*]; done)), (by first | rfl | (simp; done) | (simp [*]; done)), H', ⟨by have := HK1.out; omega⟩, ⟨kr HO_7⟩, ⟨bw⟩⟩
       ·rw [if_neg c10] at H
        exact absurd H (by simp)
      ·rw [if_neg c9] at H
       exact absurd H (by simp)
     ·rw [if_neg c8] at H
      have c8b0 : decide (x18_1 < (l0.length : Int)) = false := decide_eq_false c8
      clear c8
      simp only [Option.some.injEq, Prod.mk.injEq] at H
      obtain ⟨rfl, rfl, rfl⟩ := H
      go_wp2
      go_ret3
      exact ⟨_, by first | rfl | (simp [errW_none, errW_some] <;> rfl) | (simp [*, errW_none, errW_some] <;> rfl), kr HO_7, bw⟩
 ·rw [if_neg c4] at H
  have c4b0 : (t258 == 0) = false := beq_eq_false_iff_ne.mpr c4
  have c4b1 : (t258 != 0) = true := bne_iff_ne.mpr c4
  simp only [Option.some.injEq, Prod.mk.injEq] at H
  obtain ⟨rfl, rfl, rfl⟩ := H
  go_enter Try.func18, Try.ntmps18
  go_wp2_with (first | ((with_reducible refine gate_callee (f := 11) rfl ?_); refine gL (some 12) Try.func11 #[.slice A0 l0.length c0] ?_; (with_reducible refine (pylonref19_Check.calls k _ _ l0 t258 _ ?side1 ?side2 A3.out).mono ?_); (case side1 => repeat (first | exact HR0.out | (with_reducible refine Kd.C_alloc ?_ _) | (with_reducible refine Kd.C_drewN ?_ _) | (with_reducible refine Kd.C_drew ?_))); (case side2 => exact HC0.out); rintro e w16 ⟨rfl, hb⟩; refine ⟨_, rfl, ?_⟩; replace HB := AX (below_step bw hb); (try clear hb); (try clear hb2); (try clear hk); (try clear hi)))
  go_ret3
  exact ⟨_, by first | rfl | (simp [errW_none, errW_some] <;> rfl) | (simp [*, errW_none, errW_some] <;> rfl), by first | exact Kd.R_nil _ _ _ _ _ | exact Kd.N_nil _ _ _ _ _ | exact Kd.V_nil _ _ _ _ _ | exact Kd.Q_nil _ _ _ _ _ | exact Kd.S_nil _ _ _ _ _, bw⟩

end Go.Proofs.Ytpogcehbciacdaa.PX
