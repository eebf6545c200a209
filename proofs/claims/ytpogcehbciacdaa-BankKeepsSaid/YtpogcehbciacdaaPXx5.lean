/- Functions of the program as plain Lean functions, each with a proof that the call in the machine answers just what the plain function says; condition: the plain function answers at all. -/
import Derived.Test.YtpogcehbciacdaaPXx0
import Derived.Test.YtpogcehbciacdaaPXx3
namespace Go.Proofs.Ytpogcehbciacdaa.PX
open Go.RowKit Go.Proofs.YtpogcehbciacdaaW.PrintWords Go.Proofs.YtpogcehbciacdaaW.PrintLast Go.Proofs.YtpogcehbciacdaaW.PrintMore
attribute [local go_sem] max2_int min2_int max_two min_two max_three min_three max_four min_four   -- for this text's walks alone
set_option linter.unusedVariables false
set_option linter.unusedSimpArgs false

/-! ### pylonref19_Age: function 16 -/
mutual
def pylonref19_Age.j0 : Nat → List (S32) → Int → Bool → Option ((List (S32)) × Int × Int)
 | 0, _, _, _ => none
 | k + 1, x0, x1, x20 => if x20 = true then (some (([] : List (S32)), 0, 8)) else (pylonref19_Age.l0 k x0 x1 ([] : List (S32)) 0 (x0.length : Int) 0)
def pylonref19_Age.l0 : Nat → List (S32) → Int → List (S32) → Int → Int → Int → Option ((List (S32)) × Int × Int)
 | 0, _, _, _, _, _, _ => none
 | k + 1, x0, x1, x7, x8, x22, x23 => if x23 < x22 then (if 0 ≤ x23 then (if x23 < (x0.length : Int) then (if (wrap64 (((rd_T32 x0 x23).f1) + 1)) > x1 then (pylonref19_Age.l0 k x0 x1 x7 (wrap64 (x8 + ((rd_T32 x0 x23).f0))) x22 (wrap64 (x23 + 1))) else (if x7.length < 8796093022208 then (pylonref19_Age.l0 k x0 x1 (x7 ++ [(⟨(rd_T32 x0 x23).f0, wrap64 (((rd_T32 x0 x23).f1) + 1)⟩ : S32)]) x8 x22 (wrap64 (x23 + 1))) else (none))) else (none)) else (none)) else (some (x7, x8, 0))
end
def pylonref19_Age.f (k : Nat) (l0 : List (S32)) (a1 : Int) : Option ((List (S32)) × Int × Int) := (pylonref19_Check.f k l0).bind fun t237 => (if t237 = 0 then (if a1 < 0 then (pylonref19_Age.j0 k l0 a1 true) else (pylonref19_Age.j0 k l0 a1 (decide (a1 > 36)))) else (pylonref19_Age.j0 k l0 a1 true))
theorem pylonref19_Age.mono_l : ∀ k, (∀ y0 y1 y2, LeO (pylonref19_Age.j0 k y0 y1 y2) (pylonref19_Age.j0 (k + 1) y0 y1 y2)) ∧ (∀ y0 y1 y2 y3 y4 y5, LeO (pylonref19_Age.l0 k y0 y1 y2 y3 y4 y5) (pylonref19_Age.l0 (k + 1) y0 y1 y2 y3 y4 y5))
 | 0 => ⟨fun _ _ _ r h => by simp [pylonref19_Age.j0] at h, fun _ _ _ _ _ _ r h => by simp [pylonref19_Age.l0] at h⟩
 | k + 1 => by
  obtain ⟨ih0, ih1⟩ := pylonref19_Age.mono_l k
  refine ⟨?_, ?_⟩
  ·intro y0 y1 y2
   unfold pylonref19_Age.j0
   repeat' first
   | (with_reducible exact ih0 _ _ _)
   | (with_reducible exact ih1 _ _ _ _ _ _)
   | (with_reducible exact pylonref19_Check.mono _ _)
   | (with_reducible exact LeO.refl _)
   | (with_reducible exact LeO.none _)
   | (with_reducible refine LeO.ite ?_ ?_)
   | (with_reducible refine LeO.bind ?_ (fun _ => ?_))
  ·intro y0 y1 y2 y3 y4 y5
   unfold pylonref19_Age.l0
   repeat' first
   | (with_reducible exact ih0 _ _ _)
   | (with_reducible exact ih1 _ _ _ _ _ _)
   | (with_reducible exact pylonref19_Check.mono _ _)
   | (with_reducible exact LeO.refl _)
   | (with_reducible exact LeO.none _)
   | (with_reducible refine LeO.ite ?_ ?_)
   | (with_reducible refine LeO.bind ?_ (fun _ => ?_))
theorem pylonref19_Age.mono : ∀ a0 a1 k, LeO (pylonref19_Age.f k a0 a1) (pylonref19_Age.f (k + 1) a0 a1) := by
 intro a0 a1 k
 obtain ⟨ih0, ih1⟩ := pylonref19_Age.mono_l k
 unfold pylonref19_Age.f
 repeat' first
   | (with_reducible exact ih0 _ _ _)
   | (with_reducible exact ih1 _ _ _ _ _ _)
   | (with_reducible exact pylonref19_Check.mono _ _)
   | (with_reducible exact LeO.refl _)
   | (with_reducible exact LeO.none _)
   | (with_reducible refine LeO.ite ?_ ?_)
   | (with_reducible refine LeO.bind ?_ (fun _ => ?_))
def pylonref19_Age.T10 : Bool × List (List Nat × List Nat) := (true, [([], []), ([], []), ([], []), ([1, 2], [1, 2]), ([3], [3]), ([4], [4]), ([], []), ([], []), ([6, 7], [6, 7]), ([8], [8]), ([9], [9]), ([10], [10]), ([5, 11], [5, 11]), ([12], [12]), ([0, 13], [0, 13]), ([14, 14, 0, 1, 2, 3, 4, 5, 6, 7, 8, 9, 10, 11, 12, 13, 14], [0, 14])])
def pylonref19_Age.B10 : List Nat := [0, 0, 0, 6, 14, 30, 0, 0, 192, 448, 960, 1984, 4094, 8190, 16383, 32767]
theorem pylonref19_Age.tab10 : rtab .any (opsOf Try.f16 10) = pylonref19_Age.T10 := by kernel_rfl
theorem pylonref19_Age.bits10 : waitsOk pylonref19_Age.T10.2 pylonref19_Age.B10 = true := by kernel_rfl
set_option maxHeartbeats 8000000 in
set_option maxRecDepth 100000 in
theorem pylonref19_Age.calls (k : Nat) (A0 : Option Addr) (c0 : Nat) (l0 : List (S32)) (a1 : Int) (r1 : List (S32)) (r2 : Int) (r3 : Int) (w : World) (hr0 : Kd.C k32 w A0 l0.length l0) (hc0 : l0.length ≤ c0) (h : pylonref19_Age.f k l0 a1 = some (r1, r2, r3)) :
  Calls Try.prog 16 #[.slice A0 l0.length c0, .int .i64 a1] w fun e w' => ∃ v0_ : Value, e = .returned (.tuple #[v0_, .int .i64 r2, .int .i64 r3]) ∧ Kd.R k32 32 w' w.heap.size (fun _ => True) v0_ r1 ∧ Below w.heap.size w w' := by
 have hu32 := Try.underlying32
 have HR0 := AX hr0
 have HC0 := AX hc0
 clear hr0 hc0
 have HB := AX (Below.refl w.heap.size w)
 have H : ((pylonref19_Check.f k l0).bind fun t237 => (if t237 = 0 then (if a1 < 0 then (pylonref19_Age.j0 k l0 a1 true) else (pylonref19_Age.j0 k l0 a1 (decide (a1 > 36)))) else (pylonref19_Age.j0 k l0 a1 true))) = some (r1, r2, r3) := h
 clear h
 have HC3 := AX H
 clear H
 go_enter Try.func16, Try.ntmps16
 go_upto_region 1 with (fail)
 go_cut [20] (fun v20 wc => ∃ (kq : Nat) (x20_2 : Bool), v20 = .bool x20_2 ∧ Aside0 (pylonref19_Age.j0 kq l0 a1 x20_2 = some (r1, r2, r3)) ∧ Aside0 (kq ≤ k) ∧ Aside0 (Below w.heap.size w wc))
 case first =>
  have H := HC3.out
  clear HC3
  replace H := Option.bind_eq_some_iff.mp H
  obtain ⟨t237, A40, H⟩ := H
  replace H : (if t237 = 0 then (if a1 < 0 then (pylonref19_Age.j0 k l0 a1 true) else (pylonref19_Age.j0 k l0 a1 (decide (a1 > 36)))) else (pylonref19_Age.j0 k l0 a1 true)) = some (r1, r2, r3) := H
  have A4 := AX A40
  clear A40
  by_cases c5 : t237 = 0
  ·rw [if_pos c5] at H
   have c5b0 : (t237 == 0) = true := beq_iff_eq.mpr c5
   have c5b1 : (t237 != 0) = false := bne_eq_false_iff_eq.mpr c5
   clear c5
   (first | rw [c5b0] | (simp only [i64_w, i32_w]; rw [c5b0]) | skip)
   by_cases c6 : a1 < 0
   ·rw [if_pos c6] at H
    have c6b0 : decide (a1 < 0) = true := decide_eq_true c6
    clear c6
    have H' := AX H
    clear H
    go_wp2_with (first | ((with_reducible refine gate_callee (f := 11) rfl ?_); refine gL (some 11) Try.func11 #[.slice A0 l0.length c0] ?_; (with_reducible refine (pylonref19_Check.calls k _ _ l0 t237 _ ?side1 ?side2 A4.out).mono ?_); (case side1 => repeat (first | exact (Kd.C_below HR0.out HB.out) | (with_reducible refine Kd.C_alloc ?_ _) | (with_reducible refine Kd.C_drewN ?_ _) | (with_reducible refine Kd.C_drew ?_))); (case side2 => exact HC0.out); rintro e w7 ⟨rfl, hb⟩; refine ⟨_, rfl, ?_⟩; replace HB := AX (below_step bw hb); (try clear hb); (try clear hb2); (try clear hk); (try clear hi)))
    go_meet
    case rel => exact ⟨_, (true), (by first | rfl | (simp; done) | (simp [*]; done)), H', ⟨by first | omega | exact Nat.le_refl _⟩, ⟨bw⟩⟩
   ·rw [if_neg c6] at H
    have c6b0 : decide (a1 < 0) = false := decide_eq_false c6
    clear c6
    have H' := AX H
    clear H
    go_wp2_with (first | ((with_reducible refine gate_callee (f := 11) rfl ?_); refine gL (some 11) Try.func11 #[.slice A0 l0.length c0] ?_; (with_reducible refine (pylonref19_Check.calls k _ _ l0 t237 _ ?side1 ?side2 A4.out).mono ?_); (case side1 => repeat (first | exact (Kd.C_below HR0.out HB.out) | (with_reducible refine Kd.C_alloc ?_ _) | (with_reducible refine Kd.C_drewN ?_ _) | (with_reducible refine Kd.C_drew ?_))); (case side2 => exact HC0.out); rintro e w8 ⟨rfl, hb⟩; refine ⟨_, rfl, ?_⟩; replace HB := AX (below_step bw hb); (try clear hb); (try clear hb2); (try clear hk); (try clear hi)))
    go_meet
    case rel => exact ⟨_, (decide (a1 > 36)), (by first | rfl | (simp; done) | (simp [*]; done)), H', ⟨by first | omega | exact Nat.le_refl _⟩, ⟨bw⟩⟩
  ·rw [if_neg c5] at H
   have c5b0 : (t237 == 0) = false := beq_eq_false_iff_ne.mpr c5
   have c5b1 : (t237 != 0) = true := bne_iff_ne.mpr c5
   (first | rw [c5b0] | (simp only [i64_w, i32_w]; rw [c5b0]) | skip)
   have H' := AX H
   clear H
   go_wp2_with (first | ((with_reducible refine gate_callee (f := 11) rfl ?_); refine gL (some 11) Try.func11 #[.slice A0 l0.length c0] ?_; (with_reducible refine (pylonref19_Check.calls k _ _ l0 t237 _ ?side1 ?side2 A4.out).mono ?_); (case side1 => repeat (first | exact (Kd.C_below HR0.out HB.out) | (with_reducible refine Kd.C_alloc ?_ _) | (with_reducible refine Kd.C_drewN ?_ _) | (with_reducible refine Kd.C_drew ?_))); (case side2 => exact HC0.out); rintro e w9 ⟨rfl, hb⟩; refine ⟨_, rfl, ?_⟩; replace HB := AX (below_step bw hb); (try clear hb); (try clear hb2); (try clear hk); (try clear hi)))
   go_meet
   case rel => exact ⟨_, (true), (by first | rfl | (simp; done) | (simp [*]; done)), H', ⟨by first | omega | exact Nat.le_refl _⟩, ⟨bw⟩⟩
 case rest =>
  clear HC3
  obtain ⟨kq, x20_2, rfl, HA, HJ2, HB⟩ := hcut
  cases kq with
  | zero => exact absurd HA.out (by simp [pylonref19_Age.j0])
  | succ kj2 =>
   have H := HA.out
   clear HA
   simp only [pylonref19_Age.j0] at H
   by_cases c10 : x20_2 = true
   ·subst c10
    have H1 : (some (([] : List (S32)), 0, 8)) = some (r1, r2, r3) := by rw [if_pos rfl] at H; exact H
    clear H
    have H := H1
    clear H1
    simp only [Option.some.injEq, Prod.mk.injEq] at H
    obtain ⟨rfl, rfl, rfl⟩ := H
    go_wp2
    go_ret3
    exact ⟨_, by first | rfl | (simp [errW_none, errW_some] <;> rfl) | (simp [*, errW_none, errW_some] <;> rfl), by first | exact Kd.R_nil _ _ _ _ _ | exact Kd.N_nil _ _ _ _ _ | exact Kd.V_nil _ _ _ _ _ | exact Kd.Q_nil _ _ _ _ _ | exact Kd.S_nil _ _ _ _ _, bw⟩
   ·replace c10 := Bool.eq_false_iff.mpr c10
    subst c10
    have H1 : (pylonref19_Age.l0 kj2 l0 a1 ([] : List (S32)) 0 (l0.length : Int) 0) = some (r1, r2, r3) := by rw [if_neg (show ¬ (false = true) by decide)] at H; exact H
    clear H
    have H := H1
    clear H1
    have H' := AX H
    clear H
    go_wp2
    go_loopg [7, 8, 23] kj2 (fun kq v7 v8 v23 w' => ∃ (x7_2 : List (S32)) (x8_2 : Int) (x23_2 : Int), v8 = .int .i64 x8_2 ∧ v23 = .int .i64 x23_2 ∧ Aside0 (pylonref19_Age.l0 kq l0 a1 x7_2 x8_2 (l0.length : Int) x23_2 = some (r1, r2, r3)) ∧ Aside0 (kq ≤ kj2) ∧ Aside0 (Kd.R k32 32 w' w.heap.size (fun _ => True) v7 x7_2) ∧ Aside0 (Below w.heap.size w w'))
    case atStart => exact ⟨(([] : List (S32))), (0), (0), (by first | rfl | (simp; done) | (simp [*]; done)), (by first | rfl | (simp; done) | (simp [*]; done)), H', ⟨Nat.le_refl _⟩, ⟨by first | exact Kd.R_nil _ _ _ _ _ | exact Kd.N_nil _ _ _ _ _ | exact Kd.V_nil _ _ _ _ _ | exact Kd.Q_nil _ _ _ _ _ | exact Kd.S_nil _ _ _ _ _⟩, ⟨bw⟩⟩
    case round =>
     clear H'
     try clear c10
     obtain ⟨x7_2, x8_2, x23_2, rfl, rfl, HA, HK2, HO_7, HB⟩ := hrel
     cases gk with
     | zero => exact absurd HA.out (by simp [pylonref19_Age.l0])
     | succ k2 =>
      have H := HA.out
      clear HA
      simp only [pylonref19_Age.l0] at H
      by_cases c11 : x23_2 < (l0.length : Int)
      ·rw [if_pos c11] at H
       have c11b0 : decide (x23_2 < (l0.length : Int)) = true := decide_eq_true c11
       clear c11
       by_cases c12 : 0 ≤ x23_2
       ·rw [if_pos c12] at H
        have c12b0 : decide (0 ≤ x23_2) = true := decide_eq_true c12
        clear c12
        by_cases c13 : x23_2 < (l0.length : Int)
        ·rw [if_pos c13] at H
         have c13b0 : decide (x23_2 < (l0.length : Int)) = true := decide_eq_true c13
         clear c13
         by_cases c14 : (wrap64 (((rd_T32 l0 x23_2).f1) + 1)) > a1
         ·rw [if_pos c14] at H
          have c14b0 : decide (a1 < (wrap64 (((rd_T32 l0 x23_2).f1) + 1))) = true := decide_eq_true c14
          clear c14
          have H' := AX H
          clear H
          have p238 : 0 ≤ (x23_2 : Int) := of_decide_eq_true (by first | (with_reducible assumption) | assumption)
          have q238 : x23_2 < (l0.length : Int) := of_decide_eq_true (by first | (with_reducible assumption) | assumption)
          obtain ⟨ad238, e238, hx238_0, hx238_1⟩ := at_T32 HR0.out x23_2 p238 q238
          cases e238
          replace hx238_0 := bcl HB hx238_0
          replace hx238_1 := bcl HB hx238_1
          replace p238 := eq_true p238
          replace q238 := eq_true q238
          have p239 : 0 ≤ (x23_2 : Int) := of_decide_eq_true (by first | (with_reducible assumption) | assumption)
          have q239 : x23_2 < (l0.length : Int) := of_decide_eq_true (by first | (with_reducible assumption) | assumption)
          obtain ⟨ad239, e239, hx239_0, hx239_1⟩ := at_T32 HR0.out x23_2 p239 q239
          obtain rfl : ad238 = ad239 := (by injection e239)
          replace hx239_0 := bcl HB hx239_0
          replace hx239_1 := bcl HB hx239_1
          replace p239 := eq_true p239
          replace q239 := eq_true q239
          go_wp2
          go_roundg k2
          case measure => have := HJ2.out; have := HK2.out; omega
          case rel => exact ⟨(x7_2), (wrap64 (x8_2 + ((rd_T32 l0 x23_2).f0))), (wrap64 (x23_2 + 1)), (by first | rfl | (simp; done) | (simp [*]; done)), (by first | rfl | (simp; done) | (simp [*]; done)), H', ⟨by have := HJ2.out; have := HK2.out; omega⟩, ⟨kr HO_7⟩, ⟨bw⟩⟩
         ·rw [if_neg c14] at H
          have c14b0 : decide (a1 < (wrap64 (((rd_T32 l0 x23_2).f1) + 1))) = false := decide_eq_false c14
          clear c14
          by_cases c15 : x7_2.length < 8796093022208
          ·rw [if_pos c15] at H
           have LMc15 := AX c15
           clear c15
           obtain ⟨y242, hy242⟩ : ∃ y_ : List (S32), y_ = (x7_2 ++ [(⟨(rd_T32 l0 x23_2).f0, wrap64 (((rd_T32 l0 x23_2).f1) + 1)⟩ : S32)]) := ⟨_, rfl⟩
           replace H : (pylonref19_Age.l0 k2 l0 a1 y242 x8_2 (l0.length : Int) (wrap64 (x23_2 + 1))) = some (r1, r2, r3) := by first | (rw [hy242]; with_reducible exact H) | (have H2_ := (Option.bind_some _ _).symm.trans H; rw [hy242]; with_reducible exact H2_) | (have H2_ := (Option.bind_some _ _).symm.trans H; with_reducible exact H2_) | with_reducible exact H | (rw [hy242]; exact H) | exact H
           have Ny242 := AX hy242
           clear hy242
           have H' := AX H
           clear H
           have p238 : 0 ≤ (x23_2 : Int) := of_decide_eq_true (by first | (with_reducible assumption) | assumption)
           have q238 : x23_2 < (l0.length : Int) := of_decide_eq_true (by first | (with_reducible assumption) | assumption)
           obtain ⟨ad238, e238, hx238_0, hx238_1⟩ := at_T32 HR0.out x23_2 p238 q238
           cases e238
           replace hx238_0 := bcl HB hx238_0
           replace hx238_1 := bcl HB hx238_1
           replace p238 := eq_true p238
           replace q238 := eq_true q238
           try go_wp2
           have n0_ := AX (Kd.R_drew HO_7.out)
           have n1_ := AX (below_drew1 HB.out)
           clear HO_7
           clear HB
           have HO_7 := n0_
           have HB := n1_
           clear n0_ n1_
           have p240 : 0 ≤ (x23_2 : Int) := of_decide_eq_true (by first | (with_reducible assumption) | assumption)
           have q240 : x23_2 < (l0.length : Int) := of_decide_eq_true (by first | (with_reducible assumption) | assumption)
           obtain ⟨ad240, e240, hx240_0, hx240_1⟩ := at_T32 HR0.out x23_2 p240 q240
           have hw240_1 := hx240_1
           have hw240_0 := hx240_0
           obtain rfl : ad238 = ad240 := (by injection e240)
           replace hx240_0 := bcl HB hx240_0
           replace hx240_1 := bcl HB hx240_1
           replace p240 := eq_true p240
           replace q240 := eq_true q240
           have p241 : 0 ≤ (x23_2 : Int) := of_decide_eq_true (by first | (with_reducible assumption) | assumption)
           have q241 : x23_2 < (l0.length : Int) := of_decide_eq_true (by first | (with_reducible assumption) | assumption)
           obtain ⟨ad241, e241, hx241_0, hx241_1⟩ := at_T32 HR0.out x23_2 p241 q241
           have hw241_1 := hx241_1
           have hw241_0 := hx241_0
           obtain rfl : ad238 = ad241 := (by injection e241)
           replace hx241_0 := bcl HB hx241_0
           replace hx241_1 := bcl HB hx241_1
           replace p241 := eq_true p241
           replace q241 := eq_true q241
           refine start_ (n := 16) (S := fun w' => w'.cell? (ad238.add ((x23_2).toNat * 2)) = some (.int .i64 ((rd_T32 l0 x23_2).f0)) ∧ w'.cell? ⟨(ad238.add ((x23_2).toNat * 2)).block, (ad238.add ((x23_2).toNat * 2)).off + 1, none⟩ = some (.int .i64 ((rd_T32 l0 x23_2).f1)) ∧ w'.cell? (ad238.add ((x23_2).toNat * 2)) = some (.int .i64 ((rd_T32 l0 x23_2).f0)) ∧ w'.cell? ⟨(ad238.add ((x23_2).toNat * 2)).block, (ad238.add ((x23_2).toNat * 2)).off + 1, none⟩ = some (.int .i64 ((rd_T32 l0 x23_2).f1))) (ds := []) #[false, false, false, false, false, false, false, false, false, false, false, false, false, false, false, false] (by kernel_rfl) rfl rfl ⟨(bcl HB hw240_0), (bcl HB hw240_1), (bcl HB hw241_0), (bcl HB hw241_1)⟩ (fun hHeld => ?_); refine with_tabW pylonref19_Age.tab10 pylonref19_Age.bits10 (fun HT_ HW_ => ?_)
           generalize wr.drew = w16 at HO_7 HB hx240_0 hx240_1 hx241_0 hx241_1 hHeld ⊢
           refine pure_ (i := 0) (N := some 41) (v := ?_) (a' := ?_) #[true, false, false, false, false, false, false, false, false, false, false, false, false, false, false, false] rfl rfl (any_of HT_.out (by kernel_rfl)) (fun _ _ _ h => h) (Or.inl ⟨by rfl, ?_⟩) ?_ ?_
           rotate_left
           ·intro w'
            go_simp
            with_reducible rfl
           rotate_left
           ·simp only [Act.put, List.setIfInBounds_toArray, List.set_cons_zero, List.set_cons_succ, i64_w, i32_w]
            rfl
           refine pure_ (i := 1) (N := some 42) (v := ?_) (a' := ?_) #[true, true, false, false, false, false, false, false, false, false, false, false, false, false, false, false] rfl rfl (any_of HT_.out (by kernel_rfl)) (fun _ _ _ h => h) (Or.inl ⟨by rfl, ?_⟩) ?_ ?_
           rotate_left
           ·intro w'
            go_simp
            with_reducible rfl
           rotate_left
           ·simp only [Act.put, List.setIfInBounds_toArray, List.set_cons_zero, List.set_cons_succ, i64_w, i32_w]
            rfl
           refine pure_ (i := 2) (N := some 43) (v := ?_) (a' := ?_) #[true, true, true, false, false, false, false, false, false, false, false, false, false, false, false, false] rfl rfl (any_of HT_.out (by kernel_rfl)) (fun _ _ _ h => h) (Or.inl ⟨by rfl, ?_⟩) ?_ ?_
           rotate_left
           ·intro w'
            go_simp
            with_reducible rfl
           rotate_left
           ·simp only [Act.put, List.setIfInBounds_toArray, List.set_cons_zero, List.set_cons_succ, i64_w, i32_w]
            rfl
           refine pure_ (i := 3) (N := some 44) (v := ?_) (a' := ?_) #[true, true, true, true, false, false, false, false, false, false, false, false, false, false, false, false] rfl rfl (any_of HT_.out (by kernel_rfl)) (fun _ _ _ h => h) (Or.inl ⟨by rfl, ?_⟩) ?_ ?_
           rotate_left
           ·intro w'
            go_simp
            with_reducible rfl
           rotate_left
           ·simp only [Act.put, List.setIfInBounds_toArray, List.set_cons_zero, List.set_cons_succ, i64_w, i32_w]
            rfl
           refine pure_ (i := 4) (N := some 45) (v := ?_) (a' := ?_) #[true, true, true, true, true, false, false, false, false, false, false, false, false, false, false, false] rfl rfl (any_of HT_.out (by kernel_rfl)) (fun _ _ _ h => h) (Or.inl ⟨by rfl, ?_⟩) ?_ ?_
           rotate_left
           ·intro w'
            go_simp
            with_reducible rfl
           rotate_left
           ·simp only [Act.put, List.setIfInBounds_toArray, List.set_cons_zero, List.set_cons_succ, i64_w, i32_w]
            rfl
           refine pure_ (i := 6) (N := some 47) (v := ?_) (a' := ?_) #[true, true, true, true, true, false, true, false, false, false, false, false, false, false, false, false] rfl rfl (any_of HT_.out (by kernel_rfl)) (fun _ _ _ h => h) (Or.inl ⟨by rfl, ?_⟩) ?_ ?_
           rotate_left
           ·intro w'
            go_simp
            with_reducible rfl
           rotate_left
           ·simp only [Act.put, List.setIfInBounds_toArray, List.set_cons_zero, List.set_cons_succ, i64_w, i32_w]
            rfl
           refine pure_ (i := 7) (N := some 48) (v := ?_) (a' := ?_) #[true, true, true, true, true, false, true, true, false, false, false, false, false, false, false, false] rfl rfl (any_of HT_.out (by kernel_rfl)) (fun _ _ _ h => h) (Or.inl ⟨by rfl, ?_⟩) ?_ ?_
           rotate_left
           ·intro w'
            go_simp
            with_reducible rfl
           rotate_left
           ·simp only [Act.put, List.setIfInBounds_toArray, List.set_cons_zero, List.set_cons_succ, i64_w, i32_w]
            rfl
           refine pure_ (i := 8) (N := some 49) (v := ?_) (a' := ?_) #[true, true, true, true, true, false, true, true, true, false, false, false, false, false, false, false] rfl rfl (any_of HT_.out (by kernel_rfl)) (fun _ _ _ h => h) (Or.inl ⟨by rfl, ?_⟩) ?_ ?_
           rotate_left
           ·intro w'
            go_simp
            with_reducible rfl
           rotate_left
           ·simp only [Act.put, List.setIfInBounds_toArray, List.set_cons_zero, List.set_cons_succ, i64_w, i32_w]
            rfl
           refine pure_ (i := 9) (N := some 50) (v := ?_) (a' := ?_) #[true, true, true, true, true, false, true, true, true, true, false, false, false, false, false, false] rfl rfl (any_of HT_.out (by kernel_rfl)) (fun _ _ _ h => h) (Or.inl ⟨by rfl, ?_⟩) ?_ ?_
           rotate_left
           ·intro w'
            go_simp
            with_reducible rfl
           rotate_left
           ·simp only [Act.put, List.setIfInBounds_toArray, List.set_cons_zero, List.set_cons_succ, i64_w, i32_w]
            rfl
           refine take_ (i := 5) (N := some 46) (v := ?_) (a' := ?_) #[true, true, true, true, true, true, true, true, true, true, false, false, false, false, false, false] rfl rfl (take_ofW HT_.out HW_.out (by kernel_rfl)) (fun _ _ _ h => h) (Or.inl ⟨by rfl, ?_⟩) hHeld ?_ ?_
           rotate_left
           ·rintro w' ⟨s0, s1, s2, s3⟩
            go_simp
            with_reducible rfl
           rotate_left
           ·simp only [Act.put, List.setIfInBounds_toArray, List.set_cons_zero, List.set_cons_succ, i64_w, i32_w]
            rfl
           refine take_ (i := 10) (N := some 51) (v := ?_) (a' := ?_) #[true, true, true, true, true, true, true, true, true, true, true, false, false, false, false, false] rfl rfl (take_ofW HT_.out HW_.out (by kernel_rfl)) (fun _ _ _ h => h) (Or.inl ⟨by rfl, ?_⟩) hHeld ?_ ?_
           rotate_left
           ·rintro w' ⟨s0, s1, s2, s3⟩
            go_simp
            with_reducible rfl
           rotate_left
           ·simp only [Act.put, List.setIfInBounds_toArray, List.set_cons_zero, List.set_cons_succ, i64_w, i32_w]
            rfl
           refine pure_ (i := 11) (N := some 52) (v := ?_) (a' := ?_) #[true, true, true, true, true, true, true, true, true, true, true, true, false, false, false, false] rfl rfl (any_of HT_.out (by kernel_rfl)) (fun _ _ _ h => h) (Or.inl ⟨by rfl, ?_⟩) ?_ ?_
           rotate_left
           ·intro w'
            go_simp
            with_reducible rfl
           rotate_left
           ·simp only [Act.put, List.setIfInBounds_toArray, List.set_cons_zero, List.set_cons_succ, i64_w, i32_w]
            rfl
           refine pure_ (i := 12) (N := some 53) (v := ?_) (a' := ?_) #[true, true, true, true, true, true, true, true, true, true, true, true, true, false, false, false] rfl rfl (any_of HT_.out (by kernel_rfl)) (fun _ _ _ h => h) (Or.inl ⟨by rfl, ?_⟩) ?_ ?_
           rotate_left
           ·intro w'
            go_simp
            with_reducible rfl
           rotate_left
           ·simp only [Act.put, List.setIfInBounds_toArray, List.set_cons_zero, List.set_cons_succ, i64_w, i32_w]
            rfl
           refine one_ (i := 13) (N := some 54) #[true, true, true, true, true, true, true, true, true, true, true, true, true, true, false, false] rfl rfl (one_of HT_.out (by kernel_rfl)) (by decide) (fun K hK => ?_)
           refine value_ (w1 := ?_) (v := ?_) (by rfl) rfl ?_ ?_
           rotate_left 2
           ·go_simp
            constructor
            ·rfl
            ·rfl
           refine hK.out _ _ ⟨(World.cell?_alloc_lt _ _ _ (World.block_lt_of_cell? _ _ ((bcl HB hw240_0)))).trans ((bcl HB hw240_0)), (World.cell?_alloc_lt _ _ _ (World.block_lt_of_cell? _ _ ((bcl HB hw240_1)))).trans ((bcl HB hw240_1)), (World.cell?_alloc_lt _ _ _ (World.block_lt_of_cell? _ _ ((bcl HB hw241_0)))).trans ((bcl HB hw241_0)), (World.cell?_alloc_lt _ _ _ (World.block_lt_of_cell? _ _ ((bcl HB hw241_1)))).trans ((bcl HB hw241_1))⟩ (fun hHeld => ?_)
           clear hK K
           refine norm_ (a' := ?_) ?_ ?_
           rotate_left
           ·show Act.put _ (some 54) _ = _
            simp only [Act.put, List.setIfInBounds_toArray, List.set_cons_zero, List.set_cons_succ, i64_w, i32_w]
            rfl
           refine one_ (i := 14) (N := some 55) #[true, true, true, true, true, true, true, true, true, true, true, true, true, true, true, false] rfl rfl (one_of HT_.out (by kernel_rfl)) (by decide) (fun K hK => ?_)
           refine Kd.R_append_step k32 (w0 := w) w.heap.size (by rfl) (.tmp 41) (.tmp 54) 22 32 (.agg #[(.int .i64 0), (.int .i64 0)]) 16 rfl Try.underlying22 info32 rfl (by decide) (by omega) u7 x7_2 (⟨(rd_T32 l0 x23_2).f0, wrap64 (((rd_T32 l0 x23_2).f1) + 1)⟩ : S32) [.int .i64 ((rd_T32 l0 x23_2).f0), .int .i64 (wrap64 (((rd_T32 l0 x23_2).f1) + 1))] (fun _ => True) (fun _ => False) rfl rfl ?aP (fun _ hk => hk.elim) ?aF ?aO ?aB ?aS ?aL ?_
           (case aP => exact k32_mkM _ _ _ (⟨(rd_T32 l0 x23_2).f0, wrap64 (((rd_T32 l0 x23_2).f1) + 1)⟩ : S32))
           (case aB => exact bw)
           (case aF => exact (fun _ _ => trivial))
           (case aO => exact (kr HO_7))
           (case aS => exact (below_size bw))
           (case aL => have := LMc15.out; omega)
           intro v243 w17 ho hb hg hat
           rw [← Ny242.out] at ho
           have n0_ := AX (hb)
           have n1_ := AX (ho)
           clear HB
           clear HO_7
           have HB := n0_
           have HO244 := n1_
           clear n0_ n1_
           clear ho hb hg hat
           refine hK.out _ _ ⟨(bcl HB hw240_0), (bcl HB hw240_1), (bcl HB hw241_0), (bcl HB hw241_1)⟩ (fun hHeld => ?_)
           clear hK K
           refine norm_ (a' := ?_) ?_ ?_
           rotate_left
           ·show Act.put _ (some 55) _ = _
            simp only [Act.put, List.setIfInBounds_toArray, List.set_cons_zero, List.set_cons_succ, i64_w, i32_w]
            rfl
           refine pure_ (i := 15) (N := some 7) (v := ?_) (a' := ?_) #[true, true, true, true, true, true, true, true, true, true, true, true, true, true, true, true] rfl rfl (any_of HT_.out (by kernel_rfl)) (fun _ _ _ h => h) (Or.inl ⟨by rfl, ?_⟩) ?_ ?_
           rotate_left
           ·intro w'
            go_simp
            with_reducible rfl
           rotate_left
           ·simp only [Act.put, List.setIfInBounds_toArray, List.set_cons_zero, List.set_cons_succ, i64_w, i32_w]
            rfl
           refine done_ (done_of HT_.out (by kernel_rfl)) ?_
           try go_wp2
           go_roundg k2
           case measure => have := HJ2.out; have := HK2.out; omega
           case rel => exact ⟨(y242), (x8_2), (wrap64 (x23_2 + 1)), (by first | rfl | (simp; done) | (simp [*]; done)), (by first | rfl | (simp; done) | (simp [*]; done)), H', ⟨by have := HJ2.out; have := HK2.out; omega⟩, ⟨kr HO244⟩, ⟨bw⟩⟩
          ·rw [if_neg c15] at H
           exact absurd H (by simp)
        ·rw [if_neg c13] at H
         exact absurd H (by simp)
       ·rw [if_neg c12] at H
        exact absurd H (by simp)
      ·rw [if_neg c11] at H
       have c11b0 : decide (x23_2 < (l0.length : Int)) = false := decide_eq_false c11
       clear c11
       simp only [Option.some.injEq, Prod.mk.injEq] at H
       obtain ⟨rfl, rfl, rfl⟩ := H
       go_wp2
       go_ret3
       exact ⟨_, by first | rfl | (simp [errW_none, errW_some] <;> rfl) | (simp [*, errW_none, errW_some] <;> rfl), kr HO_7, bw⟩

/-! ### pylonref19_Balance: function 19 -/
def pylonref19_Balance.l0 : Nat → List (S32) → Int → Int → Int → Option (Int × Int)
 | 0, _, _, _, _ => none
 | k + 1, x0, x4, x10, x11 => if x11 < x10 then (if 0 ≤ x11 then (if x11 < (x0.length : Int) then (pylonref19_Balance.l0 k x0 (wrap64 (x4 + ((rd_T32 x0 x11).f0))) x10 (wrap64 (x11 + 1))) else (none)) else (none)) else (some (x4, 0))
def pylonref19_Balance.f (k : Nat) (l0 : List (S32)) : Option (Int × Int) := (pylonref19_Check.f k l0).bind fun t245 => (if t245 = 0 then (pylonref19_Balance.l0 k l0 0 (l0.length : Int) 0) else (some (0, 8)))
theorem pylonref19_Balance.mono_l : ∀ k, (∀ y0 y1 y2 y3, LeO (pylonref19_Balance.l0 k y0 y1 y2 y3) (pylonref19_Balance.l0 (k + 1) y0 y1 y2 y3))
 | 0 => fun _ _ _ _ r h => by simp [pylonref19_Balance.l0] at h
 | k + 1 => by
  have ih0 := pylonref19_Balance.mono_l k
  ·intro y0 y1 y2 y3
   unfold pylonref19_Balance.l0
   repeat' first
   | (with_reducible exact ih0 _ _ _ _)
   | (with_reducible exact pylonref19_Check.mono _ _)
   | (with_reducible exact LeO.refl _)
   | (with_reducible exact LeO.none _)
   | (with_reducible refine LeO.ite ?_ ?_)
   | (with_reducible refine LeO.bind ?_ (fun _ => ?_))
theorem pylonref19_Balance.mono : ∀ a0 k, LeO (pylonref19_Balance.f k a0) (pylonref19_Balance.f (k + 1) a0) := by
 intro a0 k
 have ih0 := pylonref19_Balance.mono_l k
 unfold pylonref19_Balance.f
 repeat' first
   | (with_reducible exact ih0 _ _ _ _)
   | (with_reducible exact pylonref19_Check.mono _ _)
   | (with_reducible exact LeO.refl _)
   | (with_reducible exact LeO.none _)
   | (with_reducible refine LeO.ite ?_ ?_)
   | (with_reducible refine LeO.bind ?_ (fun _ => ?_))
set_option maxHeartbeats 8000000 in
set_option maxRecDepth 100000 in
theorem pylonref19_Balance.calls (k : Nat) (A0 : Option Addr) (c0 : Nat) (l0 : List (S32)) (r1 : Int) (r2 : Int) (w : World) (hr0 : Kd.C k32 w A0 l0.length l0) (hc0 : l0.length ≤ c0) (h : pylonref19_Balance.f k l0 = some (r1, r2)) :
  Calls Try.prog 19 #[.slice A0 l0.length c0] w fun e w' => e = .returned (.tuple #[.int .i64 r1, .int .i64 r2]) ∧ Below w.heap.size w w' := by
 have HR0 := AX hr0
 have HC0 := AX hc0
 clear hr0 hc0
 have HB := AX (Below.refl w.heap.size w)
 have H : ((pylonref19_Check.f k l0).bind fun t245 => (if t245 = 0 then (pylonref19_Balance.l0 k l0 0 (l0.length : Int) 0) else (some (0, 8)))) = some (r1, r2) := h
 clear h
 replace H := Option.bind_eq_some_iff.mp H
 obtain ⟨t245, A20, H⟩ := H
 replace H : (if t245 = 0 then (pylonref19_Balance.l0 k l0 0 (l0.length : Int) 0) else (some (0, 8))) = some (r1, r2) := H
 have A2 := AX A20
 clear A20
 by_cases c3 : t245 = 0
 ·rw [if_pos c3] at H
  have c3b0 : (t245 == 0) = true := beq_iff_eq.mpr c3
  have c3b1 : (t245 != 0) = false := bne_eq_false_iff_eq.mpr c3
  clear c3
  have H' := AX H
  clear H
  go_enter Try.func19, Try.ntmps19
  go_wp2_with (first | ((with_reducible refine gate_callee (f := 11) rfl ?_); refine gL (some 7) Try.func11 #[.slice A0 l0.length c0] ?_; (with_reducible refine (pylonref19_Check.calls k _ _ l0 t245 _ ?side1 ?side2 A2.out).mono ?_); (case side1 => repeat (first | exact HR0.out | (with_reducible refine Kd.C_alloc ?_ _) | (with_reducible refine Kd.C_drewN ?_ _) | (with_reducible refine Kd.C_drew ?_))); (case side2 => exact HC0.out); rintro e w4 ⟨rfl, hb⟩; refine ⟨_, rfl, ?_⟩; replace HB := AX (below_step bw hb); (try clear hb); (try clear hb2); (try clear hk); (try clear hi)))
  go_loopg [4, 11] k (fun kq v4 v11 w' => ∃ (x4_1 : Int) (x11_1 : Int), v4 = .int .i64 x4_1 ∧ v11 = .int .i64 x11_1 ∧ Aside0 (pylonref19_Balance.l0 kq l0 x4_1 (l0.length : Int) x11_1 = some (r1, r2)) ∧ Aside0 (kq ≤ k) ∧ Aside0 (Below w.heap.size w w'))
  case atStart => exact ⟨(0), (0), (by first | rfl | (simp; done) | (simp [*]; done)), (by first | rfl | (simp; done) | (simp [*]; done)), H', ⟨Nat.le_refl _⟩, ⟨bw⟩⟩
  case round =>
   clear H'
   try clear c3b0 c3b1
   obtain ⟨x4_1, x11_1, rfl, rfl, HA, HK1, HB⟩ := hrel
   cases gk with
   | zero => exact absurd HA.out (by simp [pylonref19_Balance.l0])
   | succ k1 =>
    have H := HA.out
    clear HA
    simp only [pylonref19_Balance.l0] at H
    by_cases c5 : x11_1 < (l0.length : Int)
    ·rw [if_pos c5] at H
     have c5b0 : decide (x11_1 < (l0.length : Int)) = true := decide_eq_true c5
     clear c5
     by_cases c6 : 0 ≤ x11_1
     ·rw [if_pos c6] at H
      have c6b0 : decide (0 ≤ x11_1) = true := decide_eq_true c6
      clear c6
      by_cases c7 : x11_1 < (l0.length : Int)
      ·rw [if_pos c7] at H
       have c7b0 : decide (x11_1 < (l0.length : Int)) = true := decide_eq_true c7
       clear c7
       have H' := AX H
       clear H
       have p246 : 0 ≤ (x11_1 : Int) := of_decide_eq_true (by first | (with_reducible assumption) | assumption)
       have q246 : x11_1 < (l0.length : Int) := of_decide_eq_true (by first | (with_reducible assumption) | assumption)
       obtain ⟨ad246, e246, hx246_0, hx246_1⟩ := at_T32 HR0.out x11_1 p246 q246
       cases e246
       replace hx246_0 := bcl HB hx246_0
       replace hx246_1 := bcl HB hx246_1
       replace p246 := eq_true p246
       replace q246 := eq_true q246
       go_wp2
       go_roundg k1
       case measure => have := HK1.out; omega
       case rel => exact ⟨(wrap64 (x4_1 + ((rd_T32 l0 x11_1).f0))), (wrap64 (x11_1 + 1)), (by first | rfl | (simp; done) | (simp [*]; done)), (by first | rfl | (simp; done) | (simp [*]; done)), H', ⟨by have := HK1.out; omega⟩, ⟨bw⟩⟩
      ·rw [if_neg c7] at H
       exact absurd H (by simp)
     ·rw [if_neg c6] at H
      exact absurd H (by simp)
    ·rw [if_neg c5] at H
     have c5b0 : decide (x11_1 < (l0.length : Int)) = false := decide_eq_false c5
     clear c5
     simp only [Option.some.injEq, Prod.mk.injEq] at H
     obtain ⟨rfl, rfl⟩ := H
     go_wp2
     go_ret2
     exact ⟨by first | rfl | (simp [errW_none, errW_some] <;> rfl) | (simp [*, errW_none, errW_some] <;> rfl), bw⟩
 ·rw [if_neg c3] at H
  have c3b0 : (t245 == 0) = false := beq_eq_false_iff_ne.mpr c3
  have c3b1 : (t245 != 0) = true := bne_iff_ne.mpr c3
  simp only [Option.some.injEq, Prod.mk.injEq] at H
  obtain ⟨rfl, rfl⟩ := H
  go_enter Try.func19, Try.ntmps19
  go_wp2_with (first | ((with_reducible refine gate_callee (f := 11) rfl ?_); refine gL (some 7) Try.func11 #[.slice A0 l0.length c0] ?_; (with_reducible refine (pylonref19_Check.calls k _ _ l0 t245 _ ?side1 ?side2 A2.out).mono ?_); (case side1 => repeat (first | exact HR0.out | (with_reducible refine Kd.C_alloc ?_ _) | (with_reducible refine Kd.C_drewN ?_ _) | (with_reducible refine Kd.C_drew ?_))); (case side2 => exact HC0.out); rintro e w8 ⟨rfl, hb⟩; refine ⟨_, rfl, ?_⟩; replace HB := AX (below_step bw hb); (try clear hb); (try clear hb2); (try clear hk); (try clear hi)))
  go_ret2
  exact ⟨by first | rfl | (simp [errW_none, errW_some] <;> rfl) | (simp [*, errW_none, errW_some] <;> rfl), bw⟩

/-! ### pylonref19_Put: function 17 -/
def pylonref19_Put.j0 : Nat → List (S32) → Int → Bool → Option ((List (S32)) × Int)
 | 0, _, _, _ => none
 | k + 1, x0, x1, x24 => if x24 = true then (some (([] : List (S32)), 5)) else ((some (([] : List (S32)) : List (S32))).bind fun y249 => (if y249.length + x0.length < 8796093022208 then ((some (y249 ++ x0 : List (S32))).bind fun y252 => (if x1 > 0 then (if y252.length < 8796093022208 then (some ((y252 ++ [(⟨x1, 0⟩ : S32)]), 0)) else (none)) else (some (y252, 0)))) else (none)))
def pylonref19_Put.f (k : Nat) (l0 : List (S32)) (a1 : Int) : Option ((List (S32)) × Int) := (pylonref19_Balance.f k l0).bind fun bt247 => (if bt247.2 = 0 then (if a1 < 0 then (pylonref19_Put.j0 k l0 a1 true) else (pylonref19_Put.j0 k l0 a1 (decide (a1 > (wrap64 (1000000000000000 - bt247.1)))))) else (some (([] : List (S32)), bt247.2)))
theorem pylonref19_Put.mono_l : ∀ k, (∀ y0 y1 y2, LeO (pylonref19_Put.j0 k y0 y1 y2) (pylonref19_Put.j0 (k + 1) y0 y1 y2))
 | 0 => fun _ _ _ r h => by simp [pylonref19_Put.j0] at h
 | k + 1 => by
  have ih0 := pylonref19_Put.mono_l k
  ·intro y0 y1 y2
   unfold pylonref19_Put.j0
   repeat' first
   | (with_reducible exact ih0 _ _ _)
   | (with_reducible exact pylonref19_Balance.mono _ _)
   | (with_reducible exact LeO.refl _)
   | (with_reducible exact LeO.none _)
   | (with_reducible refine LeO.ite ?_ ?_)
   | (with_reducible refine LeO.bind ?_ (fun _ => ?_))
theorem pylonref19_Put.mono : ∀ a0 a1 k, LeO (pylonref19_Put.f k a0 a1) (pylonref19_Put.f (k + 1) a0 a1) := by
 intro a0 a1 k
 have ih0 := pylonref19_Put.mono_l k
 unfold pylonref19_Put.f
 repeat' first
   | (with_reducible exact ih0 _ _ _)
   | (with_reducible exact pylonref19_Balance.mono _ _)
   | (with_reducible exact LeO.refl _)
   | (with_reducible exact LeO.none _)
   | (with_reducible refine LeO.ite ?_ ?_)
   | (with_reducible refine LeO.bind ?_ (fun _ => ?_))
set_option maxHeartbeats 8000000 in
set_option maxRecDepth 100000 in
theorem pylonref19_Put.calls (k : Nat) (A0 : Option Addr) (c0 : Nat) (l0 : List (S32)) (a1 : Int) (r1 : List (S32)) (r2 : Int) (w : World) (hr0 : Kd.C k32 w A0 l0.length l0) (hc0 : l0.length ≤ c0) (h : pylonref19_Put.f k l0 a1 = some (r1, r2)) :
  Calls Try.prog 17 #[.slice A0 l0.length c0, .int .i64 a1] w fun e w' => ∃ v0_ : Value, e = .returned (.tuple #[v0_, .int .i64 r2]) ∧ Kd.R k32 32 w' w.heap.size (fun _ => True) v0_ r1 ∧ Below w.heap.size w w' := by
 have hu32 := Try.underlying32
 have HR0 := AX hr0
 have HC0 := AX hc0
 clear hr0 hc0
 have HB := AX (Below.refl w.heap.size w)
 have H : ((pylonref19_Balance.f k l0).bind fun bt247 => (if bt247.2 = 0 then (if a1 < 0 then (pylonref19_Put.j0 k l0 a1 true) else (pylonref19_Put.j0 k l0 a1 (decide (a1 > (wrap64 (1000000000000000 - bt247.1)))))) else (some (([] : List (S32)), bt247.2)))) = some (r1, r2) := h
 clear h
 replace H := Option.bind_eq_some_iff.mp H
 obtain ⟨⟨t247, t248⟩, A30, H⟩ := H
 replace H : (if t248 = 0 then (if a1 < 0 then (pylonref19_Put.j0 k l0 a1 true) else (pylonref19_Put.j0 k l0 a1 (decide (a1 > (wrap64 (1000000000000000 - t247)))))) else (some (([] : List (S32)), t248))) = some (r1, r2) := H
 have A3 := AX A30
 clear A30
 by_cases c4 : t248 = 0
 ·rw [if_pos c4] at H
  have c4b0 : (t248 == 0) = true := beq_iff_eq.mpr c4
  have c4b1 : (t248 != 0) = false := bne_eq_false_iff_eq.mpr c4
  clear c4
  have HC5 := AX H
  clear H
  go_enter Try.func17, Try.ntmps17
  go_upto_region 4 with (first | ((with_reducible refine gate_callee (f := 19) rfl ?_); refine gL (some 11) Try.func19 #[.slice A0 l0.length c0] ?_; (with_reducible refine (pylonref19_Balance.calls k _ _ l0 t247 t248 _ ?side1 ?side2 A3.out).mono ?_); (case side1 => repeat (first | exact HR0.out | (with_reducible refine Kd.C_alloc ?_ _) | (with_reducible refine Kd.C_drewN ?_ _) | (with_reducible refine Kd.C_drew ?_))); (case side2 => exact HC0.out); rintro e w6 ⟨rfl, hb⟩; refine ⟨_, rfl, ?_⟩; replace HB := AX (below_step bw hb); (try clear hb); (try clear hb2); (try clear hk); (try clear hi)))
  (try simp only [Act.put, List.setIfInBounds_toArray, List.set_cons_zero, List.set_cons_succ])
  go_cut [24] (fun v24 wc => ∃ (kq : Nat) (x24_4 : Bool), v24 = .bool x24_4 ∧ Aside0 (pylonref19_Put.j0 kq l0 a1 x24_4 = some (r1, r2)) ∧ Aside0 (kq ≤ k) ∧ Aside0 (Below w.heap.size w wc))
  case first =>
   have H := HC5.out
   clear HC5
   by_cases c7 : a1 < 0
   ·rw [if_pos c7] at H
    have c7b0 : decide (a1 < 0) = true := decide_eq_true c7
    clear c7
    (first | rw [c7b0] | (simp only [i64_w, i32_w]; rw [c7b0]) | skip)
    have H' := AX H
    clear H
    go_wp2
    go_meet
    case rel => exact ⟨_, (true), (by first | rfl | (simp; done) | (simp [*]; done)), H', ⟨by first | omega | exact Nat.le_refl _⟩, ⟨bw⟩⟩
   ·rw [if_neg c7] at H
    have c7b0 : decide (a1 < 0) = false := decide_eq_false c7
    clear c7
    (first | rw [c7b0] | (simp only [i64_w, i32_w]; rw [c7b0]) | skip)
    have H' := AX H
    clear H
    go_wp2
    go_meet
    case rel => exact ⟨_, (decide (a1 > (wrap64 (1000000000000000 - t247)))), (by first | rfl | (simp; done) | (simp [*]; done)), H', ⟨by first | omega | exact Nat.le_refl _⟩, ⟨bw⟩⟩
  case rest =>
   clear HC5
   try clear c4b0 c4b1
   obtain ⟨kq, x24_4, rfl, HA, HJ4, HB⟩ := hcut
   cases kq with
   | zero => exact absurd HA.out (by simp [pylonref19_Put.j0])
   | succ kj4 =>
    have H := HA.out
    clear HA
    simp only [pylonref19_Put.j0] at H
    by_cases c8 : x24_4 = true
    ·subst c8
     have H1 : (some (([] : List (S32)), 5)) = some (r1, r2) := by rw [if_pos rfl] at H; exact H
     clear H
     have H := H1
     clear H1
     simp only [Option.some.injEq, Prod.mk.injEq] at H
     obtain ⟨rfl, rfl⟩ := H
     go_wp2
     go_ret2
     exact ⟨_, by first | rfl | (simp [errW_none, errW_some] <;> rfl) | (simp [*, errW_none, errW_some] <;> rfl), by first | exact Kd.R_nil _ _ _ _ _ | exact Kd.N_nil _ _ _ _ _ | exact Kd.V_nil _ _ _ _ _ | exact Kd.Q_nil _ _ _ _ _ | exact Kd.S_nil _ _ _ _ _, bw⟩
    ·replace c8 := Bool.eq_false_iff.mpr c8
     subst c8
     have H1 : ((some (([] : List (S32)) : List (S32))).bind fun y249 => (if y249.length + l0.length < 8796093022208 then ((some (y249 ++ l0 : List (S32))).bind fun y252 => (if a1 > 0 then (if y252.length < 8796093022208 then (some ((y252 ++ [(⟨a1, 0⟩ : S32)]), 0)) else (none)) else (some (y252, 0)))) else (none))) = some (r1, r2) := by rw [if_neg (show ¬ (false = true) by decide)] at H; exact H
     clear H
     have H := H1
     clear H1
     obtain ⟨y249, hy249⟩ : ∃ y_ : List (S32), y_ = (([] : List (S32))) := ⟨_, rfl⟩
     replace H : (if y249.length + l0.length < 8796093022208 then ((some (y249 ++ l0 : List (S32))).bind fun y252 => (if a1 > 0 then (if y252.length < 8796093022208 then (some ((y252 ++ [(⟨a1, 0⟩ : S32)]), 0)) else (none)) else (some (y252, 0)))) else (none)) = some (r1, r2) := by first | (rw [hy249]; with_reducible exact H) | (have H2_ := (Option.bind_some _ _).symm.trans H; rw [hy249]; with_reducible exact H2_) | (have H2_ := (Option.bind_some _ _).symm.trans H; with_reducible exact H2_) | with_reducible exact H | (rw [hy249]; exact H) | exact H
     have Ny249 := AX hy249
     clear hy249
     by_cases c9 : y249.length + l0.length < 8796093022208
     ·rw [if_pos c9] at H
      have LMc9 := AX c9
      clear c9
      obtain ⟨y252, hy252⟩ : ∃ y_ : List (S32), y_ = (y249 ++ l0) := ⟨_, rfl⟩
      replace H : (if a1 > 0 then (if y252.length < 8796093022208 then (some ((y252 ++ [(⟨a1, 0⟩ : S32)]), 0)) else (none)) else (some (y252, 0))) = some (r1, r2) := by first | (rw [hy252]; with_reducible exact H) | (have H2_ := (Option.bind_some _ _).symm.trans H; rw [hy252]; with_reducible exact H2_) | (have H2_ := (Option.bind_some _ _).symm.trans H; with_reducible exact H2_) | with_reducible exact H | (rw [hy252]; exact H) | exact H
      have Ny252 := AX hy252
      clear hy252
      by_cases c10 : a1 > 0
      ·rw [if_pos c10] at H
       have c10b0 : decide (0 < a1) = true := decide_eq_true c10
       clear c10
       by_cases c11 : y252.length < 8796093022208
       ·rw [if_pos c11] at H
        have LMc11 := AX c11
        clear c11
        obtain ⟨y255, hy255⟩ : ∃ y_ : List (S32), y_ = (y252 ++ [(⟨a1, 0⟩ : S32)]) := ⟨_, rfl⟩
        replace H : (some (y255, 0)) = some (r1, r2) := by first | (rw [hy255]; with_reducible exact H) | (have H2_ := (Option.bind_some _ _).symm.trans H; rw [hy255]; with_reducible exact H2_) | (have H2_ := (Option.bind_some _ _).symm.trans H; with_reducible exact H2_) | with_reducible exact H | (rw [hy255]; exact H) | exact H
        have Ny255 := AX hy255
        clear hy255
        simp only [Option.some.injEq, Prod.mk.injEq] at H
        obtain ⟨rfl, rfl⟩ := H
        go_wp2_with (first | ((with_reducible refine gate_dst (N := 25) rfl ?_); refine Kd.R_lit k32 _ 32 ?hg (N := 25) ?hd (xs := ([] : List (S32))) (inner := []) (ok := fun _ => True) (okp := fun _ => True) ?hr ?hp (fun _ hk => hk) trivial (Below.refl _ _) (Nat.le_refl _) (by simp) ?_; (case hd => rfl); (case hg => rfl); (case hr => first | (go_simp; done) | (go_simp; rfl)); (case hp => exact (Reps.none _ _)); intro v250 w12 ho13 hb hg_ hnew_; clear hg_ hnew_; (first | rw [← Ny249.out] at ho13 | (simp only [Int.reduceToNat] at ho13; rw [← Ny249.out] at ho13)); have HO251 := AX (Kd.R_lower ho13 (below_size bw)); replace HB := AX (below_step bw hb); clear hb ho13) | ((with_reducible refine gate_builtin (b := .append) (xs := #[.tmp 25, .tmp 26]) rfl ?_); at_builtin; refine Kd.R_append_rows k32 (w0 := w) w.heap.size rfl (.tmp 25) (.tmp 26) 22 32 (.agg #[(.int .i64 0), (.int .i64 0)]) 16 rfl Try.underlying22 info32 rfl (by decide) (by omega) v250 y249 l0 _ _ _ (fun _ => True) (fun _ => False) rfl rfl ?aO ?aR (fun _ _ h => h) (fun _ h => h.elim) ?aF ?aB ?aS ?aL ?_; (case aR => repeat (first | exact (Kd.C_below HR0.out HB.out) | (with_reducible refine Kd.C_alloc ?_ _) | (with_reducible refine Kd.C_drewN ?_ _) | (with_reducible refine Kd.C_drew ?_))); (case aB => exact bw); (case aF => exact (fun _ _ => trivial)); (case aO => exact (kr HO251)); (case aS => exact (below_size bw)); (case aL => have := LMc9.out; omega); intro v253 w14 ho hb hg hat; rw [← Ny252.out] at ho; have n0_ := AX (hb); have n1_ := AX (ho); clear HB; clear HO251; have HB := n0_; have HO254 := n1_; clear n0_ n1_; clear ho hb hg hat) | ((with_reducible refine gate_builtin (b := .append) (xs := #[.tmp 30, .tmp 33]) rfl ?_); at_builtin; refine Kd.R_append k32 (w0 := w) w.heap.size rfl (.tmp 30) (.tmp 33) 22 32 (.agg #[(.int .i64 0), (.int .i64 0)]) 16 rfl Try.underlying22 info32 rfl (by decide) (by omega) v253 y252 (⟨a1, 0⟩ : S32) [.int .i64 a1, .int .i64 0] (fun _ => True) (fun _ => False) rfl rfl ?aP (fun _ hk => hk.elim) ?aF ?aO ?aB ?aS ?aL ?_; (case aP => exact k32_mkM _ _ _ (⟨a1, 0⟩ : S32)); (case aB => exact bw); (case aF => exact (fun _ _ => trivial)); (case aO => exact (kr HO254)); (case aS => exact (below_size bw)); (case aL => have := LMc11.out; omega); intro v256 w15 ho hb hg hat; rw [← Ny255.out] at ho; have n0_ := AX (hb); have n1_ := AX (ho); clear HB; clear HO254; have HB := n0_; have HO257 := n1_; clear n0_ n1_; clear ho hb hg hat))
        go_ret2
        exact ⟨_, by first | rfl | (simp [errW_none, errW_some] <;> rfl) | (simp [*, errW_none, errW_some] <;> rfl), kr HO257, bw⟩
       ·rw [if_neg c11] at H
        exact absurd H (by simp)
      ·rw [if_neg c10] at H
       have c10b0 : decide (0 < a1) = false := decide_eq_false c10
       clear c10
       simp only [Option.some.injEq, Prod.mk.injEq] at H
       obtain ⟨rfl, rfl⟩ := H
       go_wp2_with (first | ((with_reducible refine gate_dst (N := 25) rfl ?_); refine Kd.R_lit k32 _ 32 ?hg (N := 25) ?hd (xs := ([] : List (S32))) (inner := []) (ok := fun _ => True) (okp := fun _ => True) ?hr ?hp (fun _ hk => hk) trivial (Below.refl _ _) (Nat.le_refl _) (by simp) ?_; (case hd => rfl); (case hg => rfl); (case hr => first | (go_simp; done) | (go_simp; rfl)); (case hp => exact (Reps.none _ _)); intro v250 w16 ho17 hb hg_ hnew_; clear hg_ hnew_; (first | rw [← Ny249.out] at ho17 | (simp only [Int.reduceToNat] at ho17; rw [← Ny249.out] at ho17)); have HO251 := AX (Kd.R_lower ho17 (below_size bw)); replace HB := AX (below_step bw hb); clear hb ho17) | ((with_reducible refine gate_builtin (b := .append) (xs := #[.tmp 25, .tmp 26]) rfl ?_); at_builtin; refine Kd.R_append_rows k32 (w0 := w) w.heap.size rfl (.tmp 25) (.tmp 26) 22 32 (.agg #[(.int .i64 0), (.int .i64 0)]) 16 rfl Try.underlying22 info32 rfl (by decide) (by omega) v250 y249 l0 _ _ _ (fun _ => True) (fun _ => False) rfl rfl ?aO ?aR (fun _ _ h => h) (fun _ h => h.elim) ?aF ?aB ?aS ?aL ?_; (case aR => repeat (first | exact (Kd.C_below HR0.out HB.out) | (with_reducible refine Kd.C_alloc ?_ _) | (with_reducible refine Kd.C_drewN ?_ _) | (with_reducible refine Kd.C_drew ?_))); (case aB => exact bw); (case aF => exact (fun _ _ => trivial)); (case aO => exact (kr HO251)); (case aS => exact (below_size bw)); (case aL => have := LMc9.out; omega); intro v253 w18 ho hb hg hat; rw [← Ny252.out] at ho; have n0_ := AX (hb); have n1_ := AX (ho); clear HB; clear HO251; have HB := n0_; have HO254 := n1_; clear n0_ n1_; clear ho hb hg hat))
       go_ret2
       exact ⟨_, by first | rfl | (simp [errW_none, errW_some] <;> rfl) | (simp [*, errW_none, errW_some] <;> rfl), kr HO254, bw⟩
     ·rw [if_neg c9] at H
      exact absurd H (by simp)
 ·rw [if_neg c4] at H
  have c4b0 : (t248 == 0) = false := beq_eq_false_iff_ne.mpr c4
  have c4b1 : (t248 != 0) = true := bne_iff_ne.mpr c4
  simp only [Option.some.injEq, Prod.mk.injEq] at H
  obtain ⟨rfl, rfl⟩ := H
  go_enter Try.func17, Try.ntmps17
  go_wp2_with (first | ((with_reducible refine gate_callee (f := 19) rfl ?_); refine gL (some 11) Try.func19 #[.slice A0 l0.length c0] ?_; (with_reducible refine (pylonref19_Balance.calls k _ _ l0 t247 t248 _ ?side1 ?side2 A3.out).mono ?_); (case side1 => repeat (first | exact HR0.out | (with_reducible refine Kd.C_alloc ?_ _) | (with_reducible refine Kd.C_drewN ?_ _) | (with_reducible refine Kd.C_drew ?_))); (case side2 => exact HC0.out); rintro e w19 ⟨rfl, hb⟩; refine ⟨_, rfl, ?_⟩; replace HB := AX (below_step bw hb); (try clear hb); (try clear hb2); (try clear hk); (try clear hi)))
  go_ret2
  exact ⟨_, by first | rfl | (simp [errW_none, errW_some] <;> rfl) | (simp [*, errW_none, errW_some] <;> rfl), by first | exact Kd.R_nil _ _ _ _ _ | exact Kd.N_nil _ _ _ _ _ | exact Kd.V_nil _ _ _ _ _ | exact Kd.Q_nil _ _ _ _ _ | exact Kd.S_nil _ _ _ _ _, bw⟩

end Go.Proofs.Ytpogcehbciacdaa.PX
