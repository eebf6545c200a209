/- Functions of the program as plain Lean functions, each with a proof that the call in the machine answers just what the plain function says; condition: the plain function answers at all. -/
import Derived.Test.YtpogcehbciacdaaPXx0
import Derived.Test.YtpogcehbciacdaaPXx2
namespace Go.Proofs.Ytpogcehbciacdaa.PX
open Go.RowKit Go.Proofs.YtpogcehbciacdaaW.PrintWords Go.Proofs.YtpogcehbciacdaaW.PrintLast Go.Proofs.YtpogcehbciacdaaW.PrintMore
attribute [local go_sem] max2_int min2_int max_two min_two max_three min_three max_four min_four   -- for this text's walks alone
set_option linter.unusedVariables false
set_option linter.unusedSimpArgs false

/-! ### bank_Age: function 14 -/
mutual
def bank_Age.j0 : Nat → List (S32) → Int → Bool → Option ((List (S32)) × Int × Int)
 | 0, _, _, _ => none
 | k + 1, x0, x1, x20 => if x20 = true then (some (([] : List (S32)), 0, 8)) else (bank_Age.l0 k x0 x1 0)
def bank_Age.j2 : Nat → List (S32) → Int → Option ((List (S32)) × Int × Int)
 | 0, _, _ => none
 | k + 1, x0, x7 => if ([] : List (S32)).length + x0.length < 8796093022208 then ((some (([] : List (S32)) ++ x0 : List (S32))).bind fun y190 => (bank_Age.l1 k x7 y190 (y190.length : Int) 0)) else (none)
def bank_Age.l1 : Nat → Int → List (S32) → Int → Int → Option ((List (S32)) × Int × Int)
 | 0, _, _, _, _ => none
 | k + 1, x7, x8, x43, x44 => if x44 < x43 then (if 0 ≤ x44 then (if x44 < (x8.length : Int) then (bank_Age.l1 k x7 (x8.set (x44 : Int).toNat (⟨(rd_T32 x8 x44).f0, wrap64 (((rd_T32 x8 x44).f1) + 1)⟩ : S32)) x43 (wrap64 (x44 + 1))) else (none)) else (none)) else (some (x8, x7, 0))
def bank_Age.l0 : Nat → List (S32) → Int → Int → Option ((List (S32)) × Int × Int)
 | 0, _, _, _ => none
 | k + 1, x0, x1, x7 => if (x0.length : Int) > 0 then (if 0 < (x0.length : Int) then (if ((rd_T32 x0 0).f1) ≥ x1 then (if 1 ≤ (x0.length : Int) then (bank_Age.l0 k (x0.drop 1) x1 (wrap64 (x7 + ((rd_T32 x0 0).f0)))) else (none)) else (bank_Age.j2 k x0 x7)) else (none)) else (bank_Age.j2 k x0 x7)
end
def bank_Age.f (k : Nat) (l0 : List (S32)) (a1 : Int) : Option ((List (S32)) × Int × Int) := (bank_Check.f k l0).bind fun t182 => (if t182 = 0 then (if a1 < 0 then (bank_Age.j0 k l0 a1 true) else (bank_Age.j0 k l0 a1 (decide (a1 > 36)))) else (bank_Age.j0 k l0 a1 true))
theorem bank_Age.mono_l : ∀ k, (∀ y0 y1 y2, LeO (bank_Age.j0 k y0 y1 y2) (bank_Age.j0 (k + 1) y0 y1 y2)) ∧ (∀ y0 y1, LeO (bank_Age.j2 k y0 y1) (bank_Age.j2 (k + 1) y0 y1)) ∧ (∀ y0 y1 y2 y3, LeO (bank_Age.l1 k y0 y1 y2 y3) (bank_Age.l1 (k + 1) y0 y1 y2 y3)) ∧ (∀ y0 y1 y2, LeO (bank_Age.l0 k y0 y1 y2) (bank_Age.l0 (k + 1) y0 y1 y2))
 | 0 => ⟨fun _ _ _ r h => by simp [bank_Age.j0] at h, fun _ _ r h => by simp [bank_Age.j2] at h, fun _ _ _ _ r h => by simp [bank_Age.l1] at h, fun _ _ _ r h => by simp [bank_Age.l0] at h⟩
 | k + 1 => by
  obtain ⟨ih0, ih1, ih2, ih3⟩ := bank_Age.mono_l k
  refine ⟨?_, ?_, ?_, ?_⟩
  ·intro y0 y1 y2
   unfold bank_Age.j0
   repeat' first
   | (with_reducible exact ih0 _ _ _)
   | (with_reducible exact ih1 _ _)
   | (with_reducible exact ih2 _ _ _ _)
   | (with_reducible exact ih3 _ _ _)
   | (with_reducible exact bank_Check.mono _ _)
   | (with_reducible exact LeO.refl _)
   | (with_reducible exact LeO.none _)
   | (with_reducible refine LeO.ite ?_ ?_)
   | (with_reducible refine LeO.bind ?_ (fun _ => ?_))
  ·intro y0 y1
   unfold bank_Age.j2
   repeat' first
   | (with_reducible exact ih0 _ _ _)
   | (with_reducible exact ih1 _ _)
   | (with_reducible exact ih2 _ _ _ _)
   | (with_reducible exact ih3 _ _ _)
   | (with_reducible exact bank_Check.mono _ _)
   | (with_reducible exact LeO.refl _)
   | (with_reducible exact LeO.none _)
   | (with_reducible refine LeO.ite ?_ ?_)
   | (with_reducible refine LeO.bind ?_ (fun _ => ?_))
  ·intro y0 y1 y2 y3
   unfold bank_Age.l1
   repeat' first
   | (with_reducible exact ih0 _ _ _)
   | (with_reducible exact ih1 _ _)
   | (with_reducible exact ih2 _ _ _ _)
   | (with_reducible exact ih3 _ _ _)
   | (with_reducible exact bank_Check.mono _ _)
   | (with_reducible exact LeO.refl _)
   | (with_reducible exact LeO.none _)
   | (with_reducible refine LeO.ite ?_ ?_)
   | (with_reducible refine LeO.bind ?_ (fun _ => ?_))
  ·intro y0 y1 y2
   unfold bank_Age.l0
   repeat' first
   | (with_reducible exact ih0 _ _ _)
   | (with_reducible exact ih1 _ _)
   | (with_reducible exact ih2 _ _ _ _)
   | (with_reducible exact ih3 _ _ _)
   | (with_reducible exact bank_Check.mono _ _)
   | (with_reducible exact LeO.refl _)
   | (with_reducible exact LeO.none _)
   | (with_reducible refine LeO.ite ?_ ?_)
   | (with_reducible refine LeO.bind ?_ (fun _ => ?_))
theorem bank_Age.mono : ∀ a0 a1 k, LeO (bank_Age.f k a0 a1) (bank_Age.f (k + 1) a0 a1) := by
 intro a0 a1 k
 obtain ⟨ih0, ih1, ih2, ih3⟩ := bank_Age.mono_l k
 unfold bank_Age.f
 repeat' first
   | (with_reducible exact ih0 _ _ _)
   | (with_reducible exact ih1 _ _)
   | (with_reducible exact ih2 _ _ _ _)
   | (with_reducible exact ih3 _ _ _)
   | (with_reducible exact bank_Check.mono _ _)
   | (with_reducible exact LeO.refl _)
   | (with_reducible exact LeO.none _)
   | (with_reducible refine LeO.ite ?_ ?_)
   | (with_reducible refine LeO.bind ?_ (fun _ => ?_))
set_option maxHeartbeats 8000000 in
set_option maxRecDepth 100000 in
theorem bank_Age.calls (k : Nat) (P0_ : Nat → Prop) (A0 : Option Addr) (c0 : Nat) (l0 : List (S32)) (a1 : Int) (r1 : List (S32)) (r2 : Int) (r3 : Int) (w : World) (hs0 : Kd.V k32 32 w w.heap.size (fun k_ => P0_ k_) (.slice A0 l0.length c0) l0) (h : bank_Age.f k l0 a1 = some (r1, r2, r3)) :
  Calls Try.prog 14 #[.slice A0 l0.length c0, .int .i64 a1] w fun e w' => ∃ v0_ : Value, e = .returned (.tuple #[v0_, .int .i64 r2, .int .i64 r3]) ∧ Kd.R k32 32 w' w.heap.size (fun k_ => (w.heap.size ≤ k_)) v0_ r1 ∧ Below w.heap.size w w' := by
 have HO0 := AX (show Kd.V k32 32 w w.heap.size (fun k_ => (P0_ k_ ∨ w.heap.size ≤ k_)) (.slice A0 l0.length c0) l0 from Kd.V_mono hs0 (fun k_ hk => .inl hk))
 have HB := AX (Below.refl w.heap.size w)
 have H : ((bank_Check.f k l0).bind fun t182 => (if t182 = 0 then (if a1 < 0 then (bank_Age.j0 k l0 a1 true) else (bank_Age.j0 k l0 a1 (decide (a1 > 36)))) else (bank_Age.j0 k l0 a1 true))) = some (r1, r2, r3) := h
 clear h
 have HC3 := AX H
 clear H
 go_enter Try.func14, Try.ntmps14
 go_upto_region 1 with (fail)
 go_cut [20] (fun v20 wc => ∃ (kq : Nat) (x20_2 : Bool), v20 = .bool x20_2 ∧ Aside0 (bank_Age.j0 kq l0 a1 x20_2 = some (r1, r2, r3)) ∧ Aside0 (kq ≤ k) ∧ Aside0 (Kd.V k32 32 wc w.heap.size (fun k_ => (P0_ k_ ∨ w.heap.size ≤ k_)) (.slice A0 l0.length c0) l0) ∧ Aside0 (Below w.heap.size w wc))
 case first =>
  have H := HC3.out
  clear HC3
  replace H := Option.bind_eq_some_iff.mp H
  obtain ⟨t182, A40, H⟩ := H
  replace H : (if t182 = 0 then (if a1 < 0 then (bank_Age.j0 k l0 a1 true) else (bank_Age.j0 k l0 a1 (decide (a1 > 36)))) else (bank_Age.j0 k l0 a1 true)) = some (r1, r2, r3) := H
  have A4 := AX A40
  clear A40
  by_cases c5 : t182 = 0
  ·rw [if_pos c5] at H
   have c5b0 : (t182 == 0) = true := beq_iff_eq.mpr c5
   have c5b1 : (t182 != 0) = false := bne_eq_false_iff_eq.mpr c5
   clear c5
   (first | rw [c5b0] | (simp only [i64_w, i32_w]; rw [c5b0]) | skip)
   by_cases c6 : a1 < 0
   ·rw [if_pos c6] at H
    have c6b0 : decide (a1 < 0) = true := decide_eq_true c6
    clear c6
    have H' := AX H
    clear H
    go_wp2_with (first | ((with_reducible refine gate_callee (f := 20) rfl ?_); refine gL (some 11) Try.func20 #[.slice A0 l0.length c0] ?_; (with_reducible refine (bank_Check.calls k _ _ l0 t182 _ ?side1 ?side2 A4.out).mono ?_); (case side1 => repeat (first | exact (Kd.V_reads' HO0.out).2.2 | (with_reducible refine Kd.C_alloc ?_ _) | (with_reducible refine Kd.C_drewN ?_ _) | (with_reducible refine Kd.C_drew ?_))); (case side2 => exact (Kd.V_reads' HO0.out).2.1); rintro e w7 ⟨rfl, hb⟩; refine ⟨_, rfl, ?_⟩; replace HO0 := AX (Kd.V_below (by (with_reducible repeat (first | apply Kd.V_alloc | apply Kd.V_drewN | apply Kd.V_drew)); exact HO0.out) hb); replace HB := AX (below_step bw hb); (try clear hb); (try clear hb2); (try clear hk); (try clear hi)))
    go_meet
    case rel => exact ⟨_, (true), (by first | rfl | (simp; done) | (simp [*]; done)), H', ⟨by first | omega | exact Nat.le_refl _⟩, ⟨by (with_reducible repeat (first | apply Kd.V_alloc | apply Kd.V_drewN | apply Kd.V_drew)); exact HO0.out⟩, ⟨bw⟩⟩
   ·rw [if_neg c6] at H
    have c6b0 : decide (a1 < 0) = false := decide_eq_false c6
    clear c6
    have H' := AX H
    clear H
    go_wp2_with (first | ((with_reducible refine gate_callee (f := 20) rfl ?_); refine gL (some 11) Try.func20 #[.slice A0 l0.length c0] ?_; (with_reducible refine (bank_Check.calls k _ _ l0 t182 _ ?side1 ?side2 A4.out).mono ?_); (case side1 => repeat (first | exact (Kd.V_reads' HO0.out).2.2 | (with_reducible refine Kd.C_alloc ?_ _) | (with_reducible refine Kd.C_drewN ?_ _) | (with_reducible refine Kd.C_drew ?_))); (case side2 => exact (Kd.V_reads' HO0.out).2.1); rintro e w8 ⟨rfl, hb⟩; refine ⟨_, rfl, ?_⟩; replace HO0 := AX (Kd.V_below (by (with_reducible repeat (first | apply Kd.V_alloc | apply Kd.V_drewN | apply Kd.V_drew)); exact HO0.out) hb); replace HB := AX (below_step bw hb); (try clear hb); (try clear hb2); (try clear hk); (try clear hi)))
    go_meet
    case rel => exact ⟨_, (decide (a1 > 36)), (by first | rfl | (simp; done) | (simp [*]; done)), H', ⟨by first | omega | exact Nat.le_refl _⟩, ⟨by (with_reducible repeat (first | apply Kd.V_alloc | apply Kd.V_drewN | apply Kd.V_drew)); exact HO0.out⟩, ⟨bw⟩⟩
  ·rw [if_neg c5] at H
   have c5b0 : (t182 == 0) = false := beq_eq_false_iff_ne.mpr c5
   have c5b1 : (t182 != 0) = true := bne_iff_ne.mpr c5
   (first | rw [c5b0] | (simp only [i64_w, i32_w]; rw [c5b0]) | skip)
   have H' := AX H
   clear H
   go_wp2_with (first | ((with_reducible refine gate_callee (f := 20) rfl ?_); refine gL (some 11) Try.func20 #[.slice A0 l0.length c0] ?_; (with_reducible refine (bank_Check.calls k _ _ l0 t182 _ ?side1 ?side2 A4.out).mono ?_); (case side1 => repeat (first | exact (Kd.V_reads' HO0.out).2.2 | (with_reducible refine Kd.C_alloc ?_ _) | (with_reducible refine Kd.C_drewN ?_ _) | (with_reducible refine Kd.C_drew ?_))); (case side2 => exact (Kd.V_reads' HO0.out).2.1); rintro e w9 ⟨rfl, hb⟩; refine ⟨_, rfl, ?_⟩; replace HO0 := AX (Kd.V_below (by (with_reducible repeat (first | apply Kd.V_alloc | apply Kd.V_drewN | apply Kd.V_drew)); exact HO0.out) hb); replace HB := AX (below_step bw hb); (try clear hb); (try clear hb2); (try clear hk); (try clear hi)))
   go_meet
   case rel => exact ⟨_, (true), (by first | rfl | (simp; done) | (simp [*]; done)), H', ⟨by first | omega | exact Nat.le_refl _⟩, ⟨by (with_reducible repeat (first | apply Kd.V_alloc | apply Kd.V_drewN | apply Kd.V_drew)); exact HO0.out⟩, ⟨bw⟩⟩
 case rest =>
  clear HC3
  obtain ⟨kq, x20_2, rfl, HA, HJ2, HO_0, HB⟩ := hcut
  cases kq with
  | zero => exact absurd HA.out (by simp [bank_Age.j0])
  | succ kj2 =>
   have H := HA.out
   clear HA
   simp only [bank_Age.j0] at H
   by_cases c10 : x20_2 = true
   ·subst c10
    have H1 : (some (([] : List (S32)), 0, 8)) = some (r1, r2, r3) := by rw [if_pos rfl] at H; exact H
    clear H
    have H := H1
    clear H1
    simp only [Option.some.injEq, Prod.mk.injEq] at H
    obtain ⟨rfl, rfl, rfl⟩ := H
    go_wp2
    go_ret3
    exact ⟨_, by first | rfl | (simp [errW_none, errW_some] <;> rfl) | (simp [*, errW_none, errW_some] <;> rfl), by first | exact Kd.R_nil _ _ _ _ _ | exact Kd.N_nil _ _ _ _ _ | exact Kd.V_nil _ _ _ _ _ | exact Kd.Q_nil _ _ _ _ _ | exact Kd.S_nil _ _ _ _ _, bw⟩
   ·replace c10 := Bool.eq_false_iff.mpr c10
    subst c10
    have H1 : (bank_Age.l0 kj2 l0 a1 0) = some (r1, r2, r3) := by rw [if_neg (show ¬ (false = true) by decide)] at H; exact H
    clear H
    have H := H1
    clear H1
    have HC11 := AX H
    clear H
    go_upto_block 0 with (fail)
    go_cut [0, 7] (fun v0 v7 wc => ∃ (kq : Nat) (x0_10 : List (S32)) (x7_10 : Int), v7 = .int .i64 x7_10 ∧ Aside0 (bank_Age.j2 kq x0_10 x7_10 = some (r1, r2, r3)) ∧ Aside0 (kq ≤ kj2) ∧ Aside0 (Kd.V k32 32 wc w.heap.size (fun k_ => (P0_ k_ ∨ w.heap.size ≤ k_)) v0 x0_10) ∧ Aside0 (Below w.heap.size w wc))
    case first =>
     have H := HC11.out
     clear HC11
     have H' := AX H
     clear H
     go_wp2
     go_loopg [0, 7] kj2 (fun kq v0 v7 w' => ∃ (x0_2 : List (S32)) (x7_2 : Int), v7 = .int .i64 x7_2 ∧ Aside0 (bank_Age.l0 kq x0_2 a1 x7_2 = some (r1, r2, r3)) ∧ Aside0 (kq ≤ kj2) ∧ Aside0 (Kd.V k32 32 w' w.heap.size (fun k_ => (P0_ k_ ∨ w.heap.size ≤ k_)) v0 x0_2) ∧ Aside0 (Below w.heap.size w w'))
     case atStart => exact ⟨(l0), (0), (by first | rfl | (simp; done) | (simp [*]; done)), H', ⟨Nat.le_refl _⟩, ⟨by (with_reducible repeat (first | apply Kd.V_alloc | apply Kd.V_drewN | apply Kd.V_drew)); exact HO_0.out⟩, ⟨bw⟩⟩
     case round =>
      clear H'
      try clear c10
      obtain ⟨x0_2, x7_2, rfl, HA, HK2, HO_0, HB⟩ := hrel
      cases gk with
      | zero => exact absurd HA.out (by simp [bank_Age.l0])
      | succ k2 =>
       have H := HA.out
       clear HA
       simp only [bank_Age.l0] at H
       by_cases c12 : (x0_2.length : Int) > 0
       ·rw [if_pos c12] at H
        have c12b0 : decide (0 < (x0_2.length : Int)) = true := decide_eq_true c12
        have c12b1 : decide (0 < x0_2.length) = true := decide_eq_true (by omega)
        clear c12
        (first | rw [c12b0] | (simp only [i64_w, i32_w]; rw [c12b0]) | skip)
        by_cases c13 : 0 < (x0_2.length : Int)
        ·rw [if_pos c13] at H
         have c13b0 : decide (0 < (x0_2.length : Int)) = true := decide_eq_true c13
         have c13b1 : decide (0 < x0_2.length) = true := decide_eq_true (by omega)
         clear c13
         by_cases c14 : ((rd_T32 x0_2 0).f1) ≥ a1
         ·rw [if_pos c14] at H
          have c14b0 : decide (a1 ≤ ((rd_T32 x0_2 0).f1)) = true := decide_eq_true c14
          clear c14
          by_cases c15 : 1 ≤ (x0_2.length : Int)
          ·rw [if_pos c15] at H
           have c15b0 := eq_true c15
           have c15b1 : decide (1 ≤ (x0_2.length : Int)) = true := decide_eq_true c15
           clear c15
           obtain ⟨y185, hy185⟩ : ∃ y_ : List (S32), y_ = (x0_2.drop 1) := ⟨_, rfl⟩
           replace H : (bank_Age.l0 k2 y185 a1 (wrap64 (x7_2 + ((rd_T32 x0_2 0).f0)))) = some (r1, r2, r3) := by first | (rw [hy185]; with_reducible exact H) | (have H2_ := (Option.bind_some _ _).symm.trans H; rw [hy185]; with_reducible exact H2_) | (have H2_ := (Option.bind_some _ _).symm.trans H; with_reducible exact H2_) | with_reducible exact H | (rw [hy185]; exact H) | exact H
           have Ny185 := AX hy185
           clear hy185
           have H' := AX H
           clear H
           obtain ⟨Ao16, co16, eo16⟩ := Kd.V_slice HO_0.out
           subst eo16
           have p183 : 0 ≤ (0 : Int) := (by omega)
           have q183 : 0 < (x0_2.length : Int) := of_decide_eq_true (by first | (with_reducible assumption) | assumption)
           obtain ⟨ad183, e183, hx183_0, hx183_1⟩ := at_T32 (Kd.V_reads' HO_0.out).2.2 0 p183 q183
           cases e183
           have qi183 : (0 < x0_2.length) = True := eq_true (by omega)
           (try rw [show ((0 : Int)).toNat = 0 from rfl] at hx183_0)
           (try rw [show 0 * 2 = 0 from rfl] at hx183_0)
           (try rw [Addr.add_zero'] at hx183_0)
           (try rw [show ((0 : Int)).toNat = 0 from rfl] at hx183_1)
           (try rw [show 0 * 2 = 0 from rfl] at hx183_1)
           (try rw [Addr.add_zero'] at hx183_1)
           replace p183 := eq_true p183
           replace q183 := eq_true q183
           have p184 : 0 ≤ (0 : Int) := (by omega)
           have q184 : 0 < (x0_2.length : Int) := of_decide_eq_true (by first | (with_reducible assumption) | assumption)
           obtain ⟨ad184, e184, hx184_0, hx184_1⟩ := at_T32 (Kd.V_reads' HO_0.out).2.2 0 p184 q184
           obtain rfl : ad183 = ad184 := (by injection e184)
           have qi184 : (0 < x0_2.length) = True := eq_true (by omega)
           (try rw [show ((0 : Int)).toNat = 0 from rfl] at hx184_0)
           (try rw [show 0 * 2 = 0 from rfl] at hx184_0)
           (try rw [Addr.add_zero'] at hx184_0)
           (try rw [show ((0 : Int)).toNat = 0 from rfl] at hx184_1)
           (try rw [show 0 * 2 = 0 from rfl] at hx184_1)
           (try rw [Addr.add_zero'] at hx184_1)
           replace p184 := eq_true p184
           replace q184 := eq_true q184
           have q17 : (1 : Int) ≤ ((x0_2.length : Int) : Int) := of_decide_eq_true (by first | (with_reducible assumption) | assumption)
           obtain ⟨i017, hi017, _, hsz17, _⟩ := info_parts info32
           have hroom17 : x0_2.length ≤ co16 := (Kd.V_reads' HO_0.out).2.1
           have hC17 : Kd.F k32 _ _ (some ad183) x0_2.length x0_2 := (Kd.V_at (base := w.heap.size) HO_0.out).2.2
           have hcut17 := cut_from (P := Try.prog) 22 32 .i64 Try.underlying22 hi017 2 hsz17 (some ad183) x0_2.length co16 1 (by omega) q17
           have hr17 := Kd.F_cut (m := (1 : Int).toNat) (c := co16) hC17 (by omega) hroom17
           obtain ⟨A17, hA17⟩ : ∃ A1, A1 = (if co16 = (1 : Int).toNat then (some ad183) else ((some ad183) : Option Addr).map (·.add ((1 : Int).toNat * 2))) := ⟨_, rfl⟩
           obtain ⟨c17, hc17⟩ : ∃ c1, c1 = co16 - (1 : Int).toNat := ⟨_, rfl⟩
           have hy17 : y185.length = x0_2.length - (1 : Int).toNat := (by rw [Ny185.out, List.length_drop] <;> omega)
           rw [show (x0_2).drop (1 : Int).toNat = y185 from Ny185.out.symm] at hr17
           replace hr17 : Kd.F k32 _ _ A17 y185.length y185 := (by rw [hA17]; exact hr17)
           rw [← hy17, ← hA17, ← hc17] at hcut17
           have HO189 := AX (show Kd.V k32 32 _ w.heap.size _ (.slice A17 y185.length c17) y185 from Kd.V_mk (by rw [hy17, hc17]; exact Nat.sub_le_sub_right hroom17 _) hr17)
           have HC189 := AX (show y185.length ≤ c17 from by rw [hy17, hc17]; exact Nat.sub_le_sub_right hroom17 _)
           clear hr17 hC17 hroom17 hi017 hsz17 hc17
           have KY17 := AX hy17
           have KA17 := AX hA17
           clear hy17 hA17
           replace q17 := eq_true q17
           go_wp2
           go_roundg k2
           case measure => have := HJ2.out; have := HK2.out; omega
           case rel => exact ⟨(y185), (wrap64 (x7_2 + ((rd_T32 x0_2 0).f0))), (by first | rfl | (simp; done) | (simp [*]; done)), H', ⟨by have := HJ2.out; have := HK2.out; omega⟩, ⟨by (with_reducible repeat (first | apply Kd.V_alloc | apply Kd.V_drewN | apply Kd.V_drew)); exact HO189.out⟩, ⟨bw⟩⟩
          ·rw [if_neg c15] at H
           exact absurd H (by simp)
         ·rw [if_neg c14] at H
          have c14b0 : decide (a1 ≤ ((rd_T32 x0_2 0).f1)) = false := decide_eq_false c14
          clear c14
          have H' := AX H
          clear H
          obtain ⟨Ao18, co18, eo18⟩ := Kd.V_slice HO_0.out
          subst eo18
          have p183 : 0 ≤ (0 : Int) := (by omega)
          have q183 : 0 < (x0_2.length : Int) := of_decide_eq_true (by first | (with_reducible assumption) | assumption)
          obtain ⟨ad183, e183, hx183_0, hx183_1⟩ := at_T32 (Kd.V_reads' HO_0.out).2.2 0 p183 q183
          cases e183
          have qi183 : (0 < x0_2.length) = True := eq_true (by omega)
          (try rw [show ((0 : Int)).toNat = 0 from rfl] at hx183_0)
          (try rw [show 0 * 2 = 0 from rfl] at hx183_0)
          (try rw [Addr.add_zero'] at hx183_0)
          (try rw [show ((0 : Int)).toNat = 0 from rfl] at hx183_1)
          (try rw [show 0 * 2 = 0 from rfl] at hx183_1)
          (try rw [Addr.add_zero'] at hx183_1)
          replace p183 := eq_true p183
          replace q183 := eq_true q183
          go_wp2
          go_meet
          case rel => exact ⟨_, (x0_2), (x7_2), (by first | rfl | (simp; done) | (simp [*]; done)), H', ⟨by have := HJ2.out; have := HK2.out; first | omega | exact Nat.le_refl _⟩, ⟨by (with_reducible repeat (first | apply Kd.V_alloc | apply Kd.V_drewN | apply Kd.V_drew)); exact HO_0.out⟩, ⟨bw⟩⟩
        ·rw [if_neg c13] at H
         exact absurd H (by simp)
       ·rw [if_neg c12] at H
        have c12b0 : decide (0 < (x0_2.length : Int)) = false := decide_eq_false c12
        have c12b1 : decide (0 < x0_2.length) = false := decide_eq_false (by omega)
        clear c12
        (first | rw [c12b0] | (simp only [i64_w, i32_w]; rw [c12b0]) | skip)
        have H' := AX H
        clear H
        obtain ⟨Ao19, co19, eo19⟩ := Kd.V_slice HO_0.out
        subst eo19
        go_wp2
        go_meet
        case rel => exact ⟨_, (x0_2), (x7_2), (by first | rfl | (simp; done) | (simp [*]; done)), H', ⟨by have := HJ2.out; have := HK2.out; first | omega | exact Nat.le_refl _⟩, ⟨by (with_reducible repeat (first | apply Kd.V_alloc | apply Kd.V_drewN | apply Kd.V_drew)); exact HO_0.out⟩, ⟨bw⟩⟩
    case rest =>
     clear HC11
     try clear c10
     obtain ⟨kq, x0_10, x7_10, rfl, HA, HJ10, HO_0, HB⟩ := hcut
     cases kq with
     | zero => exact absurd HA.out (by simp [bank_Age.j2])
     | succ kj10 =>
      have H := HA.out
      clear HA
      simp only [bank_Age.j2] at H
      by_cases c20 : ([] : List (S32)).length + x0_10.length < 8796093022208
      ·rw [if_pos c20] at H
       have LMc20 := AX c20
       clear c20
       obtain ⟨y190, hy190⟩ : ∃ y_ : List (S32), y_ = (([] : List (S32)) ++ x0_10) := ⟨_, rfl⟩
       replace H : (bank_Age.l1 kj10 x7_10 y190 (y190.length : Int) 0) = some (r1, r2, r3) := by first | (rw [hy190]; with_reducible exact H) | (have H2_ := (Option.bind_some _ _).symm.trans H; rw [hy190]; with_reducible exact H2_) | (have H2_ := (Option.bind_some _ _).symm.trans H; with_reducible exact H2_) | with_reducible exact H | (rw [hy190]; exact H) | exact H
       have Ny190 := AX hy190
       clear hy190
       have H' := AX H
       clear H
       obtain ⟨Ao22, co22, eo22⟩ := Kd.V_slice HO_0.out
       subst eo22
       go_wp2_with (first | ((with_reducible refine gate_builtin (b := .append) (xs := #[.const (.slice none 0 0), .tmp 40]) rfl ?_); at_builtin; refine Kd.R_append_rows k32 (w0 := w) w.heap.size rfl (.const (.slice none 0 0)) (.tmp 40) 22 32 (.agg #[(.int .i64 0), (.int .i64 0)]) 16 rfl Try.underlying22 info32 rfl (by decide) (by omega) (.slice none 0 0) ([] : List (S32)) x0_10 _ _ _ (fun k_ => (w.heap.size ≤ k_)) (fun _ => False) rfl rfl ?aO ?aR (fun _ _ h => h) (fun _ h => h.elim) ?aF ?aB ?aS ?aL ?_; (case aR => repeat (first | exact (Kd.V_reads' HO_0.out).2.2 | (with_reducible refine Kd.C_alloc ?_ _) | (with_reducible refine Kd.C_drewN ?_ _) | (with_reducible refine Kd.C_drew ?_))); (case aB => exact bw); (case aF => exact (fun k_ hk => (Nat.le_trans (below_size bw) hk))); (case aO => exact ((Kd.R_nil _ _ _ _ (fun k_ => (w.heap.size ≤ k_))))); (case aS => exact (below_size bw)); (case aL => have := LMc20.out; omega); intro v191 w21 ho hb hg hat; rw [← Ny190.out] at ho; have HO192 := AX (ho); replace HO_0 := AX (Kd.V_afterv (Kd.V_apart_nil (by (with_reducible repeat (first | apply Kd.V_alloc | apply Kd.V_drewN | apply Kd.V_drew)); exact HO_0.out)) hg hat); replace HB := AX (hb); clear ho hb hg hat; obtain ⟨Ao23, co23, eo23⟩ := Kd.R_slice HO192.out; subst eo23))
       go_loopg [44] kj10 (fun kq v44 w' => ∃ (x8_3 : List (S32)) (x44_3 : Int), v44 = .int .i64 x44_3 ∧ Aside0 (bank_Age.l1 kq x7_10 x8_3 (y190.length : Int) x44_3 = some (r1, r2, r3)) ∧ Aside0 (kq ≤ kj10) ∧ Aside0 (Kd.R k32 32 w' w.heap.size (fun k_ => (w.heap.size ≤ k_)) (.slice Ao23 y190.length co23) x8_3) ∧ Aside0 (Below w.heap.size w w'))
       case atStart => exact ⟨(y190), (0), (by first | rfl | (simp; done) | (simp [*]; done)), H', ⟨Nat.le_refl _⟩, ⟨kr HO192⟩, ⟨bw⟩⟩
       case round =>
        clear H'
        obtain ⟨x8_3, x44_3, rfl, HA, HK3, HO_8, HB⟩ := hrel
        have hl8_3 := (Kd.R_reads' HO_8.out).1
        rw [hl8_3] at HO_8
        (try simp only [hl8_3])
        cases gk with
        | zero => exact absurd HA.out (by simp [bank_Age.l1])
        | succ k3 =>
         have H := HA.out
         clear HA
         simp only [bank_Age.l1] at H
         by_cases c24 : x44_3 < (y190.length : Int)
         ·rw [if_pos c24] at H
          have c24b0 : decide (x44_3 < (y190.length : Int)) = true := decide_eq_true c24
          (try have c24bx : decide (x44_3 < (x8_3.length : Int)) = true := by rw [← hl8_3]; exact c24b0)
          clear c24
          by_cases c25 : 0 ≤ x44_3
          ·rw [if_pos c25] at H
           have c25b0 : decide (0 ≤ x44_3) = true := decide_eq_true c25
           clear c25
           by_cases c26 : x44_3 < (x8_3.length : Int)
           ·rw [if_pos c26] at H
            have c26b0 : decide (x44_3 < (x8_3.length : Int)) = true := decide_eq_true c26
            clear c26
            obtain ⟨y194, hy194⟩ : ∃ y_ : List (S32), y_ = (x8_3.set (x44_3 : Int).toNat (⟨(rd_T32 x8_3 x44_3).f0, wrap64 (((rd_T32 x8_3 x44_3).f1) + 1)⟩ : S32)) := ⟨_, rfl⟩
            replace H : (bank_Age.l1 k3 x7_10 y194 (y190.length : Int) (wrap64 (x44_3 + 1))) = some (r1, r2, r3) := by first | (rw [hy194]; with_reducible exact H) | (have H2_ := (Option.bind_some _ _).symm.trans H; rw [hy194]; with_reducible exact H2_) | (have H2_ := (Option.bind_some _ _).symm.trans H; with_reducible exact H2_) | with_reducible exact H | (rw [hy194]; exact H) | exact H
            have Ny194 := AX hy194
            clear hy194
            have H' := AX H
            clear H
            have p193 : 0 ≤ (x44_3 : Int) := of_decide_eq_true (by first | (with_reducible assumption) | assumption)
            have q193 : x44_3 < (x8_3.length : Int) := of_decide_eq_true (by first | (with_reducible assumption) | assumption)
            obtain ⟨ad193, e193, hx193_0, hx193_1⟩ := at_T32 (Kd.R_reads' HO_8.out).2.2 x44_3 p193 q193
            cases e193
            replace p193 := eq_true p193
            replace q193 := eq_true q193
            have p27 : 0 ≤ (x44_3 : Int) := of_decide_eq_true (by first | (with_reducible assumption) | assumption)
            have q27 : (x44_3 : Int) < ((x8_3.length : Int) : Int) := of_decide_eq_true (by first | (with_reducible assumption) | assumption)
            obtain ⟨go27, co27, eo27, gb27, gl27, cl27, HG27⟩ := Kd.R_form HO_8.out (by omega)
            (first | cases eo27 | (injection eo27 with ea_ en_ ec_; (first | subst ea_ | (injection ea_ with ea_; subst ea_)); subst ec_; clear en_))
            have GB27 := AX gb27
            have GG27 := AX HG27
            clear gb27 gl27 HG27
            (first | simp only [add_plain] at hx193_0 | skip)
            (first | simp only [add_plain] at hx193_1 | skip)
            obtain ⟨ce27, hcl27, hM27, hcc27, hfr27⟩ := Kd.R_elem HO_8.out z32 (x44_3 : Int) p27 q27
            obtain rfl := k32_openM hM27
            have hx27_0 : wr.cell? ⟨go27, (x44_3 : Int).toNat * 2, none⟩ = some (.int .i64 ((rd_T32 x8_3 x44_3).f0)) := hcc27 0 _ rfl
            have hx27_1 : wr.cell? ⟨go27, (x44_3 : Int).toNat * 2 + 1, none⟩ = some (.int .i64 ((rd_T32 x8_3 x44_3).f1)) := hcc27 1 _ rfl
            have hf27_0 : wr.frozen? ⟨go27, (x44_3 : Int).toNat * 2, none⟩ = false := hfr27 0
            have hf27_1 : wr.frozen? ⟨go27, (x44_3 : Int).toNat * 2 + 1, none⟩ = false := hfr27 1
            clear hcl27 hcc27 hfr27 hM27
            replace p27 := eq_true p27
            replace q27 := eq_true q27
            have HX28 := AX (show Kd.R k32 32 wr w.heap.size (fun k_ => (w.heap.size ≤ k_)) (.slice (some ⟨go27, 0, none⟩) x8_3.length co23) x8_3 from (kr HO_8))
            obtain ⟨ce28, hcl28, hM28, hcc28, hfr28⟩ := Kd.R_elem HX28.out z32 (x44_3 : Int) (of_decide_eq_true (by first | (with_reducible assumption) | assumption)) (by have h_ : (x44_3 : Int) < ((x8_3.length : Int) : Int) := of_decide_eq_true (by first | (with_reducible assumption) | assumption); first | exact h_ | (have e_ := (Kd.R_reads' HO_8.out).1; omega) | simpa using h_)
            obtain rfl := k32_openM hM28
            have HP28 := Kd.R_seg HX28.out (x44_3 : Int) (of_decide_eq_true (by first | (with_reducible assumption) | assumption)) (by have h_ : (x44_3 : Int) < ((x8_3.length : Int) : Int) := of_decide_eq_true (by first | (with_reducible assumption) | assumption); first | exact h_ | (have e_ := (Kd.R_reads' HO_8.out).1; omega) | simpa using h_) (seg := [.int .i64 (wrap64 (((rd_T32 x8_3 x44_3).f1) + 1))]) (j := 1) hcl28 hcc28 (show 2 ≤ 2 from by decide) (x' := (⟨(rd_T32 x8_3 x44_3).f0, wrap64 (((rd_T32 x8_3 x44_3).f1) + 1)⟩ : S32)) (k32_mkM _ _ _ (⟨(rd_T32 x8_3 x44_3).f0, wrap64 (((rd_T32 x8_3 x44_3).f1) + 1)⟩ : S32) ) (fun _ hk => hk)
            have hx28_1 := hcc28 1 _ rfl
            (try simp only [show (k32).sz = 2 from rfl, Nat.mul_one, Nat.add_zero] at hx28_1)
            have hf28_1 := hfr28 1
            (try simp only [show (k32).sz = 2 from rfl, Nat.mul_one, Nat.add_zero] at hf28_1)
            clear hcl28 hcc28 hfr28 hM28
            go_wp2_with (first | ((with_reducible refine gate_store (t := 3) (p := 54) rfl ?_); refine store_event (t := 3) (p := 54) (v := ?vo_w29) (w1 := (wr.setCell ⟨go27, (x44_3 : Int).toNat * 2 + 1, none⟩ (.int .i64 (wrap64 (((rd_T32 x8_3 x44_3).f1) + 1))))) ?hg ?ho ?hn ?hr ?_; (case ho => rfl); (case hg => rfl); (case hn => rfl); (case hr => first | (go_simp; done) | (go_simp; rfl)); intro w29 hw; have hg : wr.grownBy w29 (some go27) := (by rw [hw]; exact HP28.2); have hp_ : Kd.R k32 32 w29 w.heap.size (fun k_ => (w.heap.size ≤ k_)) (.slice (some ⟨go27, 0, none⟩) x8_3.length co23) y194 := (by rw [hw, Ny194.out]; exact HP28.1); clear HP28; replace HO_8 := AX (hp_); replace HB := AX ((by rw [hw]; exact below_set (HB.out) GB27.out : Below w.heap.size w w29)); clear hg hw hp_))
            (try simp only [← hl8_3])
            go_roundg k3
            case measure => have := HJ2.out; have := HJ10.out; have := HK3.out; omega
            case rel => exact ⟨(y194), (wrap64 (x44_3 + 1)), (by first | rfl | (simp; done) | (simp [*]; done)), H', ⟨by have := HJ2.out; have := HJ10.out; have := HK3.out; omega⟩, ⟨by (try simp only [hl8_3]); (with_reducible repeat (first | apply Kd.R_alloc | apply Kd.R_drewN | apply Kd.R_drew)); exact HO_8.out⟩, ⟨bw⟩⟩
           ·rw [if_neg c26] at H
            exact absurd H (by simp)
          ·rw [if_neg c25] at H
           exact absurd H (by simp)
         ·rw [if_neg c24] at H
          have c24b0 : decide (x44_3 < (y190.length : Int)) = false := decide_eq_false c24
          (try have c24bx : decide (x44_3 < (x8_3.length : Int)) = false := by rw [← hl8_3]; exact c24b0)
          clear c24
          simp only [Option.some.injEq, Prod.mk.injEq] at H
          obtain ⟨rfl, rfl, rfl⟩ := H
          go_wp2
          go_ret3
          exact ⟨_, by first | rfl | (simp [errW_none, errW_some] <;> rfl) | (simp [*, errW_none, errW_some] <;> rfl), kr HO_8, bw⟩
      ·rw [if_neg c20] at H
       exact absurd H (by simp)

/-! ### bank_Put: function 15 -/
def bank_Put.j0 : Nat → List (S32) → Int → Bool → Option ((List (S32)) × Int)
 | 0, _, _, _ => none
 | k + 1, x0, x1, x17 => if x17 = true then (some (([] : List (S32)), 5)) else (if ([] : List (S32)).length + x0.length < 8796093022208 then ((some (([] : List (S32)) ++ x0 : List (S32))).bind fun y231 => (if x1 > 0 then (if y231.length < 8796093022208 then (some ((y231 ++ [(⟨x1, 0⟩ : S32)]), 0)) else (none)) else (some (y231, 0)))) else (none))
def bank_Put.f (k : Nat) (l0 : List (S32)) (a1 : Int) : Option ((List (S32)) × Int) := (bank_sum.f k l0).bind fun bt229 => (if bt229.2 = true then (if a1 < 0 then (bank_Put.j0 k l0 a1 true) else (bank_Put.j0 k l0 a1 (decide (a1 > (wrap64 (1000000000000000 - bt229.1)))))) else (some (([] : List (S32)), 8)))
theorem bank_Put.mono_l : ∀ k, (∀ y0 y1 y2, LeO (bank_Put.j0 k y0 y1 y2) (bank_Put.j0 (k + 1) y0 y1 y2))
 | 0 => fun _ _ _ r h => by simp [bank_Put.j0] at h
 | k + 1 => by
  have ih0 := bank_Put.mono_l k
  ·intro y0 y1 y2
   unfold bank_Put.j0
   repeat' first
   | (with_reducible exact ih0 _ _ _)
   | (with_reducible exact bank_sum.mono _ _)
   | (with_reducible exact LeO.refl _)
   | (with_reducible exact LeO.none _)
   | (with_reducible refine LeO.ite ?_ ?_)
   | (with_reducible refine LeO.bind ?_ (fun _ => ?_))
theorem bank_Put.mono : ∀ a0 a1 k, LeO (bank_Put.f k a0 a1) (bank_Put.f (k + 1) a0 a1) := by
 intro a0 a1 k
 have ih0 := bank_Put.mono_l k
 unfold bank_Put.f
 repeat' first
   | (with_reducible exact ih0 _ _ _)
   | (with_reducible exact bank_sum.mono _ _)
   | (with_reducible exact LeO.refl _)
   | (with_reducible exact LeO.none _)
   | (with_reducible refine LeO.ite ?_ ?_)
   | (with_reducible refine LeO.bind ?_ (fun _ => ?_))
set_option maxHeartbeats 8000000 in
set_option maxRecDepth 100000 in
theorem bank_Put.calls (k : Nat) (A0 : Option Addr) (c0 : Nat) (l0 : List (S32)) (a1 : Int) (r1 : List (S32)) (r2 : Int) (w : World) (hr0 : Kd.C k32 w A0 l0.length l0) (hc0 : l0.length ≤ c0) (h : bank_Put.f k l0 a1 = some (r1, r2)) :
  Calls Try.prog 15 #[.slice A0 l0.length c0, .int .i64 a1] w fun e w' => ∃ v0_ : Value, e = .returned (.tuple #[v0_, .int .i64 r2]) ∧ Kd.R k32 32 w' w.heap.size (fun _ => True) v0_ r1 ∧ Below w.heap.size w w' := by
 have hu32 := Try.underlying32
 have HR0 := AX hr0
 have HC0 := AX hc0
 clear hr0 hc0
 have HB := AX (Below.refl w.heap.size w)
 have H : ((bank_sum.f k l0).bind fun bt229 => (if bt229.2 = true then (if a1 < 0 then (bank_Put.j0 k l0 a1 true) else (bank_Put.j0 k l0 a1 (decide (a1 > (wrap64 (1000000000000000 - bt229.1)))))) else (some (([] : List (S32)), 8)))) = some (r1, r2) := h
 clear h
 replace H := Option.bind_eq_some_iff.mp H
 obtain ⟨⟨t229, t230⟩, A30, H⟩ := H
 replace H : (if t230 = true then (if a1 < 0 then (bank_Put.j0 k l0 a1 true) else (bank_Put.j0 k l0 a1 (decide (a1 > (wrap64 (1000000000000000 - t229)))))) else (some (([] : List (S32)), 8))) = some (r1, r2) := H
 have A3 := AX A30
 clear A30
 by_cases c4 : t230 = true
 ·subst c4
  have H1 : (if a1 < 0 then (bank_Put.j0 k l0 a1 true) else (bank_Put.j0 k l0 a1 (decide (a1 > (wrap64 (1000000000000000 - t229)))))) = some (r1, r2) := by rw [if_pos rfl] at H; exact H
  clear H
  have H := H1
  clear H1
  have HC5 := AX H
  clear H
  go_enter Try.func15, Try.ntmps15
  go_upto_region 4 with (first | ((with_reducible refine gate_callee (f := 21) rfl ?_); refine gL (some 11) Try.func21 #[.slice A0 l0.length c0] ?_; (with_reducible refine (bank_sum.calls k _ _ l0 t229 true _ ?side1 ?side2 A3.out).mono ?_); (case side1 => repeat (first | exact HR0.out | (with_reducible refine Kd.C_alloc ?_ _) | (with_reducible refine Kd.C_drewN ?_ _) | (with_reducible refine Kd.C_drew ?_))); (case side2 => exact HC0.out); rintro e w6 ⟨rfl, hb⟩; refine ⟨_, rfl, ?_⟩; replace HB := AX (below_step bw hb); (try clear hb); (try clear hb2); (try clear hk); (try clear hi)))
  (try simp only [Act.put, List.setIfInBounds_toArray, List.set_cons_zero, List.set_cons_succ])
  go_cut [17] (fun v17 wc => ∃ (kq : Nat) (x17_4 : Bool), v17 = .bool x17_4 ∧ Aside0 (bank_Put.j0 kq l0 a1 x17_4 = some (r1, r2)) ∧ Aside0 (kq ≤ k) ∧ Aside0 (Below w.heap.size w wc))
  case first =>
   have H := HC5.out
   clear HC5
   by_cases c7 : a1 < 0
   ·rw [if_pos c7] at H
    have c7b0 : decide (a1 < 0) = true := decide_eq_true c7
    clear c7
    (first | rw [c7b0] | (simp only [i64_w, i32_w]; rw [c7b0]) | skip)
    have H' := AX H
    clear H
    go_wp2
    go_meet
    case rel => exact ⟨_, (true), (by first | rfl | (simp; done) | (simp [*]; done)), H', ⟨by first | omega | exact Nat.le_refl _⟩, ⟨bw⟩⟩
   ·rw [if_neg c7] at H
    have c7b0 : decide (a1 < 0) = false := decide_eq_false c7
    clear c7
    (first | rw [c7b0] | (simp only [i64_w, i32_w]; rw [c7b0]) | skip)
    have H' := AX H
    clear H
    go_wp2
    go_meet
    case rel => exact ⟨_, (decide (a1 > (wrap64 (1000000000000000 - t229)))), (by first | rfl | (simp; done) | (simp [*]; done)), H', ⟨by first | omega | exact Nat.le_refl _⟩, ⟨bw⟩⟩
  case rest =>
   clear HC5
   try clear c4
   obtain ⟨kq, x17_4, rfl, HA, HJ4, HB⟩ := hcut
   cases kq with
   | zero => exact absurd HA.out (by simp [bank_Put.j0])
   | succ kj4 =>
    have H := HA.out
    clear HA
    simp only [bank_Put.j0] at H
    by_cases c8 : x17_4 = true
    ·subst c8
     have H1 : (some (([] : List (S32)), 5)) = some (r1, r2) := by rw [if_pos rfl] at H; exact H
     clear H
     have H := H1
     clear H1
     simp only [Option.some.injEq, Prod.mk.injEq] at H
     obtain ⟨rfl, rfl⟩ := H
     go_wp2
     go_ret2
     exact ⟨_, by first | rfl | (simp [errW_none, errW_some] <;> rfl) | (simp [*, errW_none, errW_some] <;> rfl), by first | exact Kd.R_nil _ _ _ _ _ | exact Kd.N_nil _ _ _ _ _ | exact Kd.V_nil _ _ _ _ _ | exact Kd.Q_nil _ _ _ _ _ | exact Kd.S_nil _ _ _ _ _, bw⟩
    ·replace c8 := Bool.eq_false_iff.mpr c8
     subst c8
     have H1 : (if ([] : List (S32)).length + l0.length < 8796093022208 then ((some (([] : List (S32)) ++ l0 : List (S32))).bind fun y231 => (if a1 > 0 then (if y231.length < 8796093022208 then (some ((y231 ++ [(⟨a1, 0⟩ : S32)]), 0)) else (none)) else (some (y231, 0)))) else (none)) = some (r1, r2) := by rw [if_neg (show ¬ (false = true) by decide)] at H; exact H
     clear H
     have H := H1
     clear H1
     by_cases c9 : ([] : List (S32)).length + l0.length < 8796093022208
     ·rw [if_pos c9] at H
      have LMc9 := AX c9
      clear c9
      obtain ⟨y231, hy231⟩ : ∃ y_ : List (S32), y_ = (([] : List (S32)) ++ l0) := ⟨_, rfl⟩
      replace H : (if a1 > 0 then (if y231.length < 8796093022208 then (some ((y231 ++ [(⟨a1, 0⟩ : S32)]), 0)) else (none)) else (some (y231, 0))) = some (r1, r2) := by first | (rw [hy231]; with_reducible exact H) | (have H2_ := (Option.bind_some _ _).symm.trans H; rw [hy231]; with_reducible exact H2_) | (have H2_ := (Option.bind_some _ _).symm.trans H; with_reducible exact H2_) | with_reducible exact H | (rw [hy231]; exact H) | exact H
      have Ny231 := AX hy231
      clear hy231
      by_cases c10 : a1 > 0
      ·rw [if_pos c10] at H
       have c10b0 : decide (0 < a1) = true := decide_eq_true c10
       clear c10
       by_cases c11 : y231.length < 8796093022208
       ·rw [if_pos c11] at H
        have LMc11 := AX c11
        clear c11
        obtain ⟨y234, hy234⟩ : ∃ y_ : List (S32), y_ = (y231 ++ [(⟨a1, 0⟩ : S32)]) := ⟨_, rfl⟩
        replace H : (some (y234, 0)) = some (r1, r2) := by first | (rw [hy234]; with_reducible exact H) | (have H2_ := (Option.bind_some _ _).symm.trans H; rw [hy234]; with_reducible exact H2_) | (have H2_ := (Option.bind_some _ _).symm.trans H; with_reducible exact H2_) | with_reducible exact H | (rw [hy234]; exact H) | exact H
        have Ny234 := AX hy234
        clear hy234
        simp only [Option.some.injEq, Prod.mk.injEq] at H
        obtain ⟨rfl, rfl⟩ := H
        go_wp2_with (first | ((with_reducible refine gate_builtin (b := .append) (xs := #[.const (.slice none 0 0), .tmp 26]) rfl ?_); at_builtin; refine Kd.R_append_rows k32 (w0 := w) w.heap.size rfl (.const (.slice none 0 0)) (.tmp 26) 22 32 (.agg #[(.int .i64 0), (.int .i64 0)]) 16 rfl Try.underlying22 info32 rfl (by decide) (by omega) (.slice none 0 0) ([] : List (S32)) l0 _ _ _ (fun _ => True) (fun _ => False) rfl rfl ?aO ?aR (fun _ _ h => h) (fun _ h => h.elim) ?aF ?aB ?aS ?aL ?_; (case aR => repeat (first | exact (Kd.C_below HR0.out HB.out) | (with_reducible refine Kd.C_alloc ?_ _) | (with_reducible refine Kd.C_drewN ?_ _) | (with_reducible refine Kd.C_drew ?_))); (case aB => exact bw); (case aF => exact (fun _ _ => trivial)); (case aO => exact ((Kd.R_nil _ _ _ _ (fun _ => True)))); (case aS => exact (below_size bw)); (case aL => have := LMc9.out; omega); intro v232 w12 ho hb hg hat; rw [← Ny231.out] at ho; have HO233 := AX (ho); replace HB := AX (hb); clear ho hb hg hat) | ((with_reducible refine gate_builtin (b := .append) (xs := #[.tmp 30, .tmp 33]) rfl ?_); at_builtin; refine Kd.R_append k32 (w0 := w) w.heap.size rfl (.tmp 30) (.tmp 33) 22 32 (.agg #[(.int .i64 0), (.int .i64 0)]) 16 rfl Try.underlying22 info32 rfl (by decide) (by omega) v232 y231 (⟨a1, 0⟩ : S32) [.int .i64 a1, .int .i64 0] (fun _ => True) (fun _ => False) rfl rfl ?aP (fun _ hk => hk.elim) ?aF ?aO ?aB ?aS ?aL ?_; (case aP => exact k32_mkM _ _ _ (⟨a1, 0⟩ : S32)); (case aB => exact bw); (case aF => exact (fun _ _ => trivial)); (case aO => exact (kr HO233)); (case aS => exact (below_size bw)); (case aL => have := LMc11.out; omega); intro v235 w13 ho hb hg hat; rw [← Ny234.out] at ho; have n0_ := AX (hb); have n1_ := AX (ho); clear HB; clear HO233; have HB := n0_; have HO236 := n1_; clear n0_ n1_; clear ho hb hg hat))
        go_ret2
        exact ⟨_, by first | rfl | (simp [errW_none, errW_some] <;> rfl) | (simp [*, errW_none, errW_some] <;> rfl), kr HO236, bw⟩
       ·rw [if_neg c11] at H
        exact absurd H (by simp)
      ·rw [if_neg c10] at H
       have c10b0 : decide (0 < a1) = false := decide_eq_false c10
       clear c10
       simp only [Option.some.injEq, Prod.mk.injEq] at H
       obtain ⟨rfl, rfl⟩ := H
       go_wp2_with (first | ((with_reducible refine gate_builtin (b := .append) (xs := #[.const (.slice none 0 0), .tmp 26]) rfl ?_); at_builtin; refine Kd.R_append_rows k32 (w0 := w) w.heap.size rfl (.const (.slice none 0 0)) (.tmp 26) 22 32 (.agg #[(.int .i64 0), (.int .i64 0)]) 16 rfl Try.underlying22 info32 rfl (by decide) (by omega) (.slice none 0 0) ([] : List (S32)) l0 _ _ _ (fun _ => True) (fun _ => False) rfl rfl ?aO ?aR (fun _ _ h => h) (fun _ h => h.elim) ?aF ?aB ?aS ?aL ?_; (case aR => repeat (first | exact (Kd.C_below HR0.out HB.out) | (with_reducible refine Kd.C_alloc ?_ _) | (with_reducible refine Kd.C_drewN ?_ _) | (with_reducible refine Kd.C_drew ?_))); (case aB => exact bw); (case aF => exact (fun _ _ => trivial)); (case aO => exact ((Kd.R_nil _ _ _ _ (fun _ => True)))); (case aS => exact (below_size bw)); (case aL => have := LMc9.out; omega); intro v232 w14 ho hb hg hat; rw [← Ny231.out] at ho; have HO233 := AX (ho); replace HB := AX (hb); clear ho hb hg hat))
       go_ret2
       exact ⟨_, by first | rfl | (simp [errW_none, errW_some] <;> rfl) | (simp [*, errW_none, errW_some] <;> rfl), kr HO233, bw⟩
     ·rw [if_neg c9] at H
      exact absurd H (by simp)
 ·replace c4 := Bool.eq_false_iff.mpr c4
  subst c4
  have H1 : (some (([] : List (S32)), 8)) = some (r1, r2) := by rw [if_neg (show ¬ (false = true) by decide)] at H; exact H
  clear H
  have H := H1
  clear H1
  simp only [Option.some.injEq, Prod.mk.injEq] at H
  obtain ⟨rfl, rfl⟩ := H
  go_enter Try.func15, Try.ntmps15
  go_wp2_with (first | ((with_reducible refine gate_callee (f := 21) rfl ?_); refine gL (some 11) Try.func21 #[.slice A0 l0.length c0] ?_; (with_reducible refine (bank_sum.calls k _ _ l0 t229 false _ ?side1 ?side2 A3.out).mono ?_); (case side1 => repeat (first | exact HR0.out | (with_reducible refine Kd.C_alloc ?_ _) | (with_reducible refine Kd.C_drewN ?_ _) | (with_reducible refine Kd.C_drew ?_))); (case side2 => exact HC0.out); rintro e w15 ⟨rfl, hb⟩; refine ⟨_, rfl, ?_⟩; replace HB := AX (below_step bw hb); (try clear hb); (try clear hb2); (try clear hk); (try clear hi)))
  go_ret2
  exact ⟨_, by first | rfl | (simp [errW_none, errW_some] <;> rfl) | (simp [*, errW_none, errW_some] <;> rfl), by first | exact Kd.R_nil _ _ _ _ _ | exact Kd.N_nil _ _ _ _ _ | exact Kd.V_nil _ _ _ _ _ | exact Kd.Q_nil _ _ _ _ _ | exact Kd.S_nil _ _ _ _ _, bw⟩

end Go.Proofs.Ytpogcehbciacdaa.PX
