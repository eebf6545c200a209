/- Functions of the program as plain Lean functions, each with a proof that the call in the machine answers just what the plain function says; condition: the plain function answers at all. -/
import Derived.Test.YtpogcehbciacdaaPXx0
import Derived.Test.YtpogcehbciacdaaPXx1
import Derived.Test.YtpogcehbciacdaaPXx2
namespace Go.Proofs.Ytpogcehbciacdaa.PX
open Go.RowKit Go.Proofs.YtpogcehbciacdaaW.PrintWords Go.Proofs.YtpogcehbciacdaaW.PrintLast Go.Proofs.YtpogcehbciacdaaW.PrintMore
attribute [local go_sem] max2_int min2_int max_two min_two max_three min_three max_four min_four   -- for this text's walks alone
set_option linter.unusedVariables false
set_option linter.unusedSimpArgs false

attribute [local go_sem high] eqA32
/-! ### pylonref19_SameLots: function 12 -/
def pylonref19_SameLots.l0 : Nat → List (S32) → List (S32) → Int → Int → Option (Bool)
 | 0, _, _, _, _ => none
 | k + 1, x0, x1, x12, x13 => if x13 < x12 then (if 0 ≤ x13 then (if x13 < (x0.length : Int) then (if x13 < (x1.length : Int) then (if (!(((rd_T32 x0 x13).f0) == ((rd_T32 x1 x13).f0)) || (!(((rd_T32 x0 x13).f1) == ((rd_T32 x1 x13).f1)))) = true then (some false) else (pylonref19_SameLots.l0 k x0 x1 x12 (wrap64 (x13 + 1)))) else (none)) else (none)) else (none)) else (some true)
def pylonref19_SameLots.f (k : Nat) (l0 : List (S32)) (l1 : List (S32)) : Option (Bool) := if (l0.length : Int) = (l1.length : Int) then (pylonref19_SameLots.l0 k l0 l1 (l0.length : Int) 0) else (some false)
theorem pylonref19_SameLots.mono_l : ∀ k, (∀ y0 y1 y2 y3, LeO (pylonref19_SameLots.l0 k y0 y1 y2 y3) (pylonref19_SameLots.l0 (k + 1) y0 y1 y2 y3))
 | 0 => fun _ _ _ _ r h => by simp [pylonref19_SameLots.l0] at h
 | k + 1 => by
  have ih0 := pylonref19_SameLots.mono_l k
  ·intro y0 y1 y2 y3
   unfold pylonref19_SameLots.l0
   repeat' first
   | (with_reducible exact ih0 _ _ _ _)
   | (with_reducible exact LeO.refl _)
   | (with_reducible exact LeO.none _)
   | (with_reducible refine LeO.ite ?_ ?_)
   | (with_reducible refine LeO.bind ?_ (fun _ => ?_))
theorem pylonref19_SameLots.mono : ∀ a0 a1 k, LeO (pylonref19_SameLots.f k a0 a1) (pylonref19_SameLots.f (k + 1) a0 a1) := by
 intro a0 a1 k
 have ih0 := pylonref19_SameLots.mono_l k
 unfold pylonref19_SameLots.f
 repeat' first
   | (with_reducible exact ih0 _ _ _ _)
   | (with_reducible exact LeO.refl _)
   | (with_reducible exact LeO.none _)
   | (with_reducible refine LeO.ite ?_ ?_)
   | (with_reducible refine LeO.bind ?_ (fun _ => ?_))
set_option maxHeartbeats 8000000 in
set_option maxRecDepth 100000 in
theorem pylonref19_SameLots.calls (k : Nat) (A0 : Option Addr) (c0 : Nat) (l0 : List (S32)) (A1 : Option Addr) (c1 : Nat) (l1 : List (S32)) (r : Bool) (w : World) (hr0 : Kd.C k32 w A0 l0.length l0) (hc0 : l0.length ≤ c0) (hr1 : Kd.C k32 w A1 l1.length l1) (hc1 : l1.length ≤ c1) (h : pylonref19_SameLots.f k l0 l1 = some r) :
  Calls Try.prog 12 #[.slice A0 l0.length c0, .slice A1 l1.length c1] w fun e w' => e = .returned (.bool r) ∧ Drawn0 w w' := by
 have hu32 := Try.underlying32
 have HR0 := AX hr0
 have HC0 := AX hc0
 clear hr0 hc0
 have HR1 := AX hr1
 have HC1 := AX hc1
 clear hr1 hc1
 have H : (if (l0.length : Int) = (l1.length : Int) then (pylonref19_SameLots.l0 k l0 l1 (l0.length : Int) 0) else (some false)) = some r := h
 clear h
 by_cases c3 : (l0.length : Int) = (l1.length : Int)
 ·rw [if_pos c3] at H
  have c3b0 : ((l0.length : Int) == (l1.length : Int)) = true := beq_iff_eq.mpr c3
  have c3b1 : ((l0.length : Int) != (l1.length : Int)) = false := bne_eq_false_iff_eq.mpr c3
  have c3b2 : (l0.length == l1.length) = true := by first | simpa using c3 | (simp at c3 ⊢; omega)
  clear c3
  have H' := AX H
  clear H
  go_enter Try.func12, Try.ntmps12
  go_wp2
  repeat (go_quiet (fail); try go_wp2)
  go_loopg [13] k (fun kq v13 w' => ∃ (x13_1 : Int), v13 = .int .i64 x13_1 ∧ Aside0 (pylonref19_SameLots.l0 kq l0 l1 (l0.length : Int) x13_1 = some r) ∧ Aside0 (kq ≤ k) ∧ Drawn0 w w')
  case atStart => exact ⟨(0), (by first | rfl | (simp; done) | (simp [*]; done)), H', ⟨Nat.le_refl _⟩, by repeat (first | exact Drawn0.refl _ | apply Drawn0.step)⟩
  case round =>
   clear H'
   try clear c1
   try clear c3b0 c3b1 c3b2
   obtain ⟨x13_1, rfl, HA, HK1, ⟨m1, rfl⟩⟩ := hrel
   cases gk with
   | zero => exact absurd HA.out (by simp [pylonref19_SameLots.l0])
   | succ k1 =>
    have H := HA.out
    clear HA
    simp only [pylonref19_SameLots.l0] at H
    by_cases c4 : x13_1 < (l0.length : Int)
    ·rw [if_pos c4] at H
     have c4b0 : decide (x13_1 < (l0.length : Int)) = true := decide_eq_true c4
     clear c4
     by_cases c5 : 0 ≤ x13_1
     ·rw [if_pos c5] at H
      have c5b0 : decide (0 ≤ x13_1) = true := decide_eq_true c5
      clear c5
      by_cases c6 : x13_1 < (l0.length : Int)
      ·rw [if_pos c6] at H
       have c6b0 : decide (x13_1 < (l0.length : Int)) = true := decide_eq_true c6
       clear c6
       by_cases c7 : x13_1 < (l1.length : Int)
       ·rw [if_pos c7] at H
        have c7b0 : decide (x13_1 < (l1.length : Int)) = true := decide_eq_true c7
        clear c7
        by_cases c8 : (!(((rd_T32 l0 x13_1).f0) == ((rd_T32 l1 x13_1).f0)) || (!(((rd_T32 l0 x13_1).f1) == ((rd_T32 l1 x13_1).f1)))) = true
        ·rw [if_pos c8] at H
         have c8b0 : (!(((rd_T32 l0 x13_1).f0) == ((rd_T32 l1 x13_1).f0)) || (!(((rd_T32 l0 x13_1).f1) == ((rd_T32 l1 x13_1).f1)))) = true := c8
         clear c8
         obtain rfl := Option.some.inj H
         have p123 : 0 ≤ (x13_1 : Int) := of_decide_eq_true (by first | (with_reducible assumption) | assumption)
         have q123 : x13_1 < (l0.length : Int) := of_decide_eq_true (by first | (with_reducible assumption) | assumption)
         obtain ⟨ad123, e123, hx123_0, hx123_1⟩ := at_T32 HR0.out x13_1 p123 q123
         cases e123
         replace p123 := eq_true p123
         replace q123 := eq_true q123
         have p124 : 0 ≤ (x13_1 : Int) := of_decide_eq_true (by first | (with_reducible assumption) | assumption)
         have q124 : x13_1 < (l1.length : Int) := of_decide_eq_true (by first | (with_reducible assumption) | assumption)
         obtain ⟨ad124, e124, hx124_0, hx124_1⟩ := at_T32 HR1.out x13_1 p124 q124
         cases e124
         replace p124 := eq_true p124
         replace q124 := eq_true q124
         go_wp2
         repeat (go_quiet (fail); try go_wp2)
         go_ret
         exact ⟨by first | rfl | (simp; done) | (simp [*]; done), by repeat (first | exact Drawn0.refl _ | apply Drawn0.step)⟩
        ·rw [if_neg c8] at H
         have c8b0 : (!(((rd_T32 l0 x13_1).f0) == ((rd_T32 l1 x13_1).f0)) || (!(((rd_T32 l0 x13_1).f1) == ((rd_T32 l1 x13_1).f1)))) = false := by simpa using c8
         clear c8
         have H' := AX H
         clear H
         have p123 : 0 ≤ (x13_1 : Int) := of_decide_eq_true (by first | (with_reducible assumption) | assumption)
         have q123 : x13_1 < (l0.length : Int) := of_decide_eq_true (by first | (with_reducible assumption) | assumption)
         obtain ⟨ad123, e123, hx123_0, hx123_1⟩ := at_T32 HR0.out x13_1 p123 q123
         cases e123
         replace p123 := eq_true p123
         replace q123 := eq_true q123
         have p124 : 0 ≤ (x13_1 : Int) := of_decide_eq_true (by first | (with_reducible assumption) | assumption)
         have q124 : x13_1 < (l1.length : Int) := of_decide_eq_true (by first | (with_reducible assumption) | assumption)
         obtain ⟨ad124, e124, hx124_0, hx124_1⟩ := at_T32 HR1.out x13_1 p124 q124
         cases e124
         replace p124 := eq_true p124
         replace q124 := eq_true q124
         go_wp2
         repeat (go_quiet (fail); try go_wp2)
         go_roundg k1
         case measure => have := HK1.out; omega
         case rel => exact ⟨(wrap64 (x13_1 + 1)), (by first | rfl | (simp; done) | (simp [*]; done)), H', ⟨by have := HK1.out; omega⟩, by repeat (first | exact Drawn0.refl _ | apply Drawn0.step)⟩
       ·rw [if_neg c7] at H
        exact absurd H (by simp)
      ·rw [if_neg c6] at H
       exact absurd H (by simp)
     ·rw [if_neg c5] at H
      exact absurd H (by simp)
    ·rw [if_neg c4] at H
     have c4b0 : decide (x13_1 < (l0.length : Int)) = false := decide_eq_false c4
     clear c4
     obtain rfl := Option.some.inj H
     go_wp2
     repeat (go_quiet (fail); try go_wp2)
     go_ret
     exact ⟨by first | rfl | (simp; done) | (simp [*]; done), by repeat (first | exact Drawn0.refl _ | apply Drawn0.step)⟩
 ·rw [if_neg c3] at H
  have c3b0 : ((l0.length : Int) == (l1.length : Int)) = false := beq_eq_false_iff_ne.mpr c3
  have c3b1 : ((l0.length : Int) != (l1.length : Int)) = true := bne_iff_ne.mpr c3
  have c3b2 : (l0.length == l1.length) = false := by first | simpa using c3 | (simp at c3 ⊢; omega)
  obtain rfl := Option.some.inj H
  go_enter Try.func12, Try.ntmps12
  go_wp2
  repeat (go_quiet (fail); try go_wp2)
  go_ret
  exact ⟨by first | rfl | (simp; done) | (simp [*]; done), by repeat (first | exact Drawn0.refl _ | apply Drawn0.step)⟩

/-! ### pylonlaw19_awake: function 8 -/
def pylonlaw19_awake.f (k : Nat)  : Option (Bool) := (bank_Take.f k (([(⟨5, 3⟩ : S32), (⟨4, 0⟩ : S32)] : List (S32))) 7).bind fun bt128 => (if bt128.2.2 = 0 then (if bt128.2.1 = 7 then ((pylonref19_SameLots.f k bt128.1 (([(⟨2, 0⟩ : S32)] : List (S32)))).bind fun t136 => (some t136)) else (some false)) else (some false))
theorem pylonlaw19_awake.mono : ∀ k, LeO (pylonlaw19_awake.f k ) (pylonlaw19_awake.f (k + 1) ) := by
 intro  k
 unfold pylonlaw19_awake.f
 repeat' first
   | (with_reducible exact bank_Take.mono _ _ _)
   | (with_reducible exact pylonref19_SameLots.mono _ _ _)
   | (with_reducible exact LeO.refl _)
   | (with_reducible exact LeO.none _)
   | (with_reducible refine LeO.ite ?_ ?_)
   | (with_reducible refine LeO.bind ?_ (fun _ => ?_))
set_option maxHeartbeats 8000000 in
set_option maxRecDepth 100000 in
theorem pylonlaw19_awake.calls (k : Nat)  (r : Bool) (w : World) (h : pylonlaw19_awake.f k  = some r) :
  Calls Try.prog 8 #[] w fun e w' => e = .returned (.bool r) ∧ Below w.heap.size w w' := by
 have hu32 := Try.underlying32
 have HB := AX (Below.refl w.heap.size w)
 have H : ((bank_Take.f k (([(⟨5, 3⟩ : S32), (⟨4, 0⟩ : S32)] : List (S32))) 7).bind fun bt128 => (if bt128.2.2 = 0 then (if bt128.2.1 = 7 then ((pylonref19_SameLots.f k bt128.1 (([(⟨2, 0⟩ : S32)] : List (S32)))).bind fun t136 => (some t136)) else (some false)) else (some false))) = some r := h
 clear h
 obtain ⟨y125, hy125⟩ : ∃ y_ : List (S32), y_ = (([(⟨5, 3⟩ : S32), (⟨4, 0⟩ : S32)] : List (S32))) := ⟨_, rfl⟩
 replace H : ((bank_Take.f k y125 7).bind fun bt128 => (if bt128.2.2 = 0 then (if bt128.2.1 = 7 then ((pylonref19_SameLots.f k bt128.1 (([(⟨2, 0⟩ : S32)] : List (S32)))).bind fun t136 => (some t136)) else (some false)) else (some false))) = some r := by first | (rw [hy125]; with_reducible exact H) | (have H2_ := (Option.bind_some _ _).symm.trans H; rw [hy125]; with_reducible exact H2_) | (have H2_ := (Option.bind_some _ _).symm.trans H; with_reducible exact H2_) | with_reducible exact H | (rw [hy125]; exact H) | exact H
 have Ny125 := AX hy125
 clear hy125
 replace H := Option.bind_eq_some_iff.mp H
 obtain ⟨⟨t128, t131, t132⟩, A10, H⟩ := H
 replace H : (if t132 = 0 then (if t131 = 7 then ((pylonref19_SameLots.f k t128 (([(⟨2, 0⟩ : S32)] : List (S32)))).bind fun t136 => (some t136)) else (some false)) else (some false)) = some r := H
 have A1 := AX A10
 clear A10
 by_cases c2 : t132 = 0
 ·rw [if_pos c2] at H
  have c2b0 : (t132 == 0) = true := beq_iff_eq.mpr c2
  have c2b1 : (t132 != 0) = false := bne_eq_false_iff_eq.mpr c2
  clear c2
  by_cases c3 : t131 = 7
  ·rw [if_pos c3] at H
   have c3b0 : (t131 == 7) = true := beq_iff_eq.mpr c3
   have c3b1 : (t131 != 7) = false := bne_eq_false_iff_eq.mpr c3
   clear c3
   obtain ⟨y133, hy133⟩ : ∃ y_ : List (S32), y_ = (([(⟨2, 0⟩ : S32)] : List (S32))) := ⟨_, rfl⟩
   replace H : ((pylonref19_SameLots.f k t128 y133).bind fun t136 => (some t136)) = some r := by first | (rw [hy133]; with_reducible exact H) | (have H2_ := (Option.bind_some _ _).symm.trans H; rw [hy133]; with_reducible exact H2_) | (have H2_ := (Option.bind_some _ _).symm.trans H; with_reducible exact H2_) | with_reducible exact H | (rw [hy133]; exact H) | exact H
   have Ny133 := AX hy133
   clear hy133
   replace H := Option.bind_eq_some_iff.mp H
   obtain ⟨t136, A40, H⟩ := H
   replace H : (some t136) = some r := H
   have A4 := AX A40
   clear A40
   obtain rfl := Option.some.inj H
   go_enter Try.func8, Try.ntmps8
   go_wp2_with (first | ((with_reducible refine gate_dst (N := 7) rfl ?_); (try (refine gate_guard (by rfl) ?_; dsimp only)); refine Kd.R_lit k32 _ 32 ?hg (N := 7) ?hd (xs := ([(⟨5, 3⟩ : S32), (⟨4, 0⟩ : S32)] : List (S32))) (inner := [.int .i64 5, .int .i64 3, .int .i64 4, .int .i64 0]) (ok := fun _ => True) (okp := fun _ => True) ?hr ?hp (fun _ hk => hk) trivial (Below.refl _ _) (Nat.le_refl _) (by simp) ?_; (case hd => rfl); (case hg => rfl); (case hr => first | (go_simp; done) | (go_simp; rfl)); (case hp => exact (Reps.c2 (show Kd.M k32 _ _ _ (⟨5, 3⟩ : S32) [.int .i64 5, .int .i64 3] from (k32_mkM _ _ _ (⟨5, 3⟩ : S32) )) (Reps.c2 (show Kd.M k32 _ _ _ (⟨4, 0⟩ : S32) [.int .i64 4, .int .i64 0] from (k32_mkM _ _ _ (⟨4, 0⟩ : S32) )) (Reps.none _ _)))); intro v126 w5 ho6 hb hg_ hnew_; clear hg_ hnew_; (first | rw [← Ny125.out] at ho6 | (simp only [Int.reduceToNat] at ho6; rw [← Ny125.out] at ho6)); have HO127 := AX (Kd.R_lower ho6 (below_size bw)); replace HB := AX (below_step bw hb); clear hb ho6; obtain ⟨Ao7, co7, eo7⟩ := Kd.R_slice HO127.out; subst eo7) | ((with_reducible refine gate_callee (f := 9) rfl ?_); refine gL (some 8) Try.func9 #[.slice Ao7 y125.length co7, .int .i64 7] ?_; (with_reducible refine (bank_Take.calls k (fun k_ => some k_ = (.slice Ao7 y125.length co7 : Value).ownBlock) _ _ y125 7 t128 t131 t132 _ ?side1 A1.out).mono ?_); (case side1 => exact Kd.R_V (Kd.R_tight rfl (HO127.out))); rintro e w8 ⟨v129, rfl, ho0, hb⟩; refine ⟨_, rfl, ?_⟩; have HO130 := AX (Kd.R_lower (Kd.R_new' (Kd.R_mono (ok' := fun k_ => True) ho0 (fun _ hk_ => trivial)) (Kd.R_lt (kr HO127))) (below_size bw)); replace HO127 := AX (Kd.R_elder' (kr HO127) (Kd.R_base ho0) hb); replace HB := AX (below_step bw hb); (try clear hb); (try clear hb2); (try clear hk); (try clear hi); (try clear ho0)) | ((with_reducible refine gate_dst (N := 21) rfl ?_); (try (refine gate_guard (by rfl) ?_; dsimp only)); refine Kd.R_lit k32 _ 32 ?hg (N := 21) ?hd (xs := ([(⟨2, 0⟩ : S32)] : List (S32))) (inner := [.int .i64 2, .int .i64 0]) (ok := fun _ => True) (okp := fun _ => True) ?hr ?hp (fun _ hk => hk) trivial (Below.refl _ _) (Nat.le_refl _) (by simp) ?_; (case hd => rfl); (case hg => rfl); (case hr => first | (go_simp; done) | (go_simp; rfl)); (case hp => exact (Reps.c2 (show Kd.M k32 _ _ _ (⟨2, 0⟩ : S32) [.int .i64 2, .int .i64 0] from (k32_mkM _ _ _ (⟨2, 0⟩ : S32) )) (Reps.none _ _))); intro v134 w9 ho10 hb hg_ hnew_; clear hg_ hnew_; (first | rw [← Ny133.out] at ho10 | (simp only [Int.reduceToNat] at ho10; rw [← Ny133.out] at ho10)); have HO135 := AX (Kd.R_lower (Kd.R_new' (Kd.R_new' ho10 (Kd.R_lt (kr HO127))) (Kd.R_lt (kr HO130))) (below_size bw)); replace HO127 := AX (Kd.R_elder' (kr HO127) (Kd.R_base ho10) hb); replace HO130 := AX (Kd.R_elder' (kr HO130) (Kd.R_base ho10) hb); replace HB := AX (below_step bw hb); clear hb ho10; obtain ⟨Ao11, co11, eo11⟩ := Kd.R_slice HO130.out; subst eo11; obtain ⟨Ao12, co12, eo12⟩ := Kd.R_slice HO135.out; subst eo12) | (go_at_call 12; (with_reducible refine (pylonref19_SameLots.calls k _ _ t128 _ _ y133 t136 _ ?side1 ?side2 ?side3 ?side4 A4.out).mono ?_); (case side1 => repeat (first | exact (Kd.R_reads' HO130.out).2.2 | (with_reducible refine Kd.C_alloc ?_ _) | (with_reducible refine Kd.C_drewN ?_ _) | (with_reducible refine Kd.C_drew ?_))); (case side2 => exact (Kd.R_reads' HO130.out).2.1); (case side3 => repeat (first | exact (Kd.R_reads' HO135.out).2.2 | (with_reducible refine Kd.C_alloc ?_ _) | (with_reducible refine Kd.C_drewN ?_ _) | (with_reducible refine Kd.C_drew ?_))); (case side4 => exact (Kd.R_reads' HO135.out).2.1); rintro e w' ⟨rfl, ⟨nd, rfl⟩⟩))
   go_ret
   exact ⟨by first | rfl | (simp [errW_none, errW_some] <;> rfl) | (simp [*, errW_none, errW_some] <;> rfl), bw⟩
  ·rw [if_neg c3] at H
   have c3b0 : (t131 == 7) = false := beq_eq_false_iff_ne.mpr c3
   have c3b1 : (t131 != 7) = true := bne_iff_ne.mpr c3
   obtain rfl := Option.some.inj H
   go_enter Try.func8, Try.ntmps8
   go_wp2_with (first | ((with_reducible refine gate_dst (N := 7) rfl ?_); (try (refine gate_guard (by rfl) ?_; dsimp only)); refine Kd.R_lit k32 _ 32 ?hg (N := 7) ?hd (xs := ([(⟨5, 3⟩ : S32), (⟨4, 0⟩ : S32)] : List (S32))) (inner := [.int .i64 5, .int .i64 3, .int .i64 4, .int .i64 0]) (ok := fun _ => True) (okp := fun _ => True) ?hr ?hp (fun _ hk => hk) trivial (Below.refl _ _) (Nat.le_refl _) (by simp) ?_; (case hd => rfl); (case hg => rfl); (case hr => first | (go_simp; done) | (go_simp; rfl)); (case hp => exact (Reps.c2 (show Kd.M k32 _ _ _ (⟨5, 3⟩ : S32) [.int .i64 5, .int .i64 3] from (k32_mkM _ _ _ (⟨5, 3⟩ : S32) )) (Reps.c2 (show Kd.M k32 _ _ _ (⟨4, 0⟩ : S32) [.int .i64 4, .int .i64 0] from (k32_mkM _ _ _ (⟨4, 0⟩ : S32) )) (Reps.none _ _)))); intro v126 w13 ho14 hb hg_ hnew_; clear hg_ hnew_; (first | rw [← Ny125.out] at ho14 | (simp only [Int.reduceToNat] at ho14; rw [← Ny125.out] at ho14)); have HO127 := AX (Kd.R_lower ho14 (below_size bw)); replace HB := AX (below_step bw hb); clear hb ho14; obtain ⟨Ao15, co15, eo15⟩ := Kd.R_slice HO127.out; subst eo15) | ((with_reducible refine gate_callee (f := 9) rfl ?_); refine gL (some 8) Try.func9 #[.slice Ao15 y125.length co15, .int .i64 7] ?_; (with_reducible refine (bank_Take.calls k (fun k_ => some k_ = (.slice Ao15 y125.length co15 : Value).ownBlock) _ _ y125 7 t128 t131 t132 _ ?side1 A1.out).mono ?_); (case side1 => exact Kd.R_V (Kd.R_tight rfl (HO127.out))); rintro e w16 ⟨v129, rfl, ho0, hb⟩; refine ⟨_, rfl, ?_⟩; have HO130 := AX (Kd.R_lower (Kd.R_new' (Kd.R_mono (ok' := fun k_ => True) ho0 (fun _ hk_ => trivial)) (Kd.R_lt (kr HO127))) (below_size bw)); replace HO127 := AX (Kd.R_elder' (kr HO127) (Kd.R_base ho0) hb); replace HB := AX (below_step bw hb); (try clear hb); (try clear hb2); (try clear hk); (try clear hi); (try clear ho0)))
   go_ret
   exact ⟨by first | rfl | (simp [errW_none, errW_some] <;> rfl) | (simp [*, errW_none, errW_some] <;> rfl), bw⟩
 ·rw [if_neg c2] at H
  have c2b0 : (t132 == 0) = false := beq_eq_false_iff_ne.mpr c2
  have c2b1 : (t132 != 0) = true := bne_iff_ne.mpr c2
  obtain rfl := Option.some.inj H
  go_enter Try.func8, Try.ntmps8
  go_wp2_with (first | ((with_reducible refine gate_dst (N := 7) rfl ?_); (try (refine gate_guard (by rfl) ?_; dsimp only)); refine Kd.R_lit k32 _ 32 ?hg (N := 7) ?hd (xs := ([(⟨5, 3⟩ : S32), (⟨4, 0⟩ : S32)] : List (S32))) (inner := [.int .i64 5, .int .i64 3, .int .i64 4, .int .i64 0]) (ok := fun _ => True) (okp := fun _ => True) ?hr ?hp (fun _ hk => hk) trivial (Below.refl _ _) (Nat.le_refl _) (by simp) ?_; (case hd => rfl); (case hg => rfl); (case hr => first | (go_simp; done) | (go_simp; rfl)); (case hp => exact (Reps.c2 (show Kd.M k32 _ _ _ (⟨5, 3⟩ : S32) [.int .i64 5, .int .i64 3] from (k32_mkM _ _ _ (⟨5, 3⟩ : S32) )) (Reps.c2 (show Kd.M k32 _ _ _ (⟨4, 0⟩ : S32) [.int .i64 4, .int .i64 0] from (k32_mkM _ _ _ (⟨4, 0⟩ : S32) )) (Reps.none _ _)))); intro v126 w17 ho18 hb hg_ hnew_; clear hg_ hnew_; (first | rw [← Ny125.out] at ho18 | (simp only [Int.reduceToNat] at ho18; rw [← Ny125.out] at ho18)); have HO127 := AX (Kd.R_lower ho18 (below_size bw)); replace HB := AX (below_step bw hb); clear hb ho18; obtain ⟨Ao19, co19, eo19⟩ := Kd.R_slice HO127.out; subst eo19) | ((with_reducible refine gate_callee (f := 9) rfl ?_); refine gL (some 8) Try.func9 #[.slice Ao19 y125.length co19, .int .i64 7] ?_; (with_reducible refine (bank_Take.calls k (fun k_ => some k_ = (.slice Ao19 y125.length co19 : Value).ownBlock) _ _ y125 7 t128 t131 t132 _ ?side1 A1.out).mono ?_); (case side1 => exact Kd.R_V (Kd.R_tight rfl (HO127.out))); rintro e w20 ⟨v129, rfl, ho0, hb⟩; refine ⟨_, rfl, ?_⟩; have HO130 := AX (Kd.R_lower (Kd.R_new' (Kd.R_mono (ok' := fun k_ => True) ho0 (fun _ hk_ => trivial)) (Kd.R_lt (kr HO127))) (below_size bw)); replace HO127 := AX (Kd.R_elder' (kr HO127) (Kd.R_base ho0) hb); replace HB := AX (below_step bw hb); (try clear hb); (try clear hb2); (try clear hk); (try clear hi); (try clear ho0)))
  go_ret
  exact ⟨by first | rfl | (simp [errW_none, errW_some] <;> rfl) | (simp [*, errW_none, errW_some] <;> rfl), bw⟩

/-! ### pylonlaw19_copyLots: function 10 -/
def pylonlaw19_copyLots.f (l0 : List (S32)) : Option ((List (S32))) := (some (([] : List (S32)) : List (S32))).bind fun y137 => (if y137.length + l0.length < 8796093022208 then (some (y137 ++ l0)) else (none))
set_option maxHeartbeats 8000000 in
set_option maxRecDepth 100000 in
theorem pylonlaw19_copyLots.calls (A0 : Option Addr) (c0 : Nat) (l0 : List (S32)) (r : List (S32)) (w : World) (hr0 : Kd.C k32 w A0 l0.length l0) (hc0 : l0.length ≤ c0) (h : pylonlaw19_copyLots.f l0 = some r) :
  Calls Try.prog 10 #[.slice A0 l0.length c0] w fun e w' => ∃ v0_ : Value, e = .returned (v0_) ∧ Kd.R k32 32 w' w.heap.size (fun _ => True) v0_ r ∧ Below w.heap.size w w' := by
 have HR0 := AX hr0
 have HC0 := AX hc0
 clear hr0 hc0
 have HB := AX (Below.refl w.heap.size w)
 have H : ((some (([] : List (S32)) : List (S32))).bind fun y137 => (if y137.length + l0.length < 8796093022208 then (some (y137 ++ l0)) else (none))) = some r := h
 clear h
 obtain ⟨y137, hy137⟩ : ∃ y_ : List (S32), y_ = (([] : List (S32))) := ⟨_, rfl⟩
 replace H : (if y137.length + l0.length < 8796093022208 then (some (y137 ++ l0)) else (none)) = some r := by first | (rw [hy137]; with_reducible exact H) | (have H2_ := (Option.bind_some _ _).symm.trans H; rw [hy137]; with_reducible exact H2_) | (have H2_ := (Option.bind_some _ _).symm.trans H; with_reducible exact H2_) | with_reducible exact H | (rw [hy137]; exact H) | exact H
 have Ny137 := AX hy137
 clear hy137
 by_cases c2 : y137.length + l0.length < 8796093022208
 ·rw [if_pos c2] at H
  have LMc2 := AX c2
  clear c2
  obtain ⟨y140, hy140⟩ : ∃ y_ : List (S32), y_ = (y137 ++ l0) := ⟨_, rfl⟩
  replace H : (some y140) = some r := by first | (rw [hy140]; with_reducible exact H) | (have H2_ := (Option.bind_some _ _).symm.trans H; rw [hy140]; with_reducible exact H2_) | (have H2_ := (Option.bind_some _ _).symm.trans H; with_reducible exact H2_) | with_reducible exact H | (rw [hy140]; exact H) | exact H
  have Ny140 := AX hy140
  clear hy140
  obtain rfl := Option.some.inj H
  go_enter Try.func10, Try.ntmps10
  go_wp2_with (first | ((with_reducible refine gate_dst (N := 3) rfl ?_); refine Kd.R_lit k32 _ 32 ?hg (N := 3) ?hd (xs := ([] : List (S32))) (inner := []) (ok := fun _ => True) (okp := fun _ => True) ?hr ?hp (fun _ hk => hk) trivial (Below.refl _ _) (Nat.le_refl _) (by simp) ?_; (case hd => rfl); (case hg => rfl); (case hr => first | (go_simp; done) | (go_simp; rfl)); (case hp => exact (Reps.none _ _)); intro v138 w3 ho4 hb hg_ hnew_; clear hg_ hnew_; (first | rw [← Ny137.out] at ho4 | (simp only [Int.reduceToNat] at ho4; rw [← Ny137.out] at ho4)); have HO139 := AX (Kd.R_lower ho4 (below_size bw)); replace HB := AX (below_step bw hb); clear hb ho4) | ((with_reducible refine gate_builtin (b := .append) (xs := #[.tmp 3, .tmp 4]) rfl ?_); at_builtin; refine Kd.R_append_rows k32 (w0 := w) w.heap.size rfl (.tmp 3) (.tmp 4) 22 32 (.agg #[(.int .i64 0), (.int .i64 0)]) 16 rfl Try.underlying22 info32 rfl (by decide) (by omega) v138 y137 l0 _ _ _ (fun _ => True) (fun _ => False) rfl rfl ?aO ?aR (fun _ _ h => h) (fun _ h => h.elim) ?aF ?aB ?aS ?aL ?_; (case aR => repeat (first | exact (Kd.C_below HR0.out HB.out) | (with_reducible refine Kd.C_alloc ?_ _) | (with_reducible refine Kd.C_drewN ?_ _) | (with_reducible refine Kd.C_drew ?_))); (case aB => exact bw); (case aF => exact (fun _ _ => trivial)); (case aO => exact (kr HO139)); (case aS => exact (below_size bw)); (case aL => have := LMc2.out; omega); intro v141 w5 ho hb hg hat; rw [← Ny140.out] at ho; have n0_ := AX (hb); have n1_ := AX (ho); clear HB; clear HO139; have HB := n0_; have HO142 := n1_; clear n0_ n1_; clear ho hb hg hat))
  go_ret
  exact ⟨_, by first | rfl | (simp [errW_none, errW_some] <;> rfl) | (simp [*, errW_none, errW_some] <;> rfl), kr HO142, bw⟩
 ·rw [if_neg c2] at H
  exact absurd H (by simp)

/-! ### pylonref19_Check: function 11 -/
mutual
def pylonref19_Check.l0 : Nat → List (S32) → Int → Int → Int → Option (Int)
 | 0, _, _, _, _ => none
 | k + 1, x0, x3, x7, x8 => if x8 < x7 then (if 0 ≤ x8 then (if x8 < (x0.length : Int) then (if ((rd_T32 x0 x8).f0) < 1 then (pylonref19_Check.j1 k x0 x3 x7 x8 true ((rd_T32 x0 x8).f0) ((rd_T32 x0 x8).f1)) else (if ((rd_T32 x0 x8).f0) > 1000000000000000 then (pylonref19_Check.j1 k x0 x3 x7 x8 true ((rd_T32 x0 x8).f0) ((rd_T32 x0 x8).f1)) else (if ((rd_T32 x0 x8).f1) < 0 then (pylonref19_Check.j1 k x0 x3 x7 x8 true ((rd_T32 x0 x8).f0) ((rd_T32 x0 x8).f1)) else (if ((rd_T32 x0 x8).f1) > 36 then (pylonref19_Check.j1 k x0 x3 x7 x8 true ((rd_T32 x0 x8).f0) ((rd_T32 x0 x8).f1)) else (if x8 > 0 then (if 0 ≤ (wrap64 (x8 - 1)) then (if (wrap64 (x8 - 1)) < (x0.length : Int) then (pylonref19_Check.j1 k x0 x3 x7 x8 (decide (((rd_T32 x0 x8).f1) > ((rd_T32 x0 (wrap64 (x8 - 1))).f1))) ((rd_T32 x0 x8).f0) ((rd_T32 x0 x8).f1)) else (none)) else (none)) else (pylonref19_Check.j1 k x0 x3 x7 x8 false ((rd_T32 x0 x8).f0) ((rd_T32 x0 x8).f1))))))) else (none)) else (none)) else (some 0)
def pylonref19_Check.j1 : Nat → List (S32) → Int → Int → Int → Bool → Int → Int → Option (Int)
 | 0, _, _, _, _, _, _, _ => none
 | k + 1, x0, x3, x7, x8, x47, x145000, x145001 => if x47 = true then (some 8) else (if (wrap64 (x3 + x145000)) > 1000000000000000 then (some 8) else (pylonref19_Check.l0 k x0 (wrap64 (x3 + x145000)) x7 (wrap64 (x8 + 1))))
end
def pylonref19_Check.f (k : Nat) (l0 : List (S32)) : Option (Int) := pylonref19_Check.l0 k l0 0 (l0.length : Int) 0
theorem pylonref19_Check.mono_l : ∀ k, (∀ y0 y1 y2 y3, LeO (pylonref19_Check.l0 k y0 y1 y2 y3) (pylonref19_Check.l0 (k + 1) y0 y1 y2 y3)) ∧ (∀ y0 y1 y2 y3 y4 y5 y6, LeO (pylonref19_Check.j1 k y0 y1 y2 y3 y4 y5 y6) (pylonref19_Check.j1 (k + 1) y0 y1 y2 y3 y4 y5 y6))
 | 0 => ⟨fun _ _ _ _ r h => by simp [pylonref19_Check.l0] at h, fun _ _ _ _ _ _ _ r h => by simp [pylonref19_Check.j1] at h⟩
 | k + 1 => by
  obtain ⟨ih0, ih1⟩ := pylonref19_Check.mono_l k
  refine ⟨?_, ?_⟩
  ·intro y0 y1 y2 y3
   unfold pylonref19_Check.l0
   repeat' first
   | (with_reducible exact ih0 _ _ _ _)
   | (with_reducible exact ih1 _ _ _ _ _ _ _)
   | (with_reducible exact LeO.refl _)
   | (with_reducible exact LeO.none _)
   | (with_reducible refine LeO.ite ?_ ?_)
   | (with_reducible refine LeO.bind ?_ (fun _ => ?_))
  ·intro y0 y1 y2 y3 y4 y5 y6
   unfold pylonref19_Check.j1
   repeat' first
   | (with_reducible exact ih0 _ _ _ _)
   | (with_reducible exact ih1 _ _ _ _ _ _ _)
   | (with_reducible exact LeO.refl _)
   | (with_reducible exact LeO.none _)
   | (with_reducible refine LeO.ite ?_ ?_)
   | (with_reducible refine LeO.bind ?_ (fun _ => ?_))
theorem pylonref19_Check.mono : ∀ a0 k, LeO (pylonref19_Check.f k a0) (pylonref19_Check.f (k + 1) a0) := by
 intro a0 k
 obtain ⟨ih0, ih1⟩ := pylonref19_Check.mono_l k
 unfold pylonref19_Check.f
 repeat' first
   | (with_reducible exact ih0 _ _ _ _)
   | (with_reducible exact ih1 _ _ _ _ _ _ _)
   | (with_reducible exact LeO.refl _)
   | (with_reducible exact LeO.none _)
   | (with_reducible refine LeO.ite ?_ ?_)
   | (with_reducible refine LeO.bind ?_ (fun _ => ?_))
set_option maxHeartbeats 8000000 in
set_option maxRecDepth 100000 in
theorem pylonref19_Check.calls (k : Nat) (A0 : Option Addr) (c0 : Nat) (l0 : List (S32)) (r : Int) (w : World) (hr0 : Kd.C k32 w A0 l0.length l0) (hc0 : l0.length ≤ c0) (h : pylonref19_Check.f k l0 = some r) :
  Calls Try.prog 11 #[.slice A0 l0.length c0] w fun e w' => e = .returned (.int .i64 r) ∧ Below w.heap.size w w' := by
 have hu32 := Try.underlying32
 have HR0 := AX hr0
 have HC0 := AX hc0
 clear hr0 hc0
 have HB := AX (Below.refl w.heap.size w)
 have H : (pylonref19_Check.l0 k l0 0 (l0.length : Int) 0) = some r := h
 clear h
 have H' := AX H
 clear H
 go_enter Try.func11, Try.ntmps11
 go_wp2
 repeat (go_quiet (fail); try go_wp2)
 go_loopg [3, 8] k (fun kq v3 v8 w' => ∃ (x3_1 : Int) (x8_1 : Int), v3 = .int .i64 x3_1 ∧ v8 = .int .i64 x8_1 ∧ Aside0 (pylonref19_Check.l0 kq l0 x3_1 (l0.length : Int) x8_1 = some r) ∧ Aside0 (kq ≤ k) ∧ Aside0 (Below w.heap.size w w'))
 case atStart => exact ⟨(0), (0), (by first | rfl | (simp; done) | (simp [*]; done)), (by first | rfl | (simp; done) | (simp [*]; done)), H', ⟨Nat.le_refl _⟩, ⟨bw⟩⟩
 case round =>
  clear H'
  obtain ⟨x3_1, x8_1, rfl, rfl, HA, HK1, HB⟩ := hrel
  cases gk with
  | zero => exact absurd HA.out (by simp [pylonref19_Check.l0])
  | succ k1 =>
   have H := HA.out
   clear HA
   simp only [pylonref19_Check.l0] at H
   by_cases c2 : x8_1 < (l0.length : Int)
   ·rw [if_pos c2] at H
    have c2b0 : decide (x8_1 < (l0.length : Int)) = true := decide_eq_true c2
    clear c2
    by_cases c3 : 0 ≤ x8_1
    ·rw [if_pos c3] at H
     have c3b0 : decide (0 ≤ x8_1) = true := decide_eq_true c3
     clear c3
     by_cases c4 : x8_1 < (l0.length : Int)
     ·rw [if_pos c4] at H
      have c4b0 : decide (x8_1 < (l0.length : Int)) = true := decide_eq_true c4
      clear c4
      have HC5 := AX H
      clear H
      have p143 : 0 ≤ (x8_1 : Int) := of_decide_eq_true (by first | (with_reducible assumption) | assumption)
      have q143 : x8_1 < (l0.length : Int) := of_decide_eq_true (by first | (with_reducible assumption) | assumption)
      obtain ⟨ad143, e143, hx143_0, hx143_1⟩ := at_T32 HR0.out x8_1 p143 q143
      cases e143
      replace hx143_0 := bcl HB hx143_0
      replace hx143_1 := bcl HB hx143_1
      replace p143 := eq_true p143
      replace q143 := eq_true q143
      go_upto_region 6 with (first | ((with_reducible refine gate_dst (N := 5) rfl ?_); refine bx 5 #[.int .i64 0, .int .i64 0] 32 ?_; intro gb144 hg w6 hbox hb; have BK144 := AX (hbox); have GW144 := gwl (w := w) hg bw; have GE144 := GW144; replace HB := AX (below_step bw hb); clear hb hbox hg; obtain ⟨hcz7_0, hcz7_1⟩ := blkC2 (w := w6) BK144.out; obtain ⟨hfz7_0, hfz7_1⟩ := blkF2 BK144.out))
      repeat (go_quiet (first | ((with_reducible refine gate_dst (N := 5) rfl ?_); refine bx 5 #[.int .i64 0, .int .i64 0] 32 ?_; intro gb144 hg w6 hbox hb; have BK144 := AX (hbox); have GW144 := gwl (w := w) hg bw; have GE144 := GW144; replace HB := AX (below_step bw hb); clear hb hbox hg; obtain ⟨hcz7_0, hcz7_1⟩ := blkC2 (w := w6) BK144.out; obtain ⟨hfz7_0, hfz7_1⟩ := blkF2 BK144.out)); go_upto_region 6 with (first | ((with_reducible refine gate_dst (N := 5) rfl ?_); refine bx 5 #[.int .i64 0, .int .i64 0] 32 ?_; intro gb144 hg w6 hbox hb; have BK144 := AX (hbox); have GW144 := gwl (w := w) hg bw; have GE144 := GW144; replace HB := AX (below_step bw hb); clear hb hbox hg; obtain ⟨hcz7_0, hcz7_1⟩ := blkC2 (w := w6) BK144.out; obtain ⟨hfz7_0, hfz7_1⟩ := blkF2 BK144.out)))
      (try simp only [Act.put, List.setIfInBounds_toArray, List.set_cons_zero, List.set_cons_succ])
      go_cut [47] (fun v47 wc => ∃ (kq : Nat) (x47_4 : Bool), v47 = .bool x47_4 ∧ Aside0 (pylonref19_Check.j1 kq l0 x3_1 (l0.length : Int) x8_1 x47_4 ((rd_T32 l0 x8_1).f0) ((rd_T32 l0 x8_1).f1) = some r) ∧ Aside0 (kq ≤ k1) ∧ Aside0 (wc.heap[gb144]? = some (.cells #[.int .i64 ((rd_T32 l0 x8_1).f0), .int .i64 ((rd_T32 l0 x8_1).f1)] 32 (0, 0))) ∧ Aside0 (Below w.heap.size w wc))
      case first =>
       have H := HC5.out
       clear HC5
       by_cases c8 : ((rd_T32 l0 x8_1).f0) < 1
       ·rw [if_pos c8] at H
        have c8b0 : decide (((rd_T32 l0 x8_1).f0) < 1) = true := decide_eq_true c8
        clear c8
        (first | rw [c8b0] | (simp only [i64_w, i32_w]; rw [c8b0]) | skip)
        have H' := AX H
        clear H
        obtain ⟨hcz9_0, hcz9_1⟩ := blkC2 (w := w6) BK144.out
        obtain ⟨hfz9_0, hfz9_1⟩ := blkF2 BK144.out
        go_wp2
        repeat (go_quiet (fail); try go_wp2)
        go_meet
        case rel => exact ⟨_, (true), (by first | rfl | (simp; done) | (simp [*]; done)), H', ⟨by have := HK1.out; first | omega | exact Nat.le_refl _⟩, ⟨by (with_reducible repeat first|refine blk_drewN ?_ _|refine blk_drew ?_|refine blk_alloc ?_ _); refine blk_put (cs := #[.int .i64 ((rd_T32 l0 x8_1).f0), .int .i64 0]) ?_ 1 _ rfl; (with_reducible repeat first|refine blk_drewN ?_ _|refine blk_drew ?_|refine blk_alloc ?_ _); refine blk_put (cs := #[.int .i64 0, .int .i64 0]) ?_ 0 _ rfl; (with_reducible repeat first|refine blk_drewN ?_ _|refine blk_drew ?_|refine blk_alloc ?_ _); exact BK144.out⟩, ⟨bw⟩⟩
       ·rw [if_neg c8] at H
        have c8b0 : decide (((rd_T32 l0 x8_1).f0) < 1) = false := decide_eq_false c8
        clear c8
        (first | rw [c8b0] | (simp only [i64_w, i32_w]; rw [c8b0]) | skip)
        by_cases c10 : ((rd_T32 l0 x8_1).f0) > 1000000000000000
        ·rw [if_pos c10] at H
         have c10b0 : decide (1000000000000000 < ((rd_T32 l0 x8_1).f0)) = true := decide_eq_true c10
         clear c10
         have H' := AX H
         clear H
         obtain ⟨hcz11_0, hcz11_1⟩ := blkC2 (w := w6) BK144.out
         obtain ⟨hfz11_0, hfz11_1⟩ := blkF2 BK144.out
         go_wp2
         repeat (go_quiet (fail); try go_wp2)
         go_meet
         case rel => exact ⟨_, (true), (by first | rfl | (simp; done) | (simp [*]; done)), H', ⟨by have := HK1.out; first | omega | exact Nat.le_refl _⟩, ⟨by (with_reducible repeat first|refine blk_drewN ?_ _|refine blk_drew ?_|refine blk_alloc ?_ _); refine blk_put (cs := #[.int .i64 ((rd_T32 l0 x8_1).f0), .int .i64 0]) ?_ 1 _ rfl; (with_reducible repeat first|refine blk_drewN ?_ _|refine blk_drew ?_|refine blk_alloc ?_ _); refine blk_put (cs := #[.int .i64 0, .int .i64 0]) ?_ 0 _ rfl; (with_reducible repeat first|refine blk_drewN ?_ _|refine blk_drew ?_|refine blk_alloc ?_ _); exact BK144.out⟩, ⟨bw⟩⟩
        ·rw [if_neg c10] at H
         have c10b0 : decide (1000000000000000 < ((rd_T32 l0 x8_1).f0)) = false := decide_eq_false c10
         clear c10
         by_cases c12 : ((rd_T32 l0 x8_1).f1) < 0
         ·rw [if_pos c12] at H
          have c12b0 : decide (((rd_T32 l0 x8_1).f1) < 0) = true := decide_eq_true c12
          clear c12
          have H' := AX H
          clear H
          obtain ⟨hcz13_0, hcz13_1⟩ := blkC2 (w := w6) BK144.out
          obtain ⟨hfz13_0, hfz13_1⟩ := blkF2 BK144.out
          go_wp2
          repeat (go_quiet (fail); try go_wp2)
          go_meet
          case rel => exact ⟨_, (true), (by first | rfl | (simp; done) | (simp [*]; done)), H', ⟨by have := HK1.out; first | omega | exact Nat.le_refl _⟩, ⟨by (with_reducible repeat first|refine blk_drewN ?_ _|refine blk_drew ?_|refine blk_alloc ?_ _); refine blk_put (cs := #[.int .i64 ((rd_T32 l0 x8_1).f0), .int .i64 0]) ?_ 1 _ rfl; (with_reducible repeat first|refine blk_drewN ?_ _|refine blk_drew ?_|refine blk_alloc ?_ _); refine blk_put (cs := #[.int .i64 0, .int .i64 0]) ?_ 0 _ rfl; (with_reducible repeat first|refine blk_drewN ?_ _|refine blk_drew ?_|refine blk_alloc ?_ _); exact BK144.out⟩, ⟨bw⟩⟩
         ·rw [if_neg c12] at H
          have c12b0 : decide (((rd_T32 l0 x8_1).f1) < 0) = false := decide_eq_false c12
          clear c12
          by_cases c14 : ((rd_T32 l0 x8_1).f1) > 36
          ·rw [if_pos c14] at H
           have c14b0 : decide (36 < ((rd_T32 l0 x8_1).f1)) = true := decide_eq_true c14
           clear c14
           have H' := AX H
           clear H
           obtain ⟨hcz15_0, hcz15_1⟩ := blkC2 (w := w6) BK144.out
           obtain ⟨hfz15_0, hfz15_1⟩ := blkF2 BK144.out
           go_wp2
           repeat (go_quiet (fail); try go_wp2)
           go_meet
           case rel => exact ⟨_, (true), (by first | rfl | (simp; done) | (simp [*]; done)), H', ⟨by have := HK1.out; first | omega | exact Nat.le_refl _⟩, ⟨by (with_reducible repeat first|refine blk_drewN ?_ _|refine blk_drew ?_|refine blk_alloc ?_ _); refine blk_put (cs := #[.int .i64 ((rd_T32 l0 x8_1).f0), .int .i64 0]) ?_ 1 _ rfl; (with_reducible repeat first|refine blk_drewN ?_ _|refine blk_drew ?_|refine blk_alloc ?_ _); refine blk_put (cs := #[.int .i64 0, .int .i64 0]) ?_ 0 _ rfl; (with_reducible repeat first|refine blk_drewN ?_ _|refine blk_drew ?_|refine blk_alloc ?_ _); exact BK144.out⟩, ⟨bw⟩⟩
          ·rw [if_neg c14] at H
           have c14b0 : decide (36 < ((rd_T32 l0 x8_1).f1)) = false := decide_eq_false c14
           clear c14
           by_cases c16 : x8_1 > 0
           ·rw [if_pos c16] at H
            have c16b0 : decide (0 < x8_1) = true := decide_eq_true c16
            clear c16
            obtain ⟨ji17, hji17⟩ : ∃ j_ : Int, (wrap64 (x8_1 - 1)) = j_ := ⟨_, rfl⟩
            replace H : (if 0 ≤ (ji17) then (if (ji17) < (l0.length : Int) then (pylonref19_Check.j1 k1 l0 x3_1 (l0.length : Int) x8_1 (decide (((rd_T32 l0 x8_1).f1) > ((rd_T32 l0 (ji17)).f1))) ((rd_T32 l0 x8_1).f0) ((rd_T32 l0 x8_1).f1)) else (none)) else (none)) = some r := by first | (rw [hji17] at H; exact H) | (simp only [hji17] at H ⊢; exact H)
            have hji17w : (IntKind.i64.wrap (x8_1 - 1)) = ji17 := (i64_w _).trans hji17
            by_cases c18 : 0 ≤ (ji17)
            ·rw [if_pos c18] at H
             have c18b0 : decide (0 ≤ (ji17)) = true := decide_eq_true c18
             clear c18
             by_cases c19 : (ji17) < (l0.length : Int)
             ·rw [if_pos c19] at H
              have c19b0 : decide ((ji17) < (l0.length : Int)) = true := decide_eq_true c19
              clear c19
              have H' := AX H
              clear H
              obtain ⟨hcz20_0, hcz20_1⟩ := blkC2 (w := w6) BK144.out
              obtain ⟨hfz20_0, hfz20_1⟩ := blkF2 BK144.out
              have p145 : 0 ≤ ((ji17) : Int) := of_decide_eq_true (by first | (with_reducible assumption) | assumption)
              have q145 : (ji17) < (l0.length : Int) := of_decide_eq_true (by first | (with_reducible assumption) | assumption)
              obtain ⟨ad145, e145, hx145_0, hx145_1⟩ := at_T32 HR0.out (ji17) p145 q145
              obtain rfl : ad143 = ad145 := (by injection e145)
              have hn145_0 : ad143.block ≠ gb144 := Nat.ne_of_lt (Nat.lt_of_lt_of_le (by have := World.block_lt_of_cell? _ _ hx145_0; first | rwa [add_block] at this | exact this) GW144.out)
              have hn145_1 : ad143.block ≠ gb144 := Nat.ne_of_lt (Nat.lt_of_lt_of_le (by have := World.block_lt_of_cell? _ _ hx145_0; first | rwa [add_block] at this | exact this) GW144.out)
              replace hx145_0 := bcl HB hx145_0
              replace hx145_1 := bcl HB hx145_1
              replace hx145_0 := (cell_far (p := ⟨gb144, 0, none⟩) (by first | (rw [add_block]; exact hn145_0) | (show (Addr.add _ _).block ≠ _; rw [add_block]; exact hn145_0) | exact hn145_0) (.int .i64 ((rd_T32 l0 x8_1).f0))).trans hx145_0
              replace hx145_1 := (cell_far (p := ⟨gb144, 0, none⟩) (by first | (rw [add_block]; exact hn145_0) | (show (Addr.add _ _).block ≠ _; rw [add_block]; exact hn145_0) | exact hn145_0) (.int .i64 ((rd_T32 l0 x8_1).f0))).trans hx145_1
              replace hx145_0 := (cell_far (p := ⟨gb144, 1, none⟩) (by first | (rw [add_block]; exact hn145_1) | (show (Addr.add _ _).block ≠ _; rw [add_block]; exact hn145_1) | exact hn145_1) (.int .i64 ((rd_T32 l0 x8_1).f1))).trans hx145_0
              replace hx145_1 := (cell_far (p := ⟨gb144, 1, none⟩) (by first | (rw [add_block]; exact hn145_1) | (show (Addr.add _ _).block ≠ _; rw [add_block]; exact hn145_1) | exact hn145_1) (.int .i64 ((rd_T32 l0 x8_1).f1))).trans hx145_1
              (try have hy145_0 := fun (n_ : Nat) => (show ((((w6.drewN n_).setCell ⟨gb144, 0, none⟩ (.int .i64 ((rd_T32 l0 x8_1).f0))).setCell ⟨gb144, 1, none⟩ (.int .i64 ((rd_T32 l0 x8_1).f1)))).cell? _ = some _ from hx145_0))
              (try have hy145_1 := fun (n_ : Nat) => (show ((((w6.drewN n_).setCell ⟨gb144, 0, none⟩ (.int .i64 ((rd_T32 l0 x8_1).f0))).setCell ⟨gb144, 1, none⟩ (.int .i64 ((rd_T32 l0 x8_1).f1)))).cell? _ = some _ from hx145_1))
              clear hn145_0
              clear hn145_1
              replace p145 := eq_true p145
              replace q145 := eq_true q145
              go_wp2
              repeat (go_quiet (fail); try go_wp2)
              go_meet
              case rel => exact ⟨_, (decide (((rd_T32 l0 x8_1).f1) > ((rd_T32 l0 (ji17)).f1))), (by first | rfl | (simp; done) | (simp only [← hji17] <;> (first | rfl | simp)) | (simp [*]; done)), H', ⟨by have := HK1.out; first | omega | exact Nat.le_refl _⟩, ⟨by (with_reducible repeat first|refine blk_drewN ?_ _|refine blk_drew ?_|refine blk_alloc ?_ _); refine blk_put (cs := #[.int .i64 ((rd_T32 l0 x8_1).f0), .int .i64 0]) ?_ 1 _ rfl; (with_reducible repeat first|refine blk_drewN ?_ _|refine blk_drew ?_|refine blk_alloc ?_ _); refine blk_put (cs := #[.int .i64 0, .int .i64 0]) ?_ 0 _ rfl; (with_reducible repeat first|refine blk_drewN ?_ _|refine blk_drew ?_|refine blk_alloc ?_ _); exact BK144.out⟩, ⟨bw⟩⟩
             ·rw [if_neg c19] at H
              exact absurd H (by simp)
            ·rw [if_neg c18] at H
             exact absurd H (by simp)
           ·rw [if_neg c16] at H
            have c16b0 : decide (0 < x8_1) = false := decide_eq_false c16
            clear c16
            have H' := AX H
            clear H
            obtain ⟨hcz21_0, hcz21_1⟩ := blkC2 (w := w6) BK144.out
            obtain ⟨hfz21_0, hfz21_1⟩ := blkF2 BK144.out
            go_wp2
            repeat (go_quiet (fail); try go_wp2)
            go_meet
            case rel => exact ⟨_, (false), (by first | rfl | (simp; done) | (simp [*]; done)), H', ⟨by have := HK1.out; first | omega | exact Nat.le_refl _⟩, ⟨by (with_reducible repeat first|refine blk_drewN ?_ _|refine blk_drew ?_|refine blk_alloc ?_ _); refine blk_put (cs := #[.int .i64 ((rd_T32 l0 x8_1).f0), .int .i64 0]) ?_ 1 _ rfl; (with_reducible repeat first|refine blk_drewN ?_ _|refine blk_drew ?_|refine blk_alloc ?_ _); refine blk_put (cs := #[.int .i64 0, .int .i64 0]) ?_ 0 _ rfl; (with_reducible repeat first|refine blk_drewN ?_ _|refine blk_drew ?_|refine blk_alloc ?_ _); exact BK144.out⟩, ⟨bw⟩⟩
      case rest =>
       clear HC5
       try clear c2b0
       try clear c3b0
       try clear c4b0
       try clear hcz7_0 hcz7_1
       try clear hfz7_0 hfz7_1
       try clear hx143_0
       try clear hx143_1
       try clear p143
       try clear q143
       obtain ⟨kq, x47_4, rfl, HA, HJ4, BK144, HB⟩ := hcut
       cases kq with
       | zero => exact absurd HA.out (by simp [pylonref19_Check.j1])
       | succ kj4 =>
        have H := HA.out
        clear HA
        simp only [pylonref19_Check.j1] at H
        by_cases c22 : x47_4 = true
        ·subst c22
         have H1 : (some 8) = some r := by rw [if_pos rfl] at H; exact H
         clear H
         have H := H1
         clear H1
         obtain rfl := Option.some.inj H
         go_wp2
         repeat (go_quiet (fail); try go_wp2)
         go_ret
         exact ⟨by first | rfl | (simp [errW_none, errW_some] <;> rfl) | (simp [*, errW_none, errW_some] <;> rfl), bw⟩
        ·replace c22 := Bool.eq_false_iff.mpr c22
         subst c22
         have H1 : (if (wrap64 (x3_1 + ((rd_T32 l0 x8_1).f0))) > 1000000000000000 then (some 8) else (pylonref19_Check.l0 kj4 l0 (wrap64 (x3_1 + ((rd_T32 l0 x8_1).f0))) (l0.length : Int) (wrap64 (x8_1 + 1)))) = some r := by rw [if_neg (show ¬ (false = true) by decide)] at H; exact H
         clear H
         have H := H1
         clear H1
         by_cases c23 : (wrap64 (x3_1 + ((rd_T32 l0 x8_1).f0))) > 1000000000000000
         ·rw [if_pos c23] at H
          have c23b0 : decide (1000000000000000 < (wrap64 (x3_1 + ((rd_T32 l0 x8_1).f0)))) = true := decide_eq_true c23
          clear c23
          obtain rfl := Option.some.inj H
          obtain ⟨hcz24_0, hcz24_1⟩ := blkC2 (w := wc) BK144.out
          obtain ⟨hfz24_0, hfz24_1⟩ := blkF2 BK144.out
          go_wp2
          repeat (go_quiet (fail); try go_wp2)
          go_ret
          exact ⟨by first | rfl | (simp [errW_none, errW_some] <;> rfl) | (simp [*, errW_none, errW_some] <;> rfl), bw⟩
         ·rw [if_neg c23] at H
          have c23b0 : decide (1000000000000000 < (wrap64 (x3_1 + ((rd_T32 l0 x8_1).f0)))) = false := decide_eq_false c23
          clear c23
          have H' := AX H
          clear H
          obtain ⟨hcz25_0, hcz25_1⟩ := blkC2 (w := wc) BK144.out
          obtain ⟨hfz25_0, hfz25_1⟩ := blkF2 BK144.out
          go_wp2
          repeat (go_quiet (fail); try go_wp2)
          go_roundg kj4
          case measure => have := HK1.out; have := HJ4.out; omega
          case rel => exact ⟨(wrap64 (x3_1 + ((rd_T32 l0 x8_1).f0))), (wrap64 (x8_1 + 1)), (by first | rfl | (simp; done) | (simp [*]; done)), (by first | rfl | (simp; done) | (simp [*]; done)), H', ⟨by have := HK1.out; have := HJ4.out; omega⟩, ⟨bw⟩⟩
     ·rw [if_neg c4] at H
      exact absurd H (by simp)
    ·rw [if_neg c3] at H
     exact absurd H (by simp)
   ·rw [if_neg c2] at H
    have c2b0 : decide (x8_1 < (l0.length : Int)) = false := decide_eq_false c2
    clear c2
    obtain rfl := Option.some.inj H
    go_wp2
    repeat (go_quiet (fail); try go_wp2)
    go_ret
    exact ⟨by first | rfl | (simp [errW_none, errW_some] <;> rfl) | (simp [*, errW_none, errW_some] <;> rfl), bw⟩

/-! ### bank_Balance: function 13 -/
def bank_Balance.f (k : Nat) (l0 : List (S32)) : Option (Int × Int) := (bank_sum.f k l0).bind fun bt180 => (if bt180.2 = true then (some (bt180.1, 0)) else (some (0, 8)))
theorem bank_Balance.mono : ∀ a0 k, LeO (bank_Balance.f k a0) (bank_Balance.f (k + 1) a0) := by
 intro a0 k
 unfold bank_Balance.f
 repeat' first
   | (with_reducible exact bank_sum.mono _ _)
   | (with_reducible exact LeO.refl _)
   | (with_reducible exact LeO.none _)
   | (with_reducible refine LeO.ite ?_ ?_)
   | (with_reducible refine LeO.bind ?_ (fun _ => ?_))
set_option maxHeartbeats 8000000 in
set_option maxRecDepth 100000 in
theorem bank_Balance.calls (k : Nat) (A0 : Option Addr) (c0 : Nat) (l0 : List (S32)) (r1 : Int) (r2 : Int) (w : World) (hr0 : Kd.C k32 w A0 l0.length l0) (hc0 : l0.length ≤ c0) (h : bank_Balance.f k l0 = some (r1, r2)) :
  Calls Try.prog 13 #[.slice A0 l0.length c0] w fun e w' => e = .returned (.tuple #[.int .i64 r1, .int .i64 r2]) ∧ Below w.heap.size w w' := by
 have HR0 := AX hr0
 have HC0 := AX hc0
 clear hr0 hc0
 have HB := AX (Below.refl w.heap.size w)
 have H : ((bank_sum.f k l0).bind fun bt180 => (if bt180.2 = true then (some (bt180.1, 0)) else (some (0, 8)))) = some (r1, r2) := h
 clear h
 replace H := Option.bind_eq_some_iff.mp H
 obtain ⟨⟨t180, t181⟩, A20, H⟩ := H
 replace H : (if t181 = true then (some (t180, 0)) else (some (0, 8))) = some (r1, r2) := H
 have A2 := AX A20
 clear A20
 by_cases c3 : t181 = true
 ·subst c3
  have H1 : (some (t180, 0)) = some (r1, r2) := by rw [if_pos rfl] at H; exact H
  clear H
  have H := H1
  clear H1
  simp only [Option.some.injEq, Prod.mk.injEq] at H
  obtain ⟨rfl, rfl⟩ := H
  go_enter Try.func13, Try.ntmps13
  go_wp2_with (first | ((with_reducible refine gate_callee (f := 21) rfl ?_); refine gL (some 8) Try.func21 #[.slice A0 l0.length c0] ?_; (with_reducible refine (bank_sum.calls k _ _ l0 t180 true _ ?side1 ?side2 A2.out).mono ?_); (case side1 => repeat (first | exact HR0.out | (with_reducible refine Kd.C_alloc ?_ _) | (with_reducible refine Kd.C_drewN ?_ _) | (with_reducible refine Kd.C_drew ?_))); (case side2 => exact HC0.out); rintro e w4 ⟨rfl, hb⟩; refine ⟨_, rfl, ?_⟩; replace HB := AX (below_step bw hb); (try clear hb); (try clear hb2); (try clear hk); (try clear hi)))
  go_ret2
  exact ⟨by first | rfl | (simp [errW_none, errW_some] <;> rfl) | (simp [*, errW_none, errW_some] <;> rfl), bw⟩
 ·replace c3 := Bool.eq_false_iff.mpr c3
  subst c3
  have H1 : (some (0, 8)) = some (r1, r2) := by rw [if_neg (show ¬ (false = true) by decide)] at H; exact H
  clear H
  have H := H1
  clear H1
  simp only [Option.some.injEq, Prod.mk.injEq] at H
  obtain ⟨rfl, rfl⟩ := H
  go_enter Try.func13, Try.ntmps13
  go_wp2_with (first | ((with_reducible refine gate_callee (f := 21) rfl ?_); refine gL (some 8) Try.func21 #[.slice A0 l0.length c0] ?_; (with_reducible refine (bank_sum.calls k _ _ l0 t180 false _ ?side1 ?side2 A2.out).mono ?_); (case side1 => repeat (first | exact HR0.out | (with_reducible refine Kd.C_alloc ?_ _) | (with_reducible refine Kd.C_drewN ?_ _) | (with_reducible refine Kd.C_drew ?_))); (case side2 => exact HC0.out); rintro e w5 ⟨rfl, hb⟩; refine ⟨_, rfl, ?_⟩; replace HB := AX (below_step bw hb); (try clear hb); (try clear hb2); (try clear hk); (try clear hi)))
  go_ret2
  exact ⟨by first | rfl | (simp [errW_none, errW_some] <;> rfl) | (simp [*, errW_none, errW_some] <;> rfl), bw⟩

end Go.Proofs.Ytpogcehbciacdaa.PX
