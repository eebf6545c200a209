/- Functions of the program as plain Lean functions, each with a proof that the call in the machine answers just what the plain function says; condition: the plain function answers at all. -/
import Derived.Test.YthhifeefkmaeiaaPXx0
namespace Go.Proofs.Ythhifeefkmaeiaa.PX
open Go.RowKit Go.Proofs.YthhifeefkmaeiaaW.PrintWords Go.Proofs.YthhifeefkmaeiaaW.PrintLast Go.Proofs.YthhifeefkmaeiaaW.PrintMore
attribute [local go_sem] max2_int min2_int max_two min_two max_three min_three max_four min_four   -- for this text's walks alone
set_option linter.unusedVariables false
set_option linter.unusedSimpArgs false

/-! ### fill_Line: function 12 -/
def fill_Line.f (a0 : Int) (a1 : Int) (a2 : Int) : Option (List Int × Int) :=
  if a2 < 0 ∨ 40000 < a2 ∨ (a0 < -10000000 ∨ 10000000 < a0) ∨ (a1 < -10000000 ∨ 10000000 < a1) then some ([], 8)
  else some ((List.range a2.toNat).map (fun t : Nat => Lin.out a0 a1 a2 (Lin.miss a0 a1 a2 a2.toNat) t), 0)
theorem rw_R {w : World} {b t n base : Nat} {f : Nat → Int} (h : Srw.Rw w b t f n) (hb : base ≤ b) (hn : n ≤ 40000) : Kd.R (Kd.int .i64) t w base (fun _ => True) (.slice (some ⟨b, 0, none⟩) n n) ((List.range n).map f) := by
  refine ⟨fun _ _ => trivial, (List.range n).map fun t => .int .i64 (f t), ⟨by simp [Kd.int, Kd.scalar], .inr ⟨b, n, Srw.arr f n, by simp, hb, h, by simp, by unfold maxLen; omega, by simp [Srw.arr, Kd.int, Kd.scalar], by simp only [Srw.arr, Kd.int, Kd.scalar]; exact List.take_of_length_le (by simp)⟩⟩, by simp [Kd.int, Kd.scalar], fun j p hp => ?_⟩
  have hj : j < n := by
    rcases Nat.lt_or_ge j n with c | c
    · exact c
    · simp [c] at hp
  have e : p = f j := by simpa [hj] using hp.symm
  subst e
  show List.take 1 _ = _
  simp only [Kd.int, Kd.scalar, Nat.mul_one]
  rw [List.drop_eq_getElem_cons (by simpa using hj)]
  simp
theorem fill_Line.calls (a0 : Int) (a1 : Int) (a2 : Int) (r1 : List Int) (r2 : Int) (w : World) (h : fill_Line.f a0 a1 a2 = some (r1, r2)) :
    Calls Try.prog 12 #[.int .i64 a0, .int .i64 a1, .int .i64 a2] w fun e w' => ∃ v0_ : Value, e = .returned (.tuple #[v0_, .int .i64 r2]) ∧ Kd.R (Kd.int .i64) 2 w' w.heap.size (fun _ => True) v0_ r1 ∧ Below w.heap.size w w' := by
  unfold fill_Line.f at h
  split at h
  · rename_i hc
    cases h
    exact (Srw.line_bad a0 a1 a2 w hc).mono fun e w' ⟨he, hB⟩ => ⟨_, he, Kd.R_nil _ _ _ _ _, hB⟩
  · rename_i hc
    cases h
    obtain ⟨n, rfl⟩ : ∃ n : Nat, a2 = n := ⟨a2.toNat, by omega⟩
    simp only [Int.toNat_natCast]
    exact (Srw.line_ok a0 a1 n w (by omega) (by omega) (by omega) (by omega) (by omega)).mono fun e w' ⟨B, he, hb, hR, hB⟩ => ⟨_, he, rw_R hR hb (by omega), hB⟩

/-! ### pylonref01_SameNumbers: function 13 -/
def pylonref01_SameNumbers.l0 : Nat → List Int → List Int → Int → Int → Option (Bool)
 | 0, _, _, _, _ => none
 | k + 1, x0, x1, x12, x13 => if x13 < x12 then (if 0 ≤ x13 then (if x13 < (x0.length : Int) then (if x13 < (x1.length : Int) then (if (rd x0 x13) = (rd x1 x13) then (pylonref01_SameNumbers.l0 k x0 x1 x12 (wrap64 (x13 + 1))) else (some false)) else (none)) else (none)) else (none)) else (some true)
def pylonref01_SameNumbers.f (k : Nat) (l0 : List Int) (l1 : List Int) : Option (Bool) := if (l0.length : Int) = (l1.length : Int) then (pylonref01_SameNumbers.l0 k l0 l1 (l0.length : Int) 0) else (some false)
theorem pylonref01_SameNumbers.mono_l : ∀ k, (∀ y0 y1 y2 y3, LeO (pylonref01_SameNumbers.l0 k y0 y1 y2 y3) (pylonref01_SameNumbers.l0 (k + 1) y0 y1 y2 y3))
 | 0 => fun _ _ _ _ r h => by simp [pylonref01_SameNumbers.l0] at h
 | k + 1 => by
  have ih0 := pylonref01_SameNumbers.mono_l k
  ·intro y0 y1 y2 y3
   unfold pylonref01_SameNumbers.l0
   repeat' first
   | (with_reducible exact ih0 _ _ _ _)
   | (with_reducible exact LeO.refl _)
   | (with_reducible exact LeO.none _)
   | (with_reducible refine LeO.ite ?_ ?_)
   | (with_reducible refine LeO.bind ?_ (fun _ => ?_))
theorem pylonref01_SameNumbers.mono : ∀ a0 a1 k, LeO (pylonref01_SameNumbers.f k a0 a1) (pylonref01_SameNumbers.f (k + 1) a0 a1) := by
 intro a0 a1 k
 have ih0 := pylonref01_SameNumbers.mono_l k
 unfold pylonref01_SameNumbers.f
 repeat' first
   | (with_reducible exact ih0 _ _ _ _)
   | (with_reducible exact LeO.refl _)
   | (with_reducible exact LeO.none _)
   | (with_reducible refine LeO.ite ?_ ?_)
   | (with_reducible refine LeO.bind ?_ (fun _ => ?_))
set_option maxHeartbeats 8000000 in
set_option maxRecDepth 100000 in
theorem pylonref01_SameNumbers.calls (k : Nat) (A0 : Option Addr) (c0 : Nat) (l0 : List Int) (A1 : Option Addr) (c1 : Nat) (l1 : List Int) (r : Bool) (w : World) (hr0 : Kd.C (Kd.int .i64) w A0 l0.length l0) (hc0 : l0.length ≤ c0) (hr1 : Kd.C (Kd.int .i64) w A1 l1.length l1) (hc1 : l1.length ≤ c1) (h : pylonref01_SameNumbers.f k l0 l1 = some r) :
  Calls Try.prog 13 #[.slice A0 l0.length c0, .slice A1 l1.length c1] w fun e w' => e = .returned (.bool r) ∧ Drawn0 w w' := by
 have HR0 := AX hr0
 have HC0 := AX hc0
 clear hr0 hc0
 have HR1 := AX hr1
 have HC1 := AX hc1
 clear hr1 hc1
 have H : (if (l0.length : Int) = (l1.length : Int) then (pylonref01_SameNumbers.l0 k l0 l1 (l0.length : Int) 0) else (some false)) = some r := h
 clear h
 by_cases c3 : (l0.length : Int) = (l1.length : Int)
 ·rw [if_pos c3] at H
  have c3b0 : ((l0.length : Int) == (l1.length : Int)) = true := beq_iff_eq.mpr c3
  have c3b1 : ((l0.length : Int) != (l1.length : Int)) = false := bne_eq_false_iff_eq.mpr c3
  have c3b2 : (l0.length == l1.length) = true := by first | simpa using c3 | (simp at c3 ⊢; omega)
  clear c3
  have H' := AX H
  clear H
  go_enter Try.func13, Try.ntmps13
  go_wp2
  repeat (go_quiet (fail); try go_wp2)
  go_loopg [13] k (fun kq v13 w' => ∃ (x13_1 : Int), v13 = .int .i64 x13_1 ∧ Aside0 (pylonref01_SameNumbers.l0 kq l0 l1 (l0.length : Int) x13_1 = some r) ∧ Aside0 (kq ≤ k) ∧ Drawn0 w w')
  case atStart => exact ⟨(0), (by first | rfl | (simp; done) | (simp [*]; done)), H', ⟨Nat.le_refl _⟩, by repeat (first | exact Drawn0.refl _ | apply Drawn0.step)⟩
  case round =>
   clear H'
   try clear c1
   try clear c3b0 c3b1 c3b2
   obtain ⟨x13_1, rfl, HA, HK1, ⟨m1, rfl⟩⟩ := hrel
   cases gk with
   | zero => exact absurd HA.out (by simp [pylonref01_SameNumbers.l0])
   | succ k1 =>
    have H := HA.out
    clear HA
    simp only [pylonref01_SameNumbers.l0] at H
    by_cases c4 : x13_1 < (l0.length : Int)
    ·rw [if_pos c4] at H
     have c4b0 : decide (x13_1 < (l0.length : Int)) = true := decide_eq_true c4
     clear c4
     by_cases c5 : 0 ≤ x13_1
     ·rw [if_pos c5] at H
      have c5b0 : decide (0 ≤ x13_1) = true := decide_eq_true c5
      clear c5
      by_cases c6 : x13_1 < (l0.length : Int)
      ·rw [if_pos c6] at H
       have c6b0 : decide (x13_1 < (l0.length : Int)) = true := decide_eq_true c6
       clear c6
       by_cases c7 : x13_1 < (l1.length : Int)
       ·rw [if_pos c7] at H
        have c7b0 : decide (x13_1 < (l1.length : Int)) = true := decide_eq_true c7
        clear c7
        by_cases c8 : (rd l0 x13_1) = (rd l1 x13_1)
        ·rw [if_pos c8] at H
         have c8b0 : ((rd l0 x13_1) == (rd l1 x13_1)) = true := beq_iff_eq.mpr c8
         have c8b1 : ((rd l0 x13_1) != (rd l1 x13_1)) = false := bne_eq_false_iff_eq.mpr c8
         clear c8
         have H' := AX H
         clear H
         have p101 : 0 ≤ (x13_1 : Int) := of_decide_eq_true (by first | (with_reducible assumption) | assumption)
         have q101 : x13_1 < (l0.length : Int) := of_decide_eq_true (by first | (with_reducible assumption) | assumption)
         obtain ⟨ad101, e101, hx101_0⟩ := Kd.at_int HR0.out x13_1 p101 q101
         cases e101
         replace p101 := eq_true p101
         replace q101 := eq_true q101
         have p102 : 0 ≤ (x13_1 : Int) := of_decide_eq_true (by first | (with_reducible assumption) | assumption)
         have q102 : x13_1 < (l1.length : Int) := of_decide_eq_true (by first | (with_reducible assumption) | assumption)
         obtain ⟨ad102, e102, hx102_0⟩ := Kd.at_int HR1.out x13_1 p102 q102
         cases e102
         replace p102 := eq_true p102
         replace q102 := eq_true q102
         go_wp2
         repeat (go_quiet (fail); try go_wp2)
         go_roundg k1
         case measure => have := HK1.out; omega
         case rel => exact ⟨(wrap64 (x13_1 + 1)), (by first | rfl | (simp; done) | (simp [*]; done)), H', ⟨by have := HK1.out; omega⟩, by repeat (first | exact Drawn0.refl _ | apply Drawn0.step)⟩
        ·rw [if_neg c8] at H
         have c8b0 : ((rd l0 x13_1) == (rd l1 x13_1)) = false := beq_eq_false_iff_ne.mpr c8
         have c8b1 : ((rd l0 x13_1) != (rd l1 x13_1)) = true := bne_iff_ne.mpr c8
         obtain rfl := Option.some.inj H
         have p101 : 0 ≤ (x13_1 : Int) := of_decide_eq_true (by first | (with_reducible assumption) | assumption)
         have q101 : x13_1 < (l0.length : Int) := of_decide_eq_true (by first | (with_reducible assumption) | assumption)
         obtain ⟨ad101, e101, hx101_0⟩ := Kd.at_int HR0.out x13_1 p101 q101
         cases e101
         replace p101 := eq_true p101
         replace q101 := eq_true q101
         have p102 : 0 ≤ (x13_1 : Int) := of_decide_eq_true (by first | (with_reducible assumption) | assumption)
         have q102 : x13_1 < (l1.length : Int) := of_decide_eq_true (by first | (with_reducible assumption) | assumption)
         obtain ⟨ad102, e102, hx102_0⟩ := Kd.at_int HR1.out x13_1 p102 q102
         cases e102
         replace p102 := eq_true p102
         replace q102 := eq_true q102
         go_wp2
         repeat (go_quiet (fail); try go_wp2)
         go_ret
         exact ⟨by first | rfl | (simp; done) | (simp [*]; done), by repeat (first | exact Drawn0.refl _ | apply Drawn0.step)⟩
       ·rw [if_neg c7] at H
        exact absurd H (by simp)
      ·rw [if_neg c6] at H
       exact absurd H (by simp)
     ·rw [if_neg c5] at H
      exact absurd H (by simp)
    ·rw [if_neg c4] at H
     have c4b0 : decide (x13_1 < (l0.length : Int)) = false := decide_eq_false c4
     clear c4
     obtain rfl := Option.some.inj H
     go_wp2
     repeat (go_quiet (fail); try go_wp2)
     go_ret
     exact ⟨by first | rfl | (simp; done) | (simp [*]; done), by repeat (first | exact Drawn0.refl _ | apply Drawn0.step)⟩
 ·rw [if_neg c3] at H
  have c3b0 : ((l0.length : Int) == (l1.length : Int)) = false := beq_eq_false_iff_ne.mpr c3
  have c3b1 : ((l0.length : Int) != (l1.length : Int)) = true := bne_iff_ne.mpr c3
  have c3b2 : (l0.length == l1.length) = false := by first | simpa using c3 | (simp at c3 ⊢; omega)
  obtain rfl := Option.some.inj H
  go_enter Try.func13, Try.ntmps13
  go_wp2
  repeat (go_quiet (fail); try go_wp2)
  go_ret
  exact ⟨by first | rfl | (simp; done) | (simp [*]; done), by repeat (first | exact Drawn0.refl _ | apply Drawn0.step)⟩

/-! ### pylonlaw11_awake: function 10 -/
def pylonlaw11_awake.f (k : Nat)  : Option (Bool) := (fill_Line.f 0 10 4).bind fun bt103 => (if bt103.2 = 0 then ((pylonref01_SameNumbers.f k bt103.1 (([2, 4, 6, 8] : List Int))).bind fun t110 => (some t110)) else (some false))
theorem pylonlaw11_awake.mono : ∀ k, LeO (pylonlaw11_awake.f k ) (pylonlaw11_awake.f (k + 1) ) := by
 intro  k
 unfold pylonlaw11_awake.f
 repeat' first
   | (with_reducible exact pylonref01_SameNumbers.mono _ _ _)
   | (with_reducible exact LeO.refl _)
   | (with_reducible exact LeO.none _)
   | (with_reducible refine LeO.ite ?_ ?_)
   | (with_reducible refine LeO.bind ?_ (fun _ => ?_))
set_option maxHeartbeats 8000000 in
set_option maxRecDepth 100000 in
theorem pylonlaw11_awake.calls (k : Nat)  (r : Bool) (w : World) (h : pylonlaw11_awake.f k  = some r) :
  Calls Try.prog 10 #[] w fun e w' => e = .returned (.bool r) ∧ Below w.heap.size w w' := by
 have HB := AX (Below.refl w.heap.size w)
 have H : ((fill_Line.f 0 10 4).bind fun bt103 => (if bt103.2 = 0 then ((pylonref01_SameNumbers.f k bt103.1 (([2, 4, 6, 8] : List Int))).bind fun t110 => (some t110)) else (some false))) = some r := h
 clear h
 replace H := Option.bind_eq_some_iff.mp H
 obtain ⟨⟨t103, t104⟩, A10, H⟩ := H
 replace H : (if t104 = 0 then ((pylonref01_SameNumbers.f k t103 (([2, 4, 6, 8] : List Int))).bind fun t110 => (some t110)) else (some false)) = some r := H
 have A1 := AX A10
 clear A10
 by_cases c2 : t104 = 0
 ·rw [if_pos c2] at H
  have c2b0 : (t104 == 0) = true := beq_iff_eq.mpr c2
  have c2b1 : (t104 != 0) = false := bne_eq_false_iff_eq.mpr c2
  clear c2
  obtain ⟨y107, hy107⟩ : ∃ y_ : List Int, y_ = (([2, 4, 6, 8] : List Int)) := ⟨_, rfl⟩
  replace H : ((pylonref01_SameNumbers.f k t103 y107).bind fun t110 => (some t110)) = some r := by first | (rw [hy107]; with_reducible exact H) | (have H2_ := (Option.bind_some _ _).symm.trans H; rw [hy107]; with_reducible exact H2_) | (have H2_ := (Option.bind_some _ _).symm.trans H; with_reducible exact H2_) | with_reducible exact H | (rw [hy107]; exact H) | exact H
  have Ny107 := AX hy107
  clear hy107
  replace H := Option.bind_eq_some_iff.mp H
  obtain ⟨t110, A30, H⟩ := H
  replace H : (some t110) = some r := H
  have A3 := AX A30
  clear A30
  obtain rfl := Option.some.inj H
  go_enter Try.func10, Try.ntmps10
  go_wp2_with (first | ((with_reducible refine gate_callee (f := 12) rfl ?_); refine gL (some 4) Try.func12 #[.int .i64 0, .int .i64 10, .int .i64 4] ?_; (with_reducible refine (fill_Line.calls 0 10 4 t103 t104 _ A1.out).mono ?_); rintro e w4 ⟨v105, rfl, ho0, hb⟩; refine ⟨_, rfl, ?_⟩; have HO106 := AX (Kd.R_lower ho0 (below_size bw)); replace HB := AX (below_step bw hb); (try clear hb); (try clear hb2); (try clear hk); (try clear hi); (try clear ho0)) | ((with_reducible refine gate_dst (N := 11) rfl ?_); (try (refine gate_guard (by rfl) ?_; dsimp only)); refine Kd.R_lit (Kd.int .i64) _ 2 ?hg (N := 11) ?hd (xs := ([2, 4, 6, 8] : List Int)) (inner := [.int .i64 2, .int .i64 4, .int .i64 6, .int .i64 8]) (ok := fun _ => True) (okp := fun _ => True) ?hr ?hp (fun _ hk => hk) trivial (Below.refl _ _) (Nat.le_refl _) (by simp) ?_; (case hd => rfl); (case hg => rfl); (case hr => first | (go_simp; done) | (go_simp; rfl)); (case hp => exact (Reps.one (show Kd.M (Kd.int .i64) _ _ _ 2 [.int .i64 2] from rfl) (Reps.one (show Kd.M (Kd.int .i64) _ _ _ 4 [.int .i64 4] from rfl) (Reps.one (show Kd.M (Kd.int .i64) _ _ _ 6 [.int .i64 6] from rfl) (Reps.one (show Kd.M (Kd.int .i64) _ _ _ 8 [.int .i64 8] from rfl) (Reps.none _ _)))))); intro v108 w5 ho6 hb hg_ hnew_; clear hg_ hnew_; (first | rw [← Ny107.out] at ho6 | (simp only [Int.reduceToNat] at ho6; rw [← Ny107.out] at ho6)); have HO109 := AX (Kd.R_lower (Kd.R_new' ho6 (Kd.R_lt (kr HO106))) (below_size bw)); replace HO106 := AX (Kd.R_elder' (kr HO106) (Kd.R_base ho6) hb); replace HB := AX (below_step bw hb); clear hb ho6; obtain ⟨Ao7, co7, eo7⟩ := Kd.R_slice HO106.out; subst eo7; obtain ⟨Ao8, co8, eo8⟩ := Kd.R_slice HO109.out; subst eo8) | (go_at_call 13; (with_reducible refine (pylonref01_SameNumbers.calls k _ _ t103 _ _ y107 t110 _ ?side1 ?side2 ?side3 ?side4 A3.out).mono ?_); (case side1 => repeat (first | exact (Kd.R_reads' HO106.out).2.2 | (with_reducible refine Kd.C_alloc ?_ _) | (with_reducible refine Kd.C_drewN ?_ _) | (with_reducible refine Kd.C_drew ?_))); (case side2 => exact (Kd.R_reads' HO106.out).2.1); (case side3 => repeat (first | exact (Kd.R_reads' HO109.out).2.2 | (with_reducible refine Kd.C_alloc ?_ _) | (with_reducible refine Kd.C_drewN ?_ _) | (with_reducible refine Kd.C_drew ?_))); (case side4 => exact (Kd.R_reads' HO109.out).2.1); rintro e w' ⟨rfl, ⟨nd, rfl⟩⟩))
  go_ret
  exact ⟨by first | rfl | (simp [errW_none, errW_some] <;> rfl) | (simp [*, errW_none, errW_some] <;> rfl), bw⟩
 ·rw [if_neg c2] at H
  have c2b0 : (t104 == 0) = false := beq_eq_false_iff_ne.mpr c2
  have c2b1 : (t104 != 0) = true := bne_iff_ne.mpr c2
  obtain rfl := Option.some.inj H
  go_enter Try.func10, Try.ntmps10
  go_wp2_with (first | ((with_reducible refine gate_callee (f := 12) rfl ?_); refine gL (some 4) Try.func12 #[.int .i64 0, .int .i64 10, .int .i64 4] ?_; (with_reducible refine (fill_Line.calls 0 10 4 t103 t104 _ A1.out).mono ?_); rintro e w9 ⟨v105, rfl, ho0, hb⟩; refine ⟨_, rfl, ?_⟩; have HO106 := AX (Kd.R_lower ho0 (below_size bw)); replace HB := AX (below_step bw hb); (try clear hb); (try clear hb2); (try clear hk); (try clear hi); (try clear ho0)))
  go_ret
  exact ⟨by first | rfl | (simp [errW_none, errW_some] <;> rfl) | (simp [*, errW_none, errW_some] <;> rfl), bw⟩

/-! ### pylonref11_near: function 23 -/
def pylonref11_near.f (a0 : Int) : Option (Bool) := if a0 ≥ (-10000000) then (some (decide (a0 ≤ 10000000))) else (some false)
set_option maxHeartbeats 8000000 in
set_option maxRecDepth 100000 in
theorem pylonref11_near.calls (a0 : Int) (r : Bool) (w : World) (h : pylonref11_near.f a0 = some r) :
  Calls Try.prog 23 #[.int .i64 a0] w fun e w' => e = .returned (.bool r) ∧ Drawn0 w w' := by
 have H : (if a0 ≥ (-10000000) then (some (decide (a0 ≤ 10000000))) else (some false)) = some r := h
 clear h
 by_cases c2 : a0 ≥ (-10000000)
 ·rw [if_pos c2] at H
  have c2b0 : decide ((-10000000) ≤ a0) = true := decide_eq_true c2
  clear c2
  obtain rfl := Option.some.inj H
  go_enter Try.func23, Try.ntmps23
  go_wp2
  go_ret
  exact ⟨by first | rfl | (simp; done) | (simp [*]; done), by repeat (first | exact Drawn0.refl _ | apply Drawn0.step)⟩
 ·rw [if_neg c2] at H
  have c2b0 : decide ((-10000000) ≤ a0) = false := decide_eq_false c2
  clear c2
  obtain rfl := Option.some.inj H
  go_enter Try.func23, Try.ntmps23
  go_wp2
  go_ret
  exact ⟨by first | rfl | (simp; done) | (simp [*]; done), by repeat (first | exact Drawn0.refl _ | apply Drawn0.step)⟩

/-! ### pylonref01_mag: function 33 -/
def pylonref01_mag.f (a0 : Int) : Option (Int) := if a0 < 0 then (some (IntKind.u64.wrap ((IntKind.u64.wrap (wrap64 (-(wrap64 (a0 + 1))))) + 1))) else (some (IntKind.u64.wrap (a0)))
set_option maxHeartbeats 8000000 in
set_option maxRecDepth 100000 in
theorem pylonref01_mag.calls (a0 : Int) (r : Int) (w : World) (h : pylonref01_mag.f a0 = some r) :
  Calls Try.prog 33 #[.int .i64 a0] w fun e w' => e = .returned (.int .u64 r) ∧ Drawn0 w w' := by
 have H : (if a0 < 0 then (some (IntKind.u64.wrap ((IntKind.u64.wrap (wrap64 (-(wrap64 (a0 + 1))))) + 1))) else (some (IntKind.u64.wrap (a0)))) = some r := h
 clear h
 by_cases c2 : a0 < 0
 ·rw [if_pos c2] at H
  have c2b0 : decide (a0 < 0) = true := decide_eq_true c2
  clear c2
  obtain rfl := Option.some.inj H
  go_enter Try.func33, Try.ntmps33
  go_wp2
  go_ret
  exact ⟨by first | rfl | (simp; done) | (simp [*]; done), by repeat (first | exact Drawn0.refl _ | apply Drawn0.step)⟩
 ·rw [if_neg c2] at H
  have c2b0 : decide (a0 < 0) = false := decide_eq_false c2
  clear c2
  obtain rfl := Option.some.inj H
  go_enter Try.func33, Try.ntmps33
  go_wp2
  go_ret
  exact ⟨by first | rfl | (simp; done) | (simp [*]; done), by repeat (first | exact Drawn0.refl _ | apply Drawn0.step)⟩

/-! ### pylonref01_signed: function 34 -/
def pylonref01_signed.j0 : Nat → Bool → Int → Bool → Option (Int × Int)
 | 0, _, _, _ => none
 | k + 1, x0, x2, x24 => if x24 = true then (some (0, 5)) else (if x0 = true then (if x2 > 0 then (some (wrap64 ((wrap64 (-(wrap64 (IntKind.u64.wrap (x2 - 1))))) - 1), 0)) else (some (wrap64 (x2), 0))) else (some (wrap64 (x2), 0)))
def pylonref01_signed.f (k : Nat) (a0 : Bool) (a1 : Int) (a2 : Int) : Option (Int × Int) := if a1 = 0 then (if a0 = true then (pylonref01_signed.j0 k a0 a2 (decide (a2 > 9223372036854775808))) else (if a2 ≥ 9223372036854775808 then (pylonref01_signed.j0 k a0 a2 true) else (pylonref01_signed.j0 k a0 a2 false))) else (pylonref01_signed.j0 k a0 a2 true)
theorem pylonref01_signed.mono_l : ∀ k, (∀ y0 y1 y2, LeO (pylonref01_signed.j0 k y0 y1 y2) (pylonref01_signed.j0 (k + 1) y0 y1 y2))
 | 0 => fun _ _ _ r h => by simp [pylonref01_signed.j0] at h
 | k + 1 => by
  have ih0 := pylonref01_signed.mono_l k
  ·intro y0 y1 y2
   unfold pylonref01_signed.j0
   repeat' first
   | (with_reducible exact ih0 _ _ _)
   | (with_reducible exact LeO.refl _)
   | (with_reducible exact LeO.none _)
   | (with_reducible refine LeO.ite ?_ ?_)
   | (with_reducible refine LeO.bind ?_ (fun _ => ?_))
theorem pylonref01_signed.mono : ∀ a0 a1 a2 k, LeO (pylonref01_signed.f k a0 a1 a2) (pylonref01_signed.f (k + 1) a0 a1 a2) := by
 intro a0 a1 a2 k
 have ih0 := pylonref01_signed.mono_l k
 unfold pylonref01_signed.f
 repeat' first
   | (with_reducible exact ih0 _ _ _)
   | (with_reducible exact LeO.refl _)
   | (with_reducible exact LeO.none _)
   | (with_reducible refine LeO.ite ?_ ?_)
   | (with_reducible refine LeO.bind ?_ (fun _ => ?_))
set_option maxHeartbeats 8000000 in
set_option maxRecDepth 100000 in
theorem pylonref01_signed.calls (k : Nat) (a0 : Bool) (a1 : Int) (a2 : Int) (r1 : Int) (r2 : Int) (w : World) (h : pylonref01_signed.f k a0 a1 a2 = some (r1, r2)) :
  Calls Try.prog 34 #[.bool a0, .int .u64 a1, .int .u64 a2] w fun e w' => e = .returned (.tuple #[.int .i64 r1, .int .i64 r2]) ∧ Drawn0 w w' := by
 have H : (if a1 = 0 then (if a0 = true then (pylonref01_signed.j0 k a0 a2 (decide (a2 > 9223372036854775808))) else (if a2 ≥ 9223372036854775808 then (pylonref01_signed.j0 k a0 a2 true) else (pylonref01_signed.j0 k a0 a2 false))) else (pylonref01_signed.j0 k a0 a2 true)) = some (r1, r2) := h
 clear h
 have HC4 := AX H
 clear H
 go_enter Try.func34, Try.ntmps34
 go_upto_region 1 with (fail)
 go_cut [24] (fun v24 wc => ∃ (kq : Nat) (x24_3 : Bool), v24 = .bool x24_3 ∧ Aside0 (pylonref01_signed.j0 kq a0 a2 x24_3 = some (r1, r2)) ∧ Aside0 (kq ≤ k) ∧ Drawn0 w wc)
 case first =>
  have H := HC4.out
  clear HC4
  by_cases c5 : a1 = 0
  ·rw [if_pos c5] at H
   have c5b0 : (a1 == 0) = true := beq_iff_eq.mpr c5
   have c5b1 : (a1 != 0) = false := bne_eq_false_iff_eq.mpr c5
   clear c5
   (first | rw [c5b0] | (simp only [i64_w, i32_w]; rw [c5b0]) | skip)
   by_cases c6 : a0 = true
   ·subst c6
    have H1 : (pylonref01_signed.j0 k true a2 (decide (a2 > 9223372036854775808))) = some (r1, r2) := by rw [if_pos rfl] at H; exact H
    clear H
    have H := H1
    clear H1
    have H' := AX H
    clear H
    go_wp2
    go_meet
    case rel => exact ⟨_, (decide (a2 > 9223372036854775808)), (by first | rfl | (simp; done) | (simp [*]; done)), H', ⟨by first | omega | exact Nat.le_refl _⟩, by repeat (first | exact Drawn0.refl _ | apply Drawn0.step)⟩
   ·replace c6 := Bool.eq_false_iff.mpr c6
    subst c6
    have H1 : (if a2 ≥ 9223372036854775808 then (pylonref01_signed.j0 k false a2 true) else (pylonref01_signed.j0 k false a2 false)) = some (r1, r2) := by rw [if_neg (show ¬ (false = true) by decide)] at H; exact H
    clear H
    have H := H1
    clear H1
    by_cases c7 : a2 ≥ 9223372036854775808
    ·rw [if_pos c7] at H
     have c7b0 : decide (9223372036854775808 ≤ a2) = true := decide_eq_true c7
     clear c7
     have H' := AX H
     clear H
     go_wp2
     go_meet
     case rel => exact ⟨_, (true), (by first | rfl | (simp; done) | (simp [*]; done)), H', ⟨by first | omega | exact Nat.le_refl _⟩, by repeat (first | exact Drawn0.refl _ | apply Drawn0.step)⟩
    ·rw [if_neg c7] at H
     have c7b0 : decide (9223372036854775808 ≤ a2) = false := decide_eq_false c7
     clear c7
     have H' := AX H
     clear H
     go_wp2
     go_meet
     case rel => exact ⟨_, (false), (by first | rfl | (simp; done) | (simp [*]; done)), H', ⟨by first | omega | exact Nat.le_refl _⟩, by repeat (first | exact Drawn0.refl _ | apply Drawn0.step)⟩
  ·rw [if_neg c5] at H
   have c5b0 : (a1 == 0) = false := beq_eq_false_iff_ne.mpr c5
   have c5b1 : (a1 != 0) = true := bne_iff_ne.mpr c5
   (first | rw [c5b0] | (simp only [i64_w, i32_w]; rw [c5b0]) | skip)
   have H' := AX H
   clear H
   go_wp2
   go_meet
   case rel => exact ⟨_, (true), (by first | rfl | (simp; done) | (simp [*]; done)), H', ⟨by first | omega | exact Nat.le_refl _⟩, by repeat (first | exact Drawn0.refl _ | apply Drawn0.step)⟩
 case rest =>
  clear HC4
  obtain ⟨kq, x24_3, rfl, HA, HJ3, ⟨mc3, rfl⟩⟩ := hcut
  cases kq with
  | zero => exact absurd HA.out (by simp [pylonref01_signed.j0])
  | succ kj3 =>
   have H := HA.out
   clear HA
   simp only [pylonref01_signed.j0] at H
   by_cases c8 : x24_3 = true
   ·subst c8
    have H1 : (some (0, 5)) = some (r1, r2) := by rw [if_pos rfl] at H; exact H
    clear H
    have H := H1
    clear H1
    simp only [Option.some.injEq, Prod.mk.injEq] at H
    obtain ⟨rfl, rfl⟩ := H
    go_wp2
    go_ret2
    exact ⟨by first | rfl | (simp; done) | (simp [*]; done), by repeat (first | exact Drawn0.refl _ | apply Drawn0.step)⟩
   ·replace c8 := Bool.eq_false_iff.mpr c8
    subst c8
    have H1 : (if a0 = true then (if a2 > 0 then (some (wrap64 ((wrap64 (-(wrap64 (IntKind.u64.wrap (a2 - 1))))) - 1), 0)) else (some (wrap64 (a2), 0))) else (some (wrap64 (a2), 0))) = some (r1, r2) := by rw [if_neg (show ¬ (false = true) by decide)] at H; exact H
    clear H
    have H := H1
    clear H1
    by_cases c9 : a0 = true
    ·subst c9
     have H1 : (if a2 > 0 then (some (wrap64 ((wrap64 (-(wrap64 (IntKind.u64.wrap (a2 - 1))))) - 1), 0)) else (some (wrap64 (a2), 0))) = some (r1, r2) := by rw [if_pos rfl] at H; exact H
     clear H
     have H := H1
     clear H1
     by_cases c10 : a2 > 0
     ·rw [if_pos c10] at H
      have c10b0 : decide (0 < a2) = true := decide_eq_true c10
      clear c10
      simp only [Option.some.injEq, Prod.mk.injEq] at H
      obtain ⟨rfl, rfl⟩ := H
      go_wp2
      go_ret2
      exact ⟨by first | rfl | (simp; done) | (simp [*]; done), by repeat (first | exact Drawn0.refl _ | apply Drawn0.step)⟩
     ·rw [if_neg c10] at H
      have c10b0 : decide (0 < a2) = false := decide_eq_false c10
      clear c10
      simp only [Option.some.injEq, Prod.mk.injEq] at H
      obtain ⟨rfl, rfl⟩ := H
      go_wp2
      go_ret2
      exact ⟨by first | rfl | (simp; done) | (simp [*]; done), by repeat (first | exact Drawn0.refl _ | apply Drawn0.step)⟩
    ·replace c9 := Bool.eq_false_iff.mpr c9
     subst c9
     have H1 : (some (wrap64 (a2), 0)) = some (r1, r2) := by rw [if_neg (show ¬ (false = true) by decide)] at H; exact H
     clear H
     have H := H1
     clear H1
     simp only [Option.some.injEq, Prod.mk.injEq] at H
     obtain ⟨rfl, rfl⟩ := H
     go_wp2
     go_ret2
     exact ⟨by first | rfl | (simp; done) | (simp [*]; done), by repeat (first | exact Drawn0.refl _ | apply Drawn0.step)⟩

/-! ### pylonref01_Div: function 24 -/
def pylonref01_Div.f (a0 : Int) (a1 : Int) : Option (Int × Int × Int) := if 1 ≤ a1 ∧ a1 ≤ 1000000 ∧ -1000000000000 ≤ a0 ∧ a0 ≤ 1000000000000 then some (a0 / a1, a0 % a1, 0) else none
theorem pylonref01_Div.u64 {x : Int} (h0 : 0 ≤ x) (h1 : x ≤ 4000000000000000) : IntKind.u64.wrap x = x := by simp [IntKind.wrap, IntKind.bits, IntKind.signed]; omega
theorem pylonref01_Div.mag_ (a A : Int) (h0 : a < 0 → A = -a) (h1 : 0 ≤ a → A = a) (hA : A ≤ 1000000000000) (w : World) : Calls Try.prog 33 #[.int .i64 a] w fun e w' => e = .returned (.int .u64 A) ∧ ∃ q, w' = w.drewN q := by
  refine (pylonref01_mag.calls a A w ?_).mono fun e w' ⟨he, q, hw⟩ => ⟨he, q, hw⟩
  unfold pylonref01_mag.f
  by_cases c : a < 0
  · have := h0 c
    rw [if_pos c, show wrap64 (a + 1) = a + 1 by unfold wrap64; omega, show wrap64 (-(a + 1)) = -(a + 1) by unfold wrap64; omega, pylonref01_Div.u64 (x := -(a + 1)) (by omega) (by omega), pylonref01_Div.u64 (by omega) (by omega)]
    congr 1; omega
  · have := h1 (by omega)
    rw [if_neg c, pylonref01_Div.u64 (by omega) (by omega)]
    congr 1; omega
theorem pylonref01_Div.tri {x y x' y' : Int} (h1 : x = x') (h2 : y = y') : (Ending.returned (.tuple #[.int .i64 x, .int .i64 y, .int .i64 0])) = .returned (.tuple #[.int .i64 x', .int .i64 y', .int .i64 0]) := by rw [h1, h2]
theorem pylonref01_Div.tq {A b : Int} (hA : 0 ≤ A) (hb : 0 < b) : A.tdiv b = A / b ∧ A.tmod b = A % b := ⟨Int.tdiv_eq_ediv_of_nonneg hA, Int.tmod_eq_emod_of_nonneg hA⟩
set_option maxHeartbeats 4000000 in
set_option maxRecDepth 100000 in
theorem pylonref01_Div.calls (a0 : Int) (a1 : Int) (r1 : Int) (r2 : Int) (r3 : Int) (w : World) (h : pylonref01_Div.f a0 a1 = some (r1, r2, r3)) :
    Calls Try.prog 24 #[.int .i64 a0, .int .i64 a1] w fun e w' => e = .returned (.tuple #[.int .i64 r1, .int .i64 r2, .int .i64 r3]) ∧ Drawn0 w w' := by
  unfold pylonref01_Div.f at h
  split at h
  · rename_i hc
    obtain ⟨g1, g2, g3, g4⟩ := hc
    simp only [Option.some.injEq, Prod.mk.injEq] at h
    obtain ⟨h1, h2, rfl⟩ := h
    obtain ⟨A, hA0, hA1, hA2⟩ : ∃ A : Int, (a0 < 0 → A = -a0) ∧ (0 ≤ a0 → A = a0) ∧ 0 ≤ A ∧ A ≤ 1000000000000 := by
      by_cases c : a0 < 0
      · exact ⟨-a0, fun _ => rfl, fun _ => by omega, by omega, by omega⟩
      · exact ⟨a0, fun _ => by omega, fun _ => rfl, by omega, by omega⟩
    obtain ⟨hA2, hA3⟩ := hA2
    have HM0 := Lib.hid (pylonref01_Div.mag_ a0 A hA0 hA1 hA3)
    have HM1 := Lib.hid (pylonref01_Div.mag_ a1 a1 (by omega) (fun _ => rfl) (by omega))
    have tq := pylonref01_Div.tq hA2 (show 0 < a1 by omega)
    have e := Int.mul_ediv_add_emod A a1
    have m0 := Int.emod_nonneg A (show a1 ≠ 0 by omega)
    have m1 := Int.emod_lt_of_pos A (show 0 < a1 by omega)
    have q0 : 0 ≤ A / a1 := Int.ediv_nonneg hA2 (by omega)
    have q1 : A / a1 ≤ 1000000000000 := by
      have := Int.ediv_le_self a1 hA2
      omega
    have hneg : a0 < 0 → (A % a1 = 0 → r1 = -(A / a1) ∧ r2 = 0 ∧ 0 < A / a1) ∧ (A % a1 ≠ 0 → r1 = -(A / a1 + 1) ∧ r2 = a1 - A % a1) := fun c => by
      have hA := hA0 c
      refine ⟨fun hz => ?_, fun hz => ?_⟩
      · have u := (Int.ediv_emod_unique (a := a0) (b := a1) (r := 0) (q := -(A / a1)) (by omega)).2 ⟨by rw [Int.mul_neg]; omega, by omega, by omega⟩
        refine ⟨by omega, by omega, ?_⟩
        rcases Int.lt_or_le 0 (A / a1) with k | k
        · exact k
        · have : A / a1 = 0 := by omega
          rw [this] at e; omega
      · have u := (Int.ediv_emod_unique (a := a0) (b := a1) (r := a1 - A % a1) (q := -(A / a1 + 1)) (by omega)).2 ⟨by rw [Int.mul_neg, Int.mul_add]; omega, by omega, by omega⟩
        omega
    have hpos : 0 ≤ a0 → r1 = A / a1 ∧ r2 = A % a1 := fun c => by rw [hA1 c]; exact ⟨h1.symm, h2.symm⟩
    have hy0 : (a1 == 0) = false := by simp; omega
    have hy1 : decide (a1 < 0) = false := decide_eq_false (by omega)
    obtain ⟨Q, hQ⟩ : ∃ Q, A.tdiv a1 = Q := ⟨_, rfl⟩
    obtain ⟨R, hR⟩ : ∃ R, A.tmod a1 = R := ⟨_, rfl⟩
    rw [← tq.1, hQ] at q0 q1 hneg hpos
    rw [← tq.2, hR] at m0 m1 hneg hpos
    have wQ : IntKind.u64.wrap Q = Q := pylonref01_Div.u64 (by omega) (by omega)
    clear e tq h1 h2 hA0 hA1
    by_cases c : a0 < 0
    · have cb : decide (a0 < 0) = true := decide_eq_true c
      have hneg := hneg c
      clear hpos
      by_cases z : R = 0
      · have zb : (R != 0) = false := by simp [z]
        obtain ⟨u1, u2, u3⟩ := hneg.1 z
        have qb : (Q != 0) = true := by simp; omega
        have U := Lib.hid (And.intro u1 (And.intro u2 z))
        clear u1 u2 z hneg
        go_enter Try.func24, Try.ntmps24
        go_wp2
        repeat (go_quiet (first | (go_at_call_of 33 (Value.int .i64 a0); exact Calls.quiet_of (HM0.out _)) | (go_at_call_of 33 (Value.int .i64 a1); exact Calls.quiet_of (HM1.out _))); try go_wp2)
        go_ret3
        exact ⟨pylonref01_Div.tri (by have := U.out; omega) (by have := U.out; omega), _, rfl⟩
      · have zb : (R != 0) = true := by simp [z]
        obtain ⟨u1, u2⟩ := hneg.2 z
        have qb : (Q + 1 != 0) = true := by simp; omega
        have wQ1 : IntKind.u64.wrap (Q + 1) = Q + 1 := pylonref01_Div.u64 (by omega) (by omega)
        have wR1 : IntKind.u64.wrap (a1 - R) = a1 - R := pylonref01_Div.u64 (by omega) (by omega)
        have U := Lib.hid (And.intro u1 u2)
        clear u1 u2 z hneg
        go_enter Try.func24, Try.ntmps24
        go_wp2
        repeat (go_quiet (first | (go_at_call_of 33 (Value.int .i64 a0); exact Calls.quiet_of (HM0.out _)) | (go_at_call_of 33 (Value.int .i64 a1); exact Calls.quiet_of (HM1.out _))); try go_wp2)
        go_ret3
        exact ⟨pylonref01_Div.tri (by have := U.out; omega) (by have := U.out; omega), by first | exact ⟨_, rfl⟩ | exact ⟨_, World.drewN_drewN _ _ _⟩⟩
    · have cb : decide (a0 < 0) = false := decide_eq_false c
      have hpos := hpos (by omega)
      have U := Lib.hid hpos
      clear hneg hpos
      go_enter Try.func24, Try.ntmps24
      go_wp2
      repeat (go_quiet (first | (go_at_call_of 33 (Value.int .i64 a0); exact Calls.quiet_of (HM0.out _)) | (go_at_call_of 33 (Value.int .i64 a1); exact Calls.quiet_of (HM1.out _))); try go_wp2)
      go_ret3
      exact ⟨pylonref01_Div.tri (by have := U.out; omega) (by have := U.out; omega), _, rfl⟩
  · exact absurd h (by simp)

end Go.Proofs.Ythhifeefkmaeiaa.PX
