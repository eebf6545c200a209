/- Functions of the program as plain Lean functions, each with a proof that the call in the machine answers just what the plain function says; condition: the plain function answers at all. -/
import Derived.Test.YtkggjjggcbcdiaaPXx0
import Derived.Test.YtkggjjggcbcdiaaPXx14
import Derived.Test.YtkggjjggcbcdiaaPXx23
import Derived.Test.YtkggjjggcbcdiaaPXx27
import Derived.Test.YtkggjjggcbcdiaaPXx28
import Derived.Deep.MidRow
namespace Go.Proofs.Ytkggjjggcbcdiaa.PX
open Go.RowKit Go.Proofs.YtkggjjggcbcdiaaW.PrintWords Go.Proofs.YtkggjjggcbcdiaaW.PrintLast Go.Proofs.YtkggjjggcbcdiaaW.PrintMore
attribute [local go_sem] max2_int min2_int max_two min_two max_three min_three max_four min_four   -- for this text's walks alone
set_option linter.unusedVariables false
set_option linter.unusedSimpArgs false

/-! ### pylonlaw14_TouAts: function 6 -/
def pylonlaw14_TouAts.Good (k : Nat) (a0_0 : ByteArray) (a0_1 : Int) (a0_2 : Int) (a0_3 : Int) (a0_4 : Int) (a0_5 : Int) (a0_6 : Int) (a0_7 : Int) (a0_8 : Int) (a0_9 : Int) (a0_10 : Int) (a0_11 : Int) (a0_12 : Int) (a0_13 : Int) (a0_14 : Int) (l0_15 : List (S58)) (l0_16 : List (S65)) (l0_17 : List (S60)) (l0_18 : List (S63)) (a0_19 : Int) (a0_20 : Int) (a0_21 : Int) (a0_22 : Int) (a0_23 : Int) (a0_24 : Int) (a0_25 : Int) (a0_26 : Int) (a0_27 : Int) (a1 : Int) : Prop := pylonlaw14_awake.f k = some true ∧ pylonref08_Copy.f a0_0 a0_1 a0_2 a0_3 a0_4 a0_5 a0_6 a0_7 a0_8 a0_9 a0_10 a0_11 a0_12 a0_13 a0_14 l0_15 l0_16 l0_17 l0_18 a0_19 a0_20 a0_21 a0_22 a0_23 a0_24 a0_25 a0_26 a0_27 = some (a0_0, a0_1, a0_2, a0_3, a0_4, a0_5, a0_6, a0_7, a0_8, a0_9, a0_10, a0_11, a0_12, a0_13, a0_14, l0_15, l0_16, l0_17, l0_18, a0_19, a0_20, a0_21, a0_22, a0_23, a0_24, a0_25, a0_26, a0_27) ∧ ∃ (n : ByteArray) (e : Int), pylonref14_At.f k a0_0 a0_1 a0_2 a0_3 a0_4 a0_5 a0_6 a0_7 a0_8 a0_9 a0_10 a0_11 a0_12 a0_13 a0_14 l0_15 l0_16 l0_17 l0_18 a0_19 a0_20 a0_21 a0_22 a0_23 a0_24 a0_25 a0_26 a0_27 a1 = some (n, e) ∧ tou_At.f k a0_0 a0_1 a0_2 a0_3 a0_4 a0_5 a0_6 a0_7 a0_8 a0_9 a0_10 a0_11 a0_12 a0_13 a0_14 l0_15 l0_16 l0_17 l0_18 a0_19 a0_20 a0_21 a0_22 a0_23 a0_24 a0_25 a0_26 a0_27 a1 = some (n, e)
open Classical in
noncomputable def pylonlaw14_TouAts.f (k : Nat) (a0_0 : ByteArray) (a0_1 : Int) (a0_2 : Int) (a0_3 : Int) (a0_4 : Int) (a0_5 : Int) (a0_6 : Int) (a0_7 : Int) (a0_8 : Int) (a0_9 : Int) (a0_10 : Int) (a0_11 : Int) (a0_12 : Int) (a0_13 : Int) (a0_14 : Int) (l0_15 : List (S58)) (l0_16 : List (S65)) (l0_17 : List (S60)) (l0_18 : List (S63)) (a0_19 : Int) (a0_20 : Int) (a0_21 : Int) (a0_22 : Int) (a0_23 : Int) (a0_24 : Int) (a0_25 : Int) (a0_26 : Int) (a0_27 : Int) (a1 : Int) : Option Bool := if pylonlaw14_TouAts.Good k a0_0 a0_1 a0_2 a0_3 a0_4 a0_5 a0_6 a0_7 a0_8 a0_9 a0_10 a0_11 a0_12 a0_13 a0_14 l0_15 l0_16 l0_17 l0_18 a0_19 a0_20 a0_21 a0_22 a0_23 a0_24 a0_25 a0_26 a0_27 a1 then some true else none
set_option maxHeartbeats 16000000 in
set_option maxRecDepth 100000 in
theorem pylonlaw14_TouAts.calls (k : Nat) (a0_0 : ByteArray) (a0_1 : Int) (a0_2 : Int) (a0_3 : Int) (a0_4 : Int) (a0_5 : Int) (a0_6 : Int) (a0_7 : Int) (a0_8 : Int) (a0_9 : Int) (a0_10 : Int) (a0_11 : Int) (a0_12 : Int) (a0_13 : Int) (a0_14 : Int) (A0_15 : Option Addr) (c0_15 : Nat) (l0_15 : List (S58)) (A0_16 : Option Addr) (c0_16 : Nat) (l0_16 : List (S65)) (A0_17 : Option Addr) (c0_17 : Nat) (l0_17 : List (S60)) (A0_18 : Option Addr) (c0_18 : Nat) (l0_18 : List (S63)) (a0_19 : Int) (a0_20 : Int) (a0_21 : Int) (a0_22 : Int) (a0_23 : Int) (a0_24 : Int) (a0_25 : Int) (a0_26 : Int) (a0_27 : Int) (a1 : Int) (r : Bool) (w : World) (hr0_15 : Kd.C k58 w A0_15 l0_15.length l0_15) (hc0_15 : l0_15.length ≤ c0_15) (hr0_16 : Kd.C k65 w A0_16 l0_16.length l0_16) (hc0_16 : l0_16.length ≤ c0_16) (hr0_17 : Kd.C k60 w A0_17 l0_17.length l0_17) (hc0_17 : l0_17.length ≤ c0_17) (hr0_18 : Kd.C k63 w A0_18 l0_18.length l0_18) (hc0_18 : l0_18.length ≤ c0_18) (h : pylonlaw14_TouAts.f k a0_0 a0_1 a0_2 a0_3 a0_4 a0_5 a0_6 a0_7 a0_8 a0_9 a0_10 a0_11 a0_12 a0_13 a0_14 l0_15 l0_16 l0_17 l0_18 a0_19 a0_20 a0_21 a0_22 a0_23 a0_24 a0_25 a0_26 a0_27 a1 = some r) :
  Calls Try.prog 6 #[.agg #[.string a0_0, .int .i64 a0_1, .int .i64 a0_2, .int .i64 a0_3, .int .i64 a0_4, .int .i64 a0_5, .int .i64 a0_6, .int .i64 a0_7, .int .i64 a0_8, .int .i64 a0_9, .int .i64 a0_10, .int .i64 a0_11, .int .i64 a0_12, .int .i64 a0_13, .int .i64 a0_14, .slice A0_15 l0_15.length c0_15, .slice A0_16 l0_16.length c0_16, .slice A0_17 l0_17.length c0_17, .slice A0_18 l0_18.length c0_18, .int .i64 a0_19, .int .i64 a0_20, .int .i64 a0_21, .int .i64 a0_22, .int .i64 a0_23, .int .i64 a0_24, .int .i64 a0_25, .int .i64 a0_26, .int .i64 a0_27], .int .i64 a1] w fun e w' => e = .returned (.bool r) ∧ Below w.heap.size w w' := by
  unfold pylonlaw14_TouAts.f at h
  split at h
  case isFalse => exact absurd h (by simp)
  case isTrue hgood =>
  cases h
  obtain ⟨hA, hCp, n, e, hR, hT⟩ := hgood
  have HA := AX hA
  obtain ⟨C, hC⟩ : ∃ C : Array Value, (#[.string a0_0, .int .i64 a0_1, .int .i64 a0_2, .int .i64 a0_3, .int .i64 a0_4, .int .i64 a0_5, .int .i64 a0_6, .int .i64 a0_7, .int .i64 a0_8, .int .i64 a0_9, .int .i64 a0_10, .int .i64 a0_11, .int .i64 a0_12, .int .i64 a0_13, .int .i64 a0_14, .slice A0_15 l0_15.length c0_15, .slice A0_16 l0_16.length c0_16, .slice A0_17 l0_17.length c0_17, .slice A0_18 l0_18.length c0_18, .int .i64 a0_19, .int .i64 a0_20, .int .i64 a0_21, .int .i64 a0_22, .int .i64 a0_23, .int .i64 a0_24, .int .i64 a0_25, .int .i64 a0_26, .int .i64 a0_27] : Array Value) = C := ⟨_, rfl⟩
  have K1 : ∀ w', Below w.heap.size w w' → Calls Try.prog 24 #[.agg C, .int .i64 a1] w' fun e' w'' => e' = .returned (.tuple #[.string n, .int .i64 e]) ∧ Below w'.heap.size w' w'' := fun w' hb => by
   rw [← hC]
   exact pylonref14_At.calls k a0_0 a0_1 a0_2 a0_3 a0_4 a0_5 a0_6 a0_7 a0_8 a0_9 a0_10 a0_11 a0_12 a0_13 a0_14 _ _ l0_15 _ _ l0_16 _ _ l0_17 _ _ l0_18 a0_19 a0_20 a0_21 a0_22 a0_23 a0_24 a0_25 a0_26 a0_27 a1 n e _ (Kd.C_below hr0_15 hb) hc0_15 (Kd.C_below hr0_16 hb) hc0_16 (Kd.C_below hr0_17 hb) hc0_17 (Kd.C_below hr0_18 hb) hc0_18 hR
  have K2 : ∀ w', Below w.heap.size w w' → Calls Try.prog 26 #[.agg C] w' fun e' w'' => ∃ D : Value, e' = .returned D ∧ Below w'.heap.size w' w'' ∧ Calls Try.prog 25 #[D, .int .i64 a1] w'' fun e'' w3 => e'' = .returned (.tuple #[.string n, .int .i64 e]) ∧ Below w''.heap.size w'' w3 := fun w' hb => by
   rw [← hC]
   refine (pylonref08_Copy.calls a0_0 a0_1 a0_2 a0_3 a0_4 a0_5 a0_6 a0_7 a0_8 a0_9 a0_10 a0_11 a0_12 a0_13 a0_14 _ _ l0_15 _ _ l0_16 _ _ l0_17 _ _ l0_18 a0_19 a0_20 a0_21 a0_22 a0_23 a0_24 a0_25 a0_26 a0_27 _ _ _ _ _ _ _ _ _ _ _ _ _ _ _ _ _ _ _ _ _ _ _ _ _ _ _ _ _ (Kd.C_below hr0_15 hb) hc0_15 (Kd.C_below hr0_16 hb) hc0_16 (Kd.C_below hr0_17 hb) hc0_17 (Kd.C_below hr0_18 hb) hc0_18 hCp).mono ?_
   rintro e' w8 ⟨v15, v16, v17, v18, rfl, ho0, ho1, ho2, ho3, hb2⟩
   obtain ⟨B15, d15, e15⟩ := Kd.R_slice ho0
   obtain ⟨B16, d16, e16⟩ := Kd.R_slice ho1
   obtain ⟨B17, d17, e17⟩ := Kd.R_slice ho2
   obtain ⟨B18, d18, e18⟩ := Kd.S_slice ho3
   subst e15 e16 e17 e18
   exact ⟨_, rfl, hb2, tou_At.calls k a0_0 a0_1 a0_2 a0_3 a0_4 a0_5 a0_6 a0_7 a0_8 a0_9 a0_10 a0_11 a0_12 a0_13 a0_14 _ _ l0_15 _ _ l0_16 _ _ l0_17 _ _ l0_18 a0_19 a0_20 a0_21 a0_22 a0_23 a0_24 a0_25 a0_26 a0_27 a1 n e _ (Kd.R_reads' ho0).2.2 (Kd.R_reads' ho0).2.1 (Kd.R_reads' ho1).2.2 (Kd.R_reads' ho1).2.1 (Kd.R_reads' ho2).2.2 (Kd.R_reads' ho2).2.1 (Kd.S_reads' ho3).2.2 (Kd.S_reads' ho3).2.1 hT⟩
  have HK1 := AX K1
  have HK2 := AX K2
  have HCZ := AX (show C.size = 28 by rw [← hC]; rfl)
  clear hr0_15 hc0_15 hr0_16 hc0_16 hr0_17 hc0_17 hr0_18 hc0_18 hA hCp hR hT K1 K2
  have HB := AX (Below.refl w.heap.size w)
  have c8b0 : (n.toList == n.toList) = true := beq_self_eq_true _
  have c8b1 : (n.toList != n.toList) = false := bne_self_eq_false _
  go_enter Try.func6, Try.ntmps6
  have HB1 := AX ((Below.refl w.heap.size w).alloc (Nat.le_refl _) (.cells C 47))
  have BK := AX (heap_alloc_new w (.cells C 47))
  go_upto_region 1 with (fail)
  clear hC
  go_wp2_with (first | (go_at_call 15; refine (pylonlaw14_awake.calls k true _ HA.out).mono ?_; rintro e1 w1 ⟨rfl, hb⟩; have BK1 := AX (cp_at BK.out hb); have HB2 := AX (HB1.out.trans (hb.mono HB1.out.size)); clear hb) | ((with_reducible refine gate_dst (N := 12) rfl ?_); refine wpList_load_mid rfl 47 (.tmp 2) rfl w.heap.size 0 rfl C.toList _ ?l1 Try.underlying47 rfl ?l2 ?_; (case l1 => exact cp_range BK1.out); (case l2 => rw [Array.length_toList, HCZ.out]; kernel_rfl); rw [Array.toArray_toList]) | (go_at_call 24; refine (HK1.out _ HB2.out).mono ?_; rintro e2 w2 ⟨rfl, hb⟩; have BK2 := AX (cp_at BK1.out hb); have HB3 := AX (HB2.out.trans (hb.mono HB2.out.size)); clear hb) | ((with_reducible refine gate_dst (N := 18) rfl ?_); refine wpList_load_mid rfl 47 (.tmp 2) rfl w.heap.size 0 rfl C.toList _ ?l1 Try.underlying47 rfl ?l2 ?_; (case l1 => exact cp_range BK2.out); (case l2 => rw [Array.length_toList, HCZ.out]; kernel_rfl); rw [Array.toArray_toList]) | (go_at_call 26; refine (HK2.out _ HB3.out).mono ?_; rintro e3 w3 ⟨D, rfl, hb, hK⟩; have HB4 := AX (HB3.out.trans (hb.mono HB3.out.size)); have HK3 := AX hK; clear hb hK) | (go_at_call 25; refine HK3.out.mono ?_; rintro e4 w4 ⟨rfl, hb⟩; have HB5 := AX (HB4.out.trans (hb.mono HB4.out.size)); clear hb))
  go_ret
  first | exact ⟨rfl, HB5.out⟩ | exact ⟨by simp, HB5.out⟩
end Go.Proofs.Ytkggjjggcbcdiaa.PX
