/- Functions of the program as plain Lean functions, each with a proof that the call in the machine answers just what the plain function says; condition: the plain function answers at all. -/
import Derived.Test.YtkggjjggcbcdiaaPXx0
import Derived.Test.YtkggjjggcbcdiaaPXx8
import Derived.Test.YtkggjjggcbcdiaaPXx9
import Derived.Test.YtkggjjggcbcdiaaPXx10
import Derived.Test.YtkggjjggcbcdiaaPXx11
import Derived.Test.YtkggjjggcbcdiaaPXx12
import Derived.Test.YtkggjjggcbcdiaaPXx13
import Derived.Test.YtkggjjggcbcdiaaPXx16
import Derived.Test.YtkggjjggcbcdiaaPXx17
import Derived.Test.YtkggjjggcbcdiaaPXx21
import Derived.Deep.MidRow
namespace Go.Proofs.Ytkggjjggcbcdiaa.PX
open Go.RowKit Go.Proofs.YtkggjjggcbcdiaaW.PrintWords Go.Proofs.YtkggjjggcbcdiaaW.PrintLast Go.Proofs.YtkggjjggcbcdiaaW.PrintMore
attribute [local go_sem] max2_int min2_int max_two min_two max_three min_three max_four min_four   -- for this text's walks alone
set_option linter.unusedVariables false
set_option linter.unusedSimpArgs false

/-! ### pylonlaw14_TouQuarters: function 8 -/
def pylonlaw14_TouQuarters.Good (k : Nat) (a0_0 : ByteArray) (a0_1 : Int) (a0_2 : Int) (a0_3 : Int) (a0_4 : Int) (a0_5 : Int) (a0_6 : Int) (a0_7 : Int) (a0_8 : Int) (a0_9 : Int) (a0_10 : Int) (a0_11 : Int) (a0_12 : Int) (a0_13 : Int) (a0_14 : Int) (l0_15 : List (S58)) (l0_16 : List (S65)) (l0_17 : List (S60)) (l0_18 : List (S63)) (a0_19 : Int) (a0_20 : Int) (a0_21 : Int) (a0_22 : Int) (a0_23 : Int) (a0_24 : Int) (a0_25 : Int) (a0_26 : Int) (a0_27 : Int) (a1 : Int) : Prop := pylonlaw14_awake.f k = some true ∧ pylonref08_Copy.f a0_0 a0_1 a0_2 a0_3 a0_4 a0_5 a0_6 a0_7 a0_8 a0_9 a0_10 a0_11 a0_12 a0_13 a0_14 l0_15 l0_16 l0_17 l0_18 a0_19 a0_20 a0_21 a0_22 a0_23 a0_24 a0_25 a0_26 a0_27 = some (a0_0, a0_1, a0_2, a0_3, a0_4, a0_5, a0_6, a0_7, a0_8, a0_9, a0_10, a0_11, a0_12, a0_13, a0_14, l0_15, l0_16, l0_17, l0_18, a0_19, a0_20, a0_21, a0_22, a0_23, a0_24, a0_25, a0_26, a0_27) ∧ (∃ n, pylonref06_Name.f k a0_0 = some n) ∧ (∃ (z : Int) (s h b wi : Bool), pylonref04_Check.f k a0_1 a0_2 a0_3 a0_4 a0_5 a0_6 a0_7 a0_8 a0_9 a0_10 = some z ∧ pylonref09_seasons.f k l0_15 = some s ∧ pylonref09_holidays.f k l0_16 = some h ∧ pylonref09_blocks.f k l0_18 = some b ∧ pylonref09_windows.f a0_0 a0_1 a0_2 a0_3 a0_4 a0_5 a0_6 a0_7 a0_8 a0_9 a0_10 a0_11 a0_12 a0_13 a0_14 l0_15 l0_16 l0_17 l0_18 a0_19 a0_20 a0_21 a0_22 a0_23 a0_24 a0_25 a0_26 a0_27 = some wi ∧ ∃ L1 L2 L3 L4 L5 L6 : Int, pylonref04_At.f k a0_1 a0_2 a0_3 a0_4 a0_5 a0_6 a0_7 a0_8 a0_9 a0_10 a1 = some (L1, L2, L3, L4, L5, L6) ∧ ((z = 0 ∧ s = true ∧ h = true ∧ b = true ∧ wi = true) → L6 = 0 → 0 ≤ a1 → a1 ≤ 253402200000 → ∃ F1 F2 F3 F4 F5 F6 : Int, pylonref04_At.f k a0_1 a0_2 a0_3 a0_4 a0_5 a0_6 a0_7 a0_8 a0_9 a0_10 (wrap64 ((wrap64 (a1 - (Int.tmod a1 60))) - (wrap64 (60 * (Int.tmod L4 15))))) = some (F1, F2, F3, F4, F5, F6) ∧ (F6 = 0 → F5 = L5 → ∃ nm, tou_At.f k a0_0 a0_1 a0_2 a0_3 a0_4 a0_5 a0_6 a0_7 a0_8 a0_9 a0_10 a0_11 a0_12 a0_13 a0_14 l0_15 l0_16 l0_17 l0_18 a0_19 a0_20 a0_21 a0_22 a0_23 a0_24 a0_25 a0_26 a0_27 (wrap64 ((wrap64 (a1 - (Int.tmod a1 60))) - (wrap64 (60 * (Int.tmod L4 15))))) = some (nm, 0) ∧ tou_At.f k a0_0 a0_1 a0_2 a0_3 a0_4 a0_5 a0_6 a0_7 a0_8 a0_9 a0_10 a0_11 a0_12 a0_13 a0_14 l0_15 l0_16 l0_17 l0_18 a0_19 a0_20 a0_21 a0_22 a0_23 a0_24 a0_25 a0_26 a0_27 a1 = some (nm, 0))))
open Classical in
noncomputable def pylonlaw14_TouQuarters.f (k : Nat) (a0_0 : ByteArray) (a0_1 : Int) (a0_2 : Int) (a0_3 : Int) (a0_4 : Int) (a0_5 : Int) (a0_6 : Int) (a0_7 : Int) (a0_8 : Int) (a0_9 : Int) (a0_10 : Int) (a0_11 : Int) (a0_12 : Int) (a0_13 : Int) (a0_14 : Int) (l0_15 : List (S58)) (l0_16 : List (S65)) (l0_17 : List (S60)) (l0_18 : List (S63)) (a0_19 : Int) (a0_20 : Int) (a0_21 : Int) (a0_22 : Int) (a0_23 : Int) (a0_24 : Int) (a0_25 : Int) (a0_26 : Int) (a0_27 : Int) (a1 : Int) : Option Bool := if pylonlaw14_TouQuarters.Good k a0_0 a0_1 a0_2 a0_3 a0_4 a0_5 a0_6 a0_7 a0_8 a0_9 a0_10 a0_11 a0_12 a0_13 a0_14 l0_15 l0_16 l0_17 l0_18 a0_19 a0_20 a0_21 a0_22 a0_23 a0_24 a0_25 a0_26 a0_27 a1 then some true else none
set_option maxHeartbeats 16000000 in
set_option maxRecDepth 100000 in
theorem pylonlaw14_TouQuarters.calls (k : Nat) (a0_0 : ByteArray) (a0_1 : Int) (a0_2 : Int) (a0_3 : Int) (a0_4 : Int) (a0_5 : Int) (a0_6 : Int) (a0_7 : Int) (a0_8 : Int) (a0_9 : Int) (a0_10 : Int) (a0_11 : Int) (a0_12 : Int) (a0_13 : Int) (a0_14 : Int) (A0_15 : Option Addr) (c0_15 : Nat) (l0_15 : List (S58)) (A0_16 : Option Addr) (c0_16 : Nat) (l0_16 : List (S65)) (A0_17 : Option Addr) (c0_17 : Nat) (l0_17 : List (S60)) (A0_18 : Option Addr) (c0_18 : Nat) (l0_18 : List (S63)) (a0_19 : Int) (a0_20 : Int) (a0_21 : Int) (a0_22 : Int) (a0_23 : Int) (a0_24 : Int) (a0_25 : Int) (a0_26 : Int) (a0_27 : Int) (a1 : Int) (r : Bool) (w : World) (hr0_15 : Kd.C k58 w A0_15 l0_15.length l0_15) (hc0_15 : l0_15.length ≤ c0_15) (hr0_16 : Kd.C k65 w A0_16 l0_16.length l0_16) (hc0_16 : l0_16.length ≤ c0_16) (hr0_17 : Kd.C k60 w A0_17 l0_17.length l0_17) (hc0_17 : l0_17.length ≤ c0_17) (hr0_18 : Kd.C k63 w A0_18 l0_18.length l0_18) (hc0_18 : l0_18.length ≤ c0_18) (h : pylonlaw14_TouQuarters.f k a0_0 a0_1 a0_2 a0_3 a0_4 a0_5 a0_6 a0_7 a0_8 a0_9 a0_10 a0_11 a0_12 a0_13 a0_14 l0_15 l0_16 l0_17 l0_18 a0_19 a0_20 a0_21 a0_22 a0_23 a0_24 a0_25 a0_26 a0_27 a1 = some r) :
  Calls Try.prog 8 #[.agg #[.string a0_0, .int .i64 a0_1, .int .i64 a0_2, .int .i64 a0_3, .int .i64 a0_4, .int .i64 a0_5, .int .i64 a0_6, .int .i64 a0_7, .int .i64 a0_8, .int .i64 a0_9, .int .i64 a0_10, .int .i64 a0_11, .int .i64 a0_12, .int .i64 a0_13, .int .i64 a0_14, .slice A0_15 l0_15.length c0_15, .slice A0_16 l0_16.length c0_16, .slice A0_17 l0_17.length c0_17, .slice A0_18 l0_18.length c0_18, .int .i64 a0_19, .int .i64 a0_20, .int .i64 a0_21, .int .i64 a0_22, .int .i64 a0_23, .int .i64 a0_24, .int .i64 a0_25, .int .i64 a0_26, .int .i64 a0_27], .int .i64 a1] w fun e w' => e = .returned (.bool r) ∧ Below w.heap.size w w' := by
  unfold pylonlaw14_TouQuarters.f at h
  split at h
  case isFalse => exact absurd h (by simp)
  case isTrue hgood =>
  cases h
  obtain ⟨hA, hCp, ⟨n, hN⟩, z, s, h, b, wi, hZ, hS, hH, hB, hW, L1, L2, L3, L4, L5, L6, hL, hF⟩ := hgood
  have HA := AX hA
  have HLf := AX hL
  have HF := AX hF
  obtain ⟨C, hC⟩ : ∃ C : Array Value, (#[.string a0_0, .int .i64 a0_1, .int .i64 a0_2, .int .i64 a0_3, .int .i64 a0_4, .int .i64 a0_5, .int .i64 a0_6, .int .i64 a0_7, .int .i64 a0_8, .int .i64 a0_9, .int .i64 a0_10, .int .i64 a0_11, .int .i64 a0_12, .int .i64 a0_13, .int .i64 a0_14, .slice A0_15 l0_15.length c0_15, .slice A0_16 l0_16.length c0_16, .slice A0_17 l0_17.length c0_17, .slice A0_18 l0_18.length c0_18, .int .i64 a0_19, .int .i64 a0_20, .int .i64 a0_21, .int .i64 a0_22, .int .i64 a0_23, .int .i64 a0_24, .int .i64 a0_25, .int .i64 a0_26, .int .i64 a0_27] : Array Value) = C := ⟨_, rfl⟩
  have HK1 := AX (show ∀ w', Below w.heap.size w w' → Calls Try.prog 27 #[.agg C] w' (fun e' w'' => ∃ r1 r2, e' = .returned (.tuple #[.int .i64 r1, .int .i64 r2]) ∧ Below w'.heap.size w' w'' ∧ (r2 = 0 → z = 0 ∧ s = true ∧ h = true ∧ b = true ∧ wi = true)) from fun w' hb => by
   rw [← hC]
   exact pylonref09_Check.calls k a0_0 a0_1 a0_2 a0_3 a0_4 a0_5 a0_6 a0_7 a0_8 a0_9 a0_10 a0_11 a0_12 a0_13 a0_14 _ _ l0_15 _ _ l0_16 _ _ l0_17 _ _ l0_18 a0_19 a0_20 a0_21 a0_22 a0_23 a0_24 a0_25 a0_26 a0_27 n z s h b wi _ (Kd.C_below hr0_15 hb) hc0_15 (Kd.C_below hr0_16 hb) hc0_16 (Kd.C_below hr0_17 hb) hc0_17 (Kd.C_below hr0_18 hb) hc0_18 hN hZ hS hH hB hW)
  have HK2 := AX (show ∀ w' m nm e, Below w.heap.size w w' → tou_At.f k a0_0 a0_1 a0_2 a0_3 a0_4 a0_5 a0_6 a0_7 a0_8 a0_9 a0_10 a0_11 a0_12 a0_13 a0_14 l0_15 l0_16 l0_17 l0_18 a0_19 a0_20 a0_21 a0_22 a0_23 a0_24 a0_25 a0_26 a0_27 m = some (nm, e) → Calls Try.prog 26 #[.agg C] w' (fun e' w'' => ∃ D : Value, e' = .returned D ∧ Below w'.heap.size w' w'' ∧ Calls Try.prog 25 #[D, .int .i64 m] w'' fun e'' w3 => e'' = .returned (.tuple #[.string nm, .int .i64 e]) ∧ Below w''.heap.size w'' w3) from fun w' m nm e hb hT => by
   rw [← hC]
   refine (pylonref08_Copy.calls a0_0 a0_1 a0_2 a0_3 a0_4 a0_5 a0_6 a0_7 a0_8 a0_9 a0_10 a0_11 a0_12 a0_13 a0_14 _ _ l0_15 _ _ l0_16 _ _ l0_17 _ _ l0_18 a0_19 a0_20 a0_21 a0_22 a0_23 a0_24 a0_25 a0_26 a0_27 _ _ _ _ _ _ _ _ _ _ _ _ _ _ _ _ _ _ _ _ _ _ _ _ _ _ _ _ _ (Kd.C_below hr0_15 hb) hc0_15 (Kd.C_below hr0_16 hb) hc0_16 (Kd.C_below hr0_17 hb) hc0_17 (Kd.C_below hr0_18 hb) hc0_18 hCp).mono ?_
   rintro e' w8 ⟨v15, v16, v17, v18, rfl, ho0, ho1, ho2, ho3, hb2⟩
   obtain ⟨B15, d15, e15⟩ := Kd.R_slice ho0
   obtain ⟨B16, d16, e16⟩ := Kd.R_slice ho1
   obtain ⟨B17, d17, e17⟩ := Kd.R_slice ho2
   obtain ⟨B18, d18, e18⟩ := Kd.S_slice ho3
   subst e15 e16 e17 e18
   exact ⟨_, rfl, hb2, tou_At.calls k a0_0 a0_1 a0_2 a0_3 a0_4 a0_5 a0_6 a0_7 a0_8 a0_9 a0_10 a0_11 a0_12 a0_13 a0_14 _ _ l0_15 _ _ l0_16 _ _ l0_17 _ _ l0_18 a0_19 a0_20 a0_21 a0_22 a0_23 a0_24 a0_25 a0_26 a0_27 m nm e _ (Kd.R_reads' ho0).2.2 (Kd.R_reads' ho0).2.1 (Kd.R_reads' ho1).2.2 (Kd.R_reads' ho1).2.1 (Kd.R_reads' ho2).2.2 (Kd.R_reads' ho2).2.1 (Kd.S_reads' ho3).2.2 (Kd.S_reads' ho3).2.1 hT⟩)
  have HCZ := AX (show C.size = 28 by rw [← hC]; rfl)
  have E0 := AX (show C[0]? = some (.string a0_0) by rw [← hC]; rfl)
  have E1 := AX (show C[1]? = some (.int .i64 a0_1) by rw [← hC]; rfl)
  have E2 := AX (show C[2]? = some (.int .i64 a0_2) by rw [← hC]; rfl)
  have E3 := AX (show C[3]? = some (.int .i64 a0_3) by rw [← hC]; rfl)
  have E4 := AX (show C[4]? = some (.int .i64 a0_4) by rw [← hC]; rfl)
  have E5 := AX (show C[5]? = some (.int .i64 a0_5) by rw [← hC]; rfl)
  have E6 := AX (show C[6]? = some (.int .i64 a0_6) by rw [← hC]; rfl)
  have E7 := AX (show C[7]? = some (.int .i64 a0_7) by rw [← hC]; rfl)
  have E8 := AX (show C[8]? = some (.int .i64 a0_8) by rw [← hC]; rfl)
  have E9 := AX (show C[9]? = some (.int .i64 a0_9) by rw [← hC]; rfl)
  have E10 := AX (show C[10]? = some (.int .i64 a0_10) by rw [← hC]; rfl)
  clear hr0_15 hc0_15 hr0_16 hc0_16 hr0_17 hc0_17 hr0_18 hc0_18 hN hZ hS hH hB hW hA hCp hL hF
  go_enter Try.func8, Try.ntmps8
  have HB1 := AX ((Below.refl w.heap.size w).alloc (Nat.le_refl _) (.cells C 47))
  have BK := AX (heap_alloc_new w (.cells C 47))
  go_upto_region 1 with (fail)
  clear hC
  obtain ⟨W, hW⟩ : ∃ W : World, w.alloc (.cells C 47) = W := ⟨_, rfl⟩
  rw [hW] at BK HB1 ⊢
  clear hW
  have BKW := BK
  have HBW := HB1
  clear BK HB1
  obtain ⟨gb, hgb⟩ : ∃ g, w.heap.size = g := ⟨_, rfl⟩
  have HG := AX hgb
  rw [hgb] at BKW ⊢
  clear hgb
  have HL0 := AX (Below.refl W.heap.size W)
  go_upto_region 4 with (first | (go_at_call 15; refine (pylonlaw14_awake.calls k true _ HA.out).mono ?_; rintro e1 w1 ⟨rfl, hb⟩; have HL1 := AX hb; clear hb) | ((with_reducible refine gate_dst (N := 19) rfl ?_); refine wpList_load_mid rfl 47 (.tmp 2) rfl gb 0 rfl C.toList _ ?l1 Try.underlying47 rfl ?l2 ?_; (case l1 => exact wd_range (wd_at BKW.out HL1.out)); (case l2 => rw [Array.length_toList, HCZ.out]; kernel_rfl); rw [Array.toArray_toList]) | (go_at_call 27; refine (HK1.out _ (HBW.out.trans (HL1.out.mono HBW.out.size))).mono ?_; rintro e2 w2 ⟨r1, r2, rfl, hb, hok⟩; have HL2 := AX (HL1.out.trans (hb.mono HL1.out.size)); have HOK := AX hok; clear hb hok))
  have g1 : w2.cell? ⟨gb, 1, none⟩ = _ := wd_cell (wd_at BKW.out HL2.out) E1.out
  have g2 : w2.cell? ⟨gb, 2, none⟩ = _ := wd_cell (wd_at BKW.out HL2.out) E2.out
  have g3 : w2.cell? ⟨gb, 3, none⟩ = _ := wd_cell (wd_at BKW.out HL2.out) E3.out
  have g4 : w2.cell? ⟨gb, 4, none⟩ = _ := wd_cell (wd_at BKW.out HL2.out) E4.out
  have g5 : w2.cell? ⟨gb, 5, none⟩ = _ := wd_cell (wd_at BKW.out HL2.out) E5.out
  have g6 : w2.cell? ⟨gb, 6, none⟩ = _ := wd_cell (wd_at BKW.out HL2.out) E6.out
  have g7 : w2.cell? ⟨gb, 7, none⟩ = _ := wd_cell (wd_at BKW.out HL2.out) E7.out
  have g8 : w2.cell? ⟨gb, 8, none⟩ = _ := wd_cell (wd_at BKW.out HL2.out) E8.out
  have g9 : w2.cell? ⟨gb, 9, none⟩ = _ := wd_cell (wd_at BKW.out HL2.out) E9.out
  have g10 : w2.cell? ⟨gb, 10, none⟩ = _ := wd_cell (wd_at BKW.out HL2.out) E10.out
  go_upto_region 5 with (go_at_call 28; refine (pylonref04_At.calls k a0_1 a0_2 a0_3 a0_4 a0_5 a0_6 a0_7 a0_8 a0_9 a0_10 a1 L1 L2 L3 L4 L5 L6 _ HLf.out).mono ?_; rintro e3 w3 ⟨rfl, hb⟩; have HL3 := AX (HL2.out.trans (hb.mono HL2.out.size)); clear hb)
  clear g1 g2 g3 g4 g5 g6 g7 g8 g9 g10
  have BL := AX (heap_alloc_new w3 (.cells #[.int .i64 L1, .int .i64 L2, .int .i64 L3, .int .i64 L4, .int .i64 L5] 54))
  have HL4 := AX (HL3.out.alloc HL3.out.size (.cells #[.int .i64 L1, .int .i64 L2, .int .i64 L3, .int .i64 L4, .int .i64 L5] 54))
  obtain ⟨W4, hW4⟩ : ∃ x : World, w3.alloc (.cells #[.int .i64 L1, .int .i64 L2, .int .i64 L3, .int .i64 L4, .int .i64 L5] 54) = x := ⟨_, rfl⟩
  obtain ⟨gl, hgl⟩ : ∃ g, w3.heap.size = g := ⟨_, rfl⟩
  rw [hW4, hgl] at BL
  try rw [hW4] at BL6
  rw [hW4] at HL4 ⊢
  rw [hgl] at ⊢
  clear hW4 hgl
  go_cut [43] (fun v wx => ∃ x : Bool, v = .bool x ∧ Aside0 (W4 = wx) ∧ Aside0 (x = false → r2 = 0 ∧ L6 = 0 ∧ 0 ≤ a1 ∧ a1 ≤ 253402200000))
  case first =>
    by_cases c1 : r2 = 0
    · have t1 : (r2 != 0) = false := by simp [c1]
      have CR := AX c1
      clear c1
      by_cases c2 : L6 = 0
      · have t2 : (L6 != 0) = false := by simp [c2]
        have CL := AX c2
        clear c2
        by_cases c3 : a1 < 0
        · have t3 : decide (a1 < 0) = true := decide_eq_true c3
          have CA := AX c3
          clear c3
          go_wp2
          go_meet
          exact ⟨_, rfl, AX rfl, AX (by first | (intro h; cases h; done) | exact fun _ => ⟨CR.out, CL.out, by have := CA.out; omega, by have := CB.out; omega⟩)⟩
        · have t3 : decide (a1 < 0) = false := decide_eq_false c3
          have CA := AX c3
          clear c3
          by_cases c4 : 253402200000 < a1
          · have t4 : decide (253402200000 < a1) = true := decide_eq_true c4
            have t5 : decide (a1 > 253402200000) = true := decide_eq_true c4
            have CB := AX c4
            clear c4
            go_wp2
            go_meet
            exact ⟨_, rfl, AX rfl, AX (by first | (intro h; cases h; done) | exact fun _ => ⟨CR.out, CL.out, by have := CA.out; omega, by have := CB.out; omega⟩)⟩
          · have t4 : decide (253402200000 < a1) = false := decide_eq_false c4
            have t5 : decide (a1 > 253402200000) = false := decide_eq_false c4
            have CB := AX c4
            clear c4
            go_wp2
            go_meet
            exact ⟨_, rfl, AX rfl, AX (by first | (intro h; cases h; done) | exact fun _ => ⟨CR.out, CL.out, by have := CA.out; omega, by have := CB.out; omega⟩)⟩
      · have t2 : (L6 != 0) = true := by simp [c2]
        clear c2
        go_wp2
        go_meet
        exact ⟨_, rfl, AX rfl, AX (by first | (intro h; cases h; done) | exact fun _ => ⟨CR.out, CL.out, by have := CA.out; omega, by have := CB.out; omega⟩)⟩
    · have t1 : (r2 != 0) = true := by simp [c1]
      clear c1
      go_wp2
      go_meet
      exact ⟨_, rfl, AX rfl, AX (by first | (intro h; cases h; done) | exact fun _ => ⟨CR.out, CL.out, by have := CA.out; omega, by have := CB.out; omega⟩)⟩
  case rest =>
    obtain ⟨x, rfl, HW, HX⟩ := hcut
    have hw := HW.out
    subst hw
    clear HW
    cases x with
    | true =>
      go_wp2
      go_ret
      exact ⟨rfl, HG.out ▸ HBW.out.trans (HL4.out.mono HBW.out.size)⟩
    | false =>
      obtain ⟨c1, c2, c3, c4⟩ := HX.out rfl
      obtain ⟨F1, F2, F3, F4, F5, F6, hAF, hE⟩ := HF.out (HOK.out c1) c2 c3 c4
      have HAF := AX hAF
      have HE := AX hE
      clear hAF hE c1 c2 c3 c4 HX HF HOK
      have g1 : W4.cell? ⟨gb, 1, none⟩ = _ := wd_cell (wd_at BKW.out HL4.out) E1.out
      have g2 : W4.cell? ⟨gb, 2, none⟩ = _ := wd_cell (wd_at BKW.out HL4.out) E2.out
      have g3 : W4.cell? ⟨gb, 3, none⟩ = _ := wd_cell (wd_at BKW.out HL4.out) E3.out
      have g4 : W4.cell? ⟨gb, 4, none⟩ = _ := wd_cell (wd_at BKW.out HL4.out) E4.out
      have g5 : W4.cell? ⟨gb, 5, none⟩ = _ := wd_cell (wd_at BKW.out HL4.out) E5.out
      have g6 : W4.cell? ⟨gb, 6, none⟩ = _ := wd_cell (wd_at BKW.out HL4.out) E6.out
      have g7 : W4.cell? ⟨gb, 7, none⟩ = _ := wd_cell (wd_at BKW.out HL4.out) E7.out
      have g8 : W4.cell? ⟨gb, 8, none⟩ = _ := wd_cell (wd_at BKW.out HL4.out) E8.out
      have g9 : W4.cell? ⟨gb, 9, none⟩ = _ := wd_cell (wd_at BKW.out HL4.out) E9.out
      have g10 : W4.cell? ⟨gb, 10, none⟩ = _ := wd_cell (wd_at BKW.out HL4.out) E10.out
      have q3 : W4.cell? ⟨gl, 3, none⟩ = some (.int .i64 L4) := wd_cell BL.out rfl
      go_upto_region 9 with (go_at_call 28; refine (pylonref04_At.calls k a0_1 a0_2 a0_3 a0_4 a0_5 a0_6 a0_7 a0_8 a0_9 a0_10 (wrap64 ((wrap64 (a1 - (Int.tmod a1 60))) - (wrap64 (60 * (Int.tmod L4 15))))) F1 F2 F3 F4 F5 F6 _ HAF.out).mono ?_; rintro e5 w5 ⟨rfl, hb⟩; have HL5 := AX (HL4.out.trans (hb.mono HL4.out.size)); have BL5 := AX (wd_at BL.out hb); clear hb)
      clear q3 g1 g2 g3 g4 g5 g6 g7 g8 g9 g10
      have BL6 := AX (wd_at BL5.out ((Below.refl w5.heap.size w5).alloc (Nat.le_refl _) (.cells #[.int .i64 F1, .int .i64 F2, .int .i64 F3, .int .i64 F4, .int .i64 F5] 54)))
      have BF := AX (heap_alloc_new w5 (.cells #[.int .i64 F1, .int .i64 F2, .int .i64 F3, .int .i64 F4, .int .i64 F5] 54))
      have HL6 := AX (HL5.out.alloc HL5.out.size (.cells #[.int .i64 F1, .int .i64 F2, .int .i64 F3, .int .i64 F4, .int .i64 F5] 54))
      obtain ⟨W6, hW6⟩ : ∃ x : World, w5.alloc (.cells #[.int .i64 F1, .int .i64 F2, .int .i64 F3, .int .i64 F4, .int .i64 F5] 54) = x := ⟨_, rfl⟩
      obtain ⟨gf, hgf⟩ : ∃ g, w5.heap.size = g := ⟨_, rfl⟩
      rw [hW6, hgf] at BF
      try rw [hW6] at BL6
      rw [hW6] at HL6 ⊢
      rw [hgf] at ⊢
      clear hW6 hgf
      have p4 : W6.cell? ⟨gf, 4, none⟩ = some (.int .i64 F5) := wd_cell BF.out rfl
      have p5 : W6.cell? ⟨gl, 4, none⟩ = some (.int .i64 L5) := wd_cell BL6.out rfl
      go_cut [68] (fun v wx => ∃ x : Bool, v = .bool x ∧ Aside0 (W6 = wx) ∧ Aside0 (x = false → F6 = 0 ∧ F5 = L5))
      case first =>
        by_cases c1 : F6 = 0
        · have t1 : (F6 != 0) = false := by simp [c1]
          have CR := AX c1
          clear c1
          by_cases c2 : F5 = L5
          · have t2 : (F5 != L5) = false := by simp [c2]
            have CL := AX c2
            clear c2
            go_wp2
            go_meet
            exact ⟨_, rfl, AX rfl, AX (by first | (intro h; cases h; done) | exact fun _ => ⟨CR.out, CL.out⟩)⟩
          · have t2 : (F5 != L5) = true := by simp [c2]
            clear c2
            go_wp2
            go_meet
            exact ⟨_, rfl, AX rfl, AX (by first | (intro h; cases h; done) | exact fun _ => ⟨CR.out, CL.out⟩)⟩
        · have t1 : (F6 != 0) = true := by simp [c1]
          clear c1
          go_wp2
          go_meet
          exact ⟨_, rfl, AX rfl, AX (by first | (intro h; cases h; done) | exact fun _ => ⟨CR.out, CL.out⟩)⟩
      case rest =>
        obtain ⟨x, rfl, HW, HX⟩ := hcut
        have hw := HW.out
        subst hw
        clear HW p4 p5
        cases x with
        | true =>
          go_wp2
          go_ret
          exact ⟨rfl, HG.out ▸ HBW.out.trans (HL6.out.mono HBW.out.size)⟩
        | false =>
          obtain ⟨c1, c2⟩ := HX.out rfl
          obtain ⟨nm, hT1, hT2⟩ := HE.out c1 c2
          have HT1 := AX hT1
          have HT2 := AX hT2
          clear hT1 hT2 c1 c2 HX HE
          have c8b0 : (nm.toList == nm.toList) = true := beq_self_eq_true _
          have c8b1 : (nm.toList != nm.toList) = false := bne_self_eq_false _
          go_wp2_with (first | ((with_reducible refine gate_dst (N := 70) rfl ?_); refine wpList_load_mid rfl 47 (.tmp 2) rfl gb 0 rfl C.toList _ ?l1 Try.underlying47 rfl ?l2 ?_; (case l1 => exact wd_range (wd_at BKW.out HL6.out)); (case l2 => rw [Array.length_toList, HCZ.out]; kernel_rfl); rw [Array.toArray_toList]) | ((with_reducible refine gate_dst (N := 77) rfl ?_); refine wpList_load_mid rfl 47 (.tmp 2) rfl gb 0 rfl C.toList _ ?l1 Try.underlying47 rfl ?l2 ?_; (case l1 => exact wd_range (wd_at BKW.out HL8.out)); (case l2 => rw [Array.length_toList, HCZ.out]; kernel_rfl); rw [Array.toArray_toList]) | (go_at_call 26; refine (HK2.out _ _ nm 0 (HBW.out.trans (HL8.out.mono HBW.out.size)) HT2.out).mono ?_; rintro e9 w9 ⟨D9, rfl, hb, hK⟩; have HL9 := AX (HL8.out.trans (hb.mono HL8.out.size)); have HD9 := AX hK; clear hb hK) | (go_at_call 26; refine (HK2.out _ _ nm 0 (HBW.out.trans (HL6.out.mono HBW.out.size)) HT1.out).mono ?_; rintro e7 w7 ⟨D7, rfl, hb, hK⟩; have HL7 := AX (HL6.out.trans (hb.mono HL6.out.size)); have HD7 := AX hK; clear hb hK) | (go_at_call 25; refine HD9.out.mono ?_; rintro e10 w10 ⟨rfl, hb⟩; have HL10 := AX (HL9.out.trans (hb.mono HL9.out.size)); clear hb) | (go_at_call 25; refine HD7.out.mono ?_; rintro e8 w8 ⟨rfl, hb⟩; have HL8 := AX (HL7.out.trans (hb.mono HL7.out.size)); clear hb))
          go_ret
          first | exact ⟨rfl, HG.out ▸ HBW.out.trans (HL10.out.mono HBW.out.size)⟩ | exact ⟨by simp, HG.out ▸ HBW.out.trans (HL10.out.mono HBW.out.size)⟩

end Go.Proofs.Ytkggjjggcbcdiaa.PX
