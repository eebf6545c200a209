/- Functions of the program as plain Lean functions, each with a proof that the call in the machine answers just what the plain function says; condition: the plain function answers at all. -/
import Derived.Test.YtkggjjggcbcdiaaPXx0
import Derived.Test.YtkggjjggcbcdiaaPXx8
import Derived.Test.YtkggjjggcbcdiaaPXx9
import Derived.Test.YtkggjjggcbcdiaaPXx10
import Derived.Test.YtkggjjggcbcdiaaPXx11
import Derived.Test.YtkggjjggcbcdiaaPXx12
import Derived.BigQuiet
import Derived.Deep.MidRow
namespace Go.Proofs.Ytkggjjggcbcdiaa.PX
open Go.RowKit Go.Proofs.YtkggjjggcbcdiaaW.PrintWords Go.Proofs.YtkggjjggcbcdiaaW.PrintLast Go.Proofs.YtkggjjggcbcdiaaW.PrintMore
attribute [local go_sem] max2_int min2_int max_two min_two max_three min_three max_four min_four   -- for this text's walks alone
set_option linter.unusedVariables false
set_option linter.unusedSimpArgs false

/-! ### pylonref09_Check: function 27 -/
theorem wd_sz (w : World) (o : Obj) : (w.alloc o).heap.size = w.heap.size + 1 := Array.size_push _
theorem wd_range {w : World} {g t : Nat} {C : Array Value} (h : w.heap[g]? = some (.cells C t (0, 0))) : w.rangeAt g 0 C.toList := fun j v hv => by
  rw [Nat.zero_add]; exact wd_cell h (by simpa using hv)
theorem pylonref09_within.v (a b c : Int) : pylonref09_within.f a b c = some (decide (b ≤ a) && decide (a ≤ c)) := by
  unfold pylonref09_within.f
  by_cases h : b ≤ a
  · rw [if_pos h, decide_eq_true h, Bool.true_and]
  · rw [if_neg h, decide_eq_false h, Bool.false_and]
set_option maxHeartbeats 16000000 in
set_option maxRecDepth 100000 in
theorem pylonref09_Check.calls (k : Nat) (a0_0 : ByteArray) (a0_1 : Int) (a0_2 : Int) (a0_3 : Int) (a0_4 : Int) (a0_5 : Int) (a0_6 : Int) (a0_7 : Int) (a0_8 : Int) (a0_9 : Int) (a0_10 : Int) (a0_11 : Int) (a0_12 : Int) (a0_13 : Int) (a0_14 : Int) (A0_15 : Option Addr) (c0_15 : Nat) (l0_15 : List (S58)) (A0_16 : Option Addr) (c0_16 : Nat) (l0_16 : List (S65)) (A0_17 : Option Addr) (c0_17 : Nat) (l0_17 : List (S60)) (A0_18 : Option Addr) (c0_18 : Nat) (l0_18 : List (S63)) (a0_19 : Int) (a0_20 : Int) (a0_21 : Int) (a0_22 : Int) (a0_23 : Int) (a0_24 : Int) (a0_25 : Int) (a0_26 : Int) (a0_27 : Int) (n : Bool) (z : Int) (s h b wi : Bool) (w : World) (hr0_15 : Kd.C k58 w A0_15 l0_15.length l0_15) (hc0_15 : l0_15.length ≤ c0_15) (hr0_16 : Kd.C k65 w A0_16 l0_16.length l0_16) (hc0_16 : l0_16.length ≤ c0_16) (hr0_17 : Kd.C k60 w A0_17 l0_17.length l0_17) (hc0_17 : l0_17.length ≤ c0_17) (hr0_18 : Kd.C k63 w A0_18 l0_18.length l0_18) (hc0_18 : l0_18.length ≤ c0_18) (hN : pylonref06_Name.f k a0_0 = some n) (hZ : pylonref04_Check.f k a0_1 a0_2 a0_3 a0_4 a0_5 a0_6 a0_7 a0_8 a0_9 a0_10 = some z) (hS : pylonref09_seasons.f k l0_15 = some s) (hH : pylonref09_holidays.f k l0_16 = some h) (hB : pylonref09_blocks.f k l0_18 = some b) (hW : pylonref09_windows.f a0_0 a0_1 a0_2 a0_3 a0_4 a0_5 a0_6 a0_7 a0_8 a0_9 a0_10 a0_11 a0_12 a0_13 a0_14 l0_15 l0_16 l0_17 l0_18 a0_19 a0_20 a0_21 a0_22 a0_23 a0_24 a0_25 a0_26 a0_27 = some wi) :
  Calls Try.prog 27 #[.agg #[.string a0_0, .int .i64 a0_1, .int .i64 a0_2, .int .i64 a0_3, .int .i64 a0_4, .int .i64 a0_5, .int .i64 a0_6, .int .i64 a0_7, .int .i64 a0_8, .int .i64 a0_9, .int .i64 a0_10, .int .i64 a0_11, .int .i64 a0_12, .int .i64 a0_13, .int .i64 a0_14, .slice A0_15 l0_15.length c0_15, .slice A0_16 l0_16.length c0_16, .slice A0_17 l0_17.length c0_17, .slice A0_18 l0_18.length c0_18, .int .i64 a0_19, .int .i64 a0_20, .int .i64 a0_21, .int .i64 a0_22, .int .i64 a0_23, .int .i64 a0_24, .int .i64 a0_25, .int .i64 a0_26, .int .i64 a0_27]] w fun e w' => ∃ r1 r2, e = .returned (.tuple #[.int .i64 r1, .int .i64 r2]) ∧ Below w.heap.size w w' ∧ (r2 = 0 → z = 0 ∧ s = true ∧ h = true ∧ b = true ∧ wi = true) := by
  obtain ⟨C, hC⟩ : ∃ C : Array Value, (#[.string a0_0, .int .i64 a0_1, .int .i64 a0_2, .int .i64 a0_3, .int .i64 a0_4, .int .i64 a0_5, .int .i64 a0_6, .int .i64 a0_7, .int .i64 a0_8, .int .i64 a0_9, .int .i64 a0_10, .int .i64 a0_11, .int .i64 a0_12, .int .i64 a0_13, .int .i64 a0_14, .slice A0_15 l0_15.length c0_15, .slice A0_16 l0_16.length c0_16, .slice A0_17 l0_17.length c0_17, .slice A0_18 l0_18.length c0_18, .int .i64 a0_19, .int .i64 a0_20, .int .i64 a0_21, .int .i64 a0_22, .int .i64 a0_23, .int .i64 a0_24, .int .i64 a0_25, .int .i64 a0_26, .int .i64 a0_27] : Array Value) = C := ⟨_, rfl⟩
  have KS := AX (show ∀ w', Below w.heap.size w w' → Calls Try.prog 54 #[.slice A0_15 l0_15.length c0_15] w' (fun e' w'' => e' = .returned (.bool s) ∧ Below w'.heap.size w' w'') from fun w' hb => pylonref09_seasons.calls k _ _ l0_15 s _ (Kd.C_below hr0_15 hb) hc0_15 hS)
  have KH := AX (show ∀ w', Below w.heap.size w w' → Calls Try.prog 55 #[.slice A0_16 l0_16.length c0_16] w' (fun e' w'' => e' = .returned (.bool h) ∧ Below w'.heap.size w' w'') from fun w' hb => pylonref09_holidays.calls k _ _ l0_16 h _ (Kd.C_below hr0_16 hb) hc0_16 hH)
  have KB := AX (show ∀ w', Below w.heap.size w w' → Calls Try.prog 56 #[.slice A0_18 l0_18.length c0_18] w' (fun e' w'' => e' = .returned (.bool b) ∧ Below w'.heap.size w' w'') from fun w' hb => pylonref09_blocks.calls k _ _ l0_18 b _ (Kd.C_below hr0_18 hb) hc0_18 hB)
  have KW := AX (show ∀ w', Below w.heap.size w w' → Calls Try.prog 57 #[.agg C] w' (fun e' w'' => e' = .returned (.bool wi) ∧ Below w'.heap.size w' w'') from fun w' hb => by
   rw [← hC]
   exact pylonref09_windows.calls a0_0 a0_1 a0_2 a0_3 a0_4 a0_5 a0_6 a0_7 a0_8 a0_9 a0_10 a0_11 a0_12 a0_13 a0_14 _ _ l0_15 _ _ l0_16 _ _ l0_17 _ _ l0_18 a0_19 a0_20 a0_21 a0_22 a0_23 a0_24 a0_25 a0_26 a0_27 wi _ (Kd.C_below hr0_15 hb) hc0_15 (Kd.C_below hr0_16 hb) hc0_16 (Kd.C_below hr0_17 hb) hc0_17 (Kd.C_below hr0_18 hb) hc0_18 hW)
  have KN := AX hN
  have KZ := AX hZ
  have HCZ := AX (show C.size = 28 by rw [← hC]; rfl)
  have E0 := AX (show C[0]? = some (.string a0_0) by rw [← hC]; rfl)
  have E1 := AX (show C[1]? = some (.int .i64 a0_1) by rw [← hC]; rfl)
  have E2 := AX (show C[2]? = some (.int .i64 a0_2) by rw [← hC]; rfl)
  have E3 := AX (show C[3]? = some (.int .i64 a0_3) by rw [← hC]; rfl)
  have E4 := AX (show C[4]? = some (.int .i64 a0_4) by rw [← hC]; rfl)
  have E5 := AX (show C[5]? = some (.int .i64 a0_5) by rw [← hC]; rfl)
  have E6 := AX (show C[6]? = some (.int .i64 a0_6) by rw [← hC]; rfl)
  have E7 := AX (show C[7]? = some (.int .i64 a0_7) by rw [← hC]; rfl)
  have E8 := AX (show C[8]? = some (.int .i64 a0_8) by rw [← hC]; rfl)
  have E9 := AX (show C[9]? = some (.int .i64 a0_9) by rw [← hC]; rfl)
  have E10 := AX (show C[10]? = some (.int .i64 a0_10) by rw [← hC]; rfl)
  have E11 := AX (show C[11]? = some (.int .i64 a0_11) by rw [← hC]; rfl)
  have E12 := AX (show C[12]? = some (.int .i64 a0_12) by rw [← hC]; rfl)
  have E13 := AX (show C[13]? = some (.int .i64 a0_13) by rw [← hC]; rfl)
  have E14 := AX (show C[14]? = some (.int .i64 a0_14) by rw [← hC]; rfl)
  have E15 := AX (show C[15]? = some (.slice A0_15 l0_15.length c0_15) by rw [← hC]; rfl)
  have E16 := AX (show C[16]? = some (.slice A0_16 l0_16.length c0_16) by rw [← hC]; rfl)
  have E17 := AX (show C[17]? = some (.slice A0_17 l0_17.length c0_17) by rw [← hC]; rfl)
  have E18 := AX (show C[18]? = some (.slice A0_18 l0_18.length c0_18) by rw [← hC]; rfl)
  have E19 := AX (show C[19]? = some (.int .i64 a0_19) by rw [← hC]; rfl)
  have E20 := AX (show C[20]? = some (.int .i64 a0_20) by rw [← hC]; rfl)
  have E21 := AX (show C[21]? = some (.int .i64 a0_21) by rw [← hC]; rfl)
  have E22 := AX (show C[22]? = some (.int .i64 a0_22) by rw [← hC]; rfl)
  have E23 := AX (show C[23]? = some (.int .i64 a0_23) by rw [← hC]; rfl)
  have E24 := AX (show C[24]? = some (.int .i64 a0_24) by rw [← hC]; rfl)
  have E25 := AX (show C[25]? = some (.int .i64 a0_25) by rw [← hC]; rfl)
  have E26 := AX (show C[26]? = some (.int .i64 a0_26) by rw [← hC]; rfl)
  have E27 := AX (show C[27]? = some (.int .i64 a0_27) by rw [← hC]; rfl)
  clear hr0_15 hc0_15 hr0_16 hc0_16 hr0_17 hc0_17 hr0_18 hc0_18 hN hZ hS hH hB hW
  go_enter Try.func27, Try.ntmps27
  have HB1 := AX ((Below.refl w.heap.size w).alloc (Nat.le_refl _) (.cells C 47))
  have BK := AX (heap_alloc_new w (.cells C 47))
  have e19 := E19.out
  have e20 := E20.out
  have e21 := E21.out
  have e22 := E22.out
  go_upto_region 3 with (fail)
  have e19 := E19.out
  clear e19
  try rw [hC]
  clear hC e20 e21 e22
  obtain ⟨W, hW⟩ : ∃ W : World, ((w.alloc (.cells C 47)).alloc (.cells #[.int .i64 a0_19, .int .i64 a0_20, .int .i64 a0_21, .int .i64 a0_22] 45)) = W := ⟨_, rfl⟩
  have hb2 := (Below.refl (w.alloc (.cells C 47)).heap.size (w.alloc (.cells C 47))).alloc (Nat.le_refl _) (.cells #[.int .i64 a0_19, .int .i64 a0_20, .int .i64 a0_21, .int .i64 a0_22] 45)
  have BKW := AX (hW ▸ wd_at BK.out hb2 : W.heap[w.heap.size]? = some (.cells C 47))
  have BDW := AX (show W.heap[w.heap.size + 1]? = some (.cells #[.int .i64 a0_19, .int .i64 a0_20, .int .i64 a0_21, .int .i64 a0_22] 45) by
    have := heap_alloc_new (w.alloc (.cells C 47)) (.cells #[.int .i64 a0_19, .int .i64 a0_20, .int .i64 a0_21, .int .i64 a0_22] 45)
    rw [hW, wd_sz] at this
    exact this)
  have HBW := AX (show Below w.heap.size w W from hW ▸ HB1.out.trans (hb2.mono HB1.out.size))
  rw [hW]
  clear hW hb2 HB1 BK
  have HL := AX (Below.refl W.heap.size W)
  obtain ⟨gb, hgb⟩ : ∃ g, w.heap.size = g := ⟨_, rfl⟩
  have HG := AX hgb
  rw [hgb] at BKW BDW ⊢
  clear hgb
  go_cut [8] (fun v8 wx => ∃ x : Bool, v8 = .bool x ∧ Aside0 (Below W.heap.size W wx) ∧ Aside0 (x = false → z = 0))
  case first =>
    have g0 : W.cell? ⟨gb, 0, none⟩ = _ := wd_cell (wd_at BKW.out HL.out) E0.out
    have g1 : W.cell? ⟨gb, 1, none⟩ = _ := wd_cell (wd_at BKW.out HL.out) E1.out
    have g2 : W.cell? ⟨gb, 2, none⟩ = _ := wd_cell (wd_at BKW.out HL.out) E2.out
    have g3 : W.cell? ⟨gb, 3, none⟩ = _ := wd_cell (wd_at BKW.out HL.out) E3.out
    have g4 : W.cell? ⟨gb, 4, none⟩ = _ := wd_cell (wd_at BKW.out HL.out) E4.out
    have g5 : W.cell? ⟨gb, 5, none⟩ = _ := wd_cell (wd_at BKW.out HL.out) E5.out
    have g6 : W.cell? ⟨gb, 6, none⟩ = _ := wd_cell (wd_at BKW.out HL.out) E6.out
    have g7 : W.cell? ⟨gb, 7, none⟩ = _ := wd_cell (wd_at BKW.out HL.out) E7.out
    have g8 : W.cell? ⟨gb, 8, none⟩ = _ := wd_cell (wd_at BKW.out HL.out) E8.out
    have g9 : W.cell? ⟨gb, 9, none⟩ = _ := wd_cell (wd_at BKW.out HL.out) E9.out
    have g10 : W.cell? ⟨gb, 10, none⟩ = _ := wd_cell (wd_at BKW.out HL.out) E10.out
    cases n with
    | false =>
      go_wp2_with (go_at_call 51; refine (pylonref06_Name.calls k a0_0 _ _ KN.out).mono ?_; rintro e' w' ⟨rfl, qd, rfl⟩)
      go_meet
      exact ⟨_, rfl, AX (by first | exact wd_dr HL.out _ | exact wd_dr (wd_dr HL.out _) _), AX (by simp)⟩
    | true =>
      by_cases cz : z = 0
      · have z1 : (z != 0) = false := by simp [cz]
        have CZ := AX cz
        clear cz
        go_wp2_with (first | (go_at_call 51; refine (pylonref06_Name.calls k a0_0 _ _ KN.out).mono ?_; rintro e' w' ⟨rfl, qd, rfl⟩) | (go_at_call 52; refine (pylonref04_Check.calls k a0_1 a0_2 a0_3 a0_4 a0_5 a0_6 a0_7 a0_8 a0_9 a0_10 z _ KZ.out).mono ?_; rintro e' w' ⟨rfl, hb⟩; have HL2 := AX ((wd_dr HL.out _).trans (hb.mono (wd_dr HL.out _).size))))
        go_meet
        exact ⟨_, rfl, AX HL2.out, AX (fun h => by first | exact CZ.out | (exfalso; simp at h))⟩
      · have z1 : (z != 0) = true := by simp [cz]
        have CZ := AX cz
        clear cz
        go_wp2_with (first | (go_at_call 51; refine (pylonref06_Name.calls k a0_0 _ _ KN.out).mono ?_; rintro e' w' ⟨rfl, qd, rfl⟩) | (go_at_call 52; refine (pylonref04_Check.calls k a0_1 a0_2 a0_3 a0_4 a0_5 a0_6 a0_7 a0_8 a0_9 a0_10 z _ KZ.out).mono ?_; rintro e' w' ⟨rfl, hb⟩; have HL2 := AX ((wd_dr HL.out _).trans (hb.mono (wd_dr HL.out _).size))))
        go_meet
        exact ⟨_, rfl, AX HL2.out, AX (fun h => by first | exact CZ.out | (exfalso; simp at h))⟩
  case rest =>
    obtain ⟨x, rfl, HL', HZ0⟩ := hcut
    clear HL
    have HL := HL'
    clear HL'
    cases x with
    | true =>
      go_wp2
      go_ret2
      exact ⟨1, 2, rfl, HG.out ▸ HBW.out.trans (HL.out.mono HBW.out.size), by simp⟩
    | false =>
      have z0 := AX (HZ0.out rfl)
      clear HZ0
      obtain ⟨W1, hW1⟩ : ∃ x : World, x = wc := ⟨_, rfl⟩
      subst hW1
      go_upto_region 5 with (fail)
      go_cut [19] (fun v wx => ∃ x : Bool, v = .bool x ∧ Aside0 (Below W.heap.size W wx))
      case first =>
        have g11 : W1.cell? ⟨gb, 11, none⟩ = _ := wd_cell (wd_at BKW.out HL.out) E11.out
        have g12 : W1.cell? ⟨gb, 12, none⟩ = _ := wd_cell (wd_at BKW.out HL.out) E12.out
        have g13 : W1.cell? ⟨gb, 13, none⟩ = _ := wd_cell (wd_at BKW.out HL.out) E13.out
        obtain ⟨wa, wah⟩ : ∃ y, pylonref09_within.f a0_11 1 10000000 = some y := ⟨_, pylonref09_within.v _ _ _⟩
        have WA := AX wah
        clear wah
        obtain ⟨wb, wbh⟩ : ∃ y, pylonref09_within.f a0_12 0 10000000 = some y := ⟨_, pylonref09_within.v _ _ _⟩
        have WB := AX wbh
        clear wbh
        obtain ⟨wc', wc'h⟩ : ∃ y, pylonref09_within.f a0_13 0 40000 = some y := ⟨_, pylonref09_within.v _ _ _⟩
        have WC' := AX wc'h
        clear wc'h
        cases wa <;> cases wb <;> cases wc' <;> (go_wp2_with (first | (go_at_call 53; first | (with_reducible refine (pylonref09_within.calls _ _ _ _ _ WA.out).mono ?_); rintro e' w' ⟨rfl, qd, rfl⟩) | (go_at_call 53; first | (with_reducible refine (pylonref09_within.calls _ _ _ _ _ WB.out).mono ?_); rintro e' w' ⟨rfl, qd, rfl⟩) | (go_at_call 53; first | (with_reducible refine (pylonref09_within.calls _ _ _ _ _ WC'.out).mono ?_); rintro e' w' ⟨rfl, qd, rfl⟩)); go_meet; exact ⟨_, rfl, AX (by first | exact HL.out | exact wd_dr HL.out _ | exact wd_dr (wd_dr HL.out _) _ | exact wd_dr (wd_dr (wd_dr HL.out _) _) _)⟩)
      case rest =>
        obtain ⟨x, rfl, HL'⟩ := hcut
        clear HL
        have HL := HL'
        clear HL'
        cases x with
        | true =>
          go_wp2
          go_ret2
          exact ⟨2, 2, rfl, HG.out ▸ HBW.out.trans (HL.out.mono HBW.out.size), by simp⟩
        | false =>
          obtain ⟨W2, hW2⟩ : ∃ x : World, x = wc := ⟨_, rfl⟩
          subst hW2
          obtain ⟨wd, wdh⟩ : ∃ y, pylonref09_within.f a0_14 1 28 = some y := ⟨_, pylonref09_within.v _ _ _⟩
          have WD := AX wdh
          clear wdh
          have g14 : W2.cell? ⟨gb, 14, none⟩ = _ := wd_cell (wd_at BKW.out HL.out) E14.out
          cases wd with
          | false =>
            go_wp2_with (go_at_call 53; refine (pylonref09_within.calls _ _ _ _ _ WD.out).mono ?_; rintro e' w' ⟨rfl, qd, rfl⟩; have HLn := AX (wd_dr HL.out qd))
            go_ret2
            exact ⟨3, 2, rfl, HG.out ▸ HBW.out.trans (HLn.out.mono HBW.out.size), by simp⟩
          | true =>
            go_upto_region 9 with (go_at_call 53; refine (pylonref09_within.calls _ _ _ _ _ WD.out).mono ?_; rintro e' w' ⟨rfl, qd, rfl⟩; have HLn := AX (wd_dr HL.out qd))
            clear g14 HL
            have HL := HLn
            clear HLn
            obtain ⟨W3, hW3⟩ : ∃ x : World, x = W2.drewN qd := ⟨_, rfl⟩
            rw [← hW3] at HL ⊢
            clear hW3
            have g15 : W3.cell? ⟨gb, 15, none⟩ = _ := wd_cell (wd_at BKW.out HL.out) E15.out
            cases s with
            | false =>
              go_wp2_with (go_at_call 54; refine (KS.out _ (HBW.out.trans (HL.out.mono HBW.out.size))).mono ?_; rintro e' w4 ⟨rfl, hb⟩; have HLn := AX (HL.out.trans (hb.mono HL.out.size)))
              go_ret2
              exact ⟨4, 2, rfl, HG.out ▸ HBW.out.trans (HLn.out.mono HBW.out.size), by simp⟩
            | true =>
              go_upto_region 11 with (go_at_call 54; refine (KS.out _ (HBW.out.trans (HL.out.mono HBW.out.size))).mono ?_; rintro e' w4 ⟨rfl, hb⟩; have HLn := AX (HL.out.trans (hb.mono HL.out.size)))
              clear g15 HL
              have HL := HLn
              clear HLn
              clear hb
              obtain ⟨W4, hW4⟩ : ∃ x : World, x = w4 := ⟨_, rfl⟩
              subst hW4
              have g16 : W4.cell? ⟨gb, 16, none⟩ = _ := wd_cell (wd_at BKW.out HL.out) E16.out
              cases h with
              | false =>
                go_wp2_with (go_at_call 55; refine (KH.out _ (HBW.out.trans (HL.out.mono HBW.out.size))).mono ?_; rintro e' w5 ⟨rfl, hb⟩; have HLn := AX (HL.out.trans (hb.mono HL.out.size)))
                go_ret2
                exact ⟨5, 2, rfl, HG.out ▸ HBW.out.trans (HLn.out.mono HBW.out.size), by simp⟩
              | true =>
                go_upto_region 13 with (go_at_call 55; refine (KH.out _ (HBW.out.trans (HL.out.mono HBW.out.size))).mono ?_; rintro e' w5 ⟨rfl, hb⟩; have HLn := AX (HL.out.trans (hb.mono HL.out.size)))
                clear g16 HL
                have HL := HLn
                clear HLn
                clear hb
                obtain ⟨W5, hW5⟩ : ∃ x : World, x = w5 := ⟨_, rfl⟩
                subst hW5
                have g18 : W5.cell? ⟨gb, 18, none⟩ = _ := wd_cell (wd_at BKW.out HL.out) E18.out
                cases b with
                | false =>
                  go_wp2_with (go_at_call 56; refine (KB.out _ (HBW.out.trans (HL.out.mono HBW.out.size))).mono ?_; rintro e' w6 ⟨rfl, hb⟩; have HLn := AX (HL.out.trans (hb.mono HL.out.size)))
                  go_ret2
                  exact ⟨6, 2, rfl, HG.out ▸ HBW.out.trans (HLn.out.mono HBW.out.size), by simp⟩
                | true =>
                  go_upto_region 15 with (go_at_call 56; refine (KB.out _ (HBW.out.trans (HL.out.mono HBW.out.size))).mono ?_; rintro e' w6 ⟨rfl, hb⟩; have HLn := AX (HL.out.trans (hb.mono HL.out.size)))
                  clear g18 HL
                  have HL := HLn
                  clear HLn
                  clear hb
                  obtain ⟨W6, hW6⟩ : ∃ x : World, x = w6 := ⟨_, rfl⟩
                  subst hW6
                  cases wi with
                  | false =>
                    go_wp2_with (first | ((with_reducible refine gate_dst (N := 57) rfl ?_); refine wpList_load_mid rfl 47 (.tmp 1) rfl gb 0 rfl C.toList _ ?l1 Try.underlying47 rfl ?l2 ?_; (case l1 => exact wd_range (wd_at BKW.out HL.out)); (case l2 => rw [Array.length_toList, HCZ.out]; kernel_rfl); rw [Array.toArray_toList]) | (go_at_call 57; refine (KW.out _ (HBW.out.trans (HL.out.mono HBW.out.size))).mono ?_; rintro e' w7 ⟨rfl, hb⟩; have HLn := AX (HL.out.trans (hb.mono HL.out.size))))
                    go_ret2
                    exact ⟨7, 2, rfl, HG.out ▸ HBW.out.trans (HLn.out.mono HBW.out.size), by simp⟩
                  | true =>
                    go_upto_region 17 with (first | ((with_reducible refine gate_dst (N := 57) rfl ?_); refine wpList_load_mid rfl 47 (.tmp 1) rfl gb 0 rfl C.toList _ ?l1 Try.underlying47 rfl ?l2 ?_; (case l1 => exact wd_range (wd_at BKW.out HL.out)); (case l2 => rw [Array.length_toList, HCZ.out]; kernel_rfl); rw [Array.toArray_toList]) | (go_at_call 57; refine (KW.out _ (HBW.out.trans (HL.out.mono HBW.out.size))).mono ?_; rintro e' w7 ⟨rfl, hb⟩; have HLn := AX (HL.out.trans (hb.mono HL.out.size))))
                    clear HL hb
                    have HL := HLn
                    clear HLn
                    obtain ⟨W7, hW7⟩ : ∃ x : World, x = w7 := ⟨_, rfl⟩
                    subst hW7
                    go_cut [60] (fun v wx => ∃ x : Bool, v = .bool x ∧ Aside0 (Below W.heap.size W wx))
                    case first =>
                      have q0 : W7.cell? ⟨gb + 1, 0, none⟩ = _ := wd_cell (wd_at BDW.out HL.out) (j := 0) (v := .int .i64 a0_19) rfl
                      have q1 : W7.cell? ⟨gb + 1, 1, none⟩ = _ := wd_cell (wd_at BDW.out HL.out) (j := 1) (v := .int .i64 a0_20) rfl
                      have q2 : W7.cell? ⟨gb + 1, 2, none⟩ = _ := wd_cell (wd_at BDW.out HL.out) (j := 2) (v := .int .i64 a0_21) rfl
                      have q3 : W7.cell? ⟨gb + 1, 3, none⟩ = _ := wd_cell (wd_at BDW.out HL.out) (j := 3) (v := .int .i64 a0_22) rfl
                      obtain ⟨we, weh⟩ : ∃ y, pylonref09_within.f a0_19 0 10000000 = some y := ⟨_, pylonref09_within.v _ _ _⟩
                      have WE := AX weh
                      clear weh
                      obtain ⟨wf, wfh⟩ : ∃ y, pylonref09_within.f a0_21 0 100 = some y := ⟨_, pylonref09_within.v _ _ _⟩
                      have WF := AX wfh
                      clear wfh
                      obtain ⟨wg, wgh⟩ : ∃ y, pylonref09_within.f a0_22 0 36 = some y := ⟨_, pylonref09_within.v _ _ _⟩
                      have WG := AX wgh
                      clear wgh
                      obtain ⟨m1, hm1⟩ : ∃ y, (a0_20 != 15) = y := ⟨_, rfl⟩
                      obtain ⟨m2, hm2⟩ : ∃ y, (a0_20 != 30) = y := ⟨_, rfl⟩
                      obtain ⟨m3, hm3⟩ : ∃ y, (a0_20 != 60) = y := ⟨_, rfl⟩
                      cases we
                      · go_wp2_with (first | (go_at_call 53; first | (with_reducible refine (pylonref09_within.calls _ _ _ _ _ WE.out).mono ?_); rintro e' w' ⟨rfl, qd, rfl⟩) | (go_at_call 53; first | (with_reducible refine (pylonref09_within.calls _ _ _ _ _ WF.out).mono ?_); rintro e' w' ⟨rfl, qd, rfl⟩) | (go_at_call 53; first | (with_reducible refine (pylonref09_within.calls _ _ _ _ _ WG.out).mono ?_); rintro e' w' ⟨rfl, qd, rfl⟩))
                        go_meet
                        exact ⟨_, rfl, AX (by first | exact HL.out | exact wd_dr HL.out _ | exact wd_dr (wd_dr HL.out _) _ | exact wd_dr (wd_dr (wd_dr HL.out _) _) _)⟩
                      · cases m1
                        · (cases wf <;> cases wg <;> (go_wp2_with (first | (go_at_call 53; first | (with_reducible refine (pylonref09_within.calls _ _ _ _ _ WE.out).mono ?_); rintro e' w' ⟨rfl, qd, rfl⟩) | (go_at_call 53; first | (with_reducible refine (pylonref09_within.calls _ _ _ _ _ WF.out).mono ?_); rintro e' w' ⟨rfl, qd, rfl⟩) | (go_at_call 53; first | (with_reducible refine (pylonref09_within.calls _ _ _ _ _ WG.out).mono ?_); rintro e' w' ⟨rfl, qd, rfl⟩)); go_meet; exact ⟨_, rfl, AX (by first | exact HL.out | exact wd_dr HL.out _ | exact wd_dr (wd_dr HL.out _) _ | exact wd_dr (wd_dr (wd_dr HL.out _) _) _)⟩))
                        · cases m2
                          · (cases wf <;> cases wg <;> (go_wp2_with (first | (go_at_call 53; first | (with_reducible refine (pylonref09_within.calls _ _ _ _ _ WE.out).mono ?_); rintro e' w' ⟨rfl, qd, rfl⟩) | (go_at_call 53; first | (with_reducible refine (pylonref09_within.calls _ _ _ _ _ WF.out).mono ?_); rintro e' w' ⟨rfl, qd, rfl⟩) | (go_at_call 53; first | (with_reducible refine (pylonref09_within.calls _ _ _ _ _ WG.out).mono ?_); rintro e' w' ⟨rfl, qd, rfl⟩)); go_meet; exact ⟨_, rfl, AX (by first | exact HL.out | exact wd_dr HL.out _ | exact wd_dr (wd_dr HL.out _) _ | exact wd_dr (wd_dr (wd_dr HL.out _) _) _)⟩))
                          · cases m3
                            · (cases wf <;> cases wg <;> (go_wp2_with (first | (go_at_call 53; first | (with_reducible refine (pylonref09_within.calls _ _ _ _ _ WE.out).mono ?_); rintro e' w' ⟨rfl, qd, rfl⟩) | (go_at_call 53; first | (with_reducible refine (pylonref09_within.calls _ _ _ _ _ WF.out).mono ?_); rintro e' w' ⟨rfl, qd, rfl⟩) | (go_at_call 53; first | (with_reducible refine (pylonref09_within.calls _ _ _ _ _ WG.out).mono ?_); rintro e' w' ⟨rfl, qd, rfl⟩)); go_meet; exact ⟨_, rfl, AX (by first | exact HL.out | exact wd_dr HL.out _ | exact wd_dr (wd_dr HL.out _) _ | exact wd_dr (wd_dr (wd_dr HL.out _) _) _)⟩))
                            · (go_wp2_with (first | (go_at_call 53; first | (with_reducible refine (pylonref09_within.calls _ _ _ _ _ WE.out).mono ?_); rintro e' w' ⟨rfl, qd, rfl⟩) | (go_at_call 53; first | (with_reducible refine (pylonref09_within.calls _ _ _ _ _ WF.out).mono ?_); rintro e' w' ⟨rfl, qd, rfl⟩) | (go_at_call 53; first | (with_reducible refine (pylonref09_within.calls _ _ _ _ _ WG.out).mono ?_); rintro e' w' ⟨rfl, qd, rfl⟩)); go_meet; exact ⟨_, rfl, AX (by first | exact HL.out | exact wd_dr HL.out _ | exact wd_dr (wd_dr HL.out _) _ | exact wd_dr (wd_dr (wd_dr HL.out _) _) _)⟩)
                    case rest =>
                      obtain ⟨x, rfl, HL'⟩ := hcut
                      clear HL
                      have HL := HL'
                      clear HL'
                      cases x with
                      | true =>
                        go_wp2
                        go_ret2
                        exact ⟨8, 2, rfl, HG.out ▸ HBW.out.trans (HL.out.mono HBW.out.size), by simp⟩
                      | false =>
                        obtain ⟨W8, hW8⟩ : ∃ x : World, x = wc := ⟨_, rfl⟩
                        subst hW8
                        go_upto_region 19 with (fail)
                        go_cut [92] (fun v wx => ∃ x : Bool, v = .bool x ∧ Aside0 (Below W.heap.size W wx))
                        case first =>
                          have g23 : W8.cell? ⟨gb, 23, none⟩ = _ := wd_cell (wd_at BKW.out HL.out) E23.out
                          have g24 : W8.cell? ⟨gb, 24, none⟩ = _ := wd_cell (wd_at BKW.out HL.out) E24.out
                          obtain ⟨wh, whh⟩ : ∃ y, pylonref09_within.f a0_23 0 10000000 = some y := ⟨_, pylonref09_within.v _ _ _⟩
                          have WH := AX whh
                          clear whh
                          obtain ⟨wj, wjh⟩ : ∃ y, pylonref09_within.f a0_24 0 36 = some y := ⟨_, pylonref09_within.v _ _ _⟩
                          have WJ := AX wjh
                          clear wjh
                          cases wh <;> cases wj <;> (go_wp2_with (first | (go_at_call 53; first | (with_reducible refine (pylonref09_within.calls _ _ _ _ _ WH.out).mono ?_); rintro e' w' ⟨rfl, qd, rfl⟩) | (go_at_call 53; first | (with_reducible refine (pylonref09_within.calls _ _ _ _ _ WJ.out).mono ?_); rintro e' w' ⟨rfl, qd, rfl⟩)); go_meet; exact ⟨_, rfl, AX (by first | exact HL.out | exact wd_dr HL.out _ | exact wd_dr (wd_dr HL.out _) _ | exact wd_dr (wd_dr (wd_dr HL.out _) _) _)⟩)
                        case rest =>
                          obtain ⟨x, rfl, HL'⟩ := hcut
                          clear HL
                          have HL := HL'
                          clear HL'
                          cases x with
                          | true =>
                            go_wp2
                            go_ret2
                            exact ⟨9, 2, rfl, HG.out ▸ HBW.out.trans (HL.out.mono HBW.out.size), by simp⟩
                          | false =>
                            obtain ⟨W9, hW9⟩ : ∃ x : World, x = wc := ⟨_, rfl⟩
                            subst hW9
                            go_upto_region 21 with (fail)
                            go_cut [103] (fun v wx => ∃ x : Bool, v = .bool x ∧ Aside0 (Below W.heap.size W wx))
                            case first =>
                              have g25 : W9.cell? ⟨gb, 25, none⟩ = _ := wd_cell (wd_at BKW.out HL.out) E25.out
                              have g26 : W9.cell? ⟨gb, 26, none⟩ = _ := wd_cell (wd_at BKW.out HL.out) E26.out
                              have g27 : W9.cell? ⟨gb, 27, none⟩ = _ := wd_cell (wd_at BKW.out HL.out) E27.out
                              obtain ⟨wk, wkh⟩ : ∃ y, pylonref09_within.f a0_25 0 1000000000000 = some y := ⟨_, pylonref09_within.v _ _ _⟩
                              have WK := AX wkh
                              clear wkh
                              obtain ⟨wl, wlh⟩ : ∃ y, pylonref09_within.f a0_26 0 1000000000000 = some y := ⟨_, pylonref09_within.v _ _ _⟩
                              have WL := AX wlh
                              clear wlh
                              obtain ⟨wm, wmh⟩ : ∃ y, pylonref09_within.f a0_27 0 100000 = some y := ⟨_, pylonref09_within.v _ _ _⟩
                              have WM := AX wmh
                              clear wmh
                              cases wk <;> cases wl <;> cases wm <;> (go_wp2_with (first | (go_at_call 53; first | (with_reducible refine (pylonref09_within.calls _ _ _ _ _ WK.out).mono ?_); rintro e' w' ⟨rfl, qd, rfl⟩) | (go_at_call 53; first | (with_reducible refine (pylonref09_within.calls _ _ _ _ _ WL.out).mono ?_); rintro e' w' ⟨rfl, qd, rfl⟩) | (go_at_call 53; first | (with_reducible refine (pylonref09_within.calls _ _ _ _ _ WM.out).mono ?_); rintro e' w' ⟨rfl, qd, rfl⟩)); go_meet; exact ⟨_, rfl, AX (by first | exact HL.out | exact wd_dr HL.out _ | exact wd_dr (wd_dr HL.out _) _ | exact wd_dr (wd_dr (wd_dr HL.out _) _) _)⟩)
                            case rest =>
                              obtain ⟨x, rfl, HL'⟩ := hcut
                              clear HL
                              have HL := HL'
                              clear HL'
                              cases x with
                              | true =>
                                go_wp2
                                go_ret2
                                exact ⟨10, 2, rfl, HG.out ▸ HBW.out.trans (HL.out.mono HBW.out.size), by simp⟩
                              | false =>
                                go_wp2
                                go_ret2
                                exact ⟨0, 0, rfl, HG.out ▸ HBW.out.trans (HL.out.mono HBW.out.size), by simpa using z0.out⟩

/-! ### pylonref03_ahead: function 72 -/
def pylonref03_ahead.f (a0 : Int) : Option (Int) := some (wrap64 ((wrap64 ((wrap64 ((wrap64 (365 * (wrap64 (a0 - 1)))) + (wrap64 (Int.tdiv (wrap64 (a0 - 1)) 4)))) - (wrap64 (Int.tdiv (wrap64 (a0 - 1)) 100)))) + (wrap64 (Int.tdiv (wrap64 (a0 - 1)) 400))))
set_option maxHeartbeats 8000000 in
set_option maxRecDepth 100000 in
theorem pylonref03_ahead.calls (a0 : Int) (r : Int) (w : World) (h : pylonref03_ahead.f a0 = some r) :
  Calls Try.prog 72 #[.int .i64 a0] w fun e w' => e = .returned (.int .i64 r) ∧ Drawn0 w w' := by
 have H : (some (wrap64 ((wrap64 ((wrap64 ((wrap64 (365 * (wrap64 (a0 - 1)))) + (wrap64 (Int.tdiv (wrap64 (a0 - 1)) 4)))) - (wrap64 (Int.tdiv (wrap64 (a0 - 1)) 100)))) + (wrap64 (Int.tdiv (wrap64 (a0 - 1)) 400))))) = some r := h
 clear h
 obtain rfl := Option.some.inj H
 go_enter Try.func72, Try.ntmps72
 go_wp2
 go_ret
 exact ⟨by first | rfl | (simp; done) | (simp [*]; done), by repeat (first | exact Drawn0.refl _ | apply Drawn0.step)⟩

/-! ### pylonref03_Of: function 41 -/
mutual
def pylonref03_Of.j0 : Nat → Int → Bool → Option (Int × Int × Int × Int)
 | 0, _, _ => none
 | k + 1, x0, x14 => if x14 = true then (some (0, 0, 0, 5)) else (pylonref03_Of.l0 k (wrap64 (x0 + 719162)) (wrap64 ((wrap64 (Int.tdiv (wrap64 (x0 + 719162)) 366)) + 1)))
def pylonref03_Of.j2 : Nat → Int → Int → Option (Int × Int × Int × Int)
 | 0, _, _ => none
 | k + 1, x4, x5 => (pylonref03_ahead.f x5).bind fun t214 => (pylonref03_Of.l1 k (wrap64 (x4 - t214)) x5 1)
def pylonref03_Of.l1 : Nat → Int → Int → Int → Option (Int × Int × Int × Int)
 | 0, _, _, _ => none
 | k + 1, x4, x5, x6 => if x6 ≤ 12 then ((pylonref03_Length.f k x5 x6).bind fun bt215 => (if x4 < bt215.1 then (some (x5, x6, wrap64 (x4 + 1), 0)) else (pylonref03_Of.l1 k (wrap64 (x4 - bt215.1)) x5 (wrap64 (x6 + 1))))) else (some (0, 0, 0, 5))
def pylonref03_Of.l0 : Nat → Int → Int → Option (Int × Int × Int × Int)
 | 0, _, _ => none
 | k + 1, x4, x5 => if x5 < 9999 then ((pylonref03_ahead.f (wrap64 (x5 + 1))).bind fun t213 => (if t213 ≤ x4 then (pylonref03_Of.l0 k x4 (wrap64 (x5 + 1))) else (pylonref03_Of.j2 k x4 x5))) else (pylonref03_Of.j2 k x4 x5)
end
def pylonref03_Of.f (k : Nat) (a0 : Int) : Option (Int × Int × Int × Int) := if a0 < (-719162) then (pylonref03_Of.j0 k a0 true) else (pylonref03_Of.j0 k a0 (decide (a0 > 2932896)))
theorem pylonref03_Of.mono_l : ∀ k, (∀ y0 y1, LeO (pylonref03_Of.j0 k y0 y1) (pylonref03_Of.j0 (k + 1) y0 y1)) ∧ (∀ y0 y1, LeO (pylonref03_Of.j2 k y0 y1) (pylonref03_Of.j2 (k + 1) y0 y1)) ∧ (∀ y0 y1 y2, LeO (pylonref03_Of.l1 k y0 y1 y2) (pylonref03_Of.l1 (k + 1) y0 y1 y2)) ∧ (∀ y0 y1, LeO (pylonref03_Of.l0 k y0 y1) (pylonref03_Of.l0 (k + 1) y0 y1))
 | 0 => ⟨fun _ _ r h => by simp [pylonref03_Of.j0] at h, fun _ _ r h => by simp [pylonref03_Of.j2] at h, fun _ _ _ r h => by simp [pylonref03_Of.l1] at h, fun _ _ r h => by simp [pylonref03_Of.l0] at h⟩
 | k + 1 => by
  obtain ⟨ih0, ih1, ih2, ih3⟩ := pylonref03_Of.mono_l k
  refine ⟨?_, ?_, ?_, ?_⟩
  ·intro y0 y1
   unfold pylonref03_Of.j0
   repeat' first
   | (with_reducible exact ih0 _ _)
   | (with_reducible exact ih1 _ _)
   | (with_reducible exact ih2 _ _ _)
   | (with_reducible exact ih3 _ _)
   | (with_reducible exact pylonref03_Length.mono _ _ _)
   | (with_reducible exact LeO.refl _)
   | (with_reducible exact LeO.none _)
   | (with_reducible refine LeO.ite ?_ ?_)
   | (with_reducible refine LeO.bind ?_ (fun _ => ?_))
  ·intro y0 y1
   unfold pylonref03_Of.j2
   repeat' first
   | (with_reducible exact ih0 _ _)
   | (with_reducible exact ih1 _ _)
   | (with_reducible exact ih2 _ _ _)
   | (with_reducible exact ih3 _ _)
   | (with_reducible exact pylonref03_Length.mono _ _ _)
   | (with_reducible exact LeO.refl _)
   | (with_reducible exact LeO.none _)
   | (with_reducible refine LeO.ite ?_ ?_)
   | (with_reducible refine LeO.bind ?_ (fun _ => ?_))
  ·intro y0 y1 y2
   unfold pylonref03_Of.l1
   repeat' first
   | (with_reducible exact ih0 _ _)
   | (with_reducible exact ih1 _ _)
   | (with_reducible exact ih2 _ _ _)
   | (with_reducible exact ih3 _ _)
   | (with_reducible exact pylonref03_Length.mono _ _ _)
   | (with_reducible exact LeO.refl _)
   | (with_reducible exact LeO.none _)
   | (with_reducible refine LeO.ite ?_ ?_)
   | (with_reducible refine LeO.bind ?_ (fun _ => ?_))
  ·intro y0 y1
   unfold pylonref03_Of.l0
   repeat' first
   | (with_reducible exact ih0 _ _)
   | (with_reducible exact ih1 _ _)
   | (with_reducible exact ih2 _ _ _)
   | (with_reducible exact ih3 _ _)
   | (with_reducible exact pylonref03_Length.mono _ _ _)
   | (with_reducible exact LeO.refl _)
   | (with_reducible exact LeO.none _)
   | (with_reducible refine LeO.ite ?_ ?_)
   | (with_reducible refine LeO.bind ?_ (fun _ => ?_))
theorem pylonref03_Of.mono : ∀ a0 k, LeO (pylonref03_Of.f k a0) (pylonref03_Of.f (k + 1) a0) := by
 intro a0 k
 obtain ⟨ih0, ih1, ih2, ih3⟩ := pylonref03_Of.mono_l k
 unfold pylonref03_Of.f
 repeat' first
   | (with_reducible exact ih0 _ _)
   | (with_reducible exact ih1 _ _)
   | (with_reducible exact ih2 _ _ _)
   | (with_reducible exact ih3 _ _)
   | (with_reducible exact pylonref03_Length.mono _ _ _)
   | (with_reducible exact LeO.refl _)
   | (with_reducible exact LeO.none _)
   | (with_reducible refine LeO.ite ?_ ?_)
   | (with_reducible refine LeO.bind ?_ (fun _ => ?_))
set_option maxHeartbeats 8000000 in
set_option maxRecDepth 100000 in
theorem pylonref03_Of.calls (k : Nat) (a0 : Int) (r1 : Int) (r2 : Int) (r3 : Int) (r4 : Int) (w : World) (h : pylonref03_Of.f k a0 = some (r1, r2, r3, r4)) :
  Calls Try.prog 41 #[.int .i64 a0] w fun e w' => e = .returned (.tuple #[.agg #[.int .i64 r1, .int .i64 r2, .int .i64 r3], .int .i64 r4]) ∧ Below w.heap.size w w' := by
 have hu24 := Try.underlying24
 have HB := AX (Below.refl w.heap.size w)
 have H : (if a0 < (-719162) then (pylonref03_Of.j0 k a0 true) else (pylonref03_Of.j0 k a0 (decide (a0 > 2932896)))) = some (r1, r2, r3, r4) := h
 clear h
 have HC2 := AX H
 clear H
 go_enter Try.func41, Try.ntmps41
 go_upto_region 1 with (first | ((with_reducible refine gate_dst (N := 2) rfl ?_); refine bx 2 #[.int .i64 0, .int .i64 0, .int .i64 0] 24 ?_; intro gb212 hg w3 hbox hb; have BK212 := AX (hbox); have GW212 := gwl (w := w) hg bw; have GE212 := GW212; replace HB := AX (below_step bw hb); clear hb hbox hg))
 (try simp only [Act.put, List.setIfInBounds_toArray, List.set_cons_zero, List.set_cons_succ])
 go_cut [14] (fun v14 wc => ∃ (kq : Nat) (x14_1 : Bool), v14 = .bool x14_1 ∧ Aside0 (pylonref03_Of.j0 kq a0 x14_1 = some (r1, r2, r3, r4)) ∧ Aside0 (kq ≤ k) ∧ Aside0 (wc.heap[gb212]? = some (.cells #[.int .i64 0, .int .i64 0, .int .i64 0] 24 (0, 0))) ∧ Aside0 (Below w.heap.size w wc))
 case first =>
  have H := HC2.out
  clear HC2
  by_cases c4 : a0 < (-719162)
  ·rw [if_pos c4] at H
   have c4b0 : decide (a0 < (-719162)) = true := decide_eq_true c4
   clear c4
   (first | rw [c4b0] | (simp only [i64_w, i32_w]; rw [c4b0]) | skip)
   have H' := AX H
   clear H
   go_wp2
   go_meet
   case rel => exact ⟨_, (true), (by first | rfl | (simp; done) | (simp [*]; done)), H', ⟨by first | omega | exact Nat.le_refl _⟩, ⟨bkn BK212⟩, ⟨bw⟩⟩
  ·rw [if_neg c4] at H
   have c4b0 : decide (a0 < (-719162)) = false := decide_eq_false c4
   clear c4
   (first | rw [c4b0] | (simp only [i64_w, i32_w]; rw [c4b0]) | skip)
   have H' := AX H
   clear H
   go_wp2
   go_meet
   case rel => exact ⟨_, (decide (a0 > 2932896)), (by first | rfl | (simp; done) | (simp [*]; done)), H', ⟨by first | omega | exact Nat.le_refl _⟩, ⟨bkn BK212⟩, ⟨bw⟩⟩
 case rest =>
  clear HC2
  obtain ⟨kq, x14_1, rfl, HA, HJ1, BK212, HB⟩ := hcut
  cases kq with
  | zero => exact absurd HA.out (by simp [pylonref03_Of.j0])
  | succ kj1 =>
   have H := HA.out
   clear HA
   simp only [pylonref03_Of.j0] at H
   by_cases c5 : x14_1 = true
   ·subst c5
    have H1 : (some (0, 0, 0, 5)) = some (r1, r2, r3, r4) := by rw [if_pos rfl] at H; exact H
    clear H
    have H := H1
    clear H1
    simp only [Option.some.injEq, Prod.mk.injEq] at H
    obtain ⟨rfl, rfl, rfl, rfl⟩ := H
    obtain ⟨hcz6_0, hcz6_1, hcz6_2⟩ := blkC3 (w := wc) BK212.out
    obtain ⟨hfz6_0, hfz6_1, hfz6_2⟩ := blkF3 BK212.out
    go_wp2
    refine bodyPost_ret (results_ct rfl _ _ gb212 24 #[.int .i64 0, .int .i64 0, .int .i64 0] (0, 0) _ rfl (by (with_reducible repeat first|refine blk_drewN ?_ _|refine blk_drew ?_|refine blk_alloc ?_ _); refine blk_put (cs := #[.int .i64 0, .int .i64 0, .int .i64 0]) ?_ 2 _ rfl; (with_reducible repeat first|refine blk_drewN ?_ _|refine blk_drew ?_|refine blk_alloc ?_ _); refine blk_put (cs := #[.int .i64 0, .int .i64 0, .int .i64 0]) ?_ 1 _ rfl; (with_reducible repeat first|refine blk_drewN ?_ _|refine blk_drew ?_|refine blk_alloc ?_ _); refine blk_put (cs := #[.int .i64 0, .int .i64 0, .int .i64 0]) ?_ 0 _ rfl; (with_reducible repeat first|refine blk_drewN ?_ _|refine blk_drew ?_|refine blk_alloc ?_ _); exact BK212.out) Try.underlying24 rfl (by kernel_rfl)) rfl ?_
    exact ⟨by first | rfl | (simp [errW_none, errW_some] <;> rfl) | (simp [*, errW_none, errW_some] <;> rfl), bw⟩
   ·replace c5 := Bool.eq_false_iff.mpr c5
    subst c5
    have H1 : (pylonref03_Of.l0 kj1 (wrap64 (a0 + 719162)) (wrap64 ((wrap64 (Int.tdiv (wrap64 (a0 + 719162)) 366)) + 1))) = some (r1, r2, r3, r4) := by rw [if_neg (show ¬ (false = true) by decide)] at H; exact H
    clear H
    have H := H1
    clear H1
    have HC7 := AX H
    clear H
    go_upto_block 0 with (fail)
    go_cut [5] (fun v5 wc => ∃ (kq : Nat) (x5_6 : Int), v5 = .int .i64 x5_6 ∧ Aside0 (pylonref03_Of.j2 kq (wrap64 (a0 + 719162)) x5_6 = some (r1, r2, r3, r4)) ∧ Aside0 (kq ≤ kj1) ∧ Aside0 (wc.heap[gb212]? = some (.cells #[.int .i64 0, .int .i64 0, .int .i64 0] 24 (0, 0))) ∧ Aside0 (Below w.heap.size w wc))
    case first =>
     have H := HC7.out
     clear HC7
     have H' := AX H
     clear H
     go_wp2
     go_loopg [5] kj1 (fun kq v5 w' => ∃ (x5_2 : Int), v5 = .int .i64 x5_2 ∧ Aside0 (pylonref03_Of.l0 kq (wrap64 (a0 + 719162)) x5_2 = some (r1, r2, r3, r4)) ∧ Aside0 (kq ≤ kj1) ∧ Aside0 (w'.heap[gb212]? = some (.cells #[.int .i64 0, .int .i64 0, .int .i64 0] 24 (0, 0))) ∧ Aside0 (Below w.heap.size w w'))
     case atStart => exact ⟨(wrap64 ((wrap64 (Int.tdiv (wrap64 (a0 + 719162)) 366)) + 1)), (by first | rfl | (simp; done) | (simp [*]; done)), H', ⟨Nat.le_refl _⟩, ⟨bkn BK212⟩, ⟨bw⟩⟩
     case round =>
      clear H'
      try clear c5
      obtain ⟨x5_2, rfl, HA, HK2, BK212, HB⟩ := hrel
      cases gk with
      | zero => exact absurd HA.out (by simp [pylonref03_Of.l0])
      | succ k2 =>
       have H := HA.out
       clear HA
       simp only [pylonref03_Of.l0] at H
       by_cases c8 : x5_2 < 9999
       ·rw [if_pos c8] at H
        have c8b0 : decide (x5_2 < 9999) = true := decide_eq_true c8
        clear c8
        (first | rw [c8b0] | (simp only [i64_w, i32_w]; rw [c8b0]) | skip)
        replace H := Option.bind_eq_some_iff.mp H
        obtain ⟨t213, A90, H⟩ := H
        replace H : (if t213 ≤ (wrap64 (a0 + 719162)) then (pylonref03_Of.l0 k2 (wrap64 (a0 + 719162)) (wrap64 (x5_2 + 1))) else (pylonref03_Of.j2 k2 (wrap64 (a0 + 719162)) x5_2)) = some (r1, r2, r3, r4) := H
        have A9 := AX A90
        clear A90
        by_cases c10 : t213 ≤ (wrap64 (a0 + 719162))
        ·rw [if_pos c10] at H
         have c10b0 : decide (t213 ≤ (wrap64 (a0 + 719162))) = true := decide_eq_true c10
         clear c10
         have H' := AX H
         clear H
         go_wp2_with (first | (go_at_call 72; (with_reducible refine (pylonref03_ahead.calls (wrap64 (x5_2 + 1)) t213 _ A9.out).mono ?_); rintro e w' ⟨rfl, ⟨nd, rfl⟩⟩))
         go_roundg k2
         case measure => have := HJ1.out; have := HK2.out; omega
         case rel => exact ⟨(wrap64 (x5_2 + 1)), (by first | rfl | (simp; done) | (simp [*]; done)), H', ⟨by have := HJ1.out; have := HK2.out; omega⟩, ⟨bkn BK212⟩, ⟨bw⟩⟩
        ·rw [if_neg c10] at H
         have c10b0 : decide (t213 ≤ (wrap64 (a0 + 719162))) = false := decide_eq_false c10
         clear c10
         have H' := AX H
         clear H
         go_wp2_with (first | (go_at_call 72; (with_reducible refine (pylonref03_ahead.calls (wrap64 (x5_2 + 1)) t213 _ A9.out).mono ?_); rintro e w' ⟨rfl, ⟨nd, rfl⟩⟩))
         go_meet
         case rel => exact ⟨_, (x5_2), (by first | rfl | (simp; done) | (simp [*]; done)), H', ⟨by have := HJ1.out; have := HK2.out; first | omega | exact Nat.le_refl _⟩, ⟨bkn BK212⟩, ⟨bw⟩⟩
       ·rw [if_neg c8] at H
        have c8b0 : decide (x5_2 < 9999) = false := decide_eq_false c8
        clear c8
        (first | rw [c8b0] | (simp only [i64_w, i32_w]; rw [c8b0]) | skip)
        have H' := AX H
        clear H
        go_wp2
        go_meet
        case rel => exact ⟨_, (x5_2), (by first | rfl | (simp; done) | (simp [*]; done)), H', ⟨by have := HJ1.out; have := HK2.out; first | omega | exact Nat.le_refl _⟩, ⟨bkn BK212⟩, ⟨bw⟩⟩
    case rest =>
     clear HC7
     try clear c5
     obtain ⟨kq, x5_6, rfl, HA, HJ6, BK212, HB⟩ := hcut
     cases kq with
     | zero => exact absurd HA.out (by simp [pylonref03_Of.j2])
     | succ kj6 =>
      have H := HA.out
      clear HA
      simp only [pylonref03_Of.j2] at H
      replace H := Option.bind_eq_some_iff.mp H
      obtain ⟨t214, A110, H⟩ := H
      replace H : (pylonref03_Of.l1 kj6 (wrap64 ((wrap64 (a0 + 719162)) - t214)) x5_6 1) = some (r1, r2, r3, r4) := H
      have A11 := AX A110
      clear A110
      have H' := AX H
      clear H
      go_wp2_with (first | ((with_reducible refine gate_callee (f := 72) rfl ?_); refine gL (some 34) Try.func72 #[.int .i64 x5_6] ?_; (with_reducible refine (pylonref03_ahead.calls x5_6 t214 _ A11.out).mono ?_); rintro e w' ⟨rfl, ⟨nd, rfl⟩⟩; refine ⟨_, rfl, ?_⟩))
      go_loopg [4, 6] kj6 (fun kq v4 v6 w' => ∃ (x4_3 : Int) (x6_3 : Int) (x213000_3 : Int) (x213001_3 : Int) (x213002_3 : Int), v4 = .int .i64 x4_3 ∧ v6 = .int .i64 x6_3 ∧ Aside0 (pylonref03_Of.l1 kq x4_3 x5_6 x6_3 = some (r1, r2, r3, r4)) ∧ Aside0 (kq ≤ kj6) ∧ Aside0 (w'.heap[gb212]? = some (.cells #[.int .i64 x213000_3, .int .i64 x213001_3, .int .i64 x213002_3] 24 (0, 0))) ∧ Aside0 (Below w.heap.size w w'))
      case atStart => exact ⟨(wrap64 ((wrap64 (a0 + 719162)) - t214)), (1), (0), (0), (0), (by first | rfl | (simp; done) | (simp [*]; done)), (by first | rfl | (simp; done) | (simp [*]; done)), H', ⟨Nat.le_refl _⟩, ⟨bkn BK212⟩, ⟨bw⟩⟩
      case round =>
       clear H'
       obtain ⟨x4_3, x6_3, x213000_3, x213001_3, x213002_3, rfl, rfl, HA, HK3, BK212, HB⟩ := hrel
       cases gk with
       | zero => exact absurd HA.out (by simp [pylonref03_Of.l1])
       | succ k3 =>
        have H := HA.out
        clear HA
        simp only [pylonref03_Of.l1] at H
        by_cases c12 : x6_3 ≤ 12
        ·rw [if_pos c12] at H
         have c12b0 : decide (x6_3 ≤ 12) = true := decide_eq_true c12
         clear c12
         replace H := Option.bind_eq_some_iff.mp H
         obtain ⟨⟨t215, t216⟩, A130, H⟩ := H
         replace H : (if x4_3 < t215 then (some (x5_6, x6_3, wrap64 (x4_3 + 1), 0)) else (pylonref03_Of.l1 k3 (wrap64 (x4_3 - t215)) x5_6 (wrap64 (x6_3 + 1)))) = some (r1, r2, r3, r4) := H
         have A13 := AX A130
         clear A130
         by_cases c14 : x4_3 < t215
         ·rw [if_pos c14] at H
          have c14b0 : decide (x4_3 < t215) = true := decide_eq_true c14
          clear c14
          simp only [Option.some.injEq, Prod.mk.injEq] at H
          obtain ⟨rfl, rfl, rfl, rfl⟩ := H
          go_wp2_with (first | ((with_reducible refine gate_callee (f := 70) rfl ?_); refine gL (some 43) Try.func70 #[.int .i64 x5_6, .int .i64 x6_3] ?_; (with_reducible refine (pylonref03_Length.calls k3 x5_6 x6_3 t215 t216 _ A13.out).mono ?_); rintro e w' ⟨rfl, ⟨nd, rfl⟩⟩; refine ⟨_, rfl, ?_⟩; (try (rw [drewN_self wr]; generalize hq_ : World.drewN wr _ = wr; have n0_ : Aside0 (wr.heap[gb212]? = some (.cells #[.int .i64 x213000_3, .int .i64 x213001_3, .int .i64 x213002_3] 24 (0, 0))) := ⟨by rw [← hq_]; exact (bkn BK212)⟩; have n1_ : Aside0 (Below w.heap.size w wr) := ⟨by rw [← hq_]; exact bw⟩; clear BK212 HB hq_; have BK212 := n0_; have HB := n1_; clear n0_ n1_)); obtain ⟨hcz15_0, hcz15_1, hcz15_2⟩ := blkC3 (w := wr) BK212.out; obtain ⟨hfz15_0, hfz15_1, hfz15_2⟩ := blkF3 BK212.out))
          refine bodyPost_ret (results_ct rfl _ _ gb212 24 #[.int .i64 x5_6, .int .i64 x6_3, .int .i64 (wrap64 (x4_3 + 1))] (0, 0) _ rfl (by (with_reducible repeat first|refine blk_drewN ?_ _|refine blk_drew ?_|refine blk_alloc ?_ _); refine blk_put (cs := #[.int .i64 x5_6, .int .i64 x6_3, .int .i64 x213002_3]) ?_ 2 _ rfl; (with_reducible repeat first|refine blk_drewN ?_ _|refine blk_drew ?_|refine blk_alloc ?_ _); refine blk_put (cs := #[.int .i64 x5_6, .int .i64 x213001_3, .int .i64 x213002_3]) ?_ 1 _ rfl; (with_reducible repeat first|refine blk_drewN ?_ _|refine blk_drew ?_|refine blk_alloc ?_ _); refine blk_put (cs := #[.int .i64 x213000_3, .int .i64 x213001_3, .int .i64 x213002_3]) ?_ 0 _ rfl; (with_reducible repeat first|refine blk_drewN ?_ _|refine blk_drew ?_|refine blk_alloc ?_ _); exact BK212.out) Try.underlying24 rfl (by kernel_rfl)) rfl ?_
          exact ⟨by first | rfl | (simp [errW_none, errW_some] <;> rfl) | (simp [*, errW_none, errW_some] <;> rfl), bw⟩
         ·rw [if_neg c14] at H
          have c14b0 : decide (x4_3 < t215) = false := decide_eq_false c14
          clear c14
          have H' := AX H
          clear H
          go_wp2_with (first | ((with_reducible refine gate_callee (f := 70) rfl ?_); refine gL (some 43) Try.func70 #[.int .i64 x5_6, .int .i64 x6_3] ?_; (with_reducible refine (pylonref03_Length.calls k3 x5_6 x6_3 t215 t216 _ A13.out).mono ?_); rintro e w' ⟨rfl, ⟨nd, rfl⟩⟩; refine ⟨_, rfl, ?_⟩))
          go_roundg k3
          case measure => have := HJ1.out; have := HJ6.out; have := HK3.out; omega
          case rel => exact ⟨(wrap64 (x4_3 - t215)), (wrap64 (x6_3 + 1)), (x213000_3), (x213001_3), (x213002_3), (by first | rfl | (simp; done) | (simp [*]; done)), (by first | rfl | (simp; done) | (simp [*]; done)), H', ⟨by have := HJ1.out; have := HJ6.out; have := HK3.out; omega⟩, ⟨bkn BK212⟩, ⟨bw⟩⟩
        ·rw [if_neg c12] at H
         have c12b0 : decide (x6_3 ≤ 12) = false := decide_eq_false c12
         clear c12
         simp only [Option.some.injEq, Prod.mk.injEq] at H
         obtain ⟨rfl, rfl, rfl, rfl⟩ := H
         obtain ⟨hcz16_0, hcz16_1, hcz16_2⟩ := blkC3 (w := wr) BK212.out
         obtain ⟨hfz16_0, hfz16_1, hfz16_2⟩ := blkF3 BK212.out
         go_wp2
         refine bodyPost_ret (results_ct rfl _ _ gb212 24 #[.int .i64 0, .int .i64 0, .int .i64 0] (0, 0) _ rfl (by (with_reducible repeat first|refine blk_drewN ?_ _|refine blk_drew ?_|refine blk_alloc ?_ _); refine blk_put (cs := #[.int .i64 0, .int .i64 0, .int .i64 x213002_3]) ?_ 2 _ rfl; (with_reducible repeat first|refine blk_drewN ?_ _|refine blk_drew ?_|refine blk_alloc ?_ _); refine blk_put (cs := #[.int .i64 0, .int .i64 x213001_3, .int .i64 x213002_3]) ?_ 1 _ rfl; (with_reducible repeat first|refine blk_drewN ?_ _|refine blk_drew ?_|refine blk_alloc ?_ _); refine blk_put (cs := #[.int .i64 x213000_3, .int .i64 x213001_3, .int .i64 x213002_3]) ?_ 0 _ rfl; (with_reducible repeat first|refine blk_drewN ?_ _|refine blk_drew ?_|refine blk_alloc ?_ _); exact BK212.out) Try.underlying24 rfl (by kernel_rfl)) rfl ?_
         exact ⟨by first | rfl | (simp [errW_none, errW_some] <;> rfl) | (simp [*, errW_none, errW_some] <;> rfl), bw⟩

end Go.Proofs.Ytkggjjggcbcdiaa.PX
