/- The library's unstable sort, walked, a row of elements of k cells; the function that compares may make memory. Here: how many bits a number has; the numbers drawn; breaking patterns. Condition: the function that compares answers by an order of what lies in the row, and changes nothing that was there. -/
import Derived.Test.YtegedhnbmclbkaaPdf
import Derived.Test.YtegedhnbmclbkaaPdl
import Derived.Sort.Walk7
namespace Go.Proofs.Ytegedhnbmclbkaa.Pd
open Go.Shelf Go.RowKit Go.Lib Go.Sort
set_option linter.unusedVariables false
set_option linter.unusedSimpArgs false
theorem xorshift_Next (rb X : Nat) (hX : X < 18446744073709551616) (w : World) (hc : w.cell? ⟨rb, 0, none⟩ = some (.int .u64 X)) (hf : w.frozen? ⟨rb, 0, none⟩ = false) :
    Calls Try.prog 72 #[.pointer (some ⟨rb, 0, none⟩)] w fun e w' => e = .returned (.int .u64 (xorNextN X : Nat)) ∧ w' = (w.setCell ⟨rb, 0, none⟩ (.int .u64 (xorNextN X : Nat))).drewN 3 := by
  obtain ⟨A, hA⟩ : ∃ A : Nat, A = X ^^^ (X * 8192 % 18446744073709551616) := ⟨_, rfl⟩
  obtain ⟨B, hB⟩ : ∃ B : Nat, B = A ^^^ (A / 128) := ⟨_, rfl⟩
  obtain ⟨C, hC⟩ : ∃ C : Nat, C = B ^^^ (B * 131072 % 18446744073709551616) := ⟨_, rfl⟩
  have lA : A < 18446744073709551616 := by rw [hA]; exact Nat.xor_lt_two_pow (n := 64) (by omega) (by omega)
  have lB : B < 18446744073709551616 := by rw [hB]; exact Nat.xor_lt_two_pow (n := 64) (by omega) (by omega)
  have e1 : bits .xor .u64 (X : Int) (IntKind.u64.wrap ((X : Int) * 8192)) = (A : Int) := by
    rw [IntKind.wrap_u64, show ((X : Int) * 8192 % 18446744073709551616) = ((X * 8192 % 18446744073709551616 : Nat) : Int) by omega, bits_xor_u64_nat _ _ hX (by omega), hA]
  have e2 : bits .xor .u64 (A : Int) ((A : Int) / 128) = (B : Int) := by
    rw [show ((A : Int) / 128) = ((A / 128 : Nat) : Int) by omega, bits_xor_u64_nat _ _ lA (by omega), hB]
  have e3 : bits .xor .u64 (B : Int) (IntKind.u64.wrap ((B : Int) * 131072)) = (C : Int) := by
    rw [IntKind.wrap_u64, show ((B : Int) * 131072 % 18446744073709551616) = ((B * 131072 % 18446744073709551616 : Nat) : Int) by omega, bits_xor_u64_nat _ _ lB (by omega), hC]
  have hv : xorNextN X = C := by unfold xorNextN; simp only []; rw [← hA, ← hB, ← hC]
  rw [hv]
  clear hA hB hC hv
  have hss : ∀ v v', (w.setCell ⟨rb, 0, none⟩ v).setCell ⟨rb, 0, none⟩ v' = w.setCell ⟨rb, 0, none⟩ v' := setCell_setCell w rb 0
  go_enter Try.func72, Try.ntmps72
  go_wp2
  go_region
  all_goals go_wp2
  all_goals go_region
  all_goals go_wp2
  all_goals go_region
  all_goals go_wp2
  go_ret
  exact ⟨rfl, rfl⟩
theorem nextPowerOfTwo (n : Nat) (hn : n < 4611686018427387904) (w : World) :
    Calls Try.prog 71 #[.int .i64 n] w fun e w' => e = .returned (.int .u64 ((1 <<< bitsLen n : Nat) : Int)) ∧ w' = w := by
  have hLen : ∀ w, Calls Try.prog 40 #[.int .u64 (n : Int)] w fun e w' => e = .returned (.int .i64 (bitsLen n : Nat)) ∧ w' = w := fun w => by
    have h := bits_Len (n : Int) w (by omega) (by omega)
    rwa [Int.toNat_natCast, bitLen_eq _ (by omega)] at h
  have hk : bitsLen n ≤ 62 := (bitsLen_le_iff n 62).2 (by omega)
  have hp := wrap_two_pow (bitsLen n) hk
  have hw : IntKind.u64.wrap (n : Int) = n := by rw [IntKind.wrap_u64]; omega
  go_enter Try.func71, Try.ntmps71
  go_wp2_with (first | (go_at_call 40; refine (hLen _).mono ?_; rintro e w' ⟨rfl, rfl⟩))
  go_ret
  exact ⟨rfl, rfl⟩
section
variable {α : Type} [Inhabited α] {enc : α → List Value} {k : Nat} {g sf : Nat} {lb sb : Array Value} {lt : α → α → Bool} {blk off n : Nat}
theorem gb_drew (w : World) (m : Nat) (r : Option Nat) : w.grownBy (w.drewN m) r := ⟨rfl, rfl, rfl, Nat.le_refl _, fun _ _ _ => rfl⟩
theorem did_cnt {W W1 : World} {d1 : Array α} {cb : Nat} (h : Did enc k blk off d1 W W1) (hb : W.heap.size ≤ cb) (hne : blk ≠ cb) (u : Value) : Did enc k blk off d1 W (W1.setCell ⟨cb, 0, none⟩ u) :=
  ⟨h_cnt hne h.1 u, ⟨h.2.os, h.2.tape, h.2.output, by rw [show (W1.setCell ⟨cb, 0, none⟩ u).heap.size = W1.heap.size by simp [World.setCell]]; exact h.2.size, fun i hi hn => (Below.heap_setCell _ _ _ _ (by show i ≠ cb; omega)).trans (h.2.block i hi hn)⟩, sh_trans h.3 (sh_cell _ _ _ _)⟩
set_option maxHeartbeats 2000000 in
set_option maxRecDepth 100000 in
theorem breakPatterns_go (hk : ∀ x, (enc x).length = k) (hswap : SwapSwapsK Try.prog sf sb enc k blk off n) (hn : n < 4611686018427387904) (W : World) (d : Array α) (hH : HoldsK enc k W blk off d) (hd : d.size = n) (hblk : blk < W.heap.size) (a L : Nat) (hb : a + L ≤ n) (h8 : 8 ≤ L) :
    Calls Try.prog 63 #[dat g sf lb sb, .int .i64 a, .int .i64 ((a + L : Nat) : Int)] W fun e w' => e = .returned (.tuple #[]) ∧ Did enc k blk off (Sort.breakPatterns d a (a + L)) W w' := by
  rw [breakPatterns_eq d a L h8]
  obtain ⟨M, hM⟩ : ∃ M : Nat, M = 1 <<< bitsLen L := ⟨_, rfl⟩
  have hM1 : 1 ≤ M := by rw [hM, Nat.one_shiftLeft]; exact Nat.two_pow_pos _
  have hM2 : M ≤ 2 * L := by rw [hM, Nat.one_shiftLeft]; exact two_pow_bitsLen_le (by omega)
  have hNP : ∀ w, Calls Try.prog 71 #[.int .i64 (L : Int)] w fun e w' => e = .returned (.int .u64 (M : Int)) ∧ w' = w := by rw [hM]; exact fun w => nextPowerOfTwo L (by omega) w
  rw [← hM]
  clear hM
  have hLz : ((a : Int) + (L : Int) - (a : Int)) = (L : Int) := by omega
  have h8z : (8 : Int) ≤ (L : Int) := by omega
  have hne : W.heap.size ≠ blk := by omega
  have hnb : blk ≠ W.heap.size + 1 := by omega
  have hW2 : Below W.heap.size W ((W.alloc (.cells #[.func (.func g) #[] lb, .func (.func sf) #[] sb] 76)).alloc (.cells #[.int .u64 (L : Nat)] 96)) := ((Below.refl _ _).alloc (Nat.le_refl _) _).alloc (Nat.le_of_lt (by simp)) _
  have HD0 := Lib.hid (show Did enc k blk off d W ((W.alloc (.cells #[.func (.func g) #[] lb, .func (.func sf) #[] sb] 76)).alloc (.cells #[.int .u64 (L : Nat)] 96)) from ⟨h_below hH hblk hW2, gb_below hW2, sh_below hW2⟩)
  clear hH hW2
  go_enter Try.func63, Try.ntmps63
  go_wp2_with (go_at_call 71; refine (hNP _).mono ?_; rintro e w' ⟨rfl, rfl⟩)
  go_loopw [9] (fun vi wr => ∃ (t : Nat) (r : UInt64) (dk : Array α), vi = .int .i64 ((a : Int) + (L : Int) / 4 * 2 - 1 + (t : Int)) ∧ t ≤ 3 ∧ dk.size = n ∧ Hid (Did enc k blk off dk W wr) ∧
      wr.cell? ⟨W.heap.size, 1, none⟩ = some (.func (.func sf) #[] sb) ∧ wr.cell? ⟨W.heap.size + 1, 0, none⟩ = some (.int .u64 (r.toNat : Int)) ∧ wr.frozen? ⟨W.heap.size + 1, 0, none⟩ = false ∧
      Hid (bpRest a L M (a + L / 4 * 2 - 1) (3 - t) t (r, dk) = bpRest a L M (a + L / 4 * 2 - 1) 3 0 (UInt64.ofNat L, d))) (fun vi _ => a + L / 4 * 2 + 3 - (intOf vi).toNat)
  case atStart =>
    refine ⟨0, UInt64.ofNat L, d, by simp, by omega, hd, HD0, by simp, ?_, by simp, rfl⟩
    rw [show (UInt64.ofNat L).toNat = L from by simp; omega]
    simp
  case round =>
    clear HD0
    obtain ⟨t, r, dk, rfl, ht, hdk, HD, c1, cR, fR, HR⟩ := hrel
    by_cases ht3 : t < 3
    · have hle : (a : Int) + (L : Int) / 4 * 2 - 1 + (t : Int) ≤ (a : Int) + (L : Int) / 4 * 2 + 1 := by omega
      obtain ⟨R, hRr⟩ : ∃ R : Nat, R = r.toNat := ⟨_, rfl⟩
      have lR : R < 18446744073709551616 := by rw [hRr]; exact r.toNat_lt
      obtain ⟨R', hR'⟩ : ∃ R' : Nat, R' = xorNextN R := ⟨_, rfl⟩
      have lR' : R' < 18446744073709551616 := by rw [hR']; exact xorNextN_lt R lR
      obtain ⟨O, hO⟩ : ∃ O : Nat, O = R' &&& (M - 1) := ⟨_, rfl⟩
      have lO : O ≤ M - 1 := by rw [hO]; exact Nat.and_le_right
      have eAnd : bits .and .u64 (R' : Int) ((M : Int) - 1) = (O : Int) := by
        rw [show ((M : Int) - 1) = ((M - 1 : Nat) : Int) by omega, bits_and_u64_nat _ _ lR' (by omega), hO]
      rw [← hRr] at cR
      have hNext : Calls Try.prog 72 #[.pointer (some ⟨W.heap.size + 1, 0, none⟩)] wr fun e w' => e = .returned (.int .u64 (R' : Int)) ∧ w' = (wr.setCell ⟨W.heap.size + 1, 0, none⟩ (.int .u64 (R' : Int))).drewN 3 := by
        rw [hR']; exact xorshift_Next _ R lR wr cR fR
      have HN : Hid (R' = (xorNext r).toNat ∧ O = (xorNext r).toNat &&& (M - 1)) := by
        have e : R' = (xorNext r).toNat := by rw [hR', hRr, xorNext_toNat]
        exact ⟨e, by rw [hO, e]⟩
      clear hRr hR' hO
      have S2 : Did enc k blk off dk W ((wr.setCell ⟨W.heap.size + 1, 0, none⟩ (.int .u64 (R' : Int))).drewN 3) :=
        have q := did_cnt HD.out (cb := W.heap.size + 1) (Nat.le_succ _) hnb (.int .u64 (R' : Int))
        ⟨fun j hj => q.1 j hj, gb_trans q.2 (gb_drew _ _ _), q.3⟩
      have c1' : ((wr.setCell ⟨W.heap.size + 1, 0, none⟩ (.int .u64 (R' : Int))).drewN 3).cell? ⟨W.heap.size, 1, none⟩ = some (.func (.func sf) #[] sb) := by
        rw [World.cell?_drewN, World.cell?_setCell_other _ _ _ _ (by intro e; simp only [Addr.mk.injEq, and_true] at e; omega)]; exact c1
      have cR' : ((wr.setCell ⟨W.heap.size + 1, 0, none⟩ (.int .u64 (R' : Int))).drewN 3).cell? ⟨W.heap.size + 1, 0, none⟩ = some (.int .u64 (R' : Int)) := by
        rw [World.cell?_drewN]; exact World.cell?_setCell_same _ _ _ cR
      have fR' : ((wr.setCell ⟨W.heap.size + 1, 0, none⟩ (.int .u64 (R' : Int))).drewN 3).frozen? ⟨W.heap.size + 1, 0, none⟩ = false := by
        rw [World.frozen?_drewN]; simpa using fR
      generalize (wr.setCell ⟨W.heap.size + 1, 0, none⟩ (.int .u64 (R' : Int))).drewN 3 = w2 at hNext S2 c1' cR' fR'
      have hsw : ∀ x y : Nat, x < n → y < n → Did enc k blk off (swp dk x y) W ((w2.setCells blk (off + x * k) (enc dk[y]!)).setCells blk (off + y * k) (enc dk[x]!)) ∧
          ((w2.setCells blk (off + x * k) (enc dk[y]!)).setCells blk (off + y * k) (enc dk[x]!)).cell? ⟨W.heap.size, 1, none⟩ = some (.func (.func sf) #[] sb) ∧
          ((w2.setCells blk (off + x * k) (enc dk[y]!)).setCells blk (off + y * k) (enc dk[x]!)).cell? ⟨W.heap.size + 1, 0, none⟩ = some (.int .u64 (R' : Int)) ∧
          ((w2.setCells blk (off + x * k) (enc dk[y]!)).setCells blk (off + y * k) (enc dk[x]!)).frozen? ⟨W.heap.size + 1, 0, none⟩ = false ∧
          (callFunc sf (#[.int .i64 (x : Nat), .int .i64 (y : Nat)] ++ sb)).run Try.prog w2 = .ok (.value (.tuple #[])) ((w2.setCells blk (off + x * k) (enc dk[y]!)).setCells blk (off + y * k) (enc dk[x]!)) := fun x y hx hy => by
        have l0 := World.block_lt_of_cell? _ _ c1'
        have l1 := World.block_lt_of_cell? _ _ cR'
        have G := gb_trans (gb_cells w2 blk (enc dk[y]!) (off + x * k)) (gb_cells (w2.setCells blk (off + x * k) (enc dk[y]!)) blk (enc dk[x]!) (off + y * k))
        refine ⟨did_swap hk S2 (by omega) (by omega), (gb_cell G l0 hne).trans c1', (gb_cell G l1 (Ne.symm hnb)).trans cR', ?_, hswap w2 dk S2.1 hdk x y hx hy⟩
        rw [← fR']; unfold World.frozen?; simp only [G.block _ l1 (fun e => hnb (Option.some.inj e).symm)]
      have HSW := Lib.hid hsw
      clear c1 cR fR hsw S2 cR' fR' HD
      by_cases hLO : L ≤ O
      · have hLOz : (L : Int) ≤ (O : Int) := by omega
        have ⟨k1, k2, k3, k4, hs⟩ := HSW.out (a + L / 4 * 2 - 1 + t) (a + (O - L)) (by omega) (by omega)
        rw [show ((a + L / 4 * 2 - 1 + t : Nat) : Int) = (a : Int) + (L : Int) / 4 * 2 - 1 + (t : Int) by omega, show ((a + (O - L) : Nat) : Int) = (a : Int) + ((O : Int) - (L : Int)) by omega] at hs
        generalize (w2.setCells blk (off + (a + L / 4 * 2 - 1 + t) * k) (enc dk[a + (O - L)]!)).setCells blk (off + (a + (O - L)) * k) (enc dk[a + L / 4 * 2 - 1 + t]!) = w3 at hs k1 k2 k3 k4
        have K1 := Lib.hid k1
        clear k1 HSW
        go_wp2_with (go_at_call 72; refine hNext.mono ?_; rintro e w' ⟨rfl, rfl⟩)
        go_roundw
        case rel => exact ⟨t + 1, xorNext r, swp dk (a + L / 4 * 2 - 1 + t) (a + (O - L)), by congr 1; push_cast; omega, by omega, by rw [size_swp]; exact hdk, K1, k2, by rw [← HN.out.1]; exact k3, k4, by
          show bpRest _ _ _ _ _ _ _ = _
          rw [← HR.out, bp_step a L M _ t r dk ((O - L)) ht3 (by rw [← HN.out.2, if_pos (by omega)])]⟩
        case measure => simp [intOf] <;> omega
      · have hLOz : ¬ (L : Int) ≤ (O : Int) := by omega
        have ⟨k1, k2, k3, k4, hs⟩ := HSW.out (a + L / 4 * 2 - 1 + t) (a + O) (by omega) (by omega)
        rw [show ((a + L / 4 * 2 - 1 + t : Nat) : Int) = (a : Int) + (L : Int) / 4 * 2 - 1 + (t : Int) by omega, show ((a + O : Nat) : Int) = (a : Int) + (O : Int) by omega] at hs
        generalize (w2.setCells blk (off + (a + L / 4 * 2 - 1 + t) * k) (enc dk[a + O]!)).setCells blk (off + (a + O) * k) (enc dk[a + L / 4 * 2 - 1 + t]!) = w3 at hs k1 k2 k3 k4
        have K1 := Lib.hid k1
        clear k1 HSW
        go_wp2_with (go_at_call 72; refine hNext.mono ?_; rintro e w' ⟨rfl, rfl⟩)
        go_roundw
        case rel => exact ⟨t + 1, xorNext r, swp dk (a + L / 4 * 2 - 1 + t) (a + O), by congr 1; push_cast; omega, by omega, by rw [size_swp]; exact hdk, K1, k2, by rw [← HN.out.1]; exact k3, k4, by
          show bpRest _ _ _ _ _ _ _ = _
          rw [← HR.out, bp_step a L M _ t r dk (O) ht3 (by rw [← HN.out.2, if_neg (by omega)])]⟩
        case measure => simp [intOf] <;> omega
    · obtain rfl : t = 3 := by omega
      have hle : ¬ ((a : Int) + (L : Int) / 4 * 2 - 1 + ((3 : Nat) : Int) ≤ (a : Int) + (L : Int) / 4 * 2 + 1) := by omega
      go_wp2
      go_end0
      refine ⟨rfl, ?_⟩
      rw [← HR.out]
      exact HD.out
set_option maxHeartbeats 2000000 in
set_option maxRecDepth 100000 in
theorem breakPatterns (hk : ∀ x, (enc x).length = k) (hswap : SwapSwapsK Try.prog sf sb enc k blk off n) (hn : n < 4611686018427387904) (W : World) (d : Array α) (hH : HoldsK enc k W blk off d) (hd : d.size = n) (hblk : blk < W.heap.size) (a b : Nat) (hab : a ≤ b) (hb : b ≤ n) :
    Calls Try.prog 63 #[dat g sf lb sb, .int .i64 a, .int .i64 b] W fun e w' => e = .returned (.tuple #[]) ∧ Did enc k blk off (Sort.breakPatterns d a b) W w' := by
  obtain ⟨L, rfl⟩ : ∃ L, b = a + L := ⟨b - a, by omega⟩
  by_cases h8 : 8 ≤ L
  · exact breakPatterns_go hk hswap hn W d hH hd hblk a L hb h8
  · have hv : Sort.breakPatterns d a (a + L) = d := by unfold Sort.breakPatterns; simp only [Nat.add_sub_cancel_left]; rw [if_neg h8]
    rw [hv]
    have hLz : ((a : Int) + (L : Int) - (a : Int)) = (L : Int) := by omega
    have h8z : ¬ (8 : Int) ≤ (L : Int) := by omega
    have hW1 : Below W.heap.size W (W.alloc (.cells #[.func (.func g) #[] lb, .func (.func sf) #[] sb] 76)) := (Below.refl _ _).alloc (Nat.le_refl _) _
    have S0 := Lib.hid (show Did enc k blk off d W (W.alloc (.cells #[.func (.func g) #[] lb, .func (.func sf) #[] sb] 76)) from ⟨h_below hH hblk hW1, gb_below hW1, sh_below hW1⟩)
    clear hH hswap hW1
    go_enter Try.func63, Try.ntmps63
    go_wp2
    go_end0
    exact ⟨rfl, S0.out⟩
end
end Go.Proofs.Ytegedhnbmclbkaa.Pd
