/- The library's unstable sort, walked, a row of elements of k cells; the function that compares may make memory. Here: putting a few elements right. Condition: the function that compares answers by an order of what lies in the row, and changes nothing that was there. -/
import Derived.Test.YtegedhnbmclbkaaPdb
import Derived.Sort.WalkA6
import Derived.Sort.WalkB2
namespace Go.Proofs.Ytegedhnbmclbkaa.Pd
open Go.Shelf Go.RowKit Go.Lib Go.Sort
set_option linter.unusedVariables false
set_option linter.unusedSimpArgs false
section
variable {α : Type} [Inhabited α] {enc : α → List Value} {k : Nat} {g sf : Nat} {lb sb : Array Value} {lt : α → α → Bool} {blk off n : Nat}
set_option maxHeartbeats 2000000 in
set_option maxRecDepth 100000 in
theorem partialInsertionSort (hk : ∀ x, (enc x).length = k) {w0 : World} (hless : Less g lb enc k lt blk off n w0) (eg : ∀ args w, (callFunc g args).run Try.prog w = .ok (.enter g args) w) (hswap : SwapSwapsK Try.prog sf sb enc k blk off n) (hn : n < 4611686018427387904) (W : World) (d : Array α) (h0 : w0.grownBy W (some blk)) (hH : HoldsK enc k W blk off d) (hd : d.size = n) (hblk : blk < W.heap.size) (a b : Nat) (hab : a < b) (hb : b ≤ n) :
    Calls Try.prog 66 #[dat g sf lb sb, .int .i64 a, .int .i64 b] W fun e w' => e = .returned (.bool (Sort.partialInsertionSort lt d a b).2) ∧ Did enc k blk off (Sort.partialInsertionSort lt d a b).1 W w' := by
  have hW1 : Below W.heap.size W (W.alloc (.cells #[.func (.func g) #[] lb, .func (.func sf) #[] sb] 76)) := (Below.refl _ _).alloc (Nat.le_refl _) _
  have hH1 := h_below hH hblk hW1
  have hb1 : blk < (W.alloc (.cells #[.func (.func g) #[] lb, .func (.func sf) #[] sb] 76)).heap.size := Nat.lt_of_lt_of_le hblk hW1.size
  have H01 := Lib.hid (gb_trans h0 (gb_below hW1))
  have hne : W.heap.size ≠ blk := by omega
  have hl0 : ∀ (X : Array α) (j : Nat) (v : Bool) (wr : World), Did enc k blk off X (W.alloc (.cells #[.func (.func g) #[] lb, .func (.func sf) #[] sb] 76)) wr → X.size = n → 1 ≤ j → j < n → lt X[j]! X[j - 1]! = v → wr.cell? ⟨W.heap.size, 0, none⟩ = some (.func (.func g) #[] lb) ∧ Calls Try.prog g (#[.int .i64 (j : Int), .int .i64 ((j : Int) - 1)] ++ lb) wr fun e w' => e = .returned (.bool v) ∧ Did enc k blk off X (W.alloc (.cells #[.func (.func g) #[] lb, .func (.func sf) #[] sb] 76)) w' := fun X j v wr hD hX h1 hj hv => ⟨(gb_cell hD.2 (by simp) hne).trans (by simp), by
    have hl := hless wr X (gb_trans H01.out hD.2) hD.1 hX j (j - 1) hj (by omega)
    rw [hv, show (((j - 1 : Nat)) : Int) = (j : Int) - 1 by omega] at hl
    exact hl.mono fun e w' ⟨he, hB⟩ => ⟨he, did_below hD hb1 hB⟩⟩
  have hs0 : ∀ (X : Array α) (j : Nat) (wr : World), Did enc k blk off X (W.alloc (.cells #[.func (.func g) #[] lb, .func (.func sf) #[] sb] 76)) wr → X.size = n → 1 ≤ j → j < n → wr.cell? ⟨W.heap.size, 1, none⟩ = some (.func (.func sf) #[] sb) ∧ (callFunc sf (#[.int .i64 (j : Int), .int .i64 ((j : Int) - 1)] ++ sb)).run Try.prog wr = .ok (.value (.tuple #[])) ((wr.setCells blk (off + j * k) (enc X[j - 1]!)).setCells blk (off + (j - 1) * k) (enc X[j]!)) ∧ Did enc k blk off (swp X j (j - 1)) (W.alloc (.cells #[.func (.func g) #[] lb, .func (.func sf) #[] sb] 76)) ((wr.setCells blk (off + j * k) (enc X[j - 1]!)).setCells blk (off + (j - 1) * k) (enc X[j]!)) := fun X j wr hD hX h1 hj => ⟨(gb_cell hD.2 (by simp) hne).trans (by simp), by
    have hs := hswap wr X hD.1 hX j (j - 1) hj (by omega)
    rwa [show (((j - 1 : Nat)) : Int) = (j : Int) - 1 by omega] at hs, did_swap hk hD (by omega) (by omega)⟩
  have HL := Lib.hid hl0
  have HS := Lib.hid hs0
  have HD0 := Lib.hid (show Did enc k blk off d (W.alloc (.cells #[.func (.func g) #[] lb, .func (.func sf) #[] sb] 76)) (W.alloc (.cells #[.func (.func g) #[] lb, .func (.func sf) #[] sb] 76)) from ⟨hH1, gb_refl _ _, sh_refl _ _⟩)
  have DBX := Lib.hid (fun (X : Array α) (w : World) (h : Did enc k blk off X (W.alloc (.cells #[.func (.func g) #[] lb, .func (.func sf) #[] sb] 76)) w) => did_box h)
  clear hl0 hs0 hless hswap hH hH1
  go_enter Try.func66, Try.ntmps66
  go_wp2
  go_loopw [7, 8] (fun vi vs wr => ∃ (i s : Nat) (dk : Array α), vi = .int .i64 i ∧ vs = .int .i64 s ∧ s ≤ 5 ∧ a < i ∧ i ≤ b ∧ dk.size = n ∧ Hid (Did enc k blk off dk (W.alloc (.cells #[.func (.func g) #[] lb, .func (.func sf) #[] sb] 76)) wr) ∧ Hid (partialIns lt a b (5 - s) i dk = partialIns lt a b 5 (a + 1) d)) (fun _ vs _ => 5 - (intOf vs).toNat)
  case atStart => exact ⟨a + 1, 0, d, by go_num, rfl, by omega, by omega, by omega, hd, HD0, rfl⟩
  case round =>
    clear HD0
    obtain ⟨i, s, dk, rfl, rfl, hs5, hai, hib, hsk, HD, HO⟩ := hrel
    by_cases hs : s < 5
    · have hsz5 : (s : Int) < 5 := by omega
      go_wp2
      go_loopw [7] (fun vi wr => ∃ (kx : Nat), vi = .int .i64 kx ∧ i ≤ kx ∧ kx ≤ b ∧ Hid (Did enc k blk off dk (W.alloc (.cells #[.func (.func g) #[] lb, .func (.func sf) #[] sb] 76)) wr) ∧ Hid (scanSorted lt dk b kx = scanSorted lt dk b i)) (fun vi _ => b - (intOf vi).toNat)
      case atStart => exact ⟨i, rfl, Nat.le_refl _, hib, HD, rfl⟩
      case round =>
        clear HD
        obtain ⟨kx, rfl, hik, hkb, HD, HSc⟩ := hrel
        by_cases hkb' : kx < b
        · have hkz : (kx : Int) < (b : Int) := by omega
          cases hlv : lt dk[kx]! dk[kx - 1]! with
          | false =>
            have ⟨c0, hl⟩ := HL.out dk kx false wr HD.out hsk (by omega) (by omega) hlv
            have HLL := Lib.hid hl
            clear hl
            go_wp2_with (go_at_fn g; (with_reducible refine HLL.out.mono ?_); rintro e w1 ⟨rfl, hD1⟩)
            go_roundw
            case rel => exact ⟨kx + 1, by go_num, by omega, by omega, hD1, by show scanSorted _ _ _ _ = _; rw [← HSc.out, scanSorted_go lt dk b kx hkb' hlv]⟩
            case measure => simp [intOf] <;> omega
          | true =>
            have ⟨c0, hl⟩ := HL.out dk kx true wr HD.out hsk (by omega) (by omega) hlv
            have HLL := Lib.hid hl
            clear hl
            have HK : Hid (scanSorted lt dk b i = kx) := by show _ = _; rw [← HSc.out, scanSorted_stop lt dk b kx (Or.inr hlv)]
            have hkne : ((kx : Int) == (b : Int)) = false := beq_eq_false_iff_ne.2 (by omega)
            by_cases h50 : b - a < 50
            · have h50z : (b : Int) - (a : Int) < 50 := by omega
              go_wp2_with (go_at_fn g; (with_reducible refine HLL.out.mono ?_); rintro e w1 ⟨rfl, hD1⟩)
              have hv : Sort.partialInsertionSort lt d a b = (dk, false) := by
                unfold Sort.partialInsertionSort
                rw [← HO.out, pi_short lt a b s i dk hs (by rw [HK.out]; omega) h50]
              rw [hv]
              go_ret
              exact ⟨rfl, did_box hD1⟩
            · have h50z : ¬ ((b : Int) - (a : Int) < 50) := by omega
              have hX1 : (swp dk kx (kx - 1)).size = n := by rw [size_swp]; exact hsk
              have HS1 := Lib.hid (fun (w1 : World) (h : Did enc k blk off dk (W.alloc (.cells #[.func (.func g) #[] lb, .func (.func sf) #[] sb] 76)) w1) => HS.out dk kx w1 h hsk (by omega) (by omega))
              by_cases hka : kx - a ≥ 2
              · have hkaz : (2 : Int) ≤ (kx : Int) - (a : Int) := by omega
                go_wp2_with (go_at_fn g; (with_reducible refine HLL.out.mono ?_); rintro e w1 ⟨rfl, hD1⟩; have ⟨c1, hs1, hD2⟩ := HS1.out w1 hD1; have HD2 := Lib.hid hD2; clear hD2 hD1)
                go_loopw [9] (fun vj wr => ∃ (j : Nat) (dj : Array α), vj = .int .i64 j ∧ j ≤ kx - 1 ∧ dj.size = n ∧ Hid (Did enc k blk off dj (W.alloc (.cells #[.func (.func g) #[] lb, .func (.func sf) #[] sb] 76)) wr) ∧ Hid (shiftDown lt j dj = shiftDown lt (kx - 1) (swp dk kx (kx - 1)))) (fun vj _ => (intOf vj).toNat)
                case atStart => exact ⟨kx - 1, (swp dk kx (kx - 1)), by congr 1; omega, Nat.le_refl _, hX1, HD2, rfl⟩
                case round =>
                  clear HD2
                  obtain ⟨j, dj, rfl, hjk, hsj, HDj, HDn⟩ := hrel
                  by_cases hj1 : 1 ≤ j
                  · have hj1z : (1 : Int) ≤ (j : Int) := by omega
                    cases hlv2 : lt dj[j]! dj[j - 1]! with
                    | true =>
                      have ⟨c02, hl2⟩ := HL.out dj j true wr HDj.out hsj hj1 (by omega) hlv2
                      have HLL2 := Lib.hid hl2
                      have HS2 := Lib.hid (fun (w1 : World) (h : Did enc k blk off dj (W.alloc (.cells #[.func (.func g) #[] lb, .func (.func sf) #[] sb] 76)) w1) => HS.out dj j w1 h hsj hj1 (by omega))
                      clear hl2
                      go_wp2_with (go_at_fn g; (with_reducible refine HLL2.out.mono ?_); rintro e w3 ⟨rfl, hD3⟩; have ⟨c12, hs2, hD4⟩ := HS2.out w3 hD3; have HD4 := Lib.hid hD4; clear hD4 hD3)
                      go_roundw
                      case rel => exact ⟨j - 1, swp dj j (j - 1), by congr 1; omega, by omega, by rw [size_swp]; exact hsj, HD4, by show shiftDown _ _ _ = _; rw [← HDn.out, shiftDown_go lt j dj hj1 hlv2]⟩
                      case measure => simp [intOf] <;> omega
                    | false =>
                      have ⟨c02, hl2⟩ := HL.out dj j false wr HDj.out hsj hj1 (by omega) hlv2
                      have HLL2 := Lib.hid hl2
                      clear hl2
                      have HF : Hid (fixDown lt a kx (swp dk kx (kx - 1)) = dj) := by show _ = _; unfold fixDown; rw [if_pos hka, ← HDn.out, shiftDown_stop lt j dj (Or.inr hlv2)]
                      by_cases hbk : b - kx ≥ 2
                      · have hbkz : (2 : Int) ≤ (b : Int) - (kx : Int) := by omega
                        go_wp2_with (go_at_fn g; (with_reducible refine HLL2.out.mono ?_); rintro e w3 ⟨rfl, hD3⟩; have HD3 := Lib.hid hD3; clear hD3)
                        go_loopw [10] (fun vj wr => ∃ (ju : Nat) (du : Array α), vj = .int .i64 ju ∧ kx + 1 ≤ ju ∧ ju ≤ b ∧ du.size = n ∧ Hid (Did enc k blk off du (W.alloc (.cells #[.func (.func g) #[] lb, .func (.func sf) #[] sb] 76)) wr) ∧ Hid (shiftUp lt b ju du = shiftUp lt b (kx + 1) dj)) (fun vj _ => b - (intOf vj).toNat)
                        case atStart => exact ⟨kx + 1, dj, by go_num, Nat.le_refl _, by omega, hsj, HD3, rfl⟩
                        case round =>
                          clear HD3
                          obtain ⟨ju, du, rfl, hkj, hjb, hsu, HDu, HU⟩ := hrel
                          by_cases hjb' : ju < b
                          · have hjz : (ju : Int) < (b : Int) := by omega
                            cases hlv3 : lt du[ju]! du[ju - 1]! with
                            | true =>
                              have ⟨c03, hl3⟩ := HL.out du ju true wr HDu.out hsu (by omega) (by omega) hlv3
                              have HLL3 := Lib.hid hl3
                              have HS3 := Lib.hid (fun (w1 : World) (h : Did enc k blk off du (W.alloc (.cells #[.func (.func g) #[] lb, .func (.func sf) #[] sb] 76)) w1) => HS.out du ju w1 h hsu (by omega) (by omega))
                              clear hl3
                              go_wp2_with (go_at_fn g; (with_reducible refine HLL3.out.mono ?_); rintro e w5 ⟨rfl, hD5⟩; have ⟨c13, hs3, hD6⟩ := HS3.out w5 hD5; have HD6 := Lib.hid hD6; clear hD6 hD5)
                              go_roundw
                              case rel => exact ⟨ju + 1, swp du ju (ju - 1), by go_num, by omega, by omega, by rw [size_swp]; exact hsu, HD6, by show shiftUp _ _ _ _ = _; rw [← HU.out, shiftUp_go lt b ju du hjb' hlv3]⟩
                              case measure => simp [intOf] <;> omega
                            | false =>
                              have ⟨c03, hl3⟩ := HL.out du ju false wr HDu.out hsu (by omega) (by omega) hlv3
                              have HLL3 := Lib.hid hl3
                              clear hl3
                              go_wp2_with (go_at_fn g; (with_reducible refine HLL3.out.mono ?_); rintro e w5 ⟨rfl, hD5⟩)
                              go_roundw
                              case rel => exact ⟨kx, s + 1, du, rfl, by go_num, by omega, by omega, by omega, hsu, hD5, by show partialIns _ _ _ _ _ _ = _; rw [← HO.out, pi_go lt a b s i kx dk hs HK.out (by omega) h50, HF.out, show fixUp lt b kx dj = du from by unfold fixUp; rw [if_pos hbk, ← HU.out, shiftUp_stop lt b ju du (Or.inr hlv3)]]⟩
                              case measure => simp [intOf] <;> omega
                          · have hjz : ¬ (ju : Int) < (b : Int) := by omega
                            go_wp2
                            go_roundw
                            case rel => exact ⟨kx, s + 1, du, rfl, by go_num, by omega, by omega, by omega, hsu, HDu.out, by show partialIns _ _ _ _ _ _ = _; rw [← HO.out, pi_go lt a b s i kx dk hs HK.out (by omega) h50, HF.out, show fixUp lt b kx dj = du from by unfold fixUp; rw [if_pos hbk, ← HU.out, shiftUp_stop lt b ju du (Or.inl hjb')]]⟩
                            case measure => simp [intOf] <;> omega
                      · have hbkz : ¬ (2 : Int) ≤ (b : Int) - (kx : Int) := by omega
                        go_wp2_with (go_at_fn g; (with_reducible refine HLL2.out.mono ?_); rintro e w3 ⟨rfl, hD3⟩; have HD3 := Lib.hid hD3; clear hD3)
                        go_roundw
                        case rel => exact ⟨kx, s + 1, dj, rfl, by go_num, by omega, by omega, by omega, hsj, HD3, by show partialIns _ _ _ _ _ _ = _; rw [← HO.out, pi_go lt a b s i kx dk hs HK.out (by omega) h50, HF.out, show fixUp lt b kx dj = dj from by unfold fixUp; rw [if_neg hbk]]⟩
                        case measure => simp [intOf] <;> omega
                  · have hj1z : ¬ (1 : Int) ≤ (j : Int) := by omega
                    have HF : Hid (fixDown lt a kx (swp dk kx (kx - 1)) = dj) := by show _ = _; unfold fixDown; rw [if_pos hka, ← HDn.out, shiftDown_stop lt j dj (Or.inl (by omega))]
                    by_cases hbk : b - kx ≥ 2
                    · have hbkz : (2 : Int) ≤ (b : Int) - (kx : Int) := by omega
                      go_wp2
                      go_loopw [10] (fun vj wr => ∃ (ju : Nat) (du : Array α), vj = .int .i64 ju ∧ kx + 1 ≤ ju ∧ ju ≤ b ∧ du.size = n ∧ Hid (Did enc k blk off du (W.alloc (.cells #[.func (.func g) #[] lb, .func (.func sf) #[] sb] 76)) wr) ∧ Hid (shiftUp lt b ju du = shiftUp lt b (kx + 1) dj)) (fun vj _ => b - (intOf vj).toNat)
                      case atStart => exact ⟨kx + 1, dj, by go_num, Nat.le_refl _, by omega, hsj, HDj, rfl⟩
                      case round =>
                        clear HDj
                        obtain ⟨ju, du, rfl, hkj, hjb, hsu, HDu, HU⟩ := hrel
                        by_cases hjb' : ju < b
                        · have hjz : (ju : Int) < (b : Int) := by omega
                          cases hlv3 : lt du[ju]! du[ju - 1]! with
                          | true =>
                            have ⟨c03, hl3⟩ := HL.out du ju true wr HDu.out hsu (by omega) (by omega) hlv3
                            have HLL3 := Lib.hid hl3
                            have HS3 := Lib.hid (fun (w1 : World) (h : Did enc k blk off du (W.alloc (.cells #[.func (.func g) #[] lb, .func (.func sf) #[] sb] 76)) w1) => HS.out du ju w1 h hsu (by omega) (by omega))
                            clear hl3
                            go_wp2_with (go_at_fn g; (with_reducible refine HLL3.out.mono ?_); rintro e w5 ⟨rfl, hD5⟩; have ⟨c13, hs3, hD6⟩ := HS3.out w5 hD5; have HD6 := Lib.hid hD6; clear hD6 hD5)
                            go_roundw
                            case rel => exact ⟨ju + 1, swp du ju (ju - 1), by go_num, by omega, by omega, by rw [size_swp]; exact hsu, HD6, by show shiftUp _ _ _ _ = _; rw [← HU.out, shiftUp_go lt b ju du hjb' hlv3]⟩
                            case measure => simp [intOf] <;> omega
                          | false =>
                            have ⟨c03, hl3⟩ := HL.out du ju false wr HDu.out hsu (by omega) (by omega) hlv3
                            have HLL3 := Lib.hid hl3
                            clear hl3
                            go_wp2_with (go_at_fn g; (with_reducible refine HLL3.out.mono ?_); rintro e w5 ⟨rfl, hD5⟩)
                            go_roundw
                            case rel => exact ⟨kx, s + 1, du, rfl, by go_num, by omega, by omega, by omega, hsu, hD5, by show partialIns _ _ _ _ _ _ = _; rw [← HO.out, pi_go lt a b s i kx dk hs HK.out (by omega) h50, HF.out, show fixUp lt b kx dj = du from by unfold fixUp; rw [if_pos hbk, ← HU.out, shiftUp_stop lt b ju du (Or.inr hlv3)]]⟩
                            case measure => simp [intOf] <;> omega
                        · have hjz : ¬ (ju : Int) < (b : Int) := by omega
                          go_wp2
                          go_roundw
                          case rel => exact ⟨kx, s + 1, du, rfl, by go_num, by omega, by omega, by omega, hsu, HDu.out, by show partialIns _ _ _ _ _ _ = _; rw [← HO.out, pi_go lt a b s i kx dk hs HK.out (by omega) h50, HF.out, show fixUp lt b kx dj = du from by unfold fixUp; rw [if_pos hbk, ← HU.out, shiftUp_stop lt b ju du (Or.inl hjb')]]⟩
                          case measure => simp [intOf] <;> omega
                    · have hbkz : ¬ (2 : Int) ≤ (b : Int) - (kx : Int) := by omega
                      go_wp2
                      go_roundw
                      case rel => exact ⟨kx, s + 1, dj, rfl, by go_num, by omega, by omega, by omega, hsj, HDj, by show partialIns _ _ _ _ _ _ = _; rw [← HO.out, pi_go lt a b s i kx dk hs HK.out (by omega) h50, HF.out, show fixUp lt b kx dj = dj from by unfold fixUp; rw [if_neg hbk]]⟩
                      case measure => simp [intOf] <;> omega
              · have hkaz : ¬ (2 : Int) ≤ (kx : Int) - (a : Int) := by omega
                have HF : Hid (fixDown lt a kx (swp dk kx (kx - 1)) = (swp dk kx (kx - 1))) := by show _ = _; unfold fixDown; rw [if_neg hka]
                by_cases hbk : b - kx ≥ 2
                · have hbkz : (2 : Int) ≤ (b : Int) - (kx : Int) := by omega
                  go_wp2_with (go_at_fn g; (with_reducible refine HLL.out.mono ?_); rintro e w1 ⟨rfl, hD1⟩; have ⟨c1, hs1, hD2⟩ := HS1.out w1 hD1; have HD2 := Lib.hid hD2; clear hD2 hD1)
                  go_loopw [10] (fun vj wr => ∃ (ju : Nat) (du : Array α), vj = .int .i64 ju ∧ kx + 1 ≤ ju ∧ ju ≤ b ∧ du.size = n ∧ Hid (Did enc k blk off du (W.alloc (.cells #[.func (.func g) #[] lb, .func (.func sf) #[] sb] 76)) wr) ∧ Hid (shiftUp lt b ju du = shiftUp lt b (kx + 1) (swp dk kx (kx - 1)))) (fun vj _ => b - (intOf vj).toNat)
                  case atStart => exact ⟨kx + 1, (swp dk kx (kx - 1)), by go_num, Nat.le_refl _, by omega, hX1, HD2, rfl⟩
                  case round =>
                    clear HD2
                    obtain ⟨ju, du, rfl, hkj, hjb, hsu, HDu, HU⟩ := hrel
                    by_cases hjb' : ju < b
                    · have hjz : (ju : Int) < (b : Int) := by omega
                      cases hlv3 : lt du[ju]! du[ju - 1]! with
                      | true =>
                        have ⟨c03, hl3⟩ := HL.out du ju true wr HDu.out hsu (by omega) (by omega) hlv3
                        have HLL3 := Lib.hid hl3
                        have HS3 := Lib.hid (fun (w1 : World) (h : Did enc k blk off du (W.alloc (.cells #[.func (.func g) #[] lb, .func (.func sf) #[] sb] 76)) w1) => HS.out du ju w1 h hsu (by omega) (by omega))
                        clear hl3
                        go_wp2_with (go_at_fn g; (with_reducible refine HLL3.out.mono ?_); rintro e w5 ⟨rfl, hD5⟩; have ⟨c13, hs3, hD6⟩ := HS3.out w5 hD5; have HD6 := Lib.hid hD6; clear hD6 hD5)
                        go_roundw
                        case rel => exact ⟨ju + 1, swp du ju (ju - 1), by go_num, by omega, by omega, by rw [size_swp]; exact hsu, HD6, by show shiftUp _ _ _ _ = _; rw [← HU.out, shiftUp_go lt b ju du hjb' hlv3]⟩
                        case measure => simp [intOf] <;> omega
                      | false =>
                        have ⟨c03, hl3⟩ := HL.out du ju false wr HDu.out hsu (by omega) (by omega) hlv3
                        have HLL3 := Lib.hid hl3
                        clear hl3
                        go_wp2_with (go_at_fn g; (with_reducible refine HLL3.out.mono ?_); rintro e w5 ⟨rfl, hD5⟩)
                        go_roundw
                        case rel => exact ⟨kx, s + 1, du, rfl, by go_num, by omega, by omega, by omega, hsu, hD5, by show partialIns _ _ _ _ _ _ = _; rw [← HO.out, pi_go lt a b s i kx dk hs HK.out (by omega) h50, HF.out, show fixUp lt b kx (swp dk kx (kx - 1)) = du from by unfold fixUp; rw [if_pos hbk, ← HU.out, shiftUp_stop lt b ju du (Or.inr hlv3)]]⟩
                        case measure => simp [intOf] <;> omega
                    · have hjz : ¬ (ju : Int) < (b : Int) := by omega
                      go_wp2
                      go_roundw
                      case rel => exact ⟨kx, s + 1, du, rfl, by go_num, by omega, by omega, by omega, hsu, HDu.out, by show partialIns _ _ _ _ _ _ = _; rw [← HO.out, pi_go lt a b s i kx dk hs HK.out (by omega) h50, HF.out, show fixUp lt b kx (swp dk kx (kx - 1)) = du from by unfold fixUp; rw [if_pos hbk, ← HU.out, shiftUp_stop lt b ju du (Or.inl hjb')]]⟩
                      case measure => simp [intOf] <;> omega
                · have hbkz : ¬ (2 : Int) ≤ (b : Int) - (kx : Int) := by omega
                  exfalso; omega
        · obtain rfl : kx = b := by omega
          have hkz : ¬ (kx : Int) < (kx : Int) := by omega
          go_wp2
          have hv : Sort.partialInsertionSort lt d a kx = (dk, true) := by
            unfold Sort.partialInsertionSort
            rw [← HO.out, pi_true lt a kx s i dk hs (by rw [← HSc.out, scanSorted_stop lt dk kx kx (Or.inl (by omega))])]
          rw [hv]
          go_ret
          exact ⟨rfl, did_box HD.out⟩
    · obtain rfl : s = 5 := by omega
      go_wp2
      have hv : Sort.partialInsertionSort lt d a b = (dk, false) := by
        unfold Sort.partialInsertionSort
        rw [← HO.out, pi_end]
      rw [hv]
      go_ret
      exact ⟨rfl, did_box HD.out⟩
end
end Go.Proofs.Ytegedhnbmclbkaa.Pd
