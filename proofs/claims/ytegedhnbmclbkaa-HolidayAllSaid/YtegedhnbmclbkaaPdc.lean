/- The library's unstable sort, walked, a row of elements of k cells; the function that compares may make memory. Here: the heap sort, and turning a range round. Condition: the function that compares answers by an order of what lies in the row, and changes nothing that was there. -/
import Derived.Test.YtegedhnbmclbkaaPdb
import Derived.Sort.WalkB3
namespace Go.Proofs.Ytegedhnbmclbkaa.Pd
open Go.Shelf Go.RowKit Go.Lib Go.Sort
set_option linter.unusedVariables false
set_option linter.unusedSimpArgs false
section
variable {α : Type} [Inhabited α] {enc : α → List Value} {k : Nat} {g sf : Nat} {lb sb : Array Value} {lt : α → α → Bool} {blk off n : Nat}
set_option maxHeartbeats 2000000 in
set_option maxRecDepth 100000 in
theorem reverseRange (hk : ∀ x, (enc x).length = k) (hswap : SwapSwapsK Try.prog sf sb enc k blk off n) (hn : n < 4611686018427387904) (W : World) (d : Array α) (hH : HoldsK enc k W blk off d) (hd : d.size = n) (hblk : blk < W.heap.size) (a b : Nat) (hab : a ≤ b) (hb : b ≤ n) :
    Calls Try.prog 65 #[dat g sf lb sb, .int .i64 a, .int .i64 b] W fun e w' => e = .returned (.tuple #[]) ∧ Did enc k blk off (Sort.reverseRange d a b) W w' := by
  have hW1 : Below W.heap.size W (W.alloc (.cells #[.func (.func g) #[] lb, .func (.func sf) #[] sb] 76)) := (Below.refl _ _).alloc (Nat.le_refl _) _
  have hH1 := h_below hH hblk hW1
  have hb1 : blk < (W.alloc (.cells #[.func (.func g) #[] lb, .func (.func sf) #[] sb] 76)).heap.size := Nat.lt_of_lt_of_le hblk hW1.size
  have hne : W.heap.size ≠ blk := by omega
  go_enter Try.func65, Try.ntmps65
  go_wp2
  go_loopw [6, 7] (fun vi vj wr => ∃ (i : Nat) (j : Int) (dk : Array α), vi = .int .i64 i ∧ vj = .int .i64 j ∧ a ≤ i ∧ j < b ∧ (i : Int) ≤ j + 2 ∧ dk.size = n ∧ Hid (Did enc k blk off dk (W.alloc (.cells #[.func (.func g) #[] lb, .func (.func sf) #[] sb] 76)) wr) ∧ Hid (reverseLoop i j.toNat dk = reverseLoop a (b - 1) d)) (fun vi vj _ => (intOf vj - intOf vi + 2).toNat)
  case atStart => exact ⟨a, (b : Int) - 1, d, rfl, rfl, by omega, by omega, by omega, hd, ⟨hH1, gb_refl _ _, sh_refl _ _⟩, by show reverseLoop _ _ _ = _; congr 1; omega⟩
  case round =>
    obtain ⟨i, j, dk, rfl, rfl, hi, hj, hij, hdk, HD, HI⟩ := hrel
    have c1 : wr.cell? ⟨W.heap.size, 1, none⟩ = some (.func (.func sf) #[] sb) := (gb_cell HD.out.2 (by simp) hne).trans (by simp)
    by_cases hlt : (i : Int) < j
    · have hs := hswap wr dk HD.out.1 hdk i j.toNat (by omega) (by omega)
      rw [show ((j.toNat : Nat) : Int) = j by omega] at hs
      go_wp2
      go_roundw
      case rel => exact ⟨i + 1, j - 1, swp dk i j.toNat, by go_num, by go_num, by omega, by omega, by omega, by rw [size_swp]; exact hdk, did_swap hk HD.out (by omega) (by omega), by
        show reverseLoop _ _ _ = _
        rw [← HI.out]
        conv => rhs; rw [reverseLoop, if_pos (by omega)]
        congr 1
        omega⟩
      case measure => simp [intOf] <;> omega
    · go_wp2
      go_end0
      refine ⟨rfl, ?_⟩
      have e : Sort.reverseRange d a b = dk := by unfold Sort.reverseRange; rw [← HI.out, reverseLoop, if_neg (by omega)]
      rw [e]; exact did_box HD.out
set_option maxHeartbeats 2000000 in
set_option maxRecDepth 100000 in
theorem heapSort (hk : ∀ x, (enc x).length = k) {w0 : World} (hless : Less g lb enc k lt blk off n w0) (eg : ∀ args w, (callFunc g args).run Try.prog w = .ok (.enter g args) w) (hswap : SwapSwapsK Try.prog sf sb enc k blk off n) (hn : n < 4611686018427387904) (W : World) (d : Array α) (h0 : w0.grownBy W (some blk)) (hH : HoldsK enc k W blk off d) (hd : d.size = n) (hblk : blk < W.heap.size) (a b : Nat) (hab : a ≤ b) (hb : b ≤ n) :
    Calls Try.prog 62 #[dat g sf lb sb, .int .i64 a, .int .i64 b] W fun e w' => e = .returned (.tuple #[]) ∧ Did enc k blk off (Sort.heapSort lt d a b) W w' := by
  have hW1 : Below W.heap.size W (W.alloc (.cells #[.func (.func g) #[] lb, .func (.func sf) #[] sb] 76)) := (Below.refl _ _).alloc (Nat.le_refl _) _
  have hH1 := h_below hH hblk hW1
  have hb1 : blk < (W.alloc (.cells #[.func (.func g) #[] lb, .func (.func sf) #[] sb] 76)).heap.size := Nat.lt_of_lt_of_le hblk hW1.size
  have H01 := Lib.hid (gb_trans h0 (gb_below hW1))
  have hne : W.heap.size ≠ blk := by omega
  have hstart := half_start hab
  have HS := Lib.hid (fun W d h0 hH hd hblk lo hi first hl hf => siftDown hk hless eg hswap hn W d h0 hH hd hblk lo hi first hl hf)
  clear hless
  go_enter Try.func62, Try.ntmps62
  go_wp2
  go_loopw [9] (fun vi wr => ∃ (m : Nat) (dk : Array α), vi = .int .i64 ((m : Int) - 1) ∧ m ≤ (b - a - 1) / 2 + 1 ∧ dk.size = n ∧ Hid (Did enc k blk off dk (W.alloc (.cells #[.func (.func g) #[] lb, .func (.func sf) #[] sb] 76)) wr) ∧ Hid (heapBuild lt (b - a) a m dk = heapBuild lt (b - a) a ((b - a - 1) / 2 + 1) d)) (fun vi _ => (intOf vi + 1).toNat)
  case atStart => exact ⟨(b - a - 1) / 2 + 1, d, by rw [← hstart]; go_num, Nat.le_refl _, hd, ⟨hH1, gb_refl _ _, sh_refl _ _⟩, rfl⟩
  case round =>
    clear hstart
    obtain ⟨m, dk, rfl, hm, hdk, HD, HI⟩ := hrel
    have c0 : wr.cell? ⟨W.heap.size, 0, none⟩ = some (.func (.func g) #[] lb) := (gb_cell HD.out.2 (by simp) hne).trans (by simp)
    have c1 : wr.cell? ⟨W.heap.size, 1, none⟩ = some (.func (.func sf) #[] sb) := (gb_cell HD.out.2 (by simp) hne).trans (by simp)
    by_cases hm0 : 0 < m
    · obtain ⟨q, rfl⟩ : ∃ q, m = q + 1 := ⟨m - 1, by omega⟩
      have hc := HS.out wr dk (gb_trans H01.out HD.out.2) HD.out.1 hdk (did_lt HD.out hb1) q (b - a) a (by omega) (by omega)
      rw [show (((b - a : Nat)) : Int) = (b : Int) - a by omega] at hc
      have HC := Lib.hid hc
      clear hc
      rw [show (((q + 1 : Nat)) : Int) - 1 = (q : Int) by omega]
      go_wp2_with (go_at_call 70; refine HC.out.mono ?_; rintro e w' ⟨rfl, hD⟩)
      go_roundw
      case rel => exact ⟨q, Sort.siftDown lt (b - a) a q dk, by go_num, by omega, by rw [size_siftDown _ _ _ _ _ _ (Nat.le_refl _)]; exact hdk, did_trans HD.out hD, by show heapBuild _ _ _ _ _ = _; rw [← HI.out, heapBuild]⟩
      case measure => simp [intOf] <;> omega
    · obtain rfl : m = 0 := by omega
      rw [show (((0 : Nat) : Int) - 1) = -1 from rfl]
      obtain ⟨dB, hdB⟩ : ∃ x, heapBuild lt (b - a) a ((b - a - 1) / 2 + 1) d = x := ⟨_, rfl⟩
      go_wp2
      go_loopw [10] (fun vi wr => ∃ (m : Nat) (dk : Array α), vi = .int .i64 ((m : Int) - 1) ∧ m ≤ b - a ∧ dk.size = n ∧ Hid (Did enc k blk off dk (W.alloc (.cells #[.func (.func g) #[] lb, .func (.func sf) #[] sb] 76)) wr) ∧ Hid (heapPop lt a m dk = heapPop lt a (b - a) (heapBuild lt (b - a) a ((b - a - 1) / 2 + 1) d))) (fun vi _ => (intOf vi + 1).toNat)
      case atStart => exact ⟨b - a, dk, by rw [show (((b - a : Nat)) : Int) = (b : Int) - a by omega], Nat.le_refl _, hdk, HD, by show heapPop _ _ _ _ = _; rw [← HI.out]; rfl⟩
      case round =>
        clear HD HI hdB
        obtain ⟨m, dk, rfl, hm, hdk, HD, HI⟩ := hrel
        have c0 : wr.cell? ⟨W.heap.size, 0, none⟩ = some (.func (.func g) #[] lb) := (gb_cell HD.out.2 (by simp) hne).trans (by simp)
        have c1 : wr.cell? ⟨W.heap.size, 1, none⟩ = some (.func (.func sf) #[] sb) := (gb_cell HD.out.2 (by simp) hne).trans (by simp)
        by_cases hm1 : 0 < m
        · obtain ⟨q, rfl⟩ : ∃ q, m = q + 1 := ⟨m - 1, by omega⟩
          rw [show (((q + 1 : Nat)) : Int) - 1 = (q : Int) by omega]
          have hs := hswap wr dk HD.out.1 hdk a (a + q) (by omega) (by omega)
          rw [show (((a + q : Nat)) : Int) = (a : Int) + q by omega] at hs
          have hD2 := did_swap hk HD.out (i := a) (j := a + q) (by omega) (by omega)
          have hc := HS.out _ _ (gb_trans H01.out hD2.2) hD2.1 (by rw [size_swp]; exact hdk) (did_lt hD2 hb1) 0 q a (by omega) (by omega)
          have HC := Lib.hid hc
          have HD2 := Lib.hid hD2
          clear hc hD2
          have c2 : ((wr.setCells blk (off + a * k) (enc dk[a + q]!)).setCells blk (off + (a + q) * k) (enc dk[a]!)).cell? ⟨W.heap.size, 0, none⟩ = some (.func (.func g) #[] lb) := (gb_cell HD2.out.2 (by simp) hne).trans (by simp)
          have c3 : ((wr.setCells blk (off + a * k) (enc dk[a + q]!)).setCells blk (off + (a + q) * k) (enc dk[a]!)).cell? ⟨W.heap.size, 1, none⟩ = some (.func (.func sf) #[] sb) := (gb_cell HD2.out.2 (by simp) hne).trans (by simp)
          go_wp2_with (go_at_call 70; refine HC.out.mono ?_; rintro e w' ⟨rfl, hD⟩)
          go_roundw
          case rel => exact ⟨q, Sort.siftDown lt q a 0 (swp dk a (a + q)), by go_num, by omega, by rw [size_siftDown _ _ _ _ _ _ (Nat.le_refl _), size_swp]; exact hdk, did_trans HD2.out hD, by show heapPop _ _ _ _ = _; rw [← HI.out, heapPop]⟩
          case measure => simp [intOf] <;> omega
        · obtain rfl : m = 0 := by omega
          go_wp2
          go_end0
          refine ⟨rfl, ?_⟩
          have e : Sort.heapSort lt d a b = dk := by unfold Sort.heapSort; rw [← HI.out, heapPop]
          rw [e]; exact did_box HD.out
end
end Go.Proofs.Ytegedhnbmclbkaa.Pd
