/- The library's unstable sort, walked, a row of elements of k cells; the function that compares may make memory. Here: sifting down and the heap. Condition: the function that compares answers by an order of what lies in the row, and changes nothing that was there. -/
import Derived.Test.YtegedhnbmclbkaaPda
namespace Go.Proofs.Ytegedhnbmclbkaa.Pd
open Go.Shelf Go.RowKit Go.Lib Go.Sort
set_option linter.unusedVariables false
set_option linter.unusedSimpArgs false
section
variable {α : Type} [Inhabited α] {enc : α → List Value} {k : Nat} {g sf : Nat} {lb sb : Array Value} {lt : α → α → Bool} {blk off n : Nat}
theorem sift_end {hi first root : Nat} {d : Array α} (h : 2 * root + 1 ≥ hi) : Sort.siftDown lt hi first root d = d := by rw [Sort.siftDown, dif_pos h]
theorem sift_stop {hi first root c : Nat} {d : Array α} (h : ¬ 2 * root + 1 ≥ hi) (hc : (c = 2 * root + 2 ∧ 2 * root + 2 < hi ∧ lt d[first + (2 * root + 1)]! d[first + (2 * root + 1) + 1]! = true) ∨ (c = 2 * root + 1 ∧ ¬ (2 * root + 2 < hi ∧ lt d[first + (2 * root + 1)]! d[first + (2 * root + 1) + 1]! = true))) (hl : lt d[first + root]! d[first + c]! = false) : Sort.siftDown lt hi first root d = d := by
  rw [Sort.siftDown, dif_neg h]
  rcases hc with ⟨rfl, h1, h2⟩ | ⟨rfl, h1⟩
  · rw [if_pos (by simp [h1, h2]), if_pos (by simp [hl])]
  · rw [if_neg (by simpa using h1), if_pos (by simp [hl])]
theorem sift_go {hi first root c : Nat} {d : Array α} (h : ¬ 2 * root + 1 ≥ hi) (hc : (c = 2 * root + 2 ∧ 2 * root + 2 < hi ∧ lt d[first + (2 * root + 1)]! d[first + (2 * root + 1) + 1]! = true) ∨ (c = 2 * root + 1 ∧ ¬ (2 * root + 2 < hi ∧ lt d[first + (2 * root + 1)]! d[first + (2 * root + 1) + 1]! = true))) (hl : lt d[first + root]! d[first + c]! = true) : Sort.siftDown lt hi first root d = Sort.siftDown lt hi first c (swp d (first + root) (first + c)) := by
  conv => lhs; rw [Sort.siftDown, dif_neg h]
  rcases hc with ⟨rfl, h1, h2⟩ | ⟨rfl, h1⟩
  · rw [if_pos (by simp [h1, h2]), if_neg (by simp [hl]), dif_pos h1]
  · rw [if_neg (by simpa using h1), if_neg (by simp [hl])]
set_option maxHeartbeats 2000000 in
set_option maxRecDepth 100000 in
theorem siftDown (hk : ∀ x, (enc x).length = k) {w0 : World} (hless : Less g lb enc k lt blk off n w0) (eg : ∀ args w, (callFunc g args).run Try.prog w = .ok (.enter g args) w) (hswap : SwapSwapsK Try.prog sf sb enc k blk off n) (hn : n < 4611686018427387904) (W : World) (d : Array α) (h0 : w0.grownBy W (some blk)) (hH : HoldsK enc k W blk off d) (hd : d.size = n) (hblk : blk < W.heap.size) (lo hi first : Nat) (hl : lo ≤ hi) (hf : first + hi ≤ n) :
    Calls Try.prog 70 #[dat g sf lb sb, .int .i64 lo, .int .i64 hi, .int .i64 first] W fun e w' => e = .returned (.tuple #[]) ∧ Did enc k blk off (Sort.siftDown lt hi first lo d) W w' := by
  have hW1 : Below W.heap.size W (W.alloc (.cells #[.func (.func g) #[] lb, .func (.func sf) #[] sb] 76)) := (Below.refl _ _).alloc (Nat.le_refl _) _
  have hH1 := h_below hH hblk hW1
  have hb1 : blk < (W.alloc (.cells #[.func (.func g) #[] lb, .func (.func sf) #[] sb] 76)).heap.size := Nat.lt_of_lt_of_le hblk hW1.size
  have H01 := Lib.hid (gb_trans h0 (gb_below hW1))
  have hne : W.heap.size ≠ blk := by omega
  go_enter Try.func70, Try.ntmps70
  go_wp2
  go_loopw [8] (fun vi wr => ∃ (root : Nat) (dk : Array α), vi = .int .i64 root ∧ root ≤ hi ∧ dk.size = n ∧ Hid (Did enc k blk off dk (W.alloc (.cells #[.func (.func g) #[] lb, .func (.func sf) #[] sb] 76)) wr) ∧ Hid (Sort.siftDown lt hi first root dk = Sort.siftDown lt hi first lo d)) (fun vi _ => hi - (intOf vi).toNat)
  case atStart => exact ⟨lo, d, rfl, hl, hd, ⟨hH1, gb_refl _ _, sh_refl _ _⟩, rfl⟩
  case round =>
    obtain ⟨root, dk, rfl, hr, hdk, HD, HI⟩ := hrel
    by_cases hc : 2 * root + 1 ≥ hi
    · go_wp2
      go_end0
      refine ⟨rfl, ?_⟩
      rw [← HI.out, sift_end hc]
      exact did_box HD.out
    · have c0 : wr.cell? ⟨W.heap.size, 0, none⟩ = some (.func (.func g) #[] lb) := (gb_cell HD.out.2 (by simp) hne).trans (by simp)
      by_cases h2 : 2 * root + 2 < hi
      · have hl1 := hless wr dk (gb_trans H01.out HD.out.2) HD.out.1 hdk (first + (2 * root + 1)) (first + (2 * root + 1) + 1) (by omega) (by omega)
        rw [show (((first + (2 * root + 1) : Nat)) : Int) = (first : Int) + (2 * (root : Int) + 1) by omega, show (((first + (2 * root + 1) + 1 : Nat)) : Int) = (first : Int) + (2 * (root : Int) + 1) + 1 by omega] at hl1
        cases hv1 : lt dk[first + (2 * root + 1)]! dk[first + (2 * root + 1) + 1]! with
        | true =>
          rw [hv1] at hl1
          have HL1 := Lib.hid hl1
          clear hl1
          have hl2 : ∀ w1, Below wr.heap.size wr w1 → w1.cell? ⟨W.heap.size, 0, none⟩ = some (.func (.func g) #[] lb) ∧ Calls Try.prog g (#[.int .i64 ((first : Int) + root), .int .i64 ((first : Int) + (2 * (root : Int) + 1 + 1))] ++ lb) w1 fun e w' => e = .returned (.bool (lt dk[first + root]! dk[first + (2 * root + 2)]!)) ∧ Below w1.heap.size w1 w' := fun w1 hB => ⟨(gb_cell (did_below HD.out hb1 hB).2 (by simp) hne).trans (by simp), by
            have := hless w1 dk (gb_trans H01.out (did_below HD.out hb1 hB).2) (did_below HD.out hb1 hB).1 hdk (first + root) (first + (2 * root + 2)) (by omega) (by omega)
            rwa [show (((first + root : Nat)) : Int) = (first : Int) + root by omega, show (((first + (2 * root + 2) : Nat)) : Int) = (first : Int) + (2 * (root : Int) + 1 + 1) by omega] at this⟩
          cases hv : lt dk[first + root]! dk[first + (2 * root + 2)]! with
          | true =>
            rw [hv] at hl2
            have HL2 := Lib.hid hl2
            clear hl2
            have CS := Lib.hid (show ∀ w1, Below wr.heap.size wr w1 → w1.cell? ⟨W.heap.size, 1, none⟩ = some (.func (.func sf) #[] sb) ∧ (callFunc sf (#[.int .i64 ((first : Int) + root), .int .i64 ((first : Int) + (2 * (root : Int) + 1 + 1))] ++ sb)).run Try.prog w1 = .ok (.value (.tuple #[])) ((w1.setCells blk (off + (first + root) * k) (enc dk[first + (2 * root + 2)]!)).setCells blk (off + (first + (2 * root + 2)) * k) (enc dk[first + root]!)) from fun w1 hB =>
              ⟨(gb_cell (did_below HD.out hb1 hB).2 (by simp) hne).trans (by simp), by
                have hs := hswap w1 dk (did_below HD.out hb1 hB).1 hdk (first + root) (first + (2 * root + 2)) (by omega) (by omega)
                rwa [show (((first + root : Nat)) : Int) = (first : Int) + root by omega, show (((first + (2 * root + 2) : Nat)) : Int) = (first : Int) + (2 * (root : Int) + 1 + 1) by omega] at hs⟩)
            go_wp2_with (go_at_fn g; first | (refine HL1.out.mono ?_; rintro e w1 ⟨rfl, hB1⟩; have ⟨c01, HL3⟩ := HL2.out w1 hB1) | (refine HL3.mono ?_; rintro e w2 ⟨rfl, hB2⟩; have ⟨c1, hs⟩ := CS.out w2 (hB1.trans (hB2.mono hB1.size))))
            go_roundw
            case rel => exact ⟨2 * root + 2, swp dk (first + root) (first + (2 * root + 2)), by go_num, by omega, by rw [size_swp]; exact hdk, did_swap hk (did_below HD.out hb1 (hB1.trans (hB2.mono hB1.size))) (by omega) (by omega), (sift_go hc (lt := lt) (Or.inl ⟨rfl, h2, hv1⟩) hv).symm.trans HI.out⟩
            case measure => simp [intOf]; omega
          | false =>
            rw [hv] at hl2
            have HL2 := Lib.hid hl2
            clear hl2
            go_wp2_with (go_at_fn g; first | (refine HL1.out.mono ?_; rintro e w1 ⟨rfl, hB1⟩; have ⟨c01, HL3⟩ := HL2.out w1 hB1) | (refine HL3.mono ?_; rintro e w2 ⟨rfl, hB2⟩))
            refine bodyPost_ret (results_none rfl _ _ _) rfl ?_
            refine ⟨rfl, ?_⟩
            rw [← HI.out, sift_stop hc (lt := lt) (Or.inl ⟨rfl, h2, hv1⟩) hv]
            exact did_box (did_below HD.out hb1 (hB1.trans (hB2.mono hB1.size)))
        | false =>
          rw [hv1] at hl1
          have HL1 := Lib.hid hl1
          clear hl1
          have hl2 : ∀ w1, Below wr.heap.size wr w1 → w1.cell? ⟨W.heap.size, 0, none⟩ = some (.func (.func g) #[] lb) ∧ Calls Try.prog g (#[.int .i64 ((first : Int) + root), .int .i64 ((first : Int) + (2 * (root : Int) + 1))] ++ lb) w1 fun e w' => e = .returned (.bool (lt dk[first + root]! dk[first + (2 * root + 1)]!)) ∧ Below w1.heap.size w1 w' := fun w1 hB => ⟨(gb_cell (did_below HD.out hb1 hB).2 (by simp) hne).trans (by simp), by
            have := hless w1 dk (gb_trans H01.out (did_below HD.out hb1 hB).2) (did_below HD.out hb1 hB).1 hdk (first + root) (first + (2 * root + 1)) (by omega) (by omega)
            rwa [show (((first + root : Nat)) : Int) = (first : Int) + root by omega, show (((first + (2 * root + 1) : Nat)) : Int) = (first : Int) + (2 * (root : Int) + 1) by omega] at this⟩
          cases hv : lt dk[first + root]! dk[first + (2 * root + 1)]! with
          | true =>
            rw [hv] at hl2
            have HL2 := Lib.hid hl2
            clear hl2
            have CS := Lib.hid (show ∀ w1, Below wr.heap.size wr w1 → w1.cell? ⟨W.heap.size, 1, none⟩ = some (.func (.func sf) #[] sb) ∧ (callFunc sf (#[.int .i64 ((first : Int) + root), .int .i64 ((first : Int) + (2 * (root : Int) + 1))] ++ sb)).run Try.prog w1 = .ok (.value (.tuple #[])) ((w1.setCells blk (off + (first + root) * k) (enc dk[first + (2 * root + 1)]!)).setCells blk (off + (first + (2 * root + 1)) * k) (enc dk[first + root]!)) from fun w1 hB =>
              ⟨(gb_cell (did_below HD.out hb1 hB).2 (by simp) hne).trans (by simp), by
                have hs := hswap w1 dk (did_below HD.out hb1 hB).1 hdk (first + root) (first + (2 * root + 1)) (by omega) (by omega)
                rwa [show (((first + root : Nat)) : Int) = (first : Int) + root by omega, show (((first + (2 * root + 1) : Nat)) : Int) = (first : Int) + (2 * (root : Int) + 1) by omega] at hs⟩)
            go_wp2_with (go_at_fn g; first | (refine HL1.out.mono ?_; rintro e w1 ⟨rfl, hB1⟩; have ⟨c01, HL3⟩ := HL2.out w1 hB1) | (refine HL3.mono ?_; rintro e w2 ⟨rfl, hB2⟩; have ⟨c1, hs⟩ := CS.out w2 (hB1.trans (hB2.mono hB1.size))))
            go_roundw
            case rel => exact ⟨2 * root + 1, swp dk (first + root) (first + (2 * root + 1)), by go_num, by omega, by rw [size_swp]; exact hdk, did_swap hk (did_below HD.out hb1 (hB1.trans (hB2.mono hB1.size))) (by omega) (by omega), (sift_go hc (lt := lt) (Or.inr ⟨rfl, fun q => by rw [hv1] at q; exact absurd q.2 (by simp)⟩) hv).symm.trans HI.out⟩
            case measure => simp [intOf]; omega
          | false =>
            rw [hv] at hl2
            have HL2 := Lib.hid hl2
            clear hl2
            go_wp2_with (go_at_fn g; first | (refine HL1.out.mono ?_; rintro e w1 ⟨rfl, hB1⟩; have ⟨c01, HL3⟩ := HL2.out w1 hB1) | (refine HL3.mono ?_; rintro e w2 ⟨rfl, hB2⟩))
            refine bodyPost_ret (results_none rfl _ _ _) rfl ?_
            refine ⟨rfl, ?_⟩
            rw [← HI.out, sift_stop hc (lt := lt) (Or.inr ⟨rfl, fun q => by rw [hv1] at q; exact absurd q.2 (by simp)⟩) hv]
            exact did_box (did_below HD.out hb1 (hB1.trans (hB2.mono hB1.size)))
      · have hl2 : ∀ w1, Below wr.heap.size wr w1 → w1.cell? ⟨W.heap.size, 0, none⟩ = some (.func (.func g) #[] lb) ∧ Calls Try.prog g (#[.int .i64 ((first : Int) + root), .int .i64 ((first : Int) + (2 * (root : Int) + 1))] ++ lb) w1 fun e w' => e = .returned (.bool (lt dk[first + root]! dk[first + (2 * root + 1)]!)) ∧ Below w1.heap.size w1 w' := fun w1 hB => ⟨(gb_cell (did_below HD.out hb1 hB).2 (by simp) hne).trans (by simp), by
          have := hless w1 dk (gb_trans H01.out (did_below HD.out hb1 hB).2) (did_below HD.out hb1 hB).1 hdk (first + root) (first + (2 * root + 1)) (by omega) (by omega)
          rwa [show (((first + root : Nat)) : Int) = (first : Int) + root by omega, show (((first + (2 * root + 1) : Nat)) : Int) = (first : Int) + (2 * (root : Int) + 1) by omega] at this⟩
        cases hv : lt dk[first + root]! dk[first + (2 * root + 1)]! with
        | true =>
          rw [hv] at hl2
          have HL2 := Lib.hid hl2
          clear hl2
          have CS := Lib.hid (show ∀ w1, Below wr.heap.size wr w1 → w1.cell? ⟨W.heap.size, 1, none⟩ = some (.func (.func sf) #[] sb) ∧ (callFunc sf (#[.int .i64 ((first : Int) + root), .int .i64 ((first : Int) + (2 * (root : Int) + 1))] ++ sb)).run Try.prog w1 = .ok (.value (.tuple #[])) ((w1.setCells blk (off + (first + root) * k) (enc dk[first + (2 * root + 1)]!)).setCells blk (off + (first + (2 * root + 1)) * k) (enc dk[first + root]!)) from fun w1 hB =>
            ⟨(gb_cell (did_below HD.out hb1 hB).2 (by simp) hne).trans (by simp), by
              have hs := hswap w1 dk (did_below HD.out hb1 hB).1 hdk (first + root) (first + (2 * root + 1)) (by omega) (by omega)
              rwa [show (((first + root : Nat)) : Int) = (first : Int) + root by omega, show (((first + (2 * root + 1) : Nat)) : Int) = (first : Int) + (2 * (root : Int) + 1) by omega] at hs⟩)
          have ⟨c01, HL3⟩ := HL2.out wr (Below.refl _ _)
          have HL4 := Lib.hid HL3
          clear HL3
          go_wp2_with (go_at_fn g; refine HL4.out.mono ?_; rintro e w2 ⟨rfl, hB2⟩; have ⟨c1, hs⟩ := CS.out w2 hB2)
          go_roundw
          case rel => exact ⟨2 * root + 1, swp dk (first + root) (first + (2 * root + 1)), by go_num, by omega, by rw [size_swp]; exact hdk, did_swap hk (did_below HD.out hb1 hB2) (by omega) (by omega), (sift_go hc (lt := lt) (Or.inr ⟨rfl, fun q => h2 q.1⟩) hv).symm.trans HI.out⟩
          case measure => simp [intOf]; omega
        | false =>
          rw [hv] at hl2
          have HL2 := Lib.hid hl2
          clear hl2
          have ⟨c01, HL3⟩ := HL2.out wr (Below.refl _ _)
          have HL4 := Lib.hid HL3
          clear HL3
          go_wp2_with (go_at_fn g; refine HL4.out.mono ?_; rintro e w2 ⟨rfl, hB2⟩)
          refine bodyPost_ret (results_none rfl _ _ _) rfl ?_
          refine ⟨rfl, ?_⟩
          rw [← HI.out, sift_stop hc (lt := lt) (Or.inr ⟨rfl, fun q => h2 q.1⟩) hv]
          exact did_box (did_below HD.out hb1 hB2)
end
end Go.Proofs.Ytegedhnbmclbkaa.Pd
