/- The library's stable sort, walked: the symmetric merge; a row of whole numbers, sorted by a key. Condition: the function that compares answers by the key of what lies in the row, and changes nothing that was there. -/
import Derived.Test.YthhifeefkmaeiaaSrw
import Derived.Test.YthhifeefkmaeiaaStb
import Derived.Shelf.GgSortMore.Stable
import Derived.Deep.LoopGhost
import Derived.Lib.Hide
import Derived.Outline
namespace Go.Proofs.Ythhifeefkmaeiaa.Srw
open Go.Shelf Go.RowKit Go.Lib Go.Sort Go.Proofs.Ythhifeefkmaeiaa.Stb
set_option linter.unusedVariables false
set_option linter.unusedSimpArgs false
section
variable {g sf : Nat} {lb sb : Array Value} {key : Int → Int} {blk off n : Nat}
set_option maxHeartbeats 2000000 in
set_option maxRecDepth 100000 in
theorem symA {w0 : World} (hless : Less g lb key blk off n w0) (eg : ∀ args w, (callFunc g args).run Try.prog w = .ok (.enter g args) w) (hswap : 2 ≤ n → SwapSwaps Try.prog sf sb enc blk off n) (hn : n < 4611686018427387904) (W : World) (d : Array Int) (h0 : w0.grownBy W (some blk)) (hH : Holds enc W blk off d) (hd : d.size = n) (hok : Ok n d) (hblk : blk < W.heap.size) (a m b : Nat) (hm1 : a + 1 ≤ m) (hm2 : m ≤ a + 1) (hmb : m < b) (hb : b ≤ n)
    (hS : SortedIn (ltT key) m b d) (hA : Apart a m b d) :
    Calls Try.prog 50 #[dat g sf lb sb, .int .i64 a, .int .i64 m, .int .i64 b] W fun e w' => e = .returned (.tuple #[]) ∧ ∃ d', Did blk off d' W w' ∧ d'.size = n ∧ PermIn a b d d' ∧ SortedIn (ltT key) a b d' := by
  have hW1 : Below W.heap.size W (W.alloc (.cells #[.func (.func g) #[] lb, .func (.func sf) #[] sb] 73)) := (Below.refl _ _).alloc (Nat.le_refl _) _
  have hH1 := h_below hH hblk hW1
  have hb1 : blk < (W.alloc (.cells #[.func (.func g) #[] lb, .func (.func sf) #[] sb] 73)).heap.size := Nat.lt_of_lt_of_le hblk hW1.size
  have H01 := Lib.hid (gb_trans h0 (gb_below hW1))
  have hne : W.heap.size ≠ blk := by omega
  have hm0 : ((m : Int) - a == 1) = true := by simp; omega
  have HOK : Hid (Ok n d) := hok
  clear hok
  have HS := Lib.hid hS
  have HA := Lib.hid hA
  clear hS hA
  go_enter Try.func50, Try.ntmps50
  go_wp2
  go_loopw [8, 9] (fun vi vj wr => ∃ (i j : Nat), vi = .int .i64 i ∧ vj = .int .i64 j ∧ m ≤ i ∧ i ≤ j ∧ j ≤ b ∧ Hid (Did blk off d (W.alloc (.cells #[.func (.func g) #[] lb, .func (.func sf) #[] sb] 73)) wr) ∧ Hid (∀ t, m ≤ t → t < i → ltK key d[t]! d[a]! = true) ∧ Hid (∀ t, j ≤ t → t < b → ltK key d[t]! d[a]! = false)) (fun vi vj _ => (intOf vj).toNat - (intOf vi).toNat)
  case atStart => exact ⟨m, b, rfl, rfl, by omega, by omega, by omega, ⟨hH1, gb_refl _ _⟩, fun t h1 h2 => by omega, fun t h1 h2 => by omega⟩
  case round =>
    obtain ⟨i, j, rfl, rfl, hi, hij, hj, HD, HU, HN⟩ := hrel
    have c0 : wr.cell? ⟨W.heap.size, 0, none⟩ = some (.func (.func g) #[] lb) := (gb_cell HD.out.2 (by simp) hne).trans (by simp)
    by_cases hlt : i < j
    · have hl := hless wr d (gb_trans H01.out HD.out.2) HD.out.1 hd HOK.out ((i + j) / 2) a (by omega) (by omega)
      rw [show (((i + j) / 2 : Nat) : Int) = ((i : Int) + j) / 2 by omega] at hl
      cases hlv : ltK key d[(i + j) / 2]! d[a]! with
      | true =>
        rw [hlv] at hl
        have HL := Lib.hid hl
        clear hl
        go_wp2_with (go_at_fn g; refine HL.out.mono ?_; rintro e w1 ⟨rfl, hB⟩)
        go_roundw
        case rel => exact ⟨(i + j) / 2 + 1, j, by first | rfl | (congr 1; omega), rfl, by omega, by omega, hj, did_below HD.out hb1 hB, one_up HS.out HA.out (by omega) (by omega) hlv, HN⟩
        case measure => simp [intOf]; omega
      | false =>
        rw [hlv] at hl
        have HL := Lib.hid hl
        clear hl
        go_wp2_with (go_at_fn g; refine HL.out.mono ?_; rintro e w1 ⟨rfl, hB⟩)
        go_roundw
        case rel => exact ⟨i, (i + j) / 2, rfl, by first | rfl | (congr 1; omega), hi, by omega, by omega, did_below HD.out hb1 hB, HU, one_dn HS.out HA.out (by omega) (by omega) (by omega) hlv⟩
        case measure => simp [intOf]; omega
    · obtain rfl : i = j := by omega
      have HD1 := HD
      clear HD hij hlt c0
      go_wp2
      go_loopw [11] (fun vk w2 => ∃ (k : Nat) (dk : Array Int), vk = .int .i64 k ∧ a ≤ k ∧ k + 1 ≤ i ∧ dk.size = n ∧ Hid (Did blk off dk (W.alloc (.cells #[.func (.func g) #[] lb, .func (.func sf) #[] sb] 73)) w2) ∧ Hid (∀ t, dk[t]! = mvu (fun t => d[t]!) a k t) ∧ Hid (PermIn a b d dk)) (fun vk _ => i - (intOf vk).toNat)
      case atStart => exact ⟨a, d, rfl, Nat.le_refl _, by omega, hd, HD1, fun t => (mvu_zero _ _ _).symm, permIn_refl _ _ _⟩
      case round =>
        obtain ⟨k, dk, rfl, hak, hki, hdk, HD, HM, HP⟩ := hrel
        have c1 : wr.cell? ⟨W.heap.size, 1, none⟩ = some (.func (.func sf) #[] sb) := (gb_cell HD.out.2 (by simp) hne).trans (by simp)
        by_cases hk : k + 1 < i
        · have hk' : (k : Int) < (i : Int) - 1 := by omega
          have hs := hswap (by omega) wr dk HD.out.1 hdk k (k + 1) (by omega) (by omega)
          rw [show ((k + 1 : Nat) : Int) = (k : Int) + 1 by omega] at hs
          go_wp2
          go_roundw
          case rel => exact ⟨k + 1, swp dk k (k + 1), by go_num, by omega, by omega, by rw [size_swp]; exact hdk, ⟨h_swap HD.out.1 (by omega) (by omega), gb_trans HD.out.2 (gb_trans (gb_set _ _ _ _) (gb_set _ _ _ _))⟩, mvu_succ d dk a k hak (by omega) HM.out, permIn_trans _ _ _ _ _ HP.out (swp_permIn _ _ _ _ _ (by omega) (by omega) (by omega) (by omega) (by omega))⟩
          case measure => simp [intOf]; omega
        · have hk' : ¬ (k : Int) < (i : Int) - 1 := by omega
          go_wp2
          refine bodyPost_ret (results_none rfl _ _ _) rfl ?_
          obtain rfl : k = i - 1 := by omega
          exact ⟨rfl, dk, did_box HD.out, hdk, HP.out, one_done (by rw [show a + 1 = m by omega]; exact HS.out) (by rw [show a + 1 = m by omega]; exact HA.out) (by omega) hj (by rw [show a + 1 = m by omega]; exact HU.out) HN.out HM.out⟩
set_option maxHeartbeats 2000000 in
set_option maxRecDepth 100000 in
theorem symB {w0 : World} (hless : Less g lb key blk off n w0) (eg : ∀ args w, (callFunc g args).run Try.prog w = .ok (.enter g args) w) (hswap : 2 ≤ n → SwapSwaps Try.prog sf sb enc blk off n) (hn : n < 4611686018427387904) (W : World) (d : Array Int) (h0 : w0.grownBy W (some blk)) (hH : Holds enc W blk off d) (hd : d.size = n) (hok : Ok n d) (hblk : blk < W.heap.size) (a m b : Nat) (ham : a + 1 < m) (hm1 : m + 1 ≤ b) (hm2 : b ≤ m + 1) (hb : b ≤ n)
    (hS : SortedIn (ltT key) a m d) (hA : Apart a m b d) :
    Calls Try.prog 50 #[dat g sf lb sb, .int .i64 a, .int .i64 m, .int .i64 b] W fun e w' => e = .returned (.tuple #[]) ∧ ∃ d', Did blk off d' W w' ∧ d'.size = n ∧ PermIn a b d d' ∧ SortedIn (ltT key) a b d' := by
  have hW1 : Below W.heap.size W (W.alloc (.cells #[.func (.func g) #[] lb, .func (.func sf) #[] sb] 73)) := (Below.refl _ _).alloc (Nat.le_refl _) _
  have hH1 := h_below hH hblk hW1
  have hb1 : blk < (W.alloc (.cells #[.func (.func g) #[] lb, .func (.func sf) #[] sb] 73)).heap.size := Nat.lt_of_lt_of_le hblk hW1.size
  have H01 := Lib.hid (gb_trans h0 (gb_below hW1))
  have hne : W.heap.size ≠ blk := by omega
  have hm0 : ((m : Int) - a == 1) = false := by simp; omega
  have hm3 : ((b : Int) - m == 1) = true := by simp; omega
  have HOK : Hid (Ok n d) := hok
  clear hok
  have HS := Lib.hid hS
  have HA := Lib.hid hA
  clear hS hA
  go_enter Try.func50, Try.ntmps50
  go_wp2
  go_loopw [12, 13] (fun vi vj wr => ∃ (i j : Nat), vi = .int .i64 i ∧ vj = .int .i64 j ∧ a ≤ i ∧ i ≤ j ∧ j ≤ m ∧ Hid (Did blk off d (W.alloc (.cells #[.func (.func g) #[] lb, .func (.func sf) #[] sb] 73)) wr) ∧ Hid (∀ t, a ≤ t → t < i → ltK key d[m]! d[t]! = false) ∧ Hid (∀ t, j ≤ t → t < m → ltK key d[m]! d[t]! = true)) (fun vi vj _ => (intOf vj).toNat - (intOf vi).toNat)
  case atStart => exact ⟨a, m, rfl, rfl, by omega, by omega, by omega, ⟨hH1, gb_refl _ _⟩, fun t h1 h2 => by omega, fun t h1 h2 => by omega⟩
  case round =>
    obtain ⟨i, j, rfl, rfl, hi, hij, hj, HD, HU, HN⟩ := hrel
    have c0 : wr.cell? ⟨W.heap.size, 0, none⟩ = some (.func (.func g) #[] lb) := (gb_cell HD.out.2 (by simp) hne).trans (by simp)
    by_cases hlt : i < j
    · have hl := hless wr d (gb_trans H01.out HD.out.2) HD.out.1 hd HOK.out m ((i + j) / 2) (by omega) (by omega)
      rw [show (((i + j) / 2 : Nat) : Int) = ((i : Int) + j) / 2 by omega] at hl
      cases hlv : ltK key d[m]! d[(i + j) / 2]! with
      | false =>
        rw [hlv] at hl
        have HL := Lib.hid hl
        clear hl
        go_wp2_with (go_at_fn g; refine HL.out.mono ?_; rintro e w1 ⟨rfl, hB⟩)
        go_roundw
        case rel => exact ⟨(i + j) / 2 + 1, j, by first | rfl | (congr 1; omega), rfl, by omega, by omega, hj, did_below HD.out hb1 hB, last_dn HS.out HA.out (by omega) (by omega) (by omega) hlv, HN⟩
        case measure => simp [intOf]; omega
      | true =>
        rw [hlv] at hl
        have HL := Lib.hid hl
        clear hl
        go_wp2_with (go_at_fn g; refine HL.out.mono ?_; rintro e w1 ⟨rfl, hB⟩)
        go_roundw
        case rel => exact ⟨i, (i + j) / 2, rfl, by first | rfl | (congr 1; omega), hi, by omega, by omega, did_below HD.out hb1 hB, HU, last_up HS.out HA.out (by omega) (by omega) (by omega) hlv⟩
        case measure => simp [intOf]; omega
    · obtain rfl : i = j := by omega
      have HD1 := HD
      clear HD hij hlt c0
      go_wp2
      go_loopw [15] (fun vk w2 => ∃ (k : Nat) (dk : Array Int), vk = .int .i64 k ∧ i ≤ k ∧ k ≤ m ∧ dk.size = n ∧ Hid (Did blk off dk (W.alloc (.cells #[.func (.func g) #[] lb, .func (.func sf) #[] sb] 73)) w2) ∧ Hid (∀ t, dk[t]! = mvd (fun t => d[t]!) m k t) ∧ Hid (PermIn a b d dk)) (fun vk _ => (intOf vk).toNat)
      case atStart => exact ⟨m, d, rfl, by omega, Nat.le_refl _, hd, HD1, fun t => (mvd_zero _ _ _).symm, permIn_refl _ _ _⟩
      case round =>
        obtain ⟨k, dk, rfl, hik, hkm, hdk, HD, HM, HP⟩ := hrel
        have c1 : wr.cell? ⟨W.heap.size, 1, none⟩ = some (.func (.func sf) #[] sb) := (gb_cell HD.out.2 (by simp) hne).trans (by simp)
        by_cases hk : i < k
        · have hs := hswap (by omega) wr dk HD.out.1 hdk k (k - 1) (by omega) (by omega)
          rw [show ((k - 1 : Nat) : Int) = (k : Int) - 1 by omega] at hs
          go_wp2
          go_roundw
          case rel =>
            obtain ⟨k, rfl⟩ : ∃ q, k = q + 1 := ⟨k - 1, by omega⟩
            exact ⟨k, swp dk (k + 1) k, by congr 1; omega, by omega, by omega, by rw [size_swp]; exact hdk, ⟨h_swap HD.out.1 (by omega) (by omega), gb_trans HD.out.2 (gb_trans (gb_set _ _ _ _) (gb_set _ _ _ _))⟩, mvd_succ d dk m k hkm (by omega) HM.out, permIn_trans _ _ _ _ _ HP.out (swp_permIn _ _ _ _ _ (by omega) (by omega) (by omega) (by omega) (by omega))⟩
          case measure => simp [intOf]; omega
        · go_wp2
          refine bodyPost_ret (results_none rfl _ _ _) rfl ?_
          obtain rfl : k = i := by omega
          obtain rfl : b = m + 1 := by omega
          exact ⟨rfl, dk, did_box HD.out, hdk, HP.out, last_done HS.out HA.out hi hkm HU.out HN.out HM.out⟩
end
end Go.Proofs.Ythhifeefkmaeiaa.Srw
