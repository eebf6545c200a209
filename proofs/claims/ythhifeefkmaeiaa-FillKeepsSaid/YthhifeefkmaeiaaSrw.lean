/- The library's stable sort, walked: exchanging of ranges, rotation, the symmetric merge, insertion sort, the whole; a row of whole numbers, sorted by a key. Condition: the function that compares answers by the key of what lies in the row, and changes nothing that was there. -/
import Derived.Test.YthhifeefkmaeiaaProg
import Derived.Test.YthhifeefkmaeiaaStb
import Derived.Shelf.GgSortMore.Stable
import Derived.Deep.LoopGhost
import Derived.Lib.Hide
namespace Go.Proofs.Ythhifeefkmaeiaa.Srw
open Go.Shelf Go.RowKit Go.Lib Go.Sort Go.Proofs.Ythhifeefkmaeiaa.Stb
set_option linter.unusedVariables false
set_option linter.unusedSimpArgs false
abbrev enc : Int → Value := Value.int .i64
theorem gb_refl (w : World) (r : Option Nat) : w.grownBy w r := ⟨rfl, rfl, rfl, Nat.le_refl _, fun _ _ _ => rfl⟩
theorem gb_trans {a b c : World} {r : Option Nat} (h : a.grownBy b r) (k : b.grownBy c r) : a.grownBy c r :=
  ⟨k.os.trans h.os, k.tape.trans h.tape, k.output.trans h.output, Nat.le_trans h.size k.size, fun i hi hne => (k.block i (Nat.lt_of_lt_of_le hi h.size) hne).trans (h.block i hi hne)⟩
theorem gb_below {w w' : World} {r : Option Nat} (h : Below w.heap.size w w') : w.grownBy w' r := ⟨h.os, h.tape, h.output, h.size, fun k hk _ => h.block k hk⟩
theorem gb_set (w : World) (blk o : Nat) (u : Value) : w.grownBy (w.setCell ⟨blk, o, none⟩ u) (some blk) :=
  ⟨rfl, rfl, rfl, by simp [World.setCell], fun k _ hne => Below.heap_setCell _ _ _ _ (fun e => hne (by rw [e]))⟩
theorem gb_cell {w w' : World} {blk b o : Nat} (h : w.grownBy w' (some blk)) (hs : b < w.heap.size) (hb : b ≠ blk) : w'.cell? ⟨b, o, none⟩ = w.cell? ⟨b, o, none⟩ :=
  World.cell?_of_block (h.block b hs (fun e => hb (Option.some.inj e)))
theorem h_below {w w' : World} {blk off : Nat} {d : Array Int} (h : Holds enc w blk off d) (hb : blk < w.heap.size) (hB : Below w.heap.size w w') : Holds enc w' blk off d := fun j hj =>
  ⟨(hB.cell (p := ⟨blk, off + j, none⟩) hb).trans (h j hj).1, (hB.frozen (p := ⟨blk, off + j, none⟩) hb).trans (h j hj).2⟩
theorem h_swap {w : World} {blk off : Nat} {d : Array Int} (h : Holds enc w blk off d) {i j : Nat} (hi : i < d.size) (hj : j < d.size) :
    Holds enc ((w.setCell ⟨blk, off + i, none⟩ (enc d[j]!)).setCell ⟨blk, off + j, none⟩ (enc d[i]!)) blk off (swp d i j) := by
  have e := putRow_swp enc w blk off d i j hi hj
  rw [putRow_self enc w blk off d h] at e
  rw [e]
  exact holds_putRow enc w blk off d _ h (size_swp _ _ _)
/-- the row holds its own places' numbers alone -/
def Ok (n : Nat) (d : Array Int) : Prop := ∀ t : Nat, t < n → (0 : Int) ≤ d[t]! ∧ d[t]! < n
theorem ok_perm {n a b : Nat} {d d' : Array Int} (h : Ok n d) (hd : d.size = n) (hb : b ≤ n) (hP : PermIn a b d d') : Ok n d' := fun t ht => by
  by_cases c : a ≤ t ∧ t < b
  · exact permIn_all d d' a b (fun x => (0 : Int) ≤ x ∧ x < n) (by omega) hP (fun k _ k2 => h k (by omega)) t c.1 c.2
  · rw [hP.2.1 t (by omega)]; exact h t ht
theorem ok_swp {n i j : Nat} {d : Array Int} (h : Ok n d) (hd : d.size = n) (hi : i < n) (hj : j < n) : Ok n (swp d i j) := ok_perm h hd (Nat.le_refl n) (swp_permIn d 0 n i j (Nat.zero_le _) hi (Nat.zero_le _) hj (by omega))
/-- the function that compares, and the one that exchanges -/
def Less (g : Nat) (lb : Array Value) (key : Int → Int) (blk off n : Nat) (w0 : World) : Prop :=
  ∀ (W : World) (d : Array Int), w0.grownBy W (some blk) → Holds enc W blk off d → d.size = n → Ok n d → ∀ i j : Nat, i < n → j < n →
    Calls Try.prog g (#[.int .i64 i, .int .i64 j] ++ lb) W fun e w' => e = .returned (.bool (ltK key d[i]! d[j]!)) ∧ Below W.heap.size W w'
/-- what a call has done to the row: d has become d'; all else that was there stands -/
def Did (blk off : Nat) (d' : Array Int) (W w' : World) : Prop := Holds enc w' blk off d' ∧ W.grownBy w' (some blk)
abbrev dat (g sf : Nat) (lb sb : Array Value) : Value := .agg #[.func (.func g) #[] lb, .func (.func sf) #[] sb]
section
variable {g sf : Nat} {lb sb : Array Value} {key : Int → Int} {blk off n : Nat}
set_option maxHeartbeats 2000000 in
set_option maxRecDepth 100000 in
theorem swapRange (hswap : 2 ≤ n → SwapSwaps Try.prog sf sb enc blk off n) (hn : n < 4611686018427387904) (W : World) (d : Array Int) (hH : Holds enc W blk off d) (hd : d.size = n) (hblk : blk < W.heap.size) (a b c : Nat) (hab : a + c ≤ b) (hb : b + c ≤ n) :
    Calls Try.prog 52 #[dat g sf lb sb, .int .i64 a, .int .i64 b, .int .i64 c] W fun e w' => e = .returned (.tuple #[]) ∧ ∃ d', Did blk off d' W w' ∧ d'.size = n ∧ (∀ t, d'[t]! = swr (fun t => d[t]!) a b c t) ∧ ∀ lo hi, lo ≤ a → b + c ≤ hi → hi ≤ n → PermIn lo hi d d' := by
  have hW1 : Below W.heap.size W (W.alloc (.cells #[.func (.func g) #[] lb, .func (.func sf) #[] sb] 73)) := (Below.refl _ _).alloc (Nat.le_refl _) _
  have hH1 := h_below hH hblk hW1
  have hne : W.heap.size ≠ blk := by omega
  go_enter Try.func52, Try.ntmps52
  go_wp2
  go_loopw [8] (fun vi wr => ∃ (i : Nat) (dk : Array Int), vi = .int .i64 i ∧ i ≤ c ∧ dk.size = n ∧ Hid (Did blk off dk (W.alloc (.cells #[.func (.func g) #[] lb, .func (.func sf) #[] sb] 73)) wr) ∧ Hid (∀ t, dk[t]! = swr (fun t => d[t]!) a b i t) ∧ Hid (∀ lo hi, lo ≤ a → b + c ≤ hi → hi ≤ n → PermIn lo hi d dk)) (fun vi _ => c - (intOf vi).toNat)
  case atStart => exact ⟨0, d, by go_num, by omega, hd, ⟨hH1, gb_refl _ _⟩, fun t => (swr_zero _ _ _ _).symm, fun lo hi _ _ _ => permIn_refl _ _ _⟩
  case round =>
    obtain ⟨i, dk, rfl, hi, hdk, HD, HS, HP⟩ := hrel
    have c1 : wr.cell? ⟨W.heap.size, 1, none⟩ = some (.func (.func sf) #[] sb) := (gb_cell HD.out.2 (by simp) hne).trans (by simp)
    by_cases hic : i < c
    · have hs := hswap (by omega) wr dk HD.out.1 hdk (a + i) (b + i) (by omega) (by omega)
      rw [show ((a + i : Nat) : Int) = (a : Int) + i by omega, show ((b + i : Nat) : Int) = (b : Int) + i by omega] at hs
      go_wp2
      go_roundw
      case rel =>
        exact ⟨i + 1, swp dk (a + i) (b + i), by go_num, by omega, by rw [size_swp]; exact hdk, ⟨h_swap HD.out.1 (by omega) (by omega), gb_trans HD.out.2 (gb_trans (gb_set _ _ _ _) (gb_set _ _ _ _))⟩,
          swr_succ d dk a b i (by omega) (by omega) HS.out, fun lo hi h1 h2 h3 => permIn_trans _ _ _ _ _ (HP.out lo hi h1 h2 h3) (swp_permIn _ _ _ _ _ (by omega) (by omega) (by omega) (by omega) (by omega))⟩
      case measure => simp [intOf]; omega
    · go_wp2
      go_end0
      obtain rfl : i = c := by omega
      exact ⟨rfl, dk, ⟨HD.out.1, gb_trans (gb_below hW1) HD.out.2⟩, hdk, HS.out, HP.out⟩
theorem did_trans {W W1 W2 : World} {d1 d2 : Array Int} (h : Did blk off d1 W W1) (k : Did blk off d2 W1 W2) : Did blk off d2 W W2 := ⟨k.1, gb_trans h.2 k.2⟩
theorem did_lt {W W1 : World} {d1 : Array Int} (h : Did blk off d1 W W1) (hb : blk < W.heap.size) : blk < W1.heap.size := Nat.lt_of_lt_of_le hb h.2.size
theorem did_below {W W1 W2 : World} {d1 : Array Int} (h : Did blk off d1 W W1) (hb : blk < W.heap.size) (k : Below W1.heap.size W1 W2) : Did blk off d1 W W2 := ⟨h_below h.1 (did_lt h hb) k, gb_trans h.2 (gb_below k)⟩
theorem did_box {W W1 : World} {d1 : Array Int} {o : Obj} (h : Did blk off d1 (W.alloc o) W1) : Did blk off d1 W W1 := ⟨h.1, gb_trans (gb_below ((Below.refl _ _).alloc (Nat.le_refl _) _)) h.2⟩
set_option maxHeartbeats 2000000 in
set_option maxRecDepth 100000 in
theorem rotate (hswap : 2 ≤ n → SwapSwaps Try.prog sf sb enc blk off n) (hn : n < 4611686018427387904) (W : World) (d : Array Int) (hH : Holds enc W blk off d) (hd : d.size = n) (hblk : blk < W.heap.size) (a m b : Nat) (ham : a < m) (hmb : m < b) (hb : b ≤ n) :
    Calls Try.prog 51 #[dat g sf lb sb, .int .i64 a, .int .i64 m, .int .i64 b] W fun e w' => e = .returned (.tuple #[]) ∧ ∃ d', Did blk off d' W w' ∧ d'.size = n ∧ (∀ t, d'[t]! = rot (fun t => d[t]!) a m b t) ∧ PermIn a b d d' := by
  have hW1 : Below W.heap.size W (W.alloc (.cells #[.func (.func g) #[] lb, .func (.func sf) #[] sb] 73)) := (Below.refl _ _).alloc (Nat.le_refl _) _
  have hH1 := h_below hH hblk hW1
  have hb1 : blk < (W.alloc (.cells #[.func (.func g) #[] lb, .func (.func sf) #[] sb] 73)).heap.size := Nat.lt_of_lt_of_le hblk hW1.size
  have hne : W.heap.size ≠ blk := by omega
  go_enter Try.func51, Try.ntmps51
  go_wp2
  go_loopw [8, 9] (fun vi vj wr => ∃ (i j : Nat) (dk : Array Int), vi = .int .i64 i ∧ vj = .int .i64 j ∧ 0 < i ∧ 0 < j ∧ a + i ≤ m ∧ m + j ≤ b ∧ dk.size = n ∧ Hid (Did blk off dk (W.alloc (.cells #[.func (.func g) #[] lb, .func (.func sf) #[] sb] 73)) wr) ∧ Hid (∀ t, rot (fun t => dk[t]!) (m - i) m (m + j) t = rot (fun t => d[t]!) a m b t) ∧ Hid (PermIn a b d dk)) (fun vi vj _ => (intOf vi).toNat + (intOf vj).toNat)
  case atStart => exact ⟨m - a, b - m, d, by congr 1; omega, by congr 1; omega, by omega, by omega, by omega, by omega, hd, ⟨hH1, gb_refl _ _⟩, fun t => by rw [show m - (m - a) = a by omega, show m + (b - m) = b by omega], permIn_refl _ _ _⟩
  case round =>
    obtain ⟨i, j, dk, rfl, rfl, hi0, hj0, hi, hj, hdk, HD, HR, HP⟩ := hrel
    have c0 : wr.cell? ⟨W.heap.size, 0, none⟩ = some (.func (.func g) #[] lb) := (gb_cell HD.out.2 (by simp) hne).trans (by simp)
    have c1 : wr.cell? ⟨W.heap.size, 1, none⟩ = some (.func (.func sf) #[] sb) := (gb_cell HD.out.2 (by simp) hne).trans (by simp)
    rcases Nat.lt_trichotomy i j with hij | hij | hij
    · have hc := swapRange (g := g) (lb := lb) hswap hn wr dk HD.out.1 hdk (did_lt HD.out hb1) (m - i) (m + j - i) i (by omega) (by omega)
      rw [show ((m - i : Nat) : Int) = (m : Int) - i by omega, show ((m + j - i : Nat) : Int) = (m : Int) + j - i by omega] at hc
      have HC := Lib.hid hc
      clear hc
      go_wp2_with (go_at_call 52; refine HC.out.mono ?_; rintro e w' ⟨rfl, d', hD, hs', hw, hp⟩)
      go_roundw
      case rel =>
        exact ⟨i, j - i, d', rfl, by congr 1; omega, hi0, by omega, hi, by omega, hs', did_trans HD.out hD, fun t => by rw [← HR.out t, ← rot_right (fun t => dk[t]!) m i j t hij (by omega) hi0]; congr 1; funext u; exact hw u, permIn_trans _ _ _ _ _ HP.out (hp a b (by omega) (by omega) hb)⟩
      case measure => simp [intOf]; omega
    · subst hij
      have hc := swapRange (g := g) (lb := lb) hswap hn wr dk HD.out.1 hdk (did_lt HD.out hb1) (m - i) m i (by omega) (by omega)
      rw [show ((m - i : Nat) : Int) = (m : Int) - i by omega] at hc
      have HC := Lib.hid hc
      clear hc
      go_wp2_with (go_at_call 52; refine HC.out.mono ?_; rintro e w' ⟨rfl, d', hD, hs', hw, hp⟩)
      go_end0
      exact ⟨rfl, d', did_box (did_trans HD.out hD), hs', fun t => by rw [hw t, rot_last (fun t => dk[t]!) m i t (by omega), HR.out t], permIn_trans _ _ _ _ _ HP.out (hp a b (by omega) (by omega) hb)⟩
    · have hc := swapRange (g := g) (lb := lb) hswap hn wr dk HD.out.1 hdk (did_lt HD.out hb1) (m - i) m j (by omega) (by omega)
      rw [show ((m - i : Nat) : Int) = (m : Int) - i by omega] at hc
      have HC := Lib.hid hc
      clear hc
      go_wp2_with (go_at_call 52; refine HC.out.mono ?_; rintro e w' ⟨rfl, d', hD, hs', hw, hp⟩)
      go_roundw
      case rel =>
        exact ⟨i - j, j, d', by congr 1; omega, rfl, by omega, hj0, by omega, hj, hs', did_trans HD.out hD, fun t => by rw [← HR.out t, ← rot_left (fun t => dk[t]!) m i j t hij (by omega) hj0]; congr 1; funext u; exact hw u, permIn_trans _ _ _ _ _ HP.out (hp a b (by omega) (by omega) hb)⟩
      case measure => simp [intOf]; omega
theorem ins_go {key : Int → Int} {a j : Nat} {d : Array Int} (h : a < j) (hl : ltK key d[j]! d[j - 1]! = true) : insInner (ltK key) a j d = insInner (ltK key) a (j - 1) (swp d j (j - 1)) := by
  obtain ⟨j, rfl⟩ : ∃ k, j = k + 1 := ⟨j - 1, by omega⟩
  simp only [Nat.add_sub_cancel] at *
  rw [insInner]; simp [show a < j + 1 from h, hl]
theorem insOuter_next {key : Int → Int} {a b i : Nat} {d : Array Int} (h : i < b) : insOuter (ltK key) a b i d = insOuter (ltK key) a b (i + 1) (insInner (ltK key) a i d) := by
  conv => lhs; rw [insOuter, if_pos h]
theorem ins_stop {key : Int → Int} {a j : Nat} {d : Array Int} (h : j ≤ a ∨ ltK key d[j]! d[j - 1]! = false) : insInner (ltK key) a j d = d := by
  cases j with
  | zero => rfl
  | succ j => simp only [Nat.add_sub_cancel] at h; rw [insInner, if_neg]; simp; intro k; rcases h with h | h; (· omega); (· exact h)
set_option maxHeartbeats 2000000 in
set_option maxRecDepth 100000 in
theorem insertion {w0 : World} (hless : Less g lb key blk off n w0) (eg : ∀ args w, (callFunc g args).run Try.prog w = .ok (.enter g args) w) (hswap : 2 ≤ n → SwapSwaps Try.prog sf sb enc blk off n) (hn : n < 4611686018427387904) (W : World) (d : Array Int) (h0 : w0.grownBy W (some blk)) (hH : Holds enc W blk off d) (hd : d.size = n) (hok : Ok n d) (hblk : blk < W.heap.size) (a b : Nat) (hab : a ≤ b) (hb : b ≤ n) :
    Calls Try.prog 49 #[dat g sf lb sb, .int .i64 a, .int .i64 b] W fun e w' => e = .returned (.tuple #[]) ∧ Did blk off (insertionSort (ltK key) d a b) W w' := by
  have hW1 : Below W.heap.size W (W.alloc (.cells #[.func (.func g) #[] lb, .func (.func sf) #[] sb] 73)) := (Below.refl _ _).alloc (Nat.le_refl _) _
  have hH1 := h_below hH hblk hW1
  have hb1 : blk < (W.alloc (.cells #[.func (.func g) #[] lb, .func (.func sf) #[] sb] 73)).heap.size := Nat.lt_of_lt_of_le hblk hW1.size
  have H01 := Lib.hid (gb_trans h0 (gb_below hW1))
  have hne : W.heap.size ≠ blk := by omega
  have HOK : Hid (Ok n d) := hok
  clear hok
  go_enter Try.func49, Try.ntmps49
  go_wp2
  go_loopw [6] (fun vi wr => ∃ (i : Nat) (dk : Array Int), vi = .int .i64 i ∧ a < i ∧ i ≤ b + 1 ∧ dk.size = n ∧ Hid (Ok n dk) ∧ Hid (Did blk off dk (W.alloc (.cells #[.func (.func g) #[] lb, .func (.func sf) #[] sb] 73)) wr) ∧ Hid (insOuter (ltK key) a b i dk = insOuter (ltK key) a b (a + 1) d)) (fun vi _ => b + 1 - (intOf vi).toNat)
  case atStart => exact ⟨a + 1, d, by go_num, by omega, by omega, hd, HOK, ⟨hH1, gb_refl _ _⟩, rfl⟩
  case round =>
    obtain ⟨i, dk, rfl, hai, hib, hdk, HO, HD, HI⟩ := hrel
    by_cases hlt : i < b
    · go_wp2
      go_loopw [7] (fun vj w2 => ∃ (j : Nat) (dj : Array Int), vj = .int .i64 j ∧ a ≤ j ∧ j ≤ i ∧ dj.size = n ∧ Hid (Ok n dj) ∧ Hid (Did blk off dj (W.alloc (.cells #[.func (.func g) #[] lb, .func (.func sf) #[] sb] 73)) w2) ∧ Hid (insInner (ltK key) a j dj = insInner (ltK key) a i dk)) (fun vj _ => (intOf vj).toNat)
      case atStart => exact ⟨i, dk, rfl, by omega, Nat.le_refl _, hdk, HO, HD, rfl⟩
      case round =>
        obtain ⟨j, dj, rfl, haj, hji, hdj, HO2, HD2, HJ⟩ := hrel
        have c0 : wr.cell? ⟨W.heap.size, 0, none⟩ = some (.func (.func g) #[] lb) := (gb_cell HD2.out.2 (by simp) hne).trans (by simp)
        have out : ∀ w', (j ≤ a ∨ ltK key dj[j]! dj[j - 1]! = false) → Below wr.heap.size wr w' → ∃ (i' : Nat) (dk' : Array Int), Value.int .i64 ((i : Int) + 1) = .int .i64 (i' : Nat) ∧ a < i' ∧ i' ≤ b + 1 ∧ dk'.size = n ∧ Hid (Ok n dk') ∧ Hid (Did blk off dk' (W.alloc (.cells #[.func (.func g) #[] lb, .func (.func sf) #[] sb] 73)) w') ∧ Hid (insOuter (ltK key) a b i' dk' = insOuter (ltK key) a b (a + 1) d) := fun w' hs hB =>
          ⟨i + 1, dj, by go_num, by omega, by omega, hdj, HO2, did_below HD2.out hb1 hB, by show insOuter _ _ _ _ _ = _; rw [← HI.out, insOuter_next hlt, ← HJ.out, ins_stop hs]⟩
        have OUT := Lib.hid out
        clear out
        by_cases hja : a < j
        · have hl := hless wr dj (gb_trans H01.out HD2.out.2) HD2.out.1 hdj HO2.out j (j - 1) (by omega) (by omega)
          rw [show (((j - 1 : Nat) : Int)) = (j : Int) - 1 by omega] at hl
          cases hlv : ltK key dj[j]! dj[j - 1]! with
          | true =>
            rw [hlv] at hl
            have HL := Lib.hid hl
            clear hl
            have CS := Lib.hid (show ∀ w1, Below wr.heap.size wr w1 → w1.cell? ⟨W.heap.size, 1, none⟩ = some (.func (.func sf) #[] sb) ∧ (callFunc sf (#[.int .i64 j, .int .i64 ((j : Int) - 1)] ++ sb)).run Try.prog w1 = .ok (.value (.tuple #[])) ((w1.setCell ⟨blk, off + j, none⟩ (enc dj[j - 1]!)).setCell ⟨blk, off + (j - 1), none⟩ (enc dj[j]!)) from fun w1 hB =>
              ⟨(gb_cell (did_below HD2.out hb1 hB).2 (by simp) hne).trans (by simp), by
                have hs := hswap (by omega) w1 dj (did_below HD2.out hb1 hB).1 hdj j (j - 1) (by omega) (by omega)
                rwa [show (((j - 1 : Nat) : Int)) = (j : Int) - 1 by omega] at hs⟩)
            go_wp2_with (go_at_fn g; refine HL.out.mono ?_; rintro e w1 ⟨rfl, hB⟩; have ⟨c1, hs⟩ := CS.out w1 hB)
            go_roundw
            case rel =>
              exact ⟨j - 1, swp dj j (j - 1), by congr 1; omega, by omega, by omega, by rw [size_swp]; exact hdj, ok_swp HO2.out hdj (by omega) (by omega), ⟨h_swap (did_below HD2.out hb1 hB).1 (by omega) (by omega), gb_trans (did_below HD2.out hb1 hB).2 (gb_trans (gb_set _ _ _ _) (gb_set _ _ _ _))⟩, (ins_go hja hlv).symm.trans HJ.out⟩
            case measure => simp [intOf]; omega
          | false =>
            rw [hlv] at hl
            have HL := Lib.hid hl
            clear hl
            go_wp2_with (go_at_fn g; refine HL.out.mono ?_; rintro e w1 ⟨rfl, hB⟩)
            go_roundw
            case rel => exact OUT.out _ (Or.inr hlv) hB
            case measure => simp [intOf]; omega
        · go_wp2
          go_roundw
          case rel => exact OUT.out _ (Or.inl (by omega)) (Below.refl _ _)
          case measure => simp [intOf]; omega
    · go_wp2
      go_end0
      refine ⟨rfl, ?_⟩
      have e : insertionSort (ltK key) d a b = dk := by unfold insertionSort; rw [← HI.out, insOuter, if_neg hlt]
      rw [e]; exact did_box HD.out
end
end Go.Proofs.Ythhifeefkmaeiaa.Srw
