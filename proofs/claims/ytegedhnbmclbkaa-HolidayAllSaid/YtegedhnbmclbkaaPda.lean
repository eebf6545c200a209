/- The library's unstable sort, walked, a row of elements of k cells; the function that compares may make memory. Here: rows, what a call has done to them, sifting down and the heap. Condition: the function that compares answers by an order of what lies in the row, and changes nothing that was there. -/
import Derived.Test.YtegedhnbmclbkaaProg
import Derived.Shelf.GgSortFunc.InsertionK
import Derived.Sort.LotA
import Derived.Sort.LotB
import Derived.Deep.LoopGhost
import Derived.Deep.DeepCutAuto
import Derived.Lib.Hide
namespace Go.Proofs.Ytegedhnbmclbkaa.Pd
open Go.Shelf Go.RowKit Go.Lib Go.Sort
set_option linter.unusedVariables false
set_option linter.unusedSimpArgs false
theorem gb_refl (w : World) (r : Option Nat) : w.grownBy w r := ⟨rfl, rfl, rfl, Nat.le_refl _, fun _ _ _ => rfl⟩
theorem gb_trans {a b c : World} {r : Option Nat} (h : a.grownBy b r) (k : b.grownBy c r) : a.grownBy c r :=
  ⟨k.os.trans h.os, k.tape.trans h.tape, k.output.trans h.output, Nat.le_trans h.size k.size, fun i hi hne => (k.block i (Nat.lt_of_lt_of_le hi h.size) hne).trans (h.block i hi hne)⟩
theorem gb_below {w w' : World} {r : Option Nat} (h : Below w.heap.size w w') : w.grownBy w' r := ⟨h.os, h.tape, h.output, h.size, fun k hk _ => h.block k hk⟩
theorem gb_cells (w : World) (blk : Nat) : ∀ (vs : List Value) (o : Nat), w.grownBy (w.setCells blk o vs) (some blk)
  | [], _ => gb_refl _ _
  | v :: r, o => by
    have h1 : w.grownBy (w.setCell ⟨blk, o, none⟩ v) (some blk) := ⟨rfl, rfl, rfl, by simp [World.setCell], fun k _ hne => Below.heap_setCell _ _ _ _ (fun e => hne (by rw [e]))⟩
    exact gb_trans h1 (gb_cells _ blk r (o + 1))
theorem gb_cell {w w' : World} {blk b o : Nat} (h : w.grownBy w' (some blk)) (hs : b < w.heap.size) (hb : b ≠ blk) : w'.cell? ⟨b, o, none⟩ = w.cell? ⟨b, o, none⟩ :=
  World.cell?_of_block (h.block b hs (fun e => hb (Option.some.inj e)))
section
variable {α : Type} [Inhabited α] {enc : α → List Value} {k : Nat} {g sf : Nat} {lb sb : Array Value} {lt : α → α → Bool} {blk off n : Nat}
theorem h_below {w w' : World} {d : Array α} (h : HoldsK enc k w blk off d) (hb : blk < w.heap.size) (hB : Below w.heap.size w w') : HoldsK enc k w' blk off d := fun j hj =>
  ⟨(hB.cell (p := ⟨blk, off + j, none⟩) hb).trans (h j hj).1, (hB.frozen (p := ⟨blk, off + j, none⟩) hb).trans (h j hj).2⟩
theorem h_swap (hk : ∀ x, (enc x).length = k) {w : World} {d : Array α} (h : HoldsK enc k w blk off d) {i j : Nat} (hi : i < d.size) (hj : j < d.size) :
    HoldsK enc k ((w.setCells blk (off + i * k) (enc d[j]!)).setCells blk (off + j * k) (enc d[i]!)) blk off (swp d i j) := by
  have e := swap_worldK enc k hk w 0 0 blk off d i j hi hj
  have z : putRowK enc k (Sort.ahead w 0) blk off d = w := putRowK_self enc k w blk off d h
  have z2 : (w.drewN 0) = w := rfl
  rw [z] at e
  have e2 : (w.setCells blk (off + i * k) (enc d[j]!)).setCells blk (off + j * k) (enc d[i]!) = putRowK enc k w blk off (swp d i j) := e
  rw [e2]
  exact holdsK_putRowK enc k w blk off d _ h (size_swp _ _ _)
/-- the function that compares -/
def Less (g : Nat) (lb : Array Value) (enc : α → List Value) (k : Nat) (lt : α → α → Bool) (blk off n : Nat) (w0 : World) : Prop :=
  ∀ (W : World) (d : Array α), w0.grownBy W (some blk) → HoldsK enc k W blk off d → d.size = n → ∀ i j : Nat, i < n → j < n →
    Calls Try.prog g (#[.int .i64 i, .int .i64 j] ++ lb) W fun e w' => e = .returned (.bool (lt d[i]! d[j]!)) ∧ Below W.heap.size W w'
/-- the block's kind and length stand -/
def Sh (b : Nat) (w w' : World) : Prop := ∀ cs t fr, w.heap[b]? = some (.cells cs t fr) → ∃ cs', w'.heap[b]? = some (.cells cs' t fr) ∧ cs'.size = cs.size
theorem sh_refl (b : Nat) (w : World) : Sh b w w := fun cs _ _ h => ⟨cs, h, rfl⟩
theorem sh_trans {b : Nat} {u v w : World} (h : Sh b u v) (q : Sh b v w) : Sh b u w := fun cs t fr hc => by
  obtain ⟨c1, h1, e1⟩ := h cs t fr hc
  obtain ⟨c2, h2, e2⟩ := q c1 t fr h1
  exact ⟨c2, h2, e2.trans e1⟩
theorem sh_below {b : Nat} {w w' : World} (h : Below w.heap.size w w') : Sh b w w' := fun cs t fr hc => ⟨cs, (h.block b (Array.getElem?_eq_some_iff.1 hc).1).trans hc, rfl⟩
theorem sh_cell (b : Nat) (w : World) (a : Addr) (u : Value) : Sh b w (w.setCell a u) := fun cs t fr hc => by
  by_cases e : a.block = b
  · subst e
    simp only [World.setCell, Array.getElem?_modify, if_true, hc, Option.map_some]
    exact ⟨_, rfl, by split <;> simp⟩
  · exact ⟨cs, (Below.heap_setCell _ _ _ _ (fun q => e q.symm)).trans hc, rfl⟩
theorem sh_cells (b : Nat) (w : World) (blk : Nat) : ∀ (vs : List Value) (o : Nat), Sh b w (w.setCells blk o vs)
  | [], _ => sh_refl _ _
  | v :: r, o => sh_trans (sh_cell b w ⟨blk, o, none⟩ v) (sh_cells b _ blk r (o + 1))
/-- what a call has done to the row: d has become d'; all else that was there stands -/
structure Did (enc : α → List Value) (k blk off : Nat) (d' : Array α) (W w' : World) : Prop where
  holds : HoldsK enc k w' blk off d'
  grown : W.grownBy w' (some blk)
  shape : Sh blk W w'
theorem did_trans {W W1 W2 : World} {d1 d2 : Array α} (h : Did enc k blk off d1 W W1) (q : Did enc k blk off d2 W1 W2) : Did enc k blk off d2 W W2 := ⟨q.1, gb_trans h.2 q.2, sh_trans h.3 q.3⟩
theorem did_lt {W W1 : World} {d1 : Array α} (h : Did enc k blk off d1 W W1) (hb : blk < W.heap.size) : blk < W1.heap.size := Nat.lt_of_lt_of_le hb h.2.size
theorem did_below {W W1 W2 : World} {d1 : Array α} (h : Did enc k blk off d1 W W1) (hb : blk < W.heap.size) (q : Below W1.heap.size W1 W2) : Did enc k blk off d1 W W2 := ⟨h_below h.1 (did_lt h hb) q, gb_trans h.2 (gb_below q), sh_trans h.3 (sh_below q)⟩
theorem did_box {W W1 : World} {d1 : Array α} {o : Obj} (h : Did enc k blk off d1 (W.alloc o) W1) : Did enc k blk off d1 W W1 := ⟨h.1, gb_trans (gb_below ((Below.refl _ _).alloc (Nat.le_refl _) _)) h.2, sh_trans (sh_below ((Below.refl _ _).alloc (Nat.le_refl _) _)) h.3⟩
theorem did_swap (hk : ∀ x, (enc x).length = k) {W W1 : World} {d : Array α} (h : Did enc k blk off d W W1) {i j : Nat} (hi : i < d.size) (hj : j < d.size) : Did enc k blk off (swp d i j) W ((W1.setCells blk (off + i * k) (enc d[j]!)).setCells blk (off + j * k) (enc d[i]!)) :=
  ⟨h_swap hk h.1 hi hj, gb_trans h.2 (gb_trans (gb_cells _ _ _ _) (gb_cells _ _ _ _)), sh_trans h.3 (sh_trans (sh_cells _ _ _ _ _) (sh_cells _ _ _ _ _))⟩
abbrev dat (g sf : Nat) (lb sb : Array Value) : Value := .agg #[.func (.func g) #[] lb, .func (.func sf) #[] sb]
theorem ins_go {a j : Nat} {d : Array α} (h : a < j) (hl : lt d[j]! d[j - 1]! = true) : insInner lt a j d = insInner lt a (j - 1) (swp d j (j - 1)) := by
  obtain ⟨j, rfl⟩ : ∃ k, j = k + 1 := ⟨j - 1, by omega⟩
  simp only [Nat.add_sub_cancel] at *
  rw [insInner]; simp [show a < j + 1 from h, hl]
theorem insOuter_next {a b i : Nat} {d : Array α} (h : i < b) : insOuter lt a b i d = insOuter lt a b (i + 1) (insInner lt a i d) := by
  conv => lhs; rw [insOuter, if_pos h]
theorem ins_stop {a j : Nat} {d : Array α} (h : j ≤ a ∨ lt d[j]! d[j - 1]! = false) : insInner lt a j d = d := by
  cases j with
  | zero => rfl
  | succ j => simp only [Nat.add_sub_cancel] at h; rw [insInner, if_neg]; simp; intro k; rcases h with h | h; (· omega); (· exact h)
set_option maxHeartbeats 2000000 in
set_option maxRecDepth 100000 in
theorem insertion (hk : ∀ x, (enc x).length = k) {w0 : World} (hless : Less g lb enc k lt blk off n w0) (eg : ∀ args w, (callFunc g args).run Try.prog w = .ok (.enter g args) w) (hswap : SwapSwapsK Try.prog sf sb enc k blk off n) (hn : n < 4611686018427387904) (W : World) (d : Array α) (h0 : w0.grownBy W (some blk)) (hH : HoldsK enc k W blk off d) (hd : d.size = n) (hblk : blk < W.heap.size) (a b : Nat) (hab : a ≤ b) (hb : b ≤ n) :
    Calls Try.prog 61 #[dat g sf lb sb, .int .i64 a, .int .i64 b] W fun e w' => e = .returned (.tuple #[]) ∧ Did enc k blk off (insertionSort lt d a b) W w' := by
  have hW1 : Below W.heap.size W (W.alloc (.cells #[.func (.func g) #[] lb, .func (.func sf) #[] sb] 76)) := (Below.refl _ _).alloc (Nat.le_refl _) _
  have hH1 := h_below hH hblk hW1
  have hb1 : blk < (W.alloc (.cells #[.func (.func g) #[] lb, .func (.func sf) #[] sb] 76)).heap.size := Nat.lt_of_lt_of_le hblk hW1.size
  have H01 := Lib.hid (gb_trans h0 (gb_below hW1))
  have hne : W.heap.size ≠ blk := by omega
  go_enter Try.func61, Try.ntmps61
  go_wp2
  go_loopw [6] (fun vi wr => ∃ (i : Nat) (dk : Array α), vi = .int .i64 i ∧ a < i ∧ i ≤ b + 1 ∧ dk.size = n ∧ Hid (Did enc k blk off dk (W.alloc (.cells #[.func (.func g) #[] lb, .func (.func sf) #[] sb] 76)) wr) ∧ Hid (insOuter lt a b i dk = insOuter lt a b (a + 1) d)) (fun vi _ => b + 1 - (intOf vi).toNat)
  case atStart => exact ⟨a + 1, d, by go_num, by omega, by omega, hd, ⟨hH1, gb_refl _ _, sh_refl _ _⟩, rfl⟩
  case round =>
    obtain ⟨i, dk, rfl, hai, hib, hdk, HD, HI⟩ := hrel
    by_cases hlt : i < b
    · go_wp2
      go_loopw [7] (fun vj w2 => ∃ (j : Nat) (dj : Array α), vj = .int .i64 j ∧ a ≤ j ∧ j ≤ i ∧ dj.size = n ∧ Hid (Did enc k blk off dj (W.alloc (.cells #[.func (.func g) #[] lb, .func (.func sf) #[] sb] 76)) w2) ∧ Hid (insInner lt a j dj = insInner lt a i dk)) (fun vj _ => (intOf vj).toNat)
      case atStart => exact ⟨i, dk, rfl, by omega, Nat.le_refl _, hdk, HD, rfl⟩
      case round =>
        obtain ⟨j, dj, rfl, haj, hji, hdj, HD2, HJ⟩ := hrel
        have c0 : wr.cell? ⟨W.heap.size, 0, none⟩ = some (.func (.func g) #[] lb) := (gb_cell HD2.out.2 (by simp) hne).trans (by simp)
        have out : ∀ w', (j ≤ a ∨ lt dj[j]! dj[j - 1]! = false) → Below wr.heap.size wr w' → ∃ (i' : Nat) (dk' : Array α), Value.int .i64 ((i : Int) + 1) = .int .i64 (i' : Nat) ∧ a < i' ∧ i' ≤ b + 1 ∧ dk'.size = n ∧ Hid (Did enc k blk off dk' (W.alloc (.cells #[.func (.func g) #[] lb, .func (.func sf) #[] sb] 76)) w') ∧ Hid (insOuter lt a b i' dk' = insOuter lt a b (a + 1) d) := fun w' hs hB =>
          ⟨i + 1, dj, by go_num, by omega, by omega, hdj, did_below HD2.out hb1 hB, by show insOuter _ _ _ _ _ = _; rw [← HI.out, insOuter_next hlt, ← HJ.out, ins_stop hs]⟩
        have OUT := Lib.hid out
        clear out
        by_cases hja : a < j
        · have hl := hless wr dj (gb_trans H01.out HD2.out.2) HD2.out.1 hdj j (j - 1) (by omega) (by omega)
          rw [show (((j - 1 : Nat) : Int)) = (j : Int) - 1 by omega] at hl
          cases hlv : lt dj[j]! dj[j - 1]! with
          | true =>
            rw [hlv] at hl
            have HL := Lib.hid hl
            clear hl
            have CS := Lib.hid (show ∀ w1, Below wr.heap.size wr w1 → w1.cell? ⟨W.heap.size, 1, none⟩ = some (.func (.func sf) #[] sb) ∧ (callFunc sf (#[.int .i64 j, .int .i64 ((j : Int) - 1)] ++ sb)).run Try.prog w1 = .ok (.value (.tuple #[])) ((w1.setCells blk (off + j * k) (enc dj[j - 1]!)).setCells blk (off + (j - 1) * k) (enc dj[j]!)) from fun w1 hB =>
              ⟨(gb_cell (did_below HD2.out hb1 hB).2 (by simp) hne).trans (by simp), by
                have hs := hswap w1 dj (did_below HD2.out hb1 hB).1 hdj j (j - 1) (by omega) (by omega)
                rwa [show (((j - 1 : Nat) : Int)) = (j : Int) - 1 by omega] at hs⟩)
            go_wp2_with (go_at_fn g; refine HL.out.mono ?_; rintro e w1 ⟨rfl, hB⟩; have ⟨c1, hs⟩ := CS.out w1 hB)
            go_roundw
            case rel =>
              exact ⟨j - 1, swp dj j (j - 1), by congr 1; omega, by omega, by omega, by rw [size_swp]; exact hdj, did_swap hk (did_below HD2.out hb1 hB) (by omega) (by omega), (ins_go hja hlv).symm.trans HJ.out⟩
            case measure => simp [intOf]; omega
          | false =>
            rw [hlv] at hl
            have HL := Lib.hid hl
            clear hl
            go_wp2_with (go_at_fn g; refine HL.out.mono ?_; rintro e w1 ⟨rfl, hB⟩)
            go_roundw
            case rel => exact OUT.out _ (Or.inr hlv) hB
            case measure => simp [intOf]; omega
        · go_wp2
          go_roundw
          case rel => exact OUT.out _ (Or.inl (by omega)) (Below.refl _ _)
          case measure => simp [intOf]; omega
    · go_wp2
      go_end0
      refine ⟨rfl, ?_⟩
      have e : insertionSort lt d a b = dk := by unfold insertionSort; rw [← HI.out, insOuter, if_neg hlt]
      rw [e]; exact did_box HD.out
end
end Go.Proofs.Ytegedhnbmclbkaa.Pd
