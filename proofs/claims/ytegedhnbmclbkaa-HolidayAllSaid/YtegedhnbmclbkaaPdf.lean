/- The library's unstable sort, walked, a row of elements of k cells; the function that compares may make memory. Here: the choice of a pivot: comparisons that are counted. Condition: the function that compares answers by an order of what lies in the row, and changes nothing that was there. -/
import Derived.Test.YtegedhnbmclbkaaPda
namespace Go.Proofs.Ytegedhnbmclbkaa.Pd
open Go.Shelf Go.RowKit Go.Lib Go.Sort
set_option linter.unusedVariables false
set_option linter.unusedSimpArgs false
section
variable {α : Type} [Inhabited α] {enc : α → List Value} {k : Nat} {g sf : Nat} {lb sb : Array Value} {lt : α → α → Bool} {blk off n : Nat}
/-- the counter, in a block of its own, holds s -/
def Cn (W : World) (cb s : Nat) : Prop := W.cell? ⟨cb, 0, none⟩ = some (.int .i64 s) ∧ W.frozen? ⟨cb, 0, none⟩ = false
theorem Cn.below {W w' : World} {cb s : Nat} (h : Cn W cb s) (hB : Below W.heap.size W w') : Cn w' cb s :=
  have hl := World.block_lt_of_cell? _ _ h.1
  ⟨(hB.cell hl).trans h.1, (hB.frozen (p := ⟨cb, 0, none⟩) hl).trans h.2⟩
theorem Cn.set {W : World} {cb s t : Nat} (h : Cn W cb s) : Cn (W.setCell ⟨cb, 0, none⟩ (.int .i64 t)) cb t := by
  refine ⟨?_, ?_⟩
  · have h1 := h.1
    unfold World.cell? at h1 ⊢
    simp only [World.setCell, Array.getElem?_modify, if_true]
    revert h1
    cases hq : W.heap[cb]? with
    | none => intro h1; simp at h1
    | some o => cases o <;> intro h1 <;> simp_all <;> exact Array.getElem?_setIfInBounds_self_of_lt (Array.getElem?_eq_some_iff.1 h1).1
  · have h2 := h.2
    unfold World.frozen? at h2 ⊢
    simp only [World.setCell, Array.getElem?_modify, if_true]
    revert h2
    cases hq : W.heap[cb]? with
    | none => intro h2; simp
    | some o => cases o <;> intro h2 <;> simp_all
theorem gb_cnt (W : World) (cb : Nat) (u : Value) : W.grownBy (W.setCell ⟨cb, 0, none⟩ u) (some cb) := ⟨rfl, rfl, rfl, by simp [World.setCell], fun k _ hne => Below.heap_setCell _ _ _ _ (fun e => hne (by rw [e]))⟩
theorem h_cnt {W : World} {d : Array α} {cb : Nat} (hne : blk ≠ cb) (h : HoldsK enc k W blk off d) (u : Value) : HoldsK enc k (W.setCell ⟨cb, 0, none⟩ u) blk off d := fun j hj =>
  have e : (W.setCell ⟨cb, 0, none⟩ u).heap[blk]? = W.heap[blk]? := Below.heap_setCell _ _ _ _ hne
  ⟨(World.cell?_of_block e).trans (h j hj).1, by rw [← (h j hj).2]; unfold World.frozen?; simp only [e]⟩
set_option maxHeartbeats 2000000 in
set_option maxRecDepth 100000 in
theorem order2 {w0 : World} (hless : Less g lb enc k lt blk off n w0) (eg : ∀ args w, (callFunc g args).run Try.prog w = .ok (.enter g args) w) (hn : n < 4611686018427387904) (W : World) (d : Array α) (h0 : w0.grownBy W (some blk)) (hH : HoldsK enc k W blk off d) (hd : d.size = n) (hblk : blk < W.heap.size) (a b cb s : Nat) (ha : a < n) (hb : b < n) (hcb : w0.heap.size ≤ cb) (hcn : cb ≠ blk) (hs : s < 1000) (hC : Cn W cb s) :
    Calls Try.prog 75 #[dat g sf lb sb, .int .i64 a, .int .i64 b, .pointer (some ⟨cb, 0, none⟩)] W fun e w' => e = .returned (.tuple #[.int .i64 (Sort.order2 lt d a b s).1, .int .i64 (Sort.order2 lt d a b s).2.1]) ∧ HoldsK enc k w' blk off d ∧ Cn w' cb (Sort.order2 lt d a b s).2.2 ∧ W.grownBy w' (some cb) := by
  have hW1 : Below W.heap.size W (W.alloc (.cells #[.func (.func g) #[] lb, .func (.func sf) #[] sb] 76)) := (Below.refl _ _).alloc (Nat.le_refl _) _
  have hH1 := h_below hH hblk hW1
  have hb1 : blk < (W.alloc (.cells #[.func (.func g) #[] lb, .func (.func sf) #[] sb] 76)).heap.size := Nat.lt_of_lt_of_le hblk hW1.size
  have H01 := Lib.hid (gb_trans h0 (gb_below hW1))
  have hne : W.heap.size ≠ blk := by omega
  have hl := hless _ d H01.out hH1 hd b a hb ha
  have hC1 := hC.below hW1
  have HCC := Lib.hid (And.intro hC1 (And.intro hH1 hW1))
  clear hC hC1 hH hH1
  cases hv : lt d[b]! d[a]! with
  | true =>
    rw [hv] at hl
    have HL := Lib.hid hl
    clear hl
    go_enter Try.func75, Try.ntmps75
    go_wp2_with (go_at_fn g; refine HL.out.mono ?_; rintro e w1 ⟨rfl, hB⟩; have z1 := (HCC.out.1.below hB).1; have z2 := (HCC.out.1.below hB).2)
    go_ret2
    have e : Sort.order2 lt d a b s = (b, a, s + 1) := by unfold Sort.order2; rw [if_pos hv]
    rw [e]
    exact ⟨rfl, h_cnt (Ne.symm hcn) (h_below HCC.out.2.1 hb1 hB) _, (HCC.out.1.below hB).set, gb_trans (gb_below (HCC.out.2.2.trans (hB.mono HCC.out.2.2.size))) (gb_cnt _ _ _)⟩
  | false =>
    rw [hv] at hl
    have HL := Lib.hid hl
    clear hl
    go_enter Try.func75, Try.ntmps75
    go_wp2_with (go_at_fn g; refine HL.out.mono ?_; rintro e w1 ⟨rfl, hB⟩)
    go_ret2
    have e : Sort.order2 lt d a b s = (a, b, s) := by unfold Sort.order2; rw [if_neg (by simp [hv])]
    rw [e]
    exact ⟨rfl, h_below HCC.out.2.1 hb1 hB, HCC.out.1.below hB, gb_below (HCC.out.2.2.trans (hB.mono HCC.out.2.2.size))⟩
end
end Go.Proofs.Ytegedhnbmclbkaa.Pd
