/- The library's unstable sort, walked, a row of elements of k cells; the function that compares may make memory. Here: the median of three places. Condition: the function that compares answers by an order of what lies in the row, and changes nothing that was there. -/
import Derived.Test.YtegedhnbmclbkaaPdf
namespace Go.Proofs.Ytegedhnbmclbkaa.Pd
open Go.Shelf Go.RowKit Go.Lib Go.Sort
set_option linter.unusedVariables false
set_option linter.unusedSimpArgs false
section
variable {α : Type} [Inhabited α] {enc : α → List Value} {k : Nat} {g sf : Nat} {lb sb : Array Value} {lt : α → α → Bool} {blk off n : Nat}
theorem order2_in {d : Array α} {a b s : Nat} (ha : a < n) (hb : b < n) : (Sort.order2 lt d a b s).1 < n ∧ (Sort.order2 lt d a b s).2.1 < n ∧ s ≤ (Sort.order2 lt d a b s).2.2 ∧ (Sort.order2 lt d a b s).2.2 ≤ s + 1 := by
  unfold Sort.order2
  split
  · exact ⟨hb, ha, by simp, by simp⟩
  · exact ⟨ha, hb, by simp, by simp⟩
/-- a world that the counter's owner has reached is one the comparing function may be called in -/
theorem gb_new {w0 W w' : World} {cb : Nat} (h : w0.grownBy W (some blk)) (hcb : w0.heap.size ≤ cb) (q : W.grownBy w' (some cb)) : w0.grownBy w' (some blk) :=
  ⟨q.os.trans h.os, q.tape.trans h.tape, q.output.trans h.output, Nat.le_trans h.size q.size, fun i hi hne => (q.block i (Nat.lt_of_lt_of_le hi h.size) (fun e => by have := Option.some.inj e; omega)).trans (h.block i hi hne)⟩
set_option maxHeartbeats 2000000 in
set_option maxRecDepth 100000 in
theorem median {w0 : World} (hless : Less g lb enc k lt blk off n w0) (eg : ∀ args w, (callFunc g args).run Try.prog w = .ok (.enter g args) w) (hn : n < 4611686018427387904) (W : World) (d : Array α) (h0 : w0.grownBy W (some blk)) (hH : HoldsK enc k W blk off d) (hd : d.size = n) (hblk : blk < W.heap.size) (a b c cb s : Nat) (ha : a < n) (hb : b < n) (hc : c < n) (hcb : w0.heap.size ≤ cb) (hcn : cb ≠ blk) (hcl : cb < W.heap.size) (hs : s < 900) (hC : Cn W cb s) :
    Calls Try.prog 74 #[dat g sf lb sb, .int .i64 a, .int .i64 b, .int .i64 c, .pointer (some ⟨cb, 0, none⟩)] W fun e w' => e = .returned (.int .i64 (Sort.median lt d a b c s).1) ∧ HoldsK enc k w' blk off d ∧ Cn w' cb (Sort.median lt d a b c s).2 ∧ W.grownBy w' (some cb) := by
  have hW1 : Below W.heap.size W (W.alloc (.cells #[.func (.func g) #[] lb, .func (.func sf) #[] sb] 76)) := (Below.refl _ _).alloc (Nat.le_refl _) _
  have hH1 := h_below hH hblk hW1
  have hb1 : blk < (W.alloc (.cells #[.func (.func g) #[] lb, .func (.func sf) #[] sb] 76)).heap.size := Nat.lt_of_lt_of_le hblk hW1.size
  have H01 := Lib.hid (gb_trans h0 (gb_below hW1))
  have hne : W.heap.size ≠ blk := by omega
  have HO := Lib.hid (fun W h0 hH hblk a b s ha hb hs hC => order2 (sf := sf) (sb := sb) hless eg hn W d h0 hH hd hblk a b cb s ha hb hcb hcn hs hC)
  have X1 := Lib.hid (HO.out _ H01.out hH1 hb1 a b s ha hb (by omega) (hC.below hW1))
  have hbx : W.heap.size ≠ cb := by omega
  obtain ⟨a1, b1, s1, e1⟩ : ∃ a1 b1 s1, Sort.order2 lt d a b s = (a1, b1, s1) := ⟨_, _, _, rfl⟩
  obtain ⟨b2, c2, s2, e2⟩ : ∃ b2 c2 s2, Sort.order2 lt d b1 c s1 = (b2, c2, s2) := ⟨_, _, _, rfl⟩
  obtain ⟨a3, b3, s3, e3⟩ : ∃ a3 b3 s3, Sort.order2 lt d a1 b2 s2 = (a3, b3, s3) := ⟨_, _, _, rfl⟩
  have i1 := order2_in (lt := lt) (d := d) (s := s) ha hb
  rw [e1] at i1
  have i2 := order2_in (lt := lt) (d := d) (s := s1) i1.2.1 hc
  rw [e2] at i2
  have i3 := order2_in (lt := lt) (d := d) (s := s2) i1.1 i2.1
  rw [e3] at i3
  simp only at i1 i2 i3
  have em : Sort.median lt d a b c s = (b3, s3) := by unfold Sort.median; simp only [e1, e2, e3]
  rw [em]
  have Y1 := Lib.hid (And.intro i1 (And.intro i2 i3))
  have E1 := Lib.hid e1
  have E2 := Lib.hid e2
  have E3 := Lib.hid e3
  have HHD := Lib.hid hd
  clear i1 i2 i3 e1 e2 e3 em hC hH hH1
  have bx : ∀ w1, (W.alloc (.cells #[.func (.func g) #[] lb, .func (.func sf) #[] sb] 76)).grownBy w1 (some cb) → w1.cell? ⟨W.heap.size, 0, none⟩ = some (.func (.func g) #[] lb) ∧ w1.cell? ⟨W.heap.size, 1, none⟩ = some (.func (.func sf) #[] sb) := fun w1 h => ⟨(gb_cell h (by simp) hbx).trans (by simp), (gb_cell h (by simp) hbx).trans (by simp)⟩
  have BX := Lib.hid bx
  clear bx
  go_enter Try.func74, Try.ntmps74
  go_wp2_with (go_at_call 75; first
    | (with_reducible refine X3.out.mono ?_; rintro e w4 ⟨rfl, hH4, hC4, hg4⟩; rw [E3.out] at hC4; simp only [E3.out])
    | (with_reducible refine X2.out.mono ?_; rintro e w3 ⟨rfl, hH3, hC3, hg3⟩; rw [E2.out] at hC3; simp only [E2.out]; have G3 := Lib.hid (gb_trans G2.out hg3); have ⟨z3, z4⟩ := BX.out w3 G3.out; have X3 := Lib.hid (HO.out w3 (gb_new H01.out hcb G3.out) hH3 (Nat.lt_of_lt_of_le hb1 G3.out.size) a1 b2 s2 Y1.out.1.1 Y1.out.2.1.1 (by have := Y1.out; omega) hC3))
    | (with_reducible refine X1.out.mono ?_; rintro e w2 ⟨rfl, hH2, hC2, hg2⟩; rw [E1.out] at hC2; simp only [E1.out]; have G2 := Lib.hid hg2; have ⟨z1, z2⟩ := BX.out w2 hg2; have X2 := Lib.hid (HO.out w2 (gb_new H01.out hcb hg2) hH2 (Nat.lt_of_lt_of_le hb1 hg2.size) b1 c s1 Y1.out.1.2.1 hc (by have := Y1.out; omega) hC2)))
  go_ret
  exact ⟨rfl, hH4, hC4, gb_trans (gb_below hW1) (gb_trans G3.out hg4)⟩
set_option maxHeartbeats 2000000 in
set_option maxRecDepth 100000 in
theorem medianAdjacent {w0 : World} (hless : Less g lb enc k lt blk off n w0) (eg : ∀ args w, (callFunc g args).run Try.prog w = .ok (.enter g args) w) (hn : n < 4611686018427387904) (W : World) (d : Array α) (h0 : w0.grownBy W (some blk)) (hH : HoldsK enc k W blk off d) (hd : d.size = n) (hblk : blk < W.heap.size) (a cb s : Nat) (ha0 : 1 ≤ a) (ha : a + 1 < n) (hcb : w0.heap.size ≤ cb) (hcn : cb ≠ blk) (hcl : cb < W.heap.size) (hs : s < 900) (hC : Cn W cb s) :
    Calls Try.prog 73 #[dat g sf lb sb, .int .i64 a, .pointer (some ⟨cb, 0, none⟩)] W fun e w' => e = .returned (.int .i64 (Sort.medianAdjacent lt d a s).1) ∧ HoldsK enc k w' blk off d ∧ Cn w' cb (Sort.medianAdjacent lt d a s).2 ∧ W.grownBy w' (some cb) := by
  have hW1 : Below W.heap.size W (W.alloc (.cells #[.func (.func g) #[] lb, .func (.func sf) #[] sb] 76)) := (Below.refl _ _).alloc (Nat.le_refl _) _
  have hH1 := h_below hH hblk hW1
  have hb1 : blk < (W.alloc (.cells #[.func (.func g) #[] lb, .func (.func sf) #[] sb] 76)).heap.size := Nat.lt_of_lt_of_le hblk hW1.size
  have H01 := Lib.hid (gb_trans h0 (gb_below hW1))
  have hne : W.heap.size ≠ blk := by omega
  have X1 := median (sf := sf) (sb := sb) hless eg hn _ d H01.out hH1 hd hb1 (a - 1) a (a + 1) cb s (by omega) (by omega) ha hcb hcn (Nat.lt_of_lt_of_le hcl hW1.size) hs (hC.below hW1)
  rw [show (((a - 1 : Nat)) : Int) = (a : Int) - 1 by omega, show (((a + 1 : Nat)) : Int) = (a : Int) + 1 by omega] at X1
  have HX := Lib.hid X1
  have HW := Lib.hid hW1
  clear X1 hC hH hH1
  go_enter Try.func73, Try.ntmps73
  go_wp2_with (go_at_call 74; refine HX.out.mono ?_; rintro e w2 ⟨rfl, hH2, hC2, hg2⟩)
  go_ret
  exact ⟨rfl, hH2, hC2, gb_trans (gb_below HW.out) hg2⟩
end
end Go.Proofs.Ytegedhnbmclbkaa.Pd
