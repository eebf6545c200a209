/- The library's unstable sort, walked, a row of elements of k cells; the function that compares may make memory. Here: the choice of a pivot, whole. Condition: the function that compares answers by an order of what lies in the row, and changes nothing that was there. -/
import Derived.Test.YtegedhnbmclbkaaPdg
import Derived.Sort.Walk11
namespace Go.Proofs.Ytegedhnbmclbkaa.Pd
open Go.Shelf Go.RowKit Go.Lib Go.Sort
set_option linter.unusedVariables false
set_option linter.unusedSimpArgs false
section
variable {α : Type} [Inhabited α] {enc : α → List Value} {k : Nat} {g sf : Nat} {lb sb : Array Value} {lt : α → α → Bool} {blk off n : Nat}
set_option maxHeartbeats 2000000 in
set_option maxRecDepth 100000 in
theorem choosePivot {w0 : World} (hless : Less g lb enc k lt blk off n w0) (eg : ∀ args w, (callFunc g args).run Try.prog w = .ok (.enter g args) w) (hn : n < 4611686018427387904) (W : World) (d : Array α) (h0 : w0.grownBy W (some blk)) (hH : HoldsK enc k W blk off d) (hd : d.size = n) (hblk : blk < W.heap.size) (a b : Nat) (hab : a < b) (hb : b ≤ n) :
    Calls Try.prog 64 #[dat g sf lb sb, .int .i64 a, .int .i64 b] W fun e w' => e = .returned (.tuple #[.int .i64 (Sort.choosePivot lt d a b).1, .int .i64 (hintCode (Sort.choosePivot lt d a b).2)]) ∧ Below W.heap.size W w' := by
  have hW1 : Below W.heap.size W (W.alloc (.cells #[.func (.func g) #[] lb, .func (.func sf) #[] sb] 76)) := (Below.refl _ _).alloc (Nat.le_refl _) _
  have hH1 := h_below hH hblk hW1
  have hb1 : blk < (W.alloc (.cells #[.func (.func g) #[] lb, .func (.func sf) #[] sb] 76)).heap.size := Nat.lt_of_lt_of_le hblk hW1.size
  have H01 := Lib.hid (gb_trans h0 (gb_below hW1))
  have hne : W.heap.size ≠ blk := by omega
  have hW2 : Below W.heap.size W ((W.alloc (.cells #[.func (.func g) #[] lb, .func (.func sf) #[] sb] 76)).alloc (.cells #[.int .i64 0] 3)) := hW1.alloc (Nat.le_of_lt (by simp)) _
  have hH2 := h_below hH hblk hW2
  have hb2 : blk < ((W.alloc (.cells #[.func (.func g) #[] lb, .func (.func sf) #[] sb] 76)).alloc (.cells #[.int .i64 0] 3)).heap.size := Nat.lt_of_lt_of_le hblk hW2.size
  have H02 := Lib.hid (gb_trans h0 (gb_below hW2))
  have hcn : W.heap.size + 1 ≠ blk := by omega
  have hcb : w0.heap.size ≤ W.heap.size + 1 := Nat.le_succ_of_le h0.size
  have hcl : W.heap.size + 1 < ((W.alloc (.cells #[.func (.func g) #[] lb, .func (.func sf) #[] sb] 76)).alloc (.cells #[.int .i64 0] 3)).heap.size := by simp
  have hC0 : Cn ((W.alloc (.cells #[.func (.func g) #[] lb, .func (.func sf) #[] sb] 76)).alloc (.cells #[.int .i64 0] 3)) (W.heap.size + 1) 0 := ⟨by simp, by simp⟩
  have hbx : W.heap.size ≠ W.heap.size + 1 := by omega
  have bx : ∀ w1, ((W.alloc (.cells #[.func (.func g) #[] lb, .func (.func sf) #[] sb] 76)).alloc (.cells #[.int .i64 0] 3)).grownBy w1 (some (W.heap.size + 1)) → w1.cell? ⟨W.heap.size, 0, none⟩ = some (.func (.func g) #[] lb) ∧ w1.cell? ⟨W.heap.size, 1, none⟩ = some (.func (.func sf) #[] sb) := fun w1 h => ⟨(gb_cell h (by simp; omega) hbx).trans (by rw [World.cell?_alloc_past _ _ _ (by simp)]; simp), (gb_cell h (by simp; omega) hbx).trans (by rw [World.cell?_alloc_past _ _ _ (by simp)]; simp)⟩
  have fin : ∀ w1, ((W.alloc (.cells #[.func (.func g) #[] lb, .func (.func sf) #[] sb] 76)).alloc (.cells #[.int .i64 0] 3)).grownBy w1 (some (W.heap.size + 1)) → Below W.heap.size W w1 := fun w1 h => hW2.grown h hW2.size (fun q hq => by have := Option.some.inj hq; omega)
  have ma : ∀ w1 x s i s', ((W.alloc (.cells #[.func (.func g) #[] lb, .func (.func sf) #[] sb] 76)).alloc (.cells #[.int .i64 0] 3)).grownBy w1 (some (W.heap.size + 1)) → HoldsK enc k w1 blk off d → Cn w1 (W.heap.size + 1) s → 1 ≤ x → x + 1 < n → s < 900 → Sort.medianAdjacent lt d x s = (i, s') → Calls Try.prog 73 #[dat g sf lb sb, .int .i64 (x : Nat), .pointer (some ⟨W.heap.size + 1, 0, none⟩)] w1 fun e w' => e = .returned (.int .i64 (i : Nat)) ∧ HoldsK enc k w' blk off d ∧ Cn w' (W.heap.size + 1) s' ∧ ((W.alloc (.cells #[.func (.func g) #[] lb, .func (.func sf) #[] sb] 76)).alloc (.cells #[.int .i64 0] 3)).grownBy w' (some (W.heap.size + 1)) := fun w1 x s i s' hg hh hc hx1 hx2 hs he =>
    (medianAdjacent (sf := sf) (sb := sb) hless eg hn w1 d (gb_new H02.out hcb hg) hh hd (Nat.lt_of_lt_of_le hb2 hg.size) x _ s hx1 hx2 hcb hcn (Nat.lt_of_lt_of_le hcl hg.size) hs hc).mono fun e w' ⟨q1, q2, q3, q4⟩ => ⟨by rw [q1, he], q2, by rw [he] at q3; exact q3, gb_trans hg q4⟩
  have md : ∀ w1 x y z s i s', ((W.alloc (.cells #[.func (.func g) #[] lb, .func (.func sf) #[] sb] 76)).alloc (.cells #[.int .i64 0] 3)).grownBy w1 (some (W.heap.size + 1)) → HoldsK enc k w1 blk off d → Cn w1 (W.heap.size + 1) s → x < n → y < n → z < n → s < 900 → Sort.median lt d x y z s = (i, s') → Calls Try.prog 74 #[dat g sf lb sb, .int .i64 (x : Nat), .int .i64 (y : Nat), .int .i64 (z : Nat), .pointer (some ⟨W.heap.size + 1, 0, none⟩)] w1 fun e w' => e = .returned (.int .i64 (i : Nat)) ∧ HoldsK enc k w' blk off d ∧ Cn w' (W.heap.size + 1) s' ∧ ((W.alloc (.cells #[.func (.func g) #[] lb, .func (.func sf) #[] sb] 76)).alloc (.cells #[.int .i64 0] 3)).grownBy w' (some (W.heap.size + 1)) := fun w1 x y z s i s' hg hh hc hx hy hz hs he =>
    (median (sf := sf) (sb := sb) hless eg hn w1 d (gb_new H02.out hcb hg) hh hd (Nat.lt_of_lt_of_le hb2 hg.size) x y z _ s hx hy hz hcb hcn (Nat.lt_of_lt_of_le hcl hg.size) hs hc).mono fun e w' ⟨q1, q2, q3, q4⟩ => ⟨by rw [q1, he], q2, by rw [he] at q3; exact q3, gb_trans hg q4⟩
  have MA := Lib.hid ma
  have MD := Lib.hid md
  have BX := Lib.hid bx
  have FIN := Lib.hid fin
  have HH2 := Lib.hid hH2
  have HC0 := Lib.hid hC0
  clear ma md bx fin hH2 hC0 hless hH hH1 hW1 hW2 hcl hcb hcn h0
  rw [choosePivot_eq]
  obtain ⟨I, hI⟩ : ∃ I : Nat, I = a + (b - a) / 4 * 1 := ⟨_, rfl⟩
  obtain ⟨J, hJ⟩ : ∃ J : Nat, J = a + (b - a) / 4 * 2 := ⟨_, rfl⟩
  obtain ⟨K, hK⟩ : ∃ K : Nat, K = a + (b - a) / 4 * 3 := ⟨_, rfl⟩
  have eI : ((a : Int) + ((b : Int) - (a : Int)) / 4) = (I : Int) := by omega
  have eJ : ((a : Int) + ((b : Int) - (a : Int)) / 4 * 2) = (J : Int) := by omega
  have eK : ((a : Int) + ((b : Int) - (a : Int)) / 4 * 3) = (K : Int) := by omega
  by_cases h8 : b - a ≥ 8
  · by_cases h50 : b - a ≥ 50
    · obtain ⟨i1, s1, h1⟩ : ∃ i1 s1, Sort.medianAdjacent lt d I 0 = (i1, s1) := ⟨_, _, rfl⟩
      obtain ⟨j1, s2, h2⟩ : ∃ j1 s2, Sort.medianAdjacent lt d J s1 = (j1, s2) := ⟨_, _, rfl⟩
      obtain ⟨k1, s3, h3⟩ : ∃ k1 s3, Sort.medianAdjacent lt d K s2 = (k1, s3) := ⟨_, _, rfl⟩
      obtain ⟨p, s, h4⟩ : ∃ p s, Sort.median lt d i1 j1 k1 s3 = (p, s) := ⟨_, _, rfl⟩
      have hraw : rawPivot lt d a b = (p, s) := by simp only [rawPivot, if_pos h8, if_pos h50, ← hI, ← hJ, ← hK, h1, h2, h3, h4]
      have m1 := medianAdjacent_mem lt d I 0; rw [h1] at m1
      have m2 := medianAdjacent_mem lt d J s1; rw [h2] at m2
      have m3 := medianAdjacent_mem lt d K s2; rw [h3] at m3
      have n1 := medianAdjacent_count lt d I 0; rw [h1] at n1
      have n2 := medianAdjacent_count lt d J s1; rw [h2] at n2
      have n3 := medianAdjacent_count lt d K s2; rw [h3] at n3
      simp only [] at m1 m2 m3 n1 n2 n3
      have X1 := Lib.hid (MA.out _ I 0 i1 s1 (gb_refl _ _) HH2.out HC0.out (by omega) (by omega) (by omega) h1)
      have x2 : ∀ w1, ((W.alloc (.cells #[.func (.func g) #[] lb, .func (.func sf) #[] sb] 76)).alloc (.cells #[.int .i64 0] 3)).grownBy w1 (some (W.heap.size + 1)) → HoldsK enc k w1 blk off d → Cn w1 (W.heap.size + 1) s1 → _ := fun w1 q1 q2 q3 => MA.out w1 J s1 j1 s2 q1 q2 q3 (by omega) (by omega) (by omega) h2
      have x3 : ∀ w1, ((W.alloc (.cells #[.func (.func g) #[] lb, .func (.func sf) #[] sb] 76)).alloc (.cells #[.int .i64 0] 3)).grownBy w1 (some (W.heap.size + 1)) → HoldsK enc k w1 blk off d → Cn w1 (W.heap.size + 1) s2 → _ := fun w1 q1 q2 q3 => MA.out w1 K s2 k1 s3 q1 q2 q3 (by omega) (by omega) (by omega) h3
      have x4 : ∀ w1, ((W.alloc (.cells #[.func (.func g) #[] lb, .func (.func sf) #[] sb] 76)).alloc (.cells #[.int .i64 0] 3)).grownBy w1 (some (W.heap.size + 1)) → HoldsK enc k w1 blk off d → Cn w1 (W.heap.size + 1) s3 → _ := fun w1 q1 q2 q3 => MD.out w1 i1 j1 k1 s3 p s q1 q2 q3 (by omega) (by omega) (by omega) (by omega) h4
      have Y2 := Lib.hid x2
      have Y3 := Lib.hid x3
      have Y4 := Lib.hid x4
      have ⟨y0, y1⟩ := BX.out _ (gb_refl _ _)
      have yc := HC0.out.1
      rw [hraw]
      obtain ⟨Hc, hHc⟩ : ∃ Hc : Int, Hc = hintCode (hintOf s) := ⟨_, rfl⟩
      have hh0 : s = 0 → Hc = 1 := fun h => by rw [hHc, h]; rfl
      have hh12 : s = 12 → Hc = 2 := fun h => by rw [hHc, h]; rfl
      have hhx : s ≠ 0 → s ≠ 12 → Hc = 0 := fun h1 h2 => by rw [hHc]; unfold hintOf; rw [if_neg h1, if_neg h2]; rfl
      show Calls Try.prog _ _ W fun e w' => e = .returned (.tuple #[.int .i64 (p : Int), .int .i64 (hintCode (hintOf s))]) ∧ Below W.heap.size W w'
      rw [← hHc]
      clear hHc hraw
      clear h1 h2 h3 h4 hI hJ hK m1 m2 m3 n1 n2 n3 x2 x3 x4
      go_enter Try.func64, Try.ntmps64
      go_wp2_with (first
        | (go_at_call 74; (with_reducible refine X4.out.mono ?_); rintro e w6 ⟨rfl, hH6, hC6, hg6⟩; have z6 := hC6.1)
        | (go_at_call 73; first
          | ((with_reducible refine X3.out.mono ?_); rintro e w5 ⟨rfl, hH5, hC5, hg5⟩; have ⟨u5, v5⟩ := BX.out _ hg5; have X4 := Lib.hid (Y4.out w5 hg5 hH5 hC5))
          | ((with_reducible refine X2.out.mono ?_); rintro e w4 ⟨rfl, hH4, hC4, hg4⟩; have ⟨u4, v4⟩ := BX.out _ hg4; have X3 := Lib.hid (Y3.out w4 hg4 hH4 hC4))
          | ((with_reducible refine X1.out.mono ?_); rintro e w3 ⟨rfl, hH3, hC3, hg3⟩; have ⟨u3, v3⟩ := BX.out _ hg3; have X2 := Lib.hid (Y2.out w3 hg3 hH3 hC3))))
      all_goals
        go_ret2
        refine ⟨?_, FIN.out _ hg6⟩
        first
          | (have e0 : (s : Int) = 0 := of_beq_int (by assumption)
             rw [hh0 (by omega)]; rfl)
          | (have e1 : (s : Int) = 12 := of_beq_int (by assumption)
             rw [hh12 (by omega)]; rfl)
          | (have e0 : (s : Int) ≠ 0 := of_bne_int (by assumption)
             have e1 : (s : Int) ≠ 12 := of_bne_int (by assumption)
             rw [hhx (by omega) (by omega)]; rfl)
          | (rw [hh0 (by omega)]; rfl)
    · obtain ⟨p, s, h4⟩ : ∃ p s, Sort.median lt d I J K 0 = (p, s) := ⟨_, _, rfl⟩
      have hraw : rawPivot lt d a b = (p, s) := by simp only [rawPivot, if_pos h8, if_neg h50, ← hI, ← hJ, ← hK, h4]
      have X4 := Lib.hid (MD.out _ I J K 0 p s (gb_refl _ _) HH2.out HC0.out (by omega) (by omega) (by omega) (by omega) h4)
      have ⟨y0, y1⟩ := BX.out _ (gb_refl _ _)
      rw [hraw]
      obtain ⟨Hc, hHc⟩ : ∃ Hc : Int, Hc = hintCode (hintOf s) := ⟨_, rfl⟩
      have hh0 : s = 0 → Hc = 1 := fun h => by rw [hHc, h]; rfl
      have hh12 : s = 12 → Hc = 2 := fun h => by rw [hHc, h]; rfl
      have hhx : s ≠ 0 → s ≠ 12 → Hc = 0 := fun h1 h2 => by rw [hHc]; unfold hintOf; rw [if_neg h1, if_neg h2]; rfl
      show Calls Try.prog _ _ W fun e w' => e = .returned (.tuple #[.int .i64 (p : Int), .int .i64 (hintCode (hintOf s))]) ∧ Below W.heap.size W w'
      rw [← hHc]
      clear hHc hraw
      clear h4 hI hJ hK
      go_enter Try.func64, Try.ntmps64
      go_wp2_with (go_at_call 74; (with_reducible refine X4.out.mono ?_); rintro e w6 ⟨rfl, hH6, hC6, hg6⟩; have z6 := hC6.1)
      all_goals
        go_ret2
        refine ⟨?_, FIN.out _ hg6⟩
        first
          | (have e0 : (s : Int) = 0 := of_beq_int (by assumption)
             rw [hh0 (by omega)]; rfl)
          | (have e1 : (s : Int) = 12 := of_beq_int (by assumption)
             rw [hh12 (by omega)]; rfl)
          | (have e0 : (s : Int) ≠ 0 := of_bne_int (by assumption)
             have e1 : (s : Int) ≠ 12 := of_bne_int (by assumption)
             rw [hhx (by omega) (by omega)]; rfl)
          | (rw [hh0 (by omega)]; rfl)
  · obtain ⟨p, hp⟩ : ∃ p : Nat, p = J := ⟨_, rfl⟩
    obtain ⟨s, hs⟩ : ∃ s : Nat, s = 0 := ⟨_, rfl⟩
    have hraw : rawPivot lt d a b = (p, s) := by simp only [rawPivot, if_neg h8, ← hJ, hp, hs]
    rw [hraw]
    obtain ⟨Hc, hHc⟩ : ∃ Hc : Int, Hc = hintCode (hintOf s) := ⟨_, rfl⟩
    have hh0 : s = 0 → Hc = 1 := fun h => by rw [hHc, h]; rfl
    have hh12 : s = 12 → Hc = 2 := fun h => by rw [hHc, h]; rfl
    have hhx : s ≠ 0 → s ≠ 12 → Hc = 0 := fun h1 h2 => by rw [hHc]; unfold hintOf; rw [if_neg h1, if_neg h2]; rfl
    show Calls Try.prog _ _ W fun e w' => e = .returned (.tuple #[.int .i64 (p : Int), .int .i64 (hintCode (hintOf s))]) ∧ Below W.heap.size W w'
    rw [← hHc]
    clear hHc hraw
    subst hp
    clear hI hJ hK
    go_enter Try.func64, Try.ntmps64
    go_wp2
    all_goals
      go_ret2
      refine ⟨?_, FIN.out _ (gb_refl _ _)⟩
      first
        | (have e0 : (s : Int) = 0 := of_beq_int (by assumption)
           rw [hh0 (by omega)]; rfl)
        | (have e1 : (s : Int) = 12 := of_beq_int (by assumption)
           rw [hh12 (by omega)]; rfl)
        | (have e0 : (s : Int) ≠ 0 := of_bne_int (by assumption)
           have e1 : (s : Int) ≠ 12 := of_bne_int (by assumption)
           rw [hhx (by omega) (by omega)]; rfl)
        | (rw [hh0 (by omega)]; rfl)
end
end Go.Proofs.Ytegedhnbmclbkaa.Pd
