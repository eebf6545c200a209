/- Rows of whole numbers in memory, told by a function, and two small functions of the program; conditions stand in each theorem. -/
import Derived.Test.YthhifeefkmaeiaaProg
import Derived.Test.YthhifeefkmaeiaaStb
import Derived.Shelf.GgSortMore.Stable
import Derived.Lib.Hide
import Derived.BigQuiet
import Derived.Deep.QuietTactic
import Derived.Deep.DeepCutAuto
import Derived.StillTailTactics
import Derived.Outline
namespace Go.Proofs.Ythhifeefkmaeiaa.Srw
open Go.Shelf Go.RowKit Go.Lib Go.Sort Go.Proofs.Ythhifeefkmaeiaa.Stb
set_option linter.unusedVariables false
set_option linter.unusedSimpArgs false
abbrev enc' : Int → Value := Value.int .i64
/-! ### rows of whole numbers, told by a function -/
def arr (f : Nat → Int) (n : Nat) : Array Value := ((List.range n).map fun t => Value.int .i64 (f t)).toArray
theorem arr_size (f : Nat → Int) (n : Nat) : (arr f n).size = n := by simp [arr]
theorem arr_get (f : Nat → Int) {n k : Nat} (hk : k < n) : (arr f n)[k]? = some (.int .i64 (f k)) := by simp [arr, hk]
theorem arr_congr {f f' : Nat → Int} {n : Nat} (h : ∀ t, t < n → f t = f' t) : arr f n = arr f' n := by
  unfold arr; congr 1; exact List.map_congr_left fun t ht => by rw [h t (List.mem_range.1 ht)]
theorem arr_set (f f' : Nat → Int) (n k : Nat) (v : Int) (hk : f' k = v) (ho : ∀ t, t < n → t ≠ k → f' t = f t) : (arr f n).setIfInBounds k (.int .i64 v) = arr f' n := by
  apply Array.ext_getElem?
  intro t
  rw [Array.getElem?_setIfInBounds]
  by_cases c : k = t
  · subst c
    by_cases c2 : k < n
    · rw [arr_get f' c2]; simp [arr_size, c2, hk]
    · simp [arr, c2]
  · simp only [c, if_false]
    by_cases c2 : t < n
    · rw [arr_get f c2, arr_get f' c2, ho t c2 (fun e => c e.symm)]
    · simp [arr, c2]
theorem arr_zero (n : Nat) : madeCells #[Value.int .i64 0] n = arr (fun _ => 0) n := by
  apply Array.ext_getElem?
  intro t
  by_cases c : t < n
  · rw [arr_get _ c]; simp [madeCells, c, Nat.mod_one]
  · simp [madeCells, arr, c]
def Rw (w : World) (b t : Nat) (f : Nat → Int) (n : Nat) : Prop := w.heap[b]? = some (.cells (arr f n) t (0, 0))
theorem Rw.cell {w : World} {b t n k : Nat} {f : Nat → Int} (h : Rw w b t f n) (hk : k < n) : w.cell? ⟨b, k, none⟩ = some (.int .i64 (f k)) := by
  unfold Rw at h; simp [World.cell?, h, arr_get f hk]
theorem Rw.frozen {w : World} {b t n k : Nat} {f : Nat → Int} (h : Rw w b t f n) : w.frozen? ⟨b, k, none⟩ = false := by
  unfold Rw at h; simp [World.frozen?, h]
theorem Rw.lt {w : World} {b t n : Nat} {f : Nat → Int} (h : Rw w b t f n) : b < w.heap.size := (Array.getElem?_eq_some_iff.1 h).1
theorem Rw.below {w w' : World} {b t n : Nat} {f : Nat → Int} (h : Rw w b t f n) (hB : Below w.heap.size w w') : Rw w' b t f n := (hB.block b h.lt).trans h
theorem Rw.far {w : World} {b t n : Nat} {f : Nat → Int} (h : Rw w b t f n) {p : Addr} (hp : b ≠ p.block) (u : Value) : Rw (w.setCell p u) b t f n := (Below.heap_setCell w p u b hp).trans h
theorem Rw.set {w : World} {b t n k : Nat} {f f' : Nat → Int} (h : Rw w b t f n) (v : Int) (hk : f' k = v) (ho : ∀ t, t < n → t ≠ k → f' t = f t) : Rw (w.setCell ⟨b, k, none⟩ (.int .i64 v)) b t f' n := by
  unfold Rw at *
  have hlt := (Array.getElem?_eq_some_iff.1 h).1
  simp only [World.setCell, Array.getElem?_modify, if_true, h, Option.map_some]
  rw [← arr_set f f' n k v hk ho]
  simp
theorem Rw.holds {w : World} {b t n : Nat} {f : Nat → Int} (h : Rw w b t f n) : Holds enc' w b 0 ((List.range n).map f).toArray := fun j hj => by
  have hj' : j < n := by simpa using hj
  have e : ((List.range n).map f).toArray[j]! = f j := by simp [hj']
  rw [Nat.zero_add, e]; exact ⟨h.cell hj', h.frozen⟩
/-! ### the two small functions -/
set_option maxRecDepth 100000 in
theorem near_yes (n : Int) (w : World) (h1 : -10000000 ≤ n) (h2 : n ≤ 10000000) : Calls Try.prog 25 #[.int .i64 n] w fun e w' => e = .returned (.bool true) ∧ ∃ q, w' = w.drewN q := by
  go_enter Try.func25, Try.ntmps25
  go_wp2
  go_ret
  exact ⟨by simp [h2], 0, rfl⟩
set_option maxRecDepth 100000 in
theorem near_no (n : Int) (w : World) (h : n < -10000000 ∨ 10000000 < n) : Calls Try.prog 25 #[.int .i64 n] w fun e w' => e = .returned (.bool false) ∧ ∃ q, w' = w.drewN q := by
  rcases h with h | h
  · have h' : ¬ -10000000 ≤ n := by omega
    go_enter Try.func25, Try.ntmps25
    go_wp2
    go_ret
    exact ⟨by simp, 0, rfl⟩
  · have h1 : -10000000 ≤ n := by omega
    have h2 : ¬ n ≤ 10000000 := by omega
    go_enter Try.func25, Try.ntmps25
    go_wp2
    go_ret
    exact ⟨by simp [h2], 0, rfl⟩
theorem tdm (x y : Int) (hy : 0 < y) : (0 ≤ x.tmod y ∧ x / y = x.tdiv y ∧ x % y = x.tmod y) ∨ (x.tmod y < 0 ∧ x / y = x.tdiv y - 1 ∧ x % y = x.tmod y + y) := by
  have e := Int.mul_tdiv_add_tmod x y
  have h1 := Int.tmod_lt_of_pos x hy
  by_cases c : 0 ≤ x.tmod y
  · exact .inl ⟨c, (Int.ediv_emod_unique hy).2 ⟨by omega, c, h1⟩⟩
  · refine .inr ⟨by omega, (Int.ediv_emod_unique hy).2 ⟨?_, ?_, by omega⟩⟩
    · rw [Int.mul_sub]; omega
    · have := Int.lt_tmod_of_pos x hy; omega
set_option maxRecDepth 100000 in
theorem div_pos (x y : Int) (w : World) (hx1 : -1000000000000 ≤ x) (hx2 : x ≤ 1000000000000) (hy1 : 1 ≤ y) (hy2 : y ≤ 1000000) : Calls Try.prog 26 #[.int .i64 x, .int .i64 y] w fun e w' => e = .returned (.tuple #[.int .i64 (x / y), .int .i64 (x % y), .int .i64 0]) ∧ ∃ q, w' = w.drewN q := by
  have e := Int.mul_tdiv_add_tmod x y
  have l1 := Int.tmod_lt_of_pos x (show 0 < y by omega)
  have l2 := Int.lt_tmod_of_pos x (show 0 < y by omega)
  have b1 : x.tdiv y ≤ 2000000000000 := by
    rcases Int.lt_or_le 2000000000000 (x.tdiv y) with c | c
    · have := Int.mul_le_mul_of_nonneg_right (show 1 ≤ y by omega) (show 0 ≤ x.tdiv y by omega); omega
    · exact c
  have b2 : -2000000000000 ≤ x.tdiv y := by
    rcases Int.lt_or_le (x.tdiv y) (-2000000000000) with c | c
    · have := Int.mul_le_mul_of_nonneg_right (show 1 ≤ y by omega) (show 0 ≤ -(x.tdiv y) by omega)
      simp only [Int.mul_neg, Int.one_mul] at this; omega
    · exact c
  have t := tdm x y (by omega)
  have hx0 : (x == -9223372036854775808) = false := by simp; omega
  have hy0 : (y == 0) = false := by simp; omega
  have hyp : decide (0 < y) = true := decide_eq_true (by omega)
  obtain ⟨D, hD⟩ : ∃ D, x.tdiv y = D := ⟨_, rfl⟩
  obtain ⟨M, hM⟩ : ∃ M, x.tmod y = M := ⟨_, rfl⟩
  rw [hD] at b1 b2 t
  rw [hM] at l1 l2 t
  clear e
  rcases t with ⟨c, t1, t2⟩ | ⟨c, t1, t2⟩
  · have T := Lib.hid (And.intro t1 t2)
    clear t1 t2
    have hc : decide (0 ≤ M) = true := decide_eq_true c
    go_enter Try.func26, Try.ntmps26
    go_wp2
    repeat (go_quiet (fail); try go_wp2)
    go_ret3
    exact ⟨by rw [T.out.1, T.out.2]; rfl, nq, rfl⟩
  · have T := Lib.hid (And.intro t1 t2)
    clear t1 t2
    have hc : decide (0 ≤ M) = false := decide_eq_false (by omega)
    have hc2 : ¬ 0 ≤ M := by omega
    go_enter Try.func26, Try.ntmps26
    go_wp2
    repeat (go_quiet (fail); try go_wp2)
    go_ret3
    exact ⟨by rw [T.out.1, T.out.2]; rfl, nq, rfl⟩
theorem mk (n : Nat) (hn : n ≤ 40000) (w : World) : (Instr.makeSlice 23 (.int .i64 (n : Int)) (.int .i64 (n : Int))).run Try.prog w = .ok (.slice (some ⟨w.heap.size, 0, none⟩) n n) (w.alloc (.cells (arr (fun _ => 0) n) 2 (0, 0))) := by
  have hr := run_make (P := Try.prog) w 23 2 ((Try.prog.info? 2).get (by kernel_rfl)) (.int .i64 0) (by kernel_rfl) (by kernel_rfl) (by kernel_rfl) .i64 .i64 (n : Int) (n : Int) (by omega) (Int.le_refl _) (by rw [show ((Try.prog.info? 2).get (by kernel_rfl)).bytes = 8 by kernel_rfl]; omega) (by omega)
  simp only [Int.toNat_natCast] at hr
  rw [hr, show ((Try.prog.info? 2).get (by kernel_rfl)).size = 1 by kernel_rfl, Nat.mul_one, ← arr_zero]
  rfl
theorem mkI (n : Nat) (hn : n ≤ 40000) (w : World) : (Instr.makeSlice 51 (.int .i64 (n : Int)) (.int .i64 (n : Int))).run Try.prog w = .ok (.slice (some ⟨w.heap.size, 0, none⟩) n n) (w.alloc (.cells (arr (fun _ => 0) n) 3 (0, 0))) := by
  have hr := run_make (P := Try.prog) w 51 3 ((Try.prog.info? 3).get (by kernel_rfl)) (.int .i64 0) (by kernel_rfl) (by kernel_rfl) (by kernel_rfl) .i64 .i64 (n : Int) (n : Int) (by omega) (Int.le_refl _) (by rw [show ((Try.prog.info? 3).get (by kernel_rfl)).bytes = 8 by kernel_rfl]; omega) (by omega)
  simp only [Int.toNat_natCast] at hr
  rw [hr, show ((Try.prog.info? 3).get (by kernel_rfl)).size = 1 by kernel_rfl, Nat.mul_one, ← arr_zero]
  rfl
set_option maxHeartbeats 2000000 in
set_option maxRecDepth 100000 in
theorem less_line (W : World) (bR bO b1 b2 i j p q n : Nat) (x y : Int) (hn : n ≤ 40000) (hi : i < n) (hj : j < n) (hp : p < n) (hq : q < n) (c1 : W.cell? ⟨b1, 0, none⟩ = some (.slice (some ⟨bR, 0, none⟩) n n)) (c2 : W.cell? ⟨b2, 0, none⟩ = some (.slice (some ⟨bO, 0, none⟩) n n))
    (ci : W.cell? ⟨bO, i, none⟩ = some (.int .i64 p)) (cj : W.cell? ⟨bO, j, none⟩ = some (.int .i64 q)) (cp : W.cell? ⟨bR, p, none⟩ = some (.int .i64 x)) (cq : W.cell? ⟨bR, q, none⟩ = some (.int .i64 y)) :
    Calls Try.prog 28 #[.int .i64 i, .int .i64 j, .pointer (some ⟨b1, 0, none⟩), .pointer (some ⟨b2, 0, none⟩)] W fun e w' => e = .returned (.bool (decide (y < x))) ∧ ∃ q, w' = W.drewN q := by
  go_enter Try.func28, Try.ntmps28
  go_wp2
  go_quiet (fail)
  go_wp2
  go_ret
  exact ⟨rfl, nq, rfl⟩
end Go.Proofs.Ythhifeefkmaeiaa.Srw
