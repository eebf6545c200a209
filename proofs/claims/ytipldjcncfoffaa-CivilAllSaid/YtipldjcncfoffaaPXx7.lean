/- Functions of the program as plain Lean functions, each with a proof that the call in the machine answers just what the plain function says; condition: the plain function answers at all. -/
import Derived.Test.YtipldjcncfoffaaPXx0
import Derived.Test.YtipldjcncfoffaaPXx1
import Derived.Test.YtipldjcncfoffaaPXx4
import Derived.Test.YtipldjcncfoffaaPXx5
namespace Go.Proofs.Ytipldjcncfoffaa.PX
open Go.RowKit Go.Proofs.YtipldjcncfoffaaW.PrintWords Go.Proofs.YtipldjcncfoffaaW.PrintLast Go.Proofs.YtipldjcncfoffaaW.PrintMore
attribute [local go_sem] max2_int min2_int max_two min_two max_three min_three max_four min_four   -- for this text's walks alone
set_option linter.unusedVariables false
set_option linter.unusedSimpArgs false

attribute [local go_sem high] eqA24
/-! ### civil_Text: function 26 -/
def civil_Text.f (a0_0 : Int) (a0_1 : Int) (a0_2 : Int) : Option (ByteArray × Int) := some (Civ.textE a0_0 a0_1 a0_2)
theorem civil_Text.digit (n : Int) (w : World) (h1 : 0 ≤ n) (h2 : n ≤ 9999) :
    Calls Try.prog 41 #[.int .i64 n] w fun e w' => e = .returned (.int .u8 (48 + n % 10)) ∧ w = w' := by
  go_enter Try.func41, Try.ntmps41
  go_wp2
  go_ret
  exact ⟨rfl, rfl⟩
theorem civil_Text.text_eq (y m d : Int) : Civ.text y m d = strOfNums [48 + y / 1000 % 10, 48 + y / 100 % 10, 48 + y / 10 % 10, 48 + y % 10, 45, 48 + m / 10 % 10, 48 + m % 10, 45, 48 + d / 10 % 10, 48 + d % 10] := rfl
theorem civil_Text.goods (y m d : Int) : civil_good.f y m d = some (decide (Civ.ok y m d)) := by
  unfold civil_good.f civil_Length.f Civ.lenE Civ.ok
  by_cases c : 1 ≤ y ∧ y ≤ 9999 ∧ 1 ≤ m ∧ m ≤ 12
  · rw [if_pos c]
    by_cases c5 : 1 ≤ d
    · simp [c, c5]
    · simp [c5]
  · rw [if_neg c]
    have : ¬ (1 ≤ y ∧ y ≤ 9999 ∧ 1 ≤ m ∧ m ≤ 12 ∧ 1 ≤ d ∧ d ≤ Civ.len y m) := fun h => c ⟨h.1, h.2.1, h.2.2.1, h.2.2.2.1⟩
    simp [this]
theorem civil_Text.conv (W : World) (nq : Nat) (x0 x1 x2 x3 x4 x5 x6 x7 x8 x9 : Int) :
    (convert 54 9 (.slice (some ⟨W.heap.size, 0, none⟩) 10 10)).run Try.prog ((W.drewN nq).alloc (.cells #[.int .u8 x0, .int .u8 x1, .int .u8 x2, .int .u8 x3, .int .u8 x4, .int .u8 x5, .int .u8 x6, .int .u8 x7, .int .u8 x8, .int .u8 x9] 5)) = .ok (.string (strOfNums [x0, x1, x2, x3, x4, x5, x6, x7, x8, x9])) ((W.drewN nq).alloc (.cells #[.int .u8 x0, .int .u8 x1, .int .u8 x2, .int .u8 x3, .int .u8 x4, .int .u8 x5, .int .u8 x6, .int .u8 x7, .int .u8 x8, .int .u8 x9] 5)) := by
  refine run_convert_bytes_arg _ 54 5 Try.underlying54 Try.underlying5 W.heap.size 0 10 10 [x0, x1, x2, x3, x4, x5, x6, x7, x8, x9] rfl (fun i hi => ?_) 9 Try.underlying9
  rw [World.cell?_alloc_at (w := W.drewN nq) _ _ _ _ (by simp)]
  match i, hi with
  | 0, _ => rfl
  | 1, _ => rfl
  | 2, _ => rfl
  | 3, _ => rfl
  | 4, _ => rfl
  | 5, _ => rfl
  | 6, _ => rfl
  | 7, _ => rfl
  | 8, _ => rfl
  | 9, _ => rfl
set_option maxHeartbeats 2000000 in
set_option maxRecDepth 100000 in
theorem civil_Text.yes (y m d : Int) (w : World) (h : civil_good.f y m d = some true) (h1 : 1 ≤ y) (h2 : y ≤ 9999) (h3 : 1 ≤ m) (h4 : m ≤ 12) (h5 : 1 ≤ d) (h6 : d ≤ 31) :
    Calls Try.prog 26 #[.agg #[.int .i64 y, .int .i64 m, .int .i64 d]] w fun e w' => e = .returned (.tuple #[.string (Civ.text y m d), .int .i64 0]) ∧ Below w.heap.size w w' := by
  have kc := civil_Text.conv
  have H3 := Aside0.mk h
  clear h
  go_enter Try.func26, Try.ntmps26
  go_wp2_with (go_at_call 39; refine (civil_good.calls _ _ _ _ _ H3.out).mono ?_; rintro e w' ⟨rfl, hd⟩; have c0 : w'.cell? ⟨w.heap.size, 0, none⟩ = some (.int .i64 y) := (hd.cell (p := ⟨w.heap.size, 0, none⟩) (by simp)).trans (by go_simp); have c1 : w'.cell? ⟨w.heap.size, 1, none⟩ = some (.int .i64 m) := (hd.cell (p := ⟨w.heap.size, 1, none⟩) (by simp)).trans (by go_simp); have c2 : w'.cell? ⟨w.heap.size, 2, none⟩ = some (.int .i64 d) := (hd.cell (p := ⟨w.heap.size, 2, none⟩) (by simp)).trans (by go_simp); have hB : Below w.heap.size w w' := below_step (below_alloc (Below.refl _ _) _) hd; clear hd)
  go_quiet (fail)
  go_wp2_with (go_at_call 41; refine (civil_Text.digit _ _ (by omega) (by omega)).mono ?_; rintro e w' ⟨rfl, rfl⟩)
  go_ret2
  refine ⟨?_, by repeat (first | exact hB | apply below_alloc | apply pw_below_drewN | apply below_drew)⟩
  rw [civil_Text.text_eq]
  rfl
theorem civil_Text.calls (a0_0 : Int) (a0_1 : Int) (a0_2 : Int) (r1 : ByteArray) (r2 : Int) (w : World) (h : civil_Text.f a0_0 a0_1 a0_2 = some (r1, r2)) :
    Calls Try.prog 26 #[.agg #[.int .i64 a0_0, .int .i64 a0_1, .int .i64 a0_2]] w fun e w' => e = .returned (.tuple #[.string r1, .int .i64 r2]) ∧ Below w.heap.size w w' := by
  unfold civil_Text.f Civ.textE at h
  injection h with h
  have hg := civil_Text.goods a0_0 a0_1 a0_2
  by_cases c : Civ.ok a0_0 a0_1 a0_2
  · rw [if_pos c, Prod.mk.injEq] at h
    obtain ⟨rfl, rfl⟩ := h
    rw [decide_eq_true c] at hg
    obtain ⟨c1, c2, c3, c4, c5, c6⟩ := c
    have := Civ.len_bd a0_0 a0_1
    exact civil_Text.yes a0_0 a0_1 a0_2 w hg c1 c2 c3 c4 c5 (by omega)
  · rw [if_neg c, Prod.mk.injEq] at h
    obtain ⟨rfl, rfl⟩ := h
    rw [decide_eq_false c] at hg
    have H3 := Aside0.mk hg
    clear hg c
    go_enter Try.func26, Try.ntmps26
    go_wp2_with (go_at_call 39; refine (civil_good.calls _ _ _ _ _ H3.out).mono ?_; rintro e w' ⟨rfl, hd⟩)
    go_ret2
    exact ⟨rfl, below_step (below_alloc (Below.refl _ _) _) hd⟩

/-! ### civil_Read: function 25 -/
def civil_Read.n0 (s : ByteArray) : Int := 10 * (10 * (10 * (bt s 0 - 48) + bt s 1 - 48) + bt s 2 - 48) + bt s 3 - 48
def civil_Read.n5 (s : ByteArray) : Int := 10 * (bt s 5 - 48) + bt s 6 - 48
def civil_Read.n8 (s : ByteArray) : Int := 10 * (bt s 8 - 48) + bt s 9 - 48
def civil_Read.f (a0 : ByteArray) : Option (Int × Int × Int × Int) :=
  if a0.size = 10 ∧ Civ.ok (civil_Read.n0 a0) (civil_Read.n5 a0) (civil_Read.n8 a0) ∧ (Civ.text (civil_Read.n0 a0) (civil_Read.n5 a0) (civil_Read.n8 a0)).toList = a0.toList then
    some (civil_Read.n0 a0, civil_Read.n5 a0, civil_Read.n8 a0, 0) else some (0, 0, 0, 1)
theorem civil_Read.ten (s : ByteArray) (h : s.size = 10) : ∃ b0 b1 b2 b3 b4 b5 b6 b7 b8 b9 : UInt8, s = ⟨#[b0, b1, b2, b3, b4, b5, b6, b7, b8, b9]⟩ := by
  obtain ⟨⟨l⟩⟩ := s
  match l, h with
  | [b0, b1, b2, b3, b4, b5, b6, b7, b8, b9], _ => exact ⟨b0, b1, b2, b3, b4, b5, b6, b7, b8, b9, rfl⟩
set_option maxRecDepth 100000 in
theorem civil_Read.num0' (b0 b1 b2 b3 b4 b5 b6 b7 b8 b9 : UInt8) (w : World) (a : Addr) (hc : w.cell? a = some (.string ⟨#[b0, b1, b2, b3, b4, b5, b6, b7, b8, b9]⟩)) :
    Calls Try.prog 40 #[.int .i64 0, .int .i64 4, .pointer (some a)] w fun e w' => e = .returned (.int .i64 (10 * (10 * (10 * ((b0.toNat : Int) - 48) + (b1.toNat : Int) - 48) + (b2.toNat : Int) - 48) + (b3.toNat : Int) - 48)) ∧ Below w.heap.size w w' := by
  have hx : (ByteArray.extract ⟨#[b0, b1, b2, b3, b4, b5, b6, b7, b8, b9]⟩ 0 4) = ⟨#[b0, b1, b2, b3]⟩ := rfl
  have hcv : ∀ W, (convert 9 54 (.string ⟨#[b0, b1, b2, b3]⟩)).run Try.prog W = .ok (.slice (some ⟨W.heap.size, 0, none⟩) 4 (grownCap W 4 0 5)) (Lib.bytesWorld W 5 ⟨#[b0, b1, b2, b3]⟩) := fun W => Lib.run_convert_string_bytes W 9 54 5 _ Try.underlying9 Try.underlying54 Try.underlying5
  have k0 : ∀ W, (Lib.bytesWorld W 5 ⟨#[b0, b1, b2, b3]⟩).cell? ⟨W.heap.size, 0, none⟩ = some (.int .u8 b0.toNat) := fun W => Lib.bytesWorld_cell W 5 ⟨#[b0, b1, b2, b3]⟩ 0 (show (0 : Nat) < 4 by decide)
  have l0 := b0.toNat_lt
  have k1 : ∀ W, (Lib.bytesWorld W 5 ⟨#[b0, b1, b2, b3]⟩).cell? ⟨W.heap.size, 1, none⟩ = some (.int .u8 b1.toNat) := fun W => Lib.bytesWorld_cell W 5 ⟨#[b0, b1, b2, b3]⟩ 1 (show (1 : Nat) < 4 by decide)
  have l1 := b1.toNat_lt
  have k2 : ∀ W, (Lib.bytesWorld W 5 ⟨#[b0, b1, b2, b3]⟩).cell? ⟨W.heap.size, 2, none⟩ = some (.int .u8 b2.toNat) := fun W => Lib.bytesWorld_cell W 5 ⟨#[b0, b1, b2, b3]⟩ 2 (show (2 : Nat) < 4 by decide)
  have l2 := b2.toNat_lt
  have k3 : ∀ W, (Lib.bytesWorld W 5 ⟨#[b0, b1, b2, b3]⟩).cell? ⟨W.heap.size, 3, none⟩ = some (.int .u8 b3.toNat) := fun W => Lib.bytesWorld_cell W 5 ⟨#[b0, b1, b2, b3]⟩ 3 (show (3 : Nat) < 4 by decide)
  have l3 := b3.toNat_lt
  go_enter Try.func40, Try.ntmps40
  go_wp2
  refine wp_loop_rounds 5 ?_
  rw [rounds_succ]
  go_wp2
  rw [rounds_succ]
  go_wp2
  rw [rounds_succ]
  go_wp2
  rw [rounds_succ]
  go_wp2
  rw [rounds_succ]
  go_wp2
  go_ret
  exact ⟨rfl, bytes_below (Below.refl _ _) (Nat.le_refl _) _ _⟩
theorem civil_Read.num0 (s : ByteArray) (w : World) (a : Addr) (hs : s.size = 10) (hc : w.cell? a = some (.string s)) :
    Calls Try.prog 40 #[.int .i64 0, .int .i64 4, .pointer (some a)] w fun e w' => e = .returned (.int .i64 (civil_Read.n0 s)) ∧ Below w.heap.size w w' := by
  obtain ⟨b0, b1, b2, b3, b4, b5, b6, b7, b8, b9, rfl⟩ := civil_Read.ten s hs
  exact civil_Read.num0' b0 b1 b2 b3 b4 b5 b6 b7 b8 b9 w a hc
set_option maxRecDepth 100000 in
theorem civil_Read.num5' (b0 b1 b2 b3 b4 b5 b6 b7 b8 b9 : UInt8) (w : World) (a : Addr) (hc : w.cell? a = some (.string ⟨#[b0, b1, b2, b3, b4, b5, b6, b7, b8, b9]⟩)) :
    Calls Try.prog 40 #[.int .i64 5, .int .i64 7, .pointer (some a)] w fun e w' => e = .returned (.int .i64 (10 * ((b5.toNat : Int) - 48) + (b6.toNat : Int) - 48)) ∧ Below w.heap.size w w' := by
  have hx : (ByteArray.extract ⟨#[b0, b1, b2, b3, b4, b5, b6, b7, b8, b9]⟩ 5 7) = ⟨#[b5, b6]⟩ := rfl
  have hcv : ∀ W, (convert 9 54 (.string ⟨#[b5, b6]⟩)).run Try.prog W = .ok (.slice (some ⟨W.heap.size, 0, none⟩) 2 (grownCap W 2 0 5)) (Lib.bytesWorld W 5 ⟨#[b5, b6]⟩) := fun W => Lib.run_convert_string_bytes W 9 54 5 _ Try.underlying9 Try.underlying54 Try.underlying5
  have k0 : ∀ W, (Lib.bytesWorld W 5 ⟨#[b5, b6]⟩).cell? ⟨W.heap.size, 0, none⟩ = some (.int .u8 b5.toNat) := fun W => Lib.bytesWorld_cell W 5 ⟨#[b5, b6]⟩ 0 (show (0 : Nat) < 2 by decide)
  have l0 := b5.toNat_lt
  have k1 : ∀ W, (Lib.bytesWorld W 5 ⟨#[b5, b6]⟩).cell? ⟨W.heap.size, 1, none⟩ = some (.int .u8 b6.toNat) := fun W => Lib.bytesWorld_cell W 5 ⟨#[b5, b6]⟩ 1 (show (1 : Nat) < 2 by decide)
  have l1 := b6.toNat_lt
  go_enter Try.func40, Try.ntmps40
  go_wp2
  refine wp_loop_rounds 3 ?_
  rw [rounds_succ]
  go_wp2
  rw [rounds_succ]
  go_wp2
  rw [rounds_succ]
  go_wp2
  go_ret
  exact ⟨rfl, bytes_below (Below.refl _ _) (Nat.le_refl _) _ _⟩
theorem civil_Read.num5 (s : ByteArray) (w : World) (a : Addr) (hs : s.size = 10) (hc : w.cell? a = some (.string s)) :
    Calls Try.prog 40 #[.int .i64 5, .int .i64 7, .pointer (some a)] w fun e w' => e = .returned (.int .i64 (civil_Read.n5 s)) ∧ Below w.heap.size w w' := by
  obtain ⟨b0, b1, b2, b3, b4, b5, b6, b7, b8, b9, rfl⟩ := civil_Read.ten s hs
  exact civil_Read.num5' b0 b1 b2 b3 b4 b5 b6 b7 b8 b9 w a hc
set_option maxRecDepth 100000 in
theorem civil_Read.num8' (b0 b1 b2 b3 b4 b5 b6 b7 b8 b9 : UInt8) (w : World) (a : Addr) (hc : w.cell? a = some (.string ⟨#[b0, b1, b2, b3, b4, b5, b6, b7, b8, b9]⟩)) :
    Calls Try.prog 40 #[.int .i64 8, .int .i64 10, .pointer (some a)] w fun e w' => e = .returned (.int .i64 (10 * ((b8.toNat : Int) - 48) + (b9.toNat : Int) - 48)) ∧ Below w.heap.size w w' := by
  have hx : (ByteArray.extract ⟨#[b0, b1, b2, b3, b4, b5, b6, b7, b8, b9]⟩ 8 10) = ⟨#[b8, b9]⟩ := rfl
  have hcv : ∀ W, (convert 9 54 (.string ⟨#[b8, b9]⟩)).run Try.prog W = .ok (.slice (some ⟨W.heap.size, 0, none⟩) 2 (grownCap W 2 0 5)) (Lib.bytesWorld W 5 ⟨#[b8, b9]⟩) := fun W => Lib.run_convert_string_bytes W 9 54 5 _ Try.underlying9 Try.underlying54 Try.underlying5
  have k0 : ∀ W, (Lib.bytesWorld W 5 ⟨#[b8, b9]⟩).cell? ⟨W.heap.size, 0, none⟩ = some (.int .u8 b8.toNat) := fun W => Lib.bytesWorld_cell W 5 ⟨#[b8, b9]⟩ 0 (show (0 : Nat) < 2 by decide)
  have l0 := b8.toNat_lt
  have k1 : ∀ W, (Lib.bytesWorld W 5 ⟨#[b8, b9]⟩).cell? ⟨W.heap.size, 1, none⟩ = some (.int .u8 b9.toNat) := fun W => Lib.bytesWorld_cell W 5 ⟨#[b8, b9]⟩ 1 (show (1 : Nat) < 2 by decide)
  have l1 := b9.toNat_lt
  go_enter Try.func40, Try.ntmps40
  go_wp2
  refine wp_loop_rounds 3 ?_
  rw [rounds_succ]
  go_wp2
  rw [rounds_succ]
  go_wp2
  rw [rounds_succ]
  go_wp2
  go_ret
  exact ⟨rfl, bytes_below (Below.refl _ _) (Nat.le_refl _) _ _⟩
theorem civil_Read.num8 (s : ByteArray) (w : World) (a : Addr) (hs : s.size = 10) (hc : w.cell? a = some (.string s)) :
    Calls Try.prog 40 #[.int .i64 8, .int .i64 10, .pointer (some a)] w fun e w' => e = .returned (.int .i64 (civil_Read.n8 s)) ∧ Below w.heap.size w w' := by
  obtain ⟨b0, b1, b2, b3, b4, b5, b6, b7, b8, b9, rfl⟩ := civil_Read.ten s hs
  exact civil_Read.num8' b0 b1 b2 b3 b4 b5 b6 b7 b8 b9 w a hc
theorem civil_Read.neq {s t : ByteArray} (h : ¬ t.toList = s.toList) : (t.toList == s.toList) = false := by simpa using h
set_option maxRecDepth 100000 in
theorem civil_Read.short (s : ByteArray) (w : World) (h : ¬ s.size = 10) :
    Calls Try.prog 25 #[.string s] w fun e w' => e = .returned (.tuple #[.agg #[.int .i64 0, .int .i64 0, .int .i64 0], .int .i64 1]) ∧ Below w.heap.size w w' := by
  have h1 : ((s.size : Int) == 10) = false := by simp; omega
  have h2 : ((s.size : Int) != 10) = true := by simp; omega
  clear h
  go_enter Try.func25, Try.ntmps25
  go_wp2
  exact bodyPost_ret (v := .tuple #[.agg #[.int .i64 0, .int .i64 0, .int .i64 0], .int .i64 1]) (by simp [results, Try.results25, go_sem]) rfl ⟨rfl, by repeat (first | exact Below.refl _ _ | apply below_alloc)⟩
theorem civil_Read.two (w : World) (A B : Array Value) (ta tb : TypeId) : ((w.alloc (.cells A ta)).alloc (.cells B tb)).heap[w.heap.size]? = some (.cells A ta (0, 0)) ∧ ((w.alloc (.cells A ta)).alloc (.cells B tb)).heap[w.heap.size + 1]? = some (.cells B tb (0, 0)) := by
  constructor <;> simp [World.alloc, -World.alloc_eq, Array.getElem?_push, Array.getElem_push]
theorem civil_Read.last (w : World) (A : Array Value) (t : TypeId) : (w.alloc (.cells A t)).heap[w.heap.size]? = some (.cells A t (0, 0)) := by
  simp [World.alloc, -World.alloc_eq, Array.getElem?_push]
theorem civil_Read.lt {w : World} {g : Nat} {o : Obj} (h : w.heap[g]? = some o) : g < w.heap.size := (Array.getElem?_eq_some_iff.1 h).1
set_option maxRecDepth 100000 in
set_option maxHeartbeats 2000000 in
theorem civil_Read.bad (s : ByteArray) (w : World) (hs : s.size = 10) (t : ByteArray) (e0 : Int) (ht : civil_Text.f (civil_Read.n0 s) (civil_Read.n5 s) (civil_Read.n8 s) = some (t, e0)) (h0 : (e0 == 0) = false) (h0' : (e0 != 0) = true) :
    Calls Try.prog 25 #[.string s] w fun e w' => e = .returned (.tuple #[.agg #[.int .i64 0, .int .i64 0, .int .i64 0], .int .i64 1]) ∧ Below w.heap.size w w' := by
  have h1 : ((s.size : Int) == 10) = true := by simp; omega
  have h2 : ((s.size : Int) != 10) = false := by simp; omega
  have H := Aside0.mk hs
  have HT := Aside0.mk ht
  clear hs ht
  go_enter Try.func25, Try.ntmps25
  go_upto_region 4 with (fail)
  go_cut [5] (fun v5 wc => ∃ g : Nat, v5 = .pointer (some ⟨g, 0, none⟩) ∧ Aside0 (w.heap.size ≤ g) ∧ Aside0 (wc.heap[g]? = some (.cells #[.int .i64 (civil_Read.n0 s), .int .i64 (civil_Read.n5 s), .int .i64 (civil_Read.n8 s)] 24 (0, 0))) ∧ Aside0 (wc.heap[w.heap.size]? = some (.cells #[.string s] 9 (0, 0))) ∧ Aside0 (wc.heap[w.heap.size + 1]? = some (.cells #[.int .i64 0, .int .i64 0, .int .i64 0] 24 (0, 0))) ∧ Aside0 (Below w.heap.size w wc))
  case first =>
    have B0 := Aside0.mk (civil_Read.two w #[.string s] #[.int .i64 0, .int .i64 0, .int .i64 0] 9 24).1
    have B1 := Aside0.mk (civil_Read.two w #[.string s] #[.int .i64 0, .int .i64 0, .int .i64 0] 9 24).2
    have HB := Aside0.mk (show Below w.heap.size w _ from below_alloc (below_alloc (Below.refl _ _) (.cells #[.string s] 9)) (.cells #[.int .i64 0, .int .i64 0, .int .i64 0] 24))
    go_wp2_with (fail)
    refine (civil_Read.num0 s _ _ H.out ((blk_cell B0.out 0).trans rfl)).mono ?_
    rintro e w1 ⟨rfl, d1⟩
    have E0 := Aside0.mk ((d1.block _ (civil_Read.lt B0.out)).trans B0.out)
    have E1 := Aside0.mk ((d1.block _ (civil_Read.lt B1.out)).trans B1.out)
    have HB1 := Aside0.mk (below_step HB.out d1)
    clear B0 B1 HB d1
    go_wp2_with (fail)
    refine (civil_Read.num5 s _ _ H.out ((blk_cell E0.out 0).trans rfl)).mono ?_
    rintro e w2 ⟨rfl, d2⟩
    have F0 := Aside0.mk ((d2.block _ (civil_Read.lt E0.out)).trans E0.out)
    have F1 := Aside0.mk ((d2.block _ (civil_Read.lt E1.out)).trans E1.out)
    have HB2 := Aside0.mk (below_step HB1.out d2)
    clear E0 E1 HB1 d2
    go_wp2_with (fail)
    refine (civil_Read.num8 s _ _ H.out ((blk_cell F0.out 0).trans rfl)).mono ?_
    rintro e w3 ⟨rfl, d3⟩
    have G0 := Aside0.mk ((d3.block _ (civil_Read.lt F0.out)).trans F0.out)
    have G1 := Aside0.mk ((d3.block _ (civil_Read.lt F1.out)).trans F1.out)
    have HB3 := Aside0.mk (below_step HB2.out d3)
    clear F0 F1 HB2 d3
    go_wp2
    go_meet
    case rel => exact ⟨w3.heap.size, rfl, ⟨below_size HB3.out⟩, ⟨civil_Read.last w3 _ _⟩, ⟨blk_alloc G0.out _⟩, ⟨blk_alloc G1.out _⟩, ⟨below_alloc HB3.out _⟩⟩
  case rest =>
    obtain ⟨g, rfl, GE, BG, B0, B1, HB⟩ := hcut
    have q0 : wc.cell? ⟨g, 0, none⟩ = some (.int .i64 (civil_Read.n0 s)) := (blk_cell BG.out 0).trans rfl
    have q1 : wc.cell? ⟨g, 1, none⟩ = some (.int .i64 (civil_Read.n5 s)) := (blk_cell BG.out 1).trans rfl
    have q2 : wc.cell? ⟨g, 2, none⟩ = some (.int .i64 (civil_Read.n8 s)) := (blk_cell BG.out 2).trans rfl
    go_wp2_with (fail)
    refine (civil_Text.calls _ _ _ _ _ _ HT.out).mono ?_
    rintro e w4 ⟨rfl, d4⟩
    have E0 := Aside0.mk ((d4.block _ (civil_Read.lt B0.out)).trans B0.out)
    have E1 := Aside0.mk ((d4.block _ (civil_Read.lt B1.out)).trans B1.out)
    have EG := Aside0.mk ((d4.block _ (civil_Read.lt BG.out)).trans BG.out)
    have HB1 := Aside0.mk (below_step HB.out d4)
    clear B0 B1 BG HB d4 q0 q1 q2
    have q0 : w4.cell? ⟨g, 0, none⟩ = some (.int .i64 (civil_Read.n0 s)) := (blk_cell EG.out 0).trans rfl
    have q1 : w4.cell? ⟨g, 1, none⟩ = some (.int .i64 (civil_Read.n5 s)) := (blk_cell EG.out 1).trans rfl
    have q2 : w4.cell? ⟨g, 2, none⟩ = some (.int .i64 (civil_Read.n8 s)) := (blk_cell EG.out 2).trans rfl
    have p0 : w4.cell? ⟨w.heap.size + 1, 0, none⟩ = some (.int .i64 0) := (blk_cell E1.out 0).trans rfl
    have p1 : w4.cell? ⟨w.heap.size + 1, 1, none⟩ = some (.int .i64 0) := (blk_cell E1.out 1).trans rfl
    have p2 : w4.cell? ⟨w.heap.size + 1, 2, none⟩ = some (.int .i64 0) := (blk_cell E1.out 2).trans rfl
    have f0 := blk_frozen E1.out 0
    have f1 := blk_frozen E1.out 1
    have f2 := blk_frozen E1.out 2
    have r0 : w4.cell? ⟨w.heap.size, 0, none⟩ = some (.string s) := (blk_cell E0.out 0).trans rfl
    go_wp2
    refine bodyPost_ret (results_ct rfl _ _ (w.heap.size + 1) 24 #[.int .i64 0, .int .i64 0, .int .i64 0] (0, 0) _ rfl (by (with_reducible repeat (first | refine blk_drewN ?_ _ | refine blk_drew ?_ | refine blk_alloc ?_ _)); refine blk_put (cs := #[.int .i64 0, .int .i64 0, .int .i64 0]) ?_ 2 _ rfl; refine blk_put (cs := #[.int .i64 0, .int .i64 0, .int .i64 0]) ?_ 1 _ rfl; refine blk_put (cs := #[.int .i64 0, .int .i64 0, .int .i64 0]) ?_ 0 _ rfl; exact E1.out) Try.underlying24 rfl (by kernel_rfl)) rfl ?_
    exact ⟨rfl, by repeat (first | exact HB1.out | apply below_alloc | apply pw_below_drewN | apply below_drew | refine below_set ?_ (show w.heap.size ≤ w.heap.size + 1 by omega))⟩
set_option maxRecDepth 100000 in
set_option maxHeartbeats 2000000 in
theorem civil_Read.other (s : ByteArray) (w : World) (hs : s.size = 10) (t : ByteArray) (e0 : Int) (ht : civil_Text.f (civil_Read.n0 s) (civil_Read.n5 s) (civil_Read.n8 s) = some (t, e0)) (h0 : (e0 == 0) = true) (h0' : (e0 != 0) = false) (h3 : (t.toList == s.toList) = false) (h3' : (t.toList != s.toList) = true) :
    Calls Try.prog 25 #[.string s] w fun e w' => e = .returned (.tuple #[.agg #[.int .i64 0, .int .i64 0, .int .i64 0], .int .i64 1]) ∧ Below w.heap.size w w' := by
  have h1 : ((s.size : Int) == 10) = true := by simp; omega
  have h2 : ((s.size : Int) != 10) = false := by simp; omega
  have H := Aside0.mk hs
  have HT := Aside0.mk ht
  clear hs ht
  go_enter Try.func25, Try.ntmps25
  go_upto_region 4 with (fail)
  go_cut [5] (fun v5 wc => ∃ g : Nat, v5 = .pointer (some ⟨g, 0, none⟩) ∧ Aside0 (w.heap.size ≤ g) ∧ Aside0 (wc.heap[g]? = some (.cells #[.int .i64 (civil_Read.n0 s), .int .i64 (civil_Read.n5 s), .int .i64 (civil_Read.n8 s)] 24 (0, 0))) ∧ Aside0 (wc.heap[w.heap.size]? = some (.cells #[.string s] 9 (0, 0))) ∧ Aside0 (wc.heap[w.heap.size + 1]? = some (.cells #[.int .i64 0, .int .i64 0, .int .i64 0] 24 (0, 0))) ∧ Aside0 (Below w.heap.size w wc))
  case first =>
    have B0 := Aside0.mk (civil_Read.two w #[.string s] #[.int .i64 0, .int .i64 0, .int .i64 0] 9 24).1
    have B1 := Aside0.mk (civil_Read.two w #[.string s] #[.int .i64 0, .int .i64 0, .int .i64 0] 9 24).2
    have HB := Aside0.mk (show Below w.heap.size w _ from below_alloc (below_alloc (Below.refl _ _) (.cells #[.string s] 9)) (.cells #[.int .i64 0, .int .i64 0, .int .i64 0] 24))
    go_wp2_with (fail)
    refine (civil_Read.num0 s _ _ H.out ((blk_cell B0.out 0).trans rfl)).mono ?_
    rintro e w1 ⟨rfl, d1⟩
    have E0 := Aside0.mk ((d1.block _ (civil_Read.lt B0.out)).trans B0.out)
    have E1 := Aside0.mk ((d1.block _ (civil_Read.lt B1.out)).trans B1.out)
    have HB1 := Aside0.mk (below_step HB.out d1)
    clear B0 B1 HB d1
    go_wp2_with (fail)
    refine (civil_Read.num5 s _ _ H.out ((blk_cell E0.out 0).trans rfl)).mono ?_
    rintro e w2 ⟨rfl, d2⟩
    have F0 := Aside0.mk ((d2.block _ (civil_Read.lt E0.out)).trans E0.out)
    have F1 := Aside0.mk ((d2.block _ (civil_Read.lt E1.out)).trans E1.out)
    have HB2 := Aside0.mk (below_step HB1.out d2)
    clear E0 E1 HB1 d2
    go_wp2_with (fail)
    refine (civil_Read.num8 s _ _ H.out ((blk_cell F0.out 0).trans rfl)).mono ?_
    rintro e w3 ⟨rfl, d3⟩
    have G0 := Aside0.mk ((d3.block _ (civil_Read.lt F0.out)).trans F0.out)
    have G1 := Aside0.mk ((d3.block _ (civil_Read.lt F1.out)).trans F1.out)
    have HB3 := Aside0.mk (below_step HB2.out d3)
    clear F0 F1 HB2 d3
    go_wp2
    go_meet
    case rel => exact ⟨w3.heap.size, rfl, ⟨below_size HB3.out⟩, ⟨civil_Read.last w3 _ _⟩, ⟨blk_alloc G0.out _⟩, ⟨blk_alloc G1.out _⟩, ⟨below_alloc HB3.out _⟩⟩
  case rest =>
    obtain ⟨g, rfl, GE, BG, B0, B1, HB⟩ := hcut
    have q0 : wc.cell? ⟨g, 0, none⟩ = some (.int .i64 (civil_Read.n0 s)) := (blk_cell BG.out 0).trans rfl
    have q1 : wc.cell? ⟨g, 1, none⟩ = some (.int .i64 (civil_Read.n5 s)) := (blk_cell BG.out 1).trans rfl
    have q2 : wc.cell? ⟨g, 2, none⟩ = some (.int .i64 (civil_Read.n8 s)) := (blk_cell BG.out 2).trans rfl
    go_wp2_with (fail)
    refine (civil_Text.calls _ _ _ _ _ _ HT.out).mono ?_
    rintro e w4 ⟨rfl, d4⟩
    have E0 := Aside0.mk ((d4.block _ (civil_Read.lt B0.out)).trans B0.out)
    have E1 := Aside0.mk ((d4.block _ (civil_Read.lt B1.out)).trans B1.out)
    have EG := Aside0.mk ((d4.block _ (civil_Read.lt BG.out)).trans BG.out)
    have HB1 := Aside0.mk (below_step HB.out d4)
    clear B0 B1 BG HB d4 q0 q1 q2
    have q0 : w4.cell? ⟨g, 0, none⟩ = some (.int .i64 (civil_Read.n0 s)) := (blk_cell EG.out 0).trans rfl
    have q1 : w4.cell? ⟨g, 1, none⟩ = some (.int .i64 (civil_Read.n5 s)) := (blk_cell EG.out 1).trans rfl
    have q2 : w4.cell? ⟨g, 2, none⟩ = some (.int .i64 (civil_Read.n8 s)) := (blk_cell EG.out 2).trans rfl
    have p0 : w4.cell? ⟨w.heap.size + 1, 0, none⟩ = some (.int .i64 0) := (blk_cell E1.out 0).trans rfl
    have p1 : w4.cell? ⟨w.heap.size + 1, 1, none⟩ = some (.int .i64 0) := (blk_cell E1.out 1).trans rfl
    have p2 : w4.cell? ⟨w.heap.size + 1, 2, none⟩ = some (.int .i64 0) := (blk_cell E1.out 2).trans rfl
    have f0 := blk_frozen E1.out 0
    have f1 := blk_frozen E1.out 1
    have f2 := blk_frozen E1.out 2
    have r0 : w4.cell? ⟨w.heap.size, 0, none⟩ = some (.string s) := (blk_cell E0.out 0).trans rfl
    go_wp2
    refine bodyPost_ret (results_ct rfl _ _ (w.heap.size + 1) 24 #[.int .i64 0, .int .i64 0, .int .i64 0] (0, 0) _ rfl (by (with_reducible repeat (first | refine blk_drewN ?_ _ | refine blk_drew ?_ | refine blk_alloc ?_ _)); refine blk_put (cs := #[.int .i64 0, .int .i64 0, .int .i64 0]) ?_ 2 _ rfl; refine blk_put (cs := #[.int .i64 0, .int .i64 0, .int .i64 0]) ?_ 1 _ rfl; refine blk_put (cs := #[.int .i64 0, .int .i64 0, .int .i64 0]) ?_ 0 _ rfl; exact E1.out) Try.underlying24 rfl (by kernel_rfl)) rfl ?_
    exact ⟨rfl, by repeat (first | exact HB1.out | apply below_alloc | apply pw_below_drewN | apply below_drew | refine below_set ?_ (show w.heap.size ≤ w.heap.size + 1 by omega))⟩
set_option maxRecDepth 100000 in
set_option maxHeartbeats 2000000 in
theorem civil_Read.good (s : ByteArray) (w : World) (hs : s.size = 10) (t : ByteArray) (e0 : Int) (ht : civil_Text.f (civil_Read.n0 s) (civil_Read.n5 s) (civil_Read.n8 s) = some (t, e0)) (h0 : (e0 == 0) = true) (h0' : (e0 != 0) = false) (h3 : (t.toList == s.toList) = true) (h3' : (t.toList != s.toList) = false) :
    Calls Try.prog 25 #[.string s] w fun e w' => e = .returned (.tuple #[.agg #[.int .i64 (civil_Read.n0 s), .int .i64 (civil_Read.n5 s), .int .i64 (civil_Read.n8 s)], .int .i64 0]) ∧ Below w.heap.size w w' := by
  have h1 : ((s.size : Int) == 10) = true := by simp; omega
  have h2 : ((s.size : Int) != 10) = false := by simp; omega
  have H := Aside0.mk hs
  have HT := Aside0.mk ht
  clear hs ht
  go_enter Try.func25, Try.ntmps25
  go_upto_region 4 with (fail)
  go_cut [5] (fun v5 wc => ∃ g : Nat, v5 = .pointer (some ⟨g, 0, none⟩) ∧ Aside0 (w.heap.size ≤ g) ∧ Aside0 (wc.heap[g]? = some (.cells #[.int .i64 (civil_Read.n0 s), .int .i64 (civil_Read.n5 s), .int .i64 (civil_Read.n8 s)] 24 (0, 0))) ∧ Aside0 (wc.heap[w.heap.size]? = some (.cells #[.string s] 9 (0, 0))) ∧ Aside0 (wc.heap[w.heap.size + 1]? = some (.cells #[.int .i64 0, .int .i64 0, .int .i64 0] 24 (0, 0))) ∧ Aside0 (Below w.heap.size w wc))
  case first =>
    have B0 := Aside0.mk (civil_Read.two w #[.string s] #[.int .i64 0, .int .i64 0, .int .i64 0] 9 24).1
    have B1 := Aside0.mk (civil_Read.two w #[.string s] #[.int .i64 0, .int .i64 0, .int .i64 0] 9 24).2
    have HB := Aside0.mk (show Below w.heap.size w _ from below_alloc (below_alloc (Below.refl _ _) (.cells #[.string s] 9)) (.cells #[.int .i64 0, .int .i64 0, .int .i64 0] 24))
    go_wp2_with (fail)
    refine (civil_Read.num0 s _ _ H.out ((blk_cell B0.out 0).trans rfl)).mono ?_
    rintro e w1 ⟨rfl, d1⟩
    have E0 := Aside0.mk ((d1.block _ (civil_Read.lt B0.out)).trans B0.out)
    have E1 := Aside0.mk ((d1.block _ (civil_Read.lt B1.out)).trans B1.out)
    have HB1 := Aside0.mk (below_step HB.out d1)
    clear B0 B1 HB d1
    go_wp2_with (fail)
    refine (civil_Read.num5 s _ _ H.out ((blk_cell E0.out 0).trans rfl)).mono ?_
    rintro e w2 ⟨rfl, d2⟩
    have F0 := Aside0.mk ((d2.block _ (civil_Read.lt E0.out)).trans E0.out)
    have F1 := Aside0.mk ((d2.block _ (civil_Read.lt E1.out)).trans E1.out)
    have HB2 := Aside0.mk (below_step HB1.out d2)
    clear E0 E1 HB1 d2
    go_wp2_with (fail)
    refine (civil_Read.num8 s _ _ H.out ((blk_cell F0.out 0).trans rfl)).mono ?_
    rintro e w3 ⟨rfl, d3⟩
    have G0 := Aside0.mk ((d3.block _ (civil_Read.lt F0.out)).trans F0.out)
    have G1 := Aside0.mk ((d3.block _ (civil_Read.lt F1.out)).trans F1.out)
    have HB3 := Aside0.mk (below_step HB2.out d3)
    clear F0 F1 HB2 d3
    go_wp2
    go_meet
    case rel => exact ⟨w3.heap.size, rfl, ⟨below_size HB3.out⟩, ⟨civil_Read.last w3 _ _⟩, ⟨blk_alloc G0.out _⟩, ⟨blk_alloc G1.out _⟩, ⟨below_alloc HB3.out _⟩⟩
  case rest =>
    obtain ⟨g, rfl, GE, BG, B0, B1, HB⟩ := hcut
    have q0 : wc.cell? ⟨g, 0, none⟩ = some (.int .i64 (civil_Read.n0 s)) := (blk_cell BG.out 0).trans rfl
    have q1 : wc.cell? ⟨g, 1, none⟩ = some (.int .i64 (civil_Read.n5 s)) := (blk_cell BG.out 1).trans rfl
    have q2 : wc.cell? ⟨g, 2, none⟩ = some (.int .i64 (civil_Read.n8 s)) := (blk_cell BG.out 2).trans rfl
    go_wp2_with (fail)
    refine (civil_Text.calls _ _ _ _ _ _ HT.out).mono ?_
    rintro e w4 ⟨rfl, d4⟩
    have E0 := Aside0.mk ((d4.block _ (civil_Read.lt B0.out)).trans B0.out)
    have E1 := Aside0.mk ((d4.block _ (civil_Read.lt B1.out)).trans B1.out)
    have EG := Aside0.mk ((d4.block _ (civil_Read.lt BG.out)).trans BG.out)
    have HB1 := Aside0.mk (below_step HB.out d4)
    clear B0 B1 BG HB d4 q0 q1 q2
    have q0 : w4.cell? ⟨g, 0, none⟩ = some (.int .i64 (civil_Read.n0 s)) := (blk_cell EG.out 0).trans rfl
    have q1 : w4.cell? ⟨g, 1, none⟩ = some (.int .i64 (civil_Read.n5 s)) := (blk_cell EG.out 1).trans rfl
    have q2 : w4.cell? ⟨g, 2, none⟩ = some (.int .i64 (civil_Read.n8 s)) := (blk_cell EG.out 2).trans rfl
    have p0 : w4.cell? ⟨w.heap.size + 1, 0, none⟩ = some (.int .i64 0) := (blk_cell E1.out 0).trans rfl
    have p1 : w4.cell? ⟨w.heap.size + 1, 1, none⟩ = some (.int .i64 0) := (blk_cell E1.out 1).trans rfl
    have p2 : w4.cell? ⟨w.heap.size + 1, 2, none⟩ = some (.int .i64 0) := (blk_cell E1.out 2).trans rfl
    have f0 := blk_frozen E1.out 0
    have f1 := blk_frozen E1.out 1
    have f2 := blk_frozen E1.out 2
    have r0 : w4.cell? ⟨w.heap.size, 0, none⟩ = some (.string s) := (blk_cell E0.out 0).trans rfl
    go_wp2
    refine bodyPost_ret (results_ct rfl _ _ (w.heap.size + 1) 24 #[.int .i64 (civil_Read.n0 s), .int .i64 (civil_Read.n5 s), .int .i64 (civil_Read.n8 s)] (0, 0) _ rfl (by (with_reducible repeat (first | refine blk_drewN ?_ _ | refine blk_drew ?_ | refine blk_alloc ?_ _)); refine blk_put (cs := #[.int .i64 (civil_Read.n0 s), .int .i64 (civil_Read.n5 s), .int .i64 0]) ?_ 2 _ rfl; refine blk_put (cs := #[.int .i64 (civil_Read.n0 s), .int .i64 0, .int .i64 0]) ?_ 1 _ rfl; refine blk_put (cs := #[.int .i64 0, .int .i64 0, .int .i64 0]) ?_ 0 _ rfl; exact E1.out) Try.underlying24 rfl (by kernel_rfl)) rfl ?_
    exact ⟨rfl, by repeat (first | exact HB1.out | apply below_alloc | apply pw_below_drewN | apply below_drew | refine below_set ?_ (show w.heap.size ≤ w.heap.size + 1 by omega))⟩
theorem civil_Read.calls (a0 : ByteArray) (r1 : Int) (r2 : Int) (r3 : Int) (r4 : Int) (w : World) (h : civil_Read.f a0 = some (r1, r2, r3, r4)) :
    Calls Try.prog 25 #[.string a0] w fun e w' => e = .returned (.tuple #[.agg #[.int .i64 r1, .int .i64 r2, .int .i64 r3], .int .i64 r4]) ∧ Below w.heap.size w w' := by
  unfold civil_Read.f at h
  by_cases hs : a0.size = 10
  · have ht : civil_Text.f (civil_Read.n0 a0) (civil_Read.n5 a0) (civil_Read.n8 a0) = some (Civ.textE (civil_Read.n0 a0) (civil_Read.n5 a0) (civil_Read.n8 a0)) := rfl
    unfold Civ.textE at ht
    by_cases c : Civ.ok (civil_Read.n0 a0) (civil_Read.n5 a0) (civil_Read.n8 a0)
    · rw [if_pos c] at ht
      by_cases q : (Civ.text (civil_Read.n0 a0) (civil_Read.n5 a0) (civil_Read.n8 a0)).toList = a0.toList
      · rw [if_pos ⟨hs, c, q⟩] at h
        simp only [Option.some.injEq, Prod.mk.injEq] at h
        obtain ⟨rfl, rfl, rfl, rfl⟩ := h
        exact civil_Read.good a0 w hs _ 0 ht rfl rfl (by simpa using q) (by simpa using q)
      · rw [if_neg (fun z => q z.2.2)] at h
        simp only [Option.some.injEq, Prod.mk.injEq] at h
        obtain ⟨rfl, rfl, rfl, rfl⟩ := h
        exact civil_Read.other a0 w hs _ 0 ht rfl rfl (by simpa using q) (by simpa using q)
    · rw [if_neg c] at ht
      rw [if_neg (fun z => c z.2.1)] at h
      simp only [Option.some.injEq, Prod.mk.injEq] at h
      obtain ⟨rfl, rfl, rfl, rfl⟩ := h
      exact civil_Read.bad a0 w hs _ 5 ht rfl rfl
  · rw [if_neg (fun z => hs z.1)] at h
    simp only [Option.some.injEq, Prod.mk.injEq] at h
    obtain ⟨rfl, rfl, rfl, rfl⟩ := h
    exact civil_Read.short a0 w hs

/-! ### period_place: function 43 -/
def period_place.j0 : Nat → Int → Bool → Int → Int → Int → Option (Int × Int)
 | 0, _, _, _, _, _ => none
 | k + 1, x1, x14, x209000, x209001, x209002 => if x14 = true then (some (0, 8)) else ((civil_Days.f x209000 x209001 x209002).bind fun bt209 => (if bt209.2 = 0 then (if x209002 < x1 then (some (wrap64 ((wrap64 ((wrap64 (12 * (wrap64 (x209000 - 1)))) + x209001)) - 1), 0)) else (some (wrap64 ((wrap64 (12 * (wrap64 (x209000 - 1)))) + x209001), 0))) else (some (0, bt209.2))))
def period_place.f (k : Nat) (a0_0 : Int) (a0_1 : Int) (a0_2 : Int) (a1 : Int) : Option (Int × Int) := if a1 < 1 then (period_place.j0 k a1 true a0_0 a0_1 a0_2) else (period_place.j0 k a1 (decide (a1 > 28)) a0_0 a0_1 a0_2)
theorem period_place.mono_l : ∀ k, (∀ y0 y1 y2 y3 y4, LeO (period_place.j0 k y0 y1 y2 y3 y4) (period_place.j0 (k + 1) y0 y1 y2 y3 y4))
 | 0 => fun _ _ _ _ _ r h => by simp [period_place.j0] at h
 | k + 1 => by
  have ih0 := period_place.mono_l k
  ·intro y0 y1 y2 y3 y4
   unfold period_place.j0
   repeat' first
   | (with_reducible exact ih0 _ _ _ _ _)
   | (with_reducible exact LeO.refl _)
   | (with_reducible exact LeO.none _)
   | (with_reducible refine LeO.ite ?_ ?_)
   | (with_reducible refine LeO.bind ?_ (fun _ => ?_))
   | exact ih0 _ _ _ _ _
   | exact LeO.none _
   | refine LeO.ite ?_ ?_
   | refine LeO.bind ?_ (fun _ => ?_)
theorem period_place.mono : ∀ a0 a1 a2 a3 k, LeO (period_place.f k a0 a1 a2 a3) (period_place.f (k + 1) a0 a1 a2 a3) := by
 intro a0 a1 a2 a3 k
 have ih0 := period_place.mono_l k
 unfold period_place.f
 repeat' first
   | (with_reducible exact ih0 _ _ _ _ _)
   | (with_reducible exact LeO.refl _)
   | (with_reducible exact LeO.none _)
   | (with_reducible refine LeO.ite ?_ ?_)
   | (with_reducible refine LeO.bind ?_ (fun _ => ?_))
   | exact ih0 _ _ _ _ _
   | exact LeO.none _
   | refine LeO.ite ?_ ?_
   | refine LeO.bind ?_ (fun _ => ?_)
set_option maxHeartbeats 8000000 in
set_option maxRecDepth 100000 in
theorem period_place.calls (k : Nat) (a0_0 : Int) (a0_1 : Int) (a0_2 : Int) (a1 : Int) (r1 : Int) (r2 : Int) (w : World) (h : period_place.f k a0_0 a0_1 a0_2 a1 = some (r1, r2)) :
  Calls Try.prog 43 #[.agg #[.int .i64 a0_0, .int .i64 a0_1, .int .i64 a0_2], .int .i64 a1] w fun e w' => e = .returned (.tuple #[.int .i64 r1, .int .i64 r2]) ∧ Below w.heap.size w w' := by
 have hu24 := Try.underlying24
 have HB := Aside0.mk (Below.refl w.heap.size w)
 have H : (if a1 < 1 then (period_place.j0 k a1 true a0_0 a0_1 a0_2) else (period_place.j0 k a1 (decide (a1 > 28)) a0_0 a0_1 a0_2)) = some (r1, r2) := h
 clear h
 have HC3 := Aside0.mk H
 clear H
 go_enter Try.func43, Try.ntmps43
 go_upto_region 1 with (first | ((with_reducible refine gate_dst (N := 2) rfl ?_); refine box_event ?hg (N := 2) ?hd (cs := #[.int .i64 a0_0, .int .i64 a0_1, .int .i64 a0_2]) (t := 24) ?hr ?_; (case hd => rfl); (case hg => rfl); (case hr => first | (go_simp; done) | (go_simp; rfl)); intro gb208 hg w4 hbox hb; have n0_ := Aside0.mk (below_step (by repeat (first | (with_reducible first | exact HB.out | apply below_alloc | apply pw_below_drewN | apply below_drew1) | exact HB.out)) hb); have n1_ := Aside0.mk (hbox); have n2_ := Aside0.mk ((by rw [hg]; exact (below_size (by repeat (first | (with_reducible first | exact HB.out | apply below_alloc | apply pw_below_drewN | apply below_drew1) | exact HB.out))) : w.heap.size ≤ gb208)); have n3_ := Aside0.mk ((by rw [hg]; exact (below_size (by repeat (first | (with_reducible first | exact HB.out | apply below_alloc | apply pw_below_drewN | apply below_drew1) | exact HB.out))) : w.heap.size ≤ gb208)); clear HB; have HB := n0_; have BK208 := n1_; have GW208 := n2_; have GE208 := n3_; clear n0_ n1_ n2_ n3_; clear hb hbox hg))
 (try simp only [Act.put, List.setIfInBounds_toArray, List.set_cons_zero, List.set_cons_succ])
 go_cut [14] (fun v14 wc => ∃ (kq : Nat) (x14_2 : Bool), v14 = .bool x14_2 ∧ Aside0 (period_place.j0 kq a1 x14_2 a0_0 a0_1 a0_2 = some (r1, r2)) ∧ Aside0 (kq ≤ k) ∧ Aside0 (wc.heap[gb208]? = some (.cells #[.int .i64 a0_0, .int .i64 a0_1, .int .i64 a0_2] 24 (0, 0))) ∧ Aside0 (Below w.heap.size w wc))
 case first =>
  have H := HC3.out
  clear HC3
  by_cases c5 : a1 < 1
  ·rw [if_pos c5] at H
   have c5b0 : decide (a1 < 1) = true := decide_eq_true c5
   clear c5
   (first | rw [c5b0] | (simp only [i64_w, i32_w]; rw [c5b0]) | skip)
   have H' := Aside0.mk H
   clear H
   go_wp2
   go_meet
   case rel => exact ⟨_, (true), (by first | rfl | (simp; done) | (simp [*]; done)), H', ⟨by first | omega | exact Nat.le_refl _⟩, ⟨by (with_reducible repeat first|refine blk_drewN ?_ _|refine blk_drew ?_|refine blk_alloc ?_ _); exact BK208.out⟩, ⟨by repeat (first | (with_reducible first | exact HB.out | apply below_alloc | apply pw_below_drewN | apply below_drew1 | refine below_set ?_ GE208.out) | exact HB.out)⟩⟩
  ·rw [if_neg c5] at H
   have c5b0 : decide (a1 < 1) = false := decide_eq_false c5
   clear c5
   (first | rw [c5b0] | (simp only [i64_w, i32_w]; rw [c5b0]) | skip)
   have H' := Aside0.mk H
   clear H
   go_wp2
   go_meet
   case rel => exact ⟨_, (decide (a1 > 28)), (by first | rfl | (simp; done) | (simp [*]; done)), H', ⟨by first | omega | exact Nat.le_refl _⟩, ⟨by (with_reducible repeat first|refine blk_drewN ?_ _|refine blk_drew ?_|refine blk_alloc ?_ _); exact BK208.out⟩, ⟨by repeat (first | (with_reducible first | exact HB.out | apply below_alloc | apply pw_below_drewN | apply below_drew1 | refine below_set ?_ GE208.out) | exact HB.out)⟩⟩
 case rest =>
  clear HC3
  try clear p2
  try clear c4
  try clear c5
  try clear c5b0
  obtain ⟨kq, x14_2, rfl, HA, HJ2, BK208, HB⟩ := hcut
  cases kq with
  | zero => exact absurd HA.out (by simp [period_place.j0])
  | succ kj2 =>
   have H := HA.out
   clear HA
   simp only [period_place.j0] at H
   by_cases c6 : x14_2 = true
   ·subst c6
    have H1 : (some (0, 8)) = some (r1, r2) := by rw [if_pos rfl] at H; exact H
    clear H
    have H := H1
    clear H1
    simp only [Option.some.injEq, Prod.mk.injEq] at H
    obtain ⟨rfl, rfl⟩ := H
    go_wp2
    go_ret2
    exact ⟨by first | rfl | (simp [errW_none, errW_some] <;> rfl) | (simp [*, errW_none, errW_some] <;> rfl), by repeat (first | (with_reducible first | exact HB.out | apply below_alloc | apply pw_below_drewN | apply below_drew1 | refine below_set ?_ GE208.out) | exact HB.out)⟩
   ·replace c6 := Bool.eq_false_iff.mpr c6
    subst c6
    have H1 : ((civil_Days.f a0_0 a0_1 a0_2).bind fun bt209 => (if bt209.2 = 0 then (if a0_2 < a1 then (some (wrap64 ((wrap64 ((wrap64 (12 * (wrap64 (a0_0 - 1)))) + a0_1)) - 1), 0)) else (some (wrap64 ((wrap64 (12 * (wrap64 (a0_0 - 1)))) + a0_1), 0))) else (some (0, bt209.2)))) = some (r1, r2) := by rw [if_neg (show ¬ (false = true) by decide)] at H; exact H
    clear H
    have H := H1
    clear H1
    replace H := Option.bind_eq_some_iff.mp H
    obtain ⟨⟨t209, t210⟩, A70, H⟩ := H
    replace H : (if t210 = 0 then (if a0_2 < a1 then (some (wrap64 ((wrap64 ((wrap64 (12 * (wrap64 (a0_0 - 1)))) + a0_1)) - 1), 0)) else (some (wrap64 ((wrap64 (12 * (wrap64 (a0_0 - 1)))) + a0_1), 0))) else (some (0, t210))) = some (r1, r2) := H
    have A7 := Aside0.mk A70
    clear A70
    by_cases c8 : t210 = 0
    ·rw [if_pos c8] at H
     have c8b0 : (t210 == 0) = true := beq_iff_eq.mpr c8
     have c8b1 : (t210 != 0) = false := bne_eq_false_iff_eq.mpr c8
     clear c8
     by_cases c9 : a0_2 < a1
     ·rw [if_pos c9] at H
      have c9b0 : decide (a0_2 < a1) = true := decide_eq_true c9
      clear c9
      simp only [Option.some.injEq, Prod.mk.injEq] at H
      obtain ⟨rfl, rfl⟩ := H
      have hcz10_0 : wc.cell? ⟨gb208, 0, none⟩ = some (.int .i64 a0_0) := (blk_cell BK208.out 0).trans rfl
      have hcz10_1 : wc.cell? ⟨gb208, 1, none⟩ = some (.int .i64 a0_1) := (blk_cell BK208.out 1).trans rfl
      have hcz10_2 : wc.cell? ⟨gb208, 2, none⟩ = some (.int .i64 a0_2) := (blk_cell BK208.out 2).trans rfl
      have hfz10_0 := blk_frozen BK208.out 0
      have hfz10_1 := blk_frozen BK208.out 1
      have hfz10_2 := blk_frozen BK208.out 2
      go_wp2_with (first | ((with_reducible refine gate_callee (f := 19) rfl ?_); refine goesL_ (some 17) rfl rfl Try.func19 (by kernel_rfl) rfl #[.agg #[.int .i64 a0_0, .int .i64 a0_1, .int .i64 a0_2]] rfl (by (try simp only [List.map_toArray, List.map_cons, List.map_nil]); first | done | rfl | (simp only [List.length_drop, List.length_take]; rfl)) ?_; (with_reducible refine (civil_Days.calls a0_0 a0_1 a0_2 t209 t210 _ A7.out).mono ?_); rintro e w11 ⟨rfl, hb⟩; refine ⟨_, rfl, ?_⟩; have n0_ := Aside0.mk (blk_below (g := gb208) (o := .cells #[.int .i64 a0_0, .int .i64 a0_1, .int .i64 a0_2] 24 (0, 0)) (by (with_reducible repeat first|refine blk_drewN ?_ _|refine blk_drew ?_|refine blk_alloc ?_ _); exact BK208.out) hb); have n1_ := Aside0.mk (below_step (by repeat (first | (with_reducible first | exact HB.out | apply below_alloc | apply pw_below_drewN | apply below_drew1 | refine below_set ?_ GE208.out) | exact HB.out)) hb); clear BK208; clear HB; have BK208 := n0_; have HB := n1_; clear n0_ n1_; (try clear hb); (try clear hb2); (try clear hk); (try clear hi); have hcz12_0 : w11.cell? ⟨gb208, 0, none⟩ = some (.int .i64 a0_0) := (blk_cell BK208.out 0).trans rfl; have hcz12_1 : w11.cell? ⟨gb208, 1, none⟩ = some (.int .i64 a0_1) := (blk_cell BK208.out 1).trans rfl; have hcz12_2 : w11.cell? ⟨gb208, 2, none⟩ = some (.int .i64 a0_2) := (blk_cell BK208.out 2).trans rfl; have hfz12_0 := blk_frozen BK208.out 0; have hfz12_1 := blk_frozen BK208.out 1; have hfz12_2 := blk_frozen BK208.out 2))
      go_ret2
      exact ⟨by first | rfl | (simp [errW_none, errW_some] <;> rfl) | (simp [*, errW_none, errW_some] <;> rfl), by repeat (first | (with_reducible first | exact HB.out | apply below_alloc | apply pw_below_drewN | apply below_drew1 | refine below_set ?_ GE208.out) | exact HB.out)⟩
     ·rw [if_neg c9] at H
      have c9b0 : decide (a0_2 < a1) = false := decide_eq_false c9
      clear c9
      simp only [Option.some.injEq, Prod.mk.injEq] at H
      obtain ⟨rfl, rfl⟩ := H
      have hcz13_0 : wc.cell? ⟨gb208, 0, none⟩ = some (.int .i64 a0_0) := (blk_cell BK208.out 0).trans rfl
      have hcz13_1 : wc.cell? ⟨gb208, 1, none⟩ = some (.int .i64 a0_1) := (blk_cell BK208.out 1).trans rfl
      have hcz13_2 : wc.cell? ⟨gb208, 2, none⟩ = some (.int .i64 a0_2) := (blk_cell BK208.out 2).trans rfl
      have hfz13_0 := blk_frozen BK208.out 0
      have hfz13_1 := blk_frozen BK208.out 1
      have hfz13_2 := blk_frozen BK208.out 2
      go_wp2_with (first | ((with_reducible refine gate_callee (f := 19) rfl ?_); refine goesL_ (some 17) rfl rfl Try.func19 (by kernel_rfl) rfl #[.agg #[.int .i64 a0_0, .int .i64 a0_1, .int .i64 a0_2]] rfl (by (try simp only [List.map_toArray, List.map_cons, List.map_nil]); first | done | rfl | (simp only [List.length_drop, List.length_take]; rfl)) ?_; (with_reducible refine (civil_Days.calls a0_0 a0_1 a0_2 t209 t210 _ A7.out).mono ?_); rintro e w14 ⟨rfl, hb⟩; refine ⟨_, rfl, ?_⟩; have n0_ := Aside0.mk (blk_below (g := gb208) (o := .cells #[.int .i64 a0_0, .int .i64 a0_1, .int .i64 a0_2] 24 (0, 0)) (by (with_reducible repeat first|refine blk_drewN ?_ _|refine blk_drew ?_|refine blk_alloc ?_ _); exact BK208.out) hb); have n1_ := Aside0.mk (below_step (by repeat (first | (with_reducible first | exact HB.out | apply below_alloc | apply pw_below_drewN | apply below_drew1 | refine below_set ?_ GE208.out) | exact HB.out)) hb); clear BK208; clear HB; have BK208 := n0_; have HB := n1_; clear n0_ n1_; (try clear hb); (try clear hb2); (try clear hk); (try clear hi); have hcz15_0 : w14.cell? ⟨gb208, 0, none⟩ = some (.int .i64 a0_0) := (blk_cell BK208.out 0).trans rfl; have hcz15_1 : w14.cell? ⟨gb208, 1, none⟩ = some (.int .i64 a0_1) := (blk_cell BK208.out 1).trans rfl; have hcz15_2 : w14.cell? ⟨gb208, 2, none⟩ = some (.int .i64 a0_2) := (blk_cell BK208.out 2).trans rfl; have hfz15_0 := blk_frozen BK208.out 0; have hfz15_1 := blk_frozen BK208.out 1; have hfz15_2 := blk_frozen BK208.out 2))
      go_ret2
      exact ⟨by first | rfl | (simp [errW_none, errW_some] <;> rfl) | (simp [*, errW_none, errW_some] <;> rfl), by repeat (first | (with_reducible first | exact HB.out | apply below_alloc | apply pw_below_drewN | apply below_drew1 | refine below_set ?_ GE208.out) | exact HB.out)⟩
    ·rw [if_neg c8] at H
     have c8b0 : (t210 == 0) = false := beq_eq_false_iff_ne.mpr c8
     have c8b1 : (t210 != 0) = true := bne_iff_ne.mpr c8
     simp only [Option.some.injEq, Prod.mk.injEq] at H
     obtain ⟨rfl, rfl⟩ := H
     have hcz16_0 : wc.cell? ⟨gb208, 0, none⟩ = some (.int .i64 a0_0) := (blk_cell BK208.out 0).trans rfl
     have hcz16_1 : wc.cell? ⟨gb208, 1, none⟩ = some (.int .i64 a0_1) := (blk_cell BK208.out 1).trans rfl
     have hcz16_2 : wc.cell? ⟨gb208, 2, none⟩ = some (.int .i64 a0_2) := (blk_cell BK208.out 2).trans rfl
     have hfz16_0 := blk_frozen BK208.out 0
     have hfz16_1 := blk_frozen BK208.out 1
     have hfz16_2 := blk_frozen BK208.out 2
     go_wp2_with (first | ((with_reducible refine gate_callee (f := 19) rfl ?_); refine goesL_ (some 17) rfl rfl Try.func19 (by kernel_rfl) rfl #[.agg #[.int .i64 a0_0, .int .i64 a0_1, .int .i64 a0_2]] rfl (by (try simp only [List.map_toArray, List.map_cons, List.map_nil]); first | done | rfl | (simp only [List.length_drop, List.length_take]; rfl)) ?_; (with_reducible refine (civil_Days.calls a0_0 a0_1 a0_2 t209 t210 _ A7.out).mono ?_); rintro e w17 ⟨rfl, hb⟩; refine ⟨_, rfl, ?_⟩; have n0_ := Aside0.mk (blk_below (g := gb208) (o := .cells #[.int .i64 a0_0, .int .i64 a0_1, .int .i64 a0_2] 24 (0, 0)) (by (with_reducible repeat first|refine blk_drewN ?_ _|refine blk_drew ?_|refine blk_alloc ?_ _); exact BK208.out) hb); have n1_ := Aside0.mk (below_step (by repeat (first | (with_reducible first | exact HB.out | apply below_alloc | apply pw_below_drewN | apply below_drew1 | refine below_set ?_ GE208.out) | exact HB.out)) hb); clear BK208; clear HB; have BK208 := n0_; have HB := n1_; clear n0_ n1_; (try clear hb); (try clear hb2); (try clear hk); (try clear hi)))
     go_ret2
     exact ⟨by first | rfl | (simp [errW_none, errW_some] <;> rfl) | (simp [*, errW_none, errW_some] <;> rfl), by repeat (first | (with_reducible first | exact HB.out | apply below_alloc | apply pw_below_drewN | apply below_drew1 | refine below_set ?_ GE208.out) | exact HB.out)⟩

end Go.Proofs.Ytipldjcncfoffaa.PX
