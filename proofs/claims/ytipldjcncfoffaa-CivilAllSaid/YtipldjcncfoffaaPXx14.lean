/- Functions of the program as plain Lean functions, each with a proof that the call in the machine answers just what the plain function says; condition: the plain function answers at all. -/
import Derived.Test.YtipldjcncfoffaaPXx0
import Derived.Test.YtipldjcncfoffaaPXx1
import Derived.Test.YtipldjcncfoffaaPXx3
namespace Go.Proofs.Ytipldjcncfoffaa.PX
open Go.RowKit Go.Proofs.YtipldjcncfoffaaW.PrintWords Go.Proofs.YtipldjcncfoffaaW.PrintLast Go.Proofs.YtipldjcncfoffaaW.PrintMore
attribute [local go_sem] max2_int min2_int max_two min_two max_three min_three max_four min_four   -- for this text's walks alone
set_option linter.unusedVariables false
set_option linter.unusedSimpArgs false

attribute [local go_sem high] eqA24
/-! ### pylonref03_digits: function 53 -/
def pylonref03_digits.f (a0 : Int) (a1 : Int) : Option (ByteArray) :=
  if 0 ≤ a0 ∧ a0 ≤ 9999 then if a1 = 4 then some ⟨#[Civ.dig (a0 / 1000), Civ.dig (a0 / 100), Civ.dig (a0 / 10), Civ.dig a0]⟩ else if a1 = 2 then some ⟨#[Civ.dig (a0 / 10), Civ.dig a0]⟩ else none else none
theorem pylonref03_digits.d0 (W : World) : (convert 21 9 (.int .i32 48)).run Try.prog W = .ok (.string ⟨#[48]⟩) W := by kernel_rfl
theorem pylonref03_digits.d1 (W : World) : (convert 21 9 (.int .i32 49)).run Try.prog W = .ok (.string ⟨#[49]⟩) W := by kernel_rfl
theorem pylonref03_digits.d2 (W : World) : (convert 21 9 (.int .i32 50)).run Try.prog W = .ok (.string ⟨#[50]⟩) W := by kernel_rfl
theorem pylonref03_digits.d3 (W : World) : (convert 21 9 (.int .i32 51)).run Try.prog W = .ok (.string ⟨#[51]⟩) W := by kernel_rfl
theorem pylonref03_digits.d4 (W : World) : (convert 21 9 (.int .i32 52)).run Try.prog W = .ok (.string ⟨#[52]⟩) W := by kernel_rfl
theorem pylonref03_digits.d5 (W : World) : (convert 21 9 (.int .i32 53)).run Try.prog W = .ok (.string ⟨#[53]⟩) W := by kernel_rfl
theorem pylonref03_digits.d6 (W : World) : (convert 21 9 (.int .i32 54)).run Try.prog W = .ok (.string ⟨#[54]⟩) W := by kernel_rfl
theorem pylonref03_digits.d7 (W : World) : (convert 21 9 (.int .i32 55)).run Try.prog W = .ok (.string ⟨#[55]⟩) W := by kernel_rfl
theorem pylonref03_digits.d8 (W : World) : (convert 21 9 (.int .i32 56)).run Try.prog W = .ok (.string ⟨#[56]⟩) W := by kernel_rfl
theorem pylonref03_digits.d9 (W : World) : (convert 21 9 (.int .i32 57)).run Try.prog W = .ok (.string ⟨#[57]⟩) W := by kernel_rfl
theorem pylonref03_digits.rune (m : Int) (W : World) : (convert 21 9 (.int .i32 (48 + m % 10))).run Try.prog W = .ok (.string ⟨#[Civ.dig m]⟩) W := by
  have h : m % 10 = 0 ∨ m % 10 = 1 ∨ m % 10 = 2 ∨ m % 10 = 3 ∨ m % 10 = 4 ∨ m % 10 = 5 ∨ m % 10 = 6 ∨ m % 10 = 7 ∨ m % 10 = 8 ∨ m % 10 = 9 := by omega
  unfold Civ.dig
  rcases h with h | h | h | h | h | h | h | h | h | h
  · rw [h, show (48 : Int) + 0 = 48 from rfl]; exact pylonref03_digits.d0 W
  · rw [h, show (48 : Int) + 1 = 49 from rfl]; exact pylonref03_digits.d1 W
  · rw [h, show (48 : Int) + 2 = 50 from rfl]; exact pylonref03_digits.d2 W
  · rw [h, show (48 : Int) + 3 = 51 from rfl]; exact pylonref03_digits.d3 W
  · rw [h, show (48 : Int) + 4 = 52 from rfl]; exact pylonref03_digits.d4 W
  · rw [h, show (48 : Int) + 5 = 53 from rfl]; exact pylonref03_digits.d5 W
  · rw [h, show (48 : Int) + 6 = 54 from rfl]; exact pylonref03_digits.d6 W
  · rw [h, show (48 : Int) + 7 = 55 from rfl]; exact pylonref03_digits.d7 W
  · rw [h, show (48 : Int) + 8 = 56 from rfl]; exact pylonref03_digits.d8 W
  · rw [h, show (48 : Int) + 9 = 57 from rfl]; exact pylonref03_digits.d9 W
set_option maxRecDepth 100000 in
theorem pylonref03_digits.two (n : Int) (w : World) (h1 : 0 ≤ n) (h2 : n ≤ 9999) :
    Calls Try.prog 53 #[.int .i64 n, .int .i64 2] w fun e w' => e = .returned (.string ⟨#[Civ.dig (n / 10), Civ.dig n]⟩) ∧ Drawn0 w w' := by
  have hr := pylonref03_digits.rune
  go_enter Try.func53, Try.ntmps53
  go_wp2
  refine wp_loop_rounds 3 ?_
  rw [rounds_succ]
  go_wp2
  rw [rounds_succ]
  go_wp2
  rw [rounds_succ]
  go_wp2
  go_ret
  exact ⟨rfl, by repeat (first | exact Drawn0.refl _ | apply Drawn0.step)⟩
set_option maxRecDepth 100000 in
theorem pylonref03_digits.four (n : Int) (w : World) (h1 : 0 ≤ n) (h2 : n ≤ 9999) :
    Calls Try.prog 53 #[.int .i64 n, .int .i64 4] w fun e w' => e = .returned (.string ⟨#[Civ.dig (n / 10 / 10 / 10), Civ.dig (n / 10 / 10), Civ.dig (n / 10), Civ.dig n]⟩) ∧ Drawn0 w w' := by
  have hr := pylonref03_digits.rune
  go_enter Try.func53, Try.ntmps53
  go_wp2
  refine wp_loop_rounds 5 ?_
  rw [rounds_succ]
  go_wp2
  rw [rounds_succ]
  go_wp2
  rw [rounds_succ]
  go_wp2
  rw [rounds_succ]
  go_wp2
  rw [rounds_succ]
  go_wp2
  go_ret
  exact ⟨rfl, by repeat (first | exact Drawn0.refl _ | apply Drawn0.step)⟩
theorem pylonref03_digits.calls (a0 : Int) (a1 : Int) (r : ByteArray) (w : World) (h : pylonref03_digits.f a0 a1 = some r) :
    Calls Try.prog 53 #[.int .i64 a0, .int .i64 a1] w fun e w' => e = .returned (.string r) ∧ Drawn0 w w' := by
  unfold pylonref03_digits.f at h
  by_cases c : 0 ≤ a0 ∧ a0 ≤ 9999
  · rw [if_pos c] at h
    by_cases c4 : a1 = 4
    · rw [if_pos c4] at h
      subst c4
      obtain rfl := Option.some.inj h
      have e := pylonref03_digits.four a0 w c.1 c.2
      rwa [show a0 / 10 / 10 / 10 = a0 / 1000 by omega, show a0 / 10 / 10 = a0 / 100 by omega] at e
    · rw [if_neg c4] at h
      by_cases c2 : a1 = 2
      · rw [if_pos c2] at h
        subst c2
        obtain rfl := Option.some.inj h
        exact pylonref03_digits.two a0 w c.1 c.2
      · rw [if_neg c2] at h; cases h
  · rw [if_neg c] at h; cases h

/-! ### pylonref03_Text: function 50 -/
def pylonref03_Text.f (k : Nat) (a0_0 : Int) (a0_1 : Int) (a0_2 : Int) : Option (ByteArray × Int) := (pylonref03_Is.f k a0_0 a0_1 a0_2).bind fun t => if t = true then if 0 ≤ a0_0 ∧ a0_0 ≤ 9999 ∧ 0 ≤ a0_1 ∧ a0_1 ≤ 9999 ∧ 0 ≤ a0_2 ∧ a0_2 ≤ 9999 then some (Civ.text a0_0 a0_1 a0_2, 0) else none else some (⟨#[]⟩, 5)
theorem pylonref03_Text.mono : ∀ a0 a1 a2 k, LeO (pylonref03_Text.f k a0 a1 a2) (pylonref03_Text.f (k + 1) a0 a1 a2) := by
  intro a0 a1 a2 k
  unfold pylonref03_Text.f
  exact LeO.bind (pylonref03_Is.mono _ _ _ _) (fun _ => LeO.refl _)
theorem pylonref03_Text.dg (n k : Int) (r : ByteArray) (h : pylonref03_digits.f n k = some r) (w : World) : Calls Try.prog 53 #[.int .i64 n, .int .i64 k] w fun e w' => e = .returned (.string r) ∧ ∃ m, w' = w.drewN m :=
  (pylonref03_digits.calls n k r w h).mono fun _ _ ⟨he, hd⟩ => ⟨he, hd.out⟩
theorem pylonref03_Text.cat (y m d : Int) : (⟨#[Civ.dig (y / 1000), Civ.dig (y / 100), Civ.dig (y / 10), Civ.dig y]⟩ ++ ⟨#[45]⟩ ++ ⟨#[Civ.dig (m / 10), Civ.dig m]⟩ ++ ⟨#[45]⟩ ++ ⟨#[Civ.dig (d / 10), Civ.dig d]⟩ : ByteArray) = Civ.text y m d := rfl
set_option maxHeartbeats 2000000 in
set_option maxRecDepth 100000 in
theorem pylonref03_Text.yes (k : Nat) (y m d : Int) (w : World) (h : pylonref03_Is.f k y m d = some true) (h1 : 0 ≤ y) (h2 : y ≤ 9999) (h3 : 0 ≤ m) (h4 : m ≤ 9999) (h5 : 0 ≤ d) (h6 : d ≤ 9999) :
    Calls Try.prog 50 #[.agg #[.int .i64 y, .int .i64 m, .int .i64 d]] w fun e w' => e = .returned (.tuple #[.string (Civ.text y m d), .int .i64 0]) ∧ Below w.heap.size w w' := by
  have HY := Aside0.mk (show pylonref03_digits.f y 4 = some _ by unfold pylonref03_digits.f; rw [if_pos ⟨h1, h2⟩, if_pos rfl])
  have HM := Aside0.mk (show pylonref03_digits.f m 2 = some _ by unfold pylonref03_digits.f; rw [if_pos ⟨h3, h4⟩, if_neg (by omega), if_pos rfl])
  have HD := Aside0.mk (show pylonref03_digits.f d 2 = some _ by unfold pylonref03_digits.f; rw [if_pos ⟨h5, h6⟩, if_neg (by omega), if_pos rfl])
  have H3 := Aside0.mk h
  clear h
  go_enter Try.func50, Try.ntmps50
  go_wp2_with (go_at_call 42; refine (pylonref03_Is.calls _ _ _ _ _ _ H3.out).mono ?_; rintro e w' ⟨rfl, hd⟩; have c0 : w'.cell? ⟨w.heap.size, 0, none⟩ = some (.int .i64 y) := (hd.cell (p := ⟨w.heap.size, 0, none⟩) (by simp)).trans (by go_simp); have c1 : w'.cell? ⟨w.heap.size, 1, none⟩ = some (.int .i64 m) := (hd.cell (p := ⟨w.heap.size, 1, none⟩) (by simp)).trans (by go_simp); have c2 : w'.cell? ⟨w.heap.size, 2, none⟩ = some (.int .i64 d) := (hd.cell (p := ⟨w.heap.size, 2, none⟩) (by simp)).trans (by go_simp); have hB := Aside0.mk (show Below w.heap.size w w' from below_step (below_alloc (Below.refl _ _) _) hd); clear hd)
  go_quiet ((go_at_call 53; first | with_reducible exact Calls.quiet_of (pylonref03_Text.dg y 4 _ HY.out _) | with_reducible exact Calls.quiet_of (pylonref03_Text.dg m 2 _ HM.out _) | with_reducible exact Calls.quiet_of (pylonref03_Text.dg d 2 _ HD.out _)))
  go_wp2
  go_ret2
  refine ⟨?_, by repeat (first | exact hB.out | apply below_alloc | apply pw_below_drewN | apply below_drew)⟩
  rw [← pylonref03_Text.cat]
  rfl
theorem pylonref03_Text.calls (k : Nat) (a0_0 : Int) (a0_1 : Int) (a0_2 : Int) (r1 : ByteArray) (r2 : Int) (w : World) (h : pylonref03_Text.f k a0_0 a0_1 a0_2 = some (r1, r2)) :
    Calls Try.prog 50 #[.agg #[.int .i64 a0_0, .int .i64 a0_1, .int .i64 a0_2]] w fun e w' => e = .returned (.tuple #[.string r1, .int .i64 r2]) ∧ Below w.heap.size w w' := by
  unfold pylonref03_Text.f at h
  obtain ⟨t, ht, h⟩ := Option.bind_eq_some_iff.mp h
  by_cases c : t = true
  · subst c
    rw [if_pos rfl] at h
    by_cases b : 0 ≤ a0_0 ∧ a0_0 ≤ 9999 ∧ 0 ≤ a0_1 ∧ a0_1 ≤ 9999 ∧ 0 ≤ a0_2 ∧ a0_2 ≤ 9999
    · rw [if_pos b] at h
      simp only [Option.some.injEq, Prod.mk.injEq] at h
      obtain ⟨rfl, rfl⟩ := h
      exact pylonref03_Text.yes k _ _ _ w ht b.1 b.2.1 b.2.2.1 b.2.2.2.1 b.2.2.2.2.1 b.2.2.2.2.2
    · rw [if_neg b] at h; cases h
  · rw [if_neg c] at h
    replace c := Bool.eq_false_iff.mpr c
    subst c
    simp only [Option.some.injEq, Prod.mk.injEq] at h
    obtain ⟨rfl, rfl⟩ := h
    have H3 := Aside0.mk ht
    clear ht
    go_enter Try.func50, Try.ntmps50
    go_wp2_with (go_at_call 42; refine (pylonref03_Is.calls _ _ _ _ _ _ H3.out).mono ?_; rintro e w' ⟨rfl, hd⟩)
    go_ret2
    exact ⟨rfl, below_step (below_alloc (Below.refl _ _) _) hd⟩

/-! ### pylonref03_Read: function 51 -/
def pylonref03_Read.good (s : ByteArray) (i : Nat) : Bool := if i = 4 ∨ i = 7 then bt s (i : Int) == 45 else decide (48 ≤ bt s (i : Int)) && decide (bt s (i : Int) ≤ 57)
/-- the three numbers behind so many bytes -/
def pylonref03_Read.st (s : ByteArray) : Nat → Int × Int × Int
  | 0 => (0, 0, 0)
  | i + 1 => if i < 4 then ((pylonref03_Read.st s i).1 * 10 + (bt s (i : Int) - 48), (pylonref03_Read.st s i).2.1, (pylonref03_Read.st s i).2.2) else if i = 4 ∨ i = 7 then pylonref03_Read.st s i
    else if i < 7 then ((pylonref03_Read.st s i).1, (pylonref03_Read.st s i).2.1 * 10 + (bt s (i : Int) - 48), (pylonref03_Read.st s i).2.2) else ((pylonref03_Read.st s i).1, (pylonref03_Read.st s i).2.1, (pylonref03_Read.st s i).2.2 * 10 + (bt s (i : Int) - 48))
def pylonref03_Read.at_ (i : Nat) : Int := if i ≤ 4 then 0 else if i ≤ 7 then 1 else 2
def pylonref03_Read.all (s : ByteArray) : Bool := (List.range 10).all (pylonref03_Read.good s)
def pylonref03_Read.f (k : Nat) (a0 : ByteArray) : Option (Int × Int × Int × Int) :=
  if a0.size = 10 then if pylonref03_Read.all a0 = true then (pylonref03_Is.f k (pylonref03_Read.st a0 10).1 (pylonref03_Read.st a0 10).2.1 (pylonref03_Read.st a0 10).2.2).bind fun t => if t = true then some ((pylonref03_Read.st a0 10).1, (pylonref03_Read.st a0 10).2.1, (pylonref03_Read.st a0 10).2.2, 0) else some (0, 0, 0, 1) else some (0, 0, 0, 1) else some (0, 0, 0, 1)
theorem pylonref03_Read.mono : ∀ a0 k, LeO (pylonref03_Read.f k a0) (pylonref03_Read.f (k + 1) a0) := by
  intro a0 k
  unfold pylonref03_Read.f
  exact LeO.ite (LeO.ite (LeO.bind (pylonref03_Is.mono _ _ _ _) (fun _ => LeO.refl _)) (LeO.refl _)) (LeO.refl _)
theorem pylonref03_Read.bd (s : ByteArray) : ∀ i : Nat, i ≤ 10 → (∀ j, j < i → pylonref03_Read.good s j = true) → (0 ≤ (pylonref03_Read.st s i).1 ∧ (pylonref03_Read.st s i).1 ≤ 9999999999) ∧ (0 ≤ (pylonref03_Read.st s i).2.1 ∧ (pylonref03_Read.st s i).2.1 ≤ 9999999999) ∧ (0 ≤ (pylonref03_Read.st s i).2.2 ∧ (pylonref03_Read.st s i).2.2 ≤ 9999999999)
  | i, hi, hg => by
    have key : ∀ n : Nat, n ≤ i → (0 ≤ (pylonref03_Read.st s n).1 ∧ (pylonref03_Read.st s n).1 < 10 ^ n) ∧ (0 ≤ (pylonref03_Read.st s n).2.1 ∧ (pylonref03_Read.st s n).2.1 < 10 ^ n) ∧ (0 ≤ (pylonref03_Read.st s n).2.2 ∧ (pylonref03_Read.st s n).2.2 < 10 ^ n) := by
      intro n
      induction n with
      | zero => intro _; simp [pylonref03_Read.st]
      | succ n ih =>
        intro hn
        obtain ⟨a, b, c⟩ := ih (by omega)
        have g := hg n (by omega)
        have p : (10 : Int) ^ (n + 1) = 10 * 10 ^ n := by rw [Int.pow_succ]; omega
        have p1 : (1 : Int) ≤ 10 ^ n := by have : (0 : Int) < 10 ^ n := Int.pow_pos (by decide); omega
        rw [p]
        generalize (10 : Int) ^ n = q at *
        unfold pylonref03_Read.good at g
        rw [pylonref03_Read.st]
        by_cases h1 : n < 4
        · rw [if_neg (by omega)] at g
          simp only [Bool.and_eq_true, decide_eq_true_eq] at g
          rw [if_pos h1]
          simp only
          omega
        · rw [if_neg h1]
          by_cases h2 : n = 4 ∨ n = 7
          · rw [if_pos h2]; omega
          · rw [if_neg h2] at g ⊢
            simp only [Bool.and_eq_true, decide_eq_true_eq] at g
            by_cases h3 : n < 7
            · rw [if_pos h3]
              simp only
              omega
            · rw [if_neg h3]
              simp only
              omega
    have h := key i (Nat.le_refl _)
    have p : (10 : Int) ^ i ≤ 10 ^ 10 := by
      have : i = 0 ∨ i = 1 ∨ i = 2 ∨ i = 3 ∨ i = 4 ∨ i = 5 ∨ i = 6 ∨ i = 7 ∨ i = 8 ∨ i = 9 ∨ i = 10 := by omega
      rcases this with h | h | h | h | h | h | h | h | h | h | h <;> subst h <;> decide
    have e : (10 : Int) ^ 10 = 10000000000 := by decide
    omega
theorem pylonref03_Read.two (w : World) (A B : Array Value) (ta tb : TypeId) : ((w.alloc (.cells A ta)).alloc (.cells B tb)).heap[w.heap.size]? = some (.cells A ta (0, 0)) ∧ ((w.alloc (.cells A ta)).alloc (.cells B tb)).heap[w.heap.size + 1]? = some (.cells B tb (0, 0)) := by
  constructor <;> simp [World.alloc, -World.alloc_eq, Array.getElem?_push, Array.getElem_push]
theorem pylonref03_Read.last (w : World) (A : Array Value) (t : TypeId) : (w.alloc (.cells A t)).heap[w.heap.size]? = some (.cells A t (0, 0)) := by
  simp [World.alloc, -World.alloc_eq, Array.getElem?_push]
theorem pylonref03_Read.lt {w : World} {g : Nat} {o : Obj} (h : w.heap[g]? = some o) : g < w.heap.size := (Array.getElem?_eq_some_iff.1 h).1
set_option maxRecDepth 100000 in
theorem pylonref03_Read.short (s : ByteArray) (w : World) (h : ¬ s.size = 10) :
    Calls Try.prog 51 #[.string s] w fun e w' => e = .returned (.tuple #[.agg #[.int .i64 0, .int .i64 0, .int .i64 0], .int .i64 1]) ∧ Below w.heap.size w w' := by
  have h1 : ((s.size : Int) == 10) = false := by simp; omega
  have h2 : ((s.size : Int) != 10) = true := by simp; omega
  clear h
  go_enter Try.func51, Try.ntmps51
  go_wp2
  exact bodyPost_ret (v := .tuple #[.agg #[.int .i64 0, .int .i64 0, .int .i64 0], .int .i64 1]) (by simp [results, Try.results51, go_sem]) rfl ⟨rfl, by repeat (first | exact Below.refl _ _ | apply below_alloc)⟩
set_option maxRecDepth 100000 in
set_option maxHeartbeats 4000000 in
theorem pylonref03_Read.run (k : Nat) (s : ByteArray) (w : World) (hs : s.size = 10) (n : Nat) (hn : n ≤ 10) (hg : ∀ j, j < n → pylonref03_Read.good s j = true) (hb : n < 10 → pylonref03_Read.good s n = false) (t : Bool) (ht : n = 10 → pylonref03_Is.f k (pylonref03_Read.st s 10).1 (pylonref03_Read.st s 10).2.1 (pylonref03_Read.st s 10).2.2 = some t)
    (r1 r2 r3 r4 : Int) (hr0 : n < 10 ∨ t = false → 0 = r1 ∧ 0 = r2 ∧ 0 = r3 ∧ 1 = r4) (hr1 : n = 10 → t = true → (pylonref03_Read.st s 10).1 = r1 ∧ (pylonref03_Read.st s 10).2.1 = r2 ∧ (pylonref03_Read.st s 10).2.2 = r3 ∧ 0 = r4) :
    Calls Try.prog 51 #[.string s] w fun e w' => e = .returned (.tuple #[.agg #[.int .i64 r1, .int .i64 r2, .int .i64 r3], .int .i64 r4]) ∧ Below w.heap.size w w' := by
  have h1 : ((s.size : Int) == 10) = true := by simp; omega
  have h2 : ((s.size : Int) != 10) = false := by simp; omega
  have hsz : 10 ≤ s.size := by omega
  clear hs
  have HG := Aside0.mk hg
  have HBAD := Aside0.mk hb
  have HT := Aside0.mk ht
  have HR0 := Aside0.mk hr0
  have HR1 := Aside0.mk hr1
  clear hg hb ht hr0 hr1
  go_enter Try.func51, Try.ntmps51
  go_wp2
  go_loopw [5, 6] (fun v5 v6 wr => ∃ i : Nat, i ≤ n ∧ v5 = .int .i64 (pylonref03_Read.at_ i) ∧ v6 = .int .i64 (i : Int) ∧ Aside0 (wr.heap[w.heap.size]? = some (.cells #[.int .i64 0, .int .i64 0, .int .i64 0] 24 (0, 0))) ∧ Aside0 (wr.heap[w.heap.size + 1]? = some (.cells #[.int .i64 (pylonref03_Read.st s i).1, .int .i64 (pylonref03_Read.st s i).2.1, .int .i64 (pylonref03_Read.st s i).2.2] 59 (0, 0))) ∧ Aside0 (Below w.heap.size w wr)) (fun _ v6 _ => 10 - (intOf v6).toNat)
  case atStart => exact ⟨0, Nat.zero_le _, rfl, rfl, ⟨(pylonref03_Read.two w _ _ _ _).1⟩, ⟨(pylonref03_Read.two w _ _ _ _).2⟩, ⟨below_alloc (below_alloc (Below.refl _ _) _) _⟩⟩
  case round =>
    obtain ⟨i, hi, rfl, rfl, B0, B1, HB⟩ := hrel
    have hbd := pylonref03_Read.bd s i (by omega) (fun j hj => HG.out j (by omega))
    obtain ⟨⟨e1, e2⟩, ⟨e3, e4⟩, ⟨e5, e6⟩⟩ := hbd
    have hi10 : i = 0 ∨ i = 1 ∨ i = 2 ∨ i = 3 ∨ i = 4 ∨ i = 5 ∨ i = 6 ∨ i = 7 ∨ i = 8 ∨ i = 9 ∨ i = 10 := by omega
    rcases hi10 with rfl | rfl | rfl | rfl | rfl | rfl | rfl | rfl | rfl | rfl | rfl
    · have hx : ∀ h : 0 < s.size, ((s[0]'h).toNat : Int) = bt s 0 := fun h => bt_at s 0 h
      have hr := bt_range s 0
      obtain ⟨rb1, rb2⟩ := hr
      have hlt : (0 : Int) < (s.size : Int) := by omega
      simp only [show pylonref03_Read.at_ 0 = 0 from rfl, Int.natCast_zero, Int.natCast_one]
      by_cases hin : 0 < n
      · have g := HG.out 0 hin
        have g1 : 48 ≤ bt s 0 ∧ bt s 0 ≤ 57 := by simpa [pylonref03_Read.good] using g
        obtain ⟨g1, g2⟩ := g1
        have d1 : decide (bt s 0 < 48) = false := by simpa using g1
        have d2 : decide (57 < bt s 0) = false := by simpa using g2
        clear g
        have c1 : wr.cell? ⟨w.heap.size + 1, 0, none⟩ = some (.int .i64 (pylonref03_Read.st s 0).1) := (blk_cell B1.out 0).trans rfl
        have f1 := blk_frozen B1.out 0
        go_wp2
        go_region
        go_wp2
        go_roundw
        case rel => exact ⟨1, by omega, rfl, rfl, ⟨by (with_reducible repeat (first | refine blk_drewN ?_ _ | refine blk_drew ?_ | refine blk_alloc ?_ _ | refine blk_far ?_ (show w.heap.size ≠ w.heap.size + 1 by omega) _)); exact B0.out⟩, ⟨by (with_reducible repeat (first | refine blk_drewN ?_ _ | refine blk_drew ?_ | refine blk_alloc ?_ _)); refine blk_put (cs := #[.int .i64 (pylonref03_Read.st s 0).1, .int .i64 (pylonref03_Read.st s 0).2.1, .int .i64 (pylonref03_Read.st s 0).2.2]) ?_ 0 _ rfl; exact B1.out⟩, ⟨by repeat (first | exact HB.out | apply below_alloc | apply pw_below_drewN | apply below_drew | refine below_set ?_ (show w.heap.size ≤ w.heap.size + 1 by omega))⟩⟩
        case measure => simp [intOf]
      · obtain rfl : n = 0 := by omega
        have b := HBAD.out (by omega)
        obtain ⟨rfl, rfl, rfl, rfl⟩ := HR0.out (.inl (by omega))
        have p0 : wr.cell? ⟨w.heap.size, 0, none⟩ = some (.int .i64 0) := (blk_cell B0.out 0).trans rfl
        have p1 : wr.cell? ⟨w.heap.size, 1, none⟩ = some (.int .i64 0) := (blk_cell B0.out 1).trans rfl
        have p2 : wr.cell? ⟨w.heap.size, 2, none⟩ = some (.int .i64 0) := (blk_cell B0.out 2).trans rfl
        have f0 := blk_frozen B0.out 0
        have f1 := blk_frozen B0.out 1
        have f2 := blk_frozen B0.out 2
        by_cases g1 : bt s 0 < 48
        · clear b
          go_wp2
          refine bodyPost_ret (results_ct rfl _ _ w.heap.size 24 #[.int .i64 0, .int .i64 0, .int .i64 0] (0, 0) _ rfl (by (with_reducible repeat (first | refine blk_drewN ?_ _ | refine blk_drew ?_ | refine blk_alloc ?_ _)); refine blk_put (cs := #[.int .i64 0, .int .i64 0, .int .i64 0]) ?_ 2 _ rfl; refine blk_put (cs := #[.int .i64 0, .int .i64 0, .int .i64 0]) ?_ 1 _ rfl; refine blk_put (cs := #[.int .i64 0, .int .i64 0, .int .i64 0]) ?_ 0 _ rfl; exact B0.out) Try.underlying24 rfl (by kernel_rfl)) rfl ?_
          exact ⟨rfl, by repeat (first | exact HB.out | apply below_alloc | apply pw_below_drewN | apply below_drew | refine below_set ?_ (Nat.le_refl _))⟩
        · have g2 : 57 < bt s 0 := by simp [pylonref03_Read.good] at b; omega
          clear b
          go_wp2
          refine bodyPost_ret (results_ct rfl _ _ w.heap.size 24 #[.int .i64 0, .int .i64 0, .int .i64 0] (0, 0) _ rfl (by (with_reducible repeat (first | refine blk_drewN ?_ _ | refine blk_drew ?_ | refine blk_alloc ?_ _)); refine blk_put (cs := #[.int .i64 0, .int .i64 0, .int .i64 0]) ?_ 2 _ rfl; refine blk_put (cs := #[.int .i64 0, .int .i64 0, .int .i64 0]) ?_ 1 _ rfl; refine blk_put (cs := #[.int .i64 0, .int .i64 0, .int .i64 0]) ?_ 0 _ rfl; exact B0.out) Try.underlying24 rfl (by kernel_rfl)) rfl ?_
          exact ⟨rfl, by repeat (first | exact HB.out | apply below_alloc | apply pw_below_drewN | apply below_drew | refine below_set ?_ (Nat.le_refl _))⟩
    · have hx : ∀ h : 1 < s.size, ((s[1]'h).toNat : Int) = bt s 1 := fun h => bt_at s 1 h
      have hr := bt_range s 1
      obtain ⟨rb1, rb2⟩ := hr
      have hlt : (1 : Int) < (s.size : Int) := by omega
      simp only [show pylonref03_Read.at_ 1 = 0 from rfl, Int.natCast_zero, Int.natCast_one]
      by_cases hin : 1 < n
      · have g := HG.out 1 hin
        have g1 : 48 ≤ bt s 1 ∧ bt s 1 ≤ 57 := by simpa [pylonref03_Read.good] using g
        obtain ⟨g1, g2⟩ := g1
        have d1 : decide (bt s 1 < 48) = false := by simpa using g1
        have d2 : decide (57 < bt s 1) = false := by simpa using g2
        clear g
        have c1 : wr.cell? ⟨w.heap.size + 1, 0, none⟩ = some (.int .i64 (pylonref03_Read.st s 1).1) := (blk_cell B1.out 0).trans rfl
        have f1 := blk_frozen B1.out 0
        go_wp2
        go_region
        go_wp2
        go_roundw
        case rel => exact ⟨2, by omega, rfl, rfl, ⟨by (with_reducible repeat (first | refine blk_drewN ?_ _ | refine blk_drew ?_ | refine blk_alloc ?_ _ | refine blk_far ?_ (show w.heap.size ≠ w.heap.size + 1 by omega) _)); exact B0.out⟩, ⟨by (with_reducible repeat (first | refine blk_drewN ?_ _ | refine blk_drew ?_ | refine blk_alloc ?_ _)); refine blk_put (cs := #[.int .i64 (pylonref03_Read.st s 1).1, .int .i64 (pylonref03_Read.st s 1).2.1, .int .i64 (pylonref03_Read.st s 1).2.2]) ?_ 0 _ rfl; exact B1.out⟩, ⟨by repeat (first | exact HB.out | apply below_alloc | apply pw_below_drewN | apply below_drew | refine below_set ?_ (show w.heap.size ≤ w.heap.size + 1 by omega))⟩⟩
        case measure => simp [intOf]
      · obtain rfl : n = 1 := by omega
        have b := HBAD.out (by omega)
        obtain ⟨rfl, rfl, rfl, rfl⟩ := HR0.out (.inl (by omega))
        have p0 : wr.cell? ⟨w.heap.size, 0, none⟩ = some (.int .i64 0) := (blk_cell B0.out 0).trans rfl
        have p1 : wr.cell? ⟨w.heap.size, 1, none⟩ = some (.int .i64 0) := (blk_cell B0.out 1).trans rfl
        have p2 : wr.cell? ⟨w.heap.size, 2, none⟩ = some (.int .i64 0) := (blk_cell B0.out 2).trans rfl
        have f0 := blk_frozen B0.out 0
        have f1 := blk_frozen B0.out 1
        have f2 := blk_frozen B0.out 2
        by_cases g1 : bt s 1 < 48
        · clear b
          go_wp2
          refine bodyPost_ret (results_ct rfl _ _ w.heap.size 24 #[.int .i64 0, .int .i64 0, .int .i64 0] (0, 0) _ rfl (by (with_reducible repeat (first | refine blk_drewN ?_ _ | refine blk_drew ?_ | refine blk_alloc ?_ _)); refine blk_put (cs := #[.int .i64 0, .int .i64 0, .int .i64 0]) ?_ 2 _ rfl; refine blk_put (cs := #[.int .i64 0, .int .i64 0, .int .i64 0]) ?_ 1 _ rfl; refine blk_put (cs := #[.int .i64 0, .int .i64 0, .int .i64 0]) ?_ 0 _ rfl; exact B0.out) Try.underlying24 rfl (by kernel_rfl)) rfl ?_
          exact ⟨rfl, by repeat (first | exact HB.out | apply below_alloc | apply pw_below_drewN | apply below_drew | refine below_set ?_ (Nat.le_refl _))⟩
        · have g2 : 57 < bt s 1 := by simp [pylonref03_Read.good] at b; omega
          clear b
          go_wp2
          refine bodyPost_ret (results_ct rfl _ _ w.heap.size 24 #[.int .i64 0, .int .i64 0, .int .i64 0] (0, 0) _ rfl (by (with_reducible repeat (first | refine blk_drewN ?_ _ | refine blk_drew ?_ | refine blk_alloc ?_ _)); refine blk_put (cs := #[.int .i64 0, .int .i64 0, .int .i64 0]) ?_ 2 _ rfl; refine blk_put (cs := #[.int .i64 0, .int .i64 0, .int .i64 0]) ?_ 1 _ rfl; refine blk_put (cs := #[.int .i64 0, .int .i64 0, .int .i64 0]) ?_ 0 _ rfl; exact B0.out) Try.underlying24 rfl (by kernel_rfl)) rfl ?_
          exact ⟨rfl, by repeat (first | exact HB.out | apply below_alloc | apply pw_below_drewN | apply below_drew | refine below_set ?_ (Nat.le_refl _))⟩
    · have hx : ∀ h : 2 < s.size, ((s[2]'h).toNat : Int) = bt s 2 := fun h => bt_at s 2 h
      have hr := bt_range s 2
      obtain ⟨rb1, rb2⟩ := hr
      have hlt : (2 : Int) < (s.size : Int) := by omega
      simp only [show pylonref03_Read.at_ 2 = 0 from rfl, Int.natCast_zero, Int.natCast_one]
      by_cases hin : 2 < n
      · have g := HG.out 2 hin
        have g1 : 48 ≤ bt s 2 ∧ bt s 2 ≤ 57 := by simpa [pylonref03_Read.good] using g
        obtain ⟨g1, g2⟩ := g1
        have d1 : decide (bt s 2 < 48) = false := by simpa using g1
        have d2 : decide (57 < bt s 2) = false := by simpa using g2
        clear g
        have c1 : wr.cell? ⟨w.heap.size + 1, 0, none⟩ = some (.int .i64 (pylonref03_Read.st s 2).1) := (blk_cell B1.out 0).trans rfl
        have f1 := blk_frozen B1.out 0
        go_wp2
        go_region
        go_wp2
        go_roundw
        case rel => exact ⟨3, by omega, rfl, rfl, ⟨by (with_reducible repeat (first | refine blk_drewN ?_ _ | refine blk_drew ?_ | refine blk_alloc ?_ _ | refine blk_far ?_ (show w.heap.size ≠ w.heap.size + 1 by omega) _)); exact B0.out⟩, ⟨by (with_reducible repeat (first | refine blk_drewN ?_ _ | refine blk_drew ?_ | refine blk_alloc ?_ _)); refine blk_put (cs := #[.int .i64 (pylonref03_Read.st s 2).1, .int .i64 (pylonref03_Read.st s 2).2.1, .int .i64 (pylonref03_Read.st s 2).2.2]) ?_ 0 _ rfl; exact B1.out⟩, ⟨by repeat (first | exact HB.out | apply below_alloc | apply pw_below_drewN | apply below_drew | refine below_set ?_ (show w.heap.size ≤ w.heap.size + 1 by omega))⟩⟩
        case measure => simp [intOf]
      · obtain rfl : n = 2 := by omega
        have b := HBAD.out (by omega)
        obtain ⟨rfl, rfl, rfl, rfl⟩ := HR0.out (.inl (by omega))
        have p0 : wr.cell? ⟨w.heap.size, 0, none⟩ = some (.int .i64 0) := (blk_cell B0.out 0).trans rfl
        have p1 : wr.cell? ⟨w.heap.size, 1, none⟩ = some (.int .i64 0) := (blk_cell B0.out 1).trans rfl
        have p2 : wr.cell? ⟨w.heap.size, 2, none⟩ = some (.int .i64 0) := (blk_cell B0.out 2).trans rfl
        have f0 := blk_frozen B0.out 0
        have f1 := blk_frozen B0.out 1
        have f2 := blk_frozen B0.out 2
        by_cases g1 : bt s 2 < 48
        · clear b
          go_wp2
          refine bodyPost_ret (results_ct rfl _ _ w.heap.size 24 #[.int .i64 0, .int .i64 0, .int .i64 0] (0, 0) _ rfl (by (with_reducible repeat (first | refine blk_drewN ?_ _ | refine blk_drew ?_ | refine blk_alloc ?_ _)); refine blk_put (cs := #[.int .i64 0, .int .i64 0, .int .i64 0]) ?_ 2 _ rfl; refine blk_put (cs := #[.int .i64 0, .int .i64 0, .int .i64 0]) ?_ 1 _ rfl; refine blk_put (cs := #[.int .i64 0, .int .i64 0, .int .i64 0]) ?_ 0 _ rfl; exact B0.out) Try.underlying24 rfl (by kernel_rfl)) rfl ?_
          exact ⟨rfl, by repeat (first | exact HB.out | apply below_alloc | apply pw_below_drewN | apply below_drew | refine below_set ?_ (Nat.le_refl _))⟩
        · have g2 : 57 < bt s 2 := by simp [pylonref03_Read.good] at b; omega
          clear b
          go_wp2
          refine bodyPost_ret (results_ct rfl _ _ w.heap.size 24 #[.int .i64 0, .int .i64 0, .int .i64 0] (0, 0) _ rfl (by (with_reducible repeat (first | refine blk_drewN ?_ _ | refine blk_drew ?_ | refine blk_alloc ?_ _)); refine blk_put (cs := #[.int .i64 0, .int .i64 0, .int .i64 0]) ?_ 2 _ rfl; refine blk_put (cs := #[.int .i64 0, .int .i64 0, .int .i64 0]) ?_ 1 _ rfl; refine blk_put (cs := #[.int .i64 0, .int .i64 0, .int .i64 0]) ?_ 0 _ rfl; exact B0.out) Try.underlying24 rfl (by kernel_rfl)) rfl ?_
          exact ⟨rfl, by repeat (first | exact HB.out | apply below_alloc | apply pw_below_drewN | apply below_drew | refine below_set ?_ (Nat.le_refl _))⟩
    · have hx : ∀ h : 3 < s.size, ((s[3]'h).toNat : Int) = bt s 3 := fun h => bt_at s 3 h
      have hr := bt_range s 3
      obtain ⟨rb1, rb2⟩ := hr
      have hlt : (3 : Int) < (s.size : Int) := by omega
      simp only [show pylonref03_Read.at_ 3 = 0 from rfl, Int.natCast_zero, Int.natCast_one]
      by_cases hin : 3 < n
      · have g := HG.out 3 hin
        have g1 : 48 ≤ bt s 3 ∧ bt s 3 ≤ 57 := by simpa [pylonref03_Read.good] using g
        obtain ⟨g1, g2⟩ := g1
        have d1 : decide (bt s 3 < 48) = false := by simpa using g1
        have d2 : decide (57 < bt s 3) = false := by simpa using g2
        clear g
        have c1 : wr.cell? ⟨w.heap.size + 1, 0, none⟩ = some (.int .i64 (pylonref03_Read.st s 3).1) := (blk_cell B1.out 0).trans rfl
        have f1 := blk_frozen B1.out 0
        go_wp2
        go_region
        go_wp2
        go_roundw
        case rel => exact ⟨4, by omega, rfl, rfl, ⟨by (with_reducible repeat (first | refine blk_drewN ?_ _ | refine blk_drew ?_ | refine blk_alloc ?_ _ | refine blk_far ?_ (show w.heap.size ≠ w.heap.size + 1 by omega) _)); exact B0.out⟩, ⟨by (with_reducible repeat (first | refine blk_drewN ?_ _ | refine blk_drew ?_ | refine blk_alloc ?_ _)); refine blk_put (cs := #[.int .i64 (pylonref03_Read.st s 3).1, .int .i64 (pylonref03_Read.st s 3).2.1, .int .i64 (pylonref03_Read.st s 3).2.2]) ?_ 0 _ rfl; exact B1.out⟩, ⟨by repeat (first | exact HB.out | apply below_alloc | apply pw_below_drewN | apply below_drew | refine below_set ?_ (show w.heap.size ≤ w.heap.size + 1 by omega))⟩⟩
        case measure => simp [intOf]
      · obtain rfl : n = 3 := by omega
        have b := HBAD.out (by omega)
        obtain ⟨rfl, rfl, rfl, rfl⟩ := HR0.out (.inl (by omega))
        have p0 : wr.cell? ⟨w.heap.size, 0, none⟩ = some (.int .i64 0) := (blk_cell B0.out 0).trans rfl
        have p1 : wr.cell? ⟨w.heap.size, 1, none⟩ = some (.int .i64 0) := (blk_cell B0.out 1).trans rfl
        have p2 : wr.cell? ⟨w.heap.size, 2, none⟩ = some (.int .i64 0) := (blk_cell B0.out 2).trans rfl
        have f0 := blk_frozen B0.out 0
        have f1 := blk_frozen B0.out 1
        have f2 := blk_frozen B0.out 2
        by_cases g1 : bt s 3 < 48
        · clear b
          go_wp2
          refine bodyPost_ret (results_ct rfl _ _ w.heap.size 24 #[.int .i64 0, .int .i64 0, .int .i64 0] (0, 0) _ rfl (by (with_reducible repeat (first | refine blk_drewN ?_ _ | refine blk_drew ?_ | refine blk_alloc ?_ _)); refine blk_put (cs := #[.int .i64 0, .int .i64 0, .int .i64 0]) ?_ 2 _ rfl; refine blk_put (cs := #[.int .i64 0, .int .i64 0, .int .i64 0]) ?_ 1 _ rfl; refine blk_put (cs := #[.int .i64 0, .int .i64 0, .int .i64 0]) ?_ 0 _ rfl; exact B0.out) Try.underlying24 rfl (by kernel_rfl)) rfl ?_
          exact ⟨rfl, by repeat (first | exact HB.out | apply below_alloc | apply pw_below_drewN | apply below_drew | refine below_set ?_ (Nat.le_refl _))⟩
        · have g2 : 57 < bt s 3 := by simp [pylonref03_Read.good] at b; omega
          clear b
          go_wp2
          refine bodyPost_ret (results_ct rfl _ _ w.heap.size 24 #[.int .i64 0, .int .i64 0, .int .i64 0] (0, 0) _ rfl (by (with_reducible repeat (first | refine blk_drewN ?_ _ | refine blk_drew ?_ | refine blk_alloc ?_ _)); refine blk_put (cs := #[.int .i64 0, .int .i64 0, .int .i64 0]) ?_ 2 _ rfl; refine blk_put (cs := #[.int .i64 0, .int .i64 0, .int .i64 0]) ?_ 1 _ rfl; refine blk_put (cs := #[.int .i64 0, .int .i64 0, .int .i64 0]) ?_ 0 _ rfl; exact B0.out) Try.underlying24 rfl (by kernel_rfl)) rfl ?_
          exact ⟨rfl, by repeat (first | exact HB.out | apply below_alloc | apply pw_below_drewN | apply below_drew | refine below_set ?_ (Nat.le_refl _))⟩
    · have hx : ∀ h : 4 < s.size, ((s[4]'h).toNat : Int) = bt s 4 := fun h => bt_at s 4 h
      have hr := bt_range s 4
      obtain ⟨rb1, rb2⟩ := hr
      have hlt : (4 : Int) < (s.size : Int) := by omega
      simp only [show pylonref03_Read.at_ 4 = 0 from rfl, Int.natCast_zero, Int.natCast_one]
      by_cases hin : 4 < n
      · have g := HG.out 4 hin
        have g1 : bt s 4 = 45 := by simpa [pylonref03_Read.good] using g
        have g2 : (bt s 4 == 45) = true := by simp [g1]
        have g3 : (bt s 4 != 45) = false := by simp [g1]
        clear g g1
        go_wp2
        go_roundw
        case rel => exact ⟨5, by omega, rfl, rfl, B0, ⟨by first | exact B1.out | ((with_reducible repeat (first | refine blk_drewN ?_ _ | refine blk_drew ?_ | refine blk_alloc ?_ _)); exact B1.out)⟩, ⟨by repeat (first | exact HB.out | apply below_alloc | apply pw_below_drewN | apply below_drew)⟩⟩
        case measure => simp [intOf]
      · obtain rfl : n = 4 := by omega
        have b := HBAD.out (by omega)
        obtain ⟨rfl, rfl, rfl, rfl⟩ := HR0.out (.inl (by omega))
        have p0 : wr.cell? ⟨w.heap.size, 0, none⟩ = some (.int .i64 0) := (blk_cell B0.out 0).trans rfl
        have p1 : wr.cell? ⟨w.heap.size, 1, none⟩ = some (.int .i64 0) := (blk_cell B0.out 1).trans rfl
        have p2 : wr.cell? ⟨w.heap.size, 2, none⟩ = some (.int .i64 0) := (blk_cell B0.out 2).trans rfl
        have f0 := blk_frozen B0.out 0
        have f1 := blk_frozen B0.out 1
        have f2 := blk_frozen B0.out 2
        have g2 : (bt s 4 == 45) = false := by simpa [pylonref03_Read.good] using b
        have g3 : (bt s 4 != 45) = true := by simpa [pylonref03_Read.good] using b
        clear b
        go_wp2
        refine bodyPost_ret (results_ct rfl _ _ w.heap.size 24 #[.int .i64 0, .int .i64 0, .int .i64 0] (0, 0) _ rfl (by (with_reducible repeat (first | refine blk_drewN ?_ _ | refine blk_drew ?_ | refine blk_alloc ?_ _)); refine blk_put (cs := #[.int .i64 0, .int .i64 0, .int .i64 0]) ?_ 2 _ rfl; refine blk_put (cs := #[.int .i64 0, .int .i64 0, .int .i64 0]) ?_ 1 _ rfl; refine blk_put (cs := #[.int .i64 0, .int .i64 0, .int .i64 0]) ?_ 0 _ rfl; exact B0.out) Try.underlying24 rfl (by kernel_rfl)) rfl ?_
        exact ⟨rfl, by repeat (first | exact HB.out | apply below_alloc | apply pw_below_drewN | apply below_drew | refine below_set ?_ (Nat.le_refl _))⟩
    · have hx : ∀ h : 5 < s.size, ((s[5]'h).toNat : Int) = bt s 5 := fun h => bt_at s 5 h
      have hr := bt_range s 5
      obtain ⟨rb1, rb2⟩ := hr
      have hlt : (5 : Int) < (s.size : Int) := by omega
      simp only [show pylonref03_Read.at_ 5 = 1 from rfl, Int.natCast_zero, Int.natCast_one]
      by_cases hin : 5 < n
      · have g := HG.out 5 hin
        have g1 : 48 ≤ bt s 5 ∧ bt s 5 ≤ 57 := by simpa [pylonref03_Read.good] using g
        obtain ⟨g1, g2⟩ := g1
        have d1 : decide (bt s 5 < 48) = false := by simpa using g1
        have d2 : decide (57 < bt s 5) = false := by simpa using g2
        clear g
        have c1 : wr.cell? ⟨w.heap.size + 1, 1, none⟩ = some (.int .i64 (pylonref03_Read.st s 5).2.1) := (blk_cell B1.out 1).trans rfl
        have f1 := blk_frozen B1.out 1
        go_wp2
        go_region
        go_wp2
        go_roundw
        case rel => exact ⟨6, by omega, rfl, rfl, ⟨by (with_reducible repeat (first | refine blk_drewN ?_ _ | refine blk_drew ?_ | refine blk_alloc ?_ _ | refine blk_far ?_ (show w.heap.size ≠ w.heap.size + 1 by omega) _)); exact B0.out⟩, ⟨by (with_reducible repeat (first | refine blk_drewN ?_ _ | refine blk_drew ?_ | refine blk_alloc ?_ _)); refine blk_put (cs := #[.int .i64 (pylonref03_Read.st s 5).1, .int .i64 (pylonref03_Read.st s 5).2.1, .int .i64 (pylonref03_Read.st s 5).2.2]) ?_ 1 _ rfl; exact B1.out⟩, ⟨by repeat (first | exact HB.out | apply below_alloc | apply pw_below_drewN | apply below_drew | refine below_set ?_ (show w.heap.size ≤ w.heap.size + 1 by omega))⟩⟩
        case measure => simp [intOf]
      · obtain rfl : n = 5 := by omega
        have b := HBAD.out (by omega)
        obtain ⟨rfl, rfl, rfl, rfl⟩ := HR0.out (.inl (by omega))
        have p0 : wr.cell? ⟨w.heap.size, 0, none⟩ = some (.int .i64 0) := (blk_cell B0.out 0).trans rfl
        have p1 : wr.cell? ⟨w.heap.size, 1, none⟩ = some (.int .i64 0) := (blk_cell B0.out 1).trans rfl
        have p2 : wr.cell? ⟨w.heap.size, 2, none⟩ = some (.int .i64 0) := (blk_cell B0.out 2).trans rfl
        have f0 := blk_frozen B0.out 0
        have f1 := blk_frozen B0.out 1
        have f2 := blk_frozen B0.out 2
        by_cases g1 : bt s 5 < 48
        · clear b
          go_wp2
          refine bodyPost_ret (results_ct rfl _ _ w.heap.size 24 #[.int .i64 0, .int .i64 0, .int .i64 0] (0, 0) _ rfl (by (with_reducible repeat (first | refine blk_drewN ?_ _ | refine blk_drew ?_ | refine blk_alloc ?_ _)); refine blk_put (cs := #[.int .i64 0, .int .i64 0, .int .i64 0]) ?_ 2 _ rfl; refine blk_put (cs := #[.int .i64 0, .int .i64 0, .int .i64 0]) ?_ 1 _ rfl; refine blk_put (cs := #[.int .i64 0, .int .i64 0, .int .i64 0]) ?_ 0 _ rfl; exact B0.out) Try.underlying24 rfl (by kernel_rfl)) rfl ?_
          exact ⟨rfl, by repeat (first | exact HB.out | apply below_alloc | apply pw_below_drewN | apply below_drew | refine below_set ?_ (Nat.le_refl _))⟩
        · have g2 : 57 < bt s 5 := by simp [pylonref03_Read.good] at b; omega
          clear b
          go_wp2
          refine bodyPost_ret (results_ct rfl _ _ w.heap.size 24 #[.int .i64 0, .int .i64 0, .int .i64 0] (0, 0) _ rfl (by (with_reducible repeat (first | refine blk_drewN ?_ _ | refine blk_drew ?_ | refine blk_alloc ?_ _)); refine blk_put (cs := #[.int .i64 0, .int .i64 0, .int .i64 0]) ?_ 2 _ rfl; refine blk_put (cs := #[.int .i64 0, .int .i64 0, .int .i64 0]) ?_ 1 _ rfl; refine blk_put (cs := #[.int .i64 0, .int .i64 0, .int .i64 0]) ?_ 0 _ rfl; exact B0.out) Try.underlying24 rfl (by kernel_rfl)) rfl ?_
          exact ⟨rfl, by repeat (first | exact HB.out | apply below_alloc | apply pw_below_drewN | apply below_drew | refine below_set ?_ (Nat.le_refl _))⟩
    · have hx : ∀ h : 6 < s.size, ((s[6]'h).toNat : Int) = bt s 6 := fun h => bt_at s 6 h
      have hr := bt_range s 6
      obtain ⟨rb1, rb2⟩ := hr
      have hlt : (6 : Int) < (s.size : Int) := by omega
      simp only [show pylonref03_Read.at_ 6 = 1 from rfl, Int.natCast_zero, Int.natCast_one]
      by_cases hin : 6 < n
      · have g := HG.out 6 hin
        have g1 : 48 ≤ bt s 6 ∧ bt s 6 ≤ 57 := by simpa [pylonref03_Read.good] using g
        obtain ⟨g1, g2⟩ := g1
        have d1 : decide (bt s 6 < 48) = false := by simpa using g1
        have d2 : decide (57 < bt s 6) = false := by simpa using g2
        clear g
        have c1 : wr.cell? ⟨w.heap.size + 1, 1, none⟩ = some (.int .i64 (pylonref03_Read.st s 6).2.1) := (blk_cell B1.out 1).trans rfl
        have f1 := blk_frozen B1.out 1
        go_wp2
        go_region
        go_wp2
        go_roundw
        case rel => exact ⟨7, by omega, rfl, rfl, ⟨by (with_reducible repeat (first | refine blk_drewN ?_ _ | refine blk_drew ?_ | refine blk_alloc ?_ _ | refine blk_far ?_ (show w.heap.size ≠ w.heap.size + 1 by omega) _)); exact B0.out⟩, ⟨by (with_reducible repeat (first | refine blk_drewN ?_ _ | refine blk_drew ?_ | refine blk_alloc ?_ _)); refine blk_put (cs := #[.int .i64 (pylonref03_Read.st s 6).1, .int .i64 (pylonref03_Read.st s 6).2.1, .int .i64 (pylonref03_Read.st s 6).2.2]) ?_ 1 _ rfl; exact B1.out⟩, ⟨by repeat (first | exact HB.out | apply below_alloc | apply pw_below_drewN | apply below_drew | refine below_set ?_ (show w.heap.size ≤ w.heap.size + 1 by omega))⟩⟩
        case measure => simp [intOf]
      · obtain rfl : n = 6 := by omega
        have b := HBAD.out (by omega)
        obtain ⟨rfl, rfl, rfl, rfl⟩ := HR0.out (.inl (by omega))
        have p0 : wr.cell? ⟨w.heap.size, 0, none⟩ = some (.int .i64 0) := (blk_cell B0.out 0).trans rfl
        have p1 : wr.cell? ⟨w.heap.size, 1, none⟩ = some (.int .i64 0) := (blk_cell B0.out 1).trans rfl
        have p2 : wr.cell? ⟨w.heap.size, 2, none⟩ = some (.int .i64 0) := (blk_cell B0.out 2).trans rfl
        have f0 := blk_frozen B0.out 0
        have f1 := blk_frozen B0.out 1
        have f2 := blk_frozen B0.out 2
        by_cases g1 : bt s 6 < 48
        · clear b
          go_wp2
          refine bodyPost_ret (results_ct rfl _ _ w.heap.size 24 #[.int .i64 0, .int .i64 0, .int .i64 0] (0, 0) _ rfl (by (with_reducible repeat (first | refine blk_drewN ?_ _ | refine blk_drew ?_ | refine blk_alloc ?_ _)); refine blk_put (cs := #[.int .i64 0, .int .i64 0, .int .i64 0]) ?_ 2 _ rfl; refine blk_put (cs := #[.int .i64 0, .int .i64 0, .int .i64 0]) ?_ 1 _ rfl; refine blk_put (cs := #[.int .i64 0, .int .i64 0, .int .i64 0]) ?_ 0 _ rfl; exact B0.out) Try.underlying24 rfl (by kernel_rfl)) rfl ?_
          exact ⟨rfl, by repeat (first | exact HB.out | apply below_alloc | apply pw_below_drewN | apply below_drew | refine below_set ?_ (Nat.le_refl _))⟩
        · have g2 : 57 < bt s 6 := by simp [pylonref03_Read.good] at b; omega
          clear b
          go_wp2
          refine bodyPost_ret (results_ct rfl _ _ w.heap.size 24 #[.int .i64 0, .int .i64 0, .int .i64 0] (0, 0) _ rfl (by (with_reducible repeat (first | refine blk_drewN ?_ _ | refine blk_drew ?_ | refine blk_alloc ?_ _)); refine blk_put (cs := #[.int .i64 0, .int .i64 0, .int .i64 0]) ?_ 2 _ rfl; refine blk_put (cs := #[.int .i64 0, .int .i64 0, .int .i64 0]) ?_ 1 _ rfl; refine blk_put (cs := #[.int .i64 0, .int .i64 0, .int .i64 0]) ?_ 0 _ rfl; exact B0.out) Try.underlying24 rfl (by kernel_rfl)) rfl ?_
          exact ⟨rfl, by repeat (first | exact HB.out | apply below_alloc | apply pw_below_drewN | apply below_drew | refine below_set ?_ (Nat.le_refl _))⟩
    · have hx : ∀ h : 7 < s.size, ((s[7]'h).toNat : Int) = bt s 7 := fun h => bt_at s 7 h
      have hr := bt_range s 7
      obtain ⟨rb1, rb2⟩ := hr
      have hlt : (7 : Int) < (s.size : Int) := by omega
      simp only [show pylonref03_Read.at_ 7 = 1 from rfl, Int.natCast_zero, Int.natCast_one]
      by_cases hin : 7 < n
      · have g := HG.out 7 hin
        have g1 : bt s 7 = 45 := by simpa [pylonref03_Read.good] using g
        have g2 : (bt s 7 == 45) = true := by simp [g1]
        have g3 : (bt s 7 != 45) = false := by simp [g1]
        clear g g1
        go_wp2
        go_roundw
        case rel => exact ⟨8, by omega, rfl, rfl, B0, ⟨by first | exact B1.out | ((with_reducible repeat (first | refine blk_drewN ?_ _ | refine blk_drew ?_ | refine blk_alloc ?_ _)); exact B1.out)⟩, ⟨by repeat (first | exact HB.out | apply below_alloc | apply pw_below_drewN | apply below_drew)⟩⟩
        case measure => simp [intOf]
      · obtain rfl : n = 7 := by omega
        have b := HBAD.out (by omega)
        obtain ⟨rfl, rfl, rfl, rfl⟩ := HR0.out (.inl (by omega))
        have p0 : wr.cell? ⟨w.heap.size, 0, none⟩ = some (.int .i64 0) := (blk_cell B0.out 0).trans rfl
        have p1 : wr.cell? ⟨w.heap.size, 1, none⟩ = some (.int .i64 0) := (blk_cell B0.out 1).trans rfl
        have p2 : wr.cell? ⟨w.heap.size, 2, none⟩ = some (.int .i64 0) := (blk_cell B0.out 2).trans rfl
        have f0 := blk_frozen B0.out 0
        have f1 := blk_frozen B0.out 1
        have f2 := blk_frozen B0.out 2
        have g2 : (bt s 7 == 45) = false := by simpa [pylonref03_Read.good] using b
        have g3 : (bt s 7 != 45) = true := by simpa [pylonref03_Read.good] using b
        clear b
        go_wp2
        refine bodyPost_ret (results_ct rfl _ _ w.heap.size 24 #[.int .i64 0, .int .i64 0, .int .i64 0] (0, 0) _ rfl (by (with_reducible repeat (first | refine blk_drewN ?_ _ | refine blk_drew ?_ | refine blk_alloc ?_ _)); refine blk_put (cs := #[.int .i64 0, .int .i64 0, .int .i64 0]) ?_ 2 _ rfl; refine blk_put (cs := #[.int .i64 0, .int .i64 0, .int .i64 0]) ?_ 1 _ rfl; refine blk_put (cs := #[.int .i64 0, .int .i64 0, .int .i64 0]) ?_ 0 _ rfl; exact B0.out) Try.underlying24 rfl (by kernel_rfl)) rfl ?_
        exact ⟨rfl, by repeat (first | exact HB.out | apply below_alloc | apply pw_below_drewN | apply below_drew | refine below_set ?_ (Nat.le_refl _))⟩
    · have hx : ∀ h : 8 < s.size, ((s[8]'h).toNat : Int) = bt s 8 := fun h => bt_at s 8 h
      have hr := bt_range s 8
      obtain ⟨rb1, rb2⟩ := hr
      have hlt : (8 : Int) < (s.size : Int) := by omega
      simp only [show pylonref03_Read.at_ 8 = 2 from rfl, Int.natCast_zero, Int.natCast_one]
      by_cases hin : 8 < n
      · have g := HG.out 8 hin
        have g1 : 48 ≤ bt s 8 ∧ bt s 8 ≤ 57 := by simpa [pylonref03_Read.good] using g
        obtain ⟨g1, g2⟩ := g1
        have d1 : decide (bt s 8 < 48) = false := by simpa using g1
        have d2 : decide (57 < bt s 8) = false := by simpa using g2
        clear g
        have c1 : wr.cell? ⟨w.heap.size + 1, 2, none⟩ = some (.int .i64 (pylonref03_Read.st s 8).2.2) := (blk_cell B1.out 2).trans rfl
        have f1 := blk_frozen B1.out 2
        go_wp2
        go_region
        go_wp2
        go_roundw
        case rel => exact ⟨9, by omega, rfl, rfl, ⟨by (with_reducible repeat (first | refine blk_drewN ?_ _ | refine blk_drew ?_ | refine blk_alloc ?_ _ | refine blk_far ?_ (show w.heap.size ≠ w.heap.size + 1 by omega) _)); exact B0.out⟩, ⟨by (with_reducible repeat (first | refine blk_drewN ?_ _ | refine blk_drew ?_ | refine blk_alloc ?_ _)); refine blk_put (cs := #[.int .i64 (pylonref03_Read.st s 8).1, .int .i64 (pylonref03_Read.st s 8).2.1, .int .i64 (pylonref03_Read.st s 8).2.2]) ?_ 2 _ rfl; exact B1.out⟩, ⟨by repeat (first | exact HB.out | apply below_alloc | apply pw_below_drewN | apply below_drew | refine below_set ?_ (show w.heap.size ≤ w.heap.size + 1 by omega))⟩⟩
        case measure => simp [intOf]
      · obtain rfl : n = 8 := by omega
        have b := HBAD.out (by omega)
        obtain ⟨rfl, rfl, rfl, rfl⟩ := HR0.out (.inl (by omega))
        have p0 : wr.cell? ⟨w.heap.size, 0, none⟩ = some (.int .i64 0) := (blk_cell B0.out 0).trans rfl
        have p1 : wr.cell? ⟨w.heap.size, 1, none⟩ = some (.int .i64 0) := (blk_cell B0.out 1).trans rfl
        have p2 : wr.cell? ⟨w.heap.size, 2, none⟩ = some (.int .i64 0) := (blk_cell B0.out 2).trans rfl
        have f0 := blk_frozen B0.out 0
        have f1 := blk_frozen B0.out 1
        have f2 := blk_frozen B0.out 2
        by_cases g1 : bt s 8 < 48
        · clear b
          go_wp2
          refine bodyPost_ret (results_ct rfl _ _ w.heap.size 24 #[.int .i64 0, .int .i64 0, .int .i64 0] (0, 0) _ rfl (by (with_reducible repeat (first | refine blk_drewN ?_ _ | refine blk_drew ?_ | refine blk_alloc ?_ _)); refine blk_put (cs := #[.int .i64 0, .int .i64 0, .int .i64 0]) ?_ 2 _ rfl; refine blk_put (cs := #[.int .i64 0, .int .i64 0, .int .i64 0]) ?_ 1 _ rfl; refine blk_put (cs := #[.int .i64 0, .int .i64 0, .int .i64 0]) ?_ 0 _ rfl; exact B0.out) Try.underlying24 rfl (by kernel_rfl)) rfl ?_
          exact ⟨rfl, by repeat (first | exact HB.out | apply below_alloc | apply pw_below_drewN | apply below_drew | refine below_set ?_ (Nat.le_refl _))⟩
        · have g2 : 57 < bt s 8 := by simp [pylonref03_Read.good] at b; omega
          clear b
          go_wp2
          refine bodyPost_ret (results_ct rfl _ _ w.heap.size 24 #[.int .i64 0, .int .i64 0, .int .i64 0] (0, 0) _ rfl (by (with_reducible repeat (first | refine blk_drewN ?_ _ | refine blk_drew ?_ | refine blk_alloc ?_ _)); refine blk_put (cs := #[.int .i64 0, .int .i64 0, .int .i64 0]) ?_ 2 _ rfl; refine blk_put (cs := #[.int .i64 0, .int .i64 0, .int .i64 0]) ?_ 1 _ rfl; refine blk_put (cs := #[.int .i64 0, .int .i64 0, .int .i64 0]) ?_ 0 _ rfl; exact B0.out) Try.underlying24 rfl (by kernel_rfl)) rfl ?_
          exact ⟨rfl, by repeat (first | exact HB.out | apply below_alloc | apply pw_below_drewN | apply below_drew | refine below_set ?_ (Nat.le_refl _))⟩
    · have hx : ∀ h : 9 < s.size, ((s[9]'h).toNat : Int) = bt s 9 := fun h => bt_at s 9 h
      have hr := bt_range s 9
      obtain ⟨rb1, rb2⟩ := hr
      have hlt : (9 : Int) < (s.size : Int) := by omega
      simp only [show pylonref03_Read.at_ 9 = 2 from rfl, Int.natCast_zero, Int.natCast_one]
      by_cases hin : 9 < n
      · have g := HG.out 9 hin
        have g1 : 48 ≤ bt s 9 ∧ bt s 9 ≤ 57 := by simpa [pylonref03_Read.good] using g
        obtain ⟨g1, g2⟩ := g1
        have d1 : decide (bt s 9 < 48) = false := by simpa using g1
        have d2 : decide (57 < bt s 9) = false := by simpa using g2
        clear g
        have c1 : wr.cell? ⟨w.heap.size + 1, 2, none⟩ = some (.int .i64 (pylonref03_Read.st s 9).2.2) := (blk_cell B1.out 2).trans rfl
        have f1 := blk_frozen B1.out 2
        go_wp2
        go_region
        go_wp2
        go_roundw
        case rel => exact ⟨10, by omega, rfl, rfl, ⟨by (with_reducible repeat (first | refine blk_drewN ?_ _ | refine blk_drew ?_ | refine blk_alloc ?_ _ | refine blk_far ?_ (show w.heap.size ≠ w.heap.size + 1 by omega) _)); exact B0.out⟩, ⟨by (with_reducible repeat (first | refine blk_drewN ?_ _ | refine blk_drew ?_ | refine blk_alloc ?_ _)); refine blk_put (cs := #[.int .i64 (pylonref03_Read.st s 9).1, .int .i64 (pylonref03_Read.st s 9).2.1, .int .i64 (pylonref03_Read.st s 9).2.2]) ?_ 2 _ rfl; exact B1.out⟩, ⟨by repeat (first | exact HB.out | apply below_alloc | apply pw_below_drewN | apply below_drew | refine below_set ?_ (show w.heap.size ≤ w.heap.size + 1 by omega))⟩⟩
        case measure => simp [intOf]
      · obtain rfl : n = 9 := by omega
        have b := HBAD.out (by omega)
        obtain ⟨rfl, rfl, rfl, rfl⟩ := HR0.out (.inl (by omega))
        have p0 : wr.cell? ⟨w.heap.size, 0, none⟩ = some (.int .i64 0) := (blk_cell B0.out 0).trans rfl
        have p1 : wr.cell? ⟨w.heap.size, 1, none⟩ = some (.int .i64 0) := (blk_cell B0.out 1).trans rfl
        have p2 : wr.cell? ⟨w.heap.size, 2, none⟩ = some (.int .i64 0) := (blk_cell B0.out 2).trans rfl
        have f0 := blk_frozen B0.out 0
        have f1 := blk_frozen B0.out 1
        have f2 := blk_frozen B0.out 2
        by_cases g1 : bt s 9 < 48
        · clear b
          go_wp2
          refine bodyPost_ret (results_ct rfl _ _ w.heap.size 24 #[.int .i64 0, .int .i64 0, .int .i64 0] (0, 0) _ rfl (by (with_reducible repeat (first | refine blk_drewN ?_ _ | refine blk_drew ?_ | refine blk_alloc ?_ _)); refine blk_put (cs := #[.int .i64 0, .int .i64 0, .int .i64 0]) ?_ 2 _ rfl; refine blk_put (cs := #[.int .i64 0, .int .i64 0, .int .i64 0]) ?_ 1 _ rfl; refine blk_put (cs := #[.int .i64 0, .int .i64 0, .int .i64 0]) ?_ 0 _ rfl; exact B0.out) Try.underlying24 rfl (by kernel_rfl)) rfl ?_
          exact ⟨rfl, by repeat (first | exact HB.out | apply below_alloc | apply pw_below_drewN | apply below_drew | refine below_set ?_ (Nat.le_refl _))⟩
        · have g2 : 57 < bt s 9 := by simp [pylonref03_Read.good] at b; omega
          clear b
          go_wp2
          refine bodyPost_ret (results_ct rfl _ _ w.heap.size 24 #[.int .i64 0, .int .i64 0, .int .i64 0] (0, 0) _ rfl (by (with_reducible repeat (first | refine blk_drewN ?_ _ | refine blk_drew ?_ | refine blk_alloc ?_ _)); refine blk_put (cs := #[.int .i64 0, .int .i64 0, .int .i64 0]) ?_ 2 _ rfl; refine blk_put (cs := #[.int .i64 0, .int .i64 0, .int .i64 0]) ?_ 1 _ rfl; refine blk_put (cs := #[.int .i64 0, .int .i64 0, .int .i64 0]) ?_ 0 _ rfl; exact B0.out) Try.underlying24 rfl (by kernel_rfl)) rfl ?_
          exact ⟨rfl, by repeat (first | exact HB.out | apply below_alloc | apply pw_below_drewN | apply below_drew | refine below_set ?_ (Nat.le_refl _))⟩
    · obtain rfl : n = 10 := by omega
      have HI := Aside0.mk (HT.out rfl)
      have a0 : wr.cell? ⟨w.heap.size + 1, 0, none⟩ = some (.int .i64 (pylonref03_Read.st s 10).1) := (blk_cell B1.out 0).trans rfl
      have a1 : wr.cell? ⟨w.heap.size + 1, 1, none⟩ = some (.int .i64 (pylonref03_Read.st s 10).2.1) := (blk_cell B1.out 1).trans rfl
      have a2 : wr.cell? ⟨w.heap.size + 1, 2, none⟩ = some (.int .i64 (pylonref03_Read.st s 10).2.2) := (blk_cell B1.out 2).trans rfl
      go_wp2_with (fail)
      refine (pylonref03_Is.calls _ _ _ _ _ _ HI.out).mono ?_
      rintro e w4 ⟨rfl, d4⟩
      have BG := Aside0.mk ((d4.block _ (pylonref03_Read.lt (pylonref03_Read.last wr _ _))).trans (pylonref03_Read.last wr #[.int .i64 (pylonref03_Read.st s 10).1, .int .i64 (pylonref03_Read.st s 10).2.1, .int .i64 (pylonref03_Read.st s 10).2.2] 24))
      have E0 := Aside0.mk ((d4.block _ (pylonref03_Read.lt (blk_alloc B0.out (.cells #[.int .i64 (pylonref03_Read.st s 10).1, .int .i64 (pylonref03_Read.st s 10).2.1, .int .i64 (pylonref03_Read.st s 10).2.2] 24)))).trans (blk_alloc B0.out _))
      have HB1 := Aside0.mk (below_step (below_alloc HB.out _) d4)
      clear B0 B1 HB d4 a0 a1 a2
      have q0 : w4.cell? ⟨wr.heap.size, 0, none⟩ = some (.int .i64 (pylonref03_Read.st s 10).1) := (blk_cell BG.out 0).trans rfl
      have q1 : w4.cell? ⟨wr.heap.size, 1, none⟩ = some (.int .i64 (pylonref03_Read.st s 10).2.1) := (blk_cell BG.out 1).trans rfl
      have q2 : w4.cell? ⟨wr.heap.size, 2, none⟩ = some (.int .i64 (pylonref03_Read.st s 10).2.2) := (blk_cell BG.out 2).trans rfl
      have p0 : w4.cell? ⟨w.heap.size, 0, none⟩ = some (.int .i64 0) := (blk_cell E0.out 0).trans rfl
      have p1 : w4.cell? ⟨w.heap.size, 1, none⟩ = some (.int .i64 0) := (blk_cell E0.out 1).trans rfl
      have p2 : w4.cell? ⟨w.heap.size, 2, none⟩ = some (.int .i64 0) := (blk_cell E0.out 2).trans rfl
      have f0 := blk_frozen E0.out 0
      have f1 := blk_frozen E0.out 1
      have f2 := blk_frozen E0.out 2
      cases t with
      | false =>
        obtain ⟨rfl, rfl, rfl, rfl⟩ := HR0.out (.inr rfl)
        go_wp2
        refine bodyPost_ret (results_ct rfl _ _ w.heap.size 24 #[.int .i64 0, .int .i64 0, .int .i64 0] (0, 0) _ rfl (by (with_reducible repeat (first | refine blk_drewN ?_ _ | refine blk_drew ?_ | refine blk_alloc ?_ _)); refine blk_put (cs := #[.int .i64 0, .int .i64 0, .int .i64 0]) ?_ 2 _ rfl; refine blk_put (cs := #[.int .i64 0, .int .i64 0, .int .i64 0]) ?_ 1 _ rfl; refine blk_put (cs := #[.int .i64 0, .int .i64 0, .int .i64 0]) ?_ 0 _ rfl; exact E0.out) Try.underlying24 rfl (by kernel_rfl)) rfl ?_
        exact ⟨rfl, by repeat (first | exact HB1.out | apply below_alloc | apply pw_below_drewN | apply below_drew | refine below_set ?_ (Nat.le_refl _))⟩
      | true =>
        obtain ⟨rfl, rfl, rfl, rfl⟩ := HR1.out (by first | rfl | trivial) (by first | rfl | trivial)
        go_wp2
        refine bodyPost_ret (results_ct rfl _ _ w.heap.size 24 #[.int .i64 (pylonref03_Read.st s 10).1, .int .i64 (pylonref03_Read.st s 10).2.1, .int .i64 (pylonref03_Read.st s 10).2.2] (0, 0) _ rfl (by (with_reducible repeat (first | refine blk_drewN ?_ _ | refine blk_drew ?_ | refine blk_alloc ?_ _)); refine blk_put (cs := #[.int .i64 (pylonref03_Read.st s 10).1, .int .i64 (pylonref03_Read.st s 10).2.1, .int .i64 0]) ?_ 2 _ rfl; refine blk_put (cs := #[.int .i64 (pylonref03_Read.st s 10).1, .int .i64 0, .int .i64 0]) ?_ 1 _ rfl; refine blk_put (cs := #[.int .i64 0, .int .i64 0, .int .i64 0]) ?_ 0 _ rfl; exact E0.out) Try.underlying24 rfl (by kernel_rfl)) rfl ?_
        exact ⟨rfl, by repeat (first | exact HB1.out | apply below_alloc | apply pw_below_drewN | apply below_drew | refine below_set ?_ (Nat.le_refl _))⟩
theorem pylonref03_Read.first (s : ByteArray) : ∃ n, n ≤ 10 ∧ (∀ j, j < n → pylonref03_Read.good s j = true) ∧ (n < 10 → pylonref03_Read.good s n = false) ∧ (n = 10 ↔ pylonref03_Read.all s = true) := by
  have key : ∀ m, m ≤ 10 → ∃ n, n ≤ m ∧ (∀ j, j < n → pylonref03_Read.good s j = true) ∧ (n < m → pylonref03_Read.good s n = false) := by
    intro m
    induction m with
    | zero => intro _; exact ⟨0, Nat.le_refl _, fun j hj => by omega, fun h => by omega⟩
    | succ m ih =>
      intro hm
      obtain ⟨n, h1, h2, h3⟩ := ih (by omega)
      by_cases e : n < m
      · exact ⟨n, by omega, h2, fun _ => h3 e⟩
      · obtain rfl : n = m := by omega
        by_cases g : pylonref03_Read.good s n = true
        · exact ⟨n + 1, by omega, fun j hj => by
            by_cases q : j < n
            · exact h2 j q
            · obtain rfl : j = n := by omega
              exact g, fun h => by omega⟩
        · exact ⟨n, by omega, h2, fun _ => by simpa using g⟩
  obtain ⟨n, h1, h2, h3⟩ := key 10 (Nat.le_refl _)
  refine ⟨n, h1, h2, h3, ?_⟩
  unfold pylonref03_Read.all
  rw [List.all_eq_true]
  constructor
  · rintro rfl x hx
    exact h2 x (List.mem_range.1 hx)
  · intro h
    by_cases e : n < 10
    · have := h n (List.mem_range.2 e)
      rw [h3 e] at this
      cases this
    · omega
theorem pylonref03_Read.calls (k : Nat) (a0 : ByteArray) (r1 : Int) (r2 : Int) (r3 : Int) (r4 : Int) (w : World) (h : pylonref03_Read.f k a0 = some (r1, r2, r3, r4)) :
    Calls Try.prog 51 #[.string a0] w fun e w' => e = .returned (.tuple #[.agg #[.int .i64 r1, .int .i64 r2, .int .i64 r3], .int .i64 r4]) ∧ Below w.heap.size w w' := by
  unfold pylonref03_Read.f at h
  by_cases hs : a0.size = 10
  · rw [if_pos hs] at h
    obtain ⟨n, h1, h2, h3, h4⟩ := pylonref03_Read.first a0
    by_cases c : pylonref03_Read.all a0 = true
    · rw [if_pos c] at h
      obtain rfl := h4.2 c
      obtain ⟨t, ht, h⟩ := Option.bind_eq_some_iff.mp h
      refine pylonref03_Read.run k a0 w hs 10 h1 h2 h3 t (fun _ => ht) r1 r2 r3 r4 (fun z => ?_) (fun _ z => ?_)
      · rcases z with z | z
        · omega
        · subst z
          simp at h
          exact h
      · subst z
        simp at h
        exact h
    · rw [if_neg c] at h
      simp only [Option.some.injEq, Prod.mk.injEq] at h
      have hn : ¬ n = 10 := fun z => c (h4.1 z)
      exact pylonref03_Read.run k a0 w hs n h1 h2 h3 false (fun z => absurd z hn) r1 r2 r3 r4 (fun _ => h) (fun z => absurd z hn)
  · rw [if_neg hs] at h
    simp only [Option.some.injEq, Prod.mk.injEq] at h
    obtain ⟨rfl, rfl, rfl, rfl⟩ := h
    exact pylonref03_Read.short a0 w hs

end Go.Proofs.Ytipldjcncfoffaa.PX
