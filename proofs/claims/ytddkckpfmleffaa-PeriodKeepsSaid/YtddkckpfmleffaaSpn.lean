/- Runs of equal numbers in a row of numbers: where each begins and ends. No program in sight. -/
import Derived.Test.YtddkckpfmleffaaCiv
namespace Go.Proofs.Ytddkckpfmleffaa.Civ
/-- the runs of equal numbers among the first n: (from, to, number) -/
def runs (P : Nat → Int) : Nat → List (Int × Int × Int)
  | 0 => []
  | n + 1 => match (runs P n).getLast? with
    | some x => if x.2.2 = P n then (runs P n).dropLast ++ [(x.1, (n : Int) + 1, x.2.2)] else runs P n ++ [((n : Int), (n : Int) + 1, P n)]
    | none => [((n : Int), (n : Int) + 1, P n)]
/-- runs that follow on one another from s on -/
def tiled (P : Nat → Int) (s : Int) : List (Int × Int × Int) → Int → Prop
  | [], e => s = e
  | x :: L, e => x.1 = s ∧ x.1 < x.2.1 ∧ 0 ≤ x.1 ∧ (∀ j : Nat, x.1 ≤ j → (j : Int) < x.2.1 → P j = x.2.2) ∧ (L ≠ [] → P x.2.1.toNat ≠ x.2.2) ∧ tiled P x.2.1 L e
theorem tiled_snoc {P : Nat → Int} : ∀ {L : List (Int × Int × Int)} {s a b p : Int}, tiled P s L a → a < b → 0 ≤ a → (∀ j : Nat, a ≤ j → (j : Int) < b → P j = p) → (∀ x, L.getLast? = some x → P a.toNat ≠ x.2.2) → tiled P s (L ++ [(a, b, p)]) b
  | [], s, a, b, p, h, h1, h0, h2, h3 => by
    obtain rfl : s = a := h
    exact ⟨rfl, h1, h0, h2, fun h => absurd rfl h, rfl⟩
  | x :: L, s, a, b, p, h, h1, h0, h2, h3 => by
    obtain ⟨e1, e2, e0, e3, e4, e5⟩ := h
    refine ⟨e1, e2, e0, e3, fun _ => ?_, tiled_snoc e5 h1 h0 h2 (fun y hy => h3 y ?_)⟩
    · cases L with
      | nil =>
        have e : x.2.1 = a := e5
        rw [e]
        exact h3 x rfl
      | cons y L => exact e4 (by simp)
    · cases L with
      | nil => simp at hy
      | cons z L => rw [List.getLast?_cons_cons]; exact hy
theorem runs_last (P : Nat → Int) (n : Nat) : ∃ L a, runs P (n + 1) = L ++ [(a, (n : Int) + 1, P n)] ∧ tiled P 0 L a ∧ 0 ≤ a ∧ a ≤ n ∧ (∀ j : Nat, a ≤ j → j ≤ n → P j = P n) ∧ (∀ x, L.getLast? = some x → P a.toNat ≠ x.2.2) := by
  induction n with
  | zero => exact ⟨[], 0, rfl, rfl, by omega, by omega, fun j _ h => by obtain rfl : j = 0 := by omega
                                                                        rfl, fun x h => by simp at h⟩
  | succ n ih =>
    obtain ⟨L, a, e, t, a0, an, q, r⟩ := ih
    rw [runs, e, List.getLast?_concat]
    simp only []
    by_cases c : P n = P (n + 1)
    · rw [if_pos c, List.dropLast_concat]
      refine ⟨L, a, by rw [c], t, a0, by omega, fun j h1 h2 => ?_, r⟩
      by_cases h : j = n + 1
      · rw [h]
      · rw [q j h1 (by omega), c]
    · rw [if_neg c]
      refine ⟨L ++ [(a, (n : Int) + 1, P n)], (n : Int) + 1, rfl, ?_, by omega, by omega, fun j h1 h2 => ?_, fun x hx => ?_⟩
      · exact tiled_snoc t (by omega) a0 (fun j h1 h2 => q j h1 (by omega)) r
      · obtain rfl : j = n + 1 := by omega
        rfl
      · rw [List.getLast?_concat] at hx
        obtain rfl := Option.some.inj hx
        rw [show ((n : Int) + 1).toNat = n + 1 by omega]
        exact fun h => c h.symm
theorem runs_tiled (P : Nat → Int) (n : Nat) : tiled P 0 (runs P n) n := by
  cases n with
  | zero => rfl
  | succ n =>
    obtain ⟨L, a, e, t, a0, an, q, r⟩ := runs_last P n
    rw [e]
    exact tiled_snoc t (by omega) a0 (fun j h1 h2 => q j h1 (by omega)) r
/-- one run more, as the program finds it -/
theorem runs_run (P : Nat → Int) (s : Nat) (hs : s = 0 ∨ P (s - 1) ≠ P s) (k : Nat) : ∀ (_ : ∀ j, s ≤ j → j ≤ s + k → P j = P s), runs P (s + k + 1) = runs P s ++ [((s : Int), (s : Int) + k + 1, P s)] := by
  induction k with
  | zero =>
    intro h
    rw [Nat.add_zero, runs]
    rcases hs with rfl | hs
    · rfl
    · cases s with
      | zero => rfl
      | succ m =>
        obtain ⟨L, a, e, t, a0, an, q, r⟩ := runs_last P m
        rw [e, List.getLast?_concat]
        simp only []
        rw [if_neg (by simpa using hs)]
        simp
  | succ k ih =>
    intro h
    rw [show s + (k + 1) + 1 = (s + k + 1) + 1 by omega, runs, ih (fun j h1 h2 => h j h1 (by omega)), List.getLast?_concat]
    simp only []
    rw [if_pos (h (s + k + 1) (by omega) (by omega)).symm, List.dropLast_concat]
    have e : ((s + k + 1 : Nat) : Int) + 1 = (s : Int) + ((k + 1 : Nat) : Int) + 1 := by omega
    rw [e]
theorem runs_len (P : Nat → Int) (n : Nat) : (runs P n).length ≤ n := by
  induction n with
  | zero => simp [runs]
  | succ n ih =>
    rw [runs]
    split
    · split
      · rw [List.length_append, List.length_dropLast]
        simp
        omega
      · simp; omega
    · simp
end Go.Proofs.Ytddkckpfmleffaa.Civ
