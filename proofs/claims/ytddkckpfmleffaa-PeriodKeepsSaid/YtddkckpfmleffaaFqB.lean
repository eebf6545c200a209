/- Slots and their dates: the program's and the document's Dates, by one plain list. -/
import Derived.Test.YtddkckpfmleffaaPXx23
import Derived.Test.YtddkckpfmleffaaFqA
import Derived.Test.YtddkckpfmleffaaFzC
namespace Go.Proofs.Ytddkckpfmleffaa.PX
open Go.RowKit Go.Proofs.YtddkckpfmleffaaW.PrintWords Go.Proofs.YtddkckpfmleffaaW.PrintLast Go.Proofs.YtddkckpfmleffaaW.PrintMore
set_option linter.unusedVariables false
set_option linter.unusedSimpArgs false
def pgood (st step n : Int) : Prop := (step = 15 ∨ step = 30 ∨ step = 60) ∧ 0 ≤ n ∧ n ≤ 40000 ∧ 0 ≤ st ∧ st ≤ 253402300799 ∧ st + 60 * step * n - 1 ≤ 253402300799
theorem pgood_iff {st step n : Int} (v : Int) (hv : step = v) (h : v = 15 ∨ v = 30 ∨ v = 60) : pgood st step n ↔ (0 ≤ n ∧ n ≤ 40000 ∧ 0 ≤ st ∧ st ≤ 253402300799 ∧ st + 60 * v * n - 1 ≤ 253402300799) := by
  subst hv
  exact ⟨fun x => x.2, fun x => ⟨h, x⟩⟩
theorem pgoodf (st step n : Int) : period_good.f st step n = some true ↔ pgood st step n := by
  unfold period_good.f
  by_cases a : step = 15
  · rw [if_pos a, pgood_iff 15 a (.inl rfl)]
    subst a
    repeat' split
    all_goals first | (simp only [reduceCtorEq, Option.some.injEq, Bool.false_eq_true, false_iff]; omega) | skip
    rename_i h1 h2 h3 h4
    simp (disch := omega) only [wr]
    simp only [Option.some.injEq, decide_eq_true_eq]; omega
  rw [if_neg a]
  by_cases a : step = 30
  · rw [if_pos a, pgood_iff 30 a (.inr (.inl rfl))]
    subst a
    repeat' split
    all_goals first | (simp only [reduceCtorEq, Option.some.injEq, Bool.false_eq_true, false_iff]; omega) | skip
    rename_i h1 h2 h3 h4
    simp (disch := omega) only [wr]
    simp only [Option.some.injEq, decide_eq_true_eq]; omega
  rw [if_neg a]
  by_cases a : step = 60
  · rw [if_pos a, pgood_iff 60 a (.inr (.inr rfl))]
    subst a
    repeat' split
    all_goals first | (simp only [reduceCtorEq, Option.some.injEq, Bool.false_eq_true, false_iff]; omega) | skip
    rename_i h1 h2 h3 h4
    simp (disch := omega) only [wr]
    simp only [Option.some.injEq, decide_eq_true_eq]; omega
  rw [if_neg a]
  simp only [Option.some.injEq, Bool.false_eq_true, false_iff]
  unfold pgood; omega
instance (st step n : Int) : Decidable (pgood st step n) := by unfold pgood; infer_instance
theorem pgoodd (st step n : Int) : period_good.f st step n = some (decide (pgood st step n)) := by
  have e : ∃ b, period_good.f st step n = some b := by
    unfold period_good.f
    repeat' split
    all_goals exact ⟨_, rfl⟩
  obtain ⟨b, hb⟩ := e
  have h := pgoodf st step n
  rw [hb] at h ⊢
  cases b with
  | true => rw [decide_eq_true (h.mp rfl)]
  | false => rw [decide_eq_false (fun q => by have := h.mpr q; cases this)]
/-- the number of a slot's date -/
def sN (z : Civ.Zn) (st step : Int) (i : Nat) : Int := (st + 60 * step * i + 60 * Civ.off z (st + 60 * step * i)) / 86400
def sD (z : Civ.Zn) (st step : Int) (i : Nat) : S33 := ⟨Civ.ofY (sN z st step i), Civ.ofM (sN z st step i), Civ.ofD (sN z st step i)⟩
/-- the dates of m slots from i on, where all are there -/
def dls (z : Civ.Zn) (st step : Int) : Nat → Nat → Option (List S33)
  | 0, _ => some []
  | m + 1, i => if Civ.seen z (st + 60 * step * i) then (dls z st step m (i + 1)).map (sD z st step i :: ·) else none
theorem dls_some {z : Civ.Zn} {st step : Int} : ∀ {m i : Nat} {xs : List S33}, dls z st step m i = some xs → xs.length = m ∧ ∀ j, j < m → xs[j]? = some (sD z st step (i + j)) ∧ Civ.seen z (st + 60 * step * ((i + j : Nat) : Int))
  | 0, i, xs, h => by obtain rfl := Option.some.inj h; exact ⟨rfl, fun j hj => by omega⟩
  | m + 1, i, xs, h => by
    rw [dls] at h
    by_cases c : Civ.seen z (st + 60 * step * i)
    · rw [if_pos c] at h
      obtain ⟨ys, hy, rfl⟩ := Option.map_eq_some_iff.mp h
      obtain ⟨h1, h2⟩ := dls_some hy
      refine ⟨by rw [List.length_cons, h1], fun j hj => ?_⟩
      cases j with
      | zero => exact ⟨rfl, c⟩
      | succ j =>
        obtain ⟨a, b⟩ := h2 j (by omega)
        rw [show i + 1 + j = i + (j + 1) by omega] at a b
        exact ⟨by rw [List.getElem?_cons_succ]; exact a, b⟩
    · rw [if_neg c] at h; cases h
def dlsR (L : List S33) : Option (List S33) → List S33 × Int
  | some xs => (L ++ xs, 0)
  | none => ([], 5)
theorem pgood_bd {st step n : Int} (g : pgood st step n) {i : Int} (h0 : 0 ≤ i) (h : i < n) : wrap64 (st + wrap64 (wrap64 (60 * step) * i)) = st + 60 * step * i ∧ i64 (st + 60 * step * i) ∧ 0 ≤ st + 60 * step * i ∧ st + 60 * step * i ≤ 253402300799 := by
  obtain ⟨g1, g2, g3, g4, g5, g6⟩ := g
  unfold i64
  obtain rfl | rfl | rfl := g1
  · rw [wr (n := 60 * 15) (by omega) (by omega), wr (n := 60 * 15 * i) (by omega) (by omega), wr (by omega) (by omega)]
    refine ⟨rfl, ?_, ?_, ?_⟩ <;> omega
  · rw [wr (n := 60 * 30) (by omega) (by omega), wr (n := 60 * 30 * i) (by omega) (by omega), wr (by omega) (by omega)]
    refine ⟨rfl, ?_, ?_, ?_⟩ <;> omega
  · rw [wr (n := 60 * 60) (by omega) (by omega), wr (n := 60 * 60 * i) (by omega) (by omega), wr (by omega) (by omega)]
    refine ⟨rfl, ?_, ?_, ?_⟩ <;> omega
theorem datesloop (z : Civ.Zn) (hz : zwf z) (c : Civ.zok z) {st step n : Int} (g : pgood st step n) (m : Nat) : ∀ (k i : Nat) (L : List S33), m + 8 ≤ k → L.length = i → (i : Int) + m = n →
    period_Dates.l0 k st step (L ++ List.replicate m z33) n i z.o z.s z.m1 z.w1 z.d1 z.t1 z.m2 z.w2 z.d2 z.t2 = some (dlsR L (dls z st step m i)) := by
  induction m with
  | zero =>
    intro k i L hk hL hn
    obtain ⟨k, rfl⟩ : ∃ p, k = p + 1 := ⟨k - 1, by omega⟩
    rw [period_Dates.l0, if_neg (by omega)]
    rfl
  | succ m ih =>
    intro k i L hk hL hn
    obtain ⟨k, rfl⟩ : ∃ p, k = p + 1 := ⟨k - 1, by omega⟩
    obtain ⟨e1, e2, e3, e4⟩ := pgood_bd g (i := i) (by omega) (by omega)
    rw [period_Dates.l0, if_pos (by omega), e1, zAt (by omega) z hz e2]
    simp only [Option.bind_some]
    rw [dls]
    unfold Civ.at_
    rw [if_pos c]
    by_cases s : Civ.seen z (st + 60 * step * i)
    · rw [if_pos s, if_pos s]
      simp only [if_true]
      have hn2 := g.2.2.1
      rw [if_pos (by omega), if_pos (by simp only [List.length_append, List.length_replicate]; omega), wr (n := (i : Int) + 1) (by omega) (by omega), show (i : Int) + 1 = ((i + 1 : Nat) : Int) by omega]
      have e : (L ++ List.replicate (m + 1) z33).set (i : Int).toNat (sD z st step i) = (L ++ [sD z st step i]) ++ List.replicate m z33 := by
        rw [show (i : Int).toNat = L.length by omega, List.set_append_right _ _ (Nat.le_refl _), Nat.sub_self, List.replicate_succ, List.set_cons_zero, List.append_assoc]
        rfl
      rw [show (⟨Civ.ofY ((st + 60 * step * i + 60 * Civ.off z (st + 60 * step * i)) / 86400), Civ.ofM ((st + 60 * step * i + 60 * Civ.off z (st + 60 * step * i)) / 86400), Civ.ofD ((st + 60 * step * i + 60 * Civ.off z (st + 60 * step * i)) / 86400)⟩ : S33) = sD z st step i from rfl, e]
      rw [ih k (i + 1) (L ++ [sD z st step i]) (by omega) (by rw [List.length_append, hL]; rfl) (by omega)]
      cases dls z st step m (i + 1) with
      | none => rfl
      | some xs => simp [dlsR]
    · rw [if_neg s, if_neg s]
      simp only []
      rw [if_neg (by omega)]
      rfl
/-- the slots' dates -/
def zdates (z : Civ.Zn) (st step n : Int) : List S33 × Int := if Civ.zok z then if pgood st step n then dlsR [] (dls z st step n.toNat 0) else ([], 8) else ([], 8)
theorem pdates {k : Nat} (hk : 40020 ≤ k) (z : Civ.Zn) (hz : zwf z) (st step n : Int) : period_Dates.f k z.o z.s z.m1 z.w1 z.d1 z.t1 z.m2 z.w2 z.d2 z.t2 st step n = some (zdates z st step n) := by
  unfold period_Dates.f zdates
  rw [zcheck (by omega) z hz, pgoodd]
  simp only [Option.bind_some]
  obtain ⟨k, rfl⟩ : ∃ p, k = p + 1 := ⟨k - 1, by omega⟩
  by_cases c : Civ.zok z
  · rw [if_pos c, if_pos c, if_pos rfl]
    by_cases g : pgood st step n
    · rw [if_pos g, decide_eq_true g, period_Dates.j0, if_neg (by simp)]
      obtain ⟨g1, g2, g3, g4, g5, g6⟩ := id g
      rw [if_pos g2, if_pos (by omega)]
      simp only [Option.bind_some, List.length_replicate]
      rw [show ((n.toNat : Nat) : Int) = n by omega]
      exact datesloop z hz c g n.toNat k 0 [] (by omega) rfl (by omega)
    · rw [if_neg g, decide_eq_false g, period_Dates.j0, if_pos (by simp)]
  · rw [if_neg c, if_neg c, if_neg (by omega), period_Dates.j0, if_pos rfl]
end Go.Proofs.Ytddkckpfmleffaa.PX
