/- Slots and their dates: the document's Dates, by the same plain list. -/
import Derived.Test.YtddkckpfmleffaaPXx22
import Derived.Test.YtddkckpfmleffaaPXx23
import Derived.Test.YtddkckpfmleffaaFqB
import Derived.Test.YtddkckpfmleffaaFzR
namespace Go.Proofs.Ytddkckpfmleffaa.PX
open Go.RowKit Go.Proofs.YtddkckpfmleffaaW.PrintWords Go.Proofs.YtddkckpfmleffaaW.PrintLast Go.Proofs.YtddkckpfmleffaaW.PrintMore
set_option linter.unusedVariables false
set_option linter.unusedSimpArgs false
theorem refgoodd (st step n : Int) : pylonref13_Good.f st step n = some (decide (pgood st step n)) := by
  have e := pgoodd st step n
  rw [← e]
  unfold pylonref13_Good.f period_good.f
  repeat' split
  all_goals first | rfl | (exfalso; omega)
theorem refdatesloop (z : Civ.Zn) (c : Civ.zok z) {st step n : Int} (g : pgood st step n) (m : Nat) : ∀ (k i : Nat) (L : List S33), m + 11020 ≤ k → L.length = i → (i : Int) + m = n →
    pylonref13_Dates.l0 k st step L n i z.o z.s z.m1 z.w1 z.d1 z.t1 z.m2 z.w2 z.d2 z.t2 = some (dlsR L (dls z st step m i)) := by
  induction m with
  | zero =>
    intro k i L hk hL hn
    obtain ⟨k, rfl⟩ : ∃ p, k = p + 1 := ⟨k - 1, by omega⟩
    rw [pylonref13_Dates.l0, if_neg (by omega)]
    simp [dls, dlsR]
  | succ m ih =>
    intro k i L hk hL hn
    obtain ⟨k, rfl⟩ : ∃ p, k = p + 1 := ⟨k - 1, by omega⟩
    obtain ⟨e1, e2, e3, e4⟩ := pgood_bd g (i := i) (by omega) (by omega)
    rw [pylonref13_Dates.l0, if_pos (by omega), e1, refzAt (by omega) z e2]
    simp only [Option.bind_some]
    rw [dls]
    unfold Civ.at_
    rw [if_pos c]
    by_cases s : Civ.seen z (st + 60 * step * i)
    · rw [if_pos s, if_pos s]
      simp only [if_true]
      have hn2 := g.2.2.1
      rw [if_pos (by omega), wr (n := (i : Int) + 1) (by omega) (by omega), show (i : Int) + 1 = ((i + 1 : Nat) : Int) by omega]
      rw [show (⟨Civ.ofY ((st + 60 * step * i + 60 * Civ.off z (st + 60 * step * i)) / 86400), Civ.ofM ((st + 60 * step * i + 60 * Civ.off z (st + 60 * step * i)) / 86400), Civ.ofD ((st + 60 * step * i + 60 * Civ.off z (st + 60 * step * i)) / 86400)⟩ : S33) = sD z st step i from rfl]
      rw [ih k (i + 1) (L ++ [sD z st step i]) (by omega) (by rw [List.length_append, hL]; rfl) (by omega)]
      cases dls z st step m (i + 1) with
      | none => rfl
      | some xs => simp [dlsR]
    · rw [if_neg s, if_neg s]
      simp only []
      rw [if_neg (by omega)]
      rfl
theorem refpdates {k : Nat} (hk : 60020 ≤ k) (z : Civ.Zn) (st step n : Int) : pylonref13_Dates.f k z.o z.s z.m1 z.w1 z.d1 z.t1 z.m2 z.w2 z.d2 z.t2 st step n = some (zdates z st step n) := by
  unfold pylonref13_Dates.f zdates
  rw [refzcheck (by omega) z, refgoodd]
  simp only [Option.bind_some]
  obtain ⟨k, rfl⟩ : ∃ p, k = p + 1 := ⟨k - 1, by omega⟩
  by_cases c : Civ.zok z
  · rw [if_pos c, if_pos c, if_pos rfl]
    by_cases g : pgood st step n
    · rw [if_pos g, decide_eq_true g, pylonref13_Dates.j0, if_neg (by simp)]
      obtain ⟨g1, g2, g3, g4, g5, g6⟩ := id g
      exact refdatesloop z c g n.toNat k 0 [] (by omega) rfl (by omega)
    · rw [if_neg g, decide_eq_false g, pylonref13_Dates.j0, if_pos (by simp)]
  · rw [if_neg c, if_neg c, if_neg (by omega), pylonref13_Dates.j0, if_pos rfl]
theorem samedatesl (l : List S33) (hl : l.length ≤ 1000000) (m : Nat) : ∀ (k i : Nat), m + 1 ≤ k → i + m = l.length → pylonref13_SameDates.l0 k l l (l.length : Int) i = some true := by
  induction m with
  | zero =>
    intro k i hk hi
    obtain ⟨k, rfl⟩ : ∃ p, k = p + 1 := ⟨k - 1, by omega⟩
    rw [pylonref13_SameDates.l0, if_neg (by omega)]
  | succ m ih =>
    intro k i hk hi
    obtain ⟨k, rfl⟩ : ∃ p, k = p + 1 := ⟨k - 1, by omega⟩
    rw [pylonref13_SameDates.l0, if_pos (by omega), if_pos (by omega), if_pos (by omega), if_pos (by omega), if_neg (by simp), wr (n := (i : Int) + 1) (by omega) (by omega), show (i : Int) + 1 = ((i + 1 : Nat) : Int) by omega]
    exact ih k (i + 1) (by omega) (by omega)
theorem samedates {k : Nat} (l : List S33) (hl : l.length ≤ 1000000) (hk : l.length + 1 ≤ k) : pylonref13_SameDates.f k l l = some true := by
  unfold pylonref13_SameDates.f
  rw [if_pos rfl]
  exact samedatesl l hl l.length k 0 hk (by omega)
theorem zdates_len (z : Civ.Zn) (st step n : Int) : (zdates z st step n).1.length ≤ 40000 := by
  unfold zdates
  by_cases c : Civ.zok z
  · rw [if_pos c]
    by_cases g : pgood st step n
    · rw [if_pos g]
      cases e : dls z st step n.toNat 0 with
      | none => simp [dlsR]
      | some xs =>
        have h := (dls_some e).1
        obtain ⟨g1, g2, g3, g4, g5, g6⟩ := g
        simp only [dlsR, List.nil_append]
        omega
    · rw [if_neg g]; simp
  · rw [if_neg c]; simp
end Go.Proofs.Ytddkckpfmleffaa.PX
