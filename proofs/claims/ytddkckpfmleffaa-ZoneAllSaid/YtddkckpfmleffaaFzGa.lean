/- Calls of both programs' zones give the same answers. -/
import Derived.Test.YtddkckpfmleffaaPXx11
import Derived.Test.YtddkckpfmleffaaPXx18
import Derived.Test.YtddkckpfmleffaaFzC
import Derived.Test.YtddkckpfmleffaaFzB
import Derived.Test.YtddkckpfmleffaaFzM
import Derived.Test.YtddkckpfmleffaaFzS
import Derived.Test.YtddkckpfmleffaaFeRef
namespace Go.Proofs.Ytddkckpfmleffaa.PX
open Go.RowKit Go.Proofs.YtddkckpfmleffaaW.PrintWords Go.Proofs.YtddkckpfmleffaaW.PrintLast Go.Proofs.YtddkckpfmleffaaW.PrintMore
set_option linter.unusedVariables false
set_option linter.unusedSimpArgs false
theorem samenums (L : List Int) (hl : L.length ≤ 1000) {k : Nat} (hk : 1001 ≤ k) : pylonref01_SameNumbers.f k L L = some true := by
  have go : ∀ (j : Nat) (i : Int) (k : Nat), 0 ≤ i → (L.length : Int) - i = j → j + 1 ≤ k → pylonref01_SameNumbers.l0 k L L (L.length : Int) i = some true := by
    intro j
    induction j with
    | zero =>
      intro i k h1 h2 h3
      obtain ⟨k, rfl⟩ : ∃ p, k = p + 1 := ⟨k - 1, by omega⟩
      rw [pylonref01_SameNumbers.l0, if_neg (by omega)]
    | succ j ih =>
      intro i k h1 h2 h3
      obtain ⟨k, rfl⟩ : ∃ p, k = p + 1 := ⟨k - 1, by omega⟩
      rw [pylonref01_SameNumbers.l0, if_pos (by omega), if_pos h1, if_pos (by omega), if_pos (by omega), if_pos rfl, wr (by omega) (by omega)]
      exact ih (i + 1) k (by omega) (by omega) (by omega)
  unfold pylonref01_SameNumbers.f
  rw [if_pos rfl]
  exact go L.length 0 k (by omega) (by omega) (by omega)
theorem zmoments_len (z : Civ.Zn) (y m d mi : Int) : (zmoments z y m d mi).1.length ≤ 1000 := by
  unfold zmoments Civ.moms
  repeat' split
  all_goals simp
theorem zplays {k : Nat} (hk : 11300 ≤ k) (o : S51) (hw : W51 o) : ∃ r, pylonlaw04_plays.f k o.f0 o.f1.f0 o.f1.f1 o.f1.f2.f0 o.f1.f2.f1 o.f1.f2.f2 o.f1.f2.f3 o.f1.f3.f0 o.f1.f3.f1 o.f1.f3.f2 o.f1.f3.f3 o.f2 o.f3.f0 o.f3.f1 o.f3.f2 o.f4 = some r ∧ pylonlaw04_wants.f k o.f0 o.f1.f0 o.f1.f1 o.f1.f2.f0 o.f1.f2.f1 o.f1.f2.f2 o.f1.f2.f3 o.f1.f3.f0 o.f1.f3.f1 o.f1.f3.f2 o.f1.f3.f3 o.f2 o.f3.f0 o.f3.f1 o.f3.f2 o.f4 = some r ∧ r.2.2.2.2.2.2.2.1.length ≤ 1000 := by
  obtain ⟨w0, w1, w2, ⟨w3, w4, w5⟩, w6⟩ := hw
  have hz := zof_wf w1
  show ∃ r, pylonlaw04_plays.f k o.f0 (zof o.f1).o (zof o.f1).s (zof o.f1).m1 (zof o.f1).w1 (zof o.f1).d1 (zof o.f1).t1 (zof o.f1).m2 (zof o.f1).w2 (zof o.f1).d2 (zof o.f1).t2 o.f2 o.f3.f0 o.f3.f1 o.f3.f2 o.f4 = some r ∧ pylonlaw04_wants.f k o.f0 (zof o.f1).o (zof o.f1).s (zof o.f1).m1 (zof o.f1).w1 (zof o.f1).d1 (zof o.f1).t1 (zof o.f1).m2 (zof o.f1).w2 (zof o.f1).d2 (zof o.f1).t2 o.f2 o.f3.f0 o.f3.f1 o.f3.f2 o.f4 = some r ∧ r.2.2.2.2.2.2.2.1.length ≤ 1000
  generalize zof o.f1 = z at *
  unfold pylonlaw04_plays.f pylonlaw04_wants.f
  by_cases c1 : o.f0 = 1
  · rw [if_pos c1, if_pos c1, zcheck (by omega) z hz, refzcheck (by omega) z]
    exact ⟨_, rfl, rfl, by simp⟩
  rw [if_neg c1, if_neg c1]
  by_cases c2 : o.f0 = 2
  · rw [if_pos c2, if_pos c2, zTurns (by omega) z hz, refzTurns (by omega) z]
    exact ⟨_, rfl, rfl, by simp⟩
  rw [if_neg c2, if_neg c2]
  by_cases c3 : o.f0 = 3
  · rw [if_pos c3, if_pos c3, zAt (by omega) z hz (wf64 w2), refzAt (by omega) z (wf64 w2)]
    exact ⟨_, rfl, rfl, by simp⟩
  rw [if_neg c3, if_neg c3]
  by_cases c4 : o.f0 = 4
  · rw [if_pos c4, if_pos c4, zMoments (by omega) z hz _ _ _ _ (wf64 w6), refzMoments (by omega) z]
    exact ⟨_, rfl, rfl, zmoments_len _ _ _ _ _⟩
  rw [if_neg c4, if_neg c4]
  by_cases c5 : o.f0 = 5
  · rw [if_pos c5, if_pos c5, zDay (by omega) z hz, refzDay (by omega) z]
    exact ⟨_, rfl, rfl, by simp⟩
  rw [if_neg c5, if_neg c5]
  exact ⟨_, rfl, rfl, by simp⟩
end Go.Proofs.Ytddkckpfmleffaa.PX
