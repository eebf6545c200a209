/- The law ZoneAll: for every script the call returns true (no conditions). -/
import Derived.Test.YtddkckpfmleffaaPXx29
import Derived.Test.YtddkckpfmleffaaFzGa
namespace Go.Proofs.Ytddkckpfmleffaa.PX
open Go.RowKit Go.Proofs.YtddkckpfmleffaaW.PrintWords Go.Proofs.YtddkckpfmleffaaW.PrintLast Go.Proofs.YtddkckpfmleffaaW.PrintMore
set_option linter.unusedVariables false
set_option linter.unusedSimpArgs false
theorem ZoneAll_pure (l0 : List S51) (h0 : l0.length * 128 ≤ 140737488351232 ∧ ∀ p ∈ l0, W51 p) : ∃ k, pylonlaw04_ZoneAll.f k l0 = some true := by
  obtain ⟨K, hK⟩ : ∃ K : Nat, K = 11301 := ⟨_, rfl⟩
  have go : ∀ (j : Nat) (i : Int) (k : Nat), 0 ≤ i → (l0.length : Int) - i = j → 2 * j + K ≤ k → pylonlaw04_ZoneAll.l0 k l0 (l0.length : Int) i = some true := by
    intro j
    induction j with
    | zero =>
      intro i k h1 h2 h3
      obtain ⟨k, rfl⟩ : ∃ p, k = p + 1 := ⟨k - 1, by omega⟩
      rw [pylonlaw04_ZoneAll.l0, if_neg (by omega)]
    | succ j ih =>
      intro i k h1 h2 h3
      obtain ⟨k, rfl⟩ : ∃ p, k = p + 2 := ⟨k - 2, by omega⟩
      have hi : i.toNat < l0.length := by omega
      have hm : rd_T51 l0 i ∈ l0 := by
        unfold rd_T51
        rw [List.getD_eq_getElem?_getD, List.getElem?_eq_getElem hi, Option.getD_some]
        exact List.getElem_mem hi
      obtain ⟨r, e1, e2, e3⟩ := zplays (k := k + 1) (by omega) (rd_T51 l0 i) (h0.2 _ hm)
      rw [show k + 2 = (k + 1) + 1 from rfl, pylonlaw04_ZoneAll.l0, if_pos (by omega), if_pos h1, if_pos (by omega), e1, e2]
      simp only [Option.bind_some, beq_self_eq_true, Bool.not_true, Bool.or_self, Bool.false_eq_true, if_false, if_true]
      rw [samenums _ e3 (by omega)]
      simp only [Option.bind_some]
      rw [pylonlaw04_ZoneAll.j1, if_neg (by simp), wr (by omega) (by omega)]
      exact ih (i + 1) k (by omega) (by omega) (by omega)
  refine ⟨2 * l0.length + K, ?_⟩
  unfold pylonlaw04_ZoneAll.f
  rw [zawake (by omega)]
  simp only [Option.bind_some, if_true]
  exact go l0.length 0 _ (by omega) (by omega) (by omega)
end Go.Proofs.Ytddkckpfmleffaa.PX
