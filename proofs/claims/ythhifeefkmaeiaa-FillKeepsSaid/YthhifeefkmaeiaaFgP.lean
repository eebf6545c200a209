/- The law FillKeeps: what is handed in stays as it is, answers are new memory (no conditions). -/
import Derived.Test.YthhifeefkmaeiaaPXx10
import Derived.Test.YthhifeefkmaeiaaPXx11
import Derived.Test.YthhifeefkmaeiaaPXx18
import Derived.Test.YthhifeefkmaeiaaFgH
import Derived.Test.YthhifeefkmaeiaaRd
namespace Go.Proofs.Ythhifeefkmaeiaa.PX
open Go.RowKit Go.Proofs.YthhifeefkmaeiaaW.PrintWords Go.Proofs.YthhifeefkmaeiaaW.PrintLast Go.Proofs.YthhifeefkmaeiaaW.PrintMore
set_option linter.unusedVariables false
set_option linter.unusedSimpArgs false
theorem same_l0 {m : ByteArray} {st sp n mu tu : Int} {rs : List S45} (hl : rs.length ≤ 9000000000000) (d : Nat) : ∀ (k : Nat) (i : Nat), i + d = rs.length → d < k → pylonref07_Same.l0 k rs.length i m st sp n mu tu rs m st sp n mu tu rs = some true := by
  induction d with
  | zero =>
    intro k i hi hk
    obtain ⟨k, rfl⟩ : ∃ m, k = m + 1 := ⟨k - 1, by omega⟩
    rw [pylonref07_Same.l0, if_neg (by omega)]
  | succ d ih =>
    intro k i hi hk
    obtain ⟨k, rfl⟩ : ∃ m, k = m + 1 := ⟨k - 1, by omega⟩
    rw [pylonref07_Same.l0, if_pos (by omega), if_pos (by omega), if_pos (by omega), if_pos (by omega), if_neg (by simp), fw (by omega) (by omega)]
    exact ih k (i + 1) (by omega) (by omega)
theorem same_f {m : ByteArray} {st sp n mu tu : Int} {rs : List S45} (hl : rs.length ≤ 9000000000000) {k : Nat} (hk : rs.length + 1 < k) : pylonref07_Same.f k m st sp n mu tu rs m st sp n mu tu rs = some true := by
  obtain ⟨k, rfl⟩ : ∃ m, k = m + 1 := ⟨k - 1, by omega⟩
  rw [pylonref07_Same.f, if_pos rfl, if_pos rfl, if_pos rfl, if_pos rfl, if_pos rfl, if_pos rfl, pylonref07_Same.j0, if_neg (by simp)]
  exact same_l0 hl rs.length k 0 (by omega) (by omega)
theorem FillKeeps_pure (l0 : (ByteArray × Int × Int × Int × Int × Int × (List S45))) (a1 : Int) (h0 : (l0.1.size ≤ 140737488351232 ∧ ((Lit.int .i64 l0.2.1).wf = true ∧ ((Lit.int .i64 l0.2.2.1).wf = true ∧ ((Lit.int .i64 l0.2.2.2.1).wf = true ∧ ((Lit.int .i64 l0.2.2.2.2.1).wf = true ∧ ((Lit.int .i64 l0.2.2.2.2.2.1).wf = true ∧ (l0.2.2.2.2.2.2.length * 40 ≤ 140737488351232 ∧ ∀ p ∈ l0.2.2.2.2.2.2, W45 p)))))))) (h1 : (Lit.int .i64 a1).wf = true) : ∃ k, pylonlaw11_FillKeeps.f k l0.1 l0.2.1 l0.2.2.1 l0.2.2.2.1 l0.2.2.2.2.1 l0.2.2.2.2.2.1 l0.2.2.2.2.2.2 a1 = some true := by
  obtain ⟨m, st, sp, n, mu, tu, rs⟩ := l0
  have hl : rs.length * 40 ≤ 140737488351232 := h0.2.2.2.2.2.2.1
  obtain ⟨C, hC⟩ : ∃ C : Nat, C = 100000 := ⟨_, rfl⟩
  refine ⟨rs.length + C, ?_⟩
  show pylonlaw11_FillKeeps.f (rs.length + C) m st sp n mu tu rs a1 = some true
  obtain ⟨⟨LA, y⟩, hF, hFl⟩ := ffill_some m st sp n mu tu a1 rs
  obtain ⟨⟨LC, z⟩, hG, hGl⟩ := fgaps_some m st sp n mu tu rs
  simp only at hFl hGl
  unfold pylonlaw11_FillKeeps.f
  rw [if_pos]
  exact ⟨fawake (by omega), hl, same_f (by omega) (by omega), LA, y, LC, z, hF, hG, hFl, hGl, samereads_f LA (by omega) (by omega), samespans_f LC (by omega) (by omega)⟩
end Go.Proofs.Ythhifeefkmaeiaa.PX
