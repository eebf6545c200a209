/- The law FillFills. -/
import Derived.Test.YthhifeefkmaeiaaPXx10
import Derived.Test.YthhifeefkmaeiaaPXx15
import Derived.Test.YthhifeefkmaeiaaFgH
import Derived.Test.YthhifeefkmaeiaaRd
namespace Go.Proofs.Ythhifeefkmaeiaa.PX
open Go.RowKit Go.Proofs.YthhifeefkmaeiaaW.PrintWords Go.Proofs.YthhifeefkmaeiaaW.PrintLast Go.Proofs.YthhifeefkmaeiaaW.PrintMore
set_option linter.unusedVariables false
set_option linter.unusedSimpArgs false
theorem FillFills_pure (l0 : (ByteArray × Int × Int × Int × Int × Int × (List S45))) (a1 : Int) (h0 : (l0.1.size ≤ 140737488351232 ∧ ((Lit.int .i64 l0.2.1).wf = true ∧ ((Lit.int .i64 l0.2.2.1).wf = true ∧ ((Lit.int .i64 l0.2.2.2.1).wf = true ∧ ((Lit.int .i64 l0.2.2.2.2.1).wf = true ∧ ((Lit.int .i64 l0.2.2.2.2.2.1).wf = true ∧ (l0.2.2.2.2.2.2.length * 40 ≤ 140737488351232 ∧ ∀ p ∈ l0.2.2.2.2.2.2, W45 p)))))))) (h1 : (Lit.int .i64 a1).wf = true) : ∃ k, pylonlaw11_FillFills.f k l0.1 l0.2.1 l0.2.2.1 l0.2.2.2.1 l0.2.2.2.2.1 l0.2.2.2.2.2.1 l0.2.2.2.2.2.2 a1 = some true := by
  obtain ⟨m, st, sp, n, mu, tu, rs⟩ := l0
  have hl : rs.length * 40 ≤ 140737488351232 := h0.2.2.2.2.2.2.1
  obtain ⟨K0, hK0⟩ : ∃ K0 : Nat, K0 = 2000000000 := ⟨_, rfl⟩
  obtain ⟨C, hC⟩ : ∃ C : Nat, C = 2100050000 := ⟨_, rfl⟩
  have J : ∀ n, pylonlaw11_FillFills.j0 (K0 + 2 * rs.length + C + 1) a1 m st sp n mu tu rs = some true := fun n => by
    obtain ⟨r, hr, hrl⟩ := ffill_some m st sp n mu tu a1 rs
    rw [pylonlaw11_FillFills.j0, rfill_f (K0 := K0) (by omega) (by omega) (by omega), copyf hl, hr]
    simp only [Option.bind_some]
    rw [hr]
    simp only [Option.bind_some, if_true]
    rw [samereads_f r.1 (by omega) (by omega)]
    rfl
  refine ⟨K0 + 2 * rs.length + C + 1, ?_⟩
  show pylonlaw11_FillFills.f (K0 + 2 * rs.length + C + 1) m st sp n mu tu rs a1 = some true
  rw [pylonlaw11_FillFills.f, fawake (by omega)]
  simp only [Option.bind_some, if_true]
  split <;> exact J _
end Go.Proofs.Ythhifeefkmaeiaa.PX
