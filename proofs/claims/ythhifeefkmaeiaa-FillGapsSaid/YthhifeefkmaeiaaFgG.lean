/- The law FillGaps. -/
import Derived.Test.YthhifeefkmaeiaaPXx13
import Derived.Test.YthhifeefkmaeiaaFgA
import Derived.Test.YthhifeefkmaeiaaRd
namespace Go.Proofs.Ythhifeefkmaeiaa.PX
open Go.RowKit Go.Proofs.YthhifeefkmaeiaaW.PrintWords Go.Proofs.YthhifeefkmaeiaaW.PrintLast Go.Proofs.YthhifeefkmaeiaaW.PrintMore
set_option linter.unusedVariables false
set_option linter.unusedSimpArgs false
theorem FillGaps_pure (l0 : (ByteArray × Int × Int × Int × Int × Int × (List S45))) (h0 : (l0.1.size ≤ 140737488351232 ∧ ((Lit.int .i64 l0.2.1).wf = true ∧ ((Lit.int .i64 l0.2.2.1).wf = true ∧ ((Lit.int .i64 l0.2.2.2.1).wf = true ∧ ((Lit.int .i64 l0.2.2.2.2.1).wf = true ∧ ((Lit.int .i64 l0.2.2.2.2.2.1).wf = true ∧ (l0.2.2.2.2.2.2.length * 40 ≤ 140737488351232 ∧ ∀ p ∈ l0.2.2.2.2.2.2, W45 p)))))))) : ∃ k, pylonlaw11_FillGaps.f k l0.1 l0.2.1 l0.2.2.1 l0.2.2.2.1 l0.2.2.2.2.1 l0.2.2.2.2.2.1 l0.2.2.2.2.2.2 = some true := by
  obtain ⟨m, st, sp, n, mu, tu, rs⟩ := l0
  have hl : rs.length * 40 ≤ 140737488351232 := h0.2.2.2.2.2.2.1
  refine ⟨2 * rs.length + 50000, ?_⟩
  obtain ⟨r, hr, hrl⟩ := fgaps_some m st sp n mu tu rs
  show pylonlaw11_FillGaps.f (2 * rs.length + 50000) m st sp n mu tu rs = some true
  rw [pylonlaw11_FillGaps.f, fawake (by omega), rgaps_f (by omega) (by omega), copyf hl, hr]
  simp only [Option.bind_some, if_true]
  rw [hr]
  simp only [Option.bind_some, if_true]
  rw [samespans_f r.1 (by omega) (by omega)]
  rfl
end Go.Proofs.Ythhifeefkmaeiaa.PX
