/- PeriodBegins: every Begin and Next: for every date and day the call returns true (no conditions). -/
import Derived.Test.YtipldjcncfoffaaPXx15
import Derived.Test.YtipldjcncfoffaaFpA
import Derived.Test.YtipldjcncfoffaaRd
namespace Go.Proofs.Ytipldjcncfoffaa.PX
open Go.RowKit Go.Proofs.YtipldjcncfoffaaW.PrintWords Go.Proofs.YtipldjcncfoffaaW.PrintLast Go.Proofs.YtipldjcncfoffaaW.PrintMore
set_option linter.unusedVariables false
set_option linter.unusedSimpArgs false
theorem PeriodBegins_pure (l0 : S24) (a1 : Int) (h0 : W24 l0) (h1 : (Lit.int .i64 a1).wf = true) : ∃ k, pylonlaw13_PeriodBegins.f k l0.f0 l0.f1 l0.f2 a1 = some true := by
  refine ⟨10, ?_⟩
  unfold pylonlaw13_PeriodBegins.f
  rw [perawake 9, refbeginf 0, refnextf 0, beginf 9 _ _ _ _ (wf64 h1), nextf 9 _ _ _ _ (wf64 h1)]
  simp
end Go.Proofs.Ytipldjcncfoffaa.PX
