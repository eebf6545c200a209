/- Whole numbers that do not wrap round. -/
import Derived.IntWalk
import Derived.OpenShut
import Derived.Test.YtpogcehbciacdaaRd
namespace Go.Proofs.Ytpogcehbciacdaa.PX
open Go.RowKit Go.Proofs.YtpogcehbciacdaaW.PrintWords Go.Proofs.YtpogcehbciacdaaW.PrintLast Go.Proofs.YtpogcehbciacdaaW.PrintMore
set_option linter.unusedVariables false
set_option linter.unusedSimpArgs false
theorem wr {n : Int} (h1 : -9223372036854775808 ≤ n) (h2 : n ≤ 9223372036854775807) : wrap64 n = n := Go.IntWalk.wrap64_in n ⟨h1, h2⟩
theorem wf64 {a : Int} (h : (Lit.int .i64 a).wf = true) : -9223372036854775808 ≤ a ∧ a ≤ 9223372036854775807 := Go.bounds_i64 h
theorem u64_nonneg (a : Int) : 0 ≤ IntKind.u64.wrap a := by unfold IntKind.wrap; simp [IntKind.signed, IntKind.bits]; omega
theorem tmod_pos (n : Int) {d : Int} (hd : 0 < d) : 0 ≤ Int.tmod (IntKind.u64.wrap n) d ∧ Int.tmod (IntKind.u64.wrap n) d < d :=
  ⟨Int.tmod_nonneg _ (u64_nonneg n), Int.tmod_lt_of_pos _ hd⟩
end Go.Proofs.Ytpogcehbciacdaa.PX
