/- The document's date of a day number. -/
import Derived.Test.YtkggjjggcbcdiaaFcDate
import Derived.Test.YtkggjjggcbcdiaaFaR
import Derived.Test.YtkggjjggcbcdiaaFaW
namespace Go.Proofs.Ytkggjjggcbcdiaa.PX
open Go.RowKit Go.Proofs.YtkggjjggcbcdiaaW.PrintWords Go.Proofs.YtkggjjggcbcdiaaW.PrintLast Go.Proofs.YtkggjjggcbcdiaaW.PrintMore
set_option linter.unusedVariables false
set_option linter.unusedSimpArgs false
theorem u64_nonneg (a : Int) : 0 ≤ IntKind.u64.wrap a := by unfold IntKind.wrap; simp [IntKind.signed, IntKind.bits]; omega
theorem ok_day {y m d : Int} (h1 : 1 ≤ y) (h2 : y ≤ 9999) (h3 : 1 ≤ m) (h4 : m ≤ 12) (h5 : 1 ≤ d) (h6 : d ≤ 28) : Civ.ok y m d := by
  have := Civ.len_bd y m
  exact ⟨h1, h2, h3, h4, h5, by omega⟩
theorem tmod_pos (n : Int) {d : Int} (hd : 0 < d) : 0 ≤ Int.tmod (IntKind.u64.wrap n) d ∧ Int.tmod (IntKind.u64.wrap n) d < d :=
  ⟨Int.tmod_nonneg _ (u64_nonneg n), Int.tmod_lt_of_pos _ hd⟩
end Go.Proofs.Ytkggjjggcbcdiaa.PX
