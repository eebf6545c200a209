/- What the struct types of the program read as. -/
import Derived.Test.YthhifeefkmaeiaaOpen
import Derived.Test.YthhifeefkmaeiaaPXx0
namespace Go.Proofs.Ythhifeefkmaeiaa.PX
open Go.RowKit Go.Proofs.YthhifeefkmaeiaaW.PrintWords Go.Proofs.YthhifeefkmaeiaaW.PrintLast
set_option linter.unusedVariables false
/-- what holds of a pylon/api.Span that was read -/
def W43 (x : S43) : Prop := (Lit.int .i64 x.f0).wf = true ∧ (Lit.int .i64 x.f1).wf = true
theorem rd43 : Rd Try.prog 43 k43 W43 := (Rd.struct (total := 2) (g := fun x : S43 => (x.f0, x.f1)) Try.underlying43 (by kernel_rfl) (RdF.cons (c := 1) rfl (by kernel_rfl) (Rd.int Try.underlying3) (RdF.one rfl (by kernel_rfl) (Rd.int Try.underlying3))) (fun ⟨a0, a1⟩ => ⟨⟨a0, a1⟩, rfl⟩))
/-- what holds of a pylon/api.Read that was read -/
def W45 (x : S45) : Prop := (Lit.int .i64 x.f0).wf = true ∧ (Lit.int .i64 x.f1).wf = true ∧ (Lit.int .i64 x.f2).wf = true ∧ (Lit.int .i64 x.f3).wf = true ∧ (Lit.int .u8 x.f4).wf = true
theorem rd45 : Rd Try.prog 45 k45 W45 := (Rd.struct (total := 5) (g := fun x : S45 => (x.f0, x.f1, x.f2, x.f3, x.f4)) Try.underlying45 (by kernel_rfl) (RdF.cons (c := 1) rfl (by kernel_rfl) (Rd.int Try.underlying3) (RdF.cons (c := 1) rfl (by kernel_rfl) (Rd.int Try.underlying2) (RdF.cons (c := 1) rfl (by kernel_rfl) (Rd.int Try.underlying2) (RdF.cons (c := 1) rfl (by kernel_rfl) (Rd.int Try.underlying2) (RdF.one rfl (by kernel_rfl) (Rd.int Try.underlying5)))))) (fun ⟨a0, a1, a2, a3, a4⟩ => ⟨⟨a0, a1, a2, a3, a4⟩, rfl⟩))
end Go.Proofs.Ythhifeefkmaeiaa.PX
