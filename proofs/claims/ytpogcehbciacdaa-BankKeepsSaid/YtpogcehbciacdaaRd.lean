/- What the struct types of the program read as. -/
import Derived.Test.YtpogcehbciacdaaOpen
import Derived.Test.YtpogcehbciacdaaPXx0
namespace Go.Proofs.Ytpogcehbciacdaa.PX
open Go.RowKit Go.Proofs.YtpogcehbciacdaaW.PrintWords Go.Proofs.YtpogcehbciacdaaW.PrintLast
set_option linter.unusedVariables false
/-- what holds of a pylon/api.Lot that was read -/
def W32 (x : S32) : Prop := (Lit.int .i64 x.f0).wf = true ∧ (Lit.int .i64 x.f1).wf = true
theorem rd32 : Rd Try.prog 32 k32 W32 := (Rd.struct (total := 2) (g := fun x : S32 => (x.f0, x.f1)) Try.underlying32 (by kernel_rfl) (RdF.cons (c := 1) rfl (by kernel_rfl) (Rd.int Try.underlying2) (RdF.one rfl (by kernel_rfl) (Rd.int Try.underlying3))) (fun ⟨a0, a1⟩ => ⟨⟨a0, a1⟩, rfl⟩))
/-- what holds of a pylon/pylonlaw19.Op that was read -/
def W44 (x : S44) : Prop := (Lit.int .i64 x.f0).wf = true ∧ (Lit.int .i64 x.f1).wf = true
theorem rd44 : Rd Try.prog 44 k44 W44 := (Rd.struct (total := 2) (g := fun x : S44 => (x.f0, x.f1)) Try.underlying44 (by kernel_rfl) (RdF.cons (c := 1) rfl (by kernel_rfl) (Rd.int Try.underlying3) (RdF.one rfl (by kernel_rfl) (Rd.int Try.underlying2))) (fun ⟨a0, a1⟩ => ⟨⟨a0, a1⟩, rfl⟩))
end Go.Proofs.Ytpogcehbciacdaa.PX
