/- What the struct types of the program read as. -/
import Derived.Test.YtipldjcncfoffaaOpen
import Derived.Test.YtipldjcncfoffaaPXx0
namespace Go.Proofs.Ytipldjcncfoffaa.PX
open Go.RowKit Go.Proofs.YtipldjcncfoffaaW.PrintWords Go.Proofs.YtipldjcncfoffaaW.PrintLast
set_option linter.unusedVariables false
/-- what holds of a pylon/api.Date that was read -/
def W24 (x : S24) : Prop := (Lit.int .i64 x.f0).wf = true ∧ (Lit.int .i64 x.f1).wf = true ∧ (Lit.int .i64 x.f2).wf = true
theorem rd24 : Rd Try.prog 24 k24 W24 := (Rd.struct (total := 3) (g := fun x : S24 => (x.f0, x.f1, x.f2)) Try.underlying24 (by kernel_rfl) (RdF.cons (c := 1) rfl (by kernel_rfl) (Rd.int Try.underlying3) (RdF.cons (c := 1) rfl (by kernel_rfl) (Rd.int Try.underlying3) (RdF.one rfl (by kernel_rfl) (Rd.int Try.underlying3)))) (fun ⟨a0, a1, a2⟩ => ⟨⟨a0, a1, a2⟩, rfl⟩))
/-- what holds of a pylon/pylonlaw03.Op that was read -/
def W50 (x : S50) : Prop := (Lit.int .i64 x.f0).wf = true ∧ W24 x.f1 ∧ W24 x.f2 ∧ (Lit.int .i64 x.f3).wf = true ∧ (Lit.int .i64 x.f4).wf = true ∧ (Lit.int .i64 x.f5).wf = true ∧ (Lit.int .i64 x.f6).wf = true ∧ x.f7.size ≤ 140737488351232
theorem rd50 : Rd Try.prog 50 k50 W50 := (Rd.struct (total := 12) (g := fun x : S50 => (x.f0, x.f1, x.f2, x.f3, x.f4, x.f5, x.f6, x.f7)) Try.underlying50 (by kernel_rfl) (RdF.cons (c := 1) rfl (by kernel_rfl) (Rd.int Try.underlying3) (RdF.cons (c := 3) rfl (by kernel_rfl) rd24 (RdF.cons (c := 3) rfl (by kernel_rfl) rd24 (RdF.cons (c := 1) rfl (by kernel_rfl) (Rd.int Try.underlying3) (RdF.cons (c := 1) rfl (by kernel_rfl) (Rd.int Try.underlying3) (RdF.cons (c := 1) rfl (by kernel_rfl) (Rd.int Try.underlying3) (RdF.cons (c := 1) rfl (by kernel_rfl) (Rd.int Try.underlying3) (RdF.one rfl (by kernel_rfl) (Rd.string Try.underlying9))))))))) (fun ⟨a0, a1, a2, a3, a4, a5, a6, a7⟩ => ⟨⟨a0, a1, a2, a3, a4, a5, a6, a7⟩, rfl⟩))
end Go.Proofs.Ytipldjcncfoffaa.PX
