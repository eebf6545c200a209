/- What the struct types of the program read as. -/
import Derived.Test.YtegedhnbmclbkaaOpen
import Derived.Test.YtegedhnbmclbkaaPXx0
namespace Go.Proofs.Ytegedhnbmclbkaa.PX
open Go.RowKit Go.Proofs.YtegedhnbmclbkaaW.PrintWords Go.Proofs.YtegedhnbmclbkaaW.PrintLast
set_option linter.unusedVariables false
/-- what holds of a pylon/api.Holiday that was read -/
def W25 (x : S25) : Prop := (Lit.int .i64 x.f0).wf = true ∧ (Lit.int .i64 x.f1).wf = true ∧ (Lit.int .i64 x.f2).wf = true ∧ (Lit.int .i64 x.f3).wf = true
theorem rd25 : Rd Try.prog 25 k25 W25 := (Rd.struct (total := 4) (g := fun x : S25 => (x.f0, x.f1, x.f2, x.f3)) Try.underlying25 (by kernel_rfl) (RdF.cons (c := 1) rfl (by kernel_rfl) (Rd.int Try.underlying3) (RdF.cons (c := 1) rfl (by kernel_rfl) (Rd.int Try.underlying3) (RdF.cons (c := 1) rfl (by kernel_rfl) (Rd.int Try.underlying3) (RdF.one rfl (by kernel_rfl) (Rd.int Try.underlying3))))) (fun ⟨a0, a1, a2, a3⟩ => ⟨⟨a0, a1, a2, a3⟩, rfl⟩))
/-- what holds of a pylon/api.Date that was read -/
def W33 (x : S33) : Prop := (Lit.int .i64 x.f0).wf = true ∧ (Lit.int .i64 x.f1).wf = true ∧ (Lit.int .i64 x.f2).wf = true
theorem rd33 : Rd Try.prog 33 k33 W33 := (Rd.struct (total := 3) (g := fun x : S33 => (x.f0, x.f1, x.f2)) Try.underlying33 (by kernel_rfl) (RdF.cons (c := 1) rfl (by kernel_rfl) (Rd.int Try.underlying3) (RdF.cons (c := 1) rfl (by kernel_rfl) (Rd.int Try.underlying3) (RdF.one rfl (by kernel_rfl) (Rd.int Try.underlying3)))) (fun ⟨a0, a1, a2⟩ => ⟨⟨a0, a1, a2⟩, rfl⟩))
/-- what holds of a pylon/pylonlaw05.Op that was read -/
def W43 (x : S43) : Prop := (Lit.int .i64 x.f0).wf = true ∧ W25 x.f1 ∧ (x.f2.length * 32 ≤ 140737488351232 ∧ ∀ p ∈ x.f2, W25 p) ∧ (Lit.int .i64 x.f3).wf = true ∧ W33 x.f4
theorem rd43 : Rd Try.prog 43 k43 W43 := (Rd.struct (total := 10) (g := fun x : S43 => (x.f0, x.f1, x.f2, x.f3, x.f4)) Try.underlying43 (by kernel_rfl) (RdF.cons (c := 1) rfl (by kernel_rfl) (Rd.int Try.underlying3) (RdF.cons (c := 4) rfl (by kernel_rfl) rd25 (RdF.cons (c := 1) rfl (by kernel_rfl) (Rd.slice (B := 32) Try.underlying22 (by kernel_rfl) (by kernel_rfl) rd25) (RdF.cons (c := 1) rfl (by kernel_rfl) (Rd.int Try.underlying3) (RdF.one rfl (by kernel_rfl) rd33))))) (fun ⟨a0, a1, a2, a3, a4⟩ => ⟨⟨a0, a1, a2, a3, a4⟩, rfl⟩))
end Go.Proofs.Ytegedhnbmclbkaa.PX
