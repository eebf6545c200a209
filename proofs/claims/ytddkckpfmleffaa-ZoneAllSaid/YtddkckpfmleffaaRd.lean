/- What the struct types of the program read as. -/
import Derived.Test.YtddkckpfmleffaaOpen
import Derived.Test.YtddkckpfmleffaaPXx0
namespace Go.Proofs.Ytddkckpfmleffaa.PX
open Go.RowKit Go.Proofs.YtddkckpfmleffaaW.PrintWords Go.Proofs.YtddkckpfmleffaaW.PrintLast
set_option linter.unusedVariables false
/-- what holds of a pylon/api.Rule that was read -/
def W23 (x : S23) : Prop := (Lit.int .i64 x.f0).wf = true ∧ (Lit.int .i64 x.f1).wf = true ∧ (Lit.int .i64 x.f2).wf = true ∧ (Lit.int .i64 x.f3).wf = true
theorem rd23 : Rd Try.prog 23 k23 W23 := (Rd.struct (total := 4) (g := fun x : S23 => (x.f0, x.f1, x.f2, x.f3)) Try.underlying23 (by kernel_rfl) (RdF.cons (c := 1) rfl (by kernel_rfl) (Rd.int Try.underlying3) (RdF.cons (c := 1) rfl (by kernel_rfl) (Rd.int Try.underlying3) (RdF.cons (c := 1) rfl (by kernel_rfl) (Rd.int Try.underlying3) (RdF.one rfl (by kernel_rfl) (Rd.int Try.underlying3))))) (fun ⟨a0, a1, a2, a3⟩ => ⟨⟨a0, a1, a2, a3⟩, rfl⟩))
/-- what holds of a pylon/api.Zone that was read -/
def W25 (x : S25) : Prop := (Lit.int .i64 x.f0).wf = true ∧ (Lit.int .i64 x.f1).wf = true ∧ W23 x.f2 ∧ W23 x.f3
theorem rd25 : Rd Try.prog 25 k25 W25 := (Rd.struct (total := 10) (g := fun x : S25 => (x.f0, x.f1, x.f2, x.f3)) Try.underlying25 (by kernel_rfl) (RdF.cons (c := 1) rfl (by kernel_rfl) (Rd.int Try.underlying3) (RdF.cons (c := 1) rfl (by kernel_rfl) (Rd.int Try.underlying3) (RdF.cons (c := 4) rfl (by kernel_rfl) rd23 (RdF.one rfl (by kernel_rfl) rd23)))) (fun ⟨a0, a1, a2, a3⟩ => ⟨⟨a0, a1, a2, a3⟩, rfl⟩))
/-- what holds of a pylon/api.Date that was read -/
def W33 (x : S33) : Prop := (Lit.int .i64 x.f0).wf = true ∧ (Lit.int .i64 x.f1).wf = true ∧ (Lit.int .i64 x.f2).wf = true
theorem rd33 : Rd Try.prog 33 k33 W33 := (Rd.struct (total := 3) (g := fun x : S33 => (x.f0, x.f1, x.f2)) Try.underlying33 (by kernel_rfl) (RdF.cons (c := 1) rfl (by kernel_rfl) (Rd.int Try.underlying3) (RdF.cons (c := 1) rfl (by kernel_rfl) (Rd.int Try.underlying3) (RdF.one rfl (by kernel_rfl) (Rd.int Try.underlying3)))) (fun ⟨a0, a1, a2⟩ => ⟨⟨a0, a1, a2⟩, rfl⟩))
/-- what holds of a pylon/pylonlaw04.Op that was read -/
def W51 (x : S51) : Prop := (Lit.int .i64 x.f0).wf = true ∧ W25 x.f1 ∧ (Lit.int .i64 x.f2).wf = true ∧ W33 x.f3 ∧ (Lit.int .i64 x.f4).wf = true
theorem rd51 : Rd Try.prog 51 k51 W51 := (Rd.struct (total := 16) (g := fun x : S51 => (x.f0, x.f1, x.f2, x.f3, x.f4)) Try.underlying51 (by kernel_rfl) (RdF.cons (c := 1) rfl (by kernel_rfl) (Rd.int Try.underlying3) (RdF.cons (c := 10) rfl (by kernel_rfl) rd25 (RdF.cons (c := 1) rfl (by kernel_rfl) (Rd.int Try.underlying2) (RdF.cons (c := 3) rfl (by kernel_rfl) rd33 (RdF.one rfl (by kernel_rfl) (Rd.int Try.underlying3)))))) (fun ⟨a0, a1, a2, a3, a4⟩ => ⟨⟨a0, a1, a2, a3, a4⟩, rfl⟩))
/-- what holds of a pylon/api.Span that was read -/
def W74 (x : S74) : Prop := (Lit.int .i64 x.f0).wf = true ∧ (Lit.int .i64 x.f1).wf = true
theorem rd74 : Rd Try.prog 74 k74 W74 := (Rd.struct (total := 2) (g := fun x : S74 => (x.f0, x.f1)) Try.underlying74 (by kernel_rfl) (RdF.cons (c := 1) rfl (by kernel_rfl) (Rd.int Try.underlying3) (RdF.one rfl (by kernel_rfl) (Rd.int Try.underlying3))) (fun ⟨a0, a1⟩ => ⟨⟨a0, a1⟩, rfl⟩))
end Go.Proofs.Ytddkckpfmleffaa.PX
