/- What the struct types of the program read as. -/
import Derived.Test.YtkggjjggcbcdiaaOpen
import Derived.Test.YtkggjjggcbcdiaaPXx0
namespace Go.Proofs.Ytkggjjggcbcdiaa.PX
open Go.RowKit Go.Proofs.YtkggjjggcbcdiaaW.PrintWords Go.Proofs.YtkggjjggcbcdiaaW.PrintLast
set_option linter.unusedVariables false
/-- what holds of a pylon/api.Season that was read -/
def W58 (x : S58) : Prop := x.f0.size ≤ 140737488351232 ∧ (Lit.int .i64 x.f1).wf = true ∧ (Lit.int .i64 x.f2).wf = true
theorem rd58 : Rd Try.prog 58 k58 W58 := (Rd.struct (total := 3) (g := fun x : S58 => (x.f0, x.f1, x.f2)) Try.underlying58 (by kernel_rfl) (RdF.cons (c := 1) rfl (by kernel_rfl) (Rd.string Try.underlying9) (RdF.cons (c := 1) rfl (by kernel_rfl) (Rd.int Try.underlying3) (RdF.one rfl (by kernel_rfl) (Rd.int Try.underlying3)))) (fun ⟨a0, a1, a2⟩ => ⟨⟨a0, a1, a2⟩, rfl⟩))
/-- what holds of a pylon/api.Window that was read -/
def W60 (x : S60) : Prop := x.f0.size ≤ 140737488351232 ∧ (Lit.int .i64 x.f1).wf = true ∧ (Lit.int .i64 x.f2).wf = true ∧ (Lit.int .i64 x.f3).wf = true ∧ x.f4.size ≤ 140737488351232
theorem rd60 : Rd Try.prog 60 k60 W60 := (Rd.struct (total := 5) (g := fun x : S60 => (x.f0, x.f1, x.f2, x.f3, x.f4)) Try.underlying60 (by kernel_rfl) (RdF.cons (c := 1) rfl (by kernel_rfl) (Rd.string Try.underlying9) (RdF.cons (c := 1) rfl (by kernel_rfl) (Rd.int Try.underlying3) (RdF.cons (c := 1) rfl (by kernel_rfl) (Rd.int Try.underlying3) (RdF.cons (c := 1) rfl (by kernel_rfl) (Rd.int Try.underlying3) (RdF.one rfl (by kernel_rfl) (Rd.string Try.underlying9)))))) (fun ⟨a0, a1, a2, a3, a4⟩ => ⟨⟨a0, a1, a2, a3, a4⟩, rfl⟩))
/-- what holds of a pylon/api.Step that was read -/
def W122 (x : S122) : Prop := (Lit.int .i64 x.f0).wf = true ∧ (Lit.int .i64 x.f1).wf = true
theorem rd122 : Rd Try.prog 122 k122 W122 := (Rd.struct (total := 2) (g := fun x : S122 => (x.f0, x.f1)) Try.underlying122 (by kernel_rfl) (RdF.cons (c := 1) rfl (by kernel_rfl) (Rd.int Try.underlying2) (RdF.one rfl (by kernel_rfl) (Rd.int Try.underlying2))) (fun ⟨a0, a1⟩ => ⟨⟨a0, a1⟩, rfl⟩))
/-- what holds of a pylon/api.Block that was read -/
def W63 (x : S63) : Prop := x.f0.size ≤ 140737488351232 ∧ (x.f1.length * 16 ≤ 140737488351232 ∧ ∀ p ∈ x.f1, W122 p)
theorem rd63 : Rd Try.prog 63 k63 W63 := (Rd.struct (total := 2) (g := fun x : S63 => (x.f0, x.f1)) Try.underlying63 (by kernel_rfl) (RdF.cons (c := 1) rfl (by kernel_rfl) (Rd.string Try.underlying9) (RdF.one rfl (by kernel_rfl) (Rd.slice (B := 16) Try.underlying61 (by kernel_rfl) (by kernel_rfl) rd122))) (fun ⟨a0, a1⟩ => ⟨⟨a0, a1⟩, rfl⟩))
/-- what holds of a pylon/api.Holiday that was read -/
def W65 (x : S65) : Prop := (Lit.int .i64 x.f0).wf = true ∧ (Lit.int .i64 x.f1).wf = true ∧ (Lit.int .i64 x.f2).wf = true ∧ (Lit.int .i64 x.f3).wf = true
theorem rd65 : Rd Try.prog 65 k65 W65 := (Rd.struct (total := 4) (g := fun x : S65 => (x.f0, x.f1, x.f2, x.f3)) Try.underlying65 (by kernel_rfl) (RdF.cons (c := 1) rfl (by kernel_rfl) (Rd.int Try.underlying3) (RdF.cons (c := 1) rfl (by kernel_rfl) (Rd.int Try.underlying3) (RdF.cons (c := 1) rfl (by kernel_rfl) (Rd.int Try.underlying3) (RdF.one rfl (by kernel_rfl) (Rd.int Try.underlying3))))) (fun ⟨a0, a1, a2, a3⟩ => ⟨⟨a0, a1, a2, a3⟩, rfl⟩))
end Go.Proofs.Ytkggjjggcbcdiaa.PX
