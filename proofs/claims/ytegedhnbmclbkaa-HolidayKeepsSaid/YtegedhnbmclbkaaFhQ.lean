/- A caller's row stands, and two lists never share one. -/
import Derived.Test.YtegedhnbmclbkaaPXx2
import Derived.Test.YtegedhnbmclbkaaPXx6
import Derived.Test.YtegedhnbmclbkaaPXx18
import Derived.Test.YtegedhnbmclbkaaFhP
namespace Go.Proofs.Ytegedhnbmclbkaa.PX
open Go.RowKit Go.Proofs.YtegedhnbmclbkaaW.PrintWords Go.Proofs.YtegedhnbmclbkaaW.PrintLast Go.Proofs.YtegedhnbmclbkaaW.PrintMore
set_option linter.unusedVariables false
set_option linter.unusedSimpArgs false
theorem HolidayKeeps_pure (l0 : (List S25)) (a1 : Int) (l2 : S33) (h0 : (l0.length * 32 ≤ 140737488351232 ∧ ∀ p ∈ l0, W25 p)) (h1 : (Lit.int .i64 a1).wf = true) (h2 : W33 l2) : ∃ k, pylonlaw05_HolidayKeeps.f k l0 a1 l2.f0 l2.f1 l2.f2 = some true := by
  obtain ⟨hl, hw⟩ := h0
  refine ⟨11021 * l0.length + 20000, ?_⟩
  unfold pylonlaw05_HolidayKeeps.f
  have hn := len_listE l0 a1
  have hs := hsame (k := 11021 * l0.length + 20000) (listE l0 a1).1 (by omega) (by omega)
  have r1 := hollist (k := 11021 * l0.length + 20000) l0 hw (by omega) (by omega) a1
  have r2 := reflist (k := 11021 * l0.length + 20000) l0 hw (by omega) (by omega) a1
  have r3 := holis (k := 11021 * l0.length + 20000) l0 hw (by omega) (by omega) l2.f0 l2.f1 l2.f2
  generalize 11021 * l0.length + 20000 = k at *
  rw [if_pos]
  exact ⟨easterawake, hl, (listE l0 a1).1, (listE l0 a1).2, (hisE l0 l2.f0 l2.f1 l2.f2).1, (hisE l0 l2.f0 l2.f1 l2.f2).2, r1, r3, r2, by omega, hs⟩
end Go.Proofs.Ytegedhnbmclbkaa.PX
