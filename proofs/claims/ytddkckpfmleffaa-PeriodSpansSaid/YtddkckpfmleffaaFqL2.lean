/- The law PeriodSpans: for every run of slots and billing day the call returns true (no conditions). -/
import Derived.Test.YtddkckpfmleffaaPXx22
import Derived.Test.YtddkckpfmleffaaPXx37
import Derived.Test.YtddkckpfmleffaaFqE
namespace Go.Proofs.Ytddkckpfmleffaa.PX
open Go.RowKit Go.Proofs.YtddkckpfmleffaaW.PrintWords Go.Proofs.YtddkckpfmleffaaW.PrintLast Go.Proofs.YtddkckpfmleffaaW.PrintMore
set_option linter.unusedVariables false
set_option linter.unusedSimpArgs false
theorem cutf2 (a b c d e f g h i j st step n : Int) : ∃ n', pylonlaw13_Slots_cut.f a b c d e f g h i j st step n = some (a, b, c, d, e, f, g, h, i, j, st, step, n') := by
  unfold pylonlaw13_Slots_cut.f
  split
  · exact ⟨_, rfl⟩
  · exact ⟨_, rfl⟩
theorem PeriodSpans_pure (l0 : (S25 × Int × Int × Int)) (a1 : Int) (h0 : (W25 l0.1 ∧ ((Lit.int .i64 l0.2.1).wf = true ∧ ((Lit.int .i64 l0.2.2.1).wf = true ∧ (Lit.int .i64 l0.2.2.2).wf = true)))) (h1 : (Lit.int .i64 a1).wf = true) : ∃ k, pylonlaw13_PeriodSpans.f k l0.1.f0 l0.1.f1 l0.1.f2.f0 l0.1.f2.f1 l0.1.f2.f2 l0.1.f2.f3 l0.1.f3.f0 l0.1.f3.f1 l0.1.f3.f2 l0.1.f3.f3 l0.2.1 l0.2.2.1 l0.2.2.2 a1 = some true := by
  refine ⟨300001, ?_⟩
  have hz := zof_wf h0.1
  show pylonlaw13_PeriodSpans.f 300001 (zof l0.1).o (zof l0.1).s (zof l0.1).m1 (zof l0.1).w1 (zof l0.1).d1 (zof l0.1).t1 (zof l0.1).m2 (zof l0.1).w2 (zof l0.1).d2 (zof l0.1).t2 l0.2.1 l0.2.2.1 l0.2.2.2 a1 = some true
  generalize zof l0.1 = z at *
  unfold pylonlaw13_PeriodSpans.f
  obtain ⟨n, e⟩ := cutf2 z.o z.s z.m1 z.w1 z.d1 z.t1 z.m2 z.w2 z.d2 z.t2 l0.2.1 l0.2.2.1 l0.2.2.2
  rw [perawake 300000, e]
  simp only [Option.bind_some, if_true]
  rw [refpspans (by omega), pspans (by omega) z hz]
  simp only [Option.bind_some, if_true]
  have hl := zspans_len z a1 l0.2.1 l0.2.2.1 n
  rw [samespans _ (by omega) (by omega)]
  simp only [Option.bind_some, if_true]
  rw [samedates _ (by omega) (by omega)]
  rfl
end Go.Proofs.Ytddkckpfmleffaa.PX
