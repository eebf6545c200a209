/- What the zone laws share: a zone's fields, the moments that they take. -/
import Derived.Test.YtddkckpfmleffaaPXx7
import Derived.Test.YtddkckpfmleffaaFzA
import Derived.Test.YtddkckpfmleffaaRd
namespace Go.Proofs.Ytddkckpfmleffaa.PX
open Go.RowKit Go.Proofs.YtddkckpfmleffaaW.PrintWords Go.Proofs.YtddkckpfmleffaaW.PrintLast Go.Proofs.YtddkckpfmleffaaW.PrintMore
set_option linter.unusedVariables false
set_option linter.unusedSimpArgs false
theorem zawake {k : Nat} (hk : 7 ≤ k) : pylonlaw04_awake.f k = some true := by
  unfold pylonlaw04_awake.f pylonlaw04_middle.f
  simp only [Option.bind_some]
  have e := zAt hk ⟨60, 60, 3, 5, 6, 120, 10, 5, 6, 180⟩ (by unfold zwf i64; decide) (t := 1774746000) (by unfold i64; decide)
  rw [show Civ.at_ ⟨60, 60, 3, 5, 6, 120, 10, 5, 6, 180⟩ 1774746000 = (2026, 3, 29, 180, 120, 0) by decide +kernel] at e
  simp only [] at e
  rw [e]
  rfl
def zof (l : S25) : Civ.Zn := ⟨l.f0, l.f1, l.f2.f0, l.f2.f1, l.f2.f2, l.f2.f3, l.f3.f0, l.f3.f1, l.f3.f2, l.f3.f3⟩
theorem zof_wf {l : S25} (h : W25 l) : zwf (zof l) := by
  obtain ⟨h0, h1, ⟨a0, a1, a2, a3⟩, ⟨b0, b1, b2, b3⟩⟩ := h
  exact ⟨wf64 h0, wf64 h1, wf64 a0, wf64 a1, wf64 a2, wf64 a3, wf64 b0, wf64 b1, wf64 b2, wf64 b3⟩
theorem inner_bd (a : Int) : ∃ t, pylonlaw04_inner.f a = some t ∧ -62100000100 ≤ t ∧ t ≤ 253300000000 ∧ t % 60 = 0 := by
  have r1 := Int.lt_tmod_of_pos a (show (0:Int) < 315400000000 by omega)
  have r2 := Int.tmod_lt_of_pos a (show (0:Int) < 315400000000 by omega)
  have key : ∀ X : Int, -62100000000 ≤ X → X ≤ 253300000000 → ∃ t, some (wrap64 (X - Int.tmod (wrap64 (Int.tmod X 60 + 60)) 60)) = some t ∧ -62100000100 ≤ t ∧ t ≤ 253300000000 ∧ t % 60 = 0 := by
    intro X x1 x2
    have t := Int.tmod_add_mul_tdiv X 60
    have t1 := Int.lt_tmod_of_pos X (show (0:Int) < 60 by omega)
    have t2 := Int.tmod_lt_of_pos X (show (0:Int) < 60 by omega)
    generalize Int.tmod X 60 = r at *
    generalize Int.tdiv X 60 = q at *
    rw [wr (n := r + 60) (by omega) (by omega), tm (by omega), wr (by omega) (by omega)]
    exact ⟨_, rfl, by omega, by omega, by omega⟩
  unfold pylonlaw04_inner.f
  generalize Int.tmod a 315400000000 = r at *
  by_cases c : r < 0
  · rw [if_pos c]
    have e : wrap64 (wrap64 (wrap64 (r + 253300000000) - -62100000000) + -62100000000) = r + 253300000000 := by
      rw [wr (n := r + 253300000000) (by omega) (by omega), wr (n := r + 253300000000 - -62100000000) (by omega) (by omega), wr (by omega) (by omega)]; omega
    rw [e]
    exact key _ (by omega) (by omega)
  · rw [if_neg c]
    rw [wr (n := r + -62100000000) (by omega) (by omega)]
    exact key _ (by omega) (by omega)
theorem inner_seen {z : Civ.Zn} (c : Civ.zok z) {t : Int} (h1 : -62100000100 ≤ t) (h2 : t ≤ 253300000000) : Civ.seen z t ∧ Civ.inr ((t + 60 * Civ.off z t) / 86400 - 1) ∧ Civ.inr ((t + 60 * Civ.off z t) / 86400 + 1) := by
  obtain ⟨o1, o2, o3⟩ := Civ.off_bd c t
  obtain ⟨s1, s2, s3⟩ := zok_s c
  unfold Civ.seen Civ.inr
  omega
end Go.Proofs.Ytddkckpfmleffaa.PX
