/- The law ZoneHolds: for every zone and moment the call returns true (no conditions). -/
import Derived.Test.YtddkckpfmleffaaPXx40
import Derived.Test.YtddkckpfmleffaaFzC
import Derived.Test.YtddkckpfmleffaaFzB
namespace Go.Proofs.Ytddkckpfmleffaa.PX
open Go.RowKit Go.Proofs.YtddkckpfmleffaaW.PrintWords Go.Proofs.YtddkckpfmleffaaW.PrintLast Go.Proofs.YtddkckpfmleffaaW.PrintMore
set_option linter.unusedVariables false
set_option linter.unusedSimpArgs false
theorem holds_day {z : Civ.Zn} (c : Civ.zok z) {t : Int} (h0 : Civ.inr ((t + 60 * Civ.off z t) / 86400)) (h1 : Civ.inr ((t + 60 * Civ.off z t) / 86400 - 1)) (h2 : Civ.inr ((t + 60 * Civ.off z t) / 86400 + 1)) :
    Civ.mid z ((t + 60 * Civ.off z t) / 86400) ≤ t ∧ t < Civ.mid z ((t + 60 * Civ.off z t) / 86400 + 1) := by
  obtain ⟨s1, s2, s3⟩ := zok_s c
  generalize hN : (t + 60 * Civ.off z t) / 86400 = N at *
  constructor
  · obtain ⟨_, _, f⟩ := Civ.mid_first c h1 h0
    by_cases q : t < Civ.mid z N
    · have := f t q
      omega
    · omega
  · unfold Civ.mid
    by_cases d : Civ.dl z ((N + 1) * 86400 - 60 * z.s)
    · rw [if_pos d]
      by_cases e : Civ.dl z (t + 60 * z.o)
      · have o : Civ.off z t = z.o + z.s := by unfold Civ.off; rw [if_pos e]
        omega
      · have o : Civ.off z t = z.o := by unfold Civ.off; rw [if_neg e]
        by_cases q : (N + 1) * 86400 - 60 * z.s ≤ t + 60 * z.o
        · exact absurd (Civ.dl_on c (n := N + 1) (L' := t + 60 * z.o) (by rw [show N + 1 - 1 = N by omega]; exact h0) (Int.le_refl _) q (by omega) d) e
        · omega
    · rw [if_neg d]
      obtain ⟨_, _, o⟩ := Civ.off_bd c t
      omega
theorem ZoneHolds_pure (l0 : S25) (a1 : Int) (h0 : W25 l0) (h1 : (Lit.int .i64 a1).wf = true) : ∃ k, pylonlaw04_ZoneHolds.f k l0.f0 l0.f1 l0.f2.f0 l0.f2.f1 l0.f2.f2 l0.f2.f3 l0.f3.f0 l0.f3.f1 l0.f3.f2 l0.f3.f3 a1 = some true := by
  refine ⟨100, ?_⟩
  have hz := zof_wf h0
  show pylonlaw04_ZoneHolds.f 100 (zof l0).o (zof l0).s (zof l0).m1 (zof l0).w1 (zof l0).d1 (zof l0).t1 (zof l0).m2 (zof l0).w2 (zof l0).d2 (zof l0).t2 a1 = some true
  generalize zof l0 = z at *
  obtain ⟨t, ht, b1, b2, b3⟩ := inner_bd a1
  unfold pylonlaw04_ZoneHolds.f
  rw [zawake (by omega), ht]
  simp only [Option.bind_some, if_true]
  rw [zAt (by omega) z hz (by unfold i64; omega)]
  simp only [Option.bind_some]
  unfold Civ.at_
  by_cases c : Civ.zok z
  · obtain ⟨sn, g1, g2⟩ := inner_seen c b1 b2
    rw [if_pos c, if_pos sn]
    simp only [if_true]
    obtain ⟨k1, k2⟩ := Civ.of_ok sn.2.1 sn.2.2
    have zd : zday z (Civ.ofY ((t + 60 * Civ.off z t) / 86400)) (Civ.ofM ((t + 60 * Civ.off z t) / 86400)) (Civ.ofD ((t + 60 * Civ.off z t) / 86400)) = (Civ.mid z ((t + 60 * Civ.off z t) / 86400), Civ.mid z ((t + 60 * Civ.off z t) / 86400 + 1), 0) := by
      unfold zday
      rw [if_pos c, if_pos (by rw [k2]; exact ⟨k1, g1, g2⟩), k2]
    rw [zDay (by omega) z hz, zd]
    obtain ⟨p1, p2⟩ := holds_day c sn.2 g1 g2
    simp only [Option.bind_some, if_true]
    rw [if_pos p1, decide_eq_true p2]
  · rw [if_neg c, if_neg (by simp), if_pos rfl, refzcheck (by omega) z, if_neg c]
    rfl
end Go.Proofs.Ytddkckpfmleffaa.PX
