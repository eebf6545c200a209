/- The law ZoneAts: for every zone and moment the call returns true (no conditions). -/
import Derived.Test.YtddkckpfmleffaaPXx37
import Derived.Test.YtddkckpfmleffaaFzC
import Derived.Test.YtddkckpfmleffaaFzM
import Derived.Test.YtddkckpfmleffaaFaR
namespace Go.Proofs.Ytddkckpfmleffaa.PX
open Go.RowKit Go.Proofs.YtddkckpfmleffaaW.PrintWords Go.Proofs.YtddkckpfmleffaaW.PrintLast Go.Proofs.YtddkckpfmleffaaW.PrintMore
set_option linter.unusedVariables false
set_option linter.unusedSimpArgs false
theorem moms_has {z : Civ.Zn} (c : Civ.zok z) {N mi t : Int} (sn : Civ.seen z t) (e : t + 60 * Civ.off z t = N * 86400 + 60 * mi) :
    Civ.moms z N mi = [t] ∨ (∃ b, Civ.moms z N mi = [t, b]) ∨ (∃ a, Civ.moms z N mi = [a, t]) := by
  obtain ⟨_, _, o⟩ := Civ.off_bd c t
  unfold Civ.moms
  by_cases q : Civ.off z t = z.o + z.s
  · have et : Civ.mom z N mi z.s = t := by unfold Civ.mom; omega
    rw [et, if_pos ⟨sn, q⟩]
    split
    · exact .inr (.inl ⟨_, rfl⟩)
    · exact .inl rfl
  · have q0 : Civ.off z t = z.o := by omega
    have et : Civ.mom z N mi 0 = t := by unfold Civ.mom; omega
    rw [et, if_pos (show z.s ≠ 0 ∧ Civ.seen z t ∧ Civ.off z t = z.o from ⟨fun h => q (by omega), sn, q0⟩)]
    split
    · exact .inr (.inr ⟨_, rfl⟩)
    · exact .inl rfl
theorem ZoneAts_pure (l0 : S25) (a1 : Int) (h0 : W25 l0) (h1 : (Lit.int .i64 a1).wf = true) : ∃ k, pylonlaw04_ZoneAts.f k l0.f0 l0.f1 l0.f2.f0 l0.f2.f1 l0.f2.f2 l0.f2.f3 l0.f3.f0 l0.f3.f1 l0.f3.f2 l0.f3.f3 a1 = some true := by
  refine ⟨101, ?_⟩
  have hz := zof_wf h0
  show pylonlaw04_ZoneAts.f 101 (zof l0).o (zof l0).s (zof l0).m1 (zof l0).w1 (zof l0).d1 (zof l0).t1 (zof l0).m2 (zof l0).w2 (zof l0).d2 (zof l0).t2 a1 = some true
  generalize zof l0 = z at *
  obtain ⟨t, ht, b1, b2, b3⟩ := inner_bd a1
  unfold pylonlaw04_ZoneAts.f
  rw [zawake (by omega), ht]
  simp only [Option.bind_some, if_true]
  rw [zAt (by omega) z hz (by unfold i64; omega), refzcheck (by omega) z]
  simp only [Option.bind_some]
  unfold Civ.at_
  by_cases c : Civ.zok z
  · obtain ⟨sn, g1, g2⟩ := inner_seen c b1 b2
    rw [if_pos c, if_pos sn, if_pos c, if_pos rfl]
    simp only [if_true]
    obtain ⟨o1, o2, o⟩ := Civ.off_bd c t
    obtain ⟨s1, s2, s3⟩ := zok_s c
    obtain ⟨k1, k2⟩ := Civ.of_ok sn.2.1 sn.2.2
    have mb : 0 ≤ (t + 60 * Civ.off z t) % 86400 / 60 ∧ (t + 60 * Civ.off z t) % 86400 / 60 ≤ 1439 := by omega
    have e : t + 60 * Civ.off z t = (t + 60 * Civ.off z t) / 86400 * 86400 + 60 * ((t + 60 * Civ.off z t) % 86400 / 60) := by omega
    have mh := moms_has c sn e
    have rg : -719162 ≤ (t + 60 * Civ.off z t) / 86400 ∧ (t + 60 * Civ.off z t) / 86400 ≤ 2932896 := sn.2
    have fin : pylonlaw04_ZoneAts.j1 101 t false z.o z.s z.m1 z.w1 z.d1 z.t1 z.m2 z.w2 z.d2 z.t2 (Civ.ofY ((t + 60 * Civ.off z t) / 86400)) (Civ.ofM ((t + 60 * Civ.off z t) / 86400)) (Civ.ofD ((t + 60 * Civ.off z t) / 86400)) ((t + 60 * Civ.off z t) % 86400 / 60) (Civ.off z t) = some true := by
      rw [show (101 : Nat) = 100 + 1 from rfl, pylonlaw04_ZoneAts.j1, if_neg (by simp), zMoments (by omega) z hz _ _ _ _ (by unfold i64; omega)]
      simp only [Option.bind_some]
      rw [show (100 : Nat) = 80 + 20 from rfl, refdays, if_pos k1, k2]
      simp only [Option.bind_some]
      unfold zmoments
      rw [if_pos c, if_pos k1, if_pos mb, k2]
      simp only []
      generalize (t + 60 * Civ.off z t) / 86400 = N at *
      generalize (t + 60 * Civ.off z t) % 86400 / 60 = mi at *
      generalize Civ.ofY N = Y at *
      generalize Civ.ofM N = M at *
      generalize Civ.ofD N = D at *
      have tt : t = wrap64 (wrap64 (N * 86400) + wrap64 (60 * wrap64 (mi - Civ.off z t))) := by
        generalize Civ.off z t = f at *
        rw [wr (n := N * 86400) (by omega) (by omega), wr (n := mi - f) (by omega) (by omega), wr (n := 60 * (mi - f)) (by omega) (by omega), wr (by omega) (by omega)]
        omega
      have J4 : ∀ k, pylonlaw04_ZoneAts.j4 (k + 1) (t == wrap64 (wrap64 (N * 86400) + wrap64 (60 * wrap64 (mi - Civ.off z t)))) = some true := fun k => by
        rw [← tt, pylonlaw04_ZoneAts.j4]; simp
      obtain mh | ⟨b, mh⟩ | ⟨a, mh⟩ := mh
      · rw [mh]
        show pylonlaw04_ZoneAts.l0 (99 + 1) t [t] 0 N 0 false 1 0 Y M D mi (Civ.off z t) = some true
        rw [pylonlaw04_ZoneAts.l0, if_pos (by omega), if_neg (by simp), if_pos (by omega), if_pos (by simp), show (99 : Nat) = 98 + 1 from rfl, pylonlaw04_ZoneAts.j3, show (rd [t] 0 == t) = true by simp [rd], wr (by omega) (by omega), show (98 : Nat) = 97 + 1 from rfl, pylonlaw04_ZoneAts.l0, if_neg (by omega), if_pos rfl, if_pos rfl, if_pos rfl, if_pos (by simp), show (97 : Nat) = 96 + 1 from rfl, J4]
      · rw [mh]
        show pylonlaw04_ZoneAts.l0 (99 + 1) t [t, b] 0 N 0 false 2 0 Y M D mi (Civ.off z t) = some true
        rw [pylonlaw04_ZoneAts.l0, if_pos (by omega), if_neg (by simp), if_pos (by omega), if_pos (by simp only [List.length_cons, List.length_nil]; omega), show (99 : Nat) = 98 + 1 from rfl, pylonlaw04_ZoneAts.j3, show (rd [t, b] 0 == t) = true by simp [rd], wr (by omega) (by omega), show (98 : Nat) = 97 + 1 from rfl, pylonlaw04_ZoneAts.l0, if_pos (by omega), if_pos rfl, show (97 : Nat) = 96 + 1 from rfl, pylonlaw04_ZoneAts.j3, wr (by omega) (by omega), show (96 : Nat) = 95 + 1 from rfl, pylonlaw04_ZoneAts.l0, if_neg (by omega), if_pos rfl, if_pos rfl, if_pos rfl, if_pos (by simp only [List.length_cons, List.length_nil]; omega), show (95 : Nat) = 94 + 1 from rfl, J4]
      · rw [mh]
        show pylonlaw04_ZoneAts.l0 (99 + 1) t [a, t] 0 N 0 false 2 0 Y M D mi (Civ.off z t) = some true
        rw [pylonlaw04_ZoneAts.l0, if_pos (by omega), if_neg (by simp), if_pos (by omega), if_pos (by simp only [List.length_cons, List.length_nil]; omega), show (99 : Nat) = 98 + 1 from rfl, pylonlaw04_ZoneAts.j3, wr (n := 0 + 1) (by omega) (by omega), show (98 : Nat) = 97 + 1 from rfl, pylonlaw04_ZoneAts.l0, if_pos (by omega)]
        have r1 : (rd [a, t] (0 + 1) == t) = true := by show (t == t) = true; simp
        have W2 : wrap64 (0 + 1 + 1) = 2 := wr (by omega) (by omega)
        by_cases x : (rd [a, t] 0 == t) = true
        · rw [if_pos x, show (97 : Nat) = 96 + 1 from rfl, pylonlaw04_ZoneAts.j3, W2, show (96 : Nat) = 95 + 1 from rfl, pylonlaw04_ZoneAts.l0, if_neg (by omega), if_pos rfl, if_pos rfl, if_pos rfl, if_pos (by simp only [List.length_cons, List.length_nil]; omega), show (95 : Nat) = 94 + 1 from rfl, J4]
        · rw [if_neg x, if_pos (by omega), if_pos (by simp only [List.length_cons, List.length_nil]; omega), r1, show (97 : Nat) = 96 + 1 from rfl, pylonlaw04_ZoneAts.j3, W2, show (96 : Nat) = 95 + 1 from rfl, pylonlaw04_ZoneAts.l0, if_neg (by omega), if_pos rfl, if_pos rfl, if_pos rfl, if_pos (by simp only [List.length_cons, List.length_nil]; omega), show (95 : Nat) = 94 + 1 from rfl, J4]
    have m2 : ¬ (t + 60 * Civ.off z t) % 86400 / 60 > 1439 := by omega
    by_cases q : Civ.off z t = z.o
    · rw [if_pos q, if_neg (by omega), decide_eq_false m2, fin]
    · rw [if_neg q, wr (n := z.o + z.s) (by omega) (by omega), if_pos (by omega), if_neg (by omega), decide_eq_false m2, fin]
  · rw [if_neg c, if_neg c, if_neg (by simp), if_pos rfl, if_pos (by simp), zcheck (by omega) z hz, if_neg c]
    rfl
end Go.Proofs.Ytddkckpfmleffaa.PX
