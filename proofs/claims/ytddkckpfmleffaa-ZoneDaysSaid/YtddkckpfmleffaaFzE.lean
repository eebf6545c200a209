/- The law ZoneDays: for every zone and day the call returns true (no conditions). -/
import Derived.Test.YtddkckpfmleffaaPXx21
import Derived.Test.YtddkckpfmleffaaPXx32
import Derived.Test.YtddkckpfmleffaaFzC
import Derived.Test.YtddkckpfmleffaaFzB
import Derived.Test.YtddkckpfmleffaaFcRef
import Derived.Test.YtddkckpfmleffaaFeRef
namespace Go.Proofs.Ytddkckpfmleffaa.PX
open Go.RowKit Go.Proofs.YtddkckpfmleffaaW.PrintWords Go.Proofs.YtddkckpfmleffaaW.PrintLast Go.Proofs.YtddkckpfmleffaaW.PrintMore
set_option linter.unusedVariables false
set_option linter.unusedSimpArgs false
def lost (z : Civ.Zn) (y m d : Int) : Int := if z.s = 0 ∨ z.t1 + z.s ≠ 1440 then 0 else if Civ.nth y z.m1 z.w1 z.d1 = d ∧ z.m1 = m then z.s else 0
theorem minutesf {k : Nat} (hk : 200 ≤ k) (z : Civ.Zn) (hz : zwf z) (c : Civ.zok z) {y m d : Int} (o : Civ.ok y m d) : pylonlaw04_minutes.f k z.o z.s z.m1 z.w1 z.d1 z.t1 z.m2 z.w2 z.d2 z.t2 y m d = some (lost z y m d) := by
  obtain ⟨k, rfl⟩ : ∃ q, k = q + 101 := ⟨k - 101, by omega⟩
  unfold pylonlaw04_minutes.f lost
  by_cases s : z.s = 0
  · rw [if_pos s, pylonlaw04_minutes.j0, if_pos rfl, if_pos (.inl s)]
  · rw [if_neg s]
    obtain ⟨b1, b2, b3, b4⟩ := c
    obtain ⟨b5, ⟨r1, r2, r3, r4, r5, r6, r7, r8⟩, -, -⟩ := b4.resolve_left s
    rw [wr (n := z.t1 + z.s) (by omega) (by omega)]
    by_cases t : z.t1 + z.s = 1440
    · rw [show (z.t1 + z.s != 1440) = false by simp [t], show k + 101 = (k + 100) + 1 from rfl, pylonlaw04_minutes.j0, if_neg (by simp), refnth k y z.m1 z.w1 z.d1 (by omega) (by omega)]
      rw [if_pos (show 1 ≤ y ∧ y ≤ 9999 ∧ 1 ≤ z.m1 ∧ z.m1 ≤ 12 from ⟨o.1, o.2.1, r1, r2⟩), if_pos (show 1 ≤ z.w1 ∧ z.w1 ≤ 5 ∧ 0 ≤ z.d1 ∧ z.d1 ≤ 6 from ⟨r3, r4, r5, r6⟩)]
      simp only [Option.bind_some, if_true]
      rw [if_neg (show ¬ (z.s = 0 ∨ z.t1 + z.s ≠ 1440) by omega)]
      by_cases q : Civ.nth y z.m1 z.w1 z.d1 = d ∧ z.m1 = m
      · rw [if_pos q, if_neg (by rw [q.1, show (z.m1 == m) = true by simp [q.2]]; simp)]
      · rw [if_neg q, if_pos]
        simp only [beq_self_eq_true, Bool.not_true, Bool.false_or, Bool.or_eq_true, Bool.not_eq_true', beq_eq_false_iff_ne, ne_eq]
        by_cases q2 : z.m1 = m
        · exact .inr (fun h => q ⟨h, q2⟩)
        · exact .inl q2
    · rw [show (z.t1 + z.s != 1440) = true by simp [t], show k + 101 = (k + 100) + 1 from rfl, pylonlaw04_minutes.j0, if_pos rfl, if_pos (.inr t)]
/-- the last moment of a day -/
theorem day_last {z : Civ.Zn} (c : Civ.zok z) {D : Int} (h0 : Civ.inr D) (h1 : Civ.inr (D + 1)) (y m d : Int) (o : Civ.ok y m d) (e : Civ.dn y m d = D) :
    (Civ.mid z (D + 1) - 1 + 60 * Civ.off z (Civ.mid z (D + 1) - 1)) / 86400 = D ∧ (Civ.mid z (D + 1) - 1 + 60 * Civ.off z (Civ.mid z (D + 1) - 1)) % 86400 / 60 = 1439 - lost z y m d ∧ 0 ≤ lost z y m d ∧ lost z y m d ≤ 60 := by
  obtain ⟨s1, s2, s3⟩ := zok_s c
  obtain ⟨_, _, F⟩ := Civ.mid_first c (n := D + 1) (by rw [show D + 1 - 1 = D by omega]; exact h0) h1
  have f := F (Civ.mid z (D + 1) - 1) (by omega)
  obtain ⟨k1, k2⟩ := Civ.of_ok h0.1 h0.2
  obtain ⟨ey, em, ed⟩ := Civ.dn_inj o k1 (by rw [e, k2])
  by_cases s : z.s = 0
  · have o1 : ∀ t, Civ.off z t = z.o := fun t => by unfold Civ.off; rw [if_neg (fun h => h.1 s)]
    have m1 : Civ.mid z (D + 1) = (D + 1) * 86400 - 60 * z.o := by unfold Civ.mid; rw [if_neg (fun h => h.1 s)]
    have l0 : lost z y m d = 0 := by unfold lost; rw [if_pos (.inl s)]
    rw [l0, o1, m1]
    omega
  · obtain ⟨yb1, yb2, -, -⟩ := Civ.year_of h0
    obtain ⟨⟨N1, N2, t1, t2, t3, t4, t5, t6⟩, tb, td⟩ := Civ.turns_bd (z := z) (y := Civ.ofY D) ⟨yb1, yb2⟩ c s
    have N1e : N1 = Civ.rday (Civ.ofY D) z.m1 z.w1 z.d1 := by unfold Civ.BL at t1; omega
    -- a date's rule falls on D just where lost says so
    have lo : lost z y m d = if z.t1 + z.s = 1440 ∧ N1 = D then z.s else 0 := by
      obtain ⟨b1, b2, b3, b4⟩ := c
      obtain ⟨b5, r, -, -⟩ := b4.resolve_left s
      obtain ⟨o2, -, -⟩ := rday_i (y := Civ.ofY D) ⟨yb1, yb2⟩ r
      unfold lost
      by_cases t : z.t1 + z.s = 1440
      · rw [if_neg (by omega)]
        by_cases q : N1 = D
        · rw [if_pos (show z.t1 + z.s = 1440 ∧ N1 = D from ⟨t, q⟩)]
          have dd : Civ.dn (Civ.ofY D) z.m1 (Civ.nth (Civ.ofY D) z.m1 z.w1 z.d1) = Civ.dn y m d := by rw [e]; unfold Civ.rday at N1e; omega
          obtain ⟨-, q2, q3⟩ := Civ.dn_inj o2 o dd
          rw [if_pos (show Civ.nth y z.m1 z.w1 z.d1 = d ∧ z.m1 = m from ⟨by rw [ey]; exact q3, q2⟩)]
        · have nq : ¬ (Civ.nth y z.m1 z.w1 z.d1 = d ∧ z.m1 = m) := by
            rintro ⟨q2, q3⟩
            apply q
            rw [N1e]
            unfold Civ.rday
            rw [← ey, q2, q3, e]
          rw [if_neg (show ¬ (z.t1 + z.s = 1440 ∧ N1 = D) from fun h => q h.2), if_neg nq]
      · rw [if_pos (.inr t), if_neg (show ¬ (z.t1 + z.s = 1440 ∧ N1 = D) from fun h => t h.1)]
    have st1 : (D + 1) * 86400 - 60 * z.s = D * 86400 + 60 * (1440 - z.s) := by omega
    have d1 : ((D + 1) * 86400 - 60 * z.s) / 86400 = D := by omega
    have d2 : ((D + 1) * 86400 - 60 * z.s - 1) / 86400 = D := by omega
    have d3 : ((D + 1) * 86400 - 1) / 86400 = D := by omega
    by_cases A : Civ.dl z ((D + 1) * 86400 - 60 * z.s)
    · have m1 : Civ.mid z (D + 1) = (D + 1) * 86400 - 60 * z.o - 60 * z.s := by unfold Civ.mid; rw [if_pos A]
      have L1 : Civ.mid z (D + 1) - 1 + 60 * z.o = (D + 1) * 86400 - 60 * z.s - 1 := by omega
      by_cases B : Civ.dl z ((D + 1) * 86400 - 60 * z.s - 1)
      · have o1 : Civ.off z (Civ.mid z (D + 1) - 1) = z.o + z.s := by unfold Civ.off; rw [L1, if_pos B]
        have l0 : lost z y m d = 0 := by
          rw [lo, if_neg]
          rintro ⟨q1, q2⟩
          unfold Civ.dl Civ.dlY at A B
          rw [d1] at A
          rw [d2] at B
          omega
        rw [l0, o1]
        omega
      · have o1 : Civ.off z (Civ.mid z (D + 1) - 1) = z.o := by unfold Civ.off; rw [L1, if_neg B]
        have l1 : lost z y m d = z.s := by
          rw [lo, if_pos]
          unfold Civ.dl Civ.dlY at A B
          rw [d1] at A
          rw [d2] at B
          omega
        rw [l1, o1]
        omega
    · have m1 : Civ.mid z (D + 1) = (D + 1) * 86400 - 60 * z.o := by unfold Civ.mid; rw [if_neg A]
      have L1 : Civ.mid z (D + 1) - 1 + 60 * z.o = (D + 1) * 86400 - 1 := by omega
      have B : ¬ Civ.dl z ((D + 1) * 86400 - 1) := by
        intro B
        have o1 : Civ.off z (Civ.mid z (D + 1) - 1) = z.o + z.s := by unfold Civ.off; rw [L1, if_pos B]
        rw [o1] at f
        omega
      have o1 : Civ.off z (Civ.mid z (D + 1) - 1) = z.o := by unfold Civ.off; rw [L1, if_neg B]
      have l0 : lost z y m d = 0 := by
        rw [lo, if_neg]
        rintro ⟨q1, q2⟩
        apply A
        unfold Civ.dl Civ.dlY
        rw [d1]
        omega
      rw [l0, o1]
      omega
theorem mid_two (z : Civ.Zn) (n : Int) : Civ.mid z n = n * 86400 - 60 * z.o ∨ Civ.mid z n = n * 86400 - 60 * z.o - 60 * z.s := by
  unfold Civ.mid
  split
  · exact .inr rfl
  · exact .inl rfl
theorem ZoneDays_pure (l0 : S25) (a1 : Int) (h0 : W25 l0) (h1 : (Lit.int .i64 a1).wf = true) : ∃ k, pylonlaw04_ZoneDays.f k l0.f0 l0.f1 l0.f2.f0 l0.f2.f1 l0.f2.f2 l0.f2.f3 l0.f3.f0 l0.f3.f1 l0.f3.f2 l0.f3.f3 a1 = some true := by
  refine ⟨30 + 11000, ?_⟩
  have hz := zof_wf h0
  show pylonlaw04_ZoneDays.f (30 + 11000) (zof l0).o (zof l0).s (zof l0).m1 (zof l0).w1 (zof l0).d1 (zof l0).t1 (zof l0).m2 (zof l0).w2 (zof l0).d2 (zof l0).t2 a1 = some true
  generalize zof l0 = z at *
  unfold pylonlaw04_ZoneDays.f
  rw [zawake (by omega)]
  simp only [Option.bind_some, if_true]
  have tp := tmod_pos a1 (show (0:Int) < 3651900 by omega)
  generalize Int.tmod (IntKind.u64.wrap a1) 3651900 = u at *
  rw [wr (n := u) (by omega) (by omega), wr (n := u - 719100) (by omega) (by omega)]
  have hD : -719100 ≤ u - 719100 ∧ u - 719100 ≤ 2932799 := by omega
  generalize u - 719100 = D at *
  rw [refof 30 D (by omega), ofE4_in (by omega) (by omega)]
  simp only [Option.bind_some]
  obtain ⟨k1, k2⟩ := Civ.of_ok (n := D) (by omega) (by omega)
  obtain ⟨n1, n2⟩ := Civ.of_ok (n := D + 1) (by omega) (by omega)
  rw [refadd 30 _ _ _ 1 (by omega), if_pos k1, k2, ofE4_in (by omega) (by omega)]
  simp only [Option.bind_some]
  rw [zDay (by omega) z hz, zDay (by omega) z hz, refzcheck (by omega) z]
  simp only [Option.bind_some]
  unfold zday
  by_cases c : Civ.zok z
  · obtain ⟨s1, s2, s3⟩ := zok_s c
    rw [if_pos c, if_pos c, if_pos c, if_pos (show Civ.ok (Civ.ofY D) (Civ.ofM D) (Civ.ofD D) ∧ Civ.inr (Civ.dn (Civ.ofY D) (Civ.ofM D) (Civ.ofD D) - 1) ∧ Civ.inr (Civ.dn (Civ.ofY D) (Civ.ofM D) (Civ.ofD D) + 1) from ⟨k1, by rw [k2]; unfold Civ.inr; omega, by rw [k2]; unfold Civ.inr; omega⟩), if_pos (show Civ.ok (Civ.ofY (D + 1)) (Civ.ofM (D + 1)) (Civ.ofD (D + 1)) ∧ Civ.inr (Civ.dn (Civ.ofY (D + 1)) (Civ.ofM (D + 1)) (Civ.ofD (D + 1)) - 1) ∧ Civ.inr (Civ.dn (Civ.ofY (D + 1)) (Civ.ofM (D + 1)) (Civ.ofD (D + 1)) + 1) from ⟨n1, by rw [n2]; unfold Civ.inr; omega, by rw [n2]; unfold Civ.inr; omega⟩), k2, n2]
    simp only [if_true]
    have i0 : Civ.inr D := by unfold Civ.inr; omega
    have i1 : Civ.inr (D + 1) := by unfold Civ.inr; omega
    obtain ⟨q1, q2, -⟩ := Civ.mid_first c (n := D) (by unfold Civ.inr; omega) i0
    obtain ⟨l1, l2, l3, l4⟩ := day_last c i0 i1 _ _ _ k1 k2
    have m0 := mid_two z D
    have m1 := mid_two z (D + 1)
    have ob := Civ.off_bd c (Civ.mid z (D + 1) - 1)
    have sn1 : Civ.seen z (Civ.mid z (D + 1) - 1) := by unfold Civ.seen; rw [l1]; exact ⟨by unfold Civ.inr; omega, i0⟩
    rw [show 30 + 11000 = (29 + 11000) + 1 by omega, show (Civ.mid z (D + 1) != Civ.mid z (D + 1)) = false by simp, pylonlaw04_ZoneDays.j1, if_neg (by simp), wr (n := Civ.mid z (D + 1) - Civ.mid z D) (by omega) (by omega), wr (n := Civ.mid z (D + 1) - Civ.mid z D - 86400) (by omega) (by omega), wr (n := 60 * z.s) (by omega) (by omega), wr (n := -60 * z.s) (by omega) (by omega)]
    have fin : pylonlaw04_ZoneDays.j2 (29 + 11000) (Civ.mid z D) (Civ.mid z (D + 1)) false z.o z.s z.m1 z.w1 z.d1 z.t1 z.m2 z.w2 z.d2 z.t2 (Civ.ofY D) (Civ.ofM D) (Civ.ofD D) = some true := by
      rw [show 29 + 11000 = (28 + 11000) + 1 by omega, pylonlaw04_ZoneDays.j2, if_neg (by simp), wr (n := Civ.mid z (D + 1) - 1) (by omega) (by omega), zAt (by omega) z hz (by unfold i64; omega), zAt (by omega) z hz (by unfold i64; omega)]
      simp only [Option.bind_some]
      unfold Civ.at_
      rw [if_pos c, if_pos c, if_pos q1, if_pos sn1, l1, l2, q2, show D * 86400 / 86400 = D by omega, show D * 86400 % 86400 / 60 = 0 by omega, minutesf (by omega) z hz c k1]
      simp only [Option.bind_some, if_true, beq_self_eq_true, Bool.and_self]
      rw [wr (n := 1439 - lost z (Civ.ofY D) (Civ.ofM D) (Civ.ofD D)) (by omega) (by omega), show 28 + 11000 = (27 + 11000) + 1 by omega, pylonlaw04_ZoneDays.j3]
      simp
    by_cases x1 : Civ.mid z (D + 1) - Civ.mid z D - 86400 = 0
    · rw [if_pos x1]; exact fin
    · rw [if_neg x1]
      by_cases x2 : Civ.mid z (D + 1) - Civ.mid z D - 86400 = 60 * z.s
      · rw [if_pos x2]; exact fin
      · rw [if_neg x2, show (Civ.mid z (D + 1) - Civ.mid z D - 86400 != -60 * z.s) = false by simp; omega]; exact fin
  · rw [if_neg c, if_neg c, if_neg c]
    show (if (8 : Int) = 0 then _ else if (8 : Int) = 8 then if (8 : Int) = 8 then if (0 : Int) = 0 then pylonlaw04_ZoneDays.j0 (30 + 11000) ((0 : Int) == 0) else _ else _ else _) = some true
    rw [if_neg (by omega), if_pos rfl, if_pos rfl, if_pos rfl, show 30 + 11000 = (29 + 11000) + 1 by omega, pylonlaw04_ZoneDays.j0]
    rfl
end Go.Proofs.Ytddkckpfmleffaa.PX
