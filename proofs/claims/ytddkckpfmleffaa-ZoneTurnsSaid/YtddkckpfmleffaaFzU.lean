/- The law ZoneTurns: for every zone and year the call returns true (no conditions). -/
import Derived.Test.YtddkckpfmleffaaPXx36
import Derived.Test.YtddkckpfmleffaaFzC
import Derived.Test.YtddkckpfmleffaaFcRef
namespace Go.Proofs.Ytddkckpfmleffaa.PX
open Go.RowKit Go.Proofs.YtddkckpfmleffaaW.PrintWords Go.Proofs.YtddkckpfmleffaaW.PrintLast Go.Proofs.YtddkckpfmleffaaW.PrintMore
set_option linter.unusedVariables false
set_option linter.unusedSimpArgs false
/-- the four moments at a year's turns -/
theorem turn_offs {z : Civ.Zn} (c : Civ.zok z) (s : z.s ≠ 0) {y : Int} (hy : 2 ≤ y ∧ y ≤ 9991) :
    ¬ Civ.dl z (Civ.BL z y - 1) ∧ Civ.dl z (Civ.BL z y) ∧ Civ.dl z (Civ.FL z y - 1) ∧ ¬ Civ.dl z (Civ.FL z y) ∧ Civ.BL z y ≠ Civ.FL z y ∧
    (Civ.BL z y - 1) % 86400 / 60 = z.t1 - 1 ∧ (Civ.FL z y - 1 + 60 * z.s) % 86400 / 60 = z.t2 - 1 ∧
    (-62104100000 ≤ Civ.BL z y ∧ Civ.BL z y ≤ 253200000000) ∧ (-62104100000 ≤ Civ.FL z y ∧ Civ.FL z y ≤ 253200000000) := by
  obtain ⟨⟨N1, N2, e1, e2, p1, p2, p3, p4⟩, q, r⟩ := Civ.turns_bd (z := z) (y := y) (by omega) c s
  have A1 := Civ.ahead_mono (a := 2) (b := y) (by omega)
  have A2 := Civ.ahead_mono (a := y + 1) (b := 9992) (by omega)
  rw [show Civ.ahead 2 = 365 by decide] at A1
  rw [show Civ.ahead 9992 = 3649137 by decide] at A2
  have yr : ∀ n, Civ.ahead y ≤ n + 719162 → n + 719162 < Civ.ahead (y + 1) → Civ.ofY n = y := by
    intro n h1 h2
    obtain ⟨y1, y2, y3, y4⟩ := Civ.year_of (n := n) (by unfold Civ.inr; omega)
    exact Civ.year_uniq y3 y4 h1 h2
  have d1 : (Civ.BL z y - 1) / 86400 = N1 := by omega
  have d2 : Civ.BL z y / 86400 = N1 := by omega
  have d4 : Civ.FL z y / 86400 = N2 := by omega
  have Y1 := yr N1 p1 p2
  have Y2 := yr N2 p3 p4
  refine ⟨?_, ?_, ?_, ?_, by omega, by omega, by omega, by omega, by omega⟩
  · unfold Civ.dl Civ.dlY
    rw [d1, Y1]
    omega
  · unfold Civ.dl Civ.dlY
    rw [d2, Y1]
    omega
  · unfold Civ.dl
    by_cases t : z.t2 = z.s
    · have d3 : (Civ.FL z y - 1) / 86400 = N2 - 1 := by omega
      rw [d3]
      obtain g | ⟨g, g2⟩ := Civ.year_next (n := N2) (by unfold Civ.inr; omega) (by unfold Civ.inr; omega)
      · rw [← g, Y2]
        unfold Civ.dlY
        omega
      · have e : Civ.ofY (N2 - 1) = y - 1 := by omega
        rw [e]
        obtain ⟨⟨M1, M2, f1, f2, u1, u2, u3, u4⟩, q', r'⟩ := Civ.turns_bd (z := z) (y := y - 1) (by omega) c s
        rw [show y - 1 + 1 = y by omega] at u2 u4
        rw [Y2] at g2
        unfold Civ.dlY
        omega
    · have d3 : (Civ.FL z y - 1) / 86400 = N2 := by omega
      rw [d3, Y2]
      unfold Civ.dlY
      omega
  · unfold Civ.dl Civ.dlY
    rw [d4, Y2]
    omega
theorem ZoneTurns_pure (l0 : S25) (a1 : Int) (h0 : W25 l0) (h1 : (Lit.int .i64 a1).wf = true) : ∃ k, pylonlaw04_ZoneTurns.f k l0.f0 l0.f1 l0.f2.f0 l0.f2.f1 l0.f2.f2 l0.f2.f3 l0.f3.f0 l0.f3.f1 l0.f3.f2 l0.f3.f3 a1 = some true := by
  refine ⟨101, ?_⟩
  have hz := zof_wf h0
  show pylonlaw04_ZoneTurns.f 101 (zof l0).o (zof l0).s (zof l0).m1 (zof l0).w1 (zof l0).d1 (zof l0).t1 (zof l0).m2 (zof l0).w2 (zof l0).d2 (zof l0).t2 a1 = some true
  generalize zof l0 = z at *
  unfold pylonlaw04_ZoneTurns.f
  rw [zawake (by omega)]
  simp only [Option.bind_some, if_true]
  have tp := tmod_pos a1 (show (0:Int) < 9990 by omega)
  generalize Int.tmod (IntKind.u64.wrap a1) 9990 = u at *
  rw [wr (n := u) (by omega) (by omega), wr (n := 2 + u) (by omega) (by omega)]
  have hy : 2 ≤ 2 + u ∧ 2 + u ≤ 9991 := by omega
  generalize 2 + u = y at *
  rw [zTurns (by omega) z hz, refzcheck (by omega) z]
  simp only [Option.bind_some]
  unfold zturns
  by_cases c : Civ.zok z
  · rw [if_pos c, if_pos c, if_pos rfl, if_pos (show 1 ≤ y ∧ y ≤ 9999 by omega)]
    by_cases s : z.s = 0
    · rw [if_pos s, if_pos s]; rfl
    · rw [if_neg s, if_neg s]
      obtain ⟨x1, x2, x3, x4, x5, x6, x7, x8, x9⟩ := turn_offs c s hy
      obtain ⟨s1, s2, s3⟩ := zok_s c
      simp only [if_true]
      rw [show (Civ.BL z y - 60 * z.o == Civ.FL z y - 60 * z.o) = false by simp; omega]
      have o1 : Civ.off z (Civ.BL z y - 60 * z.o - 1) = z.o := by unfold Civ.off; rw [show Civ.BL z y - 60 * z.o - 1 + 60 * z.o = Civ.BL z y - 1 by omega, if_neg x1]
      have o2 : Civ.off z (Civ.BL z y - 60 * z.o) = z.o + z.s := by unfold Civ.off; rw [show Civ.BL z y - 60 * z.o + 60 * z.o = Civ.BL z y by omega, if_pos x2]
      have o3 : Civ.off z (Civ.FL z y - 60 * z.o - 1) = z.o + z.s := by unfold Civ.off; rw [show Civ.FL z y - 60 * z.o - 1 + 60 * z.o = Civ.FL z y - 1 by omega, if_pos x3]
      have o4 : Civ.off z (Civ.FL z y - 60 * z.o) = z.o := by unfold Civ.off; rw [show Civ.FL z y - 60 * z.o + 60 * z.o = Civ.FL z y by omega, if_neg x4]
      have SN : ∀ t, -62104200000 ≤ t → t ≤ 253200100000 → Civ.at_ z t = (Civ.ofY ((t + 60 * Civ.off z t) / 86400), Civ.ofM ((t + 60 * Civ.off z t) / 86400), Civ.ofD ((t + 60 * Civ.off z t) / 86400), (t + 60 * Civ.off z t) % 86400 / 60, Civ.off z t, 0) := by
        intro t t1 t2
        have ob := Civ.off_bd c t
        unfold Civ.at_
        rw [if_pos c, if_pos (by unfold Civ.seen Civ.inr; omega)]
      rw [show (101 : Nat) = 100 + 1 from rfl, pylonlaw04_ZoneTurns.j2, if_neg (by simp), wr (n := Civ.BL z y - 60 * z.o - 1) (by omega) (by omega), wr (n := Civ.FL z y - 60 * z.o - 1) (by omega) (by omega)]
      rw [zAt (by omega) z hz (by unfold i64; omega), zAt (by omega) z hz (by unfold i64; omega), zAt (by omega) z hz (by unfold i64; omega), zAt (by omega) z hz (by unfold i64; omega)]
      rw [SN _ (by omega) (by omega), SN _ (by omega) (by omega), SN _ (by omega) (by omega), SN _ (by omega) (by omega)]
      simp only [Option.bind_some, if_true]
      rw [show ((0 : Int) != 0) = false from rfl, show (100 : Nat) = 99 + 1 from rfl, pylonlaw04_ZoneTurns.j3, if_neg (by simp), wr (n := z.o + z.s) (by omega) (by omega), if_pos o1, if_pos o2, if_pos o3, if_pos o4]
      have tb := (Civ.turns_bd (z := z) (y := y) (by omega) c s).2.1
      rw [wr (n := z.t1 - 1) (by omega) (by omega), wr (n := z.t2 - 1) (by omega) (by omega)]
      rw [if_pos (by rw [o1, show Civ.BL z y - 60 * z.o - 1 + 60 * z.o = Civ.BL z y - 1 by omega]; exact x6)]
      rw [show (99 : Nat) = 98 + 1 from rfl, pylonlaw04_ZoneTurns.j4, o3, show Civ.FL z y - 60 * z.o - 1 + 60 * (z.o + z.s) = Civ.FL z y - 1 + 60 * z.s by omega, x7]
      simp
  · rw [if_neg c, if_neg c, if_neg (by simp)]; rfl
end Go.Proofs.Ytddkckpfmleffaa.PX
