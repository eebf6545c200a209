/- The law ZonePlain: for every zone, day and minute the call returns true (no conditions). -/
import Derived.Test.YtddkckpfmleffaaPXx41
import Derived.Test.YtddkckpfmleffaaFzC
import Derived.Test.YtddkckpfmleffaaFzB
import Derived.Test.YtddkckpfmleffaaFcRef
namespace Go.Proofs.Ytddkckpfmleffaa.PX
open Go.RowKit Go.Proofs.YtddkckpfmleffaaW.PrintWords Go.Proofs.YtddkckpfmleffaaW.PrintLast Go.Proofs.YtddkckpfmleffaaW.PrintMore
set_option linter.unusedVariables false
set_option linter.unusedSimpArgs false
theorem ZonePlain_pure (l0 : S25) (a1 : Int) (a2 : Int) (h0 : W25 l0) (h1 : (Lit.int .i64 a1).wf = true) (h2 : (Lit.int .i64 a2).wf = true) : ∃ k, pylonlaw04_ZonePlain.f k l0.f0 l0.f1 l0.f2.f0 l0.f2.f1 l0.f2.f2 l0.f2.f3 l0.f3.f0 l0.f3.f1 l0.f3.f2 l0.f3.f3 a1 a2 = some true := by
  refine ⟨11101, ?_⟩
  obtain ⟨v0, v1, v2, v3, v4, v5, v6, v7, v8, v9⟩ := zof_wf h0
  obtain ⟨z, hzd⟩ : ∃ z : Civ.Zn, z = { zof l0 with s := 0 } := ⟨_, rfl⟩
  have hz : zwf z := by rw [hzd]; exact ⟨v0, by unfold i64; simp, v2, v3, v4, v5, v6, v7, v8, v9⟩
  have zs : z.s = 0 := by rw [hzd]
  have e : pylonlaw04_ZonePlain.f 11101 l0.f0 l0.f1 l0.f2.f0 l0.f2.f1 l0.f2.f2 l0.f2.f3 l0.f3.f0 l0.f3.f1 l0.f3.f2 l0.f3.f3 a1 a2 = pylonlaw04_ZonePlain.f 11101 z.o l0.f1 z.m1 z.w1 z.d1 z.t1 z.m2 z.w2 z.d2 z.t2 a1 a2 := by rw [hzd]; rfl
  rw [e]
  unfold pylonlaw04_ZonePlain.f
  rw [zawake (by omega)]
  simp only [Option.bind_some, if_true]
  have tp := tmod_pos a1 (show (0:Int) < 3651900 by omega)
  generalize Int.tmod (IntKind.u64.wrap a1) 3651900 = u at *
  have tq := tmod_pos a2 (show (0:Int) < 1440 by omega)
  generalize Int.tmod (IntKind.u64.wrap a2) 1440 = mi at *
  rw [wr (n := u) (by omega) (by omega), wr (n := u - 719100) (by omega) (by omega), wr (n := mi) (by omega) (by omega)]
  have hn : -719100 ≤ u - 719100 ∧ u - 719100 ≤ 2932799 := by omega
  generalize u - 719100 = n at *
  rw [show (11101 : Nat) = 101 + 11000 by omega, refof _ _ (by omega), ofE4_in (by omega) (by omega)]
  simp only [Option.bind_some]
  obtain ⟨k1, k2⟩ := Civ.of_ok (n := n) (by omega) (by omega)
  have M := zMoments (k := 101 + 11000) (by omega) z hz (Civ.ofY n) (Civ.ofM n) (Civ.ofD n) mi (by unfold i64; omega)
  have D := zDay (k := 101 + 11000) (by omega) z hz (Civ.ofY n) (Civ.ofM n) (Civ.ofD n)
  rw [zs] at M D
  rw [M, D]
  simp only [Option.bind_some]
  have t0 := tmod0 z.o 15
  by_cases c : Civ.zok z
  · obtain ⟨c1, c2, c3, c4⟩ := id c
    have md : zmoments z (Civ.ofY n) (Civ.ofM n) (Civ.ofD n) mi = ([n * 86400 + 60 * (mi - z.o)], 0) := by
      unfold zmoments Civ.moms
      have o : Civ.off z (Civ.mom z n mi z.s) = z.o + z.s := by
        unfold Civ.off
        rw [if_neg (fun h => h.1 zs)]; omega
      rw [if_pos c, if_pos k1, if_pos (by omega), k2, if_pos ⟨by unfold Civ.seen Civ.inr; rw [o]; unfold Civ.mom; rw [zs]; omega, o⟩, if_neg (fun h => h.1 zs)]
      unfold Civ.mom
      rw [zs, List.append_nil, show (60 : Int) * 0 = 0 from rfl, Int.sub_zero]
    have dd : zday z (Civ.ofY n) (Civ.ofM n) (Civ.ofD n) = (n * 86400 - 60 * z.o, (n + 1) * 86400 - 60 * z.o, 0) := by
      unfold zday Civ.mid
      rw [if_pos c, k2, if_pos ⟨k1, by unfold Civ.inr; omega, by unfold Civ.inr; omega⟩, if_neg (fun h => h.1 zs), if_neg (fun h => h.1 zs)]
    rw [md, dd, if_neg (by omega), if_neg (by omega), show (Int.tmod z.o 15 != 0) = false by simp [t0, c3], show (101 + 11000 : Nat) = 11100 + 1 by omega, pylonlaw04_ZonePlain.j0, if_neg (by simp), if_pos rfl, if_pos rfl, if_pos (by simp), wr (n := (n + 1) * 86400 - 60 * z.o - (n * 86400 - 60 * z.o)) (by omega) (by omega), if_pos (by omega), if_pos (by simp), show (11100 : Nat) = 11099 + 1 by omega, pylonlaw04_ZonePlain.j2]
    rw [wr (n := 60 * mi) (by omega) (by omega), wr (n := n * 86400 - 60 * z.o + 60 * mi) (by omega) (by omega)]
    show some (n * 86400 + 60 * (mi - z.o) == n * 86400 - 60 * z.o + 60 * mi) = some true
    rw [show n * 86400 + 60 * (mi - z.o) = n * 86400 - 60 * z.o + 60 * mi by omega]
    simp
  · have md : zmoments z (Civ.ofY n) (Civ.ofM n) (Civ.ofD n) mi = ([], 8) := if_neg c
    have dd : zday z (Civ.ofY n) (Civ.ofM n) (Civ.ofD n) = (0, 0, 8) := if_neg c
    have fin : pylonlaw04_ZonePlain.j0 (101 + 11000) mi [] 8 0 0 8 true = some true := by
      rw [show (101 + 11000 : Nat) = 11100 + 1 by omega, pylonlaw04_ZonePlain.j0, if_pos rfl, if_pos rfl, if_pos rfl, if_pos (by simp), if_pos rfl, show (11100 : Nat) = 11099 + 1 by omega, pylonlaw04_ZonePlain.j1]
      rfl
    rw [md, dd]
    simp only []
    by_cases a : z.o < -720
    · rw [if_pos a, fin]
    · rw [if_neg a]
      by_cases b : z.o > 840
      · rw [if_pos b, fin]
      · rw [if_neg b, show (Int.tmod z.o 15 != 0) = true by
          have : ¬ z.o % 15 = 0 := fun h => c ⟨by omega, by omega, h, .inl zs⟩
          simp [t0, this], fin]
end Go.Proofs.Ytddkckpfmleffaa.PX
