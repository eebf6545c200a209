/- Time zones: the program's Day, by a plain reckoning. -/
import Derived.Test.YtddkckpfmleffaaPXx9
import Derived.Test.YtddkckpfmleffaaPXx10
import Derived.Test.YtddkckpfmleffaaFzM
import Derived.Test.YtddkckpfmleffaaFcDate
namespace Go.Proofs.Ytddkckpfmleffaa.PX
open Go.RowKit Go.Proofs.YtddkckpfmleffaaW.PrintWords Go.Proofs.YtddkckpfmleffaaW.PrintLast Go.Proofs.YtddkckpfmleffaaW.PrintMore
set_option linter.unusedVariables false
set_option linter.unusedSimpArgs false
def zday (z : Civ.Zn) (y m d : Int) : Int × Int × Int := if Civ.zok z then if Civ.ok y m d ∧ Civ.inr (Civ.dn y m d - 1) ∧ Civ.inr (Civ.dn y m d + 1) then (Civ.mid z (Civ.dn y m d), Civ.mid z (Civ.dn y m d + 1), 0) else (0, 0, 5) else (0, 0, 8)
theorem zmidnight {k : Nat} (hk : 20 ≤ k) (z : Civ.Zn) (hz : zwf z) (c : Civ.zok z) {y m d : Int} (o : Civ.ok y m d) (h : Civ.inr (Civ.dn y m d - 1)) : zone_midnight.f k z.o z.s z.m1 z.w1 z.d1 z.t1 z.m2 z.w2 z.d2 z.t2 y m d = some (Civ.mid z (Civ.dn y m d)) := by
  unfold zone_midnight.f
  rw [zMoments hk z hz y m d 0 (by unfold i64; omega)]
  unfold zmoments
  rw [if_pos c, if_pos o, if_pos (by omega)]
  obtain ⟨r, e⟩ := Civ.moms_mid c h (Civ.dn_range o)
  rw [e]
  simp only [Option.bind_some]
  rw [if_pos (by simp only [List.length_cons]; omega)]
  rfl
theorem first_dn {y m d : Int} (o : Civ.ok y m d) : (y == 1 && (m == 1 && (d == 1))) = decide (¬ Civ.inr (Civ.dn y m d - 1)) := by
  have rg := Civ.dn_range o
  have e1 : Civ.dn 1 1 1 = -719162 := by decide
  by_cases c : y = 1 ∧ m = 1 ∧ d = 1
  · obtain ⟨rfl, rfl, rfl⟩ := c
    rw [e1]; rfl
  · rw [decide_eq_false (fun h => c ?_)]
    · simpa using c
    · obtain ⟨a, b, e⟩ := Civ.dn_inj o (show Civ.ok 1 1 1 by decide) (by rw [e1]; unfold Civ.inr at h; omega)
      exact ⟨a, b, e⟩
theorem zDay {k : Nat} (hk : 21 ≤ k) (z : Civ.Zn) (hz : zwf z) (y m d : Int) : zone_Day.f k z.o z.s z.m1 z.w1 z.d1 z.t1 z.m2 z.w2 z.d2 z.t2 y m d = some (zday z y m d) := by
  obtain ⟨k, rfl⟩ : ∃ p, k = p + 21 := ⟨k - 21, by omega⟩
  unfold zone_Day.f zday
  rw [zcheck (by omega) z hz, civadd]
  simp only [Option.bind_some]
  by_cases c : Civ.zok z
  · rw [if_pos c, if_pos c, if_pos rfl]
    by_cases o : Civ.ok y m d
    · have rg := Civ.dn_range o
      rw [if_pos o]
      by_cases n : Civ.inr (Civ.dn y m d + 1)
      · rw [ofE4_in n.1 n.2]
        simp only [if_true]
        rw [first_dn o]
        by_cases p : Civ.inr (Civ.dn y m d - 1)
        · obtain ⟨ok2, dn2⟩ := Civ.of_ok n.1 n.2
          rw [decide_eq_false (fun h => h p), show k + 21 = (k + 20) + 1 from rfl, zone_Day.j0, if_neg (by simp), zmidnight (by omega) z hz c o p, zmidnight (by omega) z hz c ok2 (by rw [dn2]; unfold Civ.inr; omega), dn2, if_pos ⟨o, p, n⟩]
          rfl
        · rw [decide_eq_true p, show k + 21 = (k + 20) + 1 from rfl, zone_Day.j0, if_pos rfl, if_neg (fun h => p h.2.1)]
      · rw [ofE4_out (by unfold Civ.inr at n; omega), if_neg (by simp), show k + 21 = (k + 20) + 1 from rfl, zone_Day.j0, if_pos rfl, if_neg (fun h => n h.2.2)]
    · rw [if_neg o, if_neg (by simp), show k + 21 = (k + 20) + 1 from rfl, zone_Day.j0, if_pos rfl, if_neg (fun h => o h.1)]
  · rw [if_neg c, if_neg c, if_neg (by simp)]
end Go.Proofs.Ytddkckpfmleffaa.PX
