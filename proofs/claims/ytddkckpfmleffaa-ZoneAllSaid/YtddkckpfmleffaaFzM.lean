/- Time zones: the program's Moments, by a plain reckoning. -/
import Derived.Test.YtddkckpfmleffaaPXx8
import Derived.Test.YtddkckpfmleffaaFzA
namespace Go.Proofs.Ytddkckpfmleffaa.PX
open Go.RowKit Go.Proofs.YtddkckpfmleffaaW.PrintWords Go.Proofs.YtddkckpfmleffaaW.PrintLast Go.Proofs.YtddkckpfmleffaaW.PrintMore
set_option linter.unusedVariables false
set_option linter.unusedSimpArgs false
def zmoments (z : Civ.Zn) (y m d mi : Int) : List Int × Int := if Civ.zok z then if Civ.ok y m d then if 0 ≤ mi ∧ mi ≤ 1439 then (Civ.moms z (Civ.dn y m d) mi, 0) else ([], 8) else ([], 5) else ([], 8)
theorem zstep {k : Nat} (hk : 7 ≤ k) (z : Civ.Zn) (hz : zwf z) (c : Civ.zok z) {base : Int} (hb : -1000000000000 ≤ base ∧ base ≤ 1000000000000) (L : List Int) (i : Int) (hi : i = 0 ∨ i = 1) (hL : L.length < 10) :
    zone_Moments.l0 (k + 1) L base [z.s, 0] 2 i z.o z.s z.m1 z.w1 z.d1 z.t1 z.m2 z.w2 z.d2 z.t2 =
      if (Civ.seen z (base - 60 * rd [z.s, 0] i) ∧ Civ.off z (base - 60 * rd [z.s, 0] i) = z.o + rd [z.s, 0] i) ∧ (L = [] ∨ rd L 0 ≠ base - 60 * rd [z.s, 0] i) then zone_Moments.l0 k (L ++ [base - 60 * rd [z.s, 0] i]) base [z.s, 0] 2 (i + 1) z.o z.s z.m1 z.w1 z.d1 z.t1 z.m2 z.w2 z.d2 z.t2
      else zone_Moments.l0 k L base [z.s, 0] 2 (i + 1) z.o z.s z.m1 z.w1 z.d1 z.t1 z.m2 z.w2 z.d2 z.t2 := by
  obtain ⟨s1, s2, s3⟩ := zok_s c
  have r : 0 ≤ rd [z.s, 0] i ∧ rd [z.s, 0] i ≤ 60 := by
    obtain rfl | rfl := hi
    · show 0 ≤ z.s ∧ z.s ≤ 60; omega
    · show (0 : Int) ≤ 0 ∧ (0 : Int) ≤ 60; omega
  rw [zone_Moments.l0, if_pos (by omega), if_pos (by omega), if_pos (by simp only [List.length_cons, List.length_nil]; omega)]
  generalize rd [z.s, 0] i = b at *
  rw [wr (n := 60 * b) (by omega) (by omega), wr (n := base - 60 * b) (by omega) (by omega), zAt hk z hz (by unfold i64; omega), wr (n := i + 1) (by omega) (by omega), wr (n := z.o + b) (by omega) (by omega)]
  simp only [Option.bind_some]
  unfold Civ.at_
  rw [if_pos c]
  by_cases sn : Civ.seen z (base - 60 * b)
  · rw [if_pos sn]
    simp only [if_true]
    by_cases o : Civ.off z (base - 60 * b) = z.o + b
    · rw [if_pos o]
      by_cases e : L = []
      · subst e
        rw [if_pos (by rfl), if_pos (by simp), if_pos ⟨⟨sn, o⟩, .inl rfl⟩]
      · have : (L.length : Int) ≠ 0 := by have := List.length_pos_iff.mpr e; omega
        rw [if_neg this, if_pos (by omega)]
        by_cases q : rd L 0 = base - 60 * b
        · rw [if_pos q, if_neg (fun h => h.2.elim e (fun x => x q))]
        · rw [if_neg q, if_pos (by omega), if_pos ⟨⟨sn, o⟩, .inr q⟩]
    · rw [if_neg o, if_neg (fun h => o h.1.2)]
  · rw [if_neg sn, if_neg (by simp), if_neg (fun h => sn h.1.1)]
theorem zMoments {k : Nat} (hk : 20 ≤ k) (z : Civ.Zn) (hz : zwf z) (y m d mi : Int) (hmi : i64 mi) : zone_Moments.f k z.o z.s z.m1 z.w1 z.d1 z.t1 z.m2 z.w2 z.d2 z.t2 y m d mi = some (zmoments z y m d mi) := by
  obtain ⟨k, rfl⟩ : ∃ p, k = p + 20 := ⟨k - 20, by omega⟩
  unfold zone_Moments.f zmoments
  rw [zcheck (by omega) z hz]
  simp only [Option.bind_some]
  by_cases c : Civ.zok z
  · rw [if_pos c, if_pos c, if_pos rfl, civdays]
    simp only [Option.bind_some]
    by_cases o : Civ.ok y m d
    · rw [if_pos o, if_pos o]
      have rg := Civ.dn_range o
      generalize Civ.dn y m d = n at *
      obtain ⟨s1, s2, s3⟩ := zok_s c
      simp only [if_true]
      by_cases a1 : mi < 0
      · rw [if_pos a1, show k + 20 = (k + 19) + 1 from rfl, zone_Moments.j0, if_pos rfl, if_neg (show ¬ (0 ≤ mi ∧ mi ≤ 1439) by omega)]
      rw [if_neg a1]
      by_cases a2 : mi > 1439
      · rw [decide_eq_true a2, show k + 20 = (k + 19) + 1 from rfl, zone_Moments.j0, if_pos rfl, if_neg (show ¬ (0 ≤ mi ∧ mi ≤ 1439) by omega)]
      rw [decide_eq_false a2, show k + 20 = (k + 19) + 1 from rfl, zone_Moments.j0, if_neg (by simp), if_pos (show 0 ≤ mi ∧ mi ≤ 1439 by omega)]
      simp only [Option.bind_some]
      rw [wr (n := n * 86400) (by omega) (by omega), wr (n := mi - z.o) (by omega) (by omega), wr (n := 60 * (mi - z.o)) (by omega) (by omega), wr (n := n * 86400 + 60 * (mi - z.o)) (by omega) (by omega)]
      have e1 : n * 86400 + 60 * (mi - z.o) - 60 * rd [z.s, 0] 0 = Civ.mom z n mi z.s := rfl
      have e2 : n * 86400 + 60 * (mi - z.o) - 60 * rd [z.s, 0] 1 = Civ.mom z n mi 0 := rfl
      have ne : z.s ≠ 0 → Civ.mom z n mi z.s ≠ Civ.mom z n mi 0 := by unfold Civ.mom; omega
      show zone_Moments.l0 ((k + 18) + 1) [] (n * 86400 + 60 * (mi - z.o)) [z.s, 0] 2 0 z.o z.s z.m1 z.w1 z.d1 z.t1 z.m2 z.w2 z.d2 z.t2 = _
      rw [zstep (by omega) z hz c (by omega) [] 0 (.inl rfl) (by simp), e1, show rd [z.s, 0] 0 = z.s from rfl, List.nil_append, show (0 : Int) + 1 = 1 from rfl]
      have S2 : ∀ L : List Int, L.length < 10 → zone_Moments.l0 (k + 18) L (n * 86400 + 60 * (mi - z.o)) [z.s, 0] 2 1 z.o z.s z.m1 z.w1 z.d1 z.t1 z.m2 z.w2 z.d2 z.t2 = if (Civ.seen z (Civ.mom z n mi 0) ∧ Civ.off z (Civ.mom z n mi 0) = z.o) ∧ (L = [] ∨ rd L 0 ≠ Civ.mom z n mi 0) then some (L ++ [Civ.mom z n mi 0], 0) else some (L, 0) := by
        intro L hL
        have F : ∀ L' : List Int, zone_Moments.l0 (k + 17) L' (n * 86400 + 60 * (mi - z.o)) [z.s, 0] 2 (1 + 1) z.o z.s z.m1 z.w1 z.d1 z.t1 z.m2 z.w2 z.d2 z.t2 = some (L', 0) := fun L' => by
          rw [show k + 17 = (k + 16) + 1 from rfl, zone_Moments.l0, if_neg (by omega)]
        rw [show k + 18 = (k + 17) + 1 from rfl, zstep (by omega) z hz c (by omega) L 1 (.inr rfl) hL, e2, show rd [z.s, 0] 1 = 0 from rfl, F, F, Int.add_zero]
      rw [S2 _ (by simp), S2 _ (by simp)]
      unfold Civ.moms
      by_cases q1 : Civ.seen z (Civ.mom z n mi z.s) ∧ Civ.off z (Civ.mom z n mi z.s) = z.o + z.s
      · rw [if_pos ⟨q1, .inl rfl⟩, if_pos q1]
        have rd0 : rd [Civ.mom z n mi z.s] 0 = Civ.mom z n mi z.s := rfl
        by_cases s0 : z.s = 0
        · rw [if_neg (fun h => h.2.elim (fun x => by simp at x) (fun x => x (by rw [rd0, s0]))), if_neg (fun h => h.1 s0)]; rfl
        · by_cases q2 : Civ.seen z (Civ.mom z n mi 0) ∧ Civ.off z (Civ.mom z n mi 0) = z.o
          · rw [if_pos ⟨q2, .inr (by rw [rd0]; exact ne s0)⟩, if_pos ⟨s0, q2⟩]
          · rw [if_neg (fun h => q2 h.1), if_neg (fun h => q2 h.2)]; rfl
      · rw [if_neg (fun h => q1 h.1), if_neg q1]
        by_cases s0 : z.s = 0
        · rw [s0, Int.add_zero] at q1
          rw [if_neg (fun h => q1 h.1), if_neg (fun h => h.1 s0)]; rfl
        · by_cases q2 : Civ.seen z (Civ.mom z n mi 0) ∧ Civ.off z (Civ.mom z n mi 0) = z.o
          · rw [if_pos ⟨q2, .inl rfl⟩, if_pos ⟨s0, q2⟩]
          · rw [if_neg (fun h => q2 h.1), if_neg (fun h => q2 h.2)]; rfl
    · rw [if_neg o, if_neg o, if_neg (by simp)]
  · rw [if_neg c, if_neg c, if_neg (by simp)]
end Go.Proofs.Ytddkckpfmleffaa.PX
