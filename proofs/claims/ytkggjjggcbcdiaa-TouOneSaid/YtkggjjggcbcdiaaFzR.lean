/- Time zones: the document's Turns and At, by the same plain reckoning. -/
import Derived.Test.YtkggjjggcbcdiaaPXx14
import Derived.Test.YtkggjjggcbcdiaaPXx15
import Derived.Test.YtkggjjggcbcdiaaPXx16
import Derived.Test.YtkggjjggcbcdiaaFzA
import Derived.Test.YtkggjjggcbcdiaaFeRef
namespace Go.Proofs.Ytkggjjggcbcdiaa.PX
open Go.RowKit Go.Proofs.YtkggjjggcbcdiaaW.PrintWords Go.Proofs.YtkggjjggcbcdiaaW.PrintLast Go.Proofs.YtkggjjggcbcdiaaW.PrintMore
set_option linter.unusedVariables false
set_option linter.unusedSimpArgs false
theorem refmoment {k : Nat} (hk : 100 ≤ k) {y m w d t a : Int} (hy : 1 ≤ y ∧ y ≤ 9999) (h : Civ.rok m w d t) (ha : -2000 ≤ a ∧ a ≤ 2000) : pylonref04_moment.f k m w d t y a = some (Civ.rday y m w d * 86400 + 60 * (t - a)) := by
  obtain ⟨k, rfl⟩ : ∃ p, k = p + 100 := ⟨k - 100, by omega⟩
  obtain ⟨o, r1, r2⟩ := rday_i hy h
  obtain ⟨h1, h2, h3, h4, h5, h6, h7, h8⟩ := h
  unfold pylonref04_moment.f
  rw [refnth k y m w d (by omega) (by omega), if_pos (by omega), if_pos (by omega)]
  simp only [Option.bind_some]
  rw [show k + 100 = (k + 80) + 20 from rfl, refdays, if_pos o]
  simp only [Option.bind_some]
  rw [show Civ.dn y m (Civ.nth y m w d) = Civ.rday y m w d from rfl]
  simp (disch := omega) only [wr]
  rw [Int.mul_comm (t - a) 60]
theorem refzTurns {k : Nat} (hk : 105 ≤ k) (z : Civ.Zn) (y : Int) : pylonref04_Turns.f k z.o z.s z.m1 z.w1 z.d1 z.t1 z.m2 z.w2 z.d2 z.t2 y = some (zturns z y) := by
  obtain ⟨k, rfl⟩ : ∃ p, k = p + 105 := ⟨k - 105, by omega⟩
  unfold pylonref04_Turns.f zturns
  rw [refzcheck (by omega) z]
  simp only [Option.bind_some]
  by_cases c : Civ.zok z
  · rw [if_pos c, if_pos c, if_pos rfl]
    by_cases a1 : y < 1
    · rw [if_pos a1, show k + 105 = (k + 104) + 1 from rfl, pylonref04_Turns.j0, if_pos rfl, if_neg (by omega)]
    rw [if_neg a1]
    by_cases a2 : y > 9999
    · rw [decide_eq_true a2, show k + 105 = (k + 104) + 1 from rfl, pylonref04_Turns.j0, if_pos rfl, if_neg (by omega)]
    rw [decide_eq_false a2, show k + 105 = (k + 104) + 1 from rfl, pylonref04_Turns.j0, if_neg (by simp), if_pos (show 1 ≤ y ∧ y ≤ 9999 by omega)]
    by_cases a3 : z.s = 0
    · rw [if_pos a3, if_pos a3]
    rw [if_neg a3, if_neg a3]
    have hy : 1 ≤ y ∧ y ≤ 9999 := by omega
    have cc := c
    obtain ⟨b1, b2, b3, b4⟩ := c
    obtain ⟨b5, r1, r2, b6⟩ := b4.resolve_left a3
    rw [wr (n := z.o + z.s) (by omega) (by omega), refmoment (by omega) hy r1 (by omega), refmoment (by omega) hy r2 (by omega)]
    simp only [Option.bind_some]
    unfold Civ.BL Civ.FL
    congr 2
    · omega
    · congr 1; omega
  · rw [if_neg c, if_neg c, if_neg (by simp)]
theorem refshown {k : Nat} (hk : 11001 ≤ k) {t a : Int} (ht : i64 t) (ha : -2000 ≤ a ∧ a ≤ 2000) :
    (Civ.inr ((t + 60 * a) / 86400) → pylonref04_shown.f k t a = some (Civ.ofY ((t + 60 * a) / 86400), Civ.ofM ((t + 60 * a) / 86400), Civ.ofD ((t + 60 * a) / 86400), (t + 60 * a) % 86400, true)) ∧
    (¬ Civ.inr ((t + 60 * a) / 86400) → ∃ x y z s, pylonref04_shown.f k t a = some (x, y, z, s, false)) := by
  obtain ⟨k, rfl⟩ : ∃ p, k = (p + 11000) + 1 := ⟨k - 11001, by omega⟩
  obtain ⟨t1, t2⟩ := ht
  unfold pylonref04_shown.f Civ.inr
  by_cases a1 : t < -62200000000
  · rw [if_pos a1, pylonref04_shown.j0, if_pos rfl]
    exact ⟨fun h => by omega, fun _ => ⟨_, _, _, _, rfl⟩⟩
  rw [if_neg a1]
  by_cases a2 : t > 253500000000
  · rw [decide_eq_true a2, pylonref04_shown.j0, if_pos rfl]
    exact ⟨fun h => by omega, fun _ => ⟨_, _, _, _, rfl⟩⟩
  rw [decide_eq_false a2, pylonref04_shown.j0, if_neg (by simp), Int.mul_comm a 60]
  rw [wr (n := 60 * a) (by omega) (by omega), wr (n := t + 60 * a) (by omega) (by omega)]
  obtain ⟨d1, d2⟩ := tday (t + 60 * a)
  by_cases c : Int.tmod (t + 60 * a) 86400 < 0
  · obtain ⟨x1, x2⟩ := d1 c
    rw [if_pos c, wr (n := Int.tdiv (t + 60 * a) 86400) (by omega) (by omega), x1, x2]
    generalize hX : t + 60 * a = X at *
    rw [wr (n := X / 86400) (by omega) (by omega), wr (n := X % 86400) (by omega) (by omega), refof _ _ (by omega)]
    exact ⟨fun h => by rw [ofE4_in h.1 h.2]; rfl, fun h => ⟨_, _, _, _, by rw [ofE4_out (by omega)]; rfl⟩⟩
  · obtain ⟨x1, x2⟩ := d2 c
    rw [if_neg c, x1, x2]
    generalize hX : t + 60 * a = X at *
    rw [wr (n := X / 86400) (by omega) (by omega), refof _ _ (by omega)]
    exact ⟨fun h => by rw [ofE4_in h.1 h.2]; rfl, fun h => ⟨_, _, _, _, by rw [ofE4_out (by omega)]; rfl⟩⟩
theorem refzAt {k : Nat} (hk : 11010 ≤ k) (z : Civ.Zn) {t : Int} (ht : i64 t) : pylonref04_At.f k z.o z.s z.m1 z.w1 z.d1 z.t1 z.m2 z.w2 z.d2 z.t2 t = some (Civ.at_ z t) := by
  obtain ⟨k, rfl⟩ : ∃ p, k = p + 11010 := ⟨k - 11010, by omega⟩
  unfold pylonref04_At.f Civ.at_
  rw [refzcheck (by omega) z]
  simp only [Option.bind_some]
  by_cases c : Civ.zok z
  · rw [if_pos c, if_pos c, if_pos rfl]
    have cc := c
    obtain ⟨b1, b2, b3, b4⟩ := c
    obtain ⟨k1, k2⟩ := refshown (k := k + 11010) (by omega) ht (a := z.o) (by omega)
    have l0 : 0 ≤ (t + 60 * z.o) % 86400 ∧ (t + 60 * z.o) % 86400 < 86400 := by omega
    by_cases n : Civ.inr ((t + 60 * z.o) / 86400)
    · rw [k1 n]
      simp only [Option.bind_some, if_true]
      obtain ⟨y1, y2, y3, y4⟩ := Civ.year_of n
      by_cases s : z.s = 0
      · rw [if_pos s, td (by omega), wr (by omega) (by omega)]
        have o : Civ.off z t = z.o := by unfold Civ.off; rw [if_neg (fun h => h.1 s)]
        rw [if_pos ((seen_iff o).mpr ⟨n, n⟩), o]
      · rw [if_neg s, refzTurns (by omega) z]
        unfold zturns
        rw [if_pos cc, if_pos ⟨y1, y2⟩, if_neg s]
        simp only [Option.bind_some]
        have D : ((Civ.BL z (Civ.ofY ((t + 60 * z.o) / 86400)) - 60 * z.o < Civ.FL z (Civ.ofY ((t + 60 * z.o) / 86400)) - 60 * z.o ∧ Civ.BL z (Civ.ofY ((t + 60 * z.o) / 86400)) - 60 * z.o ≤ t ∧ t < Civ.FL z (Civ.ofY ((t + 60 * z.o) / 86400)) - 60 * z.o) ∨ (Civ.FL z (Civ.ofY ((t + 60 * z.o) / 86400)) - 60 * z.o < Civ.BL z (Civ.ofY ((t + 60 * z.o) / 86400)) - 60 * z.o ∧ (t < Civ.FL z (Civ.ofY ((t + 60 * z.o) / 86400)) - 60 * z.o ∨ Civ.BL z (Civ.ofY ((t + 60 * z.o) / 86400)) - 60 * z.o ≤ t))) ↔ Civ.dl z (t + 60 * z.o) := by
          unfold Civ.dl Civ.dlY
          generalize Civ.BL z (Civ.ofY ((t + 60 * z.o) / 86400)) = B
          generalize Civ.FL z (Civ.ofY ((t + 60 * z.o) / 86400)) = F
          omega
        have tb := (Civ.turns_bd (z := z) ⟨y1, y2⟩ cc s).2.2
        have fin : ∀ x : Bool, x = decide (Civ.dl z (t + 60 * z.o)) → pylonref04_At.j1 (k + 11009) t z.o x z.o z.s z.m1 z.w1 z.d1 z.t1 z.m2 z.w2 z.d2 z.t2 = some (if Civ.seen z t then (Civ.ofY ((t + 60 * Civ.off z t) / 86400), Civ.ofM ((t + 60 * Civ.off z t) / 86400), Civ.ofD ((t + 60 * Civ.off z t) / 86400), (t + 60 * Civ.off z t) % 86400 / 60, Civ.off z t, 0) else (0, 0, 0, 0, 0, 5)) := by
          intro x hx
          rw [hx, show k + 11009 = (k + 11008) + 1 from rfl, pylonref04_At.j1]
          by_cases d : Civ.dl z (t + 60 * z.o)
          · have o : Civ.off z t = z.o + z.s := by unfold Civ.off; rw [if_pos d]
            have ob := Civ.off_bd cc t
            rw [decide_eq_true d, if_pos rfl, wr (n := z.o + z.s) (by omega) (by omega)]
            obtain ⟨q1, q2⟩ := refshown (k := k + 11008) (by omega) ht (a := z.o + z.s) (by omega)
            by_cases n2 : Civ.inr ((t + 60 * (z.o + z.s)) / 86400)
            · rw [q1 n2, if_pos ((seen_iff o).mpr ⟨n, n2⟩), o]
              simp only [Option.bind_some, if_true]
              rw [td (by omega), wr (by omega) (by omega)]
            · obtain ⟨_, _, _, _, e⟩ := q2 n2
              rw [e, if_neg (fun h => n2 ((seen_iff o).mp h).2)]; rfl
          · have o : Civ.off z t = z.o := by unfold Civ.off; rw [if_neg d]
            rw [decide_eq_false d, if_neg (by simp)]
            obtain ⟨q1, q2⟩ := refshown (k := k + 11008) (by omega) ht (a := z.o) (by omega)
            rw [q1 n, if_pos ((seen_iff o).mpr ⟨n, n⟩), o]
            simp only [Option.bind_some, if_true]
            rw [td (by omega), wr (by omega) (by omega)]
        generalize hB : Civ.BL z (Civ.ofY ((t + 60 * z.o) / 86400)) - 60 * z.o = B at *
        generalize hF : Civ.FL z (Civ.ofY ((t + 60 * z.o) / 86400)) - 60 * z.o = F at *
        have tb' : B < F ∨ F < B := by omega
        rw [show k + 11010 = (k + 11009) + 1 from rfl]
        by_cases e1 : t ≥ B
        · rw [if_pos e1, pylonref04_At.j0]
          by_cases e2 : B > F
          · rw [if_pos e2]
            by_cases e3 : t < F
            · rw [if_pos e3, fin _ (decide_eq_true (D.mp (by omega))).symm]
            · rw [if_neg e3, fin _ (decide_eq_decide.mpr (by rw [← D]; omega))]
          · rw [if_neg e2, fin _ (decide_eq_decide.mpr (by rw [← D]; omega))]
        · rw [if_neg e1, pylonref04_At.j0]
          by_cases e2 : B > F
          · rw [if_pos e2]
            by_cases e3 : t < F
            · rw [if_pos e3, fin _ (decide_eq_true (D.mp (by omega))).symm]
            · rw [if_neg e3, fin _ (decide_eq_decide.mpr (by rw [← D]; omega))]
          · rw [if_neg e2, fin _ (decide_eq_false (fun h => by have := D.mpr h; omega)).symm]
    · obtain ⟨_, _, _, _, e⟩ := k2 n
      rw [e, if_neg (fun h => n h.1)]; rfl
  · rw [if_neg c, if_neg c, if_neg (by simp)]
end Go.Proofs.Ytkggjjggcbcdiaa.PX
