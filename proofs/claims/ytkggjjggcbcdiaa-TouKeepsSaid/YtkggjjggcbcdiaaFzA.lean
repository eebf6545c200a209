/- Time zones: the program's Check, Turns and At (and the document's Check), by one plain reckoning. -/
import Derived.Test.YtkggjjggcbcdiaaPXx11
import Derived.Test.YtkggjjggcbcdiaaPXx12
import Derived.Test.YtkggjjggcbcdiaaPXx13
import Derived.Test.YtkggjjggcbcdiaaFbNth
import Derived.Test.YtkggjjggcbcdiaaFcDate
import Derived.Test.YtkggjjggcbcdiaaZon
namespace Go.Proofs.Ytkggjjggcbcdiaa.PX
open Go.RowKit Go.Proofs.YtkggjjggcbcdiaaW.PrintWords Go.Proofs.YtkggjjggcbcdiaaW.PrintLast Go.Proofs.YtkggjjggcbcdiaaW.PrintMore
set_option linter.unusedVariables false
set_option linter.unusedSimpArgs false
def i64 (x : Int) : Prop := -9223372036854775808 ≤ x ∧ x ≤ 9223372036854775807
def zwf (z : Civ.Zn) : Prop := i64 z.o ∧ i64 z.s ∧ i64 z.m1 ∧ i64 z.w1 ∧ i64 z.d1 ∧ i64 z.t1 ∧ i64 z.m2 ∧ i64 z.w2 ∧ i64 z.d2 ∧ i64 z.t2
theorem if_same {α : Type} {p q : Prop} [Decidable p] [Decidable q] (h : p ↔ q) (x y : α) : (if p then x else y) = if q then x else y := by
  by_cases c : p
  · rw [if_pos c, if_pos (h.mp c)]
  · rw [if_neg c, if_neg (fun z => c (h.mpr z))]
theorem zgood {k : Nat} (hk : 1 ≤ k) (m w d t : Int) (hw : i64 w) (hd : i64 d) : zone_good.f k m w d t = some (decide (Civ.rok m w d t)) := by
  obtain ⟨k, rfl⟩ : ∃ p, k = p + 1 := ⟨k - 1, by omega⟩
  unfold zone_good.f
  rw [civnth k 2000 m w d hw hd]
  simp only [Option.bind_some]
  by_cases c1 : 1 ≤ (2000 : Int) ∧ (2000 : Int) ≤ 9999 ∧ 1 ≤ m ∧ m ≤ 12
  · rw [if_pos c1]
    by_cases c2 : 1 ≤ w ∧ w ≤ 5 ∧ 0 ≤ d ∧ d ≤ 6
    · rw [if_pos c2]
      simp only [if_true]
      by_cases c3 : t ≥ 60
      · rw [if_pos c3]
        exact congrArg some (decide_eq_decide.mpr (by unfold Civ.rok; omega))
      · rw [if_neg c3]
        exact congrArg some (decide_eq_false (by unfold Civ.rok; omega)).symm
    · rw [if_neg c2, if_neg (by simp)]
      exact congrArg some (decide_eq_false (by unfold Civ.rok; omega)).symm
  · rw [if_neg c1, if_neg (by simp)]
    exact congrArg some (decide_eq_false (by unfold Civ.rok; omega)).symm
theorem zcheck {k : Nat} (hk : 3 ≤ k) (z : Civ.Zn) (hz : zwf z) : zone_Check.f k z.o z.s z.m1 z.w1 z.d1 z.t1 z.m2 z.w2 z.d2 z.t2 = some (if Civ.zok z then 0 else 8) := by
  obtain ⟨k, rfl⟩ : ∃ p, k = p + 3 := ⟨k - 3, by omega⟩
  obtain ⟨_, _, _, hw1, hd1, _, _, hw2, hd2, _⟩ := hz
  unfold zone_Check.f
  by_cases a1 : z.o < -720
  · rw [if_pos a1, show k + 3 = (k + 2) + 1 from rfl, zone_Check.j0, if_pos rfl, if_neg (by unfold Civ.zok; omega)]
  rw [if_neg a1]
  by_cases a2 : z.o > 840
  · rw [if_pos a2, show k + 3 = (k + 2) + 1 from rfl, zone_Check.j0, if_pos rfl, if_neg (by unfold Civ.zok; omega)]
  rw [if_neg a2]
  have t0 := tmod0 z.o 15
  by_cases a3 : z.o % 15 = 0
  · rw [show (Int.tmod z.o 15 != 0) = false by simp [t0, a3], show k + 3 = (k + 2) + 1 from rfl, zone_Check.j0, if_neg (by simp)]
    by_cases a4 : z.s = 0
    · rw [if_pos a4, if_pos (by unfold Civ.zok; omega)]
    rw [if_neg a4]
    have fin : zone_Check.j1 (k + 2) false z.o z.s z.m1 z.w1 z.d1 z.t1 z.m2 z.w2 z.d2 z.t2 = some (if Civ.rok z.m1 z.w1 z.d1 z.t1 ∧ Civ.rok z.m2 z.w2 z.d2 z.t2 ∧ z.m1 ≠ z.m2 then 0 else 8) := by
      rw [show k + 2 = (k + 1) + 1 from rfl, zone_Check.j1, if_neg (by simp), zgood (by omega) _ _ _ _ hw1 hd1, zgood (by omega) _ _ _ _ hw2 hd2]
      simp only [Option.bind_some]
      by_cases b1 : Civ.rok z.m1 z.w1 z.d1 z.t1
      · rw [decide_eq_true b1, if_pos rfl]
        by_cases b2 : Civ.rok z.m2 z.w2 z.d2 z.t2
        · rw [decide_eq_true b2, if_pos rfl]
          by_cases b3 : z.m1 = z.m2
          · rw [if_pos b3, if_neg (fun h => h.2.2 b3)]
          · rw [if_neg b3, if_pos ⟨b1, b2, b3⟩]
        · rw [decide_eq_false b2, if_neg (by simp), if_neg (fun h => b2 h.2.1)]
      · rw [decide_eq_false b1, if_neg (by simp), if_neg (fun h => b1 h.1)]
    by_cases a5 : z.s = 30
    · rw [if_pos a5, fin]
      congr 1
      exact if_same ⟨fun h => ⟨by omega, by omega, a3, .inr ⟨.inl a5, h⟩⟩, fun h => (h.2.2.2.resolve_left a4).2⟩ _ _
    · rw [if_neg a5]
      by_cases a6 : z.s = 60
      · rw [show (z.s != 60) = false by simp [a6], fin]
        congr 1
        exact if_same ⟨fun h => ⟨by omega, by omega, a3, .inr ⟨.inr a6, h⟩⟩, fun h => (h.2.2.2.resolve_left a4).2⟩ _ _
      · rw [show (z.s != 60) = true by simp [a6], show k + 2 = (k + 1) + 1 from rfl, zone_Check.j1, if_pos rfl, if_neg (by unfold Civ.zok; omega)]
  · rw [show (Int.tmod z.o 15 != 0) = true by simp [t0, a3], show k + 3 = (k + 2) + 1 from rfl, zone_Check.j0, if_pos rfl, if_neg (by unfold Civ.zok; omega)]
theorem rday_i {y m w d t : Int} (hy : 1 ≤ y ∧ y ≤ 9999) (h : Civ.rok m w d t) : Civ.ok y m (Civ.nth y m w d) ∧ -719162 ≤ Civ.rday y m w d ∧ Civ.rday y m w d ≤ 2932896 := by
  obtain ⟨h1, h2, h3, h4, h5, h6, h7, h8⟩ := h
  obtain ⟨n1, n2, n3, n4, n5⟩ := Civ.nth_ok (y := y) (m := m) (w := w) (d := d) ⟨hy.1, hy.2, h1, h2⟩ h3 h4 h5 h6
  have o : Civ.ok y m (Civ.nth y m w d) := ⟨hy.1, hy.2, h1, h2, n1, n2⟩
  exact ⟨o, Civ.dn_range o⟩
theorem zturn {k : Nat} (hk : 1 ≤ k) {y m w d t a : Int} (hy : 1 ≤ y ∧ y ≤ 9999) (h : Civ.rok m w d t) (ha : -2000 ≤ a ∧ a ≤ 2000) : zone_turn.f k m w d t y a = some (Civ.rday y m w d * 86400 + 60 * (t - a)) := by
  obtain ⟨k, rfl⟩ : ∃ p, k = p + 1 := ⟨k - 1, by omega⟩
  obtain ⟨o, r1, r2⟩ := rday_i hy h
  obtain ⟨h1, h2, h3, h4, h5, h6, h7, h8⟩ := h
  unfold zone_turn.f
  rw [civnth k y m w d (by omega) (by omega), if_pos (by omega), if_pos (by omega)]
  simp only [Option.bind_some]
  rw [civdays, if_pos o]
  simp only [Option.bind_some]
  rw [show Civ.dn y m (Civ.nth y m w d) = Civ.rday y m w d from rfl]
  simp (disch := omega) only [wr]
/-- the turns of a year, as they are told -/
def zturns (z : Civ.Zn) (y : Int) : Int × Int × Int := if Civ.zok z then if 1 ≤ y ∧ y ≤ 9999 then if z.s = 0 then (0, 0, 7) else (Civ.BL z y - 60 * z.o, Civ.FL z y - 60 * z.o, 0) else (0, 0, 5) else (0, 0, 8)
theorem zTurns {k : Nat} (hk : 5 ≤ k) (z : Civ.Zn) (hz : zwf z) (y : Int) : zone_Turns.f k z.o z.s z.m1 z.w1 z.d1 z.t1 z.m2 z.w2 z.d2 z.t2 y = some (zturns z y) := by
  obtain ⟨k, rfl⟩ : ∃ p, k = p + 5 := ⟨k - 5, by omega⟩
  unfold zone_Turns.f zturns
  rw [zcheck (by omega) z hz]
  simp only [Option.bind_some]
  by_cases c : Civ.zok z
  · rw [if_pos c, if_pos c, if_pos rfl]
    by_cases a1 : y < 1
    · rw [if_pos a1, show k + 5 = (k + 4) + 1 from rfl, zone_Turns.j0, if_pos rfl, if_neg (by omega)]
    rw [if_neg a1]
    by_cases a2 : y > 9999
    · rw [decide_eq_true a2, show k + 5 = (k + 4) + 1 from rfl, zone_Turns.j0, if_pos rfl, if_neg (by omega)]
    rw [decide_eq_false a2, show k + 5 = (k + 4) + 1 from rfl, zone_Turns.j0, if_neg (by simp), if_pos (show 1 ≤ y ∧ y ≤ 9999 by omega)]
    by_cases a3 : z.s = 0
    · rw [if_pos a3, if_pos a3]
    rw [if_neg a3, if_neg a3]
    have hy : 1 ≤ y ∧ y ≤ 9999 := by omega
    have cc := c
    obtain ⟨b1, b2, b3, b4⟩ := c
    obtain ⟨b5, r1, r2, b6⟩ := b4.resolve_left a3
    rw [wr (n := z.o + z.s) (by omega) (by omega), zturn (by omega) hy r1 (by omega), zturn (by omega) hy r2 (by omega)]
    simp only [Option.bind_some]
    unfold Civ.BL Civ.FL
    congr 2
    · omega
    · congr 1; omega
  · rw [if_neg c, if_neg c, if_neg (by simp)]
/-- truncated and floored division by a day -/
theorem tday (X : Int) : (Int.tmod X 86400 < 0 → Int.tdiv X 86400 - 1 = X / 86400 ∧ Int.tmod X 86400 + 86400 = X % 86400) ∧ (¬ Int.tmod X 86400 < 0 → Int.tdiv X 86400 = X / 86400 ∧ Int.tmod X 86400 = X % 86400) := by
  have t := Int.tmod_add_mul_tdiv X 86400
  have t1 := Int.lt_tmod_of_pos X (show (0:Int) < 86400 by omega)
  have t2 := Int.tmod_lt_of_pos X (show (0:Int) < 86400 by omega)
  generalize Int.tmod X 86400 = r at *
  generalize Int.tdiv X 86400 = q at *
  omega
theorem zclock {k : Nat} (hk : 1 ≤ k) {t a : Int} (ht : i64 t) (ha : -2000 ≤ a ∧ a ≤ 2000) :
    (Civ.inr ((t + 60 * a) / 86400) → zone_clock.f k t a = some (Civ.ofY ((t + 60 * a) / 86400), Civ.ofM ((t + 60 * a) / 86400), Civ.ofD ((t + 60 * a) / 86400), (t + 60 * a) % 86400 / 60, 0)) ∧
    (¬ Civ.inr ((t + 60 * a) / 86400) → ∃ mi, zone_clock.f k t a = some (0, 0, 0, mi, 5)) := by
  obtain ⟨k, rfl⟩ : ∃ p, k = p + 1 := ⟨k - 1, by omega⟩
  obtain ⟨t1, t2⟩ := ht
  unfold zone_clock.f Civ.inr
  by_cases a1 : t < -1099511627776
  · rw [if_pos a1, zone_clock.j0, if_pos rfl]
    exact ⟨fun h => by omega, fun _ => ⟨_, rfl⟩⟩
  rw [if_neg a1]
  by_cases a2 : t > 1099511627776
  · rw [decide_eq_true a2, zone_clock.j0, if_pos rfl]
    exact ⟨fun h => by omega, fun _ => ⟨_, rfl⟩⟩
  rw [decide_eq_false a2, zone_clock.j0, if_neg (by simp)]
  rw [wr (n := 60 * a) (by omega) (by omega), wr (n := t + 60 * a) (by omega) (by omega)]
  obtain ⟨d1, d2⟩ := tday (t + 60 * a)
  have e0 : (t + 60 * a) - (t + 60 * a) / 86400 * 86400 = (t + 60 * a) % 86400 := by omega
  by_cases c : Int.tmod (t + 60 * a) 86400 < 0
  · obtain ⟨x1, x2⟩ := d1 c
    rw [if_pos c, wr (n := Int.tdiv (t + 60 * a) 86400) (by omega) (by omega), x1]
    generalize hX : t + 60 * a = X at *
    simp (disch := omega) only [wr]
    rw [e0, td (by omega), wr (by omega) (by omega), civof]
    exact ⟨fun h => by rw [ofE4_in h.1 h.2]; rfl, fun h => ⟨_, by rw [ofE4_out (by omega)]; rfl⟩⟩
  · obtain ⟨x1, x2⟩ := d2 c
    rw [if_neg c, x1]
    generalize hX : t + 60 * a = X at *
    simp (disch := omega) only [wr]
    rw [e0, td (by omega), wr (by omega) (by omega), civof]
    exact ⟨fun h => by rw [ofE4_in h.1 h.2]; rfl, fun h => ⟨_, by rw [ofE4_out (by omega)]; rfl⟩⟩
theorem zpick {α : Type} (G : Bool → α) (b f t : Int) : (if b < f then (if b ≤ t then (if t < f then G true else (if b > f then G (decide (t ≥ b)) else G false)) else (if b > f then (if t < f then G true else G (decide (t ≥ b))) else G false)) else (if b > f then (if t < f then G true else G (decide (t ≥ b))) else G false)) = G (decide ((b < f ∧ b ≤ t ∧ t < f) ∨ (f < b ∧ (t < f ∨ b ≤ t)))) := by
  repeat' split
  all_goals first | omega | exact congrArg G (by first | exact (decide_eq_true (by omega)).symm | exact (decide_eq_false (by omega)).symm | exact decide_eq_decide.mpr (by omega))
theorem seen_iff {z : Civ.Zn} {t a : Int} (o : Civ.off z t = a) : Civ.seen z t ↔ Civ.inr ((t + 60 * z.o) / 86400) ∧ Civ.inr ((t + 60 * a) / 86400) := by unfold Civ.seen; rw [o]
theorem zAt {k : Nat} (hk : 7 ≤ k) (z : Civ.Zn) (hz : zwf z) {t : Int} (ht : i64 t) : zone_At.f k z.o z.s z.m1 z.w1 z.d1 z.t1 z.m2 z.w2 z.d2 z.t2 t = some (Civ.at_ z t) := by
  obtain ⟨k, rfl⟩ : ∃ p, k = p + 7 := ⟨k - 7, by omega⟩
  unfold zone_At.f Civ.at_
  rw [zcheck (by omega) z hz]
  simp only [Option.bind_some]
  by_cases c : Civ.zok z
  · rw [if_pos c, if_pos c, if_pos rfl]
    have cc := c
    obtain ⟨b1, b2, b3, b4⟩ := c
    obtain ⟨k1, k2⟩ := zclock (k := k + 7) (by omega) ht (a := z.o) (by omega)
    by_cases n : Civ.inr ((t + 60 * z.o) / 86400)
    · rw [k1 n]
      simp only [Option.bind_some, if_true]
      obtain ⟨y1, y2, y3, y4⟩ := Civ.year_of n
      rw [zTurns (by omega) z hz]
      unfold zturns
      rw [if_pos cc, if_pos ⟨y1, y2⟩]
      simp only [Option.bind_some]
      by_cases s : z.s = 0
      · rw [if_pos s, if_neg (by simp), show k + 7 = (k + 6) + 1 from rfl, zone_At.j0, if_neg (by simp)]
        have o : Civ.off z t = z.o := by unfold Civ.off; rw [if_neg (fun h => h.1 s)]
        rw [if_pos ((seen_iff o).mpr ⟨n, n⟩), o]
      · rw [if_neg s]
        simp only [if_true]
        rw [zpick (fun x => zone_At.j0 (k + 7) t ((t + 60 * z.o) % 86400 / 60) z.o x z.o z.s z.m1 z.w1 z.d1 z.t1 z.m2 z.w2 z.d2 z.t2 (Civ.ofY ((t + 60 * z.o) / 86400)) (Civ.ofM ((t + 60 * z.o) / 86400)) (Civ.ofD ((t + 60 * z.o) / 86400)))]
        have D : ((Civ.BL z (Civ.ofY ((t + 60 * z.o) / 86400)) - 60 * z.o < Civ.FL z (Civ.ofY ((t + 60 * z.o) / 86400)) - 60 * z.o ∧ Civ.BL z (Civ.ofY ((t + 60 * z.o) / 86400)) - 60 * z.o ≤ t ∧ t < Civ.FL z (Civ.ofY ((t + 60 * z.o) / 86400)) - 60 * z.o) ∨ (Civ.FL z (Civ.ofY ((t + 60 * z.o) / 86400)) - 60 * z.o < Civ.BL z (Civ.ofY ((t + 60 * z.o) / 86400)) - 60 * z.o ∧ (t < Civ.FL z (Civ.ofY ((t + 60 * z.o) / 86400)) - 60 * z.o ∨ Civ.BL z (Civ.ofY ((t + 60 * z.o) / 86400)) - 60 * z.o ≤ t))) ↔ Civ.dl z (t + 60 * z.o) := by
          unfold Civ.dl Civ.dlY
          generalize Civ.BL z (Civ.ofY ((t + 60 * z.o) / 86400)) = B
          generalize Civ.FL z (Civ.ofY ((t + 60 * z.o) / 86400)) = F
          omega
        rw [show decide _ = decide (Civ.dl z (t + 60 * z.o)) from decide_eq_decide.mpr D, show k + 7 = (k + 6) + 1 from rfl, zone_At.j0]
        by_cases d : Civ.dl z (t + 60 * z.o)
        · have o : Civ.off z t = z.o + z.s := by unfold Civ.off; rw [if_pos d]
          have ob := Civ.off_bd cc t
          rw [decide_eq_true d, if_pos rfl, wr (n := z.o + z.s) (by omega) (by omega)]
          obtain ⟨q1, q2⟩ := zclock (k := k + 6) (by omega) ht (a := z.o + z.s) (by omega)
          by_cases n2 : Civ.inr ((t + 60 * (z.o + z.s)) / 86400)
          · rw [q1 n2, if_pos ((seen_iff o).mpr ⟨n, n2⟩), o]; rfl
          · obtain ⟨mi, e⟩ := q2 n2
            rw [e, if_neg (fun h => n2 ((seen_iff o).mp h).2)]; rfl
        · have o : Civ.off z t = z.o := by unfold Civ.off; rw [if_neg d]
          rw [decide_eq_false d, if_neg (by simp)]
          rw [if_pos ((seen_iff o).mpr ⟨n, n⟩), o]
    · obtain ⟨mi, e⟩ := k2 n
      rw [e, if_neg (fun h => n h.1)]; rfl
  · rw [if_neg c, if_neg c, if_neg (by simp)]
theorem zok_s {z : Civ.Zn} (h : Civ.zok z) : (z.s = 0 ∨ z.s = 30 ∨ z.s = 60) ∧ -720 ≤ z.o ∧ z.o ≤ 840 := by
  obtain ⟨h1, h2, _, q | ⟨q, _⟩⟩ := h
  · exact ⟨.inl q, h1, h2⟩
  · exact ⟨.inr q, h1, h2⟩
end Go.Proofs.Ytkggjjggcbcdiaa.PX
