/- Time zones: the document's Moments and Day, by the same plain reckoning. -/
import Derived.Test.YtddkckpfmleffaaPXx15
import Derived.Test.YtddkckpfmleffaaPXx16
import Derived.Test.YtddkckpfmleffaaPXx17
import Derived.Test.YtddkckpfmleffaaFzB
import Derived.Test.YtddkckpfmleffaaFzR
import Derived.Test.YtddkckpfmleffaaFdCmp
namespace Go.Proofs.Ytddkckpfmleffaa.PX
open Go.RowKit Go.Proofs.YtddkckpfmleffaaW.PrintWords Go.Proofs.YtddkckpfmleffaaW.PrintLast Go.Proofs.YtddkckpfmleffaaW.PrintMore
set_option linter.unusedVariables false
set_option linter.unusedSimpArgs false
/-- a minute of a day is shown at a moment if clocks are ahead just so -/
theorem momcond {z : Civ.Zn} {y m d mi b : Int} (o : Civ.ok y m d) (hmi : 0 ≤ mi ∧ mi ≤ 1439) {t : Int} (ht : t = Civ.mom z (Civ.dn y m d) mi b) (sn : Civ.seen z t) :
    ((Civ.ofY ((t + 60 * Civ.off z t) / 86400) == y && (Civ.ofM ((t + 60 * Civ.off z t) / 86400) == m && (Civ.ofD ((t + 60 * Civ.off z t) / 86400) == d))) = true ∧ (t + 60 * Civ.off z t) % 86400 / 60 = mi) ↔ Civ.off z t = z.o + b := by
  obtain ⟨k1, k2⟩ := Civ.of_ok sn.2.1 sn.2.2
  unfold Civ.mom at ht
  simp only [Bool.and_eq_true, beq_iff_eq]
  constructor
  · rintro ⟨⟨p1, p2, p3⟩, p4⟩
    rw [p1, p2, p3] at k2
    omega
  · intro h
    have e : (t + 60 * Civ.off z t) / 86400 = Civ.dn y m d := by omega
    rw [e] at k1 k2 ⊢
    obtain ⟨x1, x2, x3⟩ := Civ.dn_inj k1 o k2
    exact ⟨⟨x1, x2, x3⟩, by omega⟩
theorem refzstep {k : Nat} (hk : 11010 ≤ k) (z : Civ.Zn) (c : Civ.zok z) {y m d mi b : Int} (o : Civ.ok y m d) (hmi : 0 ≤ mi ∧ mi ≤ 1439) (hb : 0 ≤ b ∧ b ≤ 60) (L : List Int) (hL : L.length < 10) :
    pylonref04_Moments.l0 (k + 1) mi (Civ.dn y m d) L b z.o z.s z.m1 z.w1 z.d1 z.t1 z.m2 z.w2 z.d2 z.t2 y m d =
      if Civ.seen z (Civ.mom z (Civ.dn y m d) mi b) ∧ Civ.off z (Civ.mom z (Civ.dn y m d) mi b) = z.o + b then pylonref04_Moments.l0 k mi (Civ.dn y m d) (L ++ [Civ.mom z (Civ.dn y m d) mi b]) (b - 30) z.o z.s z.m1 z.w1 z.d1 z.t1 z.m2 z.w2 z.d2 z.t2 y m d
      else pylonref04_Moments.l0 k mi (Civ.dn y m d) L (b - 30) z.o z.s z.m1 z.w1 z.d1 z.t1 z.m2 z.w2 z.d2 z.t2 y m d := by
  obtain ⟨s1, s2, s3⟩ := zok_s c
  have rg := Civ.dn_range o
  rw [pylonref04_Moments.l0, if_pos (by omega), wr (n := Civ.dn y m d * 86400) (by omega) (by omega), wr (n := mi - z.o) (by omega) (by omega), wr (n := mi - z.o - b) (by omega) (by omega), wr (n := (mi - z.o - b) * 60) (by omega) (by omega), wr (n := Civ.dn y m d * 86400 + (mi - z.o - b) * 60) (by omega) (by omega), wr (n := b - 30) (by omega) (by omega)]
  have et : Civ.dn y m d * 86400 + (mi - z.o - b) * 60 = Civ.mom z (Civ.dn y m d) mi b := by unfold Civ.mom; omega
  rw [et]
  have ht : i64 (Civ.mom z (Civ.dn y m d) mi b) := by unfold Civ.mom i64; omega
  have mc := momcond (z := z) (b := b) o hmi rfl
  generalize Civ.mom z (Civ.dn y m d) mi b = t at *
  rw [refzAt hk z ht]
  simp only [Option.bind_some]
  unfold Civ.at_
  rw [if_pos c]
  by_cases sn : Civ.seen z t
  · have mc := mc sn
    rw [if_pos sn]
    simp only [if_true]
    by_cases q : Civ.off z t = z.o + b
    · obtain ⟨g1, g2⟩ := mc.mpr q
      rw [if_pos g1, if_pos g2, if_pos (by omega), if_pos ⟨sn, q⟩]
    · rw [if_neg (fun h : _ ∧ _ => q h.2)]
      by_cases g1 : (Civ.ofY ((t + 60 * Civ.off z t) / 86400) == y && (Civ.ofM ((t + 60 * Civ.off z t) / 86400) == m && (Civ.ofD ((t + 60 * Civ.off z t) / 86400) == d))) = true
      · rw [if_pos g1, if_neg (fun g2 => q (mc.mp ⟨g1, g2⟩))]
      · rw [if_neg g1]
  · rw [if_neg sn, if_neg (by simp), if_neg (fun h => sn h.1)]
theorem refzMoments {k : Nat} (hk : 11030 ≤ k) (z : Civ.Zn) (y m d mi : Int) : pylonref04_Moments.f k z.o z.s z.m1 z.w1 z.d1 z.t1 z.m2 z.w2 z.d2 z.t2 y m d mi = some (zmoments z y m d mi) := by
  obtain ⟨k, rfl⟩ : ∃ p, k = p + 11030 := ⟨k - 11030, by omega⟩
  unfold pylonref04_Moments.f zmoments
  rw [refzcheck (by omega) z, show k + 11030 = (k + 11010) + 20 by omega, refdays, show k + 11010 + 20 = (k + 11029) + 1 by omega]
  simp only [Option.bind_some]
  by_cases c : Civ.zok z
  · rw [if_pos c, if_pos c, if_pos rfl]
    by_cases o : Civ.ok y m d
    · rw [if_pos o, if_pos o]
      simp only [if_true]
      by_cases a1 : mi < 0
      · rw [if_pos a1, pylonref04_Moments.j0, if_pos rfl, if_neg (show ¬ (0 ≤ mi ∧ mi ≤ 1439) by omega)]
      rw [if_neg a1]
      by_cases a2 : mi > 1439
      · rw [decide_eq_true a2, pylonref04_Moments.j0, if_pos rfl, if_neg (show ¬ (0 ≤ mi ∧ mi ≤ 1439) by omega)]
      have hmi : 0 ≤ mi ∧ mi ≤ 1439 := by omega
      rw [decide_eq_false a2, pylonref04_Moments.j0, if_neg (by simp), if_pos hmi]
      have E : ∀ L : List Int, pylonref04_Moments.l0 (k + 11026) mi (Civ.dn y m d) L (0 - 30) z.o z.s z.m1 z.w1 z.d1 z.t1 z.m2 z.w2 z.d2 z.t2 y m d = some (L, 0) := fun L => by
        rw [show k + 11026 = (k + 11025) + 1 from rfl, pylonref04_Moments.l0, if_neg (by omega)]
      have B := fun t => (Civ.off_bd c t).2.2
      obtain ⟨s1, s2, s3⟩ := zok_s c
      have S0 : ∀ L : List Int, L.length < 9 → pylonref04_Moments.l0 (k + 11027) mi (Civ.dn y m d) L 0 z.o z.s z.m1 z.w1 z.d1 z.t1 z.m2 z.w2 z.d2 z.t2 y m d = some (L ++ (if Civ.seen z (Civ.mom z (Civ.dn y m d) mi 0) ∧ Civ.off z (Civ.mom z (Civ.dn y m d) mi 0) = z.o then [Civ.mom z (Civ.dn y m d) mi 0] else []), 0) := by
        intro L hL
        rw [show k + 11027 = (k + 11026) + 1 from rfl, refzstep (by omega) z c o hmi (by omega) L (by omega), E, E, Int.add_zero]
        by_cases q : Civ.seen z (Civ.mom z (Civ.dn y m d) mi 0) ∧ Civ.off z (Civ.mom z (Civ.dn y m d) mi 0) = z.o
        · rw [if_pos q, if_pos q]
        · rw [if_neg q, if_neg q, List.append_nil]
      have S30 : ∀ L : List Int, L.length < 5 → pylonref04_Moments.l0 (k + 11028) mi (Civ.dn y m d) L 30 z.o z.s z.m1 z.w1 z.d1 z.t1 z.m2 z.w2 z.d2 z.t2 y m d = some (L ++ (if Civ.seen z (Civ.mom z (Civ.dn y m d) mi 30) ∧ Civ.off z (Civ.mom z (Civ.dn y m d) mi 30) = z.o + 30 then [Civ.mom z (Civ.dn y m d) mi 30] else []) ++ (if Civ.seen z (Civ.mom z (Civ.dn y m d) mi 0) ∧ Civ.off z (Civ.mom z (Civ.dn y m d) mi 0) = z.o then [Civ.mom z (Civ.dn y m d) mi 0] else []), 0) := by
        intro L hL
        rw [show k + 11028 = (k + 11027) + 1 from rfl, refzstep (by omega) z c o hmi (by omega) L (by omega), show (30 : Int) - 30 = 0 from rfl, S0 _ (by rw [List.length_append]; simp only [List.length_cons, List.length_nil]; omega), S0 _ (by omega)]
        by_cases q : Civ.seen z (Civ.mom z (Civ.dn y m d) mi 30) ∧ Civ.off z (Civ.mom z (Civ.dn y m d) mi 30) = z.o + 30
        · rw [if_pos q, if_pos q]
        · rw [if_neg q, if_neg q, List.append_nil]
      rw [show k + 11029 = (k + 11028) + 1 from rfl, refzstep (by omega) z c o hmi (by omega) [] (by simp), show (60 : Int) - 30 = 30 from rfl, List.nil_append, S30 _ (by simp), S30 _ (by simp)]
      clear S0 S30 E
      unfold Civ.moms
      generalize Civ.dn y m d = n at *
      have B60 := B (Civ.mom z n mi 60)
      have B30 := B (Civ.mom z n mi 30)
      obtain s1 | s1 | s1 := s1
      · have n1 : ¬ (Civ.seen z (Civ.mom z n mi 60) ∧ Civ.off z (Civ.mom z n mi 60) = z.o + 60) := fun h => by omega
        have n2 : ¬ (Civ.seen z (Civ.mom z n mi 30) ∧ Civ.off z (Civ.mom z n mi 30) = z.o + 30) := fun h => by omega
        have n3 : ¬ (z.s ≠ 0 ∧ Civ.seen z (Civ.mom z n mi 0) ∧ Civ.off z (Civ.mom z n mi 0) = z.o) := fun h => h.1 s1
        rw [if_neg n1, if_neg n2, if_neg n3, s1, Int.add_zero, List.append_nil, List.append_nil, List.nil_append]
      · have n1 : ¬ (Civ.seen z (Civ.mom z n mi 60) ∧ Civ.off z (Civ.mom z n mi 60) = z.o + 60) := fun h => by omega
        rw [if_neg n1, List.nil_append]
        have e : (z.s ≠ 0 ∧ Civ.seen z (Civ.mom z n mi 0) ∧ Civ.off z (Civ.mom z n mi 0) = z.o) ↔ (Civ.seen z (Civ.mom z n mi 0) ∧ Civ.off z (Civ.mom z n mi 0) = z.o) := ⟨fun h => h.2, fun h => ⟨by omega, h⟩⟩
        rw [if_same e, s1]
      · have n2 : ¬ (Civ.seen z (Civ.mom z n mi 30) ∧ Civ.off z (Civ.mom z n mi 30) = z.o + 30) := fun h => by omega
        have e : (z.s ≠ 0 ∧ Civ.seen z (Civ.mom z n mi 0) ∧ Civ.off z (Civ.mom z n mi 0) = z.o) ↔ (Civ.seen z (Civ.mom z n mi 0) ∧ Civ.off z (Civ.mom z n mi 0) = z.o) := ⟨fun h => h.2, fun h => ⟨by omega, h⟩⟩
        rw [if_neg n2, if_same e, s1]
        by_cases q : Civ.seen z (Civ.mom z n mi 60) ∧ Civ.off z (Civ.mom z n mi 60) = z.o + 60
        · rw [if_pos q, if_pos q]; simp
        · rw [if_neg q, if_neg q]; simp
    · rw [if_neg o, if_neg o, if_neg (by simp)]
  · rw [if_neg c, if_neg c, if_neg (by simp)]
theorem last_dn {y m d : Int} (o : Civ.ok y m d) : (y == 9999 && (m == 12 && (d == 31))) = decide (¬ Civ.inr (Civ.dn y m d + 1)) := by
  have rg := Civ.dn_range o
  have e1 : Civ.dn 9999 12 31 = 2932896 := by decide
  by_cases c : y = 9999 ∧ m = 12 ∧ d = 31
  · obtain ⟨rfl, rfl, rfl⟩ := c
    rw [e1]; rfl
  · rw [decide_eq_false (fun h => c ?_)]
    · simpa using c
    · obtain ⟨a, b, e⟩ := Civ.dn_inj o (show Civ.ok 9999 12 31 by decide) (by rw [e1]; unfold Civ.inr at h; omega)
      exact ⟨a, b, e⟩
theorem refbegins_l (z : Civ.Zn) (c : Civ.zok z) {y m d : Int} (o : Civ.ok y m d) (h : Civ.inr (Civ.dn y m d - 1)) (I : Int) (hI : Civ.mid z (Civ.dn y m d) = Civ.dn y m d * 86400 - 60 * z.o - 14400 + 900 * I) (hI2 : I ≤ 16) (j : Nat) :
    ∀ (i : Int) (k : Nat), 0 ≤ i → I - i = j → j + 11020 ≤ k → pylonref04_begins.l0 k (Civ.dn y m d * 86400 - 60 * z.o - 14400 + 900 * i) i z.o z.s z.m1 z.w1 z.d1 z.t1 z.m2 z.w2 z.d2 z.t2 y m d = some (Civ.mid z (Civ.dn y m d)) := by
  have rg := Civ.dn_range o
  obtain ⟨s1, s2, s3⟩ := zok_s c
  obtain ⟨f1, f2, f3⟩ := Civ.mid_first c h rg
  induction j with
  | zero =>
    intro i k h1 h2 h3
    obtain ⟨k, rfl⟩ : ∃ p, k = p + 1 := ⟨k - 1, by omega⟩
    obtain rfl : i = I := by omega
    rw [← hI, pylonref04_begins.l0, if_pos (by omega), refzAt (by omega) z (by rw [hI]; unfold i64; omega)]
    simp only [Option.bind_some]
    unfold Civ.at_
    rw [if_pos c, if_pos f1, f2]
    simp only [if_true]
    have e : Civ.dn y m d * 86400 / 86400 = Civ.dn y m d := by omega
    obtain ⟨k1, k2⟩ := Civ.of_ok rg.1 rg.2
    rw [e]
    unfold pylonref03_Compare.f
    rw [cmp_dn k1 o, k2, if_neg (by omega), if_neg (by omega)]
    simp
  | succ j ih =>
    intro i k h1 h2 h3
    obtain ⟨k, rfl⟩ : ∃ p, k = p + 1 := ⟨k - 1, by omega⟩
    rw [pylonref04_begins.l0, if_pos (by omega), refzAt (by omega) z (by unfold i64; omega), wr (n := Civ.dn y m d * 86400 - 60 * z.o - 14400 + 900 * i + 900) (by omega) (by omega), wr (n := i + 1) (by omega) (by omega)]
    simp only [Option.bind_some]
    have nx := ih (i + 1) k (by omega) (by omega) (by omega)
    rw [show Civ.dn y m d * 86400 - 60 * z.o - 14400 + 900 * (i + 1) = Civ.dn y m d * 86400 - 60 * z.o - 14400 + 900 * i + 900 by omega] at nx
    rw [nx]
    have lt := f3 (Civ.dn y m d * 86400 - 60 * z.o - 14400 + 900 * i) (by omega)
    generalize Civ.dn y m d * 86400 - 60 * z.o - 14400 + 900 * i = t at *
    unfold Civ.at_
    rw [if_pos c]
    by_cases sn : Civ.seen z t
    · rw [if_pos sn]
      simp only [if_true]
      obtain ⟨k1, k2⟩ := Civ.of_ok sn.2.1 sn.2.2
      unfold pylonref03_Compare.f
      rw [cmp_dn k1 o, k2, if_pos (by omega)]
      simp
    · rw [if_neg sn, if_neg (by simp)]
theorem refbegins {k : Nat} (hk : 11100 ≤ k) (z : Civ.Zn) (c : Civ.zok z) {y m d : Int} (o : Civ.ok y m d) (h : Civ.inr (Civ.dn y m d - 1)) : pylonref04_begins.f k z.o z.s z.m1 z.w1 z.d1 z.t1 z.m2 z.w2 z.d2 z.t2 y m d = some (Civ.mid z (Civ.dn y m d)) := by
  obtain ⟨k, rfl⟩ : ∃ p, k = p + 20 := ⟨k - 20, by omega⟩
  have rg := Civ.dn_range o
  obtain ⟨s1, s2, s3⟩ := zok_s c
  unfold pylonref04_begins.f
  rw [refdays, if_pos o]
  simp only [Option.bind_some]
  rw [Int.mul_comm z.o 60]
  simp (disch := omega) only [wr]
  have st : Civ.dn y m d * 86400 - 60 * z.o - 14400 = Civ.dn y m d * 86400 - 60 * z.o - 14400 + 900 * 0 := by omega
  rw [st]
  by_cases q : Civ.dl z (Civ.dn y m d * 86400 - 60 * z.s)
  · have e : Civ.mid z (Civ.dn y m d) = Civ.dn y m d * 86400 - 60 * z.o - 60 * z.s := by unfold Civ.mid; rw [if_pos q]
    exact refbegins_l z c o h (16 - z.s / 15) (by omega) (by omega) (16 - z.s / 15).toNat 0 _ (by omega) (by omega) (by omega)
  · have e : Civ.mid z (Civ.dn y m d) = Civ.dn y m d * 86400 - 60 * z.o := by unfold Civ.mid; rw [if_neg q]
    exact refbegins_l z c o h 16 (by omega) (by omega) 16 0 _ (by omega) (by omega) (by omega)
theorem refzDay {k : Nat} (hk : 11200 ≤ k) (z : Civ.Zn) (y m d : Int) : pylonref04_Day.f k z.o z.s z.m1 z.w1 z.d1 z.t1 z.m2 z.w2 z.d2 z.t2 y m d = some (zday z y m d) := by
  obtain ⟨k, rfl⟩ : ∃ p, k = p + 11200 := ⟨k - 11200, by omega⟩
  unfold pylonref04_Day.f zday
  rw [refzcheck (by omega) z, show k + 11200 = (k + 11198) + 2 by omega, refis, show k + 11198 + 2 = (k + 11199) + 1 by omega]
  simp only [Option.bind_some]
  by_cases c : Civ.zok z
  · rw [if_pos c, if_pos c, if_pos rfl]
    by_cases o : Civ.ok y m d
    · have rg := Civ.dn_range o
      rw [decide_eq_true o, if_pos rfl, first_dn o, last_dn o]
      by_cases p : Civ.inr (Civ.dn y m d - 1)
      · rw [decide_eq_false (fun h => h p), if_neg (by simp)]
        by_cases n : Civ.inr (Civ.dn y m d + 1)
        · obtain ⟨ok2, dn2⟩ := Civ.of_ok n.1 n.2
          rw [decide_eq_false (fun h => h n), pylonref04_Day.j0, if_neg (by simp), show k + 11199 = (k + 199) + 11000 by omega, refadd _ _ _ _ _ (by omega), if_pos o, ofE4_in n.1 n.2, refbegins (by omega) z c o p]
          simp only [Option.bind_some]
          rw [refbegins (by omega) z c ok2 (by rw [dn2]; unfold Civ.inr; omega), dn2, if_pos ⟨o, p, n⟩]
          rfl
        · rw [decide_eq_true n, pylonref04_Day.j0, if_pos rfl, if_neg (fun h => n h.2.2)]
      · rw [decide_eq_true p, if_pos rfl, pylonref04_Day.j0, if_pos rfl, if_neg (fun h => p h.2.1)]
    · rw [decide_eq_false o, if_neg (by simp), pylonref04_Day.j0, if_pos rfl, if_neg (fun h => o h.1)]
  · rw [if_neg c, if_neg c, if_neg (by simp)]
end Go.Proofs.Ytddkckpfmleffaa.PX
