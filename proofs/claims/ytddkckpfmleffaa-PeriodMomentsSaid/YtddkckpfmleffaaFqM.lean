/- The law PeriodMoments: for every run of slots, billing day and slot the call returns true (no conditions). -/
import Derived.Test.YtddkckpfmleffaaPXx21
import Derived.Test.YtddkckpfmleffaaPXx22
import Derived.Test.YtddkckpfmleffaaPXx38
import Derived.Test.YtddkckpfmleffaaFqS
import Derived.Test.YtddkckpfmleffaaFzR
namespace Go.Proofs.Ytddkckpfmleffaa.PX
open Go.RowKit Go.Proofs.YtddkckpfmleffaaW.PrintWords Go.Proofs.YtddkckpfmleffaaW.PrintLast Go.Proofs.YtddkckpfmleffaaW.PrintMore
set_option linter.unusedVariables false
set_option linter.unusedSimpArgs false
theorem momentsloop {z : Civ.Zn} {st step day : Int} {n : Nat} {xs : List S33} (h : SL z st step day n xs) (t : Nat) (htn : t < n) (mi of_ : Int) (M : List (Int × Int × Int)) : ∀ (k : Nat) (p : List (Int × Int × Int)) (s : Int) (i : Int),
    2 * M.length + 10 ≤ k → i = p.length → (p ++ M).length ≤ 40000 → Civ.tiled (sP z st step day) s M n → s ≤ t →
    pylonlaw13_PeriodMoments.l0 k day t ((p ++ M).map spS) ((p ++ M).map (spD day)) ((p ++ M).length : Int) i (sD z st step t).f0 (sD z st step t).f1 (sD z st step t).f2 mi of_ = some true := by
  induction M with
  | nil =>
    intro k p s i hk hi hl ht hs
    have hs2 : s = n := ht
    omega
  | cons x M ih =>
    intro k p s i hk hi hl ht hs
    obtain ⟨k, rfl⟩ : ∃ q, k = q + 3 := ⟨k - 3, by omega⟩
    obtain ⟨e1, e2, e0, e3, e4, e5⟩ := ht
    simp only [List.length_cons, List.length_append] at hk hl
    have d := h.d
    have lS : (((p ++ x :: M).map spS).length : Int) = p.length + M.length + 1 := by simp; omega
    have lD : (((p ++ x :: M).map (spD day)).length : Int) = p.length + M.length + 1 := by simp; omega
    have lL : ((p ++ x :: M).length : Int) = p.length + M.length + 1 := by simp; omega
    rw [show k + 3 = (k + 2) + 1 from rfl, pylonlaw13_PeriodMoments.l0, if_pos (by omega), if_pos (by omega), if_pos (by omega), rdmapS p M x i hi, if_neg (show ¬ (t : Int) < (spS x).f0 from by show ¬ (t : Int) < x.1; omega), show k + 2 = (k + 1) + 1 from rfl, pylonlaw13_PeriodMoments.j3]
    by_cases c : (t : Int) ≥ x.2.1
    · rw [show decide ((t : Int) ≥ (spS x).f1) = true from decide_eq_true c, if_pos rfl, wr (n := i + 1) (by omega) (by omega)]
      have e : p ++ x :: M = (p ++ [x]) ++ M := by simp
      rw [e]
      exact ih (k + 1) (p ++ [x]) x.2.1 (i + 1) (by omega) (by simp; omega) (by simp; omega) e5 c
    · rw [show decide ((t : Int) ≥ (spS x).f1) = false from decide_eq_false c, if_neg (by simp)]
      have px : sP z st step day t = x.2.2 := e3 t (by omega) (by omega)
      have bt := h.bd htn
      have lt := h.low htn
      show ((period_Begin.f (k + 1) (Civ.ofY (sN z st step t)) (Civ.ofM (sN z st step t)) (Civ.ofD (sN z st step t)) day).bind _) = _
      rw [beginf k _ _ _ _ (by omega)]
      unfold perB
      rw [if_pos d, if_pos (h.ok htn), show perNo (Civ.ofY (sN z st step t)) (Civ.ofM (sN z st step t)) (Civ.ofD (sN z st step t)) day = sP z st step day t from rfl, px, Int.add_zero]
      simp only [Option.bind_some]
      rw [px] at bt lt
      rw [if_pos (by rw [perOf_in (p := x.2.2) (by omega) (by omega)]), if_pos (by omega), if_pos (by omega), rdmapD day p M x i hi]
      simp [spD]
theorem PeriodMoments_pure (l0 : (S25 × Int × Int × Int)) (a1 : Int) (a2 : Int) (h0 : (W25 l0.1 ∧ ((Lit.int .i64 l0.2.1).wf = true ∧ ((Lit.int .i64 l0.2.2.1).wf = true ∧ (Lit.int .i64 l0.2.2.2).wf = true)))) (h1 : (Lit.int .i64 a1).wf = true) (h2 : (Lit.int .i64 a2).wf = true) : ∃ k, pylonlaw13_PeriodMoments.f k l0.1.f0 l0.1.f1 l0.1.f2.f0 l0.1.f2.f1 l0.1.f2.f2 l0.1.f2.f3 l0.1.f3.f0 l0.1.f3.f1 l0.1.f3.f2 l0.1.f3.f3 l0.2.1 l0.2.2.1 l0.2.2.2 a1 a2 = some true := by
  refine ⟨300001, ?_⟩
  have hz := zof_wf h0.1
  show pylonlaw13_PeriodMoments.f 300001 (zof l0.1).o (zof l0.1).s (zof l0.1).m1 (zof l0.1).w1 (zof l0.1).d1 (zof l0.1).t1 (zof l0.1).m2 (zof l0.1).w2 (zof l0.1).d2 (zof l0.1).t2 l0.2.1 l0.2.2.1 l0.2.2.2 a1 a2 = some true
  generalize zof l0.1 = z at *
  unfold pylonlaw13_PeriodMoments.f
  obtain ⟨n, e⟩ := cutf3 z.o z.s z.m1 z.w1 z.d1 z.t1 z.m2 z.w2 z.d2 z.t2 l0.2.1 l0.2.2.1 l0.2.2.2
  rw [perawake 300000, e]
  simp only [Option.bind_some, if_true]
  rw [pspans (by omega) z hz]
  simp only [Option.bind_some]
  unfold zspans
  have bad : ∀ E : Int, E ≠ 0 → (if E = 0 then pylonlaw13_PeriodMoments.j0 300001 a1 a2 ([] : List S74) ([] : List S33) E (n == 0) z.o z.s z.m1 z.w1 z.d1 z.t1 z.m2 z.w2 z.d2 z.t2 l0.2.1 l0.2.2.1 n else pylonlaw13_PeriodMoments.j0 300001 a1 a2 ([] : List S74) ([] : List S33) E true z.o z.s z.m1 z.w1 z.d1 z.t1 z.m2 z.w2 z.d2 z.t2 l0.2.1 l0.2.2.1 n) = some true := by
    intro E hE
    rw [if_neg hE, show (300001 : Nat) = 300000 + 1 from rfl, pylonlaw13_PeriodMoments.j0, if_pos rfl, if_neg hE]
    rfl
  by_cases d : 1 ≤ a1 ∧ a1 ≤ 28
  · rw [if_pos d]
    by_cases c : Civ.zok z
    · rw [if_pos c]
      by_cases g : pgood l0.2.1 l0.2.2.1 n
      · rw [if_pos g]
        obtain ⟨g1, g2, g3, g4⟩ := id g
        obtain ⟨N, rfl⟩ : ∃ N : Nat, n = N := ⟨n.toNat, by omega⟩
        rw [Int.toNat_natCast]
        cases e : dls z l0.2.1 l0.2.2.1 N 0 with
        | none => exact bad 5 (by omega)
        | some xs =>
          have h := SL.of (day := a1) c g d e
          have rl := Civ.runs_len (sP z l0.2.1 l0.2.2.1 a1) N
          simp only [if_true]
          rw [show (300001 : Nat) = 300000 + 1 from rfl, pylonlaw13_PeriodMoments.j0]
          by_cases N0 : N = 0
          · subst N0
            rw [if_pos (by rfl), if_pos rfl]
          · rw [if_neg (by simp; exact N0)]
            have uN : IntKind.u64.wrap (N : Int) = N := by unfold IntKind.wrap; simp [IntKind.signed, IntKind.bits]; omega
            rw [uN, if_neg (by omega)]
            have un : 0 ≤ IntKind.u64.wrap a2 := by unfold IntKind.wrap; simp [IntKind.signed, IntKind.bits]; omega
            have t1 := Int.tmod_nonneg (N : Int) un
            have t2 := Int.tmod_lt_of_pos (IntKind.u64.wrap a2) (show (0 : Int) < N by omega)
            generalize Int.tmod (IntKind.u64.wrap a2) (N : Int) = T at *
            rw [wr (n := T) (by omega) (by omega)]
            obtain ⟨t, rfl⟩ : ∃ t : Nat, T = t := ⟨T.toNat, by omega⟩
            have htn : t < N := by omega
            obtain ⟨p1, p2, p3, p4⟩ := pgood_bd g (i := (t : Int)) (by omega) (by omega)
            rw [p1, refzAt (by omega) z p2]
            unfold Civ.at_
            rw [if_pos c, if_pos (h.s t htn)]
            simp only [Option.bind_some, if_true]
            rw [show (300000 : Nat) = 299999 + 1 from rfl, pylonlaw13_PeriodMoments.j1, if_neg (by simp)]
            have m := momentsloop h t htn ((l0.2.1 + 60 * l0.2.2.1 * t + 60 * Civ.off z (l0.2.1 + 60 * l0.2.2.1 * t)) % 86400 / 60) (Civ.off z (l0.2.1 + 60 * l0.2.2.1 * t)) (Civ.runs (sP z l0.2.1 l0.2.2.1 a1) N) 299999 [] 0 0 (by omega) rfl (by simp; omega) (Civ.runs_tiled _ _) (by omega)
            rw [List.nil_append] at m
            rw [List.length_map]
            exact m
      · rw [if_neg g]; exact bad 8 (by omega)
    · rw [if_neg c]; exact bad 8 (by omega)
  · rw [if_neg d]; exact bad 8 (by omega)
end Go.Proofs.Ytddkckpfmleffaa.PX
