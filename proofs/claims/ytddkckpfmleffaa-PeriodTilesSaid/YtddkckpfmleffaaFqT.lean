/- The law PeriodTiles: for every run of slots and billing day the call returns true (no conditions). -/
import Derived.Test.YtddkckpfmleffaaPXx22
import Derived.Test.YtddkckpfmleffaaPXx27
import Derived.Test.YtddkckpfmleffaaPXx38
import Derived.Test.YtddkckpfmleffaaFqD
namespace Go.Proofs.Ytddkckpfmleffaa.PX
open Go.RowKit Go.Proofs.YtddkckpfmleffaaW.PrintWords Go.Proofs.YtddkckpfmleffaaW.PrintLast Go.Proofs.YtddkckpfmleffaaW.PrintMore
set_option linter.unusedVariables false
set_option linter.unusedSimpArgs false
theorem tiled_le {P : Nat → Int} : ∀ {L : List (Int × Int × Int)} {s e : Int}, Civ.tiled P s L e → s ≤ e
  | [], s, e, h => Int.le_of_eq h
  | x :: L, s, e, h => by
    obtain ⟨e1, e2, e0, e3, e4, e5⟩ := h
    have := tiled_le e5
    omega
theorem ok_day2 {y m d : Int} (h1 : 1 ≤ y) (h2 : y ≤ 9999) (h3 : 1 ≤ m) (h4 : m ≤ 12) (h5 : 1 ≤ d) (h6 : d ≤ 28) : Civ.ok y m d := by
  have := Civ.len_bd y m
  exact ⟨h1, h2, h3, h4, h5, by omega⟩
theorem SL.low {z : Civ.Zn} {st step day : Int} {n : Nat} {xs : List S33} (h : SL z st step day n xs) {i : Nat} (hi : i < n) : 24 ≤ sP z st step day i := by
  have o := h.ok hi
  have dn := (Civ.of_ok (h.inr hi).1 (h.inr hi).2).2
  have ob := Civ.off_bd h.c (st + 60 * step * i)
  have pb := pgood_bd h.g (i := i) (by omega) (by omega)
  have lo : -1 ≤ sN z st step i := by unfold sN; omega
  unfold sP pn perNo
  generalize sN z st step i = D at *
  generalize Civ.ofY D = y at *
  generalize Civ.ofM D = m at *
  generalize Civ.ofD D = d at *
  obtain ⟨a1, a2, a3, a4, a5, a6⟩ := o
  have b := Civ.doy_bd a3 a4 a5 a6
  have s := Civ.ahead_succ y
  have e3 : Civ.ahead 4 = 1095 := by decide
  have y3 : 4 ≤ y := by
    by_cases q : 4 ≤ y
    · exact q
    · have m := Civ.ahead_mono (a := y + 1) (b := 4) (by omega)
      unfold Civ.dn at dn
      omega
  split <;> omega
theorem rdmapS (p M : List (Int × Int × Int)) (x : Int × Int × Int) (i : Int) (hi : i = p.length) : rd_T74 ((p ++ x :: M).map spS) i = spS x := by
  subst hi
  unfold rd_T74
  simp
theorem rdmapD (day : Int) (p M : List (Int × Int × Int)) (x : Int × Int × Int) (i : Int) (hi : i = p.length) : rd_T33 ((p ++ x :: M).map (spD day)) i = spD day x := by
  subst hi
  unfold rd_T33
  simp
theorem tilesloop {z : Civ.Zn} {st step day : Int} {n : Nat} {xs : List S33} (h : SL z st step day n xs) (w1 w2 w3 w4 w5 w6 w7 w8 w9 w10 w11 w12 : Int) (M : List (Int × Int × Int)) : ∀ (k : Nat) (p : List (Int × Int × Int)) (s : Int) (i : Int),
    3 * M.length + 10 ≤ k → i = p.length → (p ++ M).length ≤ 40000 → Civ.tiled (sP z st step day) s M n → (p = [] ∨ ∃ q y, p = q ++ [y] ∧ y.2.1 = s ∧ y.1 < y.2.1 ∧ 0 ≤ y.1 ∧ (∀ j : Nat, y.1 ≤ (j : Int) → (j : Int) < y.2.1 → sP z st step day j = y.2.2) ∧ (M ≠ [] → sP z st step day s.toNat ≠ y.2.2)) →
    pylonlaw13_PeriodTiles.l0 k day ((p ++ M).map spS) ((p ++ M).map (spD day)) s ((p ++ M).length : Int) i w1 w2 w3 w4 w5 w6 w7 w8 w9 w10 w11 w12 n = some true := by
  induction M with
  | nil =>
    intro k p s i hk hi hl ht hp
    obtain ⟨k, rfl⟩ : ∃ q, k = q + 1 := ⟨k - 1, by omega⟩
    have hs : s = n := ht
    rw [pylonlaw13_PeriodTiles.l0, if_neg (by simp; omega), hs]
    simp
  | cons x M ih =>
    intro k p s i hk hi hl ht hp
    obtain ⟨k, rfl⟩ : ∃ q, k = q + 3 := ⟨k - 3, by omega⟩
    obtain ⟨e1, e2, e0, e3, e4, e5⟩ := ht
    have le := tiled_le e5
    simp only [List.length_cons, List.length_append] at hk hl
    have d := h.d
    have lS : (((p ++ x :: M).map spS).length : Int) = p.length + M.length + 1 := by simp; omega
    have lD : (((p ++ x :: M).map (spD day)).length : Int) = p.length + M.length + 1 := by simp; omega
    have lL : ((p ++ x :: M).length : Int) = p.length + M.length + 1 := by simp; omega
    have px : sP z st step day x.1.toNat = x.2.2 := e3 x.1.toNat (by omega) (by omega)
    have hxn : x.1.toNat < n := by omega
    have bx := h.bd hxn
    have lx := h.low hxn
    have nxt : ∀ k', 3 * M.length + 10 ≤ k' → pylonlaw13_PeriodTiles.l0 k' day ((p ++ x :: M).map spS) ((p ++ x :: M).map (spD day)) x.2.1 ((p ++ x :: M).length : Int) (wrap64 (i + 1)) w1 w2 w3 w4 w5 w6 w7 w8 w9 w10 w11 w12 n = some true := by
      intro k' hk'
      have e : p ++ x :: M = (p ++ [x]) ++ M := by simp
      rw [wr (n := i + 1) (by omega) (by omega), e]
      exact ih k' (p ++ [x]) x.2.1 (i + 1) hk' (by simp; omega) (by simp; omega) e5 (.inr ⟨p, x, rfl, rfl, e2, e0, e3, e4⟩)
    rw [show k + 3 = (k + 2) + 1 from rfl, pylonlaw13_PeriodTiles.l0, if_pos (by omega), if_pos (by omega), if_pos (by omega), rdmapS p M x i hi, if_pos (show (spS x).f0 = s from e1), show k + 2 = (k + 1) + 1 from rfl, pylonlaw13_PeriodTiles.j1, show decide ((spS x).f1 ≤ s) = false from decide_eq_false (by show ¬ x.2.1 ≤ s; omega), if_neg (by simp), if_pos (by omega), if_pos (by omega), rdmapS p M x i hi]
    obtain rfl | ⟨q, y, rfl, y1, y2, y0, y3, y4⟩ := hp
    · rw [if_neg (by simp at hi; omega)]
      exact nxt (k + 1) (by omega)
    · have hq : ((q ++ [y]).length : Int) = q.length + 1 := by simp
      have py := y3 (y.2.1 - 1).toNat (by omega) (by omega)
      have hyn : (y.2.1 - 1).toNat + 1 < n := by omega
      have st1 := h.next hyn
      have ne := y4 (by simp)
      rw [show (y.2.1 - 1).toNat + 1 = x.1.toNat by omega, px, py] at st1
      rw [show s.toNat = x.1.toNat by omega, px] at ne
      have by_ := h.low (i := (y.2.1 - 1).toNat) (by omega)
      rw [py] at by_
      have yx : x.2.2 = y.2.2 + 1 := by omega
      rw [if_pos (by omega), wr (n := i - 1) (by omega) (by omega), if_pos (by omega), if_pos (by omega)]
      have rdy : rd_T33 ((q ++ [y] ++ x :: M).map (spD day)) (i - 1) = spD day y := by
        rw [List.append_assoc, List.singleton_append]
        exact rdmapD day q (x :: M) y (i - 1) (by omega)
      rw [rdy]
      show ((period_Next.f (k + 1) (perOf y.2.2 day).1 (perOf y.2.2 day).2.1 (perOf y.2.2 day).2.2.1 day).bind _) = _
      rw [px] at bx
      rw [perOf_in (p := y.2.2) (by omega) (by omega)]
      simp only []
      rw [nextf k _ _ _ _ (by omega)]
      unfold perB
      rw [if_pos d, if_pos (ok_day2 (by omega) (by omega) (by omega) (by omega) d.1 d.2), show perNo ((y.2.2 + 11) / 12) ((y.2.2 + 11) % 12 + 1) day day = y.2.2 by unfold perNo; rw [if_neg (by omega)]; omega, ← yx]
      simp only [Option.bind_some]
      rw [if_pos (by rw [perOf_in (p := x.2.2) (by omega) (by omega)]), if_pos (by omega), rdmapD day (q ++ [y]) M x i hi]
      rw [show (!((perOf x.2.2 day).1 == (spD day x).f0) || (!((perOf x.2.2 day).2.1 == (spD day x).f1) || (!((perOf x.2.2 day).2.2.1 == (spD day x).f2)))) = false by simp [spD]]
      rw [pylonlaw13_PeriodTiles.j2, if_neg (by simp)]
      exact nxt k (by omega)
theorem cutf3 (a b c d e f g h i j st step n : Int) : ∃ n', pylonlaw13_Slots_cut.f a b c d e f g h i j st step n = some (a, b, c, d, e, f, g, h, i, j, st, step, n') := by
  unfold pylonlaw13_Slots_cut.f
  split
  · exact ⟨_, rfl⟩
  · exact ⟨_, rfl⟩
theorem PeriodTiles_pure (l0 : (S25 × Int × Int × Int)) (a1 : Int) (h0 : (W25 l0.1 ∧ ((Lit.int .i64 l0.2.1).wf = true ∧ ((Lit.int .i64 l0.2.2.1).wf = true ∧ (Lit.int .i64 l0.2.2.2).wf = true)))) (h1 : (Lit.int .i64 a1).wf = true) : ∃ k, pylonlaw13_PeriodTiles.f k l0.1.f0 l0.1.f1 l0.1.f2.f0 l0.1.f2.f1 l0.1.f2.f2 l0.1.f2.f3 l0.1.f3.f0 l0.1.f3.f1 l0.1.f3.f2 l0.1.f3.f3 l0.2.1 l0.2.2.1 l0.2.2.2 a1 = some true := by
  refine ⟨300001, ?_⟩
  have hz := zof_wf h0.1
  show pylonlaw13_PeriodTiles.f 300001 (zof l0.1).o (zof l0.1).s (zof l0.1).m1 (zof l0.1).w1 (zof l0.1).d1 (zof l0.1).t1 (zof l0.1).m2 (zof l0.1).w2 (zof l0.1).d2 (zof l0.1).t2 l0.2.1 l0.2.2.1 l0.2.2.2 a1 = some true
  generalize zof l0.1 = z at *
  unfold pylonlaw13_PeriodTiles.f
  obtain ⟨n, e⟩ := cutf3 z.o z.s z.m1 z.w1 z.d1 z.t1 z.m2 z.w2 z.d2 z.t2 l0.2.1 l0.2.2.1 l0.2.2.2
  rw [perawake 300000, e]
  simp only [Option.bind_some, if_true]
  rw [pspans (by omega) z hz]
  simp only [Option.bind_some]
  unfold zspans
  by_cases d : 1 ≤ a1 ∧ a1 ≤ 28
  · rw [if_pos d]
    by_cases c : Civ.zok z
    · rw [if_pos c]
      by_cases g : pgood l0.2.1 l0.2.2.1 n
      · rw [if_pos g]
        obtain ⟨g1, g2, g3, g4⟩ := id g
        obtain ⟨N, rfl⟩ : ∃ N : Nat, n = N := ⟨n.toNat, by omega⟩
        rw [Int.toNat_natCast]
        cases e : dls z l0.2.1 l0.2.2.1 N 0 with
        | none => rfl
        | some xs =>
          have h := SL.of (day := a1) c g d e
          have rl := Civ.runs_len (sP z l0.2.1 l0.2.2.1 a1) N
          simp only [if_true]
          rw [if_pos (by simp)]
          have t := tilesloop h z.o z.s z.m1 z.w1 z.d1 z.t1 z.m2 z.w2 z.d2 z.t2 l0.2.1 l0.2.2.1 (Civ.runs (sP z l0.2.1 l0.2.2.1 a1) N) 300001 [] 0 0 (by omega) rfl (by simp; omega) (Civ.runs_tiled _ _) (.inl rfl)
          rw [List.nil_append] at t
          rw [List.length_map]
          exact t
      · rw [if_neg g]; rfl
    · rw [if_neg c]; rfl
  · rw [if_neg d]; rfl
end Go.Proofs.Ytddkckpfmleffaa.PX
