/- Billing periods over slots: the document's Spans, by the same runs. -/
import Derived.Test.YtddkckpfmleffaaPXx24
import Derived.Test.YtddkckpfmleffaaPXx25
import Derived.Test.YtddkckpfmleffaaPXx28
import Derived.Test.YtddkckpfmleffaaFqC
import Derived.Test.YtddkckpfmleffaaFqD
namespace Go.Proofs.Ytddkckpfmleffaa.PX
open Go.RowKit Go.Proofs.YtddkckpfmleffaaW.PrintWords Go.Proofs.YtddkckpfmleffaaW.PrintLast Go.Proofs.YtddkckpfmleffaaW.PrintMore
set_option linter.unusedVariables false
set_option linter.unusedSimpArgs false
theorem perOf_inj {p q day : Int} (h1 : 0 ≤ p ∧ p ≤ 119988) (h2 : 0 ≤ q ∧ q ≤ 119988) : ((perOf p day).1 == (perOf q day).1 && ((perOf p day).2.1 == (perOf q day).2.1 && (perOf p day).2.2.1 == (perOf q day).2.2.1)) = decide (p = q) := by
  by_cases e : p = q
  · subst e; simp
  · rw [decide_eq_false e]
    by_cases c1 : p = 0
    · subst c1
      rw [perOf_in (p := q) (by omega) (by omega), show perOf 0 day = (0, 0, 0, 5) by unfold perOf; rw [if_pos (by omega)]]
      simp only []
      rw [show ((0 : Int) == (q + 11) / 12) = false by simp; omega]; rfl
    · by_cases c2 : q = 0
      · subst c2
        rw [perOf_in (p := p) (by omega) (by omega), show perOf 0 day = (0, 0, 0, 5) by unfold perOf; rw [if_pos (by omega)]]
        simp only []
        rw [show ((p + 11) / 12 == (0 : Int)) = false by simp; omega]; rfl
      · rw [perOf_in (p := p) (by omega) (by omega), perOf_in (p := q) (by omega) (by omega)]
        simp only []
        by_cases a : (p + 11) / 12 = (q + 11) / 12
        · rw [show ((p + 11) % 12 + 1 == (q + 11) % 12 + 1) = false by simp; omega]; simp
        · rw [show ((p + 11) / 12 == (q + 11) / 12) = false by simp; omega]; rfl
theorem rdD_last (L : List S33) (x : S33) (i : Int) (hi : i = L.length) : rd_T33 (L ++ [x]) i = x := by
  subst hi
  unfold rd_T33
  simp
theorem rdS_last (L : List S74) (x : S74) (i : Int) (hi : i = L.length) : rd_T74 (L ++ [x]) i = x := by
  subst hi
  unfold rd_T74
  simp
section
variable {z : Civ.Zn} {st step day : Int} {n : Nat} {xs : List S33}
theorem refspans_main (h : SL z st step day n xs) (m : Nat) : ∀ k i : Nat, 3 * m + 20 ≤ k → i + m = n →
    pylonref13_Spans.l0 k day xs ((Civ.runs (sP z st step day) i).map spS) ((Civ.runs (sP z st step day) i).map (spD day)) n i = some ((Civ.runs (sP z st step day) n).map spS, (Civ.runs (sP z st step day) n).map (spD day), 0) := by
  have hn := h.g.2.2.1
  have d := h.d
  induction m with
  | zero =>
    intro k i hk hi
    obtain ⟨k, rfl⟩ : ∃ q, k = q + 1 := ⟨k - 1, by omega⟩
    obtain rfl : i = n := by omega
    rw [pylonref13_Spans.l0, if_neg (by omega)]
  | succ m ih =>
    intro k i hk hi
    obtain ⟨k, rfl⟩ : ∃ q, k = q + 20 := ⟨k - 20, by omega⟩
    have hin : i < n := by omega
    have bi := h.bd hin
    have o := h.ok hin
    rw [show k + 20 = (k + 19) + 1 from rfl, pylonref13_Spans.l0, if_pos (by omega), if_pos (by omega), if_pos (by rw [h.l]; omega), h.r i hin, show k + 19 = (k + 9) + 10 from rfl]
    show ((pylonref13_Begin.f (k + 9 + 10) (Civ.ofY (sN z st step i)) (Civ.ofM (sN z st step i)) (Civ.ofD (sN z st step i)) day).bind _) = _
    rw [refbeginf]
    unfold perB
    rw [if_pos d, if_pos o]
    have e0 : perNo (Civ.ofY (sN z st step i)) (Civ.ofM (sN z st step i)) (Civ.ofD (sN z st step i)) day = sP z st step day i := rfl
    rw [e0, Int.add_zero]
    simp only [Option.bind_some]
    have grow : (∀ x, (Civ.runs (sP z st step day) i).getLast? = some x → x.2.2 ≠ sP z st step day i) → pylonref13_Spans.j2 (k + 9 + 10) day xs ((Civ.runs (sP z st step day) i).map spS) ((Civ.runs (sP z st step day) i).map (spD day)) i n i false (perOf (sP z st step day i) day).1 (perOf (sP z st step day i) day).2.1 (perOf (sP z st step day i) day).2.2.1 = some ((Civ.runs (sP z st step day) n).map spS, (Civ.runs (sP z st step day) n).map (spD day), 0) := by
      intro hl
      have rl := Civ.runs_len (sP z st step day) i
      have rr : Civ.runs (sP z st step day) (i + 1) = Civ.runs (sP z st step day) i ++ [((i : Int), (i : Int) + 1, sP z st step day i)] := by
        rw [Civ.runs]
        cases e : (Civ.runs (sP z st step day) i).getLast? with
        | none => rw [List.getLast?_eq_none_iff.mp e]; rfl
        | some x => simp only []; rw [if_neg (hl x e)]
      rw [show k + 9 + 10 = (k + 18) + 1 from rfl, pylonref13_Spans.j2, if_neg (by simp), if_pos (by simp; omega), if_pos (by simp; omega), show k + 18 = (k + 17) + 1 from rfl, pylonref13_Spans.j3, wr (n := (i : Int) + 1) (by omega) (by omega)]
      have e1 : (Civ.runs (sP z st step day) i).map spS ++ [⟨(i : Int), (i : Int) + 1⟩] = (Civ.runs (sP z st step day) (i + 1)).map spS := by rw [rr, List.map_append]; rfl
      have e2 : (Civ.runs (sP z st step day) i).map (spD day) ++ [⟨(perOf (sP z st step day i) day).1, (perOf (sP z st step day i) day).2.1, (perOf (sP z st step day i) day).2.2.1⟩] = (Civ.runs (sP z st step day) (i + 1)).map (spD day) := by rw [rr, List.map_append]; rfl
      rw [e1, e2, show (i : Int) + 1 = ((i + 1 : Nat) : Int) by omega]
      exact ih (k + 17) (i + 1) (by omega) (by omega)
    cases i with
    | zero =>
      rw [if_neg (by simp [Civ.runs])]
      exact grow (fun x hx => by simp [Civ.runs] at hx)
    | succ i' =>
      obtain ⟨L, a, e, -, a0, an, -, -⟩ := Civ.runs_last (sP z st step day) i'
      have bi' := h.bd (i := i') (by omega)
      have rl := Civ.runs_len (sP z st step day) (i' + 1)
      rw [e] at rl
      simp only [List.length_append, List.length_cons, List.length_nil] at rl
      have lD : (((Civ.runs (sP z st step day) (i' + 1)).map (spD day)).length : Int) = L.length + 1 := by rw [e]; simp
      rw [if_pos (by rw [lD]; omega), lD, wr (n := (L.length : Int) + 1 - 1) (by omega) (by omega), if_pos (by omega), if_pos (by omega)]
      have rD : rd_T33 ((Civ.runs (sP z st step day) (i' + 1)).map (spD day)) ((L.length : Int) + 1 - 1) = spD day (a, (i' : Int) + 1, sP z st step day i') := by
        rw [e, List.map_append]
        exact rdD_last _ _ _ (by simp)
      rw [rD]
      have ij := perOf_inj (day := day) bi' bi
      rw [show (((spD day (a, (i' : Int) + 1, sP z st step day i')).f0 == (perOf (sP z st step day (i' + 1)) day).1) && (((spD day (a, (i' : Int) + 1, sP z st step day i')).f1 == (perOf (sP z st step day (i' + 1)) day).2.1) && ((spD day (a, (i' : Int) + 1, sP z st step day i')).f2 == (perOf (sP z st step day (i' + 1)) day).2.2.1))) = decide (sP z st step day i' = sP z st step day (i' + 1)) from ij]
      by_cases q : sP z st step day i' = sP z st step day (i' + 1)
      · have lS : (((Civ.runs (sP z st step day) (i' + 1)).map spS).length : Int) = L.length + 1 := by rw [e]; simp
        have rS : rd_T74 ((Civ.runs (sP z st step day) (i' + 1)).map spS) ((L.length : Int) + 1 - 1) = ⟨a, (i' : Int) + 1⟩ := by
          rw [e, List.map_append]
          exact rdS_last _ _ _ (by simp)
        rw [decide_eq_true q, show k + 9 + 10 = (k + 18) + 1 from rfl, pylonref13_Spans.j2, if_pos rfl, lS, wr (n := (L.length : Int) + 1 - 1) (by omega) (by omega), if_pos (by omega), if_pos (by omega), rS, wr (n := ((i' + 1 : Nat) : Int) + 1) (by omega) (by omega), show k + 18 = (k + 17) + 1 from rfl, pylonref13_Spans.j3, wr (n := ((i' + 1 : Nat) : Int) + 1) (by omega) (by omega)]
        have rr : Civ.runs (sP z st step day) (i' + 1 + 1) = L ++ [(a, ((i' + 1 : Nat) : Int) + 1, sP z st step day i')] := by
          rw [Civ.runs, e, List.getLast?_concat]
          simp only []
          rw [if_pos q, List.dropLast_concat]
        have e1 : ((Civ.runs (sP z st step day) (i' + 1)).map spS).set ((L.length : Int) + 1 - 1).toNat ⟨a, ((i' + 1 : Nat) : Int) + 1⟩ = (Civ.runs (sP z st step day) (i' + 1 + 1)).map spS := by
          rw [rr, e, List.map_append, List.map_append, show ((L.length : Int) + 1 - 1).toNat = (L.map spS).length by simp, List.set_append_right _ _ (Nat.le_refl _), Nat.sub_self]
          rfl
        have e2 : (Civ.runs (sP z st step day) (i' + 1)).map (spD day) = (Civ.runs (sP z st step day) (i' + 1 + 1)).map (spD day) := by
          rw [rr, e, List.map_append, List.map_append]
          rfl
        rw [e1, e2, show ((i' + 1 : Nat) : Int) + 1 = ((i' + 1 + 1 : Nat) : Int) by omega]
        exact ih (k + 17) (i' + 1 + 1) (by omega) (by omega)
      · rw [decide_eq_false q]
        refine grow (fun x hx => ?_)
        rw [e, List.getLast?_concat] at hx
        obtain rfl := Option.some.inj hx
        exact q
end
theorem refpspans {k : Nat} (hk : 300000 ≤ k) (z : Civ.Zn) (day st step n : Int) : pylonref13_Spans.f k z.o z.s z.m1 z.w1 z.d1 z.t1 z.m2 z.w2 z.d2 z.t2 day st step n = some (zspans z day st step n) := by
  obtain ⟨k, rfl⟩ : ∃ q, k = q + 1 := ⟨k - 1, by omega⟩
  unfold pylonref13_Spans.f zspans
  by_cases c1 : day < 1
  · rw [if_pos c1, pylonref13_Spans.j0, if_pos rfl, if_neg (by omega)]
  rw [if_neg c1]
  by_cases c2 : day > 28
  · rw [decide_eq_true c2, pylonref13_Spans.j0, if_pos rfl, if_neg (by omega)]
  rw [decide_eq_false c2, pylonref13_Spans.j0, if_neg (by simp), if_pos (show 1 ≤ day ∧ day ≤ 28 by omega), refpdates (by omega) z]
  simp only [Option.bind_some]
  unfold zdates
  by_cases c : Civ.zok z
  · rw [if_pos c, if_pos c]
    by_cases g : pgood st step n
    · rw [if_pos g, if_pos g]
      obtain ⟨g1, g2, g3, g4⟩ := id g
      obtain ⟨N, rfl⟩ : ∃ N : Nat, n = N := ⟨n.toNat, by omega⟩
      rw [Int.toNat_natCast]
      cases e : dls z st step N 0 with
      | none => simp [dlsR]
      | some xs =>
        simp only [dlsR, List.nil_append, if_true]
        have h := SL.of (day := day) c g ⟨by omega, by omega⟩ e
        have := refspans_main h N k 0 (by omega) (by omega)
        rw [h.l]
        exact this
    · rw [if_neg g, if_neg g]; simp
  · rw [if_neg c, if_neg c]; simp
theorem samespansl (l : List S74) (hl : l.length ≤ 1000000) (m : Nat) : ∀ (k i : Nat), m + 1 ≤ k → i + m = l.length → pylonref11_SameSpans.l0 k l l (l.length : Int) i = some true := by
  induction m with
  | zero =>
    intro k i hk hi
    obtain ⟨k, rfl⟩ : ∃ p, k = p + 1 := ⟨k - 1, by omega⟩
    rw [pylonref11_SameSpans.l0, if_neg (by omega)]
  | succ m ih =>
    intro k i hk hi
    obtain ⟨k, rfl⟩ : ∃ p, k = p + 1 := ⟨k - 1, by omega⟩
    rw [pylonref11_SameSpans.l0, if_pos (by omega), if_pos (by omega), if_pos (by omega), if_pos (by omega), if_neg (by simp), wr (n := (i : Int) + 1) (by omega) (by omega), show (i : Int) + 1 = ((i + 1 : Nat) : Int) by omega]
    exact ih k (i + 1) (by omega) (by omega)
theorem samespans {k : Nat} (l : List S74) (hl : l.length ≤ 1000000) (hk : l.length + 1 ≤ k) : pylonref11_SameSpans.f k l l = some true := by
  unfold pylonref11_SameSpans.f
  rw [if_pos rfl]
  exact samespansl l hl l.length k 0 hk (by omega)
theorem zspans_len (z : Civ.Zn) (day st step n : Int) : (zspans z day st step n).1.length ≤ 40000 ∧ (zspans z day st step n).2.1.length ≤ 40000 := by
  unfold zspans
  by_cases d : 1 ≤ day ∧ day ≤ 28
  · rw [if_pos d]
    by_cases c : Civ.zok z
    · rw [if_pos c]
      by_cases g : pgood st step n
      · rw [if_pos g]
        obtain ⟨g1, g2, g3, g4⟩ := g
        have := Civ.runs_len (sP z st step day) n.toNat
        cases e : dls z st step n.toNat 0 with
        | none => simp
        | some xs => simp; omega
      · rw [if_neg g]; simp
    · rw [if_neg c]; simp
  · rw [if_neg d]; simp
end Go.Proofs.Ytddkckpfmleffaa.PX
