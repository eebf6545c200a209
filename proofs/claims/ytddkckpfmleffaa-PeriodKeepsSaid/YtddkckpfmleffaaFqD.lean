/- Billing periods over slots: the program's Spans, by the runs of equal period numbers. -/
import Derived.Test.YtddkckpfmleffaaPXx21
import Derived.Test.YtddkckpfmleffaaPXx26
import Derived.Test.YtddkckpfmleffaaPXx27
import Derived.Test.YtddkckpfmleffaaFqB
import Derived.Test.YtddkckpfmleffaaSpn
namespace Go.Proofs.Ytddkckpfmleffaa.PX
open Go.RowKit Go.Proofs.YtddkckpfmleffaaW.PrintWords Go.Proofs.YtddkckpfmleffaaW.PrintLast Go.Proofs.YtddkckpfmleffaaW.PrintMore
set_option linter.unusedVariables false
set_option linter.unusedSimpArgs false
def spS (x : Int × Int × Int) : S74 := ⟨x.1, x.2.1⟩
def spD (day : Int) (x : Int × Int × Int) : S33 := ⟨(perOf x.2.2 day).1, (perOf x.2.2 day).2.1, (perOf x.2.2 day).2.2.1⟩
/-- the number of a slot's period -/
def sP (z : Civ.Zn) (st step day : Int) (i : Nat) : Int := pn day (sN z st step i)
/-- what the loops know of slots whose dates are all there -/
structure SL (z : Civ.Zn) (st step day : Int) (n : Nat) (xs : List S33) : Prop where
  c : Civ.zok z
  g : pgood st step n
  d : 1 ≤ day ∧ day ≤ 28
  l : xs.length = n
  r : ∀ i : Nat, i < n → rd_T33 xs (i : Int) = sD z st step i
  s : ∀ i : Nat, i < n → Civ.seen z (st + 60 * step * i)
theorem SL.of {z : Civ.Zn} {st step day : Int} {n : Nat} {xs : List S33} (c : Civ.zok z) (g : pgood st step n) (d : 1 ≤ day ∧ day ≤ 28) (h : dls z st step n 0 = some xs) : SL z st step day n xs := by
  obtain ⟨h1, h2⟩ := dls_some h
  refine ⟨c, g, d, h1, fun i hi => ?_, fun i hi => ?_⟩
  · have := (h2 i hi).1
    unfold rd_T33
    rw [Nat.zero_add] at this
    simp [List.getD_eq_getElem?_getD, this]
  · have := (h2 i hi).2
    rwa [Nat.zero_add] at this
section
variable {z : Civ.Zn} {st step day : Int} {n : Nat} {xs : List S33}
theorem SL.inr (h : SL z st step day n xs) {i : Nat} (hi : i < n) : Civ.inr (sN z st step i) := (h.s i hi).2
theorem SL.ok (h : SL z st step day n xs) {i : Nat} (hi : i < n) : Civ.ok (Civ.ofY (sN z st step i)) (Civ.ofM (sN z st step i)) (Civ.ofD (sN z st step i)) := (Civ.of_ok (h.inr hi).1 (h.inr hi).2).1
theorem SL.bd (h : SL z st step day n xs) {i : Nat} (hi : i < n) : 0 ≤ sP z st step day i ∧ sP z st step day i ≤ 119988 := perNo_bd (h.ok hi) day
theorem SL.step_le (h : SL z st step day n xs) (i : Nat) : st + 60 * step * (i : Int) ≤ st + 60 * step * ((i + 1 : Nat) : Int) ∧ st + 60 * step * ((i + 1 : Nat) : Int) ≤ st + 60 * step * (i : Int) + 3600 := by
  obtain ⟨g1, _⟩ := h.g
  obtain rfl | rfl | rfl := g1 <;> omega
theorem SL.next (h : SL z st step day n xs) {i : Nat} (hi : i + 1 < n) : sP z st step day (i + 1) = sP z st step day i ∨ sP z st step day (i + 1) = sP z st step day i + 1 := by
  obtain ⟨a, b⟩ := h.step_le i
  have m1 := mono_day h.c (h.s i (by omega)) (h.s (i + 1) hi) a
  have m2 := step_day h.c b
  have i1 := h.inr (i := i) (by omega)
  have i2 := h.inr hi
  unfold sP
  unfold sN at *
  by_cases e : (st + 60 * step * ((i + 1 : Nat) : Int) + 60 * Civ.off z (st + 60 * step * ((i + 1 : Nat) : Int))) / 86400 = (st + 60 * step * (i : Int) + 60 * Civ.off z (st + 60 * step * (i : Int))) / 86400
  · rw [e]; exact .inl rfl
  · have e2 : (st + 60 * step * ((i + 1 : Nat) : Int) + 60 * Civ.off z (st + 60 * step * ((i + 1 : Nat) : Int))) / 86400 = (st + 60 * step * (i : Int) + 60 * Civ.off z (st + 60 * step * (i : Int))) / 86400 + 1 := by omega
    rw [e2] at i2 ⊢
    exact pn_step h.d i1 i2
theorem SL.mono (h : SL z st step day n xs) (i k : Nat) (hi : i + k < n) : sP z st step day i ≤ sP z st step day (i + k) := by
  induction k with
  | zero => exact Int.le_refl _
  | succ k ih =>
    have a := ih (by omega)
    have b := h.next (i := i + k) (by omega)
    rw [← Nat.add_assoc]
    omega
end
/-- a day stands ahead of a period's first one just if its own period is an earlier one -/
theorem cmp_per {y m d day p : Int} (o : Civ.ok y m d) (hd : 1 ≤ day ∧ day ≤ 28) (h0 : 0 ≤ p) (h1 : p ≤ 119987) : Civ.cmp y m d ((p + 1 + 11) / 12) ((p + 1 + 11) % 12 + 1) day < 0 ↔ perNo y m d day ≤ p := by
  obtain ⟨a1, a2, a3, a4, a5, a6⟩ := o
  have c2 : perNo y m d day ≤ p ↔ y < (p + 1 + 11) / 12 ∨ (y = (p + 1 + 11) / 12 ∧ (m < (p + 1 + 11) % 12 + 1 ∨ (m = (p + 1 + 11) % 12 + 1 ∧ d < day))) := by unfold perNo; split <;> omega
  rw [c2]
  generalize (p + 1 + 11) / 12 = A at *
  generalize (p + 1 + 11) % 12 + 1 = B at *
  unfold Civ.cmp
  constructor
  · intro h
    split at h
    · omega
    split at h
    · omega
    split at h
    · omega
    split at h
    · omega
    split at h
    · omega
    split at h <;> omega
  · intro h
    repeat' split
    all_goals omega
theorem perOf_in {p day : Int} (h0 : 1 ≤ p) (h1 : p ≤ 119988) : perOf p day = ((p + 11) / 12, (p + 11) % 12 + 1, day, 0) := by unfold perOf; rw [if_neg (by omega)]
theorem perOf_out {p day : Int} (h1 : 119988 < p) : perOf p day = (0, 0, 0, 5) := by unfold perOf; rw [if_pos (by omega)]
section
variable {z : Civ.Zn} {st step day : Int} {n : Nat} {xs : List S33}
/-- the test at a slot: is it of the same period? -/
theorem spans_test (h : SL z st step day n xs) {s x : Nat} (hsx : s ≤ x) (hx : x < n) (k : Nat) (L : List S74) (M : List S33) (b1 b2 b3 : Int) :
    period_Spans.l1 (k + 1) day n xs L M x (perOf (sP z st step day s + 1) day).2.2.2 s b1 b2 b3 (perOf (sP z st step day s + 1) day).1 (perOf (sP z st step day s + 1) day).2.1 (perOf (sP z st step day s + 1) day).2.2.1 =
      period_Spans.j3 k day n xs L M x (perOf (sP z st step day s + 1) day).2.2.2 s (decide (sP z st step day x = sP z st step day s)) b1 b2 b3 (perOf (sP z st step day s + 1) day).1 (perOf (sP z st step day s + 1) day).2.1 (perOf (sP z st step day s + 1) day).2.2.1 := by
  have hs : s < n := by omega
  have bs := h.bd hs
  have bx := h.bd hx
  have mo := h.mono s (x - s) (by omega)
  rw [show s + (x - s) = x by omega] at mo
  rw [period_Spans.l1, if_pos (by omega)]
  by_cases c : sP z st step day s ≤ 119987
  · rw [perOf_in (by omega) (by omega)]
    simp only [if_true]
    rw [if_pos (by omega), if_pos (by rw [h.l]; omega), h.r x hx]
    unfold civil_Compare.f
    simp only [Option.bind_some]
    congr 1
    rw [decide_eq_decide]
    have cp := cmp_per (h.ok hx) h.d bs.1 c
    show Civ.cmp (Civ.ofY (sN z st step x)) (Civ.ofM (sN z st step x)) (Civ.ofD (sN z st step x)) _ _ _ < 0 ↔ _
    rw [cp]
    show sP z st step day x ≤ _ ↔ _
    omega
  · rw [perOf_out (by omega)]
    simp only []
    rw [if_neg (by omega), decide_eq_true (by omega)]
theorem spans_main (h : SL z st step day n xs) (m : Nat) :
    (∀ k s : Nat, 6 * m + 10 ≤ k → s + m = n → (s = n ∨ s = 0 ∨ sP z st step day (s - 1) ≠ sP z st step day s) →
      period_Spans.l0 k day n xs ((Civ.runs (sP z st step day) s).map spS) ((Civ.runs (sP z st step day) s).map (spD day)) s = some ((Civ.runs (sP z st step day) n).map spS, (Civ.runs (sP z st step day) n).map (spD day), 0)) ∧
    (∀ k s x : Nat, 6 * m + 12 ≤ k → s < x → x + m = n → (s = 0 ∨ sP z st step day (s - 1) ≠ sP z st step day s) → (∀ j, s ≤ j → j < x → sP z st step day j = sP z st step day s) →
      period_Spans.l1 k day n xs ((Civ.runs (sP z st step day) s).map spS) ((Civ.runs (sP z st step day) s).map (spD day)) x (perOf (sP z st step day s + 1) day).2.2.2 s (perOf (sP z st step day s) day).1 (perOf (sP z st step day s) day).2.1 (perOf (sP z st step day s) day).2.2.1 (perOf (sP z st step day s + 1) day).1 (perOf (sP z st step day s + 1) day).2.1 (perOf (sP z st step day s + 1) day).2.2.1 = some ((Civ.runs (sP z st step day) n).map spS, (Civ.runs (sP z st step day) n).map (spD day), 0)) := by
  have hn := h.g.2.2.1
  have A : ∀ m : Nat, (∀ m', m = m' + 1 → ∀ k s x : Nat, 6 * m' + 12 ≤ k → s < x → x + m' = n → (s = 0 ∨ sP z st step day (s - 1) ≠ sP z st step day s) → (∀ j, s ≤ j → j < x → sP z st step day j = sP z st step day s) →
      period_Spans.l1 k day n xs ((Civ.runs (sP z st step day) s).map spS) ((Civ.runs (sP z st step day) s).map (spD day)) x (perOf (sP z st step day s + 1) day).2.2.2 s (perOf (sP z st step day s) day).1 (perOf (sP z st step day s) day).2.1 (perOf (sP z st step day s) day).2.2.1 (perOf (sP z st step day s + 1) day).1 (perOf (sP z st step day s + 1) day).2.1 (perOf (sP z st step day s + 1) day).2.2.1 = some ((Civ.runs (sP z st step day) n).map spS, (Civ.runs (sP z st step day) n).map (spD day), 0)) →
      ∀ k s : Nat, 6 * m + 10 ≤ k → s + m = n → (s = n ∨ s = 0 ∨ sP z st step day (s - 1) ≠ sP z st step day s) →
      period_Spans.l0 k day n xs ((Civ.runs (sP z st step day) s).map spS) ((Civ.runs (sP z st step day) s).map (spD day)) s = some ((Civ.runs (sP z st step day) n).map spS, (Civ.runs (sP z st step day) n).map (spD day), 0) := by
    intro m ih k s hk hs hp
    obtain ⟨k, rfl⟩ : ∃ q, k = q + 4 := ⟨k - 4, by omega⟩
    rw [show k + 4 = (k + 3) + 1 from rfl, period_Spans.l0]
    cases m with
    | zero =>
      obtain rfl : s = n := by omega
      rw [if_neg (by omega)]
    | succ m =>
      have hsn : s < n := by omega
      have hp' : s = 0 ∨ sP z st step day (s - 1) ≠ sP z st step day s := by omega
      have bs := h.bd hsn
      rw [if_pos (by omega), if_pos (by omega), if_pos (by rw [h.l]; omega), h.r s hsn]
      have o := h.ok hsn
      have d := h.d
      rw [show k + 3 = (k + 2) + 1 from rfl]
      show ((period_Begin.f (k + 2 + 1) (Civ.ofY (sN z st step s)) (Civ.ofM (sN z st step s)) (Civ.ofD (sN z st step s)) day).bind _) = _
      rw [beginf (k + 2) _ _ _ _ (by omega)]
      simp only [Option.bind_some]
      show ((period_Next.f (k + 2 + 1) (Civ.ofY (sN z st step s)) (Civ.ofM (sN z st step s)) (Civ.ofD (sN z st step s)) day).bind _) = _
      rw [nextf (k + 2) _ _ _ _ (by omega)]
      simp only [Option.bind_some]
      unfold perB
      rw [if_pos d, if_pos d, if_pos o, if_pos o]
      have e0 : perNo (Civ.ofY (sN z st step s)) (Civ.ofM (sN z st step s)) (Civ.ofD (sN z st step s)) day = sP z st step day s := rfl
      rw [e0, Int.add_zero, spans_test h (Nat.le_refl _) hsn (k + 2), decide_eq_true rfl, show k + 2 = (k + 1) + 1 from rfl, period_Spans.j3, if_pos rfl, wr (n := (s : Int) + 1) (by omega) (by omega), show (s : Int) + 1 = ((s + 1 : Nat) : Int) by omega]
      exact ih m rfl (k + 1) s (s + 1) (by omega) (by omega) (by omega) hp' (fun j h1 h2 => by rw [show j = s by omega])
  induction m with
  | zero =>
    have a0 := A 0 (fun m' e => by omega)
    refine ⟨a0, fun k s x hk hsx hx hp hj => ?_⟩
    obtain ⟨k, rfl⟩ : ∃ q, k = q + 2 := ⟨k - 2, by omega⟩
    obtain rfl : x = n := by omega
    obtain ⟨c, rfl⟩ : ∃ c, x = s + c + 1 := ⟨x - s - 1, by omega⟩
    have rr := Civ.runs_run (sP z st step day) s hp c (fun j h1 h2 => hj j h1 (by omega))
    have rl := Civ.runs_len (sP z st step day) s
    rw [show k + 2 = (k + 1) + 1 from rfl, period_Spans.l1, if_neg (by omega), period_Spans.j3, if_neg (by simp)]
    simp only [Option.bind_some]
    rw [if_pos (by simp; omega), if_pos (by simp; omega)]
    have e1 : (Civ.runs (sP z st step day) s).map spS ++ [⟨(s : Int), ((s + c + 1 : Nat) : Int)⟩] = (Civ.runs (sP z st step day) (s + c + 1)).map spS := by
      rw [rr, List.map_append]
      simp [spS]
    have e2 : (Civ.runs (sP z st step day) s).map (spD day) ++ [⟨(perOf (sP z st step day s) day).1, (perOf (sP z st step day s) day).2.1, (perOf (sP z st step day s) day).2.2.1⟩] = (Civ.runs (sP z st step day) (s + c + 1)).map (spD day) := by
      rw [rr, List.map_append]
      rfl
    rw [e1, e2]
    exact a0 k (s + c + 1) (by omega) (by omega) (.inl rfl)
  | succ m ih =>
    have a1 := A (m + 1) (fun m' e => by obtain rfl : m' = m := by omega
                                         exact ih.2)
    refine ⟨a1, fun k s x hk hsx hx hp hj => ?_⟩
    obtain ⟨k, rfl⟩ : ∃ q, k = q + 2 := ⟨k - 2, by omega⟩
    rw [show k + 2 = (k + 1) + 1 from rfl, spans_test h (by omega) (by omega) (k + 1), period_Spans.j3]
    by_cases e : sP z st step day x = sP z st step day s
    · rw [decide_eq_true e, if_pos rfl, wr (n := (x : Int) + 1) (by omega) (by omega), show (x : Int) + 1 = ((x + 1 : Nat) : Int) by omega]
      exact ih.2 k s (x + 1) (by omega) (by omega) (by omega) hp (fun j h1 h2 => by
        by_cases q : j = x
        · rw [q]; exact e
        · exact hj j h1 (by omega))
    · rw [decide_eq_false e, if_neg (by simp)]
      simp only [Option.bind_some]
      obtain ⟨c, rfl⟩ : ∃ c, x = s + c + 1 := ⟨x - s - 1, by omega⟩
      have rr := Civ.runs_run (sP z st step day) s hp c (fun j h1 h2 => hj j h1 (by omega))
      have rl := Civ.runs_len (sP z st step day) s
      rw [if_pos (by simp; omega), if_pos (by simp; omega)]
      have e1 : (Civ.runs (sP z st step day) s).map spS ++ [⟨(s : Int), ((s + c + 1 : Nat) : Int)⟩] = (Civ.runs (sP z st step day) (s + c + 1)).map spS := by
        rw [rr, List.map_append]
        simp [spS]
      have e2 : (Civ.runs (sP z st step day) s).map (spD day) ++ [⟨(perOf (sP z st step day s) day).1, (perOf (sP z st step day s) day).2.1, (perOf (sP z st step day s) day).2.2.1⟩] = (Civ.runs (sP z st step day) (s + c + 1)).map (spD day) := by
        rw [rr, List.map_append]
        rfl
      rw [e1, e2]
      refine a1 k (s + c + 1) (by omega) (by omega) (.inr (.inr ?_))
      rw [show s + c + 1 - 1 = s + c by omega, hj (s + c) (by omega) (by omega)]
      exact fun q => e q.symm
end
/-- the spans of slots and their periods' first days -/
def zspans (z : Civ.Zn) (day st step n : Int) : List S74 × List S33 × Int :=
  if 1 ≤ day ∧ day ≤ 28 then if Civ.zok z then if pgood st step n then (match dls z st step n.toNat 0 with
    | some _ => ((Civ.runs (sP z st step day) n.toNat).map spS, (Civ.runs (sP z st step day) n.toNat).map (spD day), 0)
    | none => ([], [], 5)) else ([], [], 8) else ([], [], 8) else ([], [], 8)
theorem pspans {k : Nat} (hk : 300000 ≤ k) (z : Civ.Zn) (hz : zwf z) (day st step n : Int) : period_Spans.f k z.o z.s z.m1 z.w1 z.d1 z.t1 z.m2 z.w2 z.d2 z.t2 day st step n = some (zspans z day st step n) := by
  obtain ⟨k, rfl⟩ : ∃ q, k = q + 1 := ⟨k - 1, by omega⟩
  unfold period_Spans.f zspans
  by_cases c1 : day < 1
  · rw [if_pos c1, period_Spans.j0, if_pos rfl, if_neg (by omega)]
  rw [if_neg c1]
  by_cases c2 : day > 28
  · rw [decide_eq_true c2, period_Spans.j0, if_pos rfl, if_neg (by omega)]
  rw [decide_eq_false c2, period_Spans.j0, if_neg (by simp), if_pos (show 1 ≤ day ∧ day ≤ 28 by omega), pdates (by omega) z hz]
  simp only [Option.bind_some]
  unfold zdates
  by_cases c : Civ.zok z
  · rw [if_pos c, if_pos c]
    by_cases g : pgood st step n
    · rw [if_pos g, if_pos g]
      obtain ⟨g1, g2, g3, g4⟩ := id g
      obtain ⟨N, rfl⟩ : ∃ N : Nat, n = N := ⟨n.toNat, by omega⟩
      rw [Int.toNat_natCast]
      cases e : dls z st step N 0 with
      | none => simp [dlsR]
      | some xs =>
        simp only [dlsR, List.nil_append, if_true]
        have h := SL.of (day := day) c g ⟨by omega, by omega⟩ e
        have := (spans_main h N).1 k 0 (by omega) (by omega) (.inr (.inl rfl))
        exact this
    · rw [if_neg g, if_neg g]; simp
  · rw [if_neg c, if_neg c]; simp
end Go.Proofs.Ytddkckpfmleffaa.PX
