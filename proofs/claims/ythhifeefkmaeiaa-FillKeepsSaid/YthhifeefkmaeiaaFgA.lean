/- A file's gaps: the document's answer and the program's are one. -/
import Derived.Test.YthhifeefkmaeiaaPXx3
import Derived.Test.YthhifeefkmaeiaaPXx5
import Derived.Test.YthhifeefkmaeiaaPXx6
import Derived.Test.YthhifeefkmaeiaaPXx7
import Derived.Test.YthhifeefkmaeiaaPXx8
import Derived.Test.YthhifeefkmaeiaaFfA
namespace Go.Proofs.Ythhifeefkmaeiaa.PX
open Go.RowKit Go.Proofs.YthhifeefkmaeiaaW.PrintWords Go.Proofs.YthhifeefkmaeiaaW.PrintLast Go.Proofs.YthhifeefkmaeiaaW.PrintMore
set_option linter.unusedVariables false
set_option linter.unusedSimpArgs false
theorem rgood_f (r : S45) : pylonref10_Good.f r.f0 r.f1 r.f2 r.f3 r.f4 = some (fill_Gaps.good r) := by
  unfold pylonref10_Good.f fill_Gaps.good
  by_cases c : r.f4 = 65 <;> simp [c]
theorem rnear_f (x : Int) : pylonref11_near.f x = some (fill_Gaps.nr x) := by
  unfold pylonref11_near.f fill_Gaps.nr
  by_cases c : x ≥ -10000000
  · rw [if_pos c]; congr 1; simp [show -10000000 ≤ x from c]
  · rw [if_neg c]; congr 1; simp [show ¬ -10000000 ≤ x from c]
section
variable {m : ByteArray} {st sp mu tu n : Int} {rs : List S45}
/-- in order: the program can lay the reads -/
theorem inord_l0 (hl : rs.length ≤ 9000000000000) (d : Nat) : ∀ (k i : Nat) (b : Int) (L : Nat → Option S45), i + d = rs.length → 2 * d < k → -1 ≤ b → (i = 0 → b = -1) → (0 < i → b = (rd_T45 rs ((i : Int) - 1)).f0 ) →
    pylonref11_InOrder.l0 k (rs.length : Int) i m st sp n mu tu rs = some (fill_Gaps.lay n (rs.drop i) b L).isSome := by
  induction d with
  | zero =>
    intro k i b L hi hk hb h0 h1
    obtain ⟨k, rfl⟩ : ∃ m, k = m + 1 := ⟨k - 1, by omega⟩
    rw [pylonref11_InOrder.l0, if_neg (by omega), List.drop_of_length_le (by omega)]
    rfl
  | succ d ih =>
    intro k i b L hi hk hb h0 h1
    obtain ⟨k, rfl⟩ : ∃ m, k = m + 2 := ⟨k - 2, by omega⟩
    rw [pylonref11_InOrder.l0, if_pos (by omega), if_pos (by omega), if_pos (by omega), fill_Gaps.drop rs i (by omega)]
    have hprev : 0 < i → wrap64 ((i : Int) - 1) = (i : Int) - 1 := fun _ => fw (by omega) (by omega)
    have hnx : (rd_T45 rs (((i + 1 : Nat) : Int) - 1)).f0 = (rd_T45 rs i).f0 := by rw [show (((i + 1 : Nat) : Int) - 1) = i by omega]
    have IH := fun L' (hb' : -1 ≤ (rd_T45 rs i).f0) => ih k (i + 1) (rd_T45 rs i).f0 L' (by omega) (by omega) hb' (by omega) (fun _ => hnx.symm)
    generalize rd_T45 rs i = r at *
    have jt : pylonref11_InOrder.j2 (k + 1) rs.length i true m st sp n mu tu rs r.f0 r.f1 r.f2 r.f3 r.f4 = some false := by rw [pylonref11_InOrder.j2, if_pos rfl]
    have jf : ¬ (r.f0 ≤ b ∨ n ≤ r.f0) → pylonref11_InOrder.j2 (k + 1) rs.length i false m st sp n mu tu rs r.f0 r.f1 r.f2 r.f3 r.f4 = some (fill_Gaps.lay n (r :: rs.drop (i + 1)) b L).isSome := fun hn => by
      rw [pylonref11_InOrder.j2, if_neg (by decide), rgood_f, fill_Gaps.lay, if_neg hn, fw (n := (i : Int) + 1) (by omega) (by omega), rnear_f, rnear_f, rnear_f]
      simp only [Option.bind_some]
      have e := show (((i + 1 : Nat) : Int)) = (i : Int) + 1 by omega
      rw [e] at IH
      cases fill_Gaps.good r with
      | false => simp only [Bool.false_eq_true, if_false]; exact IH _ (by omega)
      | true =>
        simp only [if_true]
        cases fill_Gaps.nr r.f1 with
        | false => rfl
        | true =>
          cases fill_Gaps.nr r.f2 with
          | false => rfl
          | true =>
            cases fill_Gaps.nr r.f3 with
            | false => rfl
            | true => simp only [if_true, Bool.and_self]; exact IH _ (by omega)
    by_cases c : r.f0 ≤ b ∨ n ≤ r.f0
    · rw [fill_Gaps.lay, if_pos c, Option.isSome_none]
      by_cases c1 : r.f0 < 0
      · rw [if_pos c1, jt]
      · by_cases c2 : r.f0 ≥ n
        · rw [if_neg c1, if_pos c2, jt]
        · have hi0 : 0 < i := by rcases Nat.eq_zero_or_pos i with e | e; (have := h0 e; omega); exact e
          rw [if_neg c1, if_neg c2, if_pos (by omega), hprev hi0, if_pos (by omega), if_pos (by omega), ← h1 hi0, decide_eq_true (show r.f0 ≤ b by omega), jt]
    · rw [if_neg (by omega), if_neg (by omega)]
      by_cases hi0 : (i : Int) > 0
      · rw [if_pos hi0, hprev (by omega), if_pos (by omega), if_pos (by omega), ← h1 (by omega), decide_eq_false (show ¬ r.f0 ≤ b by omega)]; exact jf c
      · rw [if_neg hi0]; exact jf c
theorem inord_f (hl : rs.length ≤ 9000000000000) {k : Nat} (hk : 2 * rs.length + 1 < k) : pylonref11_InOrder.f k m st sp n mu tu rs = some (fill_Gaps.slots n rs).isSome := by
  obtain ⟨k, rfl⟩ : ∃ m, k = m + 1 := ⟨k - 1, by omega⟩
  unfold pylonref11_InOrder.f fill_Gaps.slots
  by_cases c1 : n < 1
  · rw [if_pos c1, if_pos (Or.inl c1), pylonref11_InOrder.j0, if_pos rfl]; rfl
  · rw [if_neg c1]
    by_cases c2 : n > 40000
    · rw [if_pos (Or.inr c2), decide_eq_true c2, pylonref11_InOrder.j0, if_pos rfl]; rfl
    · rw [if_neg (by omega), decide_eq_false c2, pylonref11_InOrder.j0, if_neg (by decide)]
      have := inord_l0 (m := m) (st := st) (sp := sp) (mu := mu) (tu := tu) (n := n) hl rs.length k 0 (-1) (fun _ => none) (by omega) (by omega) (by omega) (fun _ => rfl) (by omega)
      rw [List.drop_zero] at this
      exact this
end
/-- the places of the good reads, slot by slot -/
def plc (rs : List S45) (N : Nat) (L : Nat → Option S45) (p : Nat → Int) : Prop := ∀ s, s < N → (L s = none → p s = -1) ∧ ∀ r, L s = some r → ∃ j : Nat, p s = j ∧ j < rs.length ∧ rd_T45 rs j = r
section
variable {m : ByteArray} {st sp mu tu : Int} {N : Nat} {rs : List S45}
theorem pres_l1 (hl : rs.length ≤ 9000000000000) (hN : N ≤ 40000) {L' : Nat → Option S45} (d : Nat) : ∀ (k i : Nat) (b : Int) (L : Nat → Option S45) (p : Nat → Int), i + d = rs.length → d < k → -1 ≤ b → fill_Gaps.lay N (rs.drop i) b L = some L' → plc rs N L p →
    ∃ p', plc rs N L' p' ∧ pylonref11_present.l1 k (fl p N) (rs.length : Int) i m st sp N mu tu rs = some (fl p' N) := by
  induction d with
  | zero =>
    intro k i b L p hi hk hb hL hp
    obtain ⟨k, rfl⟩ : ∃ m, k = m + 1 := ⟨k - 1, by omega⟩
    rw [List.drop_of_length_le (by omega), fill_Gaps.lay] at hL
    cases hL
    exact ⟨p, hp, by rw [pylonref11_present.l1, if_neg (by omega)]⟩
  | succ d ih =>
    intro k i b L p hi hk hb hL hp
    obtain ⟨k, rfl⟩ : ∃ m, k = m + 1 := ⟨k - 1, by omega⟩
    rw [fill_Gaps.drop rs i (by omega), fill_Gaps.lay] at hL
    rw [pylonref11_present.l1, if_pos (by omega), if_pos (by omega), if_pos (by omega), rgood_f, fw (n := (i : Int) + 1) (by omega) (by omega)]
    have hrd : ∃ r, rd_T45 rs i = r := ⟨_, rfl⟩
    obtain ⟨r, hr⟩ := hrd
    rw [hr] at hL ⊢
    by_cases c : r.f0 ≤ b ∨ (N : Int) ≤ r.f0
    · rw [if_pos c] at hL; cases hL
    · rw [if_neg c] at hL
      have IH := fun L p => ih k (i + 1) r.f0 L p (by omega) (by omega) (by omega)
      rw [show ((i + 1 : Nat) : Int) = (i : Int) + 1 by omega] at IH
      simp only [Option.bind_some]
      cases hg : fill_Gaps.good r with
      | false =>
        rw [hg] at hL
        simp only [Bool.false_eq_true, if_false] at hL ⊢
        exact IH L p hL hp
      | true =>
        rw [hg] at hL
        simp only [if_true] at hL ⊢
        split at hL
        case isFalse => cases hL
        case isTrue =>
          obtain ⟨q, hq⟩ : ∃ q : Nat, r.f0 = q := ⟨r.f0.toNat, by omega⟩
          rw [if_pos (by omega), if_pos (by rw [fl_len]; omega), hq, Int.toNat_natCast, fl_set (g := fun s => if s = q then (i : Int) else p s) (by simp) (fun t _ ht => by simp [ht])]
          refine IH _ _ hL fun s hs => ?_
          by_cases e : s = q
          · subst e
            simp only [hq, if_true]
            refine ⟨fun h => (by cases h), fun r' h => ?_⟩
            cases h
            exact ⟨i, rfl, by omega, hr⟩
          · have e2 : ¬ (s : Int) = r.f0 := by omega
            simp only [e, e2, if_false]
            exact hp s hs
theorem pres_l0 (hN : N ≤ 40000) {R : Option (List Int)} {k0 : Nat} (hR : ∀ k, k0 ≤ k → pylonref11_present.l1 k (fl (fun _ => -1) N) (rs.length : Int) 0 m st sp N mu tu rs = R) (d : Nat) :
    ∀ (k i : Nat), i + d = N → k0 + d < k → pylonref11_present.l0 k (fl (fun t => if t < i then -1 else 0) N) (N : Int) i m st sp N mu tu rs = R := by
  induction d with
  | zero =>
    intro k i hi hk
    obtain ⟨k, rfl⟩ : ∃ m, k = m + 1 := ⟨k - 1, by omega⟩
    rw [pylonref11_present.l0, if_neg (by omega), fl_congr (g := fun _ => -1) (fun t ht => by rw [if_pos (by omega)])]
    exact hR k (by omega)
  | succ d ih =>
    intro k i hi hk
    obtain ⟨k, rfl⟩ : ∃ m, k = m + 1 := ⟨k - 1, by omega⟩
    rw [pylonref11_present.l0, if_pos (by omega), if_pos (by omega), if_pos (by rw [fl_len]; omega), Int.toNat_natCast, fw (n := (i : Int) + 1) (by omega) (by omega), fl_set (g := fun t => if t < i + 1 then (-1 : Int) else 0) (by rw [if_pos (by omega)]) (fun t _ ht => by
      by_cases c : t < i
      · rw [if_pos c, if_pos (by omega)]
      · rw [if_neg c, if_neg (by omega)])]
    exact ih k (i + 1) (by omega) (by omega)
theorem pres_f (hl : rs.length ≤ 9000000000000) (hN : N ≤ 40000) {L : Nat → Option S45} (hL : fill_Gaps.lay N rs (-1) (fun _ => none) = some L) : ∃ p, plc rs N L p ∧ ∀ k, N + rs.length + 2 < k → pylonref11_present.f k m st sp N mu tu rs = some (fl p N) := by
  obtain ⟨p, hp, h⟩ := pres_l1 (m := m) (st := st) (sp := sp) (mu := mu) (tu := tu) hl hN rs.length (rs.length + 1) 0 (-1) (fun _ => none) (fun _ => -1) (by omega) (by omega) (by omega) (by rw [List.drop_zero]; exact hL) (fun s _ => ⟨fun _ => rfl, fun r h => by cases h⟩)
  refine ⟨p, hp, fun k hk => ?_⟩
  have hm : ∀ k, rs.length + 1 ≤ k → pylonref11_present.l1 k (fl (fun _ => -1) N) (rs.length : Int) 0 m st sp N mu tu rs = some (fl p N) := fun k hk => by
    obtain ⟨e, rfl⟩ : ∃ e, k = rs.length + 1 + e := ⟨k - (rs.length + 1), by omega⟩
    clear hk
    induction e with
    | zero => exact h
    | succ j ihj => exact (pylonref11_present.mono_l (rs.length + 1 + j)).2 _ _ _ _ _ _ _ _ _ _ _ ihj
  rw [pylonref11_present.f, if_pos (by omega), if_pos (by omega), Int.toNat_natCast, fl_zero]
  simp only [Option.bind_some]
  rw [fl_len]
  have := pres_l0 (m := m) (st := st) (sp := sp) (mu := mu) (tu := tu) (rs := rs) hN hm N k 0 (by omega) (by omega)
  simpa using this
end
section
variable {N : Nat} {rs : List S45} {L : Nat → Option S45} {p : Nat → Int}
theorem plc_neg (h : plc rs N L p) {s : Nat} (hs : s < N) : p s < 0 ↔ L s = none := by
  obtain ⟨h1, h2⟩ := h s hs
  cases hL : L s with
  | none => have := h1 hL; simp; omega
  | some r => obtain ⟨j, e, _⟩ := h2 r hL; simp; omega
theorem rgaps_l0 (hN : N ≤ 40000) (h : plc rs N L p) (d : Nat) : ∀ (k s : Nat) (outs : List S43), s + d = N → d < k → outs.length ≤ s →
    ((0 < s → L (s - 1) ≠ none) → pylonref11_Gaps.l0 k (fl p N) outs s = some (outs ++ fill_Gaps.hs L d s none, 0)) ∧
    (∀ o f, 0 < s → L (s - 1) = none → outs = o ++ [(⟨(f : Nat), (s : Nat)⟩ : S43)] → pylonref11_Gaps.l0 k (fl p N) outs s = some (o ++ fill_Gaps.hs L d s (some f), 0)) := by
  induction d with
  | zero =>
    intro k s outs hs hk ho
    obtain ⟨k, rfl⟩ : ∃ m, k = m + 1 := ⟨k - 1, by omega⟩
    have e : pylonref11_Gaps.l0 (k + 1) (fl p N) outs s = some (outs, 0) := by rw [pylonref11_Gaps.l0, if_neg (by rw [fl_len]; omega)]
    refine ⟨fun _ => ?_, fun o f _ _ h2 => ?_⟩
    · rw [e, fill_Gaps.hs, List.append_nil]
    · rw [e, fill_Gaps.hs, h2]
  | succ d ih =>
    intro k s outs hs hk ho
    obtain ⟨k, rfl⟩ : ∃ m, k = m + 1 := ⟨k - 1, by omega⟩
    have e1 : wrap64 ((s : Int) + 1) = ((s + 1 : Nat) : Int) := by rw [fw (by omega) (by omega)]; omega
    have hn := plc_neg h (show s < N by omega)
    have hpre : 0 < s → (wrap64 ((s : Int) - 1) = ((s - 1 : Nat) : Int) ∧ (p (s - 1) < 0 ↔ L (s - 1) = none)) := fun h0 => ⟨by rw [fw (by omega) (by omega)]; omega, plc_neg h (by omega)⟩
    have hadd : (outs ++ [(⟨s, ((s + 1 : Nat) : Int)⟩ : S43)]).length ≤ s + 1 := by simp; omega
    refine ⟨fun h1 => ?_, fun o f h0 h1 h2 => ?_⟩
    · rw [pylonref11_Gaps.l0, if_pos (by rw [fl_len]; omega), if_pos (by omega), fl_rd _ (by omega), e1]
      cases hL : L s with
      | some r =>
        rw [if_pos (by rw [hL] at hn; simp at hn; omega), (ih k (s + 1) outs (by omega) (by omega) (by omega)).1 (fun _ => by simp [hL]), fill_Gaps.hs, hL]; rfl
      | none =>
        rw [if_neg (by have := hn.2 hL; omega)]
        have T := (ih k (s + 1) _ (by omega) (by omega) hadd).2 outs s (by omega) (by simpa using hL) rfl
        rw [fill_Gaps.hs, hL]
        simp only [Option.isNone_none, if_true]
        rcases Nat.eq_zero_or_pos s with e0 | e0
        · rw [if_neg (by omega), if_pos (by omega)]; exact T
        · obtain ⟨q1, q2⟩ := hpre e0
          rw [if_pos (by omega), q1, if_pos (by omega), if_pos (by rw [fl_len]; omega), fl_rd _ (by omega), if_neg (by rw [q2]; exact h1 e0), if_pos (by omega)]
          exact T
    · have hlen : outs.length = o.length + 1 := by rw [h2]; simp
      rw [pylonref11_Gaps.l0, if_pos (by rw [fl_len]; omega), if_pos (by omega), fl_rd _ (by omega), e1]
      cases hL : L s with
      | some r =>
        rw [if_pos (by rw [hL] at hn; simp at hn; omega), (ih k (s + 1) outs (by omega) (by omega) (by omega)).1 (fun _ => by simp [hL]), fill_Gaps.hs, hL, h2]
        simp
      | none =>
        obtain ⟨q1, q2⟩ := hpre h0
        have hw : wrap64 ((outs.length : Int) - 1) = (o.length : Nat) := by rw [fw (by omega) (by omega)]; omega
        rw [if_neg (by have := hn.2 hL; omega), if_pos (by omega), q1, if_pos (by omega), if_pos (by rw [fl_len]; omega), fl_rd _ (by omega), if_pos (q2.2 h1), hw, if_pos (by omega), if_pos (by omega), Int.toNat_natCast]
        have hf : (rd_T43 outs (o.length : Nat)).f0 = f := by rw [h2]; simp [rd_T43]
        rw [hf, fill_Gaps.hs, hL]
        simp only [Option.isNone_none, if_true]
        refine (ih k (s + 1) _ (by omega) (by omega) (by rw [List.length_set]; omega)).2 o f (by omega) (by simpa using hL) ?_
        rw [h2]; simp
end
theorem samespans (xs : List S43) (hl : xs.length ≤ 9000000000000) (d : Nat) : ∀ (k : Nat) (i : Nat), i + d = xs.length → d < k → pylonref11_SameSpans.l0 k xs xs (xs.length : Int) i = some true := by
  induction d with
  | zero =>
    intro k i hi hk
    obtain ⟨k, rfl⟩ : ∃ m, k = m + 1 := ⟨k - 1, by omega⟩
    rw [pylonref11_SameSpans.l0, if_neg (by omega)]
  | succ d ih =>
    intro k i hi hk
    obtain ⟨k, rfl⟩ : ∃ m, k = m + 1 := ⟨k - 1, by omega⟩
    rw [pylonref11_SameSpans.l0, if_pos (by omega), if_pos (by omega), if_pos (by omega), if_pos (by omega), if_neg (by simp), fw (by omega) (by omega)]
    exact ih k (i + 1) (by omega) (by omega)
theorem samespans_f (xs : List S43) (hl : xs.length ≤ 9000000000000) {k : Nat} (hk : xs.length < k) : pylonref11_SameSpans.f k xs xs = some true := by
  rw [pylonref11_SameSpans.f, if_pos rfl]; exact samespans xs hl xs.length k 0 (by omega) hk
theorem hs_len (L : Nat → Option S45) (d : Nat) : ∀ s o, (fill_Gaps.hs L d s o).length ≤ d + 1 := by
  induction d with
  | zero => intro s o; cases o <;> simp [fill_Gaps.hs]
  | succ d ih => intro s o; cases o <;> rw [fill_Gaps.hs] <;> split <;> (first | (have := ih (s + 1) none; have := ih (s + 1) (some s); simp <;> omega) | (rename_i f _; have := ih (s + 1) none; have := ih (s + 1) (some f); simp <;> omega))
/-- the document's gaps are the program's -/
theorem rgaps_f {m : ByteArray} {st sp mu tu n : Int} {rs : List S45} (hl : rs.length ≤ 9000000000000) {k : Nat} (hk : 2 * rs.length + 40010 < k) : pylonref11_Gaps.f k m st sp n mu tu rs = fill_Gaps.f m st sp n mu tu rs := by
  rw [pylonref11_Gaps.f, inord_f hl (by omega), fill_Gaps.f]
  simp only [Option.bind_some]
  cases hs : fill_Gaps.slots n rs with
  | none => rfl
  | some L =>
    simp only [Option.isSome_some, if_true]
    unfold fill_Gaps.slots at hs
    split at hs
    case isTrue => cases hs
    case isFalse c =>
      obtain ⟨N, rfl⟩ : ∃ N : Nat, n = N := ⟨n.toNat, by omega⟩
      obtain ⟨p, hp, hf⟩ := pres_f (m := m) (st := st) (sp := sp) (mu := mu) (tu := tu) hl (by omega) hs
      rw [hf k (by omega)]
      simp only [Option.bind_some, Int.toNat_natCast]
      have := (rgaps_l0 (by omega) hp N k 0 [] (by omega) (by omega) (by simp)).1 (by omega)
      simpa using this
theorem fgaps_some (m : ByteArray) (st sp n mu tu : Int) (rs : List S45) : ∃ r, fill_Gaps.f m st sp n mu tu rs = some r ∧ r.1.length ≤ 40001 := by
  rw [fill_Gaps.f]
  cases hs : fill_Gaps.slots n rs with
  | none => exact ⟨_, rfl, by simp⟩
  | some L =>
    refine ⟨_, rfl, ?_⟩
    unfold fill_Gaps.slots at hs
    split at hs
    case isTrue => cases hs
    case isFalse c => have := hs_len L n.toNat 0 none; simp only; omega
theorem copyf {m : ByteArray} {st sp n mu tu : Int} {rs : List S45} (hl : rs.length * 40 ≤ 140737488351232) : pylonlaw11_copyFile.f m st sp n mu tu rs = some (m, st, sp, n, mu, tu, rs) := by
  rw [pylonlaw11_copyFile.f]
  simp only [Option.bind_some, List.nil_append, List.length_nil]
  rw [if_pos (by omega)]
end Go.Proofs.Ythhifeefkmaeiaa.PX
