/- A read for each slot: the document's answer and the program's are one. -/
import Derived.Test.YthhifeefkmaeiaaPXx3
import Derived.Test.YthhifeefkmaeiaaPXx8
import Derived.Test.YthhifeefkmaeiaaPXx9
import Derived.Test.YthhifeefkmaeiaaPXx10
import Derived.Test.YthhifeefkmaeiaaFgA
namespace Go.Proofs.Ythhifeefkmaeiaa.PX
open Go.RowKit Go.Proofs.YthhifeefkmaeiaaW.PrintWords Go.Proofs.YthhifeefkmaeiaaW.PrintLast Go.Proofs.YthhifeefkmaeiaaW.PrintMore
set_option linter.unusedVariables false
set_option linter.unusedSimpArgs false
/-- what a gap is: a run without reads, as long as can be -/
def gapok (L : Nat → Option S45) (N : Nat) (g : S43) : Prop := ∃ f t : Nat, g = ⟨f, t⟩ ∧ f < t ∧ t ≤ N ∧ (∀ u, f ≤ u → u < t → L u = none) ∧ (0 < f → L (f - 1) ≠ none) ∧ (t < N → L t ≠ none)
theorem hs_ok {L : Nat → Option S45} {N : Nat} (d : Nat) : ∀ s, s + d = N →
    ((0 < s → L (s - 1) ≠ none) → ∀ g ∈ fill_Gaps.hs L d s none, gapok L N g) ∧
    (∀ f : Nat, f < s → (∀ u, f ≤ u → u < s → L u = none) → (0 < f → L (f - 1) ≠ none) → ∀ g ∈ fill_Gaps.hs L d s (some f), gapok L N g) := by
  induction d with
  | zero =>
    intro s hs
    refine ⟨fun _ g hg => by simp [fill_Gaps.hs] at hg, fun f hf hu h0 g hg => ?_⟩
    rw [fill_Gaps.hs, List.mem_singleton] at hg
    subst hg
    exact ⟨f, s, rfl, hf, by omega, hu, h0, fun h => by omega⟩
  | succ d ih =>
    intro s hs
    obtain ⟨i1, i2⟩ := ih (s + 1) (by omega)
    cases hL : L s with
    | none =>
      refine ⟨fun h0 => ?_, fun f hf hu h0 => ?_⟩
      · rw [fill_Gaps.hs, hL]
        exact i2 s (by omega) (fun u h1 h2 => by rw [show u = s by omega]; exact hL) h0
      · rw [fill_Gaps.hs, hL]
        refine i2 f (by omega) (fun u h1 h2 => ?_) h0
        by_cases c : u = s
        · rw [c]; exact hL
        · exact hu u h1 (by omega)
    | some r =>
      have i1 := i1 (fun _ => by simp [hL])
      refine ⟨fun h0 => ?_, fun f hf hu h0 g hg => ?_⟩
      · rw [fill_Gaps.hs, hL]; exact i1
      · rw [fill_Gaps.hs, hL] at hg
        rcases List.mem_cons.1 hg with e | e
        · subst e
          exact ⟨f, s, rfl, hf, by omega, hu, h0, fun _ => by simp [hL]⟩
        · exact i1 g e
def rdok (r : S45) : Prop := (-10000000 ≤ r.f1 ∧ r.f1 ≤ 10000000) ∧ (-10000000 ≤ r.f2 ∧ r.f2 ≤ 10000000) ∧ (-10000000 ≤ r.f3 ∧ r.f3 ≤ 10000000)
theorem lay_ok {n : Int} {L' : Nat → Option S45} (rs : List S45) : ∀ (b : Int) (L : Nat → Option S45), (∀ (s : Nat) r, L s = some r → r.f0 = (s : Int) ∧ fill_Gaps.good r = true ∧ rdok r) → fill_Gaps.lay n rs b L = some L' → ∀ (s : Nat) r, L' s = some r → r.f0 = (s : Int) ∧ fill_Gaps.good r = true ∧ rdok r := by
  induction rs with
  | nil => intro b L h e; rw [fill_Gaps.lay] at e; cases e; exact h
  | cons r t ih =>
    intro b L h e
    rw [fill_Gaps.lay] at e
    split at e
    · cases e
    · split at e
      · rename_i hg
        split at e
        · rename_i hn
          refine ih _ _ (fun s q hq => ?_) e
          by_cases c : (s : Int) = r.f0
          · simp only [c, if_true, Option.some.injEq] at hq
            subst hq
            simp only [fill_Gaps.nr, Bool.and_eq_true, decide_eq_true_eq] at hn
            exact ⟨c.symm, hg, hn.1, hn.2.1, hn.2.2⟩
          · simp only [c, if_false] at hq; exact h s q hq
        · cases e
      · exact ih _ _ h e
section
variable {o o' : Nat → S45} {N : Nat}
theorem row_len (o : Nat → S45) (N : Nat) : (fill_Fill.row o N).length = N := by simp [fill_Fill.row]
theorem row_rd {s : Nat} (hs : s < N) : rd_T45 (fill_Fill.row o N) (s : Nat) = o s := by simp [fill_Fill.row, rd_T45, hs]
theorem row_congr (h : ∀ t, t < N → o t = o' t) : fill_Fill.row o N = fill_Fill.row o' N := List.map_congr_left fun t ht => h t (List.mem_range.1 ht)
theorem row_set {k : Nat} {v : S45} (hk : o' k = v) (ho : ∀ t, t < N → t ≠ k → o' t = o t) : (fill_Fill.row o N).set k v = fill_Fill.row o' N := by
  apply List.ext_getElem?
  intro t
  rw [List.getElem?_set]
  by_cases c : k = t
  · subst c
    by_cases c2 : k < N
    · simp [fill_Fill.row, c2, hk]
    · simp [fill_Fill.row, c2]
  · simp only [c, if_false]
    by_cases c2 : t < N
    · simp only [fill_Fill.row, List.getElem?_map, List.getElem?_range c2, Option.map_some]; rw [ho t c2 (fun e => c e.symm)]
    · simp [fill_Fill.row, c2]
theorem row_z : List.replicate N z45 = fill_Fill.row (fun _ => z45) N := by simp [fill_Fill.row, List.map_const']
end
theorem ln_ok {a b : Int} {n : Nat} (ha : -10000000 ≤ a ∧ a ≤ 10000000) (hb : -10000000 ≤ b ∧ b ≤ 10000000) (hn : n ≤ 40000) : fill_Line.f a b n = some (fill_Fill.ln a b n, 0) ∧ (fill_Fill.ln a b n).length = n := by
  unfold fill_Fill.ln fill_Line.f
  rw [if_neg (by omega)]
  simp
theorem z_ok : rdok z45 := by unfold rdok z45; decide
section
variable {m : ByteArray} {st sp mu tu most : Int} {N : Nat} {rs : List S45} {L : Nat → Option S45} {p : Nat → Int} {gs : List S43} {R : Option (List S45 × Int)}
theorem rfill_l0 (hN : N ≤ 40000) (hp : plc rs N L p) {k0 : Nat} (hR : ∀ k, k0 ≤ k → pylonref11_Fill.l1 k most gs (fl p N) (fill_Fill.row (fun s => (L s).getD z45) N) (gs.length : Int) 0 m st sp N mu tu rs = R) (d : Nat) :
    ∀ (k i : Nat), i + d = N → k0 + d < k → pylonref11_Fill.l0 k most gs (fl p N) (fill_Fill.row (fun s => if s < i then (L s).getD z45 else z45) N) (N : Int) i m st sp N mu tu rs = R := by
  induction d with
  | zero =>
    intro k i hi hk
    obtain ⟨k, rfl⟩ : ∃ m, k = m + 1 := ⟨k - 1, by omega⟩
    rw [pylonref11_Fill.l0, if_neg (by omega), row_congr (o' := fun s => (L s).getD z45) (fun t ht => by rw [if_pos (by omega)])]
    exact hR k (by omega)
  | succ d ih =>
    intro k i hi hk
    obtain ⟨k, rfl⟩ : ∃ m, k = m + 1 := ⟨k - 1, by omega⟩
    have IH := ih k (i + 1) (by omega) (by omega)
    rw [show ((i + 1 : Nat) : Int) = (i : Int) + 1 by omega] at IH
    obtain ⟨h1, h2⟩ := hp i (by omega)
    rw [pylonref11_Fill.l0, if_pos (by omega), if_pos (by omega), if_pos (by rw [fl_len]; omega), fl_rd _ (by omega), fw (n := (i : Int) + 1) (by omega) (by omega)]
    cases hL : L i with
    | none =>
      rw [if_neg (by have := h1 hL; omega), row_congr (o' := fun s => if s < i + 1 then (L s).getD z45 else z45) (fun t ht => ?_)]
      · exact IH
      · by_cases c : t < i
        · rw [if_pos c, if_pos (by omega)]
        · rw [if_neg c]
          by_cases c2 : t = i
          · rw [if_pos (by omega), c2, hL]; rfl
          · rw [if_neg (by omega)]
    | some r =>
      obtain ⟨j, e, hj, hr⟩ := h2 r hL
      rw [e, if_pos (by omega), if_pos (by omega), if_pos (by omega), if_pos (by rw [row_len]; omega), hr, Int.toNat_natCast, row_set (o' := fun s => if s < i + 1 then (L s).getD z45 else z45) (by rw [if_pos (by omega), hL]; rfl) (fun t ht htn => ?_)]
      · exact IH
      · by_cases c : t < i
        · rw [if_pos c, if_pos (by omega)]
        · rw [if_neg c, if_neg (by omega)]
theorem rfill_l2 (hN : N ≤ 40000) {a b : S45} {f t i : Nat} (hft : f < t) (htN : t ≤ N) (ha : rdok a) (hb : rdok b) {o : Nat → S45} {k0 : Nat}
    (hi : i < 9000000000000) (hR : ∀ k, k0 ≤ k → pylonref11_Fill.l1 k most gs (fl p N) (fill_Fill.row (fun s => if (f : Int) ≤ s ∧ (s : Int) < t then fill_Fill.el a b f t s else o s) N) (gs.length : Int) ((i : Int) + 1) m st sp N mu tu rs = R) (d : Nat) :
    ∀ (k u : Nat), u + d = t - f → k0 + d < k → pylonref11_Fill.l2 k most gs (fl p N) (fill_Fill.row (fun s => if (f : Int) ≤ s ∧ (s : Int) < f + u then fill_Fill.el a b f t s else o s) N) (fill_Fill.ln a.f1 b.f1 ((t : Int) - f)) (fill_Fill.ln a.f2 b.f2 ((t : Int) - f)) (fill_Fill.ln a.f3 b.f3 ((t : Int) - f)) (gs.length : Int) i ((t : Int) - f) u m st sp N mu tu rs f t = R := by
  have en : (t : Int) - f = ((t - f : Nat) : Int) := by omega
  have l1 : (fill_Fill.ln a.f1 b.f1 ((t : Int) - f)).length = t - f := by rw [en]; exact (ln_ok ha.1 hb.1 (by omega)).2
  have l2 : (fill_Fill.ln a.f2 b.f2 ((t : Int) - f)).length = t - f := by rw [en]; exact (ln_ok ha.2.1 hb.2.1 (by omega)).2
  have l3 : (fill_Fill.ln a.f3 b.f3 ((t : Int) - f)).length = t - f := by rw [en]; exact (ln_ok ha.2.2 hb.2.2 (by omega)).2
  induction d with
  | zero =>
    intro k u hu hk
    obtain ⟨k, rfl⟩ : ∃ m, k = m + 1 := ⟨k - 1, by omega⟩
    rw [pylonref11_Fill.l2, if_neg (by omega), fw (n := (i : Int) + 1) (by omega) (by omega), row_congr (o' := fun s => if (f : Int) ≤ s ∧ (s : Int) < t then fill_Fill.el a b f t s else o s) (fun s hs => by
      by_cases c : (f : Int) ≤ s ∧ (s : Int) < t
      · rw [if_pos c, if_pos (by omega)]
      · rw [if_neg c, if_neg (by omega)])]
    exact hR k (by omega)
  | succ d ih =>
    intro k u hu hk
    obtain ⟨k, rfl⟩ : ∃ m, k = m + 1 := ⟨k - 1, by omega⟩
    have IH := ih k (u + 1) (by omega) (by omega)
    rw [pylonref11_Fill.l2, if_pos (by omega), if_pos (by omega), if_pos (by rw [l1]; omega), if_pos (by rw [l2]; omega), if_pos (by rw [l3]; omega), fw (n := (f : Int) + u) (by omega) (by omega), if_pos (by omega), if_pos (by rw [row_len]; omega), fw (n := (u : Int) + 1) (by omega) (by omega), show ((f : Int) + u).toNat = f + u by omega, row_set (o' := fun s => if (f : Int) ≤ s ∧ (s : Int) < f + (u + 1 : Nat) then fill_Fill.el a b f t s else o s) ?_ (fun s hs hne => ?_)]
    · exact IH
    · rw [if_pos (by omega), fill_Fill.el, show ((f + u : Nat) : Int) = (f : Int) + u by omega, show (f : Int) + u - f = u by omega]
    · by_cases c : (f : Int) ≤ s ∧ (s : Int) < f + u
      · rw [if_pos c, if_pos (by omega)]
      · rw [if_neg c, if_neg (by omega)]
theorem rfill_j6 (hN : N ≤ 40000) {a b : S45} {f t i : Nat} (hft : f < t) (htN : t ≤ N) (ha : rdok a) (hb : rdok b) {o : Nat → S45} {k0 : Nat} (hk0 : 2000000000 ≤ k0)
    (hi : i < 9000000000000) (hR : ∀ k, k0 ≤ k → pylonref11_Fill.l1 k most gs (fl p N) (fill_Fill.row (fun s => if (f : Int) ≤ s ∧ (s : Int) < t then fill_Fill.el a b f t s else o s) N) (gs.length : Int) ((i : Int) + 1) m st sp N mu tu rs = R) {k : Nat} (hk : k0 + 40010 < k) :
    pylonref11_Fill.j6 k most gs (fl p N) (fill_Fill.row o N) (gs.length : Int) i m st sp N mu tu rs f t a.f0 a.f1 a.f2 a.f3 a.f4 b.f0 b.f1 b.f2 b.f3 b.f4 = R := by
  obtain ⟨k, rfl⟩ : ∃ m, k = m + 1 := ⟨k - 1, by omega⟩
  have en : (t : Int) - f = ((t - f : Nat) : Int) := by omega
  have l1 := ln_ok ha.1 hb.1 (show t - f ≤ 40000 by omega)
  have l2 := ln_ok ha.2.1 hb.2.1 (show t - f ≤ 40000 by omega)
  have l3 := ln_ok ha.2.2 hb.2.2 (show t - f ≤ 40000 by omega)
  rw [← en] at l1 l2 l3
  rw [pylonref11_Fill.j6, fw (n := (t : Int) - f) (by omega) (by omega), rline _ _ _ (by omega), rline _ _ _ (by omega), rline _ _ _ (by omega), l1.1, l2.1, l3.1]
  simp only [Option.bind_some]
  rw [show ((fill_Fill.ln a.f1 b.f1 ((t : Int) - f)).length : Int) = (t : Int) - f by rw [l1.2]; omega]
  have := rfill_l2 (m := m) (st := st) (sp := sp) (mu := mu) (tu := tu) (rs := rs) (most := most) (gs := gs) (p := p) hN hft htN ha hb hi hR (t - f) k 0 (by omega) (by omega)
  rw [row_congr (o' := o) (fun s hs => by rw [if_neg (by omega)])] at this
  exact this
set_option maxRecDepth 20000 in
theorem rfill_l1 (hN : N ≤ 40000) (hp : plc rs N L p) (hrl : rs.length ≤ 9000000000000) (hL : ∀ (s : Nat) r, L s = some r → rdok r) (hgs : ∀ g ∈ gs, gapok L N g) (hlen : gs.length ≤ 50000) {K0 : Nat} (hK0 : 2000000000 ≤ K0) (d : Nat) : ∀ (k i : Nat) (o : Nat → S45), i + d = gs.length → K0 + d * 40020 < k → (∀ (s : Nat) r, L s = some r → o s = r) →
    pylonref11_Fill.l1 k most gs (fl p N) (fill_Fill.row o N) (gs.length : Int) i m st sp N mu tu rs = match fill_Fill.fold L N most (gs.drop i) o with
      | none => some ([], 4)
      | some o' => some (fill_Fill.row o' N, 0) := by
  induction d with
  | zero =>
    intro k i o hi hk ho
    obtain ⟨k, rfl⟩ : ∃ m, k = m + 1 := ⟨k - 1, by omega⟩
    rw [pylonref11_Fill.l1, if_neg (by omega), List.drop_of_length_le (by omega)]
    rfl
  | succ d ih =>
    intro k i o hi hk ho
    obtain ⟨k, rfl⟩ : ∃ m, k = m + 4 := ⟨k - 4, by omega⟩
    have hi2 : i < gs.length := by omega
    obtain ⟨f, t, hg, hft, htN, hno, h0, h1⟩ := hgs gs[i] (List.getElem_mem hi2)
    have hrd : rd_T43 gs (i : Nat) = ⟨(f : Int), (t : Int)⟩ := by simp [rd_T43, hi2, hg]
    have hdr : gs.drop i = (⟨(f : Int), (t : Int)⟩ : S43) :: gs.drop (i + 1) := by rw [List.drop_eq_getElem_cons hi2, hg]
    rw [hdr, fill_Fill.fold, pylonref11_Fill.l1, if_pos (by omega), if_pos (by omega), if_pos (by omega), hrd]
    simp only []
    rw [fw (n := (t : Int) - f) (by omega) (by omega)]
    by_cases hm : most < (t : Int) - f
    · rw [if_pos hm, if_pos hm]
    · rw [if_neg hm, if_neg hm]
      obtain ⟨K1, hK1⟩ : ∃ K1, K1 = K0 + d * 40020 := ⟨_, rfl⟩
      have hR : ∀ k, K1 + 1 ≤ k → pylonref11_Fill.l1 k most gs (fl p N) (fill_Fill.row (fill_Fill.gap L N o ⟨(f : Int), (t : Int)⟩) N) (gs.length : Int) ((i : Int) + 1) m st sp N mu tu rs = (match fill_Fill.fold L N most (gs.drop (i + 1)) (fill_Fill.gap L N o ⟨(f : Int), (t : Int)⟩) with | none => some ([], 4) | some o' => some (fill_Fill.row o' N, 0)) := fun k hk => by
        have := ih k (i + 1) (fill_Fill.gap L N o ⟨(f : Int), (t : Int)⟩) (by omega) (by rw [← hK1]; exact hk) (fun s r hs => by
          unfold fill_Fill.gap
          rw [if_neg (fun h => by obtain ⟨q1, q2⟩ : (f : Int) ≤ s ∧ (s : Int) < t := h; have := hno s (by omega) (by omega); rw [hs] at this; cases this)]
          exact ho s r hs)
        rw [show ((i + 1 : Nat) : Int) = (i : Int) + 1 by omega] at this
        exact this
      have hE : ∀ a b, fill_Fill.or (fill_Fill.na L f) (fill_Fill.nb L N t) = a → fill_Fill.or (fill_Fill.nb L N t) (fill_Fill.na L f) = b → fill_Fill.gap L N o ⟨(f : Int), (t : Int)⟩ = fun s : Nat => if (f : Int) ≤ s ∧ (s : Int) < t then fill_Fill.el a b f t s else o s := fun a b ea eb => by subst ea; subst eb; rfl
      have hr0 : 0 < f → ∃ r, L (f - 1) = some r := fun h => by
        cases e : L (f - 1) with
        | none => exact absurd e (h0 h)
        | some r => exact ⟨r, rfl⟩
      have hr1 : t < N → ∃ r, L t = some r := fun h => by
        cases e : L t with
        | none => exact absurd e (h1 h)
        | some r => exact ⟨r, rfl⟩
      by_cases cf : 0 < f
      · obtain ⟨ra, hra⟩ := hr0 cf
        have na : fill_Fill.na L f = some ra := by unfold fill_Fill.na; rw [if_neg (by omega), show ((f : Int) - 1).toNat = f - 1 by omega, hra]
        rw [if_pos (by omega), fw (n := (f : Int) - 1) (by omega) (by omega), show (f : Int) - 1 = ((f - 1 : Nat) : Int) by omega, if_pos (by omega), if_pos (by rw [row_len]; omega), row_rd (by omega), ho _ _ hra, pylonref11_Fill.j3]
        by_cases ct : t < N
        · obtain ⟨rb, hrb⟩ := hr1 ct
          have nb : fill_Fill.nb L N t = some rb := by unfold fill_Fill.nb; rw [if_pos (by omega), Int.toNat_natCast, hrb]
          obtain ⟨j, e, hj, hr⟩ := (hp t ct).2 rb hrb
          rw [if_pos (by omega), if_pos (by omega), if_pos (by rw [fl_len]; omega), fl_rd _ ct, e, if_pos (by omega), if_pos (by omega), hr, pylonref11_Fill.j4, if_neg (by omega), pylonref11_Fill.j5, if_neg (by omega)]
          rw [hE ra rb (by rw [na]; rfl) (by rw [nb]; rfl)] at hR ⊢
          exact rfill_j6 (k0 := K1 + 1) hN hft htN (hL _ _ hra) (hL _ _ hrb) (by omega) (by omega) hR (by omega)
        · have nb : fill_Fill.nb L N t = none := by unfold fill_Fill.nb; rw [if_neg (by omega)]
          rw [if_neg (by omega), pylonref11_Fill.j4, if_neg (by omega), pylonref11_Fill.j5, if_pos (by omega)]
          rw [hE ra ra (by rw [na]; rfl) (by rw [nb, na]; rfl)] at hR ⊢
          exact rfill_j6 (k0 := K1 + 1) hN hft htN (hL _ _ hra) (hL _ _ hra) (by omega) (by omega) hR (by omega)
      · have na : fill_Fill.na L f = none := by unfold fill_Fill.na; rw [if_pos (by omega)]
        rw [if_neg (by omega), pylonref11_Fill.j3]
        by_cases ct : t < N
        · obtain ⟨rb, hrb⟩ := hr1 ct
          have nb : fill_Fill.nb L N t = some rb := by unfold fill_Fill.nb; rw [if_pos (by omega), Int.toNat_natCast, hrb]
          obtain ⟨j, e, hj, hr⟩ := (hp t ct).2 rb hrb
          rw [if_pos (by omega), if_pos (by omega), if_pos (by rw [fl_len]; omega), fl_rd _ ct, e, if_pos (by omega), if_pos (by omega), hr, pylonref11_Fill.j4, if_pos (by omega), pylonref11_Fill.j5, if_neg (by omega)]
          rw [hE rb rb (by rw [na, nb]; rfl) (by rw [nb]; rfl)] at hR ⊢
          exact rfill_j6 (k0 := K1 + 1) hN hft htN (hL _ _ hrb) (hL _ _ hrb) (by omega) (by omega) hR (by omega)
        · have nb : fill_Fill.nb L N t = none := by unfold fill_Fill.nb; rw [if_neg (by omega)]
          rw [if_neg (by omega), pylonref11_Fill.j4, if_pos (by omega), pylonref11_Fill.j5, if_pos (by omega)]
          rw [hE z45 z45 (by rw [na, nb]; rfl) (by rw [na, nb]; rfl)] at hR ⊢
          exact rfill_j6 (k0 := K1 + 1) (a := z45) (b := z45) hN hft htN z_ok z_ok (by omega) (by omega) hR (by omega)
end
/-- the document's answer is the program's -/
theorem rfill_f {m : ByteArray} {st sp mu tu n most : Int} {rs : List S45} (hl : rs.length ≤ 9000000000000) {k K0 : Nat} (hK0 : 2000000000 ≤ K0) (hk : K0 + 2 * rs.length + 2100000000 < k) : pylonref11_Fill.f k m st sp n mu tu rs most = fill_Fill.f m st sp n mu tu rs most := by
  rw [pylonref11_Fill.f, rgaps_f hl (by omega), fill_Gaps.f, fill_Fill.f]
  cases hs : fill_Gaps.slots n rs with
  | none => rfl
  | some L =>
    unfold fill_Gaps.slots at hs
    split at hs
    case isTrue => cases hs
    case isFalse c =>
      obtain ⟨N, rfl⟩ : ∃ N : Nat, n = N := ⟨n.toNat, by omega⟩
      obtain ⟨p, hp, hf⟩ := pres_f (m := m) (st := st) (sp := sp) (mu := mu) (tu := tu) hl (by omega) hs
      have hok := lay_ok rs _ _ (fun s r h => by cases h) hs
      have hg := (hs_ok (L := L) (N := N) N 0 (by omega)).1 (by omega)
      have hgl := hs_len L N 0 none
      obtain ⟨k, rfl⟩ : ∃ m, k = m + 1 := ⟨k - 1, by omega⟩
      simp only [Option.bind_some, Int.toNat_natCast, if_true]
      generalize fill_Gaps.hs L N 0 none = gs at *
      have hz : ∀ (s : Nat) r, L s = some r → (L s).getD z45 = r := fun s r h => by rw [h]; rfl
      have M : pylonref11_Fill.j0 (k + 1) most gs false m st sp N mu tu rs = match fill_Fill.fold L N most gs (fun s => (L s).getD z45) with
          | none => some ([], 4)
          | some o => some (fill_Fill.row o N, 0) := by
        rw [pylonref11_Fill.j0, if_neg (by decide), hf k (by omega)]
        simp only [Option.bind_some, Int.toNat_natCast]
        rw [if_pos (by omega), if_pos (by omega), fl_len, row_z]
        have T := rfill_l0 (m := m) (st := st) (sp := sp) (mu := mu) (tu := tu) (rs := rs) (most := most) (gs := gs) (show N ≤ 40000 by omega) hp (k0 := K0 + gs.length * 40020 + 1) (fun k hk => rfill_l1 (by omega) hp hl (fun s r h => (hok s r h).2.2) hg (by omega) hK0 gs.length k 0 (fun s => (L s).getD z45) (by omega) (by omega) hz) N k 0 (by omega) (by omega)
        rw [row_congr (o' := fun _ => z45) (fun s hs => by rw [if_neg (by omega)])] at T
        rw [List.drop_zero] at T
        exact T
      unfold fill_Fill.open_
      by_cases c1 : gs.length = 1
      · rw [if_pos (by omega), if_pos (by omega)]
        obtain ⟨g, rfl⟩ : ∃ g, gs = [g] := List.length_eq_one_iff.1 c1
        obtain ⟨f, t, rfl, hft, htN, _⟩ := hg g (by simp)
        have hrd : rd_T43 [(⟨(f : Int), (t : Int)⟩ : S43)] 0 = ⟨f, t⟩ := rfl
        rw [hrd]
        simp only []
        rw [fw (n := (t : Int) - f) (by omega) (by omega)]
        by_cases c2 : (t : Int) - f = N
        · rw [show (((t : Int) - f) == (N : Int)) = true by simpa using c2, show (([(⟨(f : Int), (t : Int)⟩ : S43)].length == 1) && (((f : Int) == 0) && ((t : Int) == (N : Int)))) = true by simp; omega, pylonref11_Fill.j0, if_pos rfl, if_pos rfl]
        · rw [show (((t : Int) - f) == (N : Int)) = false by simpa using c2, show (([(⟨(f : Int), (t : Int)⟩ : S43)].length == 1) && (((f : Int) == 0) && ((t : Int) == (N : Int)))) = false by simp; omega, M, if_neg (by decide)]
          rfl
      · rw [if_neg (by omega), show (gs.length == 1) = false by simpa using c1, Bool.false_and, M, if_neg (by decide)]
        rfl
end Go.Proofs.Ythhifeefkmaeiaa.PX
