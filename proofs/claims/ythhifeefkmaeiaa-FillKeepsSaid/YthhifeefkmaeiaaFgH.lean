/- What is filled: every slot's read has its slot and near numbers; where it comes from. -/
import Derived.Test.YthhifeefkmaeiaaPXx3
import Derived.Test.YthhifeefkmaeiaaPXx10
import Derived.Test.YthhifeefkmaeiaaPXx11
import Derived.Test.YthhifeefkmaeiaaFgB
import Derived.Test.YthhifeefkmaeiaaFfC
namespace Go.Proofs.Ythhifeefkmaeiaa.PX
open Go.RowKit Go.Proofs.YthhifeefkmaeiaaW.PrintWords Go.Proofs.YthhifeefkmaeiaaW.PrintLast Go.Proofs.YthhifeefkmaeiaaW.PrintMore
set_option linter.unusedVariables false
set_option linter.unusedSimpArgs false
theorem samereads (xs : List S45) (hl : xs.length ≤ 9000000000000) (d : Nat) : ∀ (k : Nat) (i : Nat), i + d = xs.length → d < k → pylonref11_SameReads.l0 k xs xs (xs.length : Int) i = some true := by
  induction d with
  | zero =>
    intro k i hi hk
    obtain ⟨k, rfl⟩ : ∃ m, k = m + 1 := ⟨k - 1, by omega⟩
    rw [pylonref11_SameReads.l0, if_neg (by omega)]
  | succ d ih =>
    intro k i hi hk
    obtain ⟨k, rfl⟩ : ∃ m, k = m + 1 := ⟨k - 1, by omega⟩
    rw [pylonref11_SameReads.l0, if_pos (by omega), if_pos (by omega), if_pos (by omega), if_pos (by omega), if_neg (by simp), fw (by omega) (by omega)]
    exact ih k (i + 1) (by omega) (by omega)
theorem samereads_f (xs : List S45) (hl : xs.length ≤ 9000000000000) {k : Nat} (hk : xs.length < k) : pylonref11_SameReads.f k xs xs = some true := by
  rw [pylonref11_SameReads.f, if_pos rfl]; exact samereads xs hl xs.length k 0 (by omega) hk
theorem ffill_some (m : ByteArray) (st sp n mu tu most : Int) (rs : List S45) : ∃ r, fill_Fill.f m st sp n mu tu rs most = some r ∧ r.1.length ≤ 40001 := by
  rw [fill_Fill.f]
  cases hs : fill_Gaps.slots n rs with
  | none => exact ⟨_, rfl, by simp⟩
  | some L =>
    simp only []
    split
    · exact ⟨_, rfl, by simp⟩
    · cases fill_Fill.fold L n most (fill_Gaps.hs L n.toNat 0 none) (fun s => (L s).getD z45) with
      | none => exact ⟨_, rfl, by simp⟩
      | some o =>
        refine ⟨_, rfl, ?_⟩
        unfold fill_Gaps.slots at hs
        split at hs
        case isTrue => cases hs
        case isFalse c => simp only [row_len]; omega
theorem ln_near {a b : Int} {n j : Nat} (ha : -10000000 ≤ a ∧ a ≤ 10000000) (hb : -10000000 ≤ b ∧ b ≤ 10000000) (hn : n ≤ 40000) (hj : j < n) : -10000000 ≤ rd (fill_Fill.ln a b n) j ∧ rd (fill_Fill.ln a b n) j ≤ 10000000 := by
  obtain ⟨m1, m2⟩ := Lin.miss_bounds a b n (by omega)
  obtain ⟨m, hm⟩ : ∃ m : Nat, Lin.miss a b n n = m := ⟨(Lin.miss a b n n).toNat, by simp only [Int.toNat_natCast] at m1; omega⟩
  have e : rd (fill_Fill.ln a b n) j = lO a b n m j := by
    unfold fill_Fill.ln fill_Line.f
    rw [if_neg (by omega)]
    simp only [Int.toNat_natCast, hm]
    simp [rd, hj, lO, Lin.out]
  rw [e]
  have h := lO_between hj hm
  omega
theorem el_ok {a b : S45} {f t s : Nat} (ha : rdok a) (hb : rdok b) (h1 : f ≤ s) (h2 : s < t) (ht : t ≤ 40000) : rdok (fill_Fill.el a b f t s) := by
  have e1 : (t : Int) - f = ((t - f : Nat) : Int) := by omega
  have e2 : (s : Int) - f = ((s - f : Nat) : Int) := by omega
  unfold fill_Fill.el rdok
  simp only [e1, e2]
  exact ⟨ln_near ha.1 hb.1 (by omega) (by omega), ln_near ha.2.1 hb.2.1 (by omega) (by omega), ln_near ha.2.2 hb.2.2 (by omega) (by omega)⟩
section
variable {L : Nat → Option S45} {N : Nat}
theorem or_ok (hL : ∀ (s : Nat) r, L s = some r → rdok r) (f n t : Int) : rdok (fill_Fill.or (fill_Fill.na L f) (fill_Fill.nb L n t)) ∧ rdok (fill_Fill.or (fill_Fill.nb L n t) (fill_Fill.na L f)) := by
  have A : ∀ r, fill_Fill.na L f = some r → rdok r := fun r h => by unfold fill_Fill.na at h; split at h; (· cases h); exact hL _ _ h
  have B : ∀ r, fill_Fill.nb L n t = some r → rdok r := fun r h => by unfold fill_Fill.nb at h; split at h; exact hL _ _ h; (· cases h)
  cases e1 : fill_Fill.na L f with
  | none =>
    cases e2 : fill_Fill.nb L n t with
    | none => exact ⟨z_ok, z_ok⟩
    | some r => exact ⟨B r e2, B r e2⟩
  | some q =>
    cases e2 : fill_Fill.nb L n t with
    | none => exact ⟨A q e1, A q e1⟩
    | some r => exact ⟨A q e1, B r e2⟩
def inG (gs : List S43) (s : Nat) : Prop := ∃ g ∈ gs, g.f0 ≤ s ∧ (s : Int) < g.f1
theorem hs_cover (d : Nat) : ∀ s, (∀ u, s ≤ u → u < s + d → L u = none → inG (fill_Gaps.hs L d s none) u) ∧ ∀ f : Nat, f ≤ s → ∀ u, f ≤ u → u < s + d → (u < s ∨ L u = none) → inG (fill_Gaps.hs L d s (some f)) u := by
  induction d with
  | zero =>
    intro s
    refine ⟨fun u h1 h2 => by omega, fun f hf u h1 h2 h3 => ⟨⟨f, s⟩, by simp [fill_Gaps.hs], ?_⟩⟩
    exact ⟨by simp; omega, by simp; omega⟩
  | succ d ih =>
    intro s
    obtain ⟨i1, i2⟩ := ih (s + 1)
    cases hL : L s with
    | none =>
      refine ⟨fun u h1 h2 h3 => ?_, fun f hf u h1 h2 h3 => ?_⟩
      · rw [fill_Gaps.hs, hL]; exact i2 s (by omega) u h1 (by omega) (.inr h3)
      · rw [fill_Gaps.hs, hL]; exact i2 f (by omega) u h1 (by omega) (h3.imp (by omega) id)
    | some r =>
      refine ⟨fun u h1 h2 h3 => ?_, fun f hf u h1 h2 h3 => ?_⟩
      · rw [fill_Gaps.hs, hL]; exact i1 u (by rcases Nat.lt_or_ge s u with c | c; omega; rw [show u = s by omega, hL] at h3; cases h3) (by omega) h3
      · rw [fill_Gaps.hs, hL]
        by_cases c : u < s
        · exact ⟨⟨f, s⟩, by simp, by simp; omega, by simp; omega⟩
        · have h4 : L u = none := h3.resolve_left c
          obtain ⟨g, hg, h5⟩ := i1 u (by rcases Nat.lt_or_ge s u with c2 | c2; omega; rw [show u = s by omega, hL] at h4; cases h4) (by omega) h4
          exact ⟨g, by simp [hg], h5⟩
theorem fold_ok {most : Int} (hN : N ≤ 40000) (hL : ∀ (s : Nat) r, L s = some r → rdok r) : ∀ (gs : List S43) (o o' : Nat → S45), (∀ g ∈ gs, gapok L N g) → fill_Fill.fold L N most gs o = some o' → ∀ s : Nat,
    ((((o s).f0 = s ∧ rdok (o s)) ∨ inG gs s) → (o' s).f0 = s ∧ rdok (o' s)) ∧ (((o s).f4 = 70 ∨ inG gs s) → (o' s).f4 = 70) ∧ (¬ inG gs s → o' s = o s) := by
  intro gs
  induction gs with
  | nil =>
    intro o o' _ h s
    rw [fill_Fill.fold] at h
    cases h
    have hno : ¬ inG [] s := fun ⟨g, hg, _⟩ => by cases hg
    exact ⟨fun h => h.resolve_right hno, fun h => h.resolve_right hno, fun _ => rfl⟩
  | cons g t ih =>
    intro o o' hg h s
    rw [fill_Fill.fold] at h
    split at h
    · cases h
    · obtain ⟨k1, k2, k3⟩ := ih _ o' (fun g' hg' => hg g' (by simp [hg'])) h s
      obtain ⟨f, u, rfl, hfu, huN, _⟩ := hg g (by simp)
      have hro := or_ok (L := L) hL f N u
      by_cases c : (f : Int) ≤ s ∧ (s : Int) < u
      · have e : fill_Fill.gap L N o ⟨f, u⟩ s = fill_Fill.el (fill_Fill.or (fill_Fill.na L f) (fill_Fill.nb L N u)) (fill_Fill.or (fill_Fill.nb L N u) (fill_Fill.na L f)) f u s := by unfold fill_Fill.gap; rw [if_pos c]
        rw [e] at k1 k2 k3
        exact ⟨fun _ => k1 (.inl ⟨rfl, el_ok hro.1 hro.2 (by omega) (by omega) (by omega)⟩), fun _ => k2 (.inl rfl), fun h => absurd (show inG ((⟨f, u⟩ : S43) :: t) s from ⟨⟨f, u⟩, by simp, c⟩) h⟩
      · have e : fill_Fill.gap L N o ⟨f, u⟩ s = o s := by unfold fill_Fill.gap; rw [if_neg c]
        rw [e] at k1 k2 k3
        have hin : inG ((⟨f, u⟩ : S43) :: t) s → inG t s := fun ⟨g', hg', hc⟩ => by
          rcases List.mem_cons.1 hg' with e' | e'
          · subst e'; exact absurd hc c
          · exact ⟨g', e', hc⟩
        have hin2 : inG t s → inG ((⟨f, u⟩ : S43) :: t) s := fun ⟨g', hg', hc⟩ => ⟨g', by simp [hg'], hc⟩
        exact ⟨fun h => k1 (h.imp id hin), fun h => k2 (h.imp id hin), fun h => k3 (fun h2 => h (hin2 h2))⟩
theorem hs_full (d : Nat) : ∀ s, (∀ u, s ≤ u → u < s + d → L u ≠ none) → fill_Gaps.hs L d s none = [] := by
  induction d with
  | zero => intro s _; rfl
  | succ d ih =>
    intro s h
    rw [fill_Gaps.hs]
    cases e : L s with
    | none => exact absurd e (h s (by omega) (by omega))
    | some r => exact ih (s + 1) (fun u h1 h2 => h u (by omega) (by omega))
theorem lay_full {q : Nat → S45} (hq : ∀ s, s < N → (q s).f0 = s ∧ rdok (q s) ∧ fill_Gaps.good (q s) = true) (d : Nat) : ∀ (i : Nat) (b : Int) (L : Nat → Option S45), i + d = N → b = (i : Int) - 1 → ∃ L', fill_Gaps.lay N ((fill_Fill.row q N).drop i) b L = some L' ∧ ∀ s, s < N → L' s = if i ≤ s then some (q s) else L s := by
  induction d with
  | zero =>
    intro i b L hi hb
    rw [List.drop_of_length_le (by rw [row_len]; omega), fill_Gaps.lay]
    exact ⟨L, rfl, fun s hs => by rw [if_neg (by omega)]⟩
  | succ d ih =>
    intro i b L hi hb
    obtain ⟨h1, h2, h3⟩ := hq i (by omega)
    rw [fill_Gaps.drop _ i (by rw [row_len]; omega), row_rd (by omega), fill_Gaps.lay, if_neg (by omega), h3, if_pos rfl, if_pos (by unfold fill_Gaps.nr; unfold rdok at h2; simp; omega), h1]
    obtain ⟨L', e1, e2⟩ := ih (i + 1) i (fun s => if (s : Int) = (i : Int) then some (q i) else L s) (by omega) (by omega)
    refine ⟨L', e1, fun s hs => ?_⟩
    rw [e2 s hs]
    by_cases c : s = i
    · subst c; rw [if_neg (by omega), if_pos rfl, if_pos (by omega)]
    · by_cases c2 : i ≤ s
      · rw [if_pos (by omega), if_pos c2]
      · rw [if_neg (by omega), if_neg (by omega), if_neg c2]
end
/-- what Fill answers -/
theorem ffill_cases (m : ByteArray) (st sp n mu tu most : Int) (rs : List S45) : fill_Fill.f m st sp n mu tu rs most = some ([], 8) ∨ fill_Fill.f m st sp n mu tu rs most = some ([], 3) ∨ fill_Fill.f m st sp n mu tu rs most = some ([], 4) ∨
    ∃ (N : Nat) (L : Nat → Option S45) (o : Nat → S45), n = N ∧ N ≤ 40000 ∧ 1 ≤ N ∧ fill_Gaps.slots n rs = some L ∧ fill_Fill.f m st sp n mu tu rs most = some (fill_Fill.row o N, 0) ∧ fill_Fill.fold L N most (fill_Gaps.hs L N 0 none) (fun s => (L s).getD z45) = some o := by
  rw [fill_Fill.f]
  cases hs : fill_Gaps.slots n rs with
  | none => exact .inl rfl
  | some L =>
    have hs2 := hs
    unfold fill_Gaps.slots at hs2
    split at hs2
    case isTrue => cases hs2
    case isFalse c =>
      obtain ⟨N, rfl⟩ : ∃ N : Nat, n = N := ⟨n.toNat, by omega⟩
      simp only [Int.toNat_natCast]
      split
      · exact .inr (.inl rfl)
      · cases hf : fill_Fill.fold L N most (fill_Gaps.hs L N 0 none) (fun s => (L s).getD z45) with
        | none => exact .inr (.inr (.inl rfl))
        | some o => exact .inr (.inr (.inr ⟨N, L, o, rfl, by omega, by omega, rfl, rfl, hf⟩))
/-- each slot of what was filled -/
theorem filled_ok {N : Nat} {rs : List S45} {L : Nat → Option S45} {o : Nat → S45} {most : Int} (hN : N ≤ 40000) (h1 : 1 ≤ N) (hs : fill_Gaps.slots N rs = some L) (hf : fill_Fill.fold L N most (fill_Gaps.hs L N 0 none) (fun s => (L s).getD z45) = some o) :
    ∀ s, s < N → ((o s).f0 = s ∧ rdok (o s)) ∧ (L s = none → (o s).f4 = 70) ∧ ∀ r, L s = some r → o s = r ∧ fill_Gaps.good r = true := by
  have hs2 := hs
  unfold fill_Gaps.slots at hs2
  rw [if_neg (by omega)] at hs2
  have hok := lay_ok rs _ _ (fun s r h => by cases h) hs2
  have hg := (hs_ok (L := L) (N := N) N 0 (by omega)).1 (by omega)
  intro s hsN
  obtain ⟨k1, k2, k3⟩ := fold_ok hN (fun s r h => (hok s r h).2.2) _ _ _ hg hf s
  have hcov := (hs_cover (L := L) N 0).1 s (by omega) (by omega)
  cases hL : L s with
  | none => exact ⟨k1 (.inr (hcov hL)), fun _ => k2 (.inr (hcov hL)), fun r h => by cases h⟩
  | some r =>
    obtain ⟨q1, q2, q3⟩ := hok s r hL
    have hno : ¬ inG (fill_Gaps.hs L N 0 none) s := fun ⟨g, hg1, hg2⟩ => by
      obtain ⟨f, t, rfl, _, _, hh, _⟩ := hg g hg1
      obtain ⟨u1, u2⟩ : (f : Int) ≤ s ∧ (s : Int) < t := hg2
      have := hh s (by omega) (by omega)
      rw [hL] at this; cases this
    have e := k3 hno
    simp only [hL, Option.getD_some] at e
    refine ⟨by rw [e]; exact ⟨q1, q3⟩, (fun h => by cases h), fun r' h => ?_⟩
    cases h; exact ⟨e, q2⟩
end Go.Proofs.Ythhifeefkmaeiaa.PX
