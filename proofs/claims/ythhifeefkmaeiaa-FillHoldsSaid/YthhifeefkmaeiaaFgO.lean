/- The law FillHolds: good reads stay, all others are filled, in gaps; a gap is refused just where it is too long (no conditions). -/
import Derived.Test.YthhifeefkmaeiaaPXx8
import Derived.Test.YthhifeefkmaeiaaPXx10
import Derived.Test.YthhifeefkmaeiaaPXx16
import Derived.Test.YthhifeefkmaeiaaFgH
import Derived.Test.YthhifeefkmaeiaaRd
namespace Go.Proofs.Ythhifeefkmaeiaa.PX
open Go.RowKit Go.Proofs.YthhifeefkmaeiaaW.PrintWords Go.Proofs.YthhifeefkmaeiaaW.PrintLast Go.Proofs.YthhifeefkmaeiaaW.PrintMore
set_option linter.unusedVariables false
set_option linter.unusedSimpArgs false
def slen : List S43 → Int
  | [] => 0
  | g :: t => (g.f1 - g.f0) + slen t
def cn (L : Nat → Option S45) : Nat → Nat → Int
  | 0, _ => 0
  | d + 1, s => (if (L s).isNone then 1 else 0) + cn L d (s + 1)
def lgo : Int → List S43 → Int
  | a, [] => a
  | a, g :: t => lgo (mx a (g.f1 - g.f0)) t
theorem lgo_gt (most : Int) : ∀ (gs : List S43) (a : Int), lgo a gs > most ↔ (a > most ∨ ∃ g ∈ gs, g.f1 - g.f0 > most) := by
  intro gs
  induction gs with
  | nil => intro a; simp [lgo]
  | cons g t ih =>
    intro a
    have hm : mx a (g.f1 - g.f0) > most ↔ (a > most ∨ g.f1 - g.f0 > most) := by unfold mx; split <;> omega
    rw [lgo, ih, hm, or_assoc]
    simp only [List.mem_cons, exists_eq_or_imp]
section
variable {L : Nat → Option S45} {N : Nat}
theorem slen_hs (d : Nat) : ∀ s : Nat, slen (fill_Gaps.hs L d s none) = cn L d s ∧ ∀ f : Nat, slen (fill_Gaps.hs L d s (some f)) = (s : Int) - f + cn L d s := by
  induction d with
  | zero => intro s; exact ⟨rfl, fun f => by simp [fill_Gaps.hs, slen, cn]⟩
  | succ d ih =>
    intro s
    obtain ⟨i1, i2⟩ := ih (s + 1)
    cases hL : L s with
    | none => exact ⟨by rw [fill_Gaps.hs, hL]; simp only [Option.isNone_none, if_true, cn, hL]; rw [i2]; omega, fun f => by rw [fill_Gaps.hs, hL]; simp only [Option.isNone_none, if_true, cn, hL]; rw [i2]; omega⟩
    | some r => exact ⟨by rw [fill_Gaps.hs, hL]; simp only [Option.isNone_some, Bool.false_eq_true, if_false, cn, hL]; rw [i1]; omega, fun f => by rw [fill_Gaps.hs, hL]; simp only [Option.isNone_some, Bool.false_eq_true, if_false, cn, hL, slen]; rw [i1]; omega⟩
theorem cn_bd (d : Nat) : ∀ s, 0 ≤ cn L d s ∧ cn L d s ≤ d := by
  induction d with
  | zero => intro s; simp [cn]
  | succ d ih => intro s; have := ih (s + 1); rw [cn]; split <;> omega
theorem cn_all (d : Nat) : ∀ s, cn L d s = d → ∀ u, s ≤ u → u < s + d → L u = none := by
  induction d with
  | zero => intro s _ u h1 h2; omega
  | succ d ih =>
    intro s h u h1 h2
    have hb := cn_bd (L := L) d (s + 1)
    rw [cn] at h
    cases hL : L s with
    | none =>
      rw [hL] at h
      simp only [Option.isNone_none, if_true] at h
      by_cases c : u = s
      · rw [c]; exact hL
      · exact ih (s + 1) (by omega) u (by omega) (by omega)
    | some r =>
      rw [hL] at h
      simp only [Option.isNone_some, Bool.false_eq_true, if_false] at h
      omega
theorem hs_ge (d : Nat) : ∀ s : Nat, (∀ g ∈ fill_Gaps.hs L d s none, (s : Int) ≤ g.f0) ∧ ∀ f : Nat, f ≤ s → ∀ g ∈ fill_Gaps.hs L d s (some f), (f : Int) ≤ g.f0 := by
  induction d with
  | zero => intro s; exact ⟨fun g h => by simp [fill_Gaps.hs] at h, fun f _ g h => by simp [fill_Gaps.hs] at h; subst h; exact Int.le_refl _⟩
  | succ d ih =>
    intro s
    obtain ⟨i1, i2⟩ := ih (s + 1)
    cases hL : L s with
    | none => exact ⟨fun g h => by rw [fill_Gaps.hs, hL] at h; exact i2 s (by omega) g h, fun f hf g h => by rw [fill_Gaps.hs, hL] at h; exact i2 f (by omega) g h⟩
    | some r =>
      refine ⟨fun g h => by rw [fill_Gaps.hs, hL] at h; have := i1 g h; omega, fun f hf g h => ?_⟩
      rw [fill_Gaps.hs, hL] at h
      rcases List.mem_cons.1 h with e | e
      · subst e; exact Int.le_refl _
      · have := i1 g e; omega
theorem hs_sep (d : Nat) : ∀ (s : Nat) (o : Option Nat), (fill_Gaps.hs L d s o).Pairwise fun g h => g.f1 < h.f0 := by
  induction d with
  | zero => intro s o; cases o <;> simp [fill_Gaps.hs]
  | succ d ih =>
    intro s o
    cases hL : L s with
    | none => cases o <;> (rw [fill_Gaps.hs, hL]; exact ih _ _)
    | some r =>
      cases o with
      | none => rw [fill_Gaps.hs, hL]; exact ih _ _
      | some f =>
        rw [fill_Gaps.hs, hL]
        exact List.pairwise_cons.2 ⟨fun g hg => by have := (hs_ge (L := L) d (s + 1)).1 g hg; show (s : Int) < g.f0; omega, ih _ _⟩
theorem fold_none {most : Int} : ∀ (gs : List S43) (o : Nat → S45), fill_Fill.fold L N most gs o = none ↔ ∃ g ∈ gs, g.f1 - g.f0 > most := by
  intro gs
  induction gs with
  | nil => intro o; simp [fill_Fill.fold]
  | cons g t ih =>
    intro o
    rw [fill_Fill.fold]
    by_cases c : most < g.f1 - g.f0
    · rw [if_pos c]; exact ⟨fun _ => ⟨g, by simp, c⟩, fun _ => rfl⟩
    · rw [if_neg c, ih]
      constructor
      · rintro ⟨x, h1, h2⟩; exact ⟨x, by simp [h1], h2⟩
      · rintro ⟨x, h1, h2⟩
        rcases List.mem_cons.1 h1 with e | e
        · subst e; exact absurd h2 c
        · exact ⟨x, e, h2⟩
theorem slen_nonneg : ∀ gs : List S43, (∀ g ∈ gs, gapok L N g) → 0 ≤ slen gs := by
  intro gs
  induction gs with
  | nil => intro _; exact Int.le_refl _
  | cons g t ih =>
    intro h
    obtain ⟨f, u, rfl, hfu, _⟩ := h g (by simp)
    have := ih (fun x hx => h x (by simp [hx]))
    simp only [slen]; omega
theorem lay_mem {n : Int} {L' : Nat → Option S45} : ∀ (rs : List S45) (b : Int) (L : Nat → Option S45), -1 ≤ b → fill_Gaps.lay n rs b L = some L' → (∀ r ∈ rs, fill_Gaps.good r = true → 0 ≤ r.f0 ∧ r.f0 < n ∧ L' r.f0.toNat = some r) ∧ ∀ s : Nat, (s : Int) ≤ b → L' s = L s := by
  intro rs
  induction rs with
  | nil => intro b L _ e; rw [fill_Gaps.lay] at e; cases e; exact ⟨fun r h => by simp at h, fun _ _ => rfl⟩
  | cons r t ih =>
    intro b L hb e
    rw [fill_Gaps.lay] at e
    split at e
    · cases e
    · rename_i hc
      split at e
      · split at e
        · obtain ⟨h1, h2⟩ := ih r.f0 _ (by omega) e
          refine ⟨fun x hx hg => ?_, fun s hs => ?_⟩
          · rcases List.mem_cons.1 hx with e' | e'
            · subst e'
              refine ⟨by omega, by omega, ?_⟩
              rw [h2 _ (by omega), if_pos (by omega)]
            · exact h1 x e' hg
          · rw [h2 s (by omega), if_neg (by omega)]
        · cases e
      · rename_i hng
        obtain ⟨h1, h2⟩ := ih r.f0 _ (by omega) e
        refine ⟨fun x hx hg => ?_, fun s hs => h2 s (by omega)⟩
        rcases List.mem_cons.1 hx with e' | e'
        · subst e'; exact absurd hg hng
        · exact h1 x e' hg
end
section
variable {m : ByteArray} {st sp mu tu most e : Int} {N : Nat} {rs reads : List S45} {L : Nat → Option S45} {gs : List S43} {R : Option Bool}
theorem holds_l2 (hl : rs.length ≤ 9000000000000) {o : Nat → S45} {c x : Int} (ho : ∀ r ∈ rs, fill_Gaps.good r = true → 0 ≤ r.f0 ∧ r.f0 < N ∧ o r.f0.toNat = r) (d : Nat) : ∀ (k i : Nat), i + d = rs.length → 2 * d < k →
    pylonlaw11_FillHolds.l2 k (fill_Fill.row o N) x c rs.length i m st sp N mu tu rs = some (c == x) := by
  induction d with
  | zero =>
    intro k i hi hk
    obtain ⟨k, rfl⟩ : ∃ m, k = m + 1 := ⟨k - 1, by omega⟩
    rw [pylonlaw11_FillHolds.l2, if_neg (by omega)]
  | succ d ih =>
    intro k i hi hk
    obtain ⟨k, rfl⟩ : ∃ m, k = m + 2 := ⟨k - 2, by omega⟩
    have IH := ih k (i + 1) (by omega) (by omega)
    rw [show ((i + 1 : Nat) : Int) = (i : Int) + 1 by omega] at IH
    have hmem : rd_T45 rs i ∈ rs := by
      have : rd_T45 rs (i : Int) = rs[i] := by simp [rd_T45, show i < rs.length by omega]
      rw [this]; exact List.getElem_mem _
    have hr := ho _ hmem
    rw [pylonlaw11_FillHolds.l2, if_pos (by omega), if_pos (by omega), if_pos (by omega), rgood_f]
    simp only [Option.bind_some]
    have J : pylonlaw11_FillHolds.j6 (k + 1) (fill_Fill.row o N) x c rs.length i false m st sp N mu tu rs = some (c == x) := by
      rw [pylonlaw11_FillHolds.j6, if_neg (by decide), fw (n := (i : Int) + 1) (by omega) (by omega)]; exact IH
    generalize rd_T45 rs i = r at *
    cases hg : fill_Gaps.good r with
    | false => rw [if_neg (by decide)]; exact J
    | true =>
      obtain ⟨h1, h2, h3⟩ := hr hg
      have h4 : rd_T45 (fill_Fill.row o N) r.f0 = r := by
        have := row_rd (o := o) (N := N) (s := r.f0.toNat) (by omega)
        rw [show ((r.f0.toNat : Nat) : Int) = r.f0 by omega, h3] at this
        exact this
      rw [if_pos rfl, if_pos h1, if_pos (by rw [row_len]; exact h2), h4]
      simp only [beq_self_eq_true, Bool.not_true, Bool.or_self]
      exact J
theorem holds_l1 (hl : rs.length ≤ 9000000000000) (hN : N ≤ 40000) {o : Nat → S45} {x : Int} (ho : ∀ r ∈ rs, fill_Gaps.good r = true → 0 ≤ r.f0 ∧ r.f0 < N ∧ o r.f0.toNat = r) (hs : ∀ s, s < N → (o s).f0 = s ∧ ((o s).f4 = 70 ↔ L s = none)) (d : Nat) : ∀ (k i : Nat) (c : Int), i + d = N → 2 * rs.length + d + 1 < k → 0 ≤ c → c ≤ i →
    pylonlaw11_FillHolds.l1 k (fill_Fill.row o N) x c N i m st sp N mu tu rs = some (c + cn L d i == x) := by
  induction d with
  | zero =>
    intro k i c hi hk hc hci
    obtain ⟨k, rfl⟩ : ∃ m, k = m + 1 := ⟨k - 1, by omega⟩
    rw [pylonlaw11_FillHolds.l1, if_neg (by omega), cn, Int.add_zero]
    exact holds_l2 hl ho rs.length k 0 (by omega) (by omega)
  | succ d ih =>
    intro k i c hi hk hc hci
    obtain ⟨k, rfl⟩ : ∃ m, k = m + 1 := ⟨k - 1, by omega⟩
    obtain ⟨h1, h2⟩ := hs i (by omega)
    rw [pylonlaw11_FillHolds.l1, if_pos (by omega), if_pos (by omega), if_pos (by rw [row_len]; omega), row_rd (by omega), if_pos h1, fw (n := (i : Int) + 1) (by omega) (by omega), fw (n := c + 1) (by omega) (by omega), cn]
    by_cases cf : (o i).f4 = 70
    · have IH := ih k (i + 1) (c + 1) (by omega) (by omega) (by omega) (by omega)
      rw [show ((i + 1 : Nat) : Int) = (i : Int) + 1 by omega] at IH
      rw [if_pos cf, IH, h2.1 cf]
      simp only [Option.isNone_none, if_true]
      rw [show c + 1 + cn L d (i + 1) = c + (1 + cn L d (i + 1)) by omega]
    · have IH := ih k (i + 1) c (by omega) (by omega) (by omega) (by omega)
      rw [show ((i + 1 : Nat) : Int) = (i : Int) + 1 by omega] at IH
      rw [if_neg cf, IH]
      cases hL : L i with
      | none => exact absurd (h2.2 hL) cf
      | some r => simp only [Option.isNone_some, Bool.false_eq_true, if_false, Int.zero_add]
theorem holds_l0 (hN : N ≤ 40000) (hg : ∀ g ∈ gs, gapok L N g) (hsep : gs.Pairwise fun g h => g.f1 < h.f0) (hlen : gs.length ≤ 40001) (hsl : slen gs ≤ N) {k0 : Nat}
    (hR : ∀ k, k0 ≤ k → (if slen gs = (N : Int) then (if e = 3 then (some ((reads.length : Int) == 0)) else (some false)) else (if (gs.length : Int) > 0 then (pylonlaw11_FillHolds.j2 k reads e (slen gs) (decide (lgo 0 gs > most)) m st sp N mu tu rs) else (pylonlaw11_FillHolds.j2 k reads e (slen gs) false m st sp N mu tu rs))) = R) (d : Nat) :
    ∀ (k i : Nat) (a c : Int), i + d = gs.length → k0 + 2 * d < k → 0 ≤ a → a ≤ 40000 → 0 ≤ c → c + slen (gs.drop i) = slen gs → lgo a (gs.drop i) = lgo 0 gs → pylonlaw11_FillHolds.l0 k most gs reads e a c gs.length i m st sp N mu tu rs = R := by
  induction d with
  | zero =>
    intro k i a c hi hk ha ha2 hc h1 h2
    obtain ⟨k, rfl⟩ : ∃ m, k = m + 1 := ⟨k - 1, by omega⟩
    rw [List.drop_of_length_le (by omega)] at h1 h2
    simp only [slen, lgo, Int.add_zero] at h1 h2
    subst h1 h2
    rw [pylonlaw11_FillHolds.l0, if_neg (by omega)]
    exact hR k (by omega)
  | succ d ih =>
    intro k i a c hi hk ha ha2 hc h1 h2
    obtain ⟨k, rfl⟩ : ∃ m, k = m + 2 := ⟨k - 2, by omega⟩
    have hi2 : i < gs.length := by omega
    obtain ⟨f, t, hgi, hft, htN, _⟩ := hg gs[i] (List.getElem_mem hi2)
    have hrd : rd_T43 gs (i : Int) = ⟨(f : Int), (t : Int)⟩ := by simp [rd_T43, hi2, hgi]
    rw [List.drop_eq_getElem_cons hi2, hgi] at h1 h2
    simp only [slen, lgo] at h1 h2
    have hn := slen_nonneg (L := L) (N := N) (gs.drop (i + 1)) (fun g h => hg g (List.mem_of_mem_drop h))
    have IH := ih k (i + 1) (mx a ((t : Int) - f)) (c + t - f) (by omega) (by omega) (by unfold mx; split <;> omega) (by unfold mx; split <;> omega) (by omega) (by omega) h2
    rw [show ((i + 1 : Nat) : Int) = (i : Int) + 1 by omega] at IH
    have J : pylonlaw11_FillHolds.j1 (k + 1) most gs reads e a c i gs.length i false m st sp N mu tu rs = R := by
      rw [pylonlaw11_FillHolds.j1, if_neg (by decide), if_pos (by omega), if_pos (by omega), hrd]
      simp only []
      rw [fw (n := (t : Int) - f) (by omega) (by omega), fw (n := c + (t : Int)) (by omega) (by omega), fw (n := c + (t : Int) - f) (by omega) (by omega), fw (n := (i : Int) + 1) (by omega) (by omega)]
      exact IH
    rw [pylonlaw11_FillHolds.l0, if_pos (by omega), if_pos (by omega), if_pos (by omega), hrd]
    simp only []
    rw [if_neg (by omega), if_neg (by omega), if_neg (by omega)]
    by_cases c0 : (i : Int) > 0
    · obtain ⟨p, rfl⟩ : ∃ p, i = p + 1 := ⟨i - 1, by omega⟩
      have hp : p < gs.length := by omega
      have hpw := List.pairwise_iff_getElem.1 hsep p (p + 1) hp hi2 (by omega)
      rw [hgi] at hpw
      have hrp : rd_T43 gs (p : Int) = gs[p] := by simp [rd_T43, hp]
      rw [if_pos c0, fw (n := ((p + 1 : Nat) : Int) - 1) (by omega) (by omega), show ((p + 1 : Nat) : Int) - 1 = p by omega, if_pos (by omega), if_pos (by omega), hrp, decide_eq_false (show ¬ ((f : Int) ≤ gs[p].f1) by simp only at hpw; omega)]
      exact J
    · rw [if_neg c0]; exact J
end
theorem FillHolds_pure (l0 : (ByteArray × Int × Int × Int × Int × Int × (List S45))) (a1 : Int) (h0 : (l0.1.size ≤ 140737488351232 ∧ ((Lit.int .i64 l0.2.1).wf = true ∧ ((Lit.int .i64 l0.2.2.1).wf = true ∧ ((Lit.int .i64 l0.2.2.2.1).wf = true ∧ ((Lit.int .i64 l0.2.2.2.2.1).wf = true ∧ ((Lit.int .i64 l0.2.2.2.2.2.1).wf = true ∧ (l0.2.2.2.2.2.2.length * 40 ≤ 140737488351232 ∧ ∀ p ∈ l0.2.2.2.2.2.2, W45 p)))))))) (h1 : (Lit.int .i64 a1).wf = true) : ∃ k, pylonlaw11_FillHolds.f k l0.1 l0.2.1 l0.2.2.1 l0.2.2.2.1 l0.2.2.2.2.1 l0.2.2.2.2.2.1 l0.2.2.2.2.2.2 a1 = some true := by
  obtain ⟨m, st, sp, n, mu, tu, rs⟩ := l0
  have hl : rs.length * 40 ≤ 140737488351232 := h0.2.2.2.2.2.2.1
  obtain ⟨C, hC⟩ : ∃ C : Nat, C = 300000 := ⟨_, rfl⟩
  refine ⟨2 * rs.length + C, ?_⟩
  show pylonlaw11_FillHolds.f (2 * rs.length + C) m st sp n mu tu rs a1 = some true
  rw [pylonlaw11_FillHolds.f, fawake (by omega)]
  simp only [Option.bind_some, if_true]
  rw [copyf hl]
  simp only [Option.bind_some]
  rw [fill_Gaps.f, fill_Fill.f]
  cases hs : fill_Gaps.slots n rs with
  | none => rfl
  | some L =>
    have hs2 := hs
    unfold fill_Gaps.slots at hs2
    split at hs2
    case isTrue => cases hs2
    case isFalse c =>
      obtain ⟨N, rfl⟩ : ∃ N : Nat, n = N := ⟨n.toNat, by omega⟩
      have hN : N ≤ 40000 := by omega
      have hN1 : 1 ≤ N := by omega
      simp only [Option.bind_some, Int.toNat_natCast, if_true]
      have hg := (hs_ok (L := L) (N := N) N 0 (by omega)).1 (by omega)
      have hsl := (slen_hs (L := L) N 0).1
      have hcb := cn_bd (L := L) N 0
      have hgl := hs_len L N 0 none
      have hsep := hs_sep (L := L) N 0 none
      by_cases hall : cn L N 0 = N
      · have hnone := cn_all (L := L) N 0 hall
        obtain ⟨d, rfl⟩ : ∃ d, N = d + 1 := ⟨N - 1, by omega⟩
        have hgs : fill_Gaps.hs L (d + 1) 0 none = [⟨0, (d + 1 : Nat)⟩] := by
          rw [fill_Gaps.hs, hnone 0 (by omega) (by omega)]
          have := fill_Fill.hs_some (L := L) 0 d 1 (fun u h1 h2 => hnone u (by omega) (by omega))
          simp only [Option.isNone_none, if_true, Nat.zero_add]
          rw [this, show 1 + d = d + 1 by omega]
          rfl
        have hop : fill_Fill.open_ (fill_Gaps.hs L (d + 1) 0 none) ((d + 1 : Nat) : Int) = true := by rw [hgs]; simp [fill_Fill.open_, rd_T43]
        rw [if_pos hop]
        simp only [Option.bind_some]
        refine holds_l0 (L := L) (most := a1) (reads := []) (e := 3) hN hg hsep (by omega) (by omega) (k0 := 0) (fun k _ => ?_) (fill_Gaps.hs L (d + 1) 0 none).length (2 * rs.length + C) 0 0 0 (by omega) (by omega) (by omega) (by omega) (by omega) (by simp) (by simp)
        rw [if_pos (by omega), if_pos rfl]; rfl
      · have hop : fill_Fill.open_ (fill_Gaps.hs L N 0 none) (N : Int) = false := by
          cases ho : fill_Fill.open_ (fill_Gaps.hs L N 0 none) (N : Int) with
          | false => rfl
          | true =>
            exfalso
            unfold fill_Fill.open_ at ho
            simp only [Bool.and_eq_true, beq_iff_eq] at ho
            obtain ⟨g, hg1⟩ := List.length_eq_one_iff.1 ho.1
            rw [hg1] at ho hsl
            simp only [rd_T43, slen] at ho hsl
            have e1 : g.f0 = 0 := by simpa using ho.2.1
            have e2 : g.f1 = N := by simpa using ho.2.2
            omega
        rw [if_neg (by rw [hop]; decide)]
        cases hf : fill_Fill.fold L N a1 (fill_Gaps.hs L N 0 none) (fun s => (L s).getD z45) with
        | none =>
          simp only [Option.bind_some]
          have hbig := (fold_none (L := L) (N := N) _ _).1 hf
          refine holds_l0 (L := L) (most := a1) (reads := []) (e := 4) hN hg hsep (by omega) (by omega) (k0 := 10) (fun k hk => ?_) (fill_Gaps.hs L N 0 none).length (2 * rs.length + C) 0 0 0 (by omega) (by omega) (by omega) (by omega) (by omega) (by simp) (by simp)
          obtain ⟨k, rfl⟩ : ∃ m, k = m + 1 := ⟨k - 1, by omega⟩
          obtain ⟨g, hg1, hg2⟩ := hbig
          have hpos : 0 < (fill_Gaps.hs L N 0 none).length := List.length_pos_of_mem hg1
          rw [if_neg (by omega), if_pos (by omega), decide_eq_true ((lgo_gt a1 _ 0).2 (.inr ⟨g, hg1, hg2⟩)), pylonlaw11_FillHolds.j2, if_pos rfl, if_pos rfl]
          rfl
        | some o =>
          simp only [Option.bind_some]
          have hnb : ¬ ∃ g ∈ fill_Gaps.hs L N 0 none, g.f1 - g.f0 > a1 := fun h => by have := (fold_none (L := L) (N := N) _ (fun s => (L s).getD z45)).2 h; rw [hf] at this; cases this
          have hfo := filled_ok hN hN1 hs hf
          have hm := (lay_mem rs _ _ (by omega) hs2).1
          have J3 : ∀ k, 2 * rs.length + N + 10 < k → pylonlaw11_FillHolds.j2 k (fill_Fill.row o N) 0 (slen (fill_Gaps.hs L N 0 none)) false m st sp N mu tu rs = some true := fun k hk => by
            obtain ⟨k, rfl⟩ : ∃ m, k = m + 2 := ⟨k - 2, by omega⟩
            rw [pylonlaw11_FillHolds.j2, if_neg (by decide), if_pos rfl, row_len, show ((N : Int) != (N : Int)) = false by simp, pylonlaw11_FillHolds.j3, if_neg (by decide), row_len]
            have := holds_l1 (m := m) (st := st) (sp := sp) (mu := mu) (tu := tu) (L := L) (x := slen (fill_Gaps.hs L N 0 none)) (rs := rs) (by omega) hN (o := o) (fun r hr hgd => ?_) (fun s hsN => ?_) N k 0 0 (by omega) (by omega) (by omega) (by omega)
            · rw [Int.zero_add, hsl] at this
              rw [hsl]
              simpa using this
            · obtain ⟨q1, q2, q3⟩ := hm r hr hgd
              exact ⟨q1, q2, ((hfo r.f0.toNat (by omega)).2.2 r q3).1⟩
            · obtain ⟨p1, p2, p3⟩ := hfo s hsN
              refine ⟨p1.1, fun h70 => ?_, p2⟩
              cases hL : L s with
              | none => rfl
              | some r =>
                obtain ⟨e1, e2⟩ := p3 r hL
                rw [e1] at h70
                unfold fill_Gaps.good at e2
                rw [h70] at e2
                exact absurd e2 (by decide)
          refine holds_l0 (L := L) (most := a1) (reads := fill_Fill.row o N) (e := 0) hN hg hsep (by omega) (by omega) (k0 := 2 * rs.length + N + 11) (fun k hk => ?_) (fill_Gaps.hs L N 0 none).length (2 * rs.length + C) 0 0 0 (by omega) (by omega) (by omega) (by omega) (by omega) (by simp) (by simp)
          rw [if_neg (by omega)]
          by_cases hz : ((fill_Gaps.hs L N 0 none).length : Int) > 0
          · have hlg : ¬ lgo 0 (fill_Gaps.hs L N 0 none) > a1 := fun h => by
              rcases (lgo_gt a1 _ 0).1 h with h2 | h2
              · have hx : 0 < (fill_Gaps.hs L N 0 none).length := by omega
                obtain ⟨f, t, e1, e2, _⟩ := hg _ (List.getElem_mem hx)
                exact hnb ⟨_, List.getElem_mem hx, by rw [e1]; simp only; omega⟩
              · exact hnb h2
            rw [if_pos hz, decide_eq_false hlg]; exact J3 k (by omega)
          · rw [if_neg hz]; exact J3 k (by omega)
end Go.Proofs.Ythhifeefkmaeiaa.PX
