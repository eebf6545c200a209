/- What an argument reads as is of a print's kind, and well formed: by the type's shape, whatever the program. -/
import Derived.Test.YtegedhnbmclbkaaPXx0
import Derived.Deep.Slices
import Derived.SizedLaws
import Derived.ChangeArms
namespace Go.Proofs.Ytegedhnbmclbkaa.PX
open Go.RowKit Go.Proofs.YtegedhnbmclbkaaW.PrintWords Go.Proofs.YtegedhnbmclbkaaW.PrintLast Go.Proofs.YtegedhnbmclbkaaW.PrintMore
set_option linter.unusedVariables false
set_option linter.unusedSimpArgs false
open Go.Deep Go.ChangeShapes Go.WideShapes
/-- What reads at type t is of kind d, and W holds of it. -/
def Rd (P : Program) (t : TypeId) {α : Type} (d : Kd α) (W : α → Prop) : Prop :=
  ∀ {H : Type} (enc : TypeId × Value → H) (w : World) (base : Nat) (spare : Nat → Bool) (held : Bool) (fuel : Nat) (cs : List Value) (x : DataW H × List MemPlace),
    DataW.trod enc P w base spare held fuel t cs = some x → (∀ n ∈ x.1.weights P t, n ≤ reachBytes) → ∃ p, d.K w p cs ∧ W p
theorem Rd.int {P : Program} {t : TypeId} {k : IntKind} (ht : P.underlying t = some (.int k)) : Rd P t (Kd.int k) (fun n => (Lit.int k n).wf = true) := by
  intro H enc w base spare held fuel cs x h hw
  obtain ⟨n, rfl, rfl, hn⟩ := DataW.trod_int ht h
  exact ⟨n, rfl, hn⟩
theorem Rd.bool {P : Program} {t : TypeId} (ht : P.underlying t = some .bool) : Rd P t Kd.bool (fun _ => True) := by
  intro H enc w base spare held fuel cs x h hw
  obtain ⟨b, rfl, rfl⟩ := DataW.trod_bool ht h
  exact ⟨b, rfl, trivial⟩
theorem Rd.string {P : Program} {t : TypeId} (ht : P.underlying t = some .string) : Rd P t Kd.string (fun s => s.size ≤ 140737488351232) := by
  intro H enc w base spare held fuel cs x h hw
  obtain ⟨s, rfl, rfl, hs⟩ := DataW.trod_string ht h
  refine ⟨s, rfl, ?_⟩
  have h1 : s.data.toList.length ≤ 140737488351232 := hw s.data.toList.length (by simp [DataW.weights])
  rw [Array.length_toList] at h1
  exact h1
theorem weightsAll_mem {H : Type} {P : Program} {e : TypeId} : ∀ {ds : List (DataW H)} {d : DataW H}, d ∈ ds → ∀ n ∈ d.weights P e, n ∈ DataW.weightsAll P e ds
  | d0 :: ds, d, hd, n, hn => by
    simp only [DataW.weightsAll, List.mem_append]
    rcases List.mem_cons.1 hd with rfl | hd
    · exact .inl hn
    · exact .inr (weightsAll_mem hd n hn)
theorem choose_list {α : Type} {n : Nat} {p : Nat → α → Prop} (h : ∀ i, i < n → ∃ x, p i x) : ∃ l : List α, l.length = n ∧ ∀ i x, l[i]? = some x → p i x := by
  induction n with
  | zero => exact ⟨[], rfl, fun i x hx => by simp at hx⟩
  | succ n ih =>
    obtain ⟨l, hl, hp⟩ := ih (fun i hi => h i (by omega))
    obtain ⟨x, hx⟩ := h n (by omega)
    refine ⟨l ++ [x], by simp [hl], fun i y hy => ?_⟩
    by_cases hi : i < n
    · rw [List.getElem?_append_left (by omega)] at hy
      exact hp i y hy
    · rw [List.getElem?_append_right (by omega)] at hy
      have : i = n := by
        have := (List.getElem?_eq_some_iff.1 hy).1
        simp at this
        omega
      subst this
      simp [hl] at hy
      rwa [← hy]
theorem Rd.slice {P : Program} {t e : TypeId} {α : Type} {d : Kd α} {W : α → Prop} {B : Nat} (ht : P.underlying t = some (.slice e)) (hc : P.cellsOf e = d.sz) (hB : P.bytesOf e = B) (he : Rd P e d W) :
    Rd P t (Kd.slice e d) (fun l => l.length * B ≤ 140737488351232 ∧ ∀ p ∈ l, W p) := by
  intro H enc w base spare held fuel cs x h hw
  rcases open_slice ht h with ⟨rfl, rfl⟩ | ⟨a, len, cap, m, n, D, Pl, rfl, hb, hl, hm, hmm, rfl, hi⟩
  · exact ⟨[], ⟨none, 0, rfl, Nat.le_refl _, rfl, by simp, fun h => absurd h (by simp)⟩, by simp, fun p hp => by cases hp⟩
  · have hlm : len ≤ m := by rw [hmm]; split <;> omega
    have hsz := hw ((len + (m - len)) * B) (by simp [DataW.weights, ht, hB])
    have hel : ∀ i, i < len → ∃ p, (∃ cs', w.cells? base (a.add (i * P.cellsOf e)) (P.cellsOf e) = some cs' ∧ d.K w p cs') ∧ W p := by
      intro i hil
      obtain ⟨cs', h1, h2⟩ := hi i (by omega)
      obtain ⟨p, hK, hW⟩ := he enc w base spare held n cs' _ h2 (fun q hq => hw q (by
        simp only [DataW.weights, ht, List.mem_cons, List.mem_append]
        exact .inr (.inl (weightsAll_mem (List.mem_map.2 ⟨i, List.mem_range.2 hil, rfl⟩) q hq))))
      exact ⟨p, ⟨cs', h1, hK⟩, hW⟩
    obtain ⟨l, hll, hlp⟩ := choose_list hel
    have hle : len ≤ 9223372036854775807 := by have : cap ≤ maxLen := hm; simp only [maxLen] at this; omega
    subst hll
    refine ⟨l, ⟨some a, cap, rfl, hl, rfl, hle, fun _ => ⟨a, rfl, fun j p hj => ?_⟩⟩, ?_, fun p hp => ?_⟩
    · obtain ⟨⟨cs', h1, h2⟩, _⟩ := hlp j p hj
      rw [hc] at h1
      obtain ⟨_, hcl, hat⟩ := World.cells?_some h1
      refine ⟨cs', hcl, h2, fun i u hu => ?_⟩
      have hiu : i < d.sz := by have := (List.getElem?_eq_some_iff.1 hu).1; omega
      have := hat i hiu
      rw [hu] at this
      rw [← this, Go.Deep.add_add]
    · have e1 : (l.length + (m - l.length)) * B ≤ 140737488351232 := hsz
      exact Nat.le_trans (Nat.mul_le_mul_right _ (by omega)) e1
    · obtain ⟨i, hi', rfl⟩ := List.mem_iff_getElem.1 hp
      exact (hlp i _ (List.getElem?_eq_getElem hi')).2
/-- The fields from one on, which begins at off. -/
def RdF (P : Program) (fs : List Field) (off total : Nat) {α : Type} (d : Kd α) (W : α → Prop) : Prop :=
  ∀ {H : Type} (enc : TypeId × Value → H) (w : World) (base : Nat) (spare : Nat → Bool) (held : Bool) (n : Nat) (cs : List Value) (xs : List (DataW H × List MemPlace)), cs.length = total → xs.length = fs.length →
    (∀ (i : Nat) (f : Field), fs[i]? = some f → DataW.trod enc P w base spare held n f.type ((cs.drop f.offset).take (P.cellsOf f.type)) = xs[i]?) →
    (∀ m ∈ DataW.weightsEach P (fs.map (·.type)) (xs.map (·.1)), m ≤ reachBytes) → ∃ p, d.K w p (cs.drop off) ∧ W p
theorem RdF.one {P : Program} {f : Field} {off total : Nat} {α : Type} {d : Kd α} {W : α → Prop} (ho : f.offset = off) (hc : off + P.cellsOf f.type = total) (h : Rd P f.type d W) : RdF P [f] off total d W := by
  intro H enc w base spare held n cs xs hl hx hf hw
  match xs, hx with
  | [x], _ =>
    have h0 := hf 0 f rfl
    rw [ho, List.take_of_length_le (by rw [List.length_drop]; omega)] at h0
    exact h enc w base spare held n _ x h0 (fun q hq => hw q (by simp [DataW.weightsEach, hq]))
theorem RdF.cons {P : Program} {f : Field} {fs : List Field} {off c total : Nat} {α β : Type} {d1 : Kd α} {d2 : Kd β} {W1 : α → Prop} {W2 : β → Prop} (ho : f.offset = off) (hc : P.cellsOf f.type = c) (h1 : Rd P f.type d1 W1) (h2 : RdF P fs (off + c) total d2 W2) :
    RdF P (f :: fs) off total (Kd.pair d1 d2) (fun p => W1 p.1 ∧ W2 p.2) := by
  intro H enc w base spare held n cs xs hl hx hf hw
  match xs, hx with
  | x :: xs, hx =>
    have h0 := hf 0 f rfl
    rw [ho, hc] at h0
    obtain ⟨p1, k1, w1⟩ := h1 enc w base spare held n _ x h0 (fun q hq => hw q (by simp only [List.map_cons, DataW.weightsEach, List.mem_append]; exact .inl hq))
    obtain ⟨p2, k2, w2⟩ := h2 enc w base spare held n cs xs hl (by simpa using hx) (fun i g hg => by simpa using hf (i + 1) g (by simpa using hg)) (fun q hq => hw q (by simp only [List.map_cons, DataW.weightsEach, List.mem_append]; exact .inr hq))
    refine ⟨(p1, p2), ⟨_, _, ?_, k1, k2⟩, w1, w2⟩
    rw [← List.drop_drop, List.take_append_drop]
theorem Rd.struct {P : Program} {t : TypeId} {fs : Array Field} {total : Nat} {α β : Type} {d : Kd α} {W : α → Prop} {g : β → α} (ht : P.underlying t = some (.struct fs)) (hc : P.cellsOf t = total) (h : RdF P fs.toList 0 total d W) (hg : ∀ a, ∃ b, g b = a) :
    Rd P t (Kd.iso d g) (fun b => W (g b)) := by
  intro H enc w base spare held fuel cs x hx hw
  obtain ⟨xs, n, rfl, rfl, hl, hxl, hf⟩ := DataW.trod_struct ht hx
  rw [hc] at hl
  obtain ⟨p, k1, w1⟩ := h enc w base spare held n cs xs hl (by simpa using hxl) (fun i f hi => hf i f (by simpa using hi)) (fun q hq => hw q (by simpa [DataW.weights, ht] using hq))
  obtain ⟨b, rfl⟩ := hg p
  rw [List.drop_zero] at k1
  exact ⟨b, k1, w1⟩
end Go.Proofs.Ytegedhnbmclbkaa.PX
