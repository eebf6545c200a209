/- The law FillAgain: what was filled has no gaps and fills to itself but for flags (no conditions). -/
import Derived.Test.YthhifeefkmaeiaaPXx8
import Derived.Test.YthhifeefkmaeiaaPXx10
import Derived.Test.YthhifeefkmaeiaaPXx17
import Derived.Test.YthhifeefkmaeiaaFgH
import Derived.Test.YthhifeefkmaeiaaRd
namespace Go.Proofs.Ythhifeefkmaeiaa.PX
open Go.RowKit Go.Proofs.YthhifeefkmaeiaaW.PrintWords Go.Proofs.YthhifeefkmaeiaaW.PrintLast Go.Proofs.YthhifeefkmaeiaaW.PrintMore
set_option linter.unusedVariables false
set_option linter.unusedSimpArgs false
def asA (r : S45) : S45 := ⟨r.f0, r.f1, r.f2, r.f3, 65⟩
section
variable {m : ByteArray} {st sp mu tu : Int} {N : Nat} {R : Option Bool}
theorem again_end {q : Nat → S45} (hN : N ≤ 40000) (h1 : 1 ≤ N) (hq : ∀ s, s < N → (q s).f0 = s ∧ rdok (q s) ∧ fill_Gaps.good (q s) = true) :
    fill_Gaps.f m st sp N mu tu (fill_Fill.row q N) = some ([], 0) ∧ fill_Fill.f m st sp N mu tu (fill_Fill.row q N) 0 = some (fill_Fill.row q N, 0) := by
  obtain ⟨L', e1, e2⟩ := lay_full hq N 0 (-1) (fun _ => none) (by omega) (by omega)
  rw [List.drop_zero] at e1
  have hs : fill_Gaps.slots N (fill_Fill.row q N) = some L' := by unfold fill_Gaps.slots; rw [if_neg (by omega), e1]
  have hh : fill_Gaps.hs L' N 0 none = [] := hs_full N 0 (fun u _ hu => by rw [e2 u (by omega), if_pos (by omega)]; simp)
  refine ⟨?_, ?_⟩
  · rw [fill_Gaps.f, hs]; simp only [Int.toNat_natCast, hh]
  · rw [fill_Fill.f, hs]
    simp only [Int.toNat_natCast, hh]
    rw [if_neg (by simp [fill_Fill.open_]), fill_Fill.fold]
    simp only []
    rw [row_congr (o' := q) (fun s hs => by rw [e2 s hs, if_pos (by omega)]; rfl)]
theorem again_l0 (hN : N ≤ 40000) (h1 : 1 ≤ N) {o : Nat → S45} (ho : ∀ s, s < N → (o s).f0 = s ∧ rdok (o s)) (d : Nat) : ∀ (k i : Nat), i + d = N → 50000 + d < k →
    pylonlaw11_FillAgain.l0 k (N : Int) i m st sp N mu tu (fill_Fill.row (fun s => if s < i then asA (o s) else o s) N) = some true := by
  induction d with
  | zero =>
    intro k i hi hk
    obtain ⟨k, rfl⟩ : ∃ m, k = m + 1 := ⟨k - 1, by omega⟩
    rw [pylonlaw11_FillAgain.l0, if_neg (by omega), row_congr (o' := fun s => asA (o s)) (fun s hs => by rw [if_pos (by omega)]), copyf (by rw [row_len]; omega)]
    obtain ⟨e1, e2⟩ := again_end (m := m) (st := st) (sp := sp) (mu := mu) (tu := tu) (q := fun s => asA (o s)) hN h1 (fun s hs => ⟨(ho s hs).1, (ho s hs).2, rfl⟩)
    simp only [Option.bind_some, e1, e2]
    rw [if_pos trivial, if_pos (show ((([] : List S43).length : Nat) : Int) = 0 from rfl), if_pos trivial, samereads_f _ (by rw [row_len]; omega) (by rw [row_len]; omega)]
    rfl
  | succ d ih =>
    intro k i hi hk
    obtain ⟨k, rfl⟩ : ∃ m, k = m + 1 := ⟨k - 1, by omega⟩
    have IH := ih k (i + 1) (by omega) (by omega)
    rw [show ((i + 1 : Nat) : Int) = (i : Int) + 1 by omega] at IH
    rw [pylonlaw11_FillAgain.l0, if_pos (by omega), if_pos (by omega), if_pos (by rw [row_len]; omega), fw (n := (i : Int) + 1) (by omega) (by omega), row_rd (by omega), if_neg (by omega), Int.toNat_natCast, row_set (o' := fun s => if s < i + 1 then asA (o s) else o s) (by rw [if_pos (by omega)]; rfl) (fun t ht hne => ?_)]
    · exact IH
    · by_cases c : t < i
      · rw [if_pos c, if_pos (by omega)]
      · rw [if_neg c, if_neg (by omega)]
end
theorem FillAgain_pure (l0 : (ByteArray × Int × Int × Int × Int × Int × (List S45))) (a1 : Int) (h0 : (l0.1.size ≤ 140737488351232 ∧ ((Lit.int .i64 l0.2.1).wf = true ∧ ((Lit.int .i64 l0.2.2.1).wf = true ∧ ((Lit.int .i64 l0.2.2.2.1).wf = true ∧ ((Lit.int .i64 l0.2.2.2.2.1).wf = true ∧ ((Lit.int .i64 l0.2.2.2.2.2.1).wf = true ∧ (l0.2.2.2.2.2.2.length * 40 ≤ 140737488351232 ∧ ∀ p ∈ l0.2.2.2.2.2.2, W45 p)))))))) (h1 : (Lit.int .i64 a1).wf = true) : ∃ k, pylonlaw11_FillAgain.f k l0.1 l0.2.1 l0.2.2.1 l0.2.2.2.1 l0.2.2.2.2.1 l0.2.2.2.2.2.1 l0.2.2.2.2.2.2 a1 = some true := by
  obtain ⟨m, st, sp, n, mu, tu, rs⟩ := l0
  have hl : rs.length * 40 ≤ 140737488351232 := h0.2.2.2.2.2.2.1
  obtain ⟨C, hC⟩ : ∃ C : Nat, C = 100000 := ⟨_, rfl⟩
  refine ⟨C, ?_⟩
  show pylonlaw11_FillAgain.f C m st sp n mu tu rs a1 = some true
  rw [pylonlaw11_FillAgain.f, fawake (by omega)]
  simp only [Option.bind_some, if_true]
  rw [copyf hl]
  simp only [Option.bind_some]
  rcases ffill_cases m st sp n mu tu a1 rs with e | e | e | ⟨N, L, o, rfl, hN, hN1, hs, e, hf⟩
  · rw [e]; rfl
  · rw [e]; rfl
  · rw [e]; rfl
  · rw [e]
    have hfo := filled_ok hN hN1 hs hf
    simp only [Option.bind_some, if_true, List.nil_append, List.length_nil, row_len]
    rw [if_pos (by omega)]
    have := again_l0 (m := m) (st := st) (sp := sp) (mu := mu) (tu := tu) hN hN1 (o := o) (fun s hs => (hfo s hs).1) N C 0 (by omega) (by omega)
    rw [row_congr (o' := o) (fun s hs => by rw [if_neg (by omega)])] at this
    exact this
end Go.Proofs.Ythhifeefkmaeiaa.PX
