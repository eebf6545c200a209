/- The order of holidays never shows. -/
import Derived.Test.YtegedhnbmclbkaaPXx2
import Derived.Test.YtegedhnbmclbkaaPXx6
import Derived.Test.YtegedhnbmclbkaaPXx14
import Derived.Test.YtegedhnbmclbkaaFhL
import Derived.Test.YtegedhnbmclbkaaFbEaster
namespace Go.Proofs.Ytegedhnbmclbkaa.PX
open Go.RowKit Go.Proofs.YtegedhnbmclbkaaW.PrintWords Go.Proofs.YtegedhnbmclbkaaW.PrintLast Go.Proofs.YtegedhnbmclbkaaW.PrintMore
set_option linter.unusedVariables false
set_option linter.unusedSimpArgs false
theorem hsamel (l : List S33) (hl : l.length ≤ 1000000) (m : Nat) : ∀ (k i : Nat), m + 1 ≤ k → i + m = l.length → pylonref13_SameDates.l0 k l l (l.length : Int) i = some true := by
  induction m with
  | zero =>
    intro k i hk hi
    obtain ⟨k, rfl⟩ : ∃ p, k = p + 1 := ⟨k - 1, by omega⟩
    rw [pylonref13_SameDates.l0, if_neg (by omega)]
  | succ m ih =>
    intro k i hk hi
    obtain ⟨k, rfl⟩ : ∃ p, k = p + 1 := ⟨k - 1, by omega⟩
    rw [pylonref13_SameDates.l0, if_pos (by omega), if_pos (by omega), if_pos (by omega), if_pos (by omega), if_neg (by simp), wr (n := (i : Int) + 1) (by omega) (by omega), show (i : Int) + 1 = ((i + 1 : Nat) : Int) by omega]
    exact ih k (i + 1) (by omega) (by omega)
theorem hsame {k : Nat} (l : List S33) (hl : l.length ≤ 1000000) (hk : l.length + 1 ≤ k) : pylonref13_SameDates.f k l l = some true := by
  unfold pylonref13_SameDates.f
  rw [if_pos rfl]
  exact hsamel l hl l.length k 0 hk (by omega)
theorem any_same {L M : List S25} (h : ∀ x, x ∈ L ↔ x ∈ M) (p : S25 → Bool) : L.any p = M.any p := by
  rw [Bool.eq_iff_iff, List.any_eq_true, List.any_eq_true]
  exact ⟨fun ⟨x, hx, q⟩ => ⟨x, (h x).1 hx, q⟩, fun ⟨x, hx, q⟩ => ⟨x, (h x).2 hx, q⟩⟩
theorem listE_same {L M : List S25} (h : ∀ x, x ∈ L ↔ x ∈ M) (y : Int) : listE L y = listE M y := by
  have e1 : allg L = allg M := by
    unfold allg
    rw [Bool.eq_iff_iff, List.all_eq_true, List.all_eq_true]
    exact ⟨fun q x hx => q x ((h x).2 hx), fun q x hx => q x ((h x).1 hx)⟩
  have e2 : holiday_List.srt (hfound L y) = holiday_List.srt (hfound M y) := by
    refine holiday_List.uniq (holiday_List.asc_srt _) (holiday_List.asc_srt _) fun z => ?_
    rw [holiday_List.mem_srt, holiday_List.mem_srt, mem_hfound, mem_hfound, any_same h]
  unfold listE
  rw [e1, e2]
theorem len_listE (L : List S25) (y : Int) : (listE L y).1.length ≤ 372 := by
  unfold listE
  split
  · split
    · simp
    · exact len_srt L y
  · simp
theorem orderloop (L : List S25) (hw : ∀ x ∈ L, W25 x) (hl : L.length ≤ 2000000) (y : Int) (j : Nat) : ∀ (k : Nat) (acc : List S25), j + 500 ≤ k → j ≤ L.length → acc.length + j ≤ 4000000 → (∀ x, x ∈ L ↔ x ∈ acc) →
    pylonlaw05_HolidayOrder.l0 k L y acc ((j : Int) - 1) = some true := by
  induction j with
  | zero =>
    intro k acc hk hj ha hm
    obtain ⟨k, rfl⟩ : ∃ q, k = q + 1 := ⟨k - 1, by omega⟩
    have hwa : ∀ x ∈ acc, W25 x := fun x hx => hw x ((hm x).2 hx)
    have n := len_listE L y
    rw [pylonlaw05_HolidayOrder.l0, if_neg (by omega), hollist L hw (by omega) (by omega), Option.bind_some, hollist acc hwa (by omega) (by omega), Option.bind_some, ← listE_same hm y, if_pos rfl, hsame _ (by omega) (by omega)]
    rfl
  | succ j ih =>
    intro k acc hk hj ha hm
    obtain ⟨k, rfl⟩ : ∃ q, k = q + 1 := ⟨k - 1, by omega⟩
    have hj2 : j < L.length := by omega
    have e : rd_T25 L (j : Int) = L[j] := by unfold rd_T25; simp [List.getD_eq_getElem?_getD, hj2]
    rw [show ((j + 1 : Nat) : Int) - 1 = (j : Int) by omega, pylonlaw05_HolidayOrder.l0, if_pos (by omega), if_pos (by omega), if_pos (by omega), if_pos (by omega), wr (n := (j : Int) - 1) (by omega) (by omega), e]
    refine ih k _ (by omega) (by omega) (by simp; omega) fun x => ?_
    rw [List.mem_append, List.mem_singleton, ← hm]
    exact ⟨fun h => .inl h, fun h => by rcases h with h | h; (· exact h); (· subst h; exact List.getElem_mem hj2)⟩
theorem HolidayOrder_upto (l0 : (List S25)) (a1 : Int) (hs : l0.length ≤ 2000000) (hw : ∀ p ∈ l0, W25 p) : ∃ k, pylonlaw05_HolidayOrder.f k l0 a1 = some true := by
  refine ⟨l0.length + 600, ?_⟩
  unfold pylonlaw05_HolidayOrder.f
  rw [easterawake, Option.bind_some, if_pos rfl, Option.bind_some, if_pos (by simp; omega), wr (by omega) (by omega), List.nil_append]
  exact orderloop l0 hw hs a1 l0.length _ l0 (by omega) (Nat.le_refl _) (by omega) (fun _ => Iff.rfl)
end Go.Proofs.Ytegedhnbmclbkaa.PX
