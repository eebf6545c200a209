/- All of holiday's answers are the document's. -/
import Derived.Test.YtegedhnbmclbkaaPXx2
import Derived.Test.YtegedhnbmclbkaaPXx3
import Derived.Test.YtegedhnbmclbkaaPXx4
import Derived.Test.YtegedhnbmclbkaaPXx6
import Derived.Test.YtegedhnbmclbkaaPXx8
import Derived.Test.YtegedhnbmclbkaaPXx9
import Derived.Test.YtegedhnbmclbkaaPXx11
import Derived.Test.YtegedhnbmclbkaaPXx13
import Derived.Test.YtegedhnbmclbkaaPXx16
import Derived.Test.YtegedhnbmclbkaaFhP
namespace Go.Proofs.Ytegedhnbmclbkaa.PX
open Go.RowKit Go.Proofs.YtegedhnbmclbkaaW.PrintWords Go.Proofs.YtegedhnbmclbkaaW.PrintLast Go.Proofs.YtegedhnbmclbkaaW.PrintMore
set_option linter.unusedVariables false
set_option linter.unusedSimpArgs false
theorem allop (k M : Nat) (hk : 11021 * M + 12100 ≤ k) (x : S43) (hw : W43 x) (hM : x.f2.length ≤ M) : ∃ r : Int × Int × Int × (List (S33)) × Bool × Int,
    pylonlaw05_plays.f k x.f0 x.f1.f0 x.f1.f1 x.f1.f2 x.f1.f3 x.f2 x.f3 x.f4.f0 x.f4.f1 x.f4.f2 = some r ∧ pylonlaw05_wants.f k x.f0 x.f1.f0 x.f1.f1 x.f1.f2 x.f1.f3 x.f2 x.f3 x.f4.f0 x.f4.f1 x.f4.f2 = some r ∧ pylonref13_SameDates.f k r.2.2.2.1 r.2.2.2.1 = some true := by
  obtain ⟨_, hw1, ⟨hl, hw2⟩, _, _⟩ := hw
  obtain ⟨hb, hc⟩ := wfH hw1
  have hl2 : x.f2.length ≤ 9000000000000 := by omega
  have hk2 : 11021 * x.f2.length + 12100 ≤ k := by omega
  have s0 : pylonref13_SameDates.f k ([] : List (S33)) [] = some true := hsame [] (by simp) (by simp; omega)
  unfold pylonlaw05_plays.f pylonlaw05_wants.f
  by_cases c1 : x.f0 = 1
  · have e1 : holiday_Check.f k x.f1.f0 x.f1.f1 x.f1.f2 x.f1.f3 = some (if hgood x.f1.f0 x.f1.f1 x.f1.f2 x.f1.f3 then 0 else 8) := by
      obtain ⟨j, rfl⟩ : ∃ j, k = j + 1 := ⟨k - 1, by omega⟩
      exact holcheck j _ _ _ _ hb hc
    have e2 : pylonref05_Check.f k x.f1.f0 x.f1.f1 x.f1.f2 x.f1.f3 = some (if hgood x.f1.f0 x.f1.f1 x.f1.f2 x.f1.f3 then 0 else 8) := by
      obtain ⟨j, rfl⟩ : ∃ j, k = j + 2 := ⟨k - 2, by omega⟩
      exact refhcheck j _ _ _ _
    rw [if_pos c1, if_pos c1, e1, e2]
    exact ⟨_, rfl, rfl, s0⟩
  · rw [if_neg c1, if_neg c1]
    by_cases c2 : x.f0 = 2
    · have e1 : holiday_Easter.f x.f3 = pylonref05_Easter.f x.f3 := rfl
      rw [if_pos c2, if_pos c2, e1]
      unfold pylonref05_Easter.f
      split
      · exact ⟨_, rfl, rfl, s0⟩
      · exact ⟨_, rfl, rfl, s0⟩
    · rw [if_neg c2, if_neg c2]
      by_cases c3 : x.f0 = 3
      · have e1 : holiday_On.f k x.f1.f0 x.f1.f1 x.f1.f2 x.f1.f3 x.f3 = some (hon x.f1.f0 x.f1.f1 x.f1.f2 x.f1.f3 x.f3) := by
          obtain ⟨j, rfl⟩ : ∃ j, k = j + 1 := ⟨k - 1, by omega⟩
          exact holon j _ _ _ _ _ hb hc
        have e2 : pylonref05_On.f k x.f1.f0 x.f1.f1 x.f1.f2 x.f1.f3 x.f3 = some (hon x.f1.f0 x.f1.f1 x.f1.f2 x.f1.f3 x.f3) := by
          obtain ⟨j, rfl⟩ : ∃ j, k = j + 11001 := ⟨k - 11001, by omega⟩
          exact refhon j _ _ _ _ _ hb hc
        rw [if_pos c3, if_pos c3, e1, e2]
        exact ⟨_, rfl, rfl, s0⟩
      · rw [if_neg c3, if_neg c3]
        by_cases c4 : x.f0 = 4
        · have hn := len_listE x.f2 x.f3
          rw [if_pos c4, if_pos c4, hollist x.f2 hw2 (by omega) hl2 x.f3, reflist x.f2 hw2 (by omega) hl2 x.f3]
          exact ⟨_, rfl, rfl, hsame (listE x.f2 x.f3).1 (by omega) (by omega)⟩
        · rw [if_neg c4, if_neg c4]
          by_cases c5 : x.f0 = 5
          · rw [if_pos c5, if_pos c5, holis x.f2 hw2 (by omega) hl2, refhis x.f2 hw2 (by omega) hl2]
            exact ⟨_, rfl, rfl, s0⟩
          · rw [if_neg c5, if_neg c5]
            exact ⟨_, rfl, rfl, s0⟩
theorem rdO (p L : List S43) (x : S43) (i : Int) (hi : i = p.length) : rd_T43 (p ++ x :: L) i = x := by
  subst hi
  unfold rd_T43
  simp [List.getD]
theorem allloop (M : Nat) : ∀ (q : List S43), (∀ x ∈ q, W43 x ∧ x.f2.length ≤ M) → ∀ (k : Nat) (p : List S43) (i N : Int), q.length + 11021 * M + 12200 ≤ k → i = p.length → N = (p ++ q).length → N ≤ 9000000000000 →
    pylonlaw05_HolidayAll.l0 k (p ++ q) N i = some true
  | [], _, k, p, i, N, hk, hi, hN, _ => by
    obtain ⟨k, rfl⟩ : ∃ j, k = j + 1 := ⟨k - 1, by omega⟩
    unfold pylonlaw05_HolidayAll.l0
    rw [if_neg (by subst hi hN; simp)]
  | x :: q, hw, k, p, i, N, hk, hi, hN, hb => by
    obtain ⟨k, rfl⟩ : ∃ j, k = j + 1 := ⟨k - 1, by omega⟩
    rw [List.length_cons] at hk
    have hlen : (p ++ x :: q).length = p.length + q.length + 1 := by simp; omega
    have nxt := allloop M q (fun z hz => hw z (List.mem_cons_of_mem _ hz)) k (p ++ [x]) (i + 1) N (by omega) (by rw [List.length_append, List.length_singleton]; omega) (by rw [hN]; simp) hb
    rw [List.append_assoc, List.singleton_append] at nxt
    obtain ⟨r, e1, e2, e3⟩ := allop k M (by omega) x (hw x (List.mem_cons_self ..)).1 (hw x (List.mem_cons_self ..)).2
    unfold pylonlaw05_HolidayAll.l0
    rw [rdO p q x i hi, if_pos (by omega), if_pos (by omega), if_pos (by omega), e1, e2, wr (n := i + 1) (by omega) (by omega)]
    simp only [Option.bind_some]
    rw [if_neg (by simp), if_neg (by simp), if_pos trivial, e3, Option.bind_some, if_pos rfl, nxt]
theorem allmax : ∀ (L : List S43), ∃ M, ∀ x ∈ L, x.f2.length ≤ M
  | [] => ⟨0, fun _ h => absurd h (List.not_mem_nil)⟩
  | x :: L => by
    obtain ⟨M, h⟩ := allmax L
    refine ⟨M + x.f2.length, fun z hz => ?_⟩
    rcases List.mem_cons.1 hz with rfl | hz
    · omega
    · have := h z hz; omega
theorem HolidayAll_pure (l0 : (List S43)) (h0 : (l0.length * 96 ≤ 140737488351232 ∧ ∀ p ∈ l0, W43 p)) : ∃ k, pylonlaw05_HolidayAll.f k l0 = some true := by
  obtain ⟨hl, hw⟩ := h0
  obtain ⟨M, hM⟩ := allmax l0
  refine ⟨l0.length + 11021 * M + 13000, ?_⟩
  unfold pylonlaw05_HolidayAll.f
  rw [easterawake, Option.bind_some, if_pos rfl]
  exact allloop M l0 (fun x hx => ⟨hw x hx, hM x hx⟩) _ [] 0 (l0.length : Int) (by omega) rfl rfl (by omega)
end Go.Proofs.Ytegedhnbmclbkaa.PX
