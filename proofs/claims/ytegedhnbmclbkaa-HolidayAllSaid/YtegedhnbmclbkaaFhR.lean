/- Holidays: the document's Check, On and Is, by the same plain rules. -/
import Derived.Test.YtegedhnbmclbkaaPXx9
import Derived.Test.YtegedhnbmclbkaaPXx11
import Derived.Test.YtegedhnbmclbkaaPXx12
import Derived.Test.YtegedhnbmclbkaaFhA
import Derived.Test.YtegedhnbmclbkaaFaR
import Derived.Test.YtegedhnbmclbkaaFeRef
namespace Go.Proofs.Ytegedhnbmclbkaa.PX
open Go.RowKit Go.Proofs.YtegedhnbmclbkaaW.PrintWords Go.Proofs.YtegedhnbmclbkaaW.PrintLast Go.Proofs.YtegedhnbmclbkaaW.PrintMore
set_option linter.unusedVariables false
set_option linter.unusedSimpArgs false
theorem refhcheck (k : Nat) (kd a b c : Int) : pylonref05_Check.f (k + 2) kd a b c = some (if hgood kd a b c then 0 else 8) := by
  unfold pylonref05_Check.f
  by_cases k1 : kd = 1
  · rw [if_pos k1, reflen]
    unfold Civ.lenE
    by_cases ca : 1 ≤ a ∧ a ≤ 12
    · rw [if_pos (show (1 : Int) ≤ 2000 ∧ (2000 : Int) ≤ 9999 ∧ 1 ≤ a ∧ a ≤ 12 from ⟨by omega, by omega, ca.1, ca.2⟩)]
      simp only [Option.bind_some, if_true]
      have h : hgood kd a b c ↔ b ≥ 1 ∧ b ≤ Civ.len 2000 a ∧ c = 0 := by unfold hgood; omega
      by_cases c1 : b ≥ 1
      · rw [if_pos c1]
        by_cases c2 : b ≤ Civ.len 2000 a
        · rw [if_pos c2]
          by_cases c3 : c = 0
          · rw [if_pos c3, if_pos (h.mpr ⟨c1, c2, c3⟩)]
          · rw [if_neg c3, if_neg (fun q => c3 (h.mp q).2.2)]
        · rw [if_neg c2, if_neg (fun q => c2 (h.mp q).2.1)]
      · rw [if_neg c1, if_neg (fun q => c1 (h.mp q).1)]
    · rw [if_neg (show ¬ ((1 : Int) ≤ 2000 ∧ (2000 : Int) ≤ 9999 ∧ 1 ≤ a ∧ a ≤ 12) from fun q => ca ⟨q.2.2.1, q.2.2.2⟩)]
      simp only [Option.bind_some]
      rw [if_neg (by omega), if_neg (by unfold hgood; omega)]
  rw [if_neg k1]
  by_cases k2 : kd = 2
  · rw [if_pos k2]
    repeat' split
    all_goals first | (unfold hgood at *; omega) | rfl
  rw [if_neg k2]
  by_cases k3 : kd = 3
  · rw [if_pos k3]
    repeat' split
    all_goals first | (unfold hgood at *; omega) | rfl
  rw [if_neg k3, if_neg (by unfold hgood; omega)]
theorem refhon (k : Nat) (kd a b c y : Int) (hb : i64h b) (hc : i64h c) : pylonref05_On.f (k + 11001) kd a b c y = some (hon kd a b c y) := by
  unfold pylonref05_On.f hon
  rw [show k + 11001 = (k + 10999) + 2 by omega, refhcheck, show k + 10999 + 2 = (k + 11000) + 1 by omega]
  simp only [Option.bind_some]
  by_cases g : hgood kd a b c
  · rw [if_pos g, if_pos g, if_pos rfl]
    by_cases y1 : y < 1
    · rw [if_pos y1, pylonref05_On.j0, if_pos rfl, if_neg (by omega)]
    rw [if_neg y1]
    by_cases y2 : y > 9999
    · rw [decide_eq_true y2, pylonref05_On.j0, if_pos rfl, if_neg (by omega)]
    have cy : 1 ≤ y ∧ y ≤ 9999 := by omega
    rw [decide_eq_false y2, pylonref05_On.j0, if_neg (by simp), if_pos cy]
    by_cases k1 : kd = 1
    · rw [if_pos k1, if_pos k1, show k + 11000 = (k + 10998) + 2 by omega, refis]
      have ca : 1 ≤ a ∧ a ≤ 12 ∧ 1 ≤ b := by unfold hgood at g; omega
      simp only [Option.bind_some]
      by_cases cb : b ≤ Civ.len y a
      · rw [if_pos (decide_eq_true ⟨cy.1, cy.2, ca.1, ca.2.1, ca.2.2, cb⟩), if_pos cb]
      · rw [if_neg (by simp only [decide_eq_true_eq]; exact fun o => cb o.2.2.2.2.2), if_neg cb]
    rw [if_neg k1, if_neg k1]
    by_cases k2 : kd = 2
    · rw [if_pos k2, if_pos k2, show k + 11000 = (k + 10900) + 100 by omega, refnth (k + 10900) y a b c hb hc]
      have ca : 1 ≤ a ∧ a ≤ 12 ∧ 1 ≤ b ∧ b ≤ 5 ∧ 0 ≤ c ∧ c ≤ 6 := by unfold hgood at g; omega
      rw [if_pos (show 1 ≤ y ∧ y ≤ 9999 ∧ 1 ≤ a ∧ a ≤ 12 from ⟨cy.1, cy.2, ca.1, ca.2.1⟩), if_pos ca.2.2]
      rfl
    rw [if_neg k2, if_neg k2]
    have ca : -100 ≤ a ∧ a ≤ 100 := by unfold hgood at g; omega
    obtain ⟨-, -, o, -⟩ := Civ.easter_at cy.1 cy.2
    unfold pylonref05_Easter.f
    rw [if_pos cy]
    simp only [Option.bind_some]
    rw [refadd k _ _ _ a (by omega), if_pos o]
    unfold ofE4
    simp only [Option.bind_some]
    split <;> rfl
  · rw [if_neg g, if_neg g, if_neg (by omega)]
theorem refall (L : List S25) : ∀ (k : Nat) (p : List S25) (i N : Int), L.length + 5 ≤ k → i = p.length → N = (p ++ L).length → N ≤ 9000000000000 →
    pylonref05_all.l0 k (p ++ L) N i = some (allg L) := by
  induction L with
  | nil =>
    intro k p i N hk hi hN hb
    obtain ⟨k, rfl⟩ : ∃ q, k = q + 1 := ⟨k - 1, by omega⟩
    rw [pylonref05_all.l0, if_neg (by simp at hN; omega)]
    rfl
  | cons x L ih =>
    intro k p i N hk hi hN hb
    obtain ⟨k, rfl⟩ : ∃ q, k = q + 3 := ⟨k - 3, by omega⟩
    have hl : ((p ++ x :: L).length : Int) = p.length + L.length + 1 := by simp; omega
    simp only [List.length_cons] at hk
    rw [show k + 3 = (k + 2) + 1 from rfl, pylonref05_all.l0, if_pos (by omega), if_pos (by omega), if_pos (by omega), rdH p L x i hi, refhcheck]
    simp only [Option.bind_some]
    by_cases g : hgood x.f0 x.f1 x.f2 x.f3
    · have e : p ++ x :: L = (p ++ [x]) ++ L := by simp
      rw [if_pos g, if_pos rfl, wr (n := i + 1) (by omega) (by omega), e]
      rw [ih (k + 2) (p ++ [x]) (i + 1) N (by omega) (by simp; omega) (by rw [← e]; exact hN) hb]
      rw [show allg (x :: L) = allg L by unfold allg; rw [List.all_cons, decide_eq_true g, Bool.true_and]]
    · rw [if_neg g, if_neg (by omega), show allg (x :: L) = false by unfold allg; rw [List.all_cons, decide_eq_false g, Bool.false_and]]
def hit3 (y m d : Int) (h : S25) : Bool := pm h (y - 1) y m d || (pm h y y m d || pm h (y + 1) y m d)
theorem pm_year {h : S25} (k3 : h.f0 ≠ 3) {Y y m d : Int} (p : pm h Y y m d = true) : Y = y := by
  unfold pm at p
  simp only [Bool.and_eq_true, decide_eq_true_eq, beq_iff_eq] at p
  obtain ⟨p1, p2, -, -⟩ := p
  unfold hon at p1 p2
  by_cases g : hgood h.f0 h.f1 h.f2 h.f3
  · rw [if_pos g] at p1 p2
    by_cases cy : 1 ≤ Y ∧ Y ≤ 9999
    · rw [if_pos cy] at p1 p2
      by_cases k1 : h.f0 = 1
      · rw [if_pos k1] at p1 p2
        split at p2
        · exact p2
        · rename_i q; rw [if_neg q] at p1; simp at p1
      · rw [if_neg k1] at p1 p2
        by_cases k2 : h.f0 = 2
        · rw [if_pos k2] at p2; exact p2
        · exfalso; unfold hgood at g; omega
    · rw [if_neg cy] at p1; simp at p1
  · rw [if_neg g] at p1; simp at p1
theorem hit_same (y m d : Int) (h : S25) : hit3 y m d h = hit y m d h := by
  unfold hit3 hit
  by_cases k3 : h.f0 = 3
  · rw [decide_eq_true k3, Bool.true_and]
    cases pm h (y - 1) y m d <;> cases pm h y y m d <;> rfl
  · rw [decide_eq_false k3, Bool.false_and, Bool.or_false]
    have a : pm h (y - 1) y m d = false := Bool.eq_false_iff.mpr (fun q => by have := pm_year k3 q; omega)
    have b : pm h (y + 1) y m d = false := Bool.eq_false_iff.mpr (fun q => by have := pm_year k3 q; omega)
    rw [a, b, Bool.false_or, Bool.or_false]
theorem falls1 (l0 : List S25) (N : Int) (i : Int) (x : S25) (hx : W25 x) (hr : rd_T25 l0 i = x) (h0 : 0 ≤ i) (h1 : i < (l0.length : Int)) (y m d : Int) (hy : 1 ≤ y ∧ y ≤ 9999) (R : Bool) (K : Nat)
    (hn : ∀ k, K ≤ k → pylonref05_falls.l0 k l0 N (wrap64 (i + 1)) y m d = some R) (k : Nat) (hk : K + 11020 ≤ k) :
    pylonref05_falls.l1 k l0 i (wrap64 (y - 1)) N i y m d = some (hit3 y m d x || R) := by
  obtain ⟨hb, hc⟩ := wfH hx
  have one : ∀ (j : Nat) (Y : Int) (R' : Bool), 11001 ≤ j → Y ≤ y + 1 → pylonref05_falls.l1 j l0 i (wrap64 (Y + 1)) N i y m d = some R' → pylonref05_falls.l1 (j + 1) l0 i Y N i y m d = some (pm x Y y m d || R') := by
    intro j Y R' hj hY hR
    have hon_ : pylonref05_On.f j x.f0 x.f1 x.f2 x.f3 Y = some (hon x.f0 x.f1 x.f2 x.f3 Y) := by
      obtain ⟨q, rfl⟩ : ∃ q, j = q + 11001 := ⟨j - 11001, by omega⟩
      exact refhon q _ _ _ _ _ hb hc
    rw [pylonref05_falls.l1, wr (n := y + 1) (by omega) (by omega), if_pos hY, if_pos h0, if_pos h1, hr, hon_]
    simp only [Option.bind_some]
    rw [hR]
    unfold pm
    by_cases c1 : (hon x.f0 x.f1 x.f2 x.f3 Y).2.2.2 = 0
    · rw [if_pos c1, decide_eq_true c1, Bool.true_and]
      by_cases c2 : ((hon x.f0 x.f1 x.f2 x.f3 Y).1 == y && ((hon x.f0 x.f1 x.f2 x.f3 Y).2.1 == m && ((hon x.f0 x.f1 x.f2 x.f3 Y).2.2.1 == d))) = true
      · rw [if_pos c2, c2, Bool.true_or]
      · rw [if_neg c2, Bool.eq_false_iff.mpr c2, Bool.false_or]
    · rw [if_neg c1, decide_eq_false c1, Bool.false_and, Bool.false_or]
  have e4 : ∀ j, K + 1 ≤ j → pylonref05_falls.l1 j l0 i (y + 2) N i y m d = some R := by
    intro j hj
    obtain ⟨j, rfl⟩ : ∃ q, j = q + 1 := ⟨j - 1, by omega⟩
    rw [pylonref05_falls.l1, wr (n := y + 1) (by omega) (by omega), if_neg (by omega)]
    exact hn _ (by omega)
  have e3 := fun j (h1 : 11001 ≤ j) (h2 : K + 1 ≤ j) => one j (y + 1) R h1 (by omega) (by rw [wr (n := y + 1 + 1) (by omega) (by omega), show y + 1 + 1 = y + 2 by omega]; exact e4 j h2)
  have e2 := fun j (h1 : 11001 ≤ j) (h2 : K + 1 ≤ j) => one (j + 1) y _ (by omega) (by omega) (by rw [wr (n := y + 1) (by omega) (by omega)]; exact e3 j h1 h2)
  have e1 := fun j (h1 : 11001 ≤ j) (h2 : K + 1 ≤ j) => one (j + 1 + 1) (y - 1) _ (by omega) (by omega) (by rw [wr (n := y - 1 + 1) (by omega) (by omega), show y - 1 + 1 = y by omega]; exact e2 j h1 h2)
  rw [wr (n := y - 1) (by omega) (by omega)]
  obtain ⟨j, hj⟩ : ∃ j, k = j + 1 + 1 + 1 := ⟨k - 3, by omega⟩
  rw [hj, e1 j (by omega) (by omega)]
  unfold hit3
  cases pm x (y - 1) y m d <;> cases pm x y y m d <;> rfl
theorem falls0 (y m d : Int) (hy : 1 ≤ y ∧ y ≤ 9999) (L : List S25) (hw : ∀ x ∈ L, W25 x) : ∀ (k : Nat) (p : List S25) (i N : Int), 11021 * L.length + 20 ≤ k → i = p.length → N = (p ++ L).length → N ≤ 9000000000000 →
    pylonref05_falls.l0 k (p ++ L) N i y m d = some (L.any (hit3 y m d)) := by
  induction L with
  | nil =>
    intro k p i N hk hi hN hb
    obtain ⟨k, rfl⟩ : ∃ q, k = q + 1 := ⟨k - 1, by omega⟩
    rw [pylonref05_falls.l0, if_neg (by simp at hN; omega)]
    rfl
  | cons x L ih =>
    intro k p i N hk hi hN hb
    obtain ⟨k, rfl⟩ : ∃ q, k = q + 1 := ⟨k - 1, by omega⟩
    have hl : ((p ++ x :: L).length : Int) = p.length + L.length + 1 := by simp; omega
    simp only [List.length_cons] at hk
    rw [pylonref05_falls.l0, if_pos (by omega), List.any_cons]
    refine falls1 (p ++ x :: L) N i x (hw x (by simp)) (rdH p L x i hi) (by omega) (by omega) y m d hy _ (11021 * L.length + 20) (fun k' hk' => ?_) k (by omega)
    have e : p ++ x :: L = (p ++ [x]) ++ L := by simp
    rw [wr (n := i + 1) (by omega) (by omega), e]
    exact ih (fun z hz => hw z (List.mem_cons_of_mem _ hz)) k' (p ++ [x]) (i + 1) N hk' (by simp; omega) (by rw [← e]; exact hN) hb
theorem refhis {k : Nat} (L : List S25) (hw : ∀ x ∈ L, W25 x) (hk : 11021 * L.length + 60 ≤ k) (hl : L.length ≤ 9000000000000) (y m d : Int) : pylonref05_Is.f k L y m d = some (hisE L y m d) := by
  obtain ⟨k, rfl⟩ : ∃ q, k = q + 2 := ⟨k - 2, by omega⟩
  unfold pylonref05_Is.f hisE pylonref05_all.f
  have a := refall L (k + 2) [] 0 L.length (by omega) rfl rfl (by omega)
  rw [List.nil_append] at a
  rw [a]
  simp only [Option.bind_some]
  by_cases g : allg L = true
  · rw [if_pos g, if_pos g, refis]
    simp only [Option.bind_some]
    by_cases o : Civ.ok y m d
    · rw [if_pos (decide_eq_true o), if_pos o]
      unfold pylonref05_falls.f
      have f := falls0 y m d ⟨o.1, o.2.1⟩ L hw (k + 2) [] 0 L.length (by omega) rfl rfl (by omega)
      rw [List.nil_append] at f
      rw [f]
      simp only [Option.bind_some]
      rw [show hit3 y m d = hit y m d from funext (hit_same y m d)]
    · rw [if_neg (by simp [o]), if_neg o]
  · rw [if_neg g, if_neg g]
end Go.Proofs.Ytegedhnbmclbkaa.PX
