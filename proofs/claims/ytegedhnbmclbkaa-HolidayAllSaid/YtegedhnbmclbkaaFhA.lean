/- Holidays: what the program's Check, On and Is say, by plain rules. -/
import Derived.Test.YtegedhnbmclbkaaPXx2
import Derived.Test.YtegedhnbmclbkaaPXx3
import Derived.Test.YtegedhnbmclbkaaPXx4
import Derived.Test.YtegedhnbmclbkaaPXx7
import Derived.Test.YtegedhnbmclbkaaFa
import Derived.Test.YtegedhnbmclbkaaFbNth
import Derived.Test.YtegedhnbmclbkaaEas
import Derived.Test.YtegedhnbmclbkaaRd
namespace Go.Proofs.Ytegedhnbmclbkaa.PX
open Go.RowKit Go.Proofs.YtegedhnbmclbkaaW.PrintWords Go.Proofs.YtegedhnbmclbkaaW.PrintLast Go.Proofs.YtegedhnbmclbkaaW.PrintMore
set_option linter.unusedVariables false
set_option linter.unusedSimpArgs false
def hgood (kd a b c : Int) : Prop := (kd = 1 ∧ 1 ≤ a ∧ a ≤ 12 ∧ 1 ≤ b ∧ b ≤ Civ.len 2000 a ∧ c = 0) ∨ (kd = 2 ∧ 1 ≤ a ∧ a ≤ 12 ∧ 1 ≤ b ∧ b ≤ 5 ∧ 0 ≤ c ∧ c ≤ 6) ∨ (kd = 3 ∧ -100 ≤ a ∧ a ≤ 100 ∧ b = 0 ∧ c = 0)
instance (kd a b c : Int) : Decidable (hgood kd a b c) := by unfold hgood; infer_instance
def i64h (x : Int) : Prop := -9223372036854775808 ≤ x ∧ x ≤ 9223372036854775807
theorem holcheck (k : Nat) (kd a b c : Int) (hb : i64h b) (hc : i64h c) : holiday_Check.f (k + 1) kd a b c = some (if hgood kd a b c then 0 else 8) := by
  unfold holiday_Check.f
  by_cases k1 : kd = 1
  · rw [if_pos k1]
    unfold civil_Length.f Civ.lenE
    by_cases ca : 1 ≤ a ∧ a ≤ 12
    · rw [if_pos (show (1 : Int) ≤ 2000 ∧ (2000 : Int) ≤ 9999 ∧ 1 ≤ a ∧ a ≤ 12 from ⟨by omega, by omega, ca.1, ca.2⟩)]
      simp only [Option.bind_some, if_true]
      have h : hgood kd a b c ↔ b ≥ 1 ∧ b ≤ Civ.len 2000 a ∧ c = 0 := by unfold hgood; omega
      by_cases c1 : b ≥ 1
      · rw [if_pos c1]
        by_cases c2 : b ≤ Civ.len 2000 a
        · rw [if_pos c2]
          by_cases c3 : c = 0
          · rw [if_pos c3, if_pos (h.mpr ⟨c1, c2, c3⟩)]
          · rw [if_neg c3, if_neg (fun q => c3 (h.mp q).2.2)]
        · rw [if_neg c2, if_neg (fun q => c2 (h.mp q).2.1)]
      · rw [if_neg c1, if_neg (fun q => c1 (h.mp q).1)]
    · rw [if_neg (show ¬ ((1 : Int) ≤ 2000 ∧ (2000 : Int) ≤ 9999 ∧ 1 ≤ a ∧ a ≤ 12) from fun q => ca ⟨q.2.2.1, q.2.2.2⟩)]
      simp only [Option.bind_some]
      rw [if_neg (by omega), if_neg (by unfold hgood; omega)]
  rw [if_neg k1]
  by_cases k2 : kd = 2
  · rw [if_pos k2, civnth k 2000 a b c hb hc]
    by_cases ca : 1 ≤ a ∧ a ≤ 12
    · rw [if_pos (show (1 : Int) ≤ 2000 ∧ (2000 : Int) ≤ 9999 ∧ 1 ≤ a ∧ a ≤ 12 from ⟨by omega, by omega, ca.1, ca.2⟩)]
      by_cases cb : 1 ≤ b ∧ b ≤ 5 ∧ 0 ≤ c ∧ c ≤ 6
      · rw [if_pos cb, if_pos (show hgood kd a b c by unfold hgood; omega)]; rfl
      · rw [if_neg cb, if_neg (show ¬ hgood kd a b c by unfold hgood; omega)]; rfl
    · rw [if_neg (show ¬ ((1 : Int) ≤ 2000 ∧ (2000 : Int) ≤ 9999 ∧ 1 ≤ a ∧ a ≤ 12) from fun q => ca ⟨q.2.2.1, q.2.2.2⟩), if_neg (show ¬ hgood kd a b c by unfold hgood; omega)]; rfl
  rw [if_neg k2]
  by_cases k3 : kd = 3
  · rw [if_pos k3]
    have h : hgood kd a b c ↔ a ≥ -100 ∧ a ≤ 100 ∧ b = 0 ∧ c = 0 := by unfold hgood; omega
    by_cases c1 : a ≥ -100
    · rw [if_pos c1]
      by_cases c2 : a ≤ 100
      · rw [if_pos c2]
        by_cases c3 : b = 0
        · rw [if_pos c3]
          by_cases c4 : c = 0
          · rw [if_pos c4, if_pos (h.mpr ⟨c1, c2, c3, c4⟩)]
          · rw [if_neg c4, if_neg (fun q => c4 (h.mp q).2.2.2)]
        · rw [if_neg c3, if_neg (fun q => c3 (h.mp q).2.2.1)]
      · rw [if_neg c2, if_neg (fun q => c2 (h.mp q).2.1)]
    · rw [if_neg c1, if_neg (fun q => c1 (h.mp q).1)]
  rw [if_neg k3, if_neg (by unfold hgood; omega)]
/-- the day on which a holiday falls by a year's rule -/
def hon (kd a b c y : Int) : Int × Int × Int × Int :=
  if hgood kd a b c then if 1 ≤ y ∧ y ≤ 9999 then
    if kd = 1 then if b ≤ Civ.len y a then (y, a, b, 0) else (0, 0, 0, 7)
    else if kd = 2 then (y, a, Civ.nth y a b c, 0)
    else if -719162 ≤ Civ.dn y (Civ.eNum y / 31) (Civ.eNum y % 31 + 1) + a ∧ Civ.dn y (Civ.eNum y / 31) (Civ.eNum y % 31 + 1) + a ≤ 2932896 then (Civ.ofY (Civ.dn y (Civ.eNum y / 31) (Civ.eNum y % 31 + 1) + a), Civ.ofM (Civ.dn y (Civ.eNum y / 31) (Civ.eNum y % 31 + 1) + a), Civ.ofD (Civ.dn y (Civ.eNum y / 31) (Civ.eNum y % 31 + 1) + a), 0) else (0, 0, 0, 7)
  else (0, 0, 0, 5) else (0, 0, 0, 8)
theorem civadd2 (y m d n : Int) (o : Civ.ok y m d) (hn : -100 ≤ n ∧ n ≤ 100) : civil_Add.f y m d n = some (if -719162 ≤ Civ.dn y m d + n ∧ Civ.dn y m d + n ≤ 2932896 then (Civ.ofY (Civ.dn y m d + n), Civ.ofM (Civ.dn y m d + n), Civ.ofD (Civ.dn y m d + n), 0) else (0, 0, 0, 5)) := by
  have rg := Civ.dn_range o
  unfold civil_Add.f
  rw [civdays, if_pos o]
  simp only [Option.bind_some, if_true]
  rw [wr (n := Civ.dn y m d + n) (by omega) (by omega)]
  unfold civil_Of.f
  generalize Civ.dn y m d = D at *
  by_cases c : -719162 ≤ D + n ∧ D + n ≤ 2932896
  · rw [if_pos c]
    repeat' split
    all_goals first | rfl | (exfalso; omega) | simp_all
  · rw [if_neg c]
    repeat' split
    all_goals first | rfl | (exfalso; omega) | simp_all
theorem holon (k : Nat) (kd a b c y : Int) (hb : i64h b) (hc : i64h c) : holiday_On.f (k + 1) kd a b c y = some (hon kd a b c y) := by
  unfold holiday_On.f hon
  rw [holcheck k kd a b c hb hc]
  simp only [Option.bind_some]
  by_cases g : hgood kd a b c
  · rw [if_pos g, if_pos g, if_pos rfl]
    unfold holiday_Easter.f
    by_cases cy : 1 ≤ y ∧ y ≤ 9999
    · rw [if_pos cy, if_pos cy]
      simp only [Option.bind_some, if_true]
      by_cases k1 : kd = 1
      · rw [if_pos k1, if_pos k1]
        unfold civil_Length.f Civ.lenE
        have ca : 1 ≤ a ∧ a ≤ 12 := by unfold hgood at g; omega
        rw [if_pos (show 1 ≤ y ∧ y ≤ 9999 ∧ 1 ≤ a ∧ a ≤ 12 from ⟨cy.1, cy.2, ca.1, ca.2⟩)]
        simp only [Option.bind_some]
        by_cases cb : b ≤ Civ.len y a
        · rw [if_neg (by omega), if_pos cb]
        · rw [if_pos (by omega), if_neg cb]
      rw [if_neg k1, if_neg k1]
      by_cases k2 : kd = 2
      · rw [if_pos k2, if_pos k2, civnth k y a b c hb hc]
        have ca : 1 ≤ a ∧ a ≤ 12 ∧ 1 ≤ b ∧ b ≤ 5 ∧ 0 ≤ c ∧ c ≤ 6 := by unfold hgood at g; omega
        rw [if_pos (show 1 ≤ y ∧ y ≤ 9999 ∧ 1 ≤ a ∧ a ≤ 12 from ⟨cy.1, cy.2, ca.1, ca.2.1⟩), if_pos ca.2.2]
        rfl
      rw [if_neg k2, if_neg k2]
      have ca : -100 ≤ a ∧ a ≤ 100 := by unfold hgood at g; omega
      obtain ⟨-, -, o, -⟩ := Civ.easter_at cy.1 cy.2
      rw [civadd2 _ _ _ _ o ca]
      simp only [Option.bind_some]
      split <;> rfl
    · rw [if_neg cy, if_neg cy]; rfl
  · rw [if_neg g, if_neg g, if_neg (by omega)]
def allg (L : List S25) : Bool := L.all (fun h => decide (hgood h.f0 h.f1 h.f2 h.f3))
def pm (h : S25) (Y y m d : Int) : Bool := decide ((hon h.f0 h.f1 h.f2 h.f3 Y).2.2.2 = 0) && ((hon h.f0 h.f1 h.f2 h.f3 Y).1 == y && ((hon h.f0 h.f1 h.f2 h.f3 Y).2.1 == m && ((hon h.f0 h.f1 h.f2 h.f3 Y).2.2.1 == d)))
def hit (y m d : Int) (h : S25) : Bool := pm h y y m d || (decide (h.f0 = 3) && (pm h (y - 1) y m d || pm h (y + 1) y m d))
def hisE (L : List S25) (y m d : Int) : Bool × Int := if allg L = true then if Civ.ok y m d then (L.any (hit y m d), 0) else (false, 5) else (false, 8)
theorem rdH (p L : List S25) (x : S25) (i : Int) (hi : i = p.length) : rd_T25 (p ++ x :: L) i = x := by
  subst hi
  unfold rd_T25
  simp
theorem wfH {x : S25} (h : W25 x) : i64h x.f2 ∧ i64h x.f3 := ⟨wf64 h.2.2.1, wf64 h.2.2.2⟩
theorem isl2 (l0 : List S25) (N i : Int) (x : S25) (hx : W25 x) (y m d : Int) (hy : 1 ≤ y ∧ y ≤ 9999) (R : Bool × Int) (K : Nat)
    (hn : ∀ k, K ≤ k → holiday_Is.l1 k l0 N (wrap64 (i + 1)) y m d = some R) (k : Nat) (hk : K + 10 ≤ k) :
    holiday_Is.l2 k l0 N i 0 (wrap64 (y - 1)) (wrap64 (y + 1)) y m d x.f0 x.f1 x.f2 x.f3 = some (if (pm x (y - 1) y m d || pm x (y + 1) y m d) = true then (true, 0) else R) := by
  obtain ⟨k, rfl⟩ : ∃ q, k = q + 4 := ⟨k - 4, by omega⟩
  obtain ⟨hb, hc⟩ := wfH hx
  rw [wr (n := y - 1) (by omega) (by omega), wr (n := y + 1) (by omega) (by omega)]
  have w1 : wrap64 (0 + 1) = 1 := by rw [wr (n := 0 + 1) (by omega) (by omega)]; rfl
  have w2 : wrap64 (1 + 1) = 2 := by rw [wr (n := 1 + 1) (by omega) (by omega)]; rfl
  have E1 : holiday_Is.l2 (k + 3) l0 N i (wrap64 (0 + 1)) (y - 1) (y + 1) y m d x.f0 x.f1 x.f2 x.f3 = some (if pm x (y + 1) y m d = true then (true, 0) else R) := by
    have E2 : holiday_Is.l2 (k + 2) l0 N i (wrap64 (wrap64 (0 + 1) + 1)) (y - 1) (y + 1) y m d x.f0 x.f1 x.f2 x.f3 = some R := by
      rw [w1, w2, show k + 2 = (k + 1) + 1 from rfl, holiday_Is.l2, if_neg (by omega)]
      exact hn (k + 1) (by omega)
    rw [w1] at E2 ⊢
    rw [show k + 3 = (k + 2) + 1 from rfl, holiday_Is.l2, if_pos (by omega), if_neg (by omega), if_pos rfl, show k + 2 = (k + 1) + 1 from rfl, holon (k + 1) _ _ _ _ _ hb hc]
    simp only [Option.bind_some]
    unfold pm
    by_cases c1 : (hon x.f0 x.f1 x.f2 x.f3 (y + 1)).2.2.2 = 0
    · rw [if_pos c1, decide_eq_true c1, Bool.true_and]
      split
      · rfl
      · exact E2
    · rw [if_neg c1, decide_eq_false c1, Bool.false_and, if_neg (by simp)]
      exact E2
  rw [show k + 4 = (k + 3) + 1 from rfl, holiday_Is.l2, if_pos (by omega), if_pos rfl]
  rw [show holiday_On.f (k + 3) x.f0 x.f1 x.f2 x.f3 (y - 1) = some (hon x.f0 x.f1 x.f2 x.f3 (y - 1)) from holon (k + 2) _ _ _ _ _ hb hc]
  simp only [Option.bind_some]
  have e : (pm x (y - 1) y m d || pm x (y + 1) y m d) = if pm x (y - 1) y m d = true then true else pm x (y + 1) y m d := by cases pm x (y - 1) y m d <;> rfl
  rw [e]
  by_cases c1 : (hon x.f0 x.f1 x.f2 x.f3 (y - 1)).2.2.2 = 0
  · rw [if_pos c1]
    by_cases c2 : ((hon x.f0 x.f1 x.f2 x.f3 (y - 1)).1 == y && ((hon x.f0 x.f1 x.f2 x.f3 (y - 1)).2.1 == m && ((hon x.f0 x.f1 x.f2 x.f3 (y - 1)).2.2.1 == d))) = true
    · rw [if_pos c2, if_pos (show pm x (y - 1) y m d = true by unfold pm; rw [decide_eq_true c1, c2]; rfl), if_pos rfl]
    · rw [if_neg c2, if_neg (show ¬ pm x (y - 1) y m d = true by unfold pm; rw [decide_eq_true c1, Bool.true_and]; exact c2)]
      exact E1
  · rw [if_neg c1, if_neg (show ¬ pm x (y - 1) y m d = true by unfold pm; rw [decide_eq_false c1]; simp)]
    exact E1
theorem isl1 (y m d : Int) (hy : 1 ≤ y ∧ y ≤ 9999) (L : List S25) (hw : ∀ x ∈ L, W25 x) : ∀ (k : Nat) (p : List S25) (i N : Int), 20 * L.length + 20 ≤ k → i = p.length → N = (p ++ L).length → N ≤ 9000000000000 →
    holiday_Is.l1 k (p ++ L) N i y m d = some (L.any (hit y m d), 0) := by
  induction L with
  | nil =>
    intro k p i N hk hi hN hb
    obtain ⟨k, rfl⟩ : ∃ q, k = q + 1 := ⟨k - 1, by omega⟩
    rw [holiday_Is.l1, if_neg (by simp at hN; omega)]
    rfl
  | cons x L ih =>
    intro k p i N hk hi hN hb
    obtain ⟨k, rfl⟩ : ∃ q, k = q + 2 := ⟨k - 2, by omega⟩
    have hl : ((p ++ x :: L).length : Int) = p.length + L.length + 1 := by simp; omega
    simp only [List.length_cons] at hk
    have wx := hw x (by simp)
    obtain ⟨hb2, hc2⟩ := wfH wx
    have nxt : ∀ k', 20 * L.length + 20 ≤ k' → holiday_Is.l1 k' (p ++ x :: L) N (wrap64 (i + 1)) y m d = some (L.any (hit y m d), 0) := by
      intro k' hk'
      have e : p ++ x :: L = (p ++ [x]) ++ L := by simp
      rw [wr (n := i + 1) (by omega) (by omega), e]
      exact ih (fun z hz => hw z (List.mem_cons_of_mem _ hz)) k' (p ++ [x]) (i + 1) N hk' (by simp; omega) (by rw [← e]; exact hN) hb
    have j2f : holiday_Is.j2 (k + 1) (p ++ x :: L) N i false y m d x.f0 x.f1 x.f2 x.f3 = some (if (decide (x.f0 = 3) && (pm x (y - 1) y m d || pm x (y + 1) y m d)) = true then (true, 0) else (L.any (hit y m d), 0)) := by
      rw [holiday_Is.j2, if_neg (by simp)]
      by_cases k3 : x.f0 = 3
      · rw [if_pos k3, decide_eq_true k3, Bool.true_and]
        exact isl2 (p ++ x :: L) N i x wx y m d hy _ (20 * L.length + 20) nxt k (by omega)
      · rw [if_neg k3, decide_eq_false k3, Bool.false_and, if_neg (by simp)]
        exact nxt k (by omega)
    have j2t : holiday_Is.j2 (k + 1) (p ++ x :: L) N i true y m d x.f0 x.f1 x.f2 x.f3 = some (true, 0) := by rw [holiday_Is.j2, if_pos rfl]
    rw [show k + 2 = (k + 1) + 1 from rfl, holiday_Is.l1, if_pos (by omega), if_pos (by omega), if_pos (by omega), rdH p L x i hi, holon k _ _ _ _ _ hb2 hc2]
    simp only [Option.bind_some, List.any_cons]
    have fin : (if (pm x y y m d) = true then some (true, (0 : Int)) else some (if (decide (x.f0 = 3) && (pm x (y - 1) y m d || pm x (y + 1) y m d)) = true then (true, 0) else (L.any (hit y m d), 0))) = some ((hit y m d x || L.any (hit y m d)), 0) := by
      unfold hit
      cases pm x y y m d
      · cases (decide (x.f0 = 3) && (pm x (y - 1) y m d || pm x (y + 1) y m d)) <;> rfl
      · rfl
    rw [← fin]
    by_cases c1 : (hon x.f0 x.f1 x.f2 x.f3 y).2.2.2 = 0
    · rw [if_pos c1]
      by_cases c2 : ((hon x.f0 x.f1 x.f2 x.f3 y).1 == y && ((hon x.f0 x.f1 x.f2 x.f3 y).2.1 == m && ((hon x.f0 x.f1 x.f2 x.f3 y).2.2.1 == d))) = true
      · rw [c2, j2t, if_pos (show pm x y y m d = true by unfold pm; rw [decide_eq_true c1, c2]; rfl)]
      · rw [if_neg (show ¬ pm x y y m d = true by unfold pm; rw [decide_eq_true c1, Bool.true_and]; exact c2), Bool.eq_false_iff.mpr c2, j2f]
    · rw [if_neg c1, j2f, if_neg (show ¬ pm x y y m d = true by unfold pm; rw [decide_eq_false c1]; simp)]
theorem isl0 (y m d : Int) (l0 : List S25) (R : Bool × Int) (K : Nat) (hn : ∀ k, K ≤ k → ((civil_Days.f y m d).bind fun bt => (if bt.2 = 0 then (holiday_Is.l1 k l0 (l0.length : Int) 0 y m d) else (some (false, bt.2)))) = some R)
    (L : List S25) (hw : ∀ x ∈ L, W25 x) : ∀ (k : Nat) (p : List S25) (i N : Int), L.length + K + 5 ≤ k → i = p.length → N = (p ++ L).length → N ≤ 9000000000000 →
    holiday_Is.l0 k l0 (p ++ L) N i y m d = some (if allg L = true then R else (false, 8)) := by
  induction L with
  | nil =>
    intro k p i N hk hi hN hb
    obtain ⟨k, rfl⟩ : ∃ q, k = q + 1 := ⟨k - 1, by omega⟩
    rw [holiday_Is.l0, if_neg (by simp at hN; omega), if_pos (show allg [] = true from rfl)]
    exact hn k (by omega)
  | cons x L ih =>
    intro k p i N hk hi hN hb
    obtain ⟨k, rfl⟩ : ∃ q, k = q + 2 := ⟨k - 2, by omega⟩
    have hl : ((p ++ x :: L).length : Int) = p.length + L.length + 1 := by simp; omega
    simp only [List.length_cons] at hk
    have wx := hw x (by simp)
    obtain ⟨hb2, hc2⟩ := wfH wx
    rw [show k + 2 = (k + 1) + 1 from rfl, holiday_Is.l0, if_pos (by omega), if_pos (by omega), if_pos (by omega), rdH p L x i hi, holcheck k _ _ _ _ hb2 hc2]
    simp only [Option.bind_some]
    by_cases g : hgood x.f0 x.f1 x.f2 x.f3
    · have e : p ++ x :: L = (p ++ [x]) ++ L := by simp
      rw [if_pos g, if_pos rfl, wr (n := i + 1) (by omega) (by omega), e]
      rw [ih (fun z hz => hw z (List.mem_cons_of_mem _ hz)) (k + 1) (p ++ [x]) (i + 1) N (by omega) (by simp; omega) (by rw [← e]; exact hN) hb]
      rw [show allg (x :: L) = allg L by unfold allg; rw [List.all_cons, decide_eq_true g, Bool.true_and]]
    · rw [if_neg g, if_neg (by omega), if_neg (show ¬ allg (x :: L) = true by unfold allg; rw [List.all_cons, decide_eq_false g]; simp)]
theorem holis {k : Nat} (L : List S25) (hw : ∀ x ∈ L, W25 x) (hk : 30 * L.length + 60 ≤ k) (hl : L.length ≤ 9000000000000) (y m d : Int) : holiday_Is.f k L y m d = some (hisE L y m d) := by
  unfold holiday_Is.f hisE
  have h := isl0 y m d L (if Civ.ok y m d then (L.any (hit y m d), 0) else (false, 5)) (20 * L.length + 20) (fun k' hk' => by
    rw [civdays]
    simp only [Option.bind_some]
    by_cases o : Civ.ok y m d
    · rw [if_pos o, if_pos o]
      simp only [if_true]
      have := isl1 y m d ⟨o.1, o.2.1⟩ L hw k' [] 0 L.length (by omega) rfl rfl (by omega)
      rw [List.nil_append] at this
      exact this
    · rw [if_neg o, if_neg o]; rfl) L hw k [] 0 L.length (by omega) rfl rfl (by omega)
  rw [List.nil_append] at h
  exact h
end Go.Proofs.Ytegedhnbmclbkaa.PX
