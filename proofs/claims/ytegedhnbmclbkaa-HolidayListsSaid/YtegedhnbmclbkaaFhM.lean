/- A year's list rises, and a date is in it just if it is a holiday. -/
import Derived.Test.YtegedhnbmclbkaaPXx2
import Derived.Test.YtegedhnbmclbkaaPXx9
import Derived.Test.YtegedhnbmclbkaaPXx10
import Derived.Test.YtegedhnbmclbkaaPXx13
import Derived.Test.YtegedhnbmclbkaaPXx17
import Derived.Test.YtegedhnbmclbkaaFhO
import Derived.Test.YtegedhnbmclbkaaFcRef
import Derived.Test.YtegedhnbmclbkaaFaR
namespace Go.Proofs.Ytegedhnbmclbkaa.PX
open Go.RowKit Go.Proofs.YtegedhnbmclbkaaW.PrintWords Go.Proofs.YtegedhnbmclbkaaW.PrintLast Go.Proofs.YtegedhnbmclbkaaW.PrintMore
set_option linter.unusedVariables false
set_option linter.unusedSimpArgs false
theorem rdDi (A : List S33) (i : Nat) (h : i < A.length) : rd_T33 A (i : Int) = A[i] := by
  unfold rd_T33
  simp [List.getD_eq_getElem?_getD, h]
theorem lists2 (L : List S25) (hw : ∀ x ∈ L, W25 x) (hl : L.length ≤ 9000000000000) (y m d : Int) (he : (hisE L y m d).2 = 0) : ∀ (q : List S33) (k : Nat) (p : List S33) (t : Bool) (i N : Int), q.length + 30 * L.length + 100 ≤ k → i = p.length → N = (p ++ q).length → N ≤ 9000000000000 →
    pylonlaw05_HolidayLists.l2 k L (p ++ q) t N i y m d = some ((hisE L y m d).1 == (t || q.any (hat y m d)))
  | [], k, p, t, i, N, hk, hi, hN, hB => by
    obtain ⟨k, rfl⟩ : ∃ q, k = q + 1 := ⟨k - 1, by omega⟩
    rw [pylonlaw05_HolidayLists.l2, if_neg (by simp at hN; omega), holis L hw (by omega) hl, Option.bind_some, if_pos he]
    simp
  | x :: q, k, p, t, i, N, hk, hi, hN, hB => by
    obtain ⟨k, rfl⟩ : ∃ q, k = q + 1 := ⟨k - 1, by omega⟩
    have hl : ((p ++ x :: q).length : Int) = p.length + q.length + 1 := by simp; omega
    simp only [List.length_cons] at hk
    have e : p ++ x :: q = (p ++ [x]) ++ q := by simp
    rw [pylonlaw05_HolidayLists.l2, if_pos (by omega), wr (n := i + 1) (by omega) (by omega), List.any_cons]
    have ih := fun t => lists2 L hw (by assumption) y m d he q k (p ++ [x]) t (i + 1) N (by omega) (by simp; omega) (by rw [← e]; exact hN) hB
    cases t
    · rw [if_neg (by simp), if_pos (by omega), if_pos (by omega), rdD p q x i hi, e, ih]
      rfl
    · rw [if_pos rfl, e, ih]
      rfl
theorem same_year {Y n : Int} (hY : 1 ≤ Y ∧ Y ≤ 9999) (h1 : Civ.dn Y 1 1 ≤ n) (h2 : n < Civ.dn Y 1 1 + 365) : Civ.ok (Civ.ofY n) (Civ.ofM n) (Civ.ofD n) ∧ Civ.ofY n = Y ∧ -719162 ≤ n ∧ n ≤ 2932896 := by
  have o : Civ.ok Y 1 1 := ⟨hY.1, hY.2, by omega, by omega, by omega, by have := Civ.len_bd Y 1; omega⟩
  have o2 : Civ.ok Y 12 31 := ⟨hY.1, hY.2, by omega, by omega, by omega, by unfold Civ.len; omega⟩
  have r1 := (Civ.dn_range o).1
  have r2 := (Civ.dn_range o2).2
  have e2 : Civ.dn Y 12 31 = Civ.dn Y 1 1 + 364 + Civ.lp Y := by unfold Civ.dn Civ.cum; simp; omega
  have l := Civ.lp_01 Y
  have h3 : -719162 ≤ n := by omega
  have h4 : n ≤ 2932896 := by omega
  obtain ⟨ok2, dn2⟩ := Civ.of_ok h3 h4
  have d2 := doy_in ok2
  rw [dn2] at d2
  have ea : Civ.dn Y 1 1 + 719162 = Civ.ahead Y := by unfold Civ.dn Civ.cum; simp
  have asx := Civ.ahead_succ Y
  refine ⟨ok2, ?_, h3, h4⟩
  generalize Civ.ofY n = Z at *
  refine Classical.byContradiction fun hn => ?_
  rcases Int.lt_or_lt_of_ne hn with q | q
  · have := Civ.ahead_mono (a := Z + 1) (b := Y) (by omega)
    omega
  · have := Civ.ahead_mono (a := Y + 1) (b := Z) (by omega)
    omega
theorem lists1 (L : List S25) (hw : ∀ x ∈ L, W25 x) (hl : L.length ≤ 9000000000000) (g : allg L = true) (Y : Int) (hY : 1 ≤ Y ∧ Y ≤ 9999) (a2 : Int) (A : List S33) (hA : A = holiday_List.srt (hfound L Y)) (m : Nat) : ∀ (k i : Nat), 2 * m + 30 * L.length + 20000 ≤ k → i + m = A.length →
    pylonlaw05_HolidayLists.l1 k L Y a2 A (A.length : Int) i = some true := by
  have hAl : A.length ≤ 372 := by rw [hA]; exact len_srt L Y
  induction m with
  | zero =>
    intro k i hk hi
    obtain ⟨k, rfl⟩ : ∃ q, k = q + 1 := ⟨k - 1, by omega⟩
    obtain ⟨k1, hk1⟩ : ∃ q, k = q + 20 := ⟨k - 20, by omega⟩
    obtain ⟨k2, hk2⟩ : ∃ q, k = q + 11000 := ⟨k - 11000, by omega⟩
    have rd_ : pylonref03_Days.f k Y 1 1 = some (Civ.dn Y 1 1, 0) := by
      rw [hk1, refdays, if_pos (show Civ.ok Y 1 1 from ⟨hY.1, hY.2, by omega, by omega, by omega, by have := Civ.len_bd Y 1; omega⟩)]
    have ro_ : ∀ n, -9223372036854775808 ≤ n ∧ n ≤ 9223372036854775807 → pylonref03_Of.f k n = some (ofE4 n) := fun n hn => by rw [hk2]; exact refof _ _ hn
    have o : Civ.ok Y 1 1 := ⟨hY.1, hY.2, by omega, by omega, by omega, by have := Civ.len_bd Y 1; omega⟩
    rw [pylonlaw05_HolidayLists.l1, if_neg (by omega), rd_, Option.bind_some]
    obtain ⟨r, hr⟩ : ∃ r, r = wrap64 (Int.tmod (IntKind.u64.wrap a2) 365) := ⟨_, rfl⟩
    rw [← hr]
    have hr2 : 0 ≤ r ∧ r < 365 := by
      have u : 0 ≤ IntKind.u64.wrap a2 := by simp [IntKind.wrap, IntKind.bits, IntKind.signed]; omega
      rw [tm u] at hr
      rw [wr (by omega) (by omega)] at hr
      omega
    have rg := Civ.dn_range o
    rw [wr (n := Civ.dn Y 1 1 + r) (by omega) (by omega), ro_ _ ⟨by omega, by omega⟩, Option.bind_some]
    obtain ⟨ok2, yr, n1, n2⟩ := same_year hY (n := Civ.dn Y 1 1 + r) (by omega) (by omega)
    unfold ofE4
    rw [if_pos ⟨n1, n2⟩]
    have he : hisE L (Civ.ofY (Civ.dn Y 1 1 + r)) (Civ.ofM (Civ.dn Y 1 1 + r)) (Civ.ofD (Civ.dn Y 1 1 + r)) = (L.any (hit (Civ.ofY (Civ.dn Y 1 1 + r)) (Civ.ofM (Civ.dn Y 1 1 + r)) (Civ.ofD (Civ.dn Y 1 1 + r))), 0) := by
      unfold hisE; rw [if_pos g, if_pos ok2]
    have l2 := lists2 L hw hl _ _ _ (by rw [he]) A k [] false 0 _ (by omega) rfl rfl (by simp; omega)
    rw [List.nil_append] at l2
    rw [l2, he, Bool.false_or]
    congr 1
    rw [beq_iff_eq]
    rw [Bool.eq_iff_iff, hat_any, hA, holiday_List.mem_srt, mem_hfound, yr]
    rw [show hit3 Y (Civ.ofM (Civ.dn Y 1 1 + r)) (Civ.ofD (Civ.dn Y 1 1 + r)) = hit Y (Civ.ofM (Civ.dn Y 1 1 + r)) (Civ.ofD (Civ.dn Y 1 1 + r)) from funext (hit_same _ _ _)]
    simp
  | succ m ih =>
    intro k i hk hi
    obtain ⟨k, rfl⟩ : ∃ q, k = q + 2 := ⟨k - 2, by omega⟩
    have hi2 : i < A.length := by omega
    have hm : A[i] ∈ holiday_List.srt (hfound L Y) := by rw [← hA]; exact List.getElem_mem hi2
    rw [holiday_List.mem_srt, mem_hfound] at hm
    obtain ⟨hm0, hm1⟩ := hm
    have o := hit3_ok hm1
    have he : hisE L A[i].f0 A[i].f1 A[i].f2 = (true, 0) := by
      unfold hisE
      rw [if_pos g, hm0, if_pos o, ← show hit3 Y A[i].f1 A[i].f2 = hit Y A[i].f1 A[i].f2 from funext (hit_same _ _ _), hm1]
    have hj : ∀ b, b = false → pylonlaw05_HolidayLists.j2 (k + 1) L Y a2 A i (A.length : Int) i b = some true := fun b hb => by
      subst hb
      rw [pylonlaw05_HolidayLists.j2, if_neg (by simp), if_pos (by omega), if_pos (by omega), rdDi A i hi2, holis L hw (by omega) hl, he, Option.bind_some, if_pos rfl, if_pos rfl, wr (n := (i : Int) + 1) (by omega) (by omega), show (i : Int) + 1 = ((i + 1 : Nat) : Int) by omega]
      exact ih k (i + 1) (by omega) (by omega)
    rw [show k + 2 = (k + 1) + 1 from rfl, pylonlaw05_HolidayLists.l1, if_pos (by omega), if_pos (by omega), if_pos (by omega), rdDi A i hi2, if_pos hm0]
    by_cases c : 0 < i
    · have hi3 : i - 1 < A.length := by omega
      have asx := holiday_List.asc_srt (hfound L Y)
      rw [← hA, holiday_List.Asc, List.pairwise_iff_getElem] at asx
      have lt := asx (i - 1) i hi3 hi2 (by omega)
      rw [← holiday_List.cmp_lt] at lt
      have lt := of_decide_eq_true lt
      rw [if_pos (by omega), wr (n := (i : Int) - 1) (by omega) (by omega), if_pos (by omega), if_pos (by omega), show (i : Int) - 1 = ((i - 1 : Nat) : Int) by omega, rdDi A (i - 1) hi3]
      unfold pylonref03_Compare.f
      rw [Option.bind_some]
      exact hj _ (decide_eq_false (by omega))
    · rw [if_neg (by omega)]
      exact hj _ rfl
theorem lists0 (Y a2 : Int) (A : List S33) (e : Int) (L : List S25) (K1 : Nat) (q : List S25) : ∀ (k : Nat) (p : List S25) (i N : Int), p ++ q = L → q.length + K1 + 10 ≤ k → i = p.length → N = (p ++ q).length → N ≤ 9000000000000 →
    (allg q = false → e = 8 ∧ A = []) → (allg q = true → e = 0 ∧ ∀ k, K1 ≤ k → pylonlaw05_HolidayLists.l1 k L Y a2 A (A.length : Int) 0 = some true) →
    pylonlaw05_HolidayLists.l0 k L Y a2 A e N i = some true := by
  induction q with
  | nil =>
    intro k p i N hL hk hi hN hB h1 h2
    obtain ⟨k, rfl⟩ : ∃ q, k = q + 1 := ⟨k - 1, by omega⟩
    obtain ⟨e0, h2⟩ := h2 rfl
    rw [pylonlaw05_HolidayLists.l0, if_neg (by simp at hN; omega), if_pos e0]
    exact h2 k (by omega)
  | cons x q ih =>
    intro k p i N hL hk hi hN hB h1 h2
    obtain ⟨k, rfl⟩ : ∃ q, k = q + 3 := ⟨k - 3, by omega⟩
    have hl : ((p ++ x :: q).length : Int) = p.length + q.length + 1 := by simp; omega
    simp only [List.length_cons] at hk
    have e1 : p ++ x :: q = (p ++ [x]) ++ q := by simp
    rw [show k + 3 = (k + 2) + 1 from rfl, pylonlaw05_HolidayLists.l0, if_pos (by omega), if_pos (by omega), if_pos (by rw [← hL]; omega), ← hL, rdH p q x i hi, refhcheck, Option.bind_some]
    by_cases g : hgood x.f0 x.f1 x.f2 x.f3
    · have eg : allg (x :: q) = allg q := by unfold allg; rw [List.all_cons, decide_eq_true g, Bool.true_and]
      rw [if_pos g, if_pos rfl, wr (n := i + 1) (by omega) (by omega), hL]
      rw [eg] at h1 h2
      exact ih (k + 2) (p ++ [x]) (i + 1) N (by rw [← e1]; exact hL) (by omega) (by simp; omega) (by rw [← e1]; exact hN) hB h1 h2
    · have eg : allg (x :: q) = false := by unfold allg; rw [List.all_cons, decide_eq_false g, Bool.false_and]
      obtain ⟨e8, rfl⟩ := h1 eg
      rw [if_neg g, if_neg (by omega), if_pos e8]
      rfl
theorem HolidayLists_pure (l0 : (List S25)) (a1 : Int) (a2 : Int) (h0 : (l0.length * 32 ≤ 140737488351232 ∧ ∀ p ∈ l0, W25 p)) (h1 : (Lit.int .i64 a1).wf = true) (h2 : (Lit.int .i64 a2).wf = true) : ∃ k, pylonlaw05_HolidayLists.f k l0 a1 a2 = some true := by
  obtain ⟨hl, hw⟩ := h0
  obtain ⟨Y, hY⟩ : ∃ Y, Y = wrap64 (1 + (wrap64 (Int.tmod (IntKind.u64.wrap (a1)) 9999))) := ⟨_, rfl⟩
  have hY2 : 1 ≤ Y ∧ Y ≤ 9999 := by
    have u : 0 ≤ IntKind.u64.wrap a1 := by simp [IntKind.wrap, IntKind.bits, IntKind.signed]; omega
    rw [tm u] at hY
    generalize IntKind.u64.wrap a1 = v at *
    rw [wr (n := v % 9999) (by omega) (by omega), wr (by omega) (by omega)] at hY
    omega
  refine ⟨31 * l0.length + 30000, ?_⟩
  unfold pylonlaw05_HolidayLists.f
  rw [easterawake, Option.bind_some, if_pos rfl, ← hY, hollist l0 hw (by omega) (by omega) Y, Option.bind_some]
  refine lists0 Y a2 _ _ l0 (30 * l0.length + 25000) l0 _ [] 0 (l0.length : Int) rfl (by omega) rfl rfl (by omega) (fun g => ?_) (fun g => ?_)
  · unfold listE
    rw [if_neg (by simp [g])]
    exact ⟨rfl, rfl⟩
  · have e : listE l0 Y = (holiday_List.srt (hfound l0 Y), 0) := by unfold listE; rw [if_pos g, if_neg (by omega)]
    rw [e]
    refine ⟨rfl, fun k hk => ?_⟩
    have hlen := len_srt l0 Y
    exact lists1 l0 hw (by omega) g Y hY2 a2 _ rfl (holiday_List.srt (hfound l0 Y)).length k 0 (by omega) (by omega)
end Go.Proofs.Ytegedhnbmclbkaa.PX
