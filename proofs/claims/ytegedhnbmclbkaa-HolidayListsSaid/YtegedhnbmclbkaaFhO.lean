/- The day on which a holiday falls is in the list of that day's year. -/
import Derived.Test.YtegedhnbmclbkaaPXx2
import Derived.Test.YtegedhnbmclbkaaPXx15
import Derived.Test.YtegedhnbmclbkaaFhL
import Derived.Test.YtegedhnbmclbkaaFbEaster
namespace Go.Proofs.Ytegedhnbmclbkaa.PX
open Go.RowKit Go.Proofs.YtegedhnbmclbkaaW.PrintWords Go.Proofs.YtegedhnbmclbkaaW.PrintLast Go.Proofs.YtegedhnbmclbkaaW.PrintMore
set_option linter.unusedVariables false
set_option linter.unusedSimpArgs false
theorem doy_in {y m d : Int} (o : Civ.ok y m d) : Civ.ahead y ≤ Civ.dn y m d + 719162 ∧ Civ.dn y m d + 719162 < Civ.ahead (y + 1) := by
  obtain ⟨_, _, o1, o2, o3, o4⟩ := o
  have b := Civ.doy_bd o1 o2 o3 o4
  have a := Civ.ahead_succ y
  unfold Civ.dn
  omega
theorem hon_year {kd a b c Y : Int} (h : (hon kd a b c Y).2.2.2 = 0) : (hon kd a b c Y).1 - 1 ≤ Y ∧ Y ≤ (hon kd a b c Y).1 + 1 := by
  have ok := hon_ok h
  unfold hon at h ok ⊢
  by_cases g : hgood kd a b c
  · rw [if_pos g] at h ok ⊢
    by_cases cy : 1 ≤ Y ∧ Y ≤ 9999
    · rw [if_pos cy] at h ok ⊢
      by_cases k1 : kd = 1
      · rw [if_pos k1] at h ok ⊢
        by_cases cb : b ≤ Civ.len Y a
        · rw [if_pos cb]; show Y - 1 ≤ Y ∧ Y ≤ Y + 1; omega
        · rw [if_neg cb] at h; exact absurd h (by simp)
      · rw [if_neg k1] at h ok ⊢
        by_cases k2 : kd = 2
        · rw [if_pos k2]; show Y - 1 ≤ Y ∧ Y ≤ Y + 1; omega
        · rw [if_neg k2] at h ok ⊢
          split
          · rename_i q
            rw [if_pos q] at ok
            have e := Civ.easter_at cy.1 cy.2
            have d1 := doy_in e.2.2.1
            obtain ⟨ok2, dn2⟩ := Civ.of_ok q.1 q.2
            have d2 := doy_in ok2
            rw [dn2] at d2
            have ha : -100 ≤ a ∧ a ≤ 100 := by unfold hgood at g; omega
            generalize Civ.dn Y (Civ.eNum Y / 31) (Civ.eNum Y % 31 + 1) = D at *
            show Civ.ofY (D + a) - 1 ≤ Y ∧ Y ≤ Civ.ofY (D + a) + 1
            generalize Civ.ofY (D + a) = Z at *
            have a1 := Civ.ahead_succ (Y + 1)
            have l1 := Civ.lp_01 (Y + 1)
            have a2 := Civ.ahead_succ (Z + 1)
            have l2 := Civ.lp_01 (Z + 1)
            refine ⟨?_, ?_⟩
            · refine Classical.byContradiction fun hn => ?_
              have := Civ.ahead_mono (a := Y + 1 + 1) (b := Z) (by omega)
              omega
            · refine Classical.byContradiction fun hn => ?_
              have := Civ.ahead_mono (a := Z + 1 + 1) (b := Y) (by omega)
              omega
          · rename_i q
            rw [if_neg q] at h; exact absurd h (by simp)
    · rw [if_neg cy] at h; exact absurd h (by simp)
  · rw [if_neg g] at h; exact absurd h (by simp)
theorem hon_no {kd a b c Y : Int} (h : (hon kd a b c Y).2.2.2 ≠ 0) : (hon kd a b c Y).1 = 0 ∧ (hon kd a b c Y).2.1 = 0 ∧ (hon kd a b c Y).2.2.1 = 0 ∧
    ((hon kd a b c Y).2.2.2 = 8 ∧ ¬ hgood kd a b c ∨ (hon kd a b c Y).2.2.2 = 5 ∧ (Y < 1 ∨ 9999 < Y) ∨ (hon kd a b c Y).2.2.2 = 7 ∧ kd ≠ 2) := by
  unfold hon at h ⊢
  by_cases g : hgood kd a b c
  · rw [if_pos g] at h ⊢
    by_cases cy : 1 ≤ Y ∧ Y ≤ 9999
    · rw [if_pos cy] at h ⊢
      by_cases k1 : kd = 1
      · rw [if_pos k1] at h ⊢
        by_cases cb : b ≤ Civ.len Y a
        · rw [if_pos cb] at h; exact absurd rfl h
        · rw [if_neg cb]; exact ⟨rfl, rfl, rfl, .inr (.inr ⟨rfl, by omega⟩)⟩
      · rw [if_neg k1] at h ⊢
        by_cases k2 : kd = 2
        · rw [if_pos k2] at h; exact absurd rfl h
        · rw [if_neg k2] at h ⊢
          split
          · rename_i q; rw [if_pos q] at h; exact absurd rfl h
          · exact ⟨rfl, rfl, rfl, .inr (.inr ⟨rfl, k2⟩)⟩
    · rw [if_neg cy]; exact ⟨rfl, rfl, rfl, .inr (.inl ⟨rfl, by omega⟩)⟩
  · rw [if_neg g]; exact ⟨rfl, rfl, rfl, .inl ⟨rfl, g⟩⟩
theorem hon_good {kd a b c Y : Int} (h : (hon kd a b c Y).2.2.2 = 0) : hgood kd a b c := by
  refine Classical.byContradiction fun g => ?_
  unfold hon at h
  rw [if_neg g] at h
  exact absurd h (by simp)
def hat (y m d : Int) (z : S33) : Bool := z.f0 == y && (z.f1 == m && (z.f2 == d))
theorem hat_any {l : List S33} {y m d : Int} : l.any (hat y m d) = true ↔ (⟨y, m, d⟩ : S33) ∈ l := by
  rw [List.any_eq_true]
  constructor
  · rintro ⟨z, hz, h⟩
    unfold hat at h
    simp only [Bool.and_eq_true, beq_iff_eq] at h
    cases z
    simp only at h
    obtain ⟨rfl, rfl, rfl⟩ := h
    exact hz
  · intro h
    exact ⟨_, h, by unfold hat; simp⟩
theorem rdD (p L : List S33) (x : S33) (i : Int) (hi : i = p.length) : rd_T33 (p ++ x :: L) i = x := by
  subst hi
  unfold rd_T33
  simp [List.getD_eq_getElem?_getD]
theorem honloop (kd a b c y m d : Int) (g : hgood kd a b c) (hb : i64h b) (hc : i64h c) : ∀ (L : List S33) (k : Nat) (p : List S33) (t : Bool) (i N : Int), L.length + 5 ≤ k → i = p.length → N = (p ++ L).length → N ≤ 9000000000000 →
    pylonlaw05_HolidayOn.l0 k (p ++ L) 0 t N i kd a b c y m d = some (t || L.any (hat y m d))
  | [], k, p, t, i, N, hk, hi, hN, hB => by
    obtain ⟨k, rfl⟩ : ∃ q, k = q + 2 := ⟨k - 2, by omega⟩
    rw [show k + 2 = (k + 1) + 1 from rfl, pylonlaw05_HolidayOn.l0, if_neg (by simp at hN; omega), if_pos rfl, holcheck k kd a b c hb hc, if_pos g]
    cases t
    · rw [if_neg (by simp)]; rfl
    · rw [if_pos rfl]; rfl
  | x :: L, k, p, t, i, N, hk, hi, hN, hB => by
    obtain ⟨k, rfl⟩ : ∃ q, k = q + 1 := ⟨k - 1, by omega⟩
    have hl : ((p ++ x :: L).length : Int) = p.length + L.length + 1 := by simp; omega
    simp only [List.length_cons] at hk
    have e : p ++ x :: L = (p ++ [x]) ++ L := by simp
    rw [pylonlaw05_HolidayOn.l0, if_pos (by omega), wr (n := i + 1) (by omega) (by omega), List.any_cons]
    have ih := fun t => honloop kd a b c y m d g hb hc L k (p ++ [x]) t (i + 1) N (by omega) (by simp; omega) (by rw [← e]; exact hN) hB
    cases t
    · rw [if_neg (by simp), if_pos (by omega), if_pos (by omega), rdD p L x i hi, e, ih]
      rfl
    · rw [if_pos rfl, e, ih]
      rfl
theorem HolidayOn_pure (l0 : S25) (a1 : Int) (h0 : W25 l0) (h1 : (Lit.int .i64 a1).wf = true) : ∃ k, pylonlaw05_HolidayOn.f k l0.f0 l0.f1 l0.f2 l0.f3 a1 = some true := by
  obtain ⟨hb, hc⟩ := wfH h0
  refine ⟨2000, ?_⟩
  unfold pylonlaw05_HolidayOn.f
  rw [easterawake, Option.bind_some, if_pos rfl, show (2000 : Nat) = 1999 + 1 from rfl, holon 1999 _ _ _ _ _ hb hc, Option.bind_some]
  by_cases e : (hon l0.f0 l0.f1 l0.f2 l0.f3 a1).2.2.2 = 0
  · have g := hon_good e
    have o := hon_ok e
    have yr := hon_year e
    rw [if_pos e, hollist [⟨l0.f0, l0.f1, l0.f2, l0.f3⟩] (fun x hx => by simp at hx; subst hx; exact h0) (by omega) (by simp) _, Option.bind_some]
    have hL : listE [⟨l0.f0, l0.f1, l0.f2, l0.f3⟩] (hon l0.f0 l0.f1 l0.f2 l0.f3 a1).1 = (holiday_List.srt (hfound [⟨l0.f0, l0.f1, l0.f2, l0.f3⟩] (hon l0.f0 l0.f1 l0.f2 l0.f3 a1).1), 0) := by
      unfold listE
      rw [if_pos (by unfold allg; simp [g]), if_neg (by have := o.1; have := o.2.1; omega)]
    rw [hL]
    have hlen := len_srt [⟨l0.f0, l0.f1, l0.f2, l0.f3⟩] (hon l0.f0 l0.f1 l0.f2 l0.f3 a1).1
    have lp := honloop l0.f0 l0.f1 l0.f2 l0.f3 (hon l0.f0 l0.f1 l0.f2 l0.f3 a1).1 (hon l0.f0 l0.f1 l0.f2 l0.f3 a1).2.1 (hon l0.f0 l0.f1 l0.f2 l0.f3 a1).2.2.1 g hb hc (holiday_List.srt (hfound [⟨l0.f0, l0.f1, l0.f2, l0.f3⟩] (hon l0.f0 l0.f1 l0.f2 l0.f3 a1).1)) (1999 + 1) [] false 0 _ (by omega) rfl rfl (by simp; omega)
    rw [List.nil_append] at lp
    rw [lp, Bool.false_or]
    congr 1
    rw [hat_any, holiday_List.mem_srt, mem_hfound]
    refine ⟨rfl, ?_⟩
    simp only [List.any_cons, List.any_nil, Bool.or_false]
    have P : pm ⟨l0.f0, l0.f1, l0.f2, l0.f3⟩ a1 (hon l0.f0 l0.f1 l0.f2 l0.f3 a1).1 (hon l0.f0 l0.f1 l0.f2 l0.f3 a1).2.1 (hon l0.f0 l0.f1 l0.f2 l0.f3 a1).2.2.1 = true := by
      unfold pm
      simp [e]
    unfold hit3
    rw [Bool.or_eq_true, Bool.or_eq_true]
    have : a1 = (hon l0.f0 l0.f1 l0.f2 l0.f3 a1).1 - 1 ∨ a1 = (hon l0.f0 l0.f1 l0.f2 l0.f3 a1).1 ∨ a1 = (hon l0.f0 l0.f1 l0.f2 l0.f3 a1).1 + 1 := by omega
    rcases this with q | q | q
    · refine .inl ?_
      rw [← q]; exact P
    · refine .inr (.inl ?_)
      have P' := P
      conv at P' => enter [1, 2]; rw [q]
      exact P'
    · refine .inr (.inr ?_)
      rw [← q]; exact P
  · obtain ⟨z0, z1, z2, z3⟩ := hon_no e
    rw [if_neg e, if_pos (by rw [z0, z1, z2]; rfl)]
    rcases z3 with ⟨z, g⟩ | ⟨z, g⟩ | ⟨z, g⟩
    · rw [if_pos z, holcheck 1999 _ _ _ _ hb hc, Option.bind_some, if_neg g, if_pos rfl]
    · rw [if_neg (by omega), if_pos z]
      by_cases c1 : a1 < 1
      · rw [if_pos c1]
      · rw [if_neg c1, if_pos (by omega)]
    · rw [if_neg (by omega), if_neg (by omega), if_pos z]
      simp [g]
end Go.Proofs.Ytegedhnbmclbkaa.PX
