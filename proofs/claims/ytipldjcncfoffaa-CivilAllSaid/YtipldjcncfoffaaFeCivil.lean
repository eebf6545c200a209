/- CivilAll: every call, in every order: the program and the second program answer alike (no conditions). -/
import Derived.Test.YtipldjcncfoffaaPXx6
import Derived.Test.YtipldjcncfoffaaPXx7
import Derived.Test.YtipldjcncfoffaaPXx12
import Derived.Test.YtipldjcncfoffaaPXx13
import Derived.Test.YtipldjcncfoffaaPXx14
import Derived.Test.YtipldjcncfoffaaPXx15
import Derived.Test.YtipldjcncfoffaaPXx25
import Derived.Test.YtipldjcncfoffaaFeRef
import Derived.Test.YtipldjcncfoffaaRd
namespace Go.Proofs.Ytipldjcncfoffaa.PX
open Go.RowKit Go.Proofs.YtipldjcncfoffaaW.PrintWords Go.Proofs.YtipldjcncfoffaaW.PrintLast Go.Proofs.YtipldjcncfoffaaW.PrintMore
set_option linter.unusedVariables false
set_option linter.unusedSimpArgs false
theorem reftext (k : Nat) (y m d : Int) : pylonref03_Text.f (k + 2) y m d = some (Civ.textE y m d) := by
  unfold pylonref03_Text.f Civ.textE
  rw [refis]
  simp only [Option.bind_some]
  by_cases c : Civ.ok y m d
  · have l := Civ.len_bd y m
    obtain ⟨c1, c2, c3, c4, c5, c6⟩ := id c
    rw [decide_eq_true c, if_pos rfl, if_pos (by omega), if_pos c]
  · rw [decide_eq_false c, if_neg (by simp), if_neg c]
theorem dig_bt {b : UInt8} (h1 : 48 ≤ (b.toNat : Int)) (h2 : (b.toNat : Int) ≤ 57) {n : Int} (e : n % 10 = (b.toNat : Int) - 48) : Civ.dig n = b := by
  unfold Civ.dig
  rw [e, show (48 + ((b.toNat : Int) - 48)).toNat = b.toNat by omega]
  exact UInt8.ofNat_toNat
theorem dig_nat (n : Int) : ((Civ.dig n).toNat : Int) = 48 + n % 10 := by
  unfold Civ.dig
  rw [UInt8.toNat_ofNat']
  have : (48 + n % 10).toNat < 256 := by omega
  rw [Nat.mod_eq_of_lt this]
  omega
theorem refread (k : Nat) (s : ByteArray) : pylonref03_Read.f (k + 2) s = civil_Read.f s := by
  unfold pylonref03_Read.f civil_Read.f
  by_cases hs : s.size = 10
  · obtain ⟨b0, b1, b2, b3, b4, b5, b6, b7, b8, b9, rfl⟩ := civil_Read.ten s hs
    rw [if_pos hs, refis]
    have e0 : pylonref03_Read.st ⟨#[b0, b1, b2, b3, b4, b5, b6, b7, b8, b9]⟩ 10 = ((((0 * 10 + ((b0.toNat : Int) - 48)) * 10 + ((b1.toNat : Int) - 48)) * 10 + ((b2.toNat : Int) - 48)) * 10 + ((b3.toNat : Int) - 48), (0 * 10 + ((b5.toNat : Int) - 48)) * 10 + ((b6.toNat : Int) - 48), (0 * 10 + ((b8.toNat : Int) - 48)) * 10 + ((b9.toNat : Int) - 48)) := rfl
    have e1 : civil_Read.n0 ⟨#[b0, b1, b2, b3, b4, b5, b6, b7, b8, b9]⟩ = 10 * (10 * (10 * ((b0.toNat : Int) - 48) + (b1.toNat : Int) - 48) + (b2.toNat : Int) - 48) + (b3.toNat : Int) - 48 := rfl
    have e2 : civil_Read.n5 ⟨#[b0, b1, b2, b3, b4, b5, b6, b7, b8, b9]⟩ = 10 * ((b5.toNat : Int) - 48) + (b6.toNat : Int) - 48 := rfl
    have e3 : civil_Read.n8 ⟨#[b0, b1, b2, b3, b4, b5, b6, b7, b8, b9]⟩ = 10 * ((b8.toNat : Int) - 48) + (b9.toNat : Int) - 48 := rfl
    have f1 : (pylonref03_Read.st ⟨#[b0, b1, b2, b3, b4, b5, b6, b7, b8, b9]⟩ 10).1 = civil_Read.n0 ⟨#[b0, b1, b2, b3, b4, b5, b6, b7, b8, b9]⟩ := by rw [e0, e1]; dsimp only; omega
    have f2 : (pylonref03_Read.st ⟨#[b0, b1, b2, b3, b4, b5, b6, b7, b8, b9]⟩ 10).2.1 = civil_Read.n5 ⟨#[b0, b1, b2, b3, b4, b5, b6, b7, b8, b9]⟩ := by rw [e0, e2]; dsimp only; omega
    have f3 : (pylonref03_Read.st ⟨#[b0, b1, b2, b3, b4, b5, b6, b7, b8, b9]⟩ 10).2.2 = civil_Read.n8 ⟨#[b0, b1, b2, b3, b4, b5, b6, b7, b8, b9]⟩ := by rw [e0, e3]; dsimp only; omega
    rw [f1, f2, f3]
    have ha : pylonref03_Read.all ⟨#[b0, b1, b2, b3, b4, b5, b6, b7, b8, b9]⟩ = ((decide (48 ≤ (b0.toNat : Int)) && decide ((b0.toNat : Int) ≤ 57)) && ((decide (48 ≤ (b1.toNat : Int)) && decide ((b1.toNat : Int) ≤ 57)) && ((decide (48 ≤ (b2.toNat : Int)) && decide ((b2.toNat : Int) ≤ 57)) && ((decide (48 ≤ (b3.toNat : Int)) && decide ((b3.toNat : Int) ≤ 57)) && (((b4.toNat : Int) == 45) && ((decide (48 ≤ (b5.toNat : Int)) && decide ((b5.toNat : Int) ≤ 57)) && ((decide (48 ≤ (b6.toNat : Int)) && decide ((b6.toNat : Int) ≤ 57)) && (((b7.toNat : Int) == 45) && ((decide (48 ≤ (b8.toNat : Int)) && decide ((b8.toNat : Int) ≤ 57)) && ((decide (48 ≤ (b9.toNat : Int)) && decide ((b9.toNat : Int) ≤ 57)) && true)))))))))) := rfl
    generalize hY : civil_Read.n0 ⟨#[b0, b1, b2, b3, b4, b5, b6, b7, b8, b9]⟩ = Y at *
    generalize hM : civil_Read.n5 ⟨#[b0, b1, b2, b3, b4, b5, b6, b7, b8, b9]⟩ = M at *
    generalize hD : civil_Read.n8 ⟨#[b0, b1, b2, b3, b4, b5, b6, b7, b8, b9]⟩ = D at *
    simp only [Option.bind_some]
    have key : (pylonref03_Read.all ⟨#[b0, b1, b2, b3, b4, b5, b6, b7, b8, b9]⟩ = true) ∧ Civ.ok Y M D ↔ Civ.ok Y M D ∧ (Civ.text Y M D).toList = ByteArray.toList ⟨#[b0, b1, b2, b3, b4, b5, b6, b7, b8, b9]⟩ := by
      rw [ha]
      simp only [Bool.and_eq_true, decide_eq_true_eq, beq_iff_eq, Bool.and_true]
      have T1 : ∀ x : ByteArray, x.toList = x.data.toList := ByteArray.toList_eq
      rw [T1, T1]
      unfold Civ.text
      simp only [List.cons.injEq, and_true]
      constructor
      · rintro ⟨⟨⟨p0, q0⟩, ⟨p1, q1⟩, ⟨p2, q2⟩, ⟨p3, q3⟩, p4, ⟨p5, q5⟩, ⟨p6, q6⟩, p7, ⟨p8, q8⟩, ⟨p9, q9⟩⟩, ok⟩
        refine ⟨ok, dig_bt p0 q0 (by omega), dig_bt p1 q1 (by omega), dig_bt p2 q2 (by omega), dig_bt p3 q3 (by omega), ?_, dig_bt p5 q5 (by omega), dig_bt p6 q6 (by omega), ?_, dig_bt p8 q8 (by omega), dig_bt p9 q9 (by omega)⟩
        · exact UInt8.toNat_inj.mp (by rw [show (45 : UInt8).toNat = 45 from rfl]; omega)
        · exact UInt8.toNat_inj.mp (by rw [show (45 : UInt8).toNat = 45 from rfl]; omega)
      · rintro ⟨ok, rfl, rfl, rfl, rfl, rfl, rfl, rfl, rfl, rfl, rfl⟩
        refine ⟨?_, ok⟩
        simp only [dig_nat]
        have : ((45 : UInt8).toNat : Int) = 45 := rfl
        omega
    by_cases z : Civ.ok Y M D
    · rw [decide_eq_true z]
      by_cases a : pylonref03_Read.all ⟨#[b0, b1, b2, b3, b4, b5, b6, b7, b8, b9]⟩ = true
      · rw [if_pos a, if_pos rfl, if_pos ⟨hs, key.mp ⟨a, z⟩⟩]
      · rw [if_neg a, if_neg (fun h => a (key.mpr ⟨h.2.1, h.2.2⟩).1)]
    · rw [decide_eq_false z]
      by_cases a : pylonref03_Read.all ⟨#[b0, b1, b2, b3, b4, b5, b6, b7, b8, b9]⟩ = true
      · rw [if_pos a, if_neg (by simp), if_neg (fun h => z h.2.1)]
      · rw [if_neg a, if_neg (fun h => z h.2.1)]
  · rw [if_neg hs, if_neg (fun h => hs h.1)]
theorem civread_some (s : ByteArray) : ∃ r, civil_Read.f s = some r := by
  unfold civil_Read.f
  split
  · exact ⟨_, rfl⟩
  · exact ⟨_, rfl⟩
theorem plays_wants (k : Nat) (o : S50) (h : W50 o) : ∃ r, pylonlaw03_plays.f (k + 11000) o.f0 o.f1.f0 o.f1.f1 o.f1.f2 o.f2.f0 o.f2.f1 o.f2.f2 o.f3 o.f4 o.f5 o.f6 o.f7 = some r ∧ pylonlaw03_wants.f (k + 11000) o.f0 o.f1.f0 o.f1.f1 o.f1.f2 o.f2.f0 o.f2.f1 o.f2.f2 o.f3 o.f4 o.f5 o.f6 o.f7 = some r := by
  obtain ⟨h0, h1, h2, h3, h4, h5, h6, h7⟩ := h
  have w3 := wf64 h3
  have w5 := wf64 h5
  have w6 := wf64 h6
  unfold pylonlaw03_plays.f pylonlaw03_wants.f
  have K20 : k + 11000 = (k + 10980) + 20 := by omega
  have K2 : k + 11000 = (k + 10998) + 2 := by omega
  have K1 : k + 11000 = (k + 10999) + 1 := by omega
  have K100 : k + 11000 = (k + 10900) + 100 := by omega
  by_cases c1 : o.f0 = 1
  · rw [if_pos c1, if_pos c1, K2, reflen]; exact ⟨_, rfl, rfl⟩
  rw [if_neg c1, if_neg c1]
  by_cases c2 : o.f0 = 2
  · rw [if_pos c2, if_pos c2, K20, refdays, civdays]; exact ⟨_, rfl, rfl⟩
  rw [if_neg c2, if_neg c2]
  by_cases c3 : o.f0 = 3
  · rw [if_pos c3, if_pos c3, refof _ _ w3, civof]; exact ⟨_, rfl, rfl⟩
  rw [if_neg c3, if_neg c3]
  by_cases c4 : o.f0 = 4
  · rw [if_pos c4, if_pos c4, K20, refwd, civwd]; exact ⟨_, rfl, rfl⟩
  rw [if_neg c4, if_neg c4]
  by_cases c5 : o.f0 = 5
  · rw [if_pos c5, if_pos c5, K20, refyd, civyd]; exact ⟨_, rfl, rfl⟩
  rw [if_neg c5, if_neg c5]
  by_cases c6 : o.f0 = 6
  · rw [if_pos c6, if_pos c6, refadd _ _ _ _ _ w3, civadd]; exact ⟨_, rfl, rfl⟩
  rw [if_neg c6, if_neg c6]
  by_cases c7 : o.f0 = 7
  · rw [if_pos c7, if_pos c7, show pylonref03_Nth.f (k + 11000) = pylonref03_Nth.f ((k + 10900) + 100) by rw [← K100], refnth _ _ _ _ _ w5 w6, show civil_Nth.f (k + 11000) = civil_Nth.f ((k + 10999) + 1) from rfl, civnth _ _ _ _ _ w5 w6]; exact ⟨_, rfl, rfl⟩
  rw [if_neg c7, if_neg c7]
  by_cases c8 : o.f0 = 8
  · rw [if_pos c8, if_pos c8]; exact ⟨_, rfl, rfl⟩
  rw [if_neg c8, if_neg c8]
  by_cases c9 : o.f0 = 9
  · rw [if_pos c9, if_pos c9, K2, reftext]; exact ⟨_, rfl, rfl⟩
  rw [if_neg c9, if_neg c9]
  by_cases c10 : o.f0 = 10
  · obtain ⟨r, hr⟩ := civread_some o.f7
    rw [if_pos c10, if_pos c10, K2, refread, hr]; exact ⟨_, rfl, rfl⟩
  rw [if_neg c10, if_neg c10]
  exact ⟨_, rfl, rfl⟩
theorem CivilAll_pure (l0 : List S50) (h0 : l0.length * 104 ≤ 140737488351232 ∧ ∀ p ∈ l0, W50 p) : ∃ k, pylonlaw03_CivilAll.f k l0 = some true := by
  have go : ∀ (j : Nat) (i : Int) (k : Nat), 0 ≤ i → (l0.length : Int) - i = j → j + 11001 ≤ k → pylonlaw03_CivilAll.l0 k l0 (l0.length : Int) i = some true := by
    intro j
    induction j with
    | zero =>
      intro i k h1 h2 h3
      obtain ⟨k, rfl⟩ : ∃ p, k = p + 1 := ⟨k - 1, by omega⟩
      rw [pylonlaw03_CivilAll.l0, if_neg (by omega)]
    | succ j ih =>
      intro i k h1 h2 h3
      obtain ⟨k, rfl⟩ : ∃ p, k = p + 11001 := ⟨k - 11001, by omega⟩
      have hi : i.toNat < l0.length := by omega
      have hm : rd_T50 l0 i ∈ l0 := by
        unfold rd_T50
        rw [List.getD_eq_getElem?_getD, List.getElem?_eq_getElem hi, Option.getD_some]
        exact List.getElem_mem hi
      obtain ⟨r, e1, e2⟩ := plays_wants k (rd_T50 l0 i) (h0.2 _ hm)
      rw [show k + 11001 = (k + 11000) + 1 from rfl, pylonlaw03_CivilAll.l0, if_pos (by omega), if_pos h1, if_pos (by omega), e1, e2]
      simp only [Option.bind_some, beq_self_eq_true, Bool.not_true, Bool.or_self, Bool.false_eq_true, if_false]
      rw [wr (by omega) (by omega)]
      exact ih (i + 1) (k + 11000) (by omega) (by omega) (by omega)
  refine ⟨l0.length + 11001, ?_⟩
  unfold pylonlaw03_CivilAll.f
  rw [civawake]
  simp only [Option.bind_some, if_true]
  exact go l0.length 0 _ (by omega) (by omega) (by omega)
end Go.Proofs.Ytipldjcncfoffaa.PX
