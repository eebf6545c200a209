/- Seasons: the program's and the document's answers are the same. -/
import Derived.Test.YtkggjjggcbcdiaaPXx18
import Derived.Test.YtkggjjggcbcdiaaPXx19
import Derived.Test.YtkggjjggcbcdiaaFa
import Derived.Test.YtkggjjggcbcdiaaFaR
import Derived.Test.YtkggjjggcbcdiaaFbNth
import Derived.Test.YtkggjjggcbcdiaaRd
namespace Go.Proofs.Ytkggjjggcbcdiaa.PX
open Go.RowKit Go.Proofs.YtkggjjggcbcdiaaW.PrintWords Go.Proofs.YtkggjjggcbcdiaaW.PrintLast Go.Proofs.YtkggjjggcbcdiaaW.PrintMore
set_option linter.unusedVariables false
set_option linter.unusedSimpArgs false
theorem civyd2 (y m d : Int) : civil_YearDay.f y m d = some (if Civ.ok y m d then (Civ.cum y m + d, 0) else (0, 5)) := by
  unfold civil_YearDay.f
  rw [civdays, civdays]
  simp only [Option.bind_some]
  by_cases c : Civ.ok y m d
  · rw [if_pos c, if_pos c, if_pos rfl]
    have r := Civ.dn_range c
    obtain ⟨c1, c2, c3, c4, c5, c6⟩ := c
    have l := Civ.len_bd y 1
    have c' : Civ.ok y 1 1 := ⟨c1, c2, by omega, by omega, by omega, by omega⟩
    have r' := Civ.dn_range c'
    rw [if_pos c']
    have e1 : Civ.cum y 1 = 0 := by simp [Civ.cum]
    have e : Civ.dn y m d - Civ.dn y 1 1 + 1 = Civ.cum y m + d := by unfold Civ.dn; omega
    simp (disch := omega) only [wr]
    rw [e]
  · rw [if_neg c, if_neg c]; rfl
def dayE (a : Int) : Int × Int := if Civ.ok 2000 (Int.tdiv a 100) (Int.tmod a 100) then (Civ.cum 2000 (Int.tdiv a 100) + Int.tmod a 100, 0) else (0, 8)
theorem soundday {a : Int} (ha : -9223372036854775808 ≤ a ∧ a ≤ 9223372036854775807) : sound_Day.f a = some (dayE a) := by
  have t := Int.tmod_add_mul_tdiv a 100
  have t1 := Int.lt_tmod_of_pos a (show (0:Int) < 100 by omega)
  have t2 := Int.tmod_lt_of_pos a (show (0:Int) < 100 by omega)
  unfold sound_Day.f dayE
  rw [wr (n := Int.tdiv a 100) (by omega) (by omega), civyd2]
  simp only [Option.bind_some]
  by_cases c : Civ.ok 2000 (Int.tdiv a 100) (Int.tmod a 100)
  · rw [if_pos c, if_pos c]; rfl
  · rw [if_neg c, if_neg c]; rfl
theorem refday {k : Nat} (hk : 40 ≤ k) {a : Int} (ha : -9223372036854775808 ≤ a ∧ a ≤ 9223372036854775807) : pylonref09_Day.f k a = some (dayE a) := by
  obtain ⟨k, rfl⟩ : ∃ q, k = q + 21 := ⟨k - 21, by omega⟩
  have t := Int.tmod_add_mul_tdiv a 100
  have t1 := Int.lt_tmod_of_pos a (show (0:Int) < 100 by omega)
  have t2 := Int.tmod_lt_of_pos a (show (0:Int) < 100 by omega)
  have bad : a < 101 ∨ a > 1231 → ¬ Civ.ok 2000 (Int.tdiv a 100) (Int.tmod a 100) := by
    rintro h ⟨-, -, o3, o4, o5, o6⟩
    have l : Civ.len 2000 (Int.tdiv a 100) ≤ 31 := (Civ.len_bd 2000 _).2
    omega
  unfold pylonref09_Day.f dayE
  rw [show k + 21 = (k + 20) + 1 from rfl]
  by_cases c1 : a < 101
  · rw [if_pos c1, pylonref09_Day.j0, if_pos rfl, if_neg (bad (.inl c1))]
  rw [if_neg c1]
  by_cases c2 : a > 1231
  · rw [decide_eq_true c2, pylonref09_Day.j0, if_pos rfl, if_neg (bad (.inr c2))]
  rw [decide_eq_false c2, pylonref09_Day.j0, if_neg (by simp), wr (n := Int.tdiv a 100) (by omega) (by omega), refyd]
  simp only [Option.bind_some]
  by_cases c : Civ.ok 2000 (Int.tdiv a 100) (Int.tmod a 100)
  · rw [if_pos c, if_pos c]; rfl
  · rw [if_neg c, if_neg c]; rfl
theorem holdsf {k : Nat} (hk : 50 ≤ k) (s : ByteArray) {a b c : Int} (ha : -9223372036854775808 ≤ a ∧ a ≤ 9223372036854775807) (hb : -9223372036854775808 ≤ b ∧ b ≤ 9223372036854775807) (hc : -9223372036854775808 ≤ c ∧ c ≤ 9223372036854775807) : ∃ r, sound_Holds.f k s a b c = some r ∧ pylonref09_Holds.f k s a b c = some r := by
  obtain ⟨k, rfl⟩ : ∃ q, k = q + 1 := ⟨k - 1, by omega⟩
  unfold sound_Holds.f pylonref09_Holds.f
  rw [soundday ha, soundday hb, soundday hc, refday (by omega) ha, refday (by omega) hb, refday (by omega) hc]
  simp only [Option.bind_some]
  have J : ∀ (x y z : Int) (q : Bool), ∃ r, sound_Holds.j0 (k + 1) x y z q = some r ∧ pylonref09_Holds.j0 (k + 1) x y z q = some r := by
    intro x y z q
    rw [sound_Holds.j0, pylonref09_Holds.j0]
    cases q with
    | true => exact ⟨_, rfl, rfl⟩
    | false =>
      rw [if_neg (by simp)]
      by_cases c1 : y ≤ z
      · rw [if_pos c1]
        by_cases c2 : y ≤ x
        · rw [if_pos c2]; exact ⟨_, rfl, rfl⟩
        · rw [if_neg c2]; exact ⟨_, rfl, rfl⟩
      · rw [if_neg c1]
        by_cases c2 : y ≤ x
        · rw [if_pos c2]; exact ⟨_, rfl, rfl⟩
        · rw [if_neg c2]; exact ⟨_, rfl, rfl⟩
  split
  · split
    · exact J _ _ _ _
    · exact J _ _ _ _
  · exact J _ _ _ _
theorem wrap_in (x : Int) : -9223372036854775808 ≤ wrap64 x ∧ wrap64 x ≤ 9223372036854775807 := by unfold wrap64; omega
theorem seasonloop (y mo d : Int) (L : List S58) (hw : ∀ x ∈ L, W58 x) : ∀ (k : Nat) (p : List S58) (i N : Int), L.length + 60 ≤ k → i = p.length → N = (p ++ L).length → N ≤ 9000000000000 →
    ∃ r, tou_Season.l0 k (p ++ L) N i y mo d = some r ∧ pylonref14_Season.l0 k (p ++ L) N i y mo d = some r ∧ (r.2 = 0 → 0 ≤ r.1 ∧ r.1 < N) := by
  induction L with
  | nil =>
    intro k p i N hk hi hN hb
    obtain ⟨k, rfl⟩ : ∃ q, k = q + 1 := ⟨k - 1, by omega⟩
    refine ⟨_, by rw [tou_Season.l0, if_neg (by simp at hN; omega)], by rw [pylonref14_Season.l0, if_neg (by simp at hN; omega)], by simp⟩
  | cons x L ih =>
    intro k p i N hk hi hN hb
    obtain ⟨k, rfl⟩ : ∃ q, k = q + 1 := ⟨k - 1, by omega⟩
    have hl : ((p ++ x :: L).length : Int) = p.length + L.length + 1 := by simp; omega
    simp only [List.length_cons] at hk
    have rm : rd_T58 (p ++ x :: L) i = x := by
      subst hi
      unfold rd_T58
      simp
    have e : p ++ x :: L = (p ++ [x]) ++ L := by simp
    have wx := hw x (by simp)
    obtain ⟨r, h1, h2⟩ := holdsf (k := k) (by omega) x.f0 (wf64 wx.2.1) (wf64 wx.2.2) (wrap_in (wrap64 (100 * mo) + d))
    obtain ⟨r2, n1, n2, n3⟩ := ih (fun z hz => hw z (List.mem_cons_of_mem _ hz)) k (p ++ [x]) (i + 1) N (by omega) (by simp; omega) (by rw [← e]; exact hN) hb
    rw [tou_Season.l0, pylonref14_Season.l0, if_pos (by omega), if_pos (by omega), if_pos (by omega), rm, wr (n := i + 1) (by omega) (by omega), if_pos (by omega), if_pos (by omega), if_pos (by omega), e, n1, n2]
    rw [h1, h2]
    simp only [Option.bind_some]
    cases r with
    | true => exact ⟨_, rfl, rfl, fun _ => by simp only []; omega⟩
    | false => exact ⟨_, rfl, rfl, n3⟩
theorem seasonf {k : Nat} (L : List S58) (hw : ∀ x ∈ L, W58 x) (hk : L.length + 60 ≤ k) (hl : L.length ≤ 9000000000000) (y m d : Int) : ∃ r, tou_Season.f k L y m d = some r ∧ pylonref14_Season.f k L y m d = some r ∧ (r.2 = 0 → 0 ≤ r.1 ∧ r.1 < (L.length : Int)) := by
  obtain ⟨k, rfl⟩ : ∃ q, k = q + 2 := ⟨k - 2, by omega⟩
  unfold pylonref14_Season.f tou_Season.f
  rw [refis, civdays]
  simp only [Option.bind_some]
  by_cases c : Civ.ok y m d
  · rw [if_pos (decide_eq_true c), if_pos c]
    simp only [if_true]
    obtain ⟨r, n1, n2, n3⟩ := seasonloop y m d L hw (k + 2) [] 0 L.length (by omega) rfl rfl (by omega)
    rw [List.nil_append] at n1 n2
    exact ⟨r, n1, n2, n3⟩
  · rw [if_neg c, decide_eq_false c]
    exact ⟨(0, 5), rfl, rfl, by simp⟩
end Go.Proofs.Ytkggjjggcbcdiaa.PX
