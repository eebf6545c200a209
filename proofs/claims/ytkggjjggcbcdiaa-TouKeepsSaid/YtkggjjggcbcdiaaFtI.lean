/- The program's At answers always. -/
import Derived.Test.YtkggjjggcbcdiaaPXx7
import Derived.Test.YtkggjjggcbcdiaaPXx8
import Derived.Test.YtkggjjggcbcdiaaPXx11
import Derived.Test.YtkggjjggcbcdiaaPXx14
import Derived.Test.YtkggjjggcbcdiaaFtSa
import Derived.Test.YtkggjjggcbcdiaaFtWa
import Derived.Test.YtkggjjggcbcdiaaFhKa
import Derived.Test.YtkggjjggcbcdiaaFzA
import Derived.Test.YtkggjjggcbcdiaaRd
namespace Go.Proofs.Ytkggjjggcbcdiaa.PX
open Go.RowKit Go.Proofs.YtkggjjggcbcdiaaW.PrintWords Go.Proofs.YtkggjjggcbcdiaaW.PrintLast Go.Proofs.YtkggjjggcbcdiaaW.PrintMore
set_option linter.unusedVariables false
set_option linter.unusedSimpArgs false
theorem rdS_in {l : List S58} {j : Nat} (h : j < l.length) : rd_T58 l (j : Int) ∈ l := by
  unfold rd_T58
  simp [List.getD_eq_getElem?_getD, h]
theorem sholdsTot {k : Nat} (s : ByteArray) {a b c : Int} (ha : -9223372036854775808 ≤ a ∧ a ≤ 9223372036854775807) (hb : -9223372036854775808 ≤ b ∧ b ≤ 9223372036854775807) (hc : -9223372036854775808 ≤ c ∧ c ≤ 9223372036854775807) : ∃ r, sound_Holds.f (k + 1) s a b c = some r := by
  have J : ∀ (x y z : Int) (q : Bool), ∃ r, sound_Holds.j0 (k + 1) x y z q = some r := by
    intro x y z q
    rw [sound_Holds.j0]
    repeat' split
    all_goals exact ⟨_, rfl⟩
  unfold sound_Holds.f
  rw [soundday hc, soundday ha, soundday hb]
  simp only [Option.bind_some]
  repeat' split
  all_goals exact J _ _ _ _
theorem sloopTot (y m d : Int) (L : List S58) (hw : ∀ x ∈ L, W58 x) (hl : L.length ≤ 9000000000000) : ∀ (n k i : Nat), i + n = L.length → n + 2 ≤ k → ∃ r, tou_Season.l0 k L L.length i y m d = some r ∧ (r.2 = 0 → 0 ≤ r.1 ∧ r.1 < (L.length : Int)) := by
  intro n
  induction n with
  | zero =>
    intro k i hi hk
    obtain ⟨k, rfl⟩ : ∃ q, k = q + 1 := ⟨k - 1, by omega⟩
    exact ⟨(0, 7), by rw [tou_Season.l0, if_neg (by omega)], by simp⟩
  | succ n ih =>
    intro k i hi hk
    obtain ⟨k, rfl⟩ : ∃ q, k = q + 2 := ⟨k - 2, by omega⟩
    have wx := hw _ (rdS_in (show i < L.length by omega))
    have W : -9223372036854775808 ≤ wrap64 (wrap64 (100 * m) + d) ∧ wrap64 (wrap64 (100 * m) + d) ≤ 9223372036854775807 := by
      generalize wrap64 (100 * m) + d = q
      unfold wrap64; omega
    obtain ⟨r, hr⟩ := sholdsTot (k := k) (rd_T58 L (i : Int)).f0 (wf64 wx.2.1) (wf64 wx.2.2) W
    rw [tou_Season.l0, if_pos (by omega), if_pos (by omega), if_pos (by omega), hr]
    simp only [Option.bind_some]
    by_cases c : r = true
    · rw [if_pos c]
      exact ⟨_, rfl, fun _ => by simp only []; omega⟩
    · rw [if_neg c, wr (n := (i : Int) + 1) (by omega) (by omega)]
      exact ih (k + 1) (i + 1) (by omega) (by omega)
theorem atTot (a0 : ByteArray) (z : Civ.Zn) (a11 : Int) (a12 : Int) (a13 : Int) (a14 : Int) (l15 : List S58) (l16 : List S65) (l17 : List S60) (l18 : List S63) (a19 : Int) (a20 : Int) (a21 : Int) (a22 : Int) (a23 : Int) (a24 : Int) (a25 : Int) (a26 : Int) (a27 : Int) {t : Int} (hz : zwf z) (ht : i64 t) (h15 : l15.length ≤ 9000000000000) (h16 : l16.length ≤ 9000000000000) (h17 : l17.length ≤ 9000000000000) (w15 : ∀ x ∈ l15, W58 x) (w16 : ∀ x ∈ l16, W65 x) {k : Nat} (hk : 30 * l16.length + l15.length + 100 ≤ k) :
    ∃ nm e, tou_At.f k a0 z.o z.s z.m1 z.w1 z.d1 z.t1 z.m2 z.w2 z.d2 z.t2 a11 a12 a13 a14 l15 l16 l17 l18 a19 a20 a21 a22 a23 a24 a25 a26 a27 t = some (nm, e) := by
  unfold tou_At.f
  rw [zAt (by omega) z hz ht]
  simp only [Option.bind_some]
  generalize Civ.at_ z t = q
  by_cases c1 : q.2.2.2.2.2 = 0
  · rw [if_pos c1]
    have S : ∃ r, tou_Season.f k l15 q.1 q.2.1 q.2.2.1 = some r ∧ (r.2 = 0 → 0 ≤ r.1 ∧ r.1 < (l15.length : Int)) := by
      unfold tou_Season.f
      rw [civdays]
      simp only [Option.bind_some]
      by_cases c : Civ.ok q.1 q.2.1 q.2.2.1
      · rw [if_pos c]
        simp only [if_true]
        exact sloopTot _ _ _ l15 w15 h15 l15.length k 0 (by omega) (by omega)
      · rw [if_neg c]
        exact ⟨(0, 5), rfl, by simp⟩
    obtain ⟨r, s1, s3⟩ := S
    rw [s1]
    simp only [Option.bind_some]
    by_cases c2 : r.2 = 0
    · rw [if_pos c2]
      obtain ⟨r1, r2⟩ := s3 c2
      rw [kindf l16 w16 (by omega) h16]
      simp only [Option.bind_some]
      by_cases c3 : (kindE l16 q.1 q.2.1 q.2.2.1).2 = 0
      · rw [if_pos c3, if_pos r1, if_pos r2]
        unfold tou_Window.f
        simp only [Option.bind_some]
        by_cases c4 : (tou_Window.l l17 (rd_T58 l15 r.1).f0 (kindE l16 q.1 q.2.1 q.2.2.1).1 q.2.2.2.1 0).2 = 0
        · obtain ⟨b1, b2⟩ := window_bd _ _ _ l17 0 c4
          rw [if_pos c4, if_pos b1, if_pos (by omega)]
          exact ⟨_, _, rfl⟩
        · rw [if_neg c4]
          exact ⟨_, _, rfl⟩
      · rw [if_neg c3]
        exact ⟨_, _, rfl⟩
    · rw [if_neg c2]
      exact ⟨_, _, rfl⟩
  · rw [if_neg c1]
    exact ⟨_, _, rfl⟩
end Go.Proofs.Ytkggjjggcbcdiaa.PX
