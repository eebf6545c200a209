/- A moment's rate: the program's and the document's answers are the same. -/
import Derived.Test.YtkggjjggcbcdiaaPXx12
import Derived.Test.YtkggjjggcbcdiaaPXx13
import Derived.Test.YtkggjjggcbcdiaaPXx19
import Derived.Test.YtkggjjggcbcdiaaPXx23
import Derived.Test.YtkggjjggcbcdiaaPXx27
import Derived.Test.YtkggjjggcbcdiaaFtSa
import Derived.Test.YtkggjjggcbcdiaaFtWa
import Derived.Test.YtkggjjggcbcdiaaFhKa
import Derived.Test.YtkggjjggcbcdiaaFzA
import Derived.Test.YtkggjjggcbcdiaaFzR
namespace Go.Proofs.Ytkggjjggcbcdiaa.PX
open Go.RowKit Go.Proofs.YtkggjjggcbcdiaaW.PrintWords Go.Proofs.YtkggjjggcbcdiaaW.PrintLast Go.Proofs.YtkggjjggcbcdiaaW.PrintMore
set_option linter.unusedVariables false
set_option linter.unusedSimpArgs false
theorem atf {k : Nat} (a0 : ByteArray) (z : Civ.Zn) (a11 : Int) (a12 : Int) (a13 : Int) (a14 : Int) (l15 : List S58) (l16 : List S65) (l17 : List S60) (l18 : List S63) (a19 : Int) (a20 : Int) (a21 : Int) (a22 : Int) (a23 : Int) (a24 : Int) (a25 : Int) (a26 : Int) (a27 : Int) {t : Int} (hz : zwf z) (ht : i64 t) (h15 : l15.length ≤ 9000000000000) (h16 : l16.length ≤ 9000000000000) (h17 : l17.length ≤ 9000000000000) (w15 : ∀ x ∈ l15, W58 x) (w16 : ∀ x ∈ l16, W65 x) {K : Nat} (hK : K = 11021) (hk : K * l16.length + l15.length + l17.length + K ≤ k) :
    ∃ r, tou_At.f k a0 z.o z.s z.m1 z.w1 z.d1 z.t1 z.m2 z.w2 z.d2 z.t2 a11 a12 a13 a14 l15 l16 l17 l18 a19 a20 a21 a22 a23 a24 a25 a26 a27 t = some r ∧ pylonref14_At.f k a0 z.o z.s z.m1 z.w1 z.d1 z.t1 z.m2 z.w2 z.d2 z.t2 a11 a12 a13 a14 l15 l16 l17 l18 a19 a20 a21 a22 a23 a24 a25 a26 a27 t = some r := by
  have hk2 : 11021 * l16.length + l15.length + l17.length + 11021 ≤ k := by rw [← hK]; exact hk
  have k16 : 30 * l16.length + 60 ≤ k := by omega
  unfold tou_At.f pylonref14_At.f
  rw [zAt (by omega) z hz ht, refzAt (by omega) z ht]
  simp only [Option.bind_some]
  generalize Civ.at_ z t = q
  by_cases c1 : q.2.2.2.2.2 = 0
  · rw [if_pos c1, if_pos c1]
    obtain ⟨r, s1, s2, s3⟩ := seasonf l15 w15 (k := k) (by omega) h15 q.1 q.2.1 q.2.2.1
    rw [s1, s2]
    simp only [Option.bind_some]
    by_cases c2 : r.2 = 0
    · rw [if_pos c2, if_pos c2]
      obtain ⟨r1, r2⟩ := s3 c2
      rw [kindf l16 w16 k16 h16, refkindf l16 w16 (by omega) h16]
      simp only [Option.bind_some]
      by_cases c3 : (kindE l16 q.1 q.2.1 q.2.2.1).2 = 0
      · rw [if_pos c3, if_pos c3, if_pos r1, if_pos r1, if_pos r2, if_pos r2, windowf l17 (by omega) h17]
        unfold tou_Window.f
        simp only [Option.bind_some]
        by_cases c4 : (tou_Window.l l17 (rd_T58 l15 r.1).f0 (kindE l16 q.1 q.2.1 q.2.2.1).1 q.2.2.2.1 0).2 = 0
        · obtain ⟨b1, b2⟩ := window_bd _ _ _ l17 0 c4
          rw [if_pos c4, if_pos b1, if_pos (by omega)]
          exact ⟨_, rfl, rfl⟩
        · rw [if_neg c4]
          exact ⟨_, rfl, rfl⟩
      · rw [if_neg c3, if_neg c3]
        exact ⟨_, rfl, rfl⟩
    · rw [if_neg c2, if_neg c2]
      exact ⟨_, rfl, rfl⟩
  · rw [if_neg c1, if_neg c1]
    exact ⟨_, rfl, rfl⟩
end Go.Proofs.Ytkggjjggcbcdiaa.PX
