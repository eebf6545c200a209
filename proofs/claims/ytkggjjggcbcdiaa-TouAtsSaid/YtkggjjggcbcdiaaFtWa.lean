/- Windows: the document's loop, by the plain list search. -/
import Derived.Test.YtkggjjggcbcdiaaPXx13
import Derived.Test.YtkggjjggcbcdiaaPXx18
import Derived.Test.YtkggjjggcbcdiaaFa
import Derived.Test.YtkggjjggcbcdiaaRd
namespace Go.Proofs.Ytkggjjggcbcdiaa.PX
open Go.RowKit Go.Proofs.YtkggjjggcbcdiaaW.PrintWords Go.Proofs.YtkggjjggcbcdiaaW.PrintLast Go.Proofs.YtkggjjggcbcdiaaW.PrintMore
set_option linter.unusedVariables false
set_option linter.unusedSimpArgs false
theorem refwindow (s : ByteArray) (c m : Int) (L : List S60) : ∀ (k : Nat) (p : List S60) (i N : Int), L.length + 1 ≤ k → i = p.length → N = (p ++ L).length → N ≤ 9000000000000 →
    pylonref14_Window.l0 k (p ++ L) s c m N i = some (tou_Window.l L s c m i) := by
  induction L with
  | nil =>
    intro k p i N hk hi hN hb
    obtain ⟨k, rfl⟩ : ∃ q, k = q + 1 := ⟨k - 1, by omega⟩
    rw [pylonref14_Window.l0, if_neg (by simp at hN; omega)]
    rfl
  | cons x L ih =>
    intro k p i N hk hi hN hb
    obtain ⟨k, rfl⟩ : ∃ q, k = q + 1 := ⟨k - 1, by omega⟩
    have hl : ((p ++ x :: L).length : Int) = p.length + L.length + 1 := by simp; omega
    simp only [List.length_cons] at hk
    have rm : rd_T60 (p ++ x :: L) i = x := by
      subst hi
      unfold rd_T60
      simp
    have e : p ++ x :: L = (p ++ [x]) ++ L := by simp
    have nx : pylonref14_Window.l0 k (p ++ x :: L) s c m N (wrap64 (i + 1)) = some (tou_Window.l L s c m (i + 1)) := by
      rw [wr (n := i + 1) (by omega) (by omega), e]
      exact ih k (p ++ [x]) (i + 1) N (by omega) (by simp; omega) (by rw [← e]; exact hN) hb
    rw [pylonref14_Window.l0, if_pos (by omega), if_pos (by omega), if_pos (by omega), rm, nx]
    simp only [tou_Window.l]
    by_cases c1 : x.f0.toList = s.toList
    · rw [if_pos c1]
      by_cases c2 : x.f1 = c
      · rw [if_pos c2]
        by_cases c3 : x.f2 ≤ m
        · rw [if_pos c3]
          by_cases c4 : m < x.f3
          · rw [if_pos c4, if_pos ⟨c1, c2, c3, c4⟩]
          · rw [if_neg c4, if_neg (fun h => c4 h.2.2.2)]
        · rw [if_neg c3, if_neg (fun h => c3 h.2.2.1)]
      · rw [if_neg c2, if_neg (fun h => c2 h.2.1)]
    · rw [if_neg c1, if_neg (fun h => c1 h.1)]
theorem window_bd (s : ByteArray) (c m : Int) (L : List S60) : ∀ i : Int, (tou_Window.l L s c m i).2 = 0 → i ≤ (tou_Window.l L s c m i).1 ∧ (tou_Window.l L s c m i).1 < i + (L.length : Int) := by
  induction L with
  | nil => intro i h; simp [tou_Window.l] at h
  | cons x L ih =>
    intro i h
    simp only [tou_Window.l, List.length_cons] at h ⊢
    split at h
    · rename_i q
      rw [if_pos q]
      simp only []
      omega
    · rename_i q
      rw [if_neg q]
      have := ih (i + 1) h
      omega
theorem windowf {k : Nat} (L : List S60) (hk : L.length + 1 ≤ k) (hl : L.length ≤ 9000000000000) (s : ByteArray) (c m : Int) : pylonref14_Window.f k L s c m = some (tou_Window.l L s c m 0) := by
  have h := refwindow s c m L k [] 0 L.length (by omega) rfl rfl (by omega)
  rw [List.nil_append] at h
  exact h
end Go.Proofs.Ytkggjjggcbcdiaa.PX
