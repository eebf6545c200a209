/- Banks of lots: what the program's checks, balances and takings say, by plain recursion over the lots. -/
import Derived.Test.YtpogcehbciacdaaPXx2
import Derived.Test.YtpogcehbciacdaaPXx3
import Derived.Test.YtpogcehbciacdaaRd
import Derived.Test.YtpogcehbciacdaaFaX
namespace Go.Proofs.Ytpogcehbciacdaa.PX
open Go.RowKit Go.Proofs.YtpogcehbciacdaaW.PrintWords Go.Proofs.YtpogcehbciacdaaW.PrintLast Go.Proofs.YtpogcehbciacdaaW.PrintMore
set_option linter.unusedVariables false
set_option linter.unusedSimpArgs false
/-- a good bank: so much stands ahead of it, and it is no older than that -/
def bgood (n age : Int) : List S32 → Bool
  | [] => true
  | x :: L => decide (1 ≤ x.f0) && (decide (x.f0 ≤ 1000000000000000 - n) && (decide (0 ≤ x.f1) && (decide (x.f1 ≤ age) && bgood (n + x.f0) x.f1 L)))
theorem bgood_cons {n age : Int} {x : S32} {L : List S32} : bgood n age (x :: L) = true ↔ 1 ≤ x.f0 ∧ x.f0 ≤ 1000000000000000 - n ∧ 0 ≤ x.f1 ∧ x.f1 ≤ age ∧ bgood (n + x.f0) x.f1 L = true := by
  simp [bgood]
theorem bgood_step {n age : Int} {x : S32} {L : List S32} (h1 : 1 ≤ x.f0) (h2 : x.f0 ≤ 1000000000000000 - n) (h3 : 0 ≤ x.f1) (h4 : x.f1 ≤ age) : bgood n age (x :: L) = bgood (n + x.f0) x.f1 L := by
  simp [bgood, h1, h2, h3, h4]
def bsum : List S32 → Int
  | [] => 0
  | x :: L => x.f0 + bsum L
theorem bgood_sum : ∀ {L : List S32} {n age : Int}, bgood n age L = true → 0 ≤ bsum L ∧ (L ≠ [] → n + bsum L ≤ 1000000000000000)
  | [], n, age, _ => ⟨by simp [bsum], fun h => absurd rfl h⟩
  | x :: L, n, age, h => by
    obtain ⟨h1, h2, h3, h4, h5⟩ := bgood_cons.mp h
    obtain ⟨s1, s2⟩ := bgood_sum h5
    refine ⟨by simp only [bsum]; omega, fun _ => ?_⟩
    by_cases e : L = []
    · subst e; simp only [bsum]; omega
    · have := s2 e; simp only [bsum]; omega
theorem bgood_sum0 {L : List S32} {age : Int} (h : bgood 0 age L = true) : 0 ≤ bsum L ∧ bsum L ≤ 1000000000000000 := by
  obtain ⟨h1, h2⟩ := bgood_sum h
  refine ⟨h1, ?_⟩
  by_cases e : L = []
  · subst e; simp [bsum]
  · have := h2 e; omega
theorem bgood_mono : ∀ {L : List S32} {n n' age age' : Int}, bgood n age L = true → n' ≤ n → age ≤ age' → bgood n' age' L = true
  | [], _, _, _, _, _, _, _ => rfl
  | x :: L, n, n', age, age', h, h1, h2 => by
    obtain ⟨a1, a2, a3, a4, a5⟩ := bgood_cons.mp h
    exact bgood_cons.mpr ⟨a1, by omega, a3, by omega, bgood_mono a5 (by omega) (Int.le_refl _)⟩
theorem rd_mid (p L : List S32) (x : S32) (i : Int) (hi : i = p.length) : rd_T32 (p ++ x :: L) i = x := by
  subst hi
  unfold rd_T32
  simp
theorem rd_hd (x : S32) (L : List S32) : rd_T32 (x :: L) 0 = x := rfl
theorem rd_off (p L : List S32) (i : Int) (j : Nat) (hi : i = p.length + j) : rd_T32 (p ++ L) i = rd_T32 L j := by
  subst hi
  unfold rd_T32
  rw [show ((p.length : Int) + (j : Int)).toNat = p.length + j by omega]
  simp [List.getD_eq_getElem?_getD, List.getElem?_append_right]
theorem sumloop (L : List S32) : ∀ (k : Nat) (p : List S32) (n age i N : Int), L.length + 1 ≤ k → i = p.length → N = (p ++ L).length → N ≤ 9000000000000 → 0 ≤ n → n ≤ 1000000000000000 →
    bank_sum.l0 k n age (p ++ L) N i = some (if bgood n age L = true then (n + bsum L, true) else (0, false)) := by
  induction L with
  | nil =>
    intro k p n age i N hk hi hN hb h0 h1
    obtain ⟨k, rfl⟩ : ∃ q, k = q + 1 := ⟨k - 1, by omega⟩
    rw [bank_sum.l0, if_neg (by simp at hN; omega)]
    simp [bgood, bsum]
  | cons x L ih =>
    intro k p n age i N hk hi hN hb h0 h1
    obtain ⟨k, rfl⟩ : ∃ q, k = q + 1 := ⟨k - 1, by omega⟩
    have hl : ((p ++ x :: L).length : Int) = p.length + L.length + 1 := by simp; omega
    simp only [List.length_cons] at hk
    rw [bank_sum.l0, if_pos (by omega), if_pos (by omega), if_pos (by omega), rd_mid p L x i hi]
    have bad : (¬ (1 ≤ x.f0 ∧ x.f0 ≤ 1000000000000000 - n ∧ 0 ≤ x.f1 ∧ x.f1 ≤ age)) → ¬ (bgood n age (x :: L) = true) := fun g h => by have := bgood_cons.mp h; omega
    by_cases c1 : x.f0 < 1
    · rw [if_pos c1, if_neg (bad (by omega))]
    rw [if_neg c1, wr (n := 1000000000000000 - n) (by omega) (by omega)]
    by_cases c2 : x.f0 > 1000000000000000 - n
    · rw [if_pos c2, if_neg (bad (by omega))]
    rw [if_neg c2]
    by_cases c3 : x.f1 < 0
    · rw [if_pos c3, if_neg (bad (by omega))]
    rw [if_neg c3]
    by_cases c4 : x.f1 > age
    · rw [if_pos c4, if_neg (bad (by omega))]
    rw [if_neg c4, wr (n := n + x.f0) (by omega) (by omega), wr (n := i + 1) (by omega) (by omega)]
    have e : p ++ x :: L = (p ++ [x]) ++ L := by simp
    rw [e, ih k (p ++ [x]) (n + x.f0) x.f1 (i + 1) N (by omega) (by simp; omega) (by rw [← e]; exact hN) hb (by omega) (by omega)]
    rw [bgood_step (by omega) (by omega) (by omega) (by omega)]
    simp only [bsum]
    rw [show n + (x.f0 + bsum L) = n + x.f0 + bsum L by omega]
theorem bsumf {k : Nat} {l : List S32} (hk : l.length + 1 ≤ k) (hl : l.length ≤ 9000000000000) : bank_sum.f k l = some (if bgood 0 36 l = true then (bsum l, true) else (0, false)) := by
  unfold bank_sum.f
  have h := sumloop l k [] 0 36 0 l.length hk rfl rfl (by omega) (by omega) (by omega)
  rw [List.nil_append] at h
  rw [h, Int.zero_add]
theorem bcheck {k : Nat} {l : List S32} (hk : l.length + 1 ≤ k) (hl : l.length ≤ 9000000000000) : bank_Check.f k l = some (if bgood 0 36 l = true then 0 else 8) := by
  unfold bank_Check.f
  rw [bsumf hk hl]
  by_cases c : bgood 0 36 l = true
  · rw [if_pos c, if_pos c]; rfl
  · rw [if_neg c, if_neg c]; rfl
theorem bbal {k : Nat} {l : List S32} (hk : l.length + 1 ≤ k) (hl : l.length ≤ 9000000000000) : bank_Balance.f k l = some (if bgood 0 36 l = true then (bsum l, 0) else (0, 8)) := by
  unfold bank_Balance.f
  rw [bsumf hk hl]
  by_cases c : bgood 0 36 l = true
  · rw [if_pos c, if_pos c]; rfl
  · rw [if_neg c, if_neg c]; rfl
theorem refcheckloop (L : List S32) : ∀ (k : Nat) (p : List S32) (n age i N : Int), 2 * L.length + 1 ≤ k → i = p.length → N = (p ++ L).length → N ≤ 9000000000000 → 0 ≤ n → n ≤ 1000000000000000 → age ≤ 36 → (p = [] ∧ age = 36 ∨ ∃ q y, p = q ++ [y] ∧ y.f1 = age) →
    pylonref19_Check.l0 k (p ++ L) n N i = some (if bgood n age L = true then 0 else 8) := by
  induction L with
  | nil =>
    intro k p n age i N hk hi hN hb h0 h1 ha hp
    obtain ⟨k, rfl⟩ : ∃ q, k = q + 1 := ⟨k - 1, by omega⟩
    rw [pylonref19_Check.l0, if_neg (by simp at hN; omega)]
    simp [bgood]
  | cons x L ih =>
    intro k p n age i N hk hi hN hb h0 h1 ha hp
    obtain ⟨k, rfl⟩ : ∃ q, k = q + 2 := ⟨k - 2, by simp at hk; omega⟩
    have hl : ((p ++ x :: L).length : Int) = p.length + L.length + 1 := by simp; omega
    simp only [List.length_cons] at hk
    have e : p ++ x :: L = (p ++ [x]) ++ L := by simp
    have fin : ∀ b : Bool, b = decide (x.f1 > age) → 1 ≤ x.f0 → x.f0 ≤ 1000000000000000 → 0 ≤ x.f1 → pylonref19_Check.j1 (k + 1) (p ++ x :: L) n N i b x.f0 x.f1 = some (if bgood n age (x :: L) = true then 0 else 8) := by
      intro b hb1 g1 g2 g3
      have bad : (¬ (1 ≤ x.f0 ∧ x.f0 ≤ 1000000000000000 - n ∧ 0 ≤ x.f1 ∧ x.f1 ≤ age)) → ¬ (bgood n age (x :: L) = true) := fun g h => by have := bgood_cons.mp h; omega
      rw [pylonref19_Check.j1]
      by_cases c4 : x.f1 > age
      · rw [hb1, decide_eq_true c4, if_pos rfl, if_neg (bad (by omega))]
      · rw [hb1, decide_eq_false c4, if_neg (by simp), wr (n := n + x.f0) (by omega) (by omega), wr (n := i + 1) (by omega) (by omega)]
        by_cases c5 : n + x.f0 > 1000000000000000
        · rw [if_pos c5, if_neg (bad (by omega))]
        · rw [if_neg c5, e, ih k (p ++ [x]) (n + x.f0) x.f1 (i + 1) N (by omega) (by simp; omega) (by rw [← e]; exact hN) hb (by omega) (by omega) (by omega) (.inr ⟨p, x, rfl, rfl⟩)]
          rw [bgood_step g1 (by omega) g3 (by omega)]
    have bad : (¬ (1 ≤ x.f0 ∧ x.f0 ≤ 1000000000000000 ∧ 0 ≤ x.f1 ∧ x.f1 ≤ 36)) → pylonref19_Check.j1 (k + 1) (p ++ x :: L) n N i true x.f0 x.f1 = some (if bgood n age (x :: L) = true then 0 else 8) := by
      intro g
      rw [pylonref19_Check.j1, if_pos rfl, if_neg (fun h => by have := bgood_cons.mp h; omega)]
    rw [pylonref19_Check.l0, if_pos (by omega), if_pos (by omega), if_pos (by omega), rd_mid p L x i hi]
    by_cases c1 : x.f0 < 1
    · rw [if_pos c1]; exact bad (by omega)
    rw [if_neg c1]
    by_cases c2 : x.f0 > 1000000000000000
    · rw [if_pos c2]; exact bad (by omega)
    rw [if_neg c2]
    by_cases c3 : x.f1 < 0
    · rw [if_pos c3]; exact bad (by omega)
    rw [if_neg c3]
    by_cases c4 : x.f1 > 36
    · rw [if_pos c4]; exact bad (by omega)
    rw [if_neg c4]
    obtain ⟨rfl, rfl⟩ | ⟨q, y, rfl, rfl⟩ := hp
    · rw [if_neg (by simp at hi; omega)]
      exact fin false (by rw [decide_eq_false c4]) (by omega) (by omega) (by omega)
    · have hq : ((q ++ [y]).length : Int) = q.length + 1 := by simp
      rw [if_pos (by omega), wr (n := i - 1) (by omega) (by omega), if_pos (by omega), if_pos (by omega)]
      rw [show (q ++ [y] ++ x :: L) = q ++ y :: (x :: L) by simp, rd_mid q (x :: L) y (i - 1) (by omega), show q ++ y :: (x :: L) = (q ++ [y] ++ x :: L) by simp]
      exact fin _ rfl (by omega) (by omega) (by omega)
theorem refbcheck {k : Nat} {l : List S32} (hk : 2 * l.length + 1 ≤ k) (hl : l.length ≤ 9000000000000) : pylonref19_Check.f k l = some (if bgood 0 36 l = true then 0 else 8) := by
  unfold pylonref19_Check.f
  have h := refcheckloop l k [] 0 36 0 l.length hk rfl rfl (by omega) (by omega) (by omega) (by omega) (.inl ⟨rfl, rfl⟩)
  rwa [List.nil_append] at h
/-- what is left, and what was taken -/
def btake (w : Int) : List S32 → List S32 × Int
  | [] => ([], 0)
  | x :: L => if x.f0 ≤ w then ((btake (w - x.f0) L).1, x.f0 + (btake (w - x.f0) L).2) else (⟨x.f0 - w, x.f1⟩ :: L, w)
theorem takeloop (want : Int) (hw : 0 ≤ want ∧ want ≤ 9223372036854775807) (L : List S32) : ∀ (k : Nat) (n age t : Int), L.length + 1 ≤ k → L.length ≤ 8796093022000 → 0 ≤ t → t ≤ want → t ≤ n → n ≤ 1000000000000000 → bgood n age L = true →
    bank_Take.l0 k L want t = some ((btake (want - t) L).1, t + (btake (want - t) L).2, 0) := by
  induction L with
  | nil =>
    intro k n age t hk hl h0 h1 hn hn1 hg
    obtain ⟨k, rfl⟩ : ∃ q, k = q + 1 := ⟨k - 1, by omega⟩
    rw [bank_Take.l0, if_neg (by simp), if_pos (by simp)]
    simp [btake]
  | cons x L ih =>
    intro k n age t hk hl h0 h1 hn hn1 hg
    obtain ⟨k, rfl⟩ : ∃ q, k = q + 1 := ⟨k - 1, by omega⟩
    simp only [List.length_cons] at hk hl
    obtain ⟨g1, g2, g3, g4, g5⟩ := bgood_cons.mp hg
    rw [bank_Take.l0, if_pos (by simp), if_pos (by simp), rd_hd x L, wr (n := want - t) (by omega) (by omega)]
    simp only [btake]
    by_cases c : x.f0 ≤ want - t
    · rw [if_pos c, if_pos (by rw [List.length_cons]; omega), if_pos c, wr (n := t + x.f0) (by omega) (by omega), List.drop_one, List.tail_cons]
      rw [ih k (n + x.f0) x.f1 (t + x.f0) (by omega) (by omega) (by omega) (by omega) (by omega) (by omega) g5]
      rw [show want - (t + x.f0) = want - t - x.f0 by omega, Int.add_assoc]
    · rw [if_neg c, if_neg c, if_pos (by simp; omega)]
      simp only [Option.bind_some, List.nil_append]
      rw [if_pos (by simp), if_pos (by simp), rd_hd x L, wr (n := x.f0 - (want - t)) (by omega) (by omega)]
      simp only [Int.toNat_zero, List.set_cons_zero]
      rw [show t + (want - t) = want by omega]
theorem btakef {k : Nat} {l : List S32} (hk : l.length + 1 ≤ k) (hl : l.length ≤ 8796093022000) (w : Int) (hw : w ≤ 9223372036854775807) : bank_Take.f k l w = some (if bgood 0 36 l = true then if w < 0 then ([], 0, 5) else ((btake w l).1, (btake w l).2, 0) else ([], 0, 8)) := by
  unfold bank_Take.f
  rw [bcheck hk (by omega)]
  simp only [Option.bind_some]
  by_cases c : bgood 0 36 l = true
  · rw [if_pos c, if_pos c, if_pos rfl]
    by_cases c2 : w < 0
    · rw [if_pos c2, if_pos c2]
    · rw [if_neg c2, if_neg c2, takeloop w ⟨by omega, hw⟩ l k 0 36 0 hk hl (by omega) (by omega) (by omega) (by omega) c, Int.sub_zero, Int.zero_add]
  · rw [if_neg c, if_neg c, if_neg (by omega)]
theorem samelotsl (l : List S32) (hl : l.length ≤ 9000000000000) (m : Nat) : ∀ (k i : Nat), m + 1 ≤ k → i + m = l.length → pylonref19_SameLots.l0 k l l (l.length : Int) i = some true := by
  induction m with
  | zero =>
    intro k i hk hi
    obtain ⟨k, rfl⟩ : ∃ p, k = p + 1 := ⟨k - 1, by omega⟩
    rw [pylonref19_SameLots.l0, if_neg (by omega)]
  | succ m ih =>
    intro k i hk hi
    obtain ⟨k, rfl⟩ : ∃ p, k = p + 1 := ⟨k - 1, by omega⟩
    rw [pylonref19_SameLots.l0, if_pos (by omega), if_pos (by omega), if_pos (by omega), if_pos (by omega), if_neg (by simp), wr (n := (i : Int) + 1) (by omega) (by omega), show (i : Int) + 1 = ((i + 1 : Nat) : Int) by omega]
    exact ih k (i + 1) (by omega) (by omega)
theorem samelots {k : Nat} {l : List S32} (hk : l.length + 1 ≤ k) (hl : l.length ≤ 9000000000000) : pylonref19_SameLots.f k l l = some true := by
  unfold pylonref19_SameLots.f
  rw [if_pos rfl]
  exact samelotsl l hl l.length k 0 hk (by omega)
theorem copyf {l : List S32} (hl : l.length ≤ 8796093022000) : pylonlaw19_copyLots.f l = some l := by
  unfold pylonlaw19_copyLots.f
  simp only [Option.bind_some, List.nil_append]
  rw [if_pos (by simp; omega)]
theorem bawake {k : Nat} (hk : 10 ≤ k) : pylonlaw19_awake.f k = some true := by
  unfold pylonlaw19_awake.f
  rw [btakef (by simp; omega) (by simp) 7 (by omega)]
  rw [if_pos (by decide), if_neg (by omega), show btake 7 [(⟨5, 3⟩ : S32), ⟨4, 0⟩] = ([⟨2, 0⟩], 7) from rfl]
  simp only [Option.bind_some, if_true]
  rw [samelots (by simp; omega) (by simp)]
  rfl
theorem btake_bd : ∀ {L : List S32} {n age w : Int}, bgood n age L = true → 0 ≤ w → 0 ≤ (btake w L).2 ∧ (btake w L).2 ≤ w ∧ (btake w L).2 ≤ bsum L ∧ (btake w L).1.length ≤ L.length ∧ bsum (btake w L).1 = bsum L - (btake w L).2 ∧ bgood n age (btake w L).1 = true
  | [], n, age, w, _, hw => ⟨by simp [btake], by simp [btake, hw], by simp [btake, bsum], by simp [btake], by simp [btake, bsum], rfl⟩
  | x :: L, n, age, w, h, hw => by
    obtain ⟨g1, g2, g3, g4, g5⟩ := bgood_cons.mp h
    have s := (bgood_sum g5).1
    simp only [btake]
    by_cases c : x.f0 ≤ w
    · rw [if_pos c]
      obtain ⟨i1, i2, i3, i4, i5, i6⟩ := btake_bd (w := w - x.f0) g5 (by omega)
      exact ⟨by simp only []; omega, by simp only []; omega, by simp only [bsum]; omega, by simp only [List.length_cons]; omega, by simp only [bsum]; omega, bgood_mono i6 (by omega) (by omega)⟩
    · rw [if_neg c]
      refine ⟨hw, Int.le_refl _, by simp only [bsum]; omega, by simp, by simp only [bsum]; omega, bgood_cons.mpr ⟨by simp only []; omega, by simp only []; omega, g3, g4, bgood_mono g5 (by simp only []; omega) (Int.le_refl _)⟩⟩
end Go.Proofs.Ytpogcehbciacdaa.PX
