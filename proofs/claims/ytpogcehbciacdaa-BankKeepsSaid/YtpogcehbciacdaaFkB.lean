/- Banks of lots: what ages, what is put in, and the document's answers, by plain recursion over the lots. -/
import Derived.Test.YtpogcehbciacdaaPXx4
import Derived.Test.YtpogcehbciacdaaPXx5
import Derived.Test.YtpogcehbciacdaaPXx6
import Derived.Test.YtpogcehbciacdaaFkA
namespace Go.Proofs.Ytpogcehbciacdaa.PX
open Go.RowKit Go.Proofs.YtpogcehbciacdaaW.PrintWords Go.Proofs.YtpogcehbciacdaaW.PrintLast Go.Proofs.YtpogcehbciacdaaW.PrintMore
set_option linter.unusedVariables false
set_option linter.unusedSimpArgs false
/-- what is left, a period older, and what has gone -/
def bage (keep : Int) : List S32 → List S32 × Int
  | [] => ([], 0)
  | x :: L => if keep ≤ x.f1 then ((bage keep L).1, x.f0 + (bage keep L).2) else ((x :: L).map (fun y => ⟨y.f0, y.f1 + 1⟩), 0)
theorem bgood_young : ∀ {L : List S32} {n age : Int}, bgood n age L = true → ∀ y ∈ L, 0 ≤ y.f1 ∧ y.f1 ≤ age ∧ 1 ≤ y.f0
  | [], _, _, _, y, hy => by cases hy
  | x :: L, n, age, h, y, hy => by
    obtain ⟨g1, g2, g3, g4, g5⟩ := bgood_cons.mp h
    rcases List.mem_cons.mp hy with rfl | hy
    · exact ⟨g3, g4, g1⟩
    · have := bgood_young g5 y hy
      omega
theorem ageloop1 (g : Int) (L : List S32) : ∀ (k : Nat) (p : List S32) (i N : Int), L.length + 1 ≤ k → i = p.length → N = (p ++ L).length → N ≤ 9000000000000 → (∀ y ∈ L, 0 ≤ y.f1 ∧ y.f1 ≤ 36) →
    bank_Age.l1 k g (p ++ L) N i = some (p ++ L.map (fun y => ⟨y.f0, y.f1 + 1⟩), g, 0) := by
  induction L with
  | nil =>
    intro k p i N hk hi hN hb hy
    obtain ⟨k, rfl⟩ : ∃ q, k = q + 1 := ⟨k - 1, by omega⟩
    rw [bank_Age.l1, if_neg (by simp at hN; omega)]
    simp
  | cons x L ih =>
    intro k p i N hk hi hN hb hy
    obtain ⟨k, rfl⟩ : ∃ q, k = q + 1 := ⟨k - 1, by omega⟩
    simp only [List.length_cons] at hk
    have hl : ((p ++ x :: L).length : Int) = p.length + L.length + 1 := by simp; omega
    have hx := hy x (by simp)
    rw [bank_Age.l1, if_pos (by omega), if_pos (by omega), if_pos (by omega), rd_mid p L x i hi, wr (n := x.f1 + 1) (by omega) (by omega), wr (n := i + 1) (by omega) (by omega)]
    have e : (p ++ x :: L).set i.toNat ⟨x.f0, x.f1 + 1⟩ = (p ++ [(⟨x.f0, x.f1 + 1⟩ : S32)]) ++ L := by
      rw [show i.toNat = p.length by omega, List.set_append_right _ _ (Nat.le_refl _), Nat.sub_self, List.set_cons_zero, List.append_assoc, List.singleton_append]
    rw [e, ih k (p ++ [(⟨x.f0, x.f1 + 1⟩ : S32)]) (i + 1) N (by omega) (by simp; omega) (by rw [hN, hl]; simp; omega) hb (fun y h => hy y (List.mem_cons_of_mem _ h))]
    simp
theorem ageloop (keep : Int) (L : List S32) : ∀ (k : Nat) (n age t : Int), 2 * L.length + 4 ≤ k → L.length ≤ 8796093022000 → 0 ≤ t → t ≤ n → n ≤ 1000000000000000 → age ≤ 36 → bgood n age L = true →
    bank_Age.l0 k L keep t = some ((bage keep L).1, t + (bage keep L).2, 0) := by
  induction L with
  | nil =>
    intro k n age t hk hl h0 hn hn1 ha hg
    obtain ⟨k, rfl⟩ : ∃ q, k = q + 3 := ⟨k - 3, by omega⟩
    rw [bank_Age.l0, if_neg (by simp), bank_Age.j2, if_pos (by simp)]
    simp only [Option.bind_some, List.nil_append]
    rw [bank_Age.l1, if_neg (by simp)]
    simp [bage]
  | cons x L ih =>
    intro k n age t hk hl h0 hn hn1 ha hg
    obtain ⟨k, rfl⟩ : ∃ q, k = q + 2 := ⟨k - 2, by omega⟩
    simp only [List.length_cons] at hk hl
    obtain ⟨g1, g2, g3, g4, g5⟩ := bgood_cons.mp hg
    rw [show k + 2 = (k + 1) + 1 from rfl, bank_Age.l0, if_pos (by simp), if_pos (by simp), rd_hd x L]
    simp only [bage]
    by_cases c : x.f1 ≥ keep
    · rw [if_pos c, if_pos (by rw [List.length_cons]; omega), if_pos c, wr (n := t + x.f0) (by omega) (by omega), List.drop_one, List.tail_cons]
      rw [ih (k + 1) (n + x.f0) x.f1 (t + x.f0) (by omega) (by omega) (by omega) (by omega) (by omega) (by omega) g5]
      rw [Int.add_assoc]
    · rw [if_neg c, if_neg c, bank_Age.j2, if_pos (by simp; omega)]
      simp only [Option.bind_some, List.nil_append]
      have h := ageloop1 t (x :: L) k [] 0 (x :: L).length (by simp; omega) rfl rfl (by simp; omega) (fun y hy => by have := bgood_young hg y hy; omega)
      rw [List.nil_append, List.nil_append] at h
      rw [h, Int.add_zero]
theorem bagef {k : Nat} {l : List S32} (hk : 2 * l.length + 10 ≤ k) (hl : l.length ≤ 8796093022000) (keep : Int) : bank_Age.f k l keep = some (if bgood 0 36 l = true ∧ 0 ≤ keep ∧ keep ≤ 36 then ((bage keep l).1, (bage keep l).2, 0) else ([], 0, 8)) := by
  unfold bank_Age.f
  rw [bcheck (by omega) (by omega)]
  simp only [Option.bind_some]
  obtain ⟨k, rfl⟩ : ∃ q, k = q + 1 := ⟨k - 1, by omega⟩
  by_cases c : bgood 0 36 l = true
  · rw [if_pos c, if_pos rfl]
    by_cases c1 : keep < 0
    · rw [if_pos c1, bank_Age.j0, if_pos rfl, if_neg (by omega)]
    rw [if_neg c1]
    by_cases c2 : keep > 36
    · rw [decide_eq_true c2, bank_Age.j0, if_pos rfl, if_neg (by omega)]
    rw [decide_eq_false c2, bank_Age.j0, if_neg (by simp), if_pos ⟨c, by omega, by omega⟩, ageloop keep l k 0 36 0 (by omega) hl (by omega) (by omega) (by omega) (by omega) c, Int.zero_add]
  · rw [if_neg c, if_neg (by omega), bank_Age.j0, if_pos rfl, if_neg (fun h => c h.1)]
def bput (l : List S32) (n : Int) : List S32 × Int := if bgood 0 36 l = true then if n < 0 ∨ n > 1000000000000000 - bsum l then ([], 5) else (if n > 0 then l ++ [⟨n, 0⟩] else l, 0) else ([], 8)
theorem bputf {k : Nat} {l : List S32} (hk : l.length + 10 ≤ k) (hl : l.length ≤ 8796093022000) (n : Int) : bank_Put.f k l n = some (bput l n) := by
  unfold bank_Put.f bput
  rw [bsumf (by omega) (by omega)]
  obtain ⟨k, rfl⟩ : ∃ q, k = q + 1 := ⟨k - 1, by omega⟩
  by_cases c : bgood 0 36 l = true
  · have s := bgood_sum0 c
    rw [if_pos c, if_pos c]
    simp only [Option.bind_some, if_true]
    by_cases c1 : n < 0
    · rw [if_pos c1, bank_Put.j0, if_pos rfl, if_pos (.inl c1)]
    rw [if_neg c1, wr (n := 1000000000000000 - bsum l) (by omega) (by omega)]
    by_cases c2 : n > 1000000000000000 - bsum l
    · rw [decide_eq_true c2, bank_Put.j0, if_pos rfl, if_pos (.inr c2)]
    rw [decide_eq_false c2, bank_Put.j0, if_neg (by simp), if_pos (by simp; omega), if_neg (by omega)]
    simp only [Option.bind_some, List.nil_append]
    by_cases c3 : n > 0
    · rw [if_pos c3, if_pos c3, if_pos (by omega)]
    · rw [if_neg c3, if_neg c3]
  · rw [if_neg c, if_neg c]
    rfl
theorem refballoop (L : List S32) : ∀ (k : Nat) (p : List S32) (n age i N : Int), L.length + 1 ≤ k → i = p.length → N = (p ++ L).length → N ≤ 9000000000000 → 0 ≤ n → n ≤ 1000000000000000 → bgood n age L = true →
    pylonref19_Balance.l0 k (p ++ L) n N i = some (n + bsum L, 0) := by
  induction L with
  | nil =>
    intro k p n age i N hk hi hN hb h0 h1 hg
    obtain ⟨k, rfl⟩ : ∃ q, k = q + 1 := ⟨k - 1, by omega⟩
    rw [pylonref19_Balance.l0, if_neg (by simp at hN; omega)]
    simp [bsum]
  | cons x L ih =>
    intro k p n age i N hk hi hN hb h0 h1 hg
    obtain ⟨k, rfl⟩ : ∃ q, k = q + 1 := ⟨k - 1, by omega⟩
    have hl : ((p ++ x :: L).length : Int) = p.length + L.length + 1 := by simp; omega
    simp only [List.length_cons] at hk
    obtain ⟨g1, g2, g3, g4, g5⟩ := bgood_cons.mp hg
    have e : p ++ x :: L = (p ++ [x]) ++ L := by simp
    rw [pylonref19_Balance.l0, if_pos (by omega), if_pos (by omega), if_pos (by omega), rd_mid p L x i hi, wr (n := n + x.f0) (by omega) (by omega), wr (n := i + 1) (by omega) (by omega)]
    rw [e, ih k (p ++ [x]) (n + x.f0) x.f1 (i + 1) N (by omega) (by simp; omega) (by rw [← e]; exact hN) hb (by omega) (by omega) g5]
    simp only [bsum]
    rw [Int.add_assoc]
theorem refbbal {k : Nat} {l : List S32} (hk : 2 * l.length + 1 ≤ k) (hl : l.length ≤ 9000000000000) : pylonref19_Balance.f k l = some (if bgood 0 36 l = true then (bsum l, 0) else (0, 8)) := by
  unfold pylonref19_Balance.f
  rw [refbcheck hk hl]
  simp only [Option.bind_some]
  by_cases c : bgood 0 36 l = true
  · rw [if_pos c, if_pos c, if_pos rfl]
    have h := refballoop l k [] 0 36 0 l.length (by omega) rfl rfl (by omega) (by omega) (by omega) c
    rw [List.nil_append, Int.zero_add] at h
    exact h
  · rw [if_neg c, if_neg c, if_neg (by omega)]
theorem refbputf {k : Nat} {l : List S32} (hk : 2 * l.length + 10 ≤ k) (hl : l.length ≤ 8796093022000) (n : Int) : pylonref19_Put.f k l n = some (bput l n) := by
  unfold pylonref19_Put.f bput
  rw [refbbal (by omega) (by omega)]
  obtain ⟨k, rfl⟩ : ∃ q, k = q + 1 := ⟨k - 1, by omega⟩
  by_cases c : bgood 0 36 l = true
  · have s := bgood_sum0 c
    rw [if_pos c, if_pos c]
    simp only [Option.bind_some, if_true]
    by_cases c1 : n < 0
    · rw [if_pos c1, pylonref19_Put.j0, if_pos rfl, if_pos (.inl c1)]
    rw [if_neg c1, wr (n := 1000000000000000 - bsum l) (by omega) (by omega)]
    by_cases c2 : n > 1000000000000000 - bsum l
    · rw [decide_eq_true c2, pylonref19_Put.j0, if_pos rfl, if_pos (.inr c2)]
    rw [decide_eq_false c2, pylonref19_Put.j0, if_neg (by simp), if_neg (by omega)]
    simp only [Option.bind_some, List.nil_append]
    rw [if_pos (by simp; omega)]
    by_cases c3 : n > 0
    · rw [if_pos c3, if_pos c3, if_pos (by omega)]
    · rw [if_neg c3, if_neg c3]
  · rw [if_neg c, if_neg c]
    simp
theorem bage_all : ∀ {L : List S32} {keep : Int}, (∀ y ∈ L, y.f1 < keep) → bage keep L = (L.map (fun y => ⟨y.f0, y.f1 + 1⟩), 0)
  | [], _, _ => rfl
  | x :: L, keep, h => by
    have := h x (by simp)
    simp only [bage]
    rw [if_neg (by omega)]
theorem refageloop (keep : Int) (L : List S32) : ∀ (k : Nat) (p A : List S32) (n age t i N : Int), L.length + 1 ≤ k → i = p.length → N = (p ++ L).length → N ≤ 8796093022000 → A.length ≤ p.length → 0 ≤ t → t ≤ n → n ≤ 1000000000000000 → age ≤ 36 → bgood n age L = true →
    pylonref19_Age.l0 k (p ++ L) keep A t N i = some (A ++ (bage keep L).1, t + (bage keep L).2, 0) := by
  induction L with
  | nil =>
    intro k p A n age t i N hk hi hN hb hA h0 hn hn1 ha hg
    obtain ⟨k, rfl⟩ : ∃ q, k = q + 1 := ⟨k - 1, by omega⟩
    rw [pylonref19_Age.l0, if_neg (by simp at hN; omega)]
    simp [bage]
  | cons x L ih =>
    intro k p A n age t i N hk hi hN hb hA h0 hn hn1 ha hg
    obtain ⟨k, rfl⟩ : ∃ q, k = q + 1 := ⟨k - 1, by omega⟩
    have hl : ((p ++ x :: L).length : Int) = p.length + L.length + 1 := by simp; omega
    simp only [List.length_cons] at hk
    obtain ⟨g1, g2, g3, g4, g5⟩ := bgood_cons.mp hg
    have e : p ++ x :: L = (p ++ [x]) ++ L := by simp
    rw [pylonref19_Age.l0, if_pos (by omega), if_pos (by omega), if_pos (by omega), rd_mid p L x i hi, wr (n := x.f1 + 1) (by omega) (by omega), wr (n := i + 1) (by omega) (by omega), wr (n := t + x.f0) (by omega) (by omega)]
    simp only [bage]
    by_cases c : keep ≤ x.f1
    · rw [if_pos (by omega), if_pos c, e, ih k (p ++ [x]) A (n + x.f0) x.f1 (t + x.f0) (i + 1) N (by omega) (by simp; omega) (by rw [← e]; exact hN) hb (by simp; omega) (by omega) (by omega) (by omega) (by omega) g5]
      rw [Int.add_assoc]
    · rw [if_neg (by omega), if_neg c, if_pos (by omega), e, ih k (p ++ [x]) (A ++ [(⟨x.f0, x.f1 + 1⟩ : S32)]) (n + x.f0) x.f1 t (i + 1) N (by omega) (by simp; omega) (by rw [← e]; exact hN) hb (by simp; omega) (by omega) (by omega) (by omega) (by omega) g5]
      rw [bage_all (fun y hy => by have := bgood_young g5 y hy; omega)]
      simp
theorem refbagef {k : Nat} {l : List S32} (hk : 2 * l.length + 10 ≤ k) (hl : l.length ≤ 8796093022000) (keep : Int) : pylonref19_Age.f k l keep = some (if bgood 0 36 l = true ∧ 0 ≤ keep ∧ keep ≤ 36 then ((bage keep l).1, (bage keep l).2, 0) else ([], 0, 8)) := by
  unfold pylonref19_Age.f
  rw [refbcheck (by omega) (by omega)]
  simp only [Option.bind_some]
  obtain ⟨k, rfl⟩ : ∃ q, k = q + 1 := ⟨k - 1, by omega⟩
  by_cases c : bgood 0 36 l = true
  · rw [if_pos c, if_pos rfl]
    by_cases c1 : keep < 0
    · rw [if_pos c1, pylonref19_Age.j0, if_pos rfl, if_neg (by omega)]
    rw [if_neg c1]
    by_cases c2 : keep > 36
    · rw [decide_eq_true c2, pylonref19_Age.j0, if_pos rfl, if_neg (by omega)]
    rw [decide_eq_false c2, pylonref19_Age.j0, if_neg (by simp), if_pos ⟨c, by omega, by omega⟩]
    have h := refageloop keep l k [] [] 0 36 0 0 l.length (by omega) rfl rfl (by omega) (by simp) (by omega) (by omega) (by omega) (by omega) c
    rw [List.nil_append, List.nil_append, Int.zero_add] at h
    exact h
  · rw [if_neg c, if_neg (by omega), pylonref19_Age.j0, if_pos rfl, if_neg (fun h => c h.1)]
theorem btake_zero : ∀ {L : List S32}, (∀ y ∈ L, 1 ≤ y.f0) → btake 0 L = (L, 0)
  | [], _ => rfl
  | x :: L, h => by
    have := h x (by simp)
    simp only [btake]
    rw [if_neg (by omega), Int.sub_zero]
theorem reftakeloop (want : Int) (hw : 0 ≤ want ∧ want ≤ 9223372036854775807) (L : List S32) : ∀ (k : Nat) (p A : List S32) (n age t i N : Int), L.length + 1 ≤ k → i = p.length → N = (p ++ L).length → N ≤ 8796093022000 → A.length ≤ p.length → 0 ≤ t → t ≤ want → t ≤ n → n ≤ 1000000000000000 → bgood n age L = true →
    pylonref19_Take.l0 k (p ++ L) want A t N i = some (A ++ (btake (want - t) L).1, t + (btake (want - t) L).2, 0) := by
  induction L with
  | nil =>
    intro k p A n age t i N hk hi hN hb hA h0 h1 hn hn1 hg
    obtain ⟨k, rfl⟩ : ∃ q, k = q + 1 := ⟨k - 1, by omega⟩
    rw [pylonref19_Take.l0, if_neg (by simp at hN; omega)]
    simp [btake]
  | cons x L ih =>
    intro k p A n age t i N hk hi hN hb hA h0 h1 hn hn1 hg
    obtain ⟨k, rfl⟩ : ∃ q, k = q + 1 := ⟨k - 1, by omega⟩
    have hl : ((p ++ x :: L).length : Int) = p.length + L.length + 1 := by simp; omega
    simp only [List.length_cons] at hk
    obtain ⟨g1, g2, g3, g4, g5⟩ := bgood_cons.mp hg
    have e : p ++ x :: L = (p ++ [x]) ++ L := by simp
    rw [pylonref19_Take.l0, if_pos (by omega), if_pos (by omega), if_pos (by omega), rd_mid p L x i hi, wr (n := want - t) (by omega) (by omega)]
    simp only [btake]
    by_cases c : x.f0 ≤ want - t
    · have m : mn x.f0 (want - t) = x.f0 := by unfold mn; omega
      rw [m, if_neg (by omega), if_pos c, wr (n := t + x.f0) (by omega) (by omega), wr (n := i + 1) (by omega) (by omega), e, ih k (p ++ [x]) A (n + x.f0) x.f1 (t + x.f0) (i + 1) N (by omega) (by simp; omega) (by rw [← e]; exact hN) hb (by simp; omega) (by omega) (by omega) (by omega) (by omega) g5]
      rw [show want - (t + x.f0) = want - t - x.f0 by omega, Int.add_assoc]
    · have m : mn x.f0 (want - t) = want - t := by unfold mn; omega
      rw [m, if_pos (by omega), if_neg c, if_pos (by omega), wr (n := t + (want - t)) (by omega) (by omega), wr (n := i + 1) (by omega) (by omega), wr (n := x.f0 - (want - t)) (by omega) (by omega), e, show t + (want - t) = want by omega, ih k (p ++ [x]) (A ++ [(⟨x.f0 - (want - t), x.f1⟩ : S32)]) (n + x.f0) x.f1 want (i + 1) N (by omega) (by simp; omega) (by rw [← e]; exact hN) hb (by simp; omega) (by omega) (by omega) (by omega) (by omega) g5]
      rw [Int.sub_self, btake_zero (fun y hy => (bgood_young g5 y hy).2.2)]
      simp
theorem refbtakef {k : Nat} {l : List S32} (hk : 2 * l.length + 1 ≤ k) (hl : l.length ≤ 8796093022000) (w : Int) (hw : w ≤ 9223372036854775807) : pylonref19_Take.f k l w = some (if bgood 0 36 l = true then if w < 0 then ([], 0, 5) else ((btake w l).1, (btake w l).2, 0) else ([], 0, 8)) := by
  unfold pylonref19_Take.f
  rw [refbcheck hk (by omega)]
  simp only [Option.bind_some]
  by_cases c : bgood 0 36 l = true
  · rw [if_pos c, if_pos c, if_pos rfl]
    by_cases c2 : w < 0
    · rw [if_pos c2, if_pos c2]
    · rw [if_neg c2, if_neg c2]
      have h := reftakeloop w ⟨by omega, hw⟩ l k [] [] 0 36 0 0 l.length (by omega) rfl rfl (by omega) (by simp) (by omega) (by omega) (by omega) (by omega) c
      rw [List.nil_append, List.nil_append, Int.sub_zero, Int.zero_add] at h
      exact h
  · rw [if_neg c, if_neg c, if_neg (by omega)]
end Go.Proofs.Ytpogcehbciacdaa.PX
