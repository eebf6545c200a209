/- The document's rules answer always, and what rule 5 says. -/
import Derived.Test.YtkggjjggcbcdiaaPXx8
import Derived.Test.YtkggjjggcbcdiaaPXx9
import Derived.Test.YtkggjjggcbcdiaaPXx10
import Derived.Test.YtkggjjggcbcdiaaPXx11
import Derived.Test.YtkggjjggcbcdiaaPXx12
import Derived.Test.YtkggjjggcbcdiaaFtSa
import Derived.Test.YtkggjjggcbcdiaaFhR
import Derived.Test.YtkggjjggcbcdiaaRd
namespace Go.Proofs.Ytkggjjggcbcdiaa.PX
open Go.RowKit Go.Proofs.YtkggjjggcbcdiaaW.PrintWords Go.Proofs.YtkggjjggcbcdiaaW.PrintLast Go.Proofs.YtkggjjggcbcdiaaW.PrintMore
set_option linter.unusedVariables false
set_option linter.unusedSimpArgs false
/-- answers from some k on -/
def Tot {α : Type} (g : Nat → Option α) : Prop := ∃ r N, ∀ k, N ≤ k → g k = some r
theorem Tot.at_ {α : Type} {g f : Nat → Option α} (n : Nat) (h : ∀ k, g (k + n) = f k) (H : Tot f) : Tot g := by
  obtain ⟨r, N, h2⟩ := H
  refine ⟨r, N + n, fun k hk => ?_⟩
  rw [show k = k - n + n by omega, h]
  exact h2 _ (by omega)
theorem Tot.pure {α : Type} (r : α) : Tot (fun _ => some r) := ⟨r, 0, fun _ _ => rfl⟩
theorem Tot.bind {α β : Type} {g : Nat → Option α} {f : Nat → α → Option β} (H : Tot g) (h : ∀ r, Tot (fun k => f k r)) : Tot (fun k => (g k).bind (f k)) := by
  obtain ⟨r, N, h1⟩ := H
  obtain ⟨s, M, h2⟩ := h r
  exact ⟨s, N + M, fun k hk => by show (g k).bind (f k) = some s; rw [h1 k (by omega)]; exact h2 k (by omega)⟩
theorem Tot.ite {α : Type} {c : Prop} [Decidable c] {g f : Nat → Option α} (h1 : Tot g) (h2 : Tot f) : Tot (fun k => if c then g k else f k) := by
  by_cases h : c
  · simp only [if_pos h]; exact h1
  · simp only [if_neg h]; exact h2
theorem ofTot (s : ByteArray) (hs : s.size ≤ 9000000000000000) : ∀ (d : Nat) (i : Int), 0 ≤ i → i + d = s.size → Tot (fun k => pylonref06_Of.l0 k s 24 i) := by
  intro d
  induction d with
  | zero =>
    intro i h0 hi
    refine Tot.at_ 1 (fun k => ?_) (Tot.pure (if (s.size : Int) ≥ 1 then decide ((s.size : Int) ≤ 24) else false))
    rw [pylonref06_Of.l0, if_neg (by omega)]
    split <;> rfl
  | succ d ih =>
    intro i h0 hi
    have I := ih (i + 1) (by omega) (by omega)
    have P : Tot (fun _ : Nat => some false) := Tot.pure false
    refine Tot.at_ 1 (f := fun k => if (bt s i) ≥ 97 then (if (bt s i) ≤ 122 then (pylonref06_Of.l0 k s 24 (i + 1)) else (if (bt s i) ≥ 48 then (if (bt s i) ≤ 57 then (pylonref06_Of.l0 k s 24 (i + 1)) else (if (bt s i) = 95 then (pylonref06_Of.l0 k s 24 (i + 1)) else (if ((bt s i) = 45) then (pylonref06_Of.l0 k s 24 (i + 1)) else (some false)))) else (if (bt s i) = 95 then (pylonref06_Of.l0 k s 24 (i + 1)) else (if ((bt s i) = 45) then (pylonref06_Of.l0 k s 24 (i + 1)) else (some false))))) else (if (bt s i) ≥ 48 then (if (bt s i) ≤ 57 then (pylonref06_Of.l0 k s 24 (i + 1)) else (if (bt s i) = 95 then (pylonref06_Of.l0 k s 24 (i + 1)) else (if ((bt s i) = 45) then (pylonref06_Of.l0 k s 24 (i + 1)) else (some false)))) else (if (bt s i) = 95 then (pylonref06_Of.l0 k s 24 (i + 1)) else (if ((bt s i) = 45) then (pylonref06_Of.l0 k s 24 (i + 1)) else (some false))))) (fun k => ?_) ?_
    · rw [pylonref06_Of.l0, if_pos (by omega), if_pos (by omega), wr (n := i + 1) (by omega) (by omega)]
    · repeat' first
        | exact I
        | exact P
        | refine Tot.ite ?_ ?_
theorem nameTot (s : ByteArray) (hs : s.size ≤ 9000000000000000) : Tot (fun k => pylonref06_Name.f k s) := by
  obtain ⟨r, N, h⟩ := ofTot s hs s.size 0 (by omega) (by omega)
  by_cases c : 0 < (s.size : Int)
  · refine ⟨if r = true then (if (bt s 0) ≥ 97 then decide ((bt s 0) ≤ 122) else false) else false, N, fun k hk => ?_⟩
    have h1 : pylonref06_Of.l0 k s 24 0 = some r := h k hk
    show pylonref06_Name.f k s = _
    unfold pylonref06_Name.f pylonref06_Of.f
    rw [h1]
    simp only [Option.bind_some, if_pos c]
    split
    · split <;> rfl
    · rfl
  · refine ⟨false, N + 1, fun k hk => ?_⟩
    obtain ⟨k, rfl⟩ : ∃ q, k = q + 1 := ⟨k - 1, by omega⟩
    show pylonref06_Name.f (k + 1) s = _
    unfold pylonref06_Name.f pylonref06_Of.f
    rw [pylonref06_Of.l0, if_neg (by omega), if_neg (by omega)]
    rfl
theorem sgoTot (l : List S58) (hw : ∀ x ∈ l, W58 x) : ∀ d i h, i + d ≤ l.length → Tot (fun k => pylonref09_seasons.go k l d i h) := by
  intro d
  induction d with
  | zero => intro i h _; exact Tot.pure _
  | succ d ih =>
    intro i h hi
    have hm : rd_T58 l (i : Int) ∈ l := by unfold rd_T58; simp [List.getD_eq_getElem?_getD, show i < l.length by omega]
    have wx := hw _ hm
    have D : ∀ v : Int, (-9223372036854775808 ≤ v ∧ v ≤ 9223372036854775807) → Tot (fun k => pylonref09_Day.f k v) := fun v hv => ⟨dayE v, 40, fun k hk => refday hk hv⟩
    have M := nameTot (rd_T58 l (i : Int)).f0 (by have := wx.1; omega)
    simp only [pylonref09_seasons.go]
    refine Tot.bind (D _ (wf64 wx.2.1)) (fun a => Tot.bind (D _ (wf64 wx.2.2)) (fun b => Tot.bind M (fun nm => Tot.ite (Tot.pure _) (Tot.ite (Tot.pure _) (ih _ _ (by omega))))))
theorem seasonsTot (l : List S58) (hw : ∀ x ∈ l, W58 x) : Tot (fun k => pylonref09_seasons.f k l) := by
  unfold pylonref09_seasons.f
  refine Tot.ite (Tot.pure _) (Tot.bind (sgoTot l hw _ _ _ (by omega)) (fun r => ?_))
  cases r with
  | none => exact Tot.pure _
  | some h => exact Tot.pure _
theorem hgo (l : List S65) (hl : l.length ≤ 9000000000000) : ∀ (d : Nat) (i : Int), 0 ≤ i → i + d = l.length → ∃ r N, (∀ k, N ≤ k → pylonref09_holidays.l0 k l l.length i = some r) ∧ (r = true → ∀ j : Nat, i ≤ j → j < l.length → hgood (rd_T65 l (j : Int)).f0 (rd_T65 l (j : Int)).f1 (rd_T65 l (j : Int)).f2 (rd_T65 l (j : Int)).f3) := by
  intro d
  induction d with
  | zero =>
    intro i h0 hi
    refine ⟨decide ((l.length : Int) ≤ 64), 1, fun k hk => ?_, fun _ j h1 h2 => by omega⟩
    obtain ⟨k, rfl⟩ : ∃ q, k = q + 1 := ⟨k - 1, by omega⟩
    rw [pylonref09_holidays.l0, if_neg (by omega)]
  | succ d ih =>
    intro i h0 hi
    obtain ⟨r, N, h1, h2⟩ := ih (i + 1) (by omega) (by omega)
    obtain ⟨x, hx⟩ : ∃ x, rd_T65 l i = x := ⟨_, rfl⟩
    by_cases c : hgood x.f0 x.f1 x.f2 x.f3
    · refine ⟨r, N + 3, fun k hk => ?_, fun hr j h3 h4 => ?_⟩
      · obtain ⟨k, rfl⟩ : ∃ q, k = q + 3 := ⟨k - 3, by omega⟩
        rw [pylonref09_holidays.l0, if_pos (by omega), if_pos (by omega), if_pos (by omega), hx, refhcheck, if_pos c]
        simp only [Option.bind_some, if_true]
        rw [wr (n := i + 1) (by omega) (by omega)]
        exact h1 _ (by omega)
      · by_cases e : (j : Int) = i
        · rw [e, hx]; exact c
        · exact h2 hr j (by omega) h4
    · refine ⟨false, 3, fun k hk => ?_, fun hr => by simp at hr⟩
      obtain ⟨k, rfl⟩ : ∃ q, k = q + 3 := ⟨k - 3, by omega⟩
      rw [pylonref09_holidays.l0, if_pos (by omega), if_pos (by omega), if_pos (by omega), hx, refhcheck, if_neg c]
      rfl
theorem holsTot (l : List S65) (hl : l.length ≤ 9000000000000) : ∃ r N, (∀ k, N ≤ k → pylonref09_holidays.f k l = some r) ∧ (r = true → allg l = true) := by
  obtain ⟨r, N, h1, h2⟩ := hgo l hl l.length 0 (by omega) (by omega)
  refine ⟨r, N, h1, fun hr => ?_⟩
  unfold allg
  rw [List.all_eq_true]
  intro x hx
  obtain ⟨j, hj, e⟩ := List.getElem_of_mem hx
  have := h2 hr j (by omega) hj
  rw [show rd_T65 l (j : Int) = x by unfold rd_T65; simp [List.getD_eq_getElem?_getD, hj, e]] at this
  exact decide_eq_true this
theorem stepsTot (l : List S122) (hl : l.length ≤ 9000000000000) : Tot (fun k => pylonref17_Good.f k l) := by
  have L : ∀ (d : Nat) (i x : Int), 0 ≤ i → i + d = l.length → Tot (fun k => pylonref17_Good.l0 k l x l.length i) := by
    intro d
    induction d with
    | zero =>
      intro i x h0 hi
      refine Tot.at_ 1 (fun k => ?_) (Tot.pure false)
      rw [pylonref17_Good.l0, if_neg (by omega)]
    | succ d ih =>
      intro i x h0 hi
      have J : ∀ (b : Bool) (u v : Int), Tot (fun k => pylonref17_Good.j2 k l x i l.length i b u v) := by
        intro b u v
        refine Tot.at_ 1 (f := fun k => if b = true then (some false) else (if i = (wrap64 ((l.length : Int) - 1)) then (some (u == 0)) else (if u ≤ x then (some false) else (if u > 500000000000000 then (some false) else (pylonref17_Good.l0 k l u l.length (i + 1)))))) (fun k => ?_) (Tot.ite (Tot.pure _) (Tot.ite (Tot.pure _) (Tot.ite (Tot.pure _) (Tot.ite (Tot.pure _) (ih _ _ (by omega) (by omega))))))
        rw [pylonref17_Good.j2, wr (n := i + 1) (by omega) (by omega)]
      refine Tot.at_ 1 (f := fun k => if ((rd_T122 l i).f1) < (-10000000) then (pylonref17_Good.j2 k l x i l.length i true ((rd_T122 l i).f0) ((rd_T122 l i).f1)) else (pylonref17_Good.j2 k l x i l.length i (decide (((rd_T122 l i).f1) > 10000000)) ((rd_T122 l i).f0) ((rd_T122 l i).f1))) (fun k => ?_) (Tot.ite (J _ _ _) (J _ _ _))
      rw [pylonref17_Good.l0, if_pos (by omega), if_pos (by omega), if_pos (by omega)]
  have J0 : ∀ b, Tot (fun k => pylonref17_Good.j0 k l b) := by
    intro b
    refine Tot.at_ 1 (f := fun k => if b = true then (some false) else (pylonref17_Good.l0 k l 0 (l.length : Int) 0)) (fun k => ?_) (Tot.ite (Tot.pure _) (L l.length 0 0 (by omega) (by omega)))
    rw [pylonref17_Good.j0]
  unfold pylonref17_Good.f
  exact Tot.ite (J0 _) (J0 _)
theorem blocksTot (l : List S63) (hl : l.length ≤ 9000000000000) (hw : ∀ x ∈ l, x.f0.size ≤ 9000000000000000 ∧ x.f1.length ≤ 9000000000000) : Tot (fun k => pylonref09_blocks.f k l) := by
  have L : ∀ (d : Nat) (i : Int), 0 ≤ i → i + d = l.length → Tot (fun k => pylonref09_blocks.l0 k l l.length i) := by
    intro d
    induction d with
    | zero =>
      intro i h0 hi
      refine Tot.at_ 1 (f := fun _ => if (l.length : Int) ≥ 1 then (some (decide ((l.length : Int) ≤ 64))) else (some false)) (fun k => ?_) (Tot.ite (Tot.pure _) (Tot.pure _))
      rw [pylonref09_blocks.l0, if_neg (by omega)]
    | succ d ih =>
      intro i h0 hi
      have I := ih (i + 1) (by omega) (by omega)
      have M : ∀ (e : Nat) (x : Int), 0 ≤ x → x + e = i → Tot (fun k => pylonref09_blocks.l1 k l i x l.length i) := by
        intro e
        induction e with
        | zero =>
          intro x h1 h2
          refine Tot.at_ 1 (fun k => ?_) I
          rw [pylonref09_blocks.l1, if_neg (by omega), wr (n := i + 1) (by omega) (by omega)]
        | succ e ih2 =>
          intro x h1 h2
          refine Tot.at_ 1 (f := fun k => if ((rd_T63 l x).f0).toList = ((rd_T63 l i).f0).toList then (some false) else (pylonref09_blocks.l1 k l i (x + 1) l.length i)) (fun k => ?_) (Tot.ite (Tot.pure _) (ih2 (x + 1) (by omega) (by omega)))
          rw [pylonref09_blocks.l1, if_pos (by omega), if_pos (by omega), if_pos (by omega), if_pos (by omega), if_pos (by omega), wr (n := x + 1) (by omega) (by omega)]
      have J : ∀ b, Tot (fun k => pylonref09_blocks.j1 k l i l.length i b) := by
        intro b
        refine Tot.at_ 1 (f := fun k => if b = true then (some false) else (pylonref09_blocks.l1 k l i 0 l.length i)) (fun k => ?_) (Tot.ite (Tot.pure _) (M i.toNat 0 (by omega) (by omega)))
        rw [pylonref09_blocks.j1]
      have hm : rd_T63 l i ∈ l := by
        have hi2 : i.toNat < l.length := by omega
        unfold rd_T63; simp [List.getD_eq_getElem?_getD, hi2]
      have wx := hw _ hm
      refine Tot.at_ 1 (f := fun k => ((pylonref06_Name.f k ((rd_T63 l i).f0)).bind fun t454 => (if t454 = true then ((pylonref17_Good.f k ((rd_T63 l i).f1)).bind fun t456 => (pylonref09_blocks.j1 k l i l.length i (!t456))) else (pylonref09_blocks.j1 k l i l.length i true)))) (fun k => ?_) (Tot.bind (nameTot _ wx.1) (fun _ => Tot.ite (Tot.bind (stepsTot _ wx.2) (fun _ => J _)) (J _)))
      rw [pylonref09_blocks.l0, if_pos (by omega), if_pos (by omega), if_pos (by omega)]
  exact L l.length 0 (by omega) (by omega)
end Go.Proofs.Ytkggjjggcbcdiaa.PX
