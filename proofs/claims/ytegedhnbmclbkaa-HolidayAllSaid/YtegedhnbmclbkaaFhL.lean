/- A year's holidays: what the program's List and the document's say, by plain rules: the same. -/
import Derived.Test.YtegedhnbmclbkaaPXx5
import Derived.Test.YtegedhnbmclbkaaPXx9
import Derived.Test.YtegedhnbmclbkaaPXx11
import Derived.Test.YtegedhnbmclbkaaPXx12
import Derived.Test.YtegedhnbmclbkaaFhR
import Derived.Test.YtegedhnbmclbkaaFaR
namespace Go.Proofs.Ytegedhnbmclbkaa.PX
open Go.RowKit Go.Proofs.YtegedhnbmclbkaaW.PrintWords Go.Proofs.YtegedhnbmclbkaaW.PrintLast Go.Proofs.YtegedhnbmclbkaaW.PrintMore
set_option linter.unusedVariables false
set_option linter.unusedSimpArgs false
theorem hon_ok {kd a b c Y : Int} (h : (hon kd a b c Y).2.2.2 = 0) : Civ.ok (hon kd a b c Y).1 (hon kd a b c Y).2.1 (hon kd a b c Y).2.2.1 := by
  unfold hon at h ⊢
  by_cases g : hgood kd a b c
  · rw [if_pos g] at h ⊢
    by_cases cy : 1 ≤ Y ∧ Y ≤ 9999
    · rw [if_pos cy] at h ⊢
      by_cases k1 : kd = 1
      · rw [if_pos k1] at h ⊢
        by_cases cb : b ≤ Civ.len Y a
        · rw [if_pos cb]
          refine ⟨cy.1, cy.2, ?_⟩
          unfold hgood at g
          show 1 ≤ a ∧ a ≤ 12 ∧ 1 ≤ b ∧ b ≤ Civ.len Y a
          omega
        · rw [if_neg cb] at h; exact absurd h (by simp)
      · rw [if_neg k1] at h ⊢
        by_cases k2 : kd = 2
        · rw [if_pos k2]
          unfold hgood at g
          have n := Civ.nth_ok (y := Y) (m := a) (w := b) (d := c) ⟨cy.1, cy.2, by omega, by omega⟩ (by omega) (by omega) (by omega) (by omega)
          exact ⟨cy.1, cy.2, by show 1 ≤ a; omega, by show a ≤ 12; omega, n.1, n.2.1⟩
        · rw [if_neg k2] at h ⊢
          split
          · rename_i q
            exact (Civ.of_ok q.1 q.2).1
          · rename_i q
            rw [if_neg q] at h; exact absurd h (by simp)
    · rw [if_neg cy] at h; exact absurd h (by simp)
  · rw [if_neg g] at h; exact absurd h (by simp)
/-- the date by the rule of year Y, if it lies in year y -/
def hdate (h : S25) (y Y : Int) : List S33 := if (hon h.f0 h.f1 h.f2 h.f3 Y).2.2.2 = 0 ∧ (hon h.f0 h.f1 h.f2 h.f3 Y).1 = y then [⟨(hon h.f0 h.f1 h.f2 h.f3 Y).1, (hon h.f0 h.f1 h.f2 h.f3 Y).2.1, (hon h.f0 h.f1 h.f2 h.f3 Y).2.2.1⟩] else []
def hdates (y : Int) (h : S25) : List S33 := hdate h y (y + 1 - (2 : Nat)) ++ (hdate h y (y + 1 - (1 : Nat)) ++ (hdate h y (y + 1 - (0 : Nat)) ++ []))
def hfound (L : List S25) (y : Int) : List S33 := L.flatMap (hdates y)
def listE (L : List S25) (y : Int) : List S33 × Int := if allg L = true then if y < 1 ∨ 9999 < y then ([], 5) else (holiday_List.srt (hfound L y), 0) else ([], 8)
theorem mem_hdate {h : S25} {y Y : Int} {z : S33} : z ∈ hdate h y Y ↔ z.f0 = y ∧ pm h Y y z.f1 z.f2 = true := by
  unfold hdate pm
  split
  · rename_i c
    rw [List.mem_singleton]
    simp only [Bool.and_eq_true, decide_eq_true_eq, beq_iff_eq]
    constructor
    · rintro rfl; exact ⟨c.2, c.1, c.2, rfl, rfl⟩
    · rintro ⟨h0, _, h1, h2, h3⟩
      cases z
      simp only at *
      subst h2 h3
      rw [h1, ← h0]
  · rename_i c
    simp only [List.not_mem_nil, false_iff, Bool.and_eq_true, decide_eq_true_eq, beq_iff_eq]
    rintro ⟨_, h0, h1, _⟩
    exact c ⟨h0, h1⟩
theorem mem_hfound {L : List S25} {y : Int} {z : S33} : z ∈ hfound L y ↔ z.f0 = y ∧ L.any (hit3 y z.f1 z.f2) = true := by
  unfold hfound
  rw [List.mem_flatMap, List.any_eq_true]
  unfold hdates hit3
  simp only [List.mem_append, mem_hdate, List.not_mem_nil, or_false, Bool.or_eq_true]
  rw [show y + 1 - ((2 : Nat) : Int) = y - 1 by omega, show y + 1 - ((1 : Nat) : Int) = y by omega, show y + 1 - ((0 : Nat) : Int) = y + 1 by omega]
  constructor
  · rintro ⟨h, hh, ⟨e, p⟩ | ⟨e, p⟩ | ⟨e, p⟩⟩
    · exact ⟨e, h, hh, .inl p⟩
    · exact ⟨e, h, hh, .inr (.inl p)⟩
    · exact ⟨e, h, hh, .inr (.inr p)⟩
  · rintro ⟨e, h, hh, p | p | p⟩
    · exact ⟨h, hh, .inl ⟨e, p⟩⟩
    · exact ⟨h, hh, .inr (.inl ⟨e, p⟩)⟩
    · exact ⟨h, hh, .inr (.inr ⟨e, p⟩)⟩
theorem pm_ok {h : S25} {Y y m d : Int} (p : pm h Y y m d = true) : Civ.ok y m d := by
  unfold pm at p
  simp only [Bool.and_eq_true, decide_eq_true_eq, beq_iff_eq] at p
  obtain ⟨p0, p1, p2, p3⟩ := p
  have := hon_ok p0
  rwa [p1, p2, p3] at this
theorem hit3_ok {L : List S25} {y m d : Int} (p : L.any (hit3 y m d) = true) : Civ.ok y m d := by
  obtain ⟨h, _, p⟩ := List.any_eq_true.1 p
  unfold hit3 at p
  simp only [Bool.or_eq_true] at p
  rcases p with p | p | p <;> exact pm_ok p
/-- days d, d + 1 .. of a month, j of them -/
def hdayf (L : List S25) (y m : Int) : Nat → Int → List S33
  | 0, _ => []
  | j + 1, d => (if L.any (hit3 y m d) = true then [⟨y, m, d⟩] else []) ++ hdayf L y m j (d + 1)
def hmonf (L : List S25) (y : Int) : Nat → Int → List S33
  | 0, _ => []
  | j + 1, m => hdayf L y m (Civ.len y m).toNat 1 ++ hmonf L y j (m + 1)
theorem mem_hdayf {L : List S25} {y m : Int} {z : S33} : ∀ (j : Nat) (d : Int), z ∈ hdayf L y m j d ↔ z.f0 = y ∧ z.f1 = m ∧ d ≤ z.f2 ∧ z.f2 < d + j ∧ L.any (hit3 y m z.f2) = true
  | 0, d => by simp only [hdayf, List.not_mem_nil, false_iff]; omega
  | j + 1, d => by
    unfold hdayf
    rw [List.mem_append, mem_hdayf j (d + 1)]
    have e : z ∈ (if L.any (hit3 y m d) = true then [(⟨y, m, d⟩ : S33)] else []) ↔ z.f0 = y ∧ z.f1 = m ∧ z.f2 = d ∧ L.any (hit3 y m z.f2) = true := by
      split
      · rename_i c
        rw [List.mem_singleton]
        constructor
        · rintro rfl; exact ⟨rfl, rfl, rfl, c⟩
        · rintro ⟨h0, h1, h2, _⟩; cases z; simp only at *; subst h0 h1 h2; rfl
      · rename_i c
        simp only [List.not_mem_nil, false_iff]
        rintro ⟨_, _, h2, h3⟩; rw [h2] at h3; exact c h3
    rw [e]
    constructor
    · rintro (⟨h0, h1, h2, h3⟩ | ⟨h0, h1, h2, h3, h4⟩)
      · exact ⟨h0, h1, by omega, by omega, h3⟩
      · exact ⟨h0, h1, by omega, by omega, h4⟩
    · rintro ⟨h0, h1, h2, h3, h4⟩
      by_cases c : z.f2 = d
      · exact .inl ⟨h0, h1, c, h4⟩
      · exact .inr ⟨h0, h1, by omega, by omega, h4⟩
theorem mem_hmonf {L : List S25} {y : Int} {z : S33} : ∀ (j : Nat) (m : Int), z ∈ hmonf L y j m ↔ z.f0 = y ∧ m ≤ z.f1 ∧ z.f1 < m + j ∧ 1 ≤ z.f2 ∧ z.f2 ≤ Civ.len y z.f1 ∧ L.any (hit3 y z.f1 z.f2) = true
  | 0, m => by simp only [hmonf, List.not_mem_nil, false_iff]; omega
  | j + 1, m => by
    unfold hmonf
    rw [List.mem_append, mem_hmonf j (m + 1), mem_hdayf]
    have lb := Civ.len_bd y m
    constructor
    · rintro (⟨h0, h1, h2, h3, h4⟩ | ⟨h0, h1, h2, h3⟩)
      · exact ⟨h0, by omega, by omega, h2, by rw [h1]; omega, by rw [h1]; exact h4⟩
      · exact ⟨h0, by omega, by omega, h3⟩
    · rintro ⟨h0, h1, h2, h3, h4, h5⟩
      by_cases c : z.f1 = m
      · exact .inl ⟨h0, c, h3, by rw [c] at h4; omega, by rw [c] at h5; exact h5⟩
      · exact .inr ⟨h0, by omega, by omega, h3, h4, h5⟩
theorem asc_hdayf (L : List S25) (y m : Int) : ∀ (j : Nat) (d : Int), holiday_List.Asc (hdayf L y m j d)
  | 0, _ => List.Pairwise.nil
  | j + 1, d => by
    unfold hdayf
    refine List.pairwise_append.2 ⟨by split; (· exact List.pairwise_singleton _ _); (· exact List.Pairwise.nil), asc_hdayf L y m j (d + 1), fun a ha b hb => ?_⟩
    rw [mem_hdayf] at hb
    split at ha
    · rw [List.mem_singleton] at ha
      subst ha
      rw [holiday_List.lt_iff]
      simp only
      omega
    · simp at ha
theorem asc_hmonf (L : List S25) (y : Int) : ∀ (j : Nat) (m : Int), holiday_List.Asc (hmonf L y j m)
  | 0, _ => List.Pairwise.nil
  | j + 1, m => by
    unfold hmonf
    refine List.pairwise_append.2 ⟨asc_hdayf L y m _ _, asc_hmonf L y j (m + 1), fun a ha b hb => ?_⟩
    rw [mem_hdayf] at ha
    rw [mem_hmonf] at hb
    rw [holiday_List.lt_iff]
    omega
theorem srt_hmonf (L : List S25) (y : Int) : holiday_List.srt (hfound L y) = hmonf L y 12 1 := by
  refine holiday_List.uniq (holiday_List.asc_srt _) (asc_hmonf L y 12 1) fun z => ?_
  rw [holiday_List.mem_srt, mem_hfound, mem_hmonf]
  constructor
  · rintro ⟨h0, h1⟩
    have o := hit3_ok h1
    obtain ⟨_, _, o1, o2, o3, o4⟩ := o
    exact ⟨h0, o1, by omega, o3, o4, h1⟩
  · rintro ⟨h0, _, _, _, _, h1⟩
    exact ⟨h0, h1⟩
theorem len_hdayf (L : List S25) (y m : Int) : ∀ (j : Nat) (d : Int), (hdayf L y m j d).length ≤ j
  | 0, _ => Nat.le_refl _
  | j + 1, d => by
    unfold hdayf
    have := len_hdayf L y m j (d + 1)
    rw [List.length_append]
    split <;> simp <;> omega
theorem len_hmonf (L : List S25) (y : Int) : ∀ (j : Nat) (m : Int), (hmonf L y j m).length ≤ 31 * j
  | 0, _ => Nat.le_refl _
  | j + 1, m => by
    unfold hmonf
    have h1 := len_hmonf L y j (m + 1)
    have h2 := len_hdayf L y m (Civ.len y m).toNat 1
    have lb := Civ.len_bd y m
    rw [List.length_append]
    omega
theorem len_srt (L : List S25) (y : Int) : (holiday_List.srt (hfound L y)).length ≤ 372 := by rw [srt_hmonf]; exact len_hmonf L y 12 1
theorem hlall (k : Nat) : ∀ (L : List S25), (∀ x ∈ L, W25 x) → holiday_List.all (k + 1) L = some (allg L)
  | [], _ => rfl
  | h :: t, hw => by
    obtain ⟨hb, hc⟩ := wfH (hw h (by simp))
    unfold holiday_List.all
    rw [holcheck k _ _ _ _ hb hc, Option.bind_some]
    by_cases g : hgood h.f0 h.f1 h.f2 h.f3
    · rw [if_pos g, if_pos rfl, hlall k t (fun x hx => hw x (by simp [hx])), show allg (h :: t) = allg t by unfold allg; rw [List.all_cons, decide_eq_true g, Bool.true_and]]
    · rw [if_neg g, if_neg (by omega), show allg (h :: t) = false by unfold allg; rw [List.all_cons, decide_eq_false g, Bool.false_and]]
theorem hlone (k : Nat) (h : S25) (hw : W25 h) (y Y : Int) : holiday_List.one (k + 1) h y Y = some (hdate h y Y) := by
  obtain ⟨hb, hc⟩ := wfH hw
  unfold holiday_List.one hdate
  rw [holon k _ _ _ _ _ hb hc, Option.bind_some]
  split
  · rename_i c
    have o := hon_ok c.1
    have lb := Civ.len_bd (hon h.f0 h.f1 h.f2 h.f3 Y).1 (hon h.f0 h.f1 h.f2 h.f3 Y).2.1
    obtain ⟨o1, o2, o3, o4, o5, o6⟩ := o
    rw [if_pos]
    unfold holiday_List.i64
    omega
  · rfl
theorem hlup (k : Nat) (h : S25) (hw : W25 h) (y : Int) : holiday_List.up (k + 1) h y 3 = some (hdates y h) := by
  unfold holiday_List.up holiday_List.up holiday_List.up holiday_List.up
  rw [hlone k h hw, hlone k h hw, hlone k h hw]
  rfl
theorem hlput (k : Nat) (y : Int) : ∀ (L : List S25), (∀ x ∈ L, W25 x) → holiday_List.put (k + 1) y L = some (hfound L y)
  | [], _ => rfl
  | h :: t, hw => by
    unfold holiday_List.put
    rw [hlup k h (hw h (by simp)), Option.bind_some, hlput k y t (fun x hx => hw x (by simp [hx]))]
    rfl
theorem len_hdate (h : S25) (y Y : Int) : (hdate h y Y).length ≤ 1 := by unfold hdate; split <;> simp
theorem len_hfound (y : Int) : ∀ (L : List S25), (hfound L y).length ≤ 3 * L.length
  | [] => Nat.le_refl _
  | h :: t => by
    have e : hfound (h :: t) y = hdates y h ++ hfound t y := rfl
    have := len_hfound y t
    have h1 := len_hdate h y (y + 1 - (2 : Nat))
    have h2 := len_hdate h y (y + 1 - (1 : Nat))
    have h3 := len_hdate h y (y + 1 - (0 : Nat))
    rw [e]
    unfold hdates
    simp only [List.length_append, List.length_cons, List.length_nil] at *
    omega
theorem hollist {k : Nat} (L : List S25) (hw : ∀ x ∈ L, W25 x) (hk : 1 ≤ k) (hl : L.length ≤ 9000000000000) (y : Int) : holiday_List.f k L y = some (listE L y) := by
  obtain ⟨k, rfl⟩ : ∃ q, k = q + 1 := ⟨k - 1, by omega⟩
  unfold holiday_List.f listE
  rw [hlall k L hw, Option.bind_some]
  by_cases g : allg L = true
  · rw [if_pos g, if_pos g]
    by_cases c : y < 1 ∨ 9999 < y
    · rw [if_pos c, if_pos c]
    · rw [if_neg c, if_neg c, hlput k y L hw, Option.bind_some]
      have h1 := len_hfound y L
      have h2 := len_srt L y
      rw [if_pos ⟨by omega, by omega⟩]
  · rw [if_neg g, if_neg g]
theorem rl1 (L : List S25) (hw : ∀ x ∈ L, W25 x) (hl : L.length ≤ 9000000000000) (y m n : Int) (hy : 1 ≤ y ∧ y ≤ 9999) (hn : n ≤ 31) (R : List S33 × Int) (K : Nat) (hK : 11021 * L.length + 100 ≤ K) :
    ∀ (j : Nat) (d : Int) (acc : List S33) (k : Nat), n + 1 = d + j → 1 ≤ d → acc.length + j ≤ 1000 → (∀ k, K ≤ k → pylonref05_List.l0 k L y (acc ++ hdayf L y m j d) (wrap64 (m + 1)) = some R) → K + j + 1 ≤ k → pylonref05_List.l1 k L y acc m n d = some R
  | 0, d, acc, k, he, hd, ha, hc, hk => by
    obtain ⟨k, rfl⟩ : ∃ q, k = q + 1 := ⟨k - 1, by omega⟩
    rw [pylonref05_List.l1, if_neg (by omega)]
    have := hc k (by omega)
    unfold hdayf at this
    rwa [List.append_nil] at this
  | j + 1, d, acc, k, he, hd, ha, hc, hk => by
    obtain ⟨k, rfl⟩ : ∃ q, k = q + 1 := ⟨k - 1, by omega⟩
    have f := falls0 y m d hy L hw k [] 0 L.length (by omega) rfl rfl (by omega)
    rw [List.nil_append] at f
    rw [pylonref05_List.l1, if_pos (by omega)]
    unfold pylonref05_falls.f
    rw [f, Option.bind_some, wr (n := d + 1) (by omega) (by omega)]
    unfold hdayf at hc
    by_cases c : L.any (hit3 y m d) = true
    · rw [if_pos c, if_pos (by omega)]
      refine rl1 L hw hl y m n hy hn R K hK j (d + 1) (acc ++ [⟨y, m, d⟩]) k (by omega) (by omega) (by simp; omega) (fun q hq => ?_) (by omega)
      have := hc q hq
      rw [if_pos c] at this
      rw [List.append_assoc]
      exact this
    · rw [if_neg c]
      refine rl1 L hw hl y m n hy hn R K hK j (d + 1) acc k (by omega) (by omega) (by omega) (fun q hq => ?_) (by omega)
      have := hc q hq
      rw [if_neg c, List.nil_append] at this
      exact this
theorem rl0 (L : List S25) (hw : ∀ x ∈ L, W25 x) (hl : L.length ≤ 9000000000000) (y : Int) (hy : 1 ≤ y ∧ y ≤ 9999) :
    ∀ (j : Nat) (m : Int) (acc : List S33) (k : Nat), m + j = 13 → 1 ≤ m → acc.length + 31 * j ≤ 400 → 11021 * L.length + 200 + 50 * j ≤ k → pylonref05_List.l0 k L y acc m = some (acc ++ hmonf L y j m, 0)
  | 0, m, acc, k, he, hm, ha, hk => by
    obtain ⟨k, rfl⟩ : ∃ q, k = q + 1 := ⟨k - 1, by omega⟩
    rw [pylonref05_List.l0, if_neg (by omega)]
    unfold hmonf
    rw [List.append_nil]
  | j + 1, m, acc, k, he, hm, ha, hk => by
    obtain ⟨k, rfl⟩ : ∃ q, k = q + 3 := ⟨k - 3, by omega⟩
    have lb := Civ.len_bd y m
    rw [show k + 3 = (k + 2) + 1 from rfl, pylonref05_List.l0, if_pos (by omega), reflen k]
    have e : Civ.lenE y m = (Civ.len y m, 0) := by unfold Civ.lenE; rw [if_pos ⟨hy.1, hy.2, hm, by omega⟩]
    rw [e, Option.bind_some]
    refine rl1 L hw hl y m (Civ.len y m) hy (by omega) _ (11021 * L.length + 200 + 50 * j) (by omega) (Civ.len y m).toNat 1 acc (k + 2) (by omega) (by omega) (by omega) (fun q hq => ?_) (by omega)
    rw [wr (n := m + 1) (by omega) (by omega)]
    have h2 := len_hdayf L y m (Civ.len y m).toNat 1
    rw [rl0 L hw hl y hy j (m + 1) _ q (by omega) (by omega) (by rw [List.length_append]; omega) (by omega)]
    rw [show hmonf L y (j + 1) m = hdayf L y m (Civ.len y m).toNat 1 ++ hmonf L y j (m + 1) from rfl, List.append_assoc]
theorem reflist {k : Nat} (L : List S25) (hw : ∀ x ∈ L, W25 x) (hk : 11021 * L.length + 1000 ≤ k) (hl : L.length ≤ 9000000000000) (y : Int) : pylonref05_List.f k L y = some (listE L y) := by
  obtain ⟨k, rfl⟩ : ∃ q, k = q + 1 := ⟨k - 1, by omega⟩
  unfold pylonref05_List.f listE pylonref05_all.f
  have a := refall L (k + 1) [] 0 L.length (by omega) rfl rfl (by omega)
  rw [List.nil_append] at a
  rw [a, Option.bind_some]
  by_cases g : allg L = true
  · rw [if_pos g, if_pos g]
    by_cases c1 : y < 1
    · rw [if_pos c1, if_pos (.inl c1), pylonref05_List.j0, if_pos rfl]
    · rw [if_neg c1, pylonref05_List.j0]
      by_cases c2 : 9999 < y
      · rw [if_pos (decide_eq_true c2), if_pos (.inr c2)]
      · rw [if_neg (by simpa using c2), if_neg (by omega), rl0 L hw hl y ⟨by omega, by omega⟩ 12 1 [] k (by omega) (by omega) (by simp) (by omega), List.nil_append, srt_hmonf]
  · rw [if_neg g, if_neg g]
end Go.Proofs.Ytegedhnbmclbkaa.PX
