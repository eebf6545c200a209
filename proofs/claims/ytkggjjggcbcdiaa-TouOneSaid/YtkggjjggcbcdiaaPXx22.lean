/- Functions of the program as plain Lean functions, each with a proof that the call in the machine answers just what the plain function says; condition: the plain function answers at all. -/
import Derived.Test.YtkggjjggcbcdiaaPXx0
import Derived.Test.YtkggjjggcbcdiaaPXx8
import Derived.Test.YtkggjjggcbcdiaaPXx9
import Derived.Test.YtkggjjggcbcdiaaPXx10
import Derived.Test.YtkggjjggcbcdiaaPXx11
import Derived.Test.YtkggjjggcbcdiaaPXx12
import Derived.Test.YtkggjjggcbcdiaaPXx13
import Derived.Test.YtkggjjggcbcdiaaPXx16
import Derived.Test.YtkggjjggcbcdiaaPXx17
import Derived.Test.YtkggjjggcbcdiaaPXx21
import Derived.BigQuiet
import Derived.Deep.MidRow
namespace Go.Proofs.Ytkggjjggcbcdiaa.PX
open Go.RowKit Go.Proofs.YtkggjjggcbcdiaaW.PrintWords Go.Proofs.YtkggjjggcbcdiaaW.PrintLast Go.Proofs.YtkggjjggcbcdiaaW.PrintMore
attribute [local go_sem] max2_int min2_int max_two min_two max_three min_three max_four min_four   -- for this text's walks alone
set_option linter.unusedVariables false
set_option linter.unusedSimpArgs false

/-! ### pylonlaw14_TouOne: function 7 -/
/-- the four rows of a copied tariff -/
structure Rw (w : World) (base : Nat) (B15 : Option Addr) (d15 : Nat) (B16 : Option Addr) (d16 : Nat) (B17 : Option Addr) (d17 : Nat) (B18 : Option Addr) (d18 : Nat) (x15 : List S58) (x16 : List S65) (x17 : List S60) (x18 : List S63) : Prop where
  r15 : Kd.R k58 58 w base (fun _ => True) (.slice B15 x15.length d15) x15
  r16 : Kd.R k65 65 w base (fun _ => True) (.slice B16 x16.length d16) x16
  r17 : Kd.R k60 60 w base (fun _ => True) (.slice B17 x17.length d17) x17
  r18 : Kd.S k63 63 w base (fun _ => True) (.slice B18 x18.length d18) x18
/-- a row whose first i are turned round -/
def rv {α : Type} (l : List α) (i : Nat) : List α := l.reverse.take i ++ l.drop i
theorem rv_zero {α : Type} (l : List α) : rv l 0 = l := by simp [rv]
theorem rv_all {α : Type} (l : List α) : rv l l.length = l.reverse := by unfold rv; rw [List.take_of_length_le (by simp), List.drop_of_length_le (by simp), List.append_nil]
theorem rv_len {α : Type} (l : List α) (i : Nat) (h : i ≤ l.length) : (rv l i).length = l.length := by simp [rv]; omega
theorem rv_get {α : Type} (l : List α) (i t : Nat) (h : i ≤ l.length) : (rv l i)[t]? = if t < i then l.reverse[t]? else l[t]? := by
  unfold rv
  by_cases c : t < i
  · rw [if_pos c, List.getElem?_append_left (by simp; omega), List.getElem?_take, if_pos c]
  · rw [if_neg c, List.getElem?_append_right (by simp; omega), List.getElem?_drop]
    congr 1
    simp
    omega
theorem rv_step {α : Type} (l : List α) (i : Nat) (z : α) (h : i < l.length) : (rv l i).set i (l.getD (l.length - 1 - i) z) = rv l (i + 1) := by
  apply List.ext_getElem?
  intro t
  rw [List.getElem?_set, rv_get _ _ _ (by omega), rv_get _ _ _ (by omega), rv_len _ _ (by omega)]
  by_cases c : i = t
  · subst c
    rw [if_pos rfl, if_pos h, if_pos (by omega), List.getElem?_reverse h]
    rw [List.getD_eq_getElem?_getD, List.getElem?_eq_getElem (show l.length - 1 - i < l.length by omega)]
    rfl
  · rw [if_neg c]
    by_cases c2 : t < i
    · rw [if_pos c2, if_pos (by omega)]
    · rw [if_neg c2, if_neg (by omega)]
/-- where the walk stands: the tariff, its copy and the copy's rows -/
structure One (w wr : World) (gb gu : Nat) (C U : Array Value) (base : Nat) (B15 : Option Addr) (d15 : Nat) (B16 : Option Addr) (d16 : Nat) (B17 : Option Addr) (d17 : Nat) (B18 : Option Addr) (d18 : Nat) (x15 : List S58) (x16 : List S65) (x17 : List S60) (x18 : List S63) : Prop where
  bt : wr.heap[gb]? = some (.cells C 47 (0, 0))
  bu : wr.heap[gu]? = some (.cells U 47 (0, 0))
  rw : Rw wr base B15 d15 B16 d16 B17 d17 B18 d18 x15 x16 x17 x18
  bl : Below w.heap.size w wr
theorem one_ne {w : World} {g g' t t' : Nat} {C C' : Array Value} (h : w.heap[g]? = some (.cells C t (0, 0))) (h' : w.heap[g']? = some (.cells C' t' (0, 0))) (ht : t ≠ t') : g ≠ g' := by
  rintro rfl
  rw [h] at h'
  injection h' with h'
  injection h' with _ h'
  exact ht h'
section
variable {w wr : World} {gb gu base go : Nat} {C U : Array Value} {B15 B16 B17 B18 : Option Addr} {d15 d16 d17 d18 : Nat} {x15 : List S58} {x16 : List S65} {x17 : List S60} {x18 : List S63}
theorem One.drew (H : One w wr gb gu C U base B15 d15 B16 d16 B17 d17 B18 d18 x15 x16 x17 x18) : One w wr.drew gb gu C U base B15 d15 B16 d16 B17 d17 B18 d18 x15 x16 x17 x18 :=
  ⟨H.bt, H.bu, ⟨Kd.R_drew H.rw.r15, Kd.R_drew H.rw.r16, Kd.R_drew H.rw.r17, Kd.S_drew H.rw.r18⟩, below_drew H.bl⟩
theorem One.drewN (H : One w wr gb gu C U base B15 d15 B16 d16 B17 d17 B18 d18 x15 x16 x17 x18) (q : Nat) : One w (wr.drewN q) gb gu C U base B15 d15 B16 d16 B17 d17 B18 d18 x15 x16 x17 x18 :=
  ⟨H.bt, H.bu, ⟨Kd.R_drewN H.rw.r15 q, Kd.R_drewN H.rw.r16 q, Kd.R_drewN H.rw.r17 q, Kd.S_drewN H.rw.r18 q⟩, wd_dr H.bl q⟩
theorem One.set15 (H : One w wr gb gu C U base (some ⟨go, 0, none⟩) d15 B16 d16 B17 d17 B18 d18 x15 x16 x17 x18) (hb : w.heap.size ≤ base) (i : Int) (h0 : 0 ≤ i) (h1 : i < x15.length) (y : S58) :
    One w (wr.setCells go (i.toNat * 3 + 0) [.string y.f0, .int .i64 y.f1, .int .i64 y.f2]) gb gu C U base (some ⟨go, 0, none⟩) d15 B16 d16 B17 d17 B18 d18 (x15.set i.toNat y) x16 x17 x18 := by
  obtain ⟨bt, bu, ⟨r15, r16, r17, r18⟩, bl⟩ := H
  obtain ⟨g', cap, e, hg, -, cells, hc⟩ := Kd.R_form r15 (by omega)
  injection e with e1 e2 e3
  injection e1 with e1
  injection e1 with e1
  subst e1
  obtain ⟨c, hcl, -, hcc, -⟩ := Kd.R_elem r15 z58 i h0 h1
  have Q := (Kd.R_seg r15 i h0 h1 (seg := [.string y.f0, .int .i64 y.f1, .int .i64 y.f2]) (j := 0) hcl hcc (show 3 ≤ 3 from by decide) (x' := y) (by
    have hc3 : c.length = 3 := hcl
    rw [List.drop_of_length_le (by simp [hc3])]
    simp only [List.take_zero, List.nil_append, List.append_nil]
    exact k58_mkM _ _ _ y) (fun _ hk => hk)).1
  exact ⟨(cells_far (one_ne bt hc (by decide)) _ _).trans bt, (cells_far (one_ne bu hc (by decide)) _ _).trans bu, ⟨by rw [List.length_set]; exact Q, Kd.R_mono (R_cells (Kd.R_types r16 hc (by decide)) (fun _ hk => hk.2) _ _) (fun _ _ => trivial), Kd.R_mono (R_cells (Kd.R_types r17 hc (by decide)) (fun _ hk => hk.2) _ _) (fun _ _ => trivial), Kd.S_mono (S_cells (Kd.S_types r18 hc (by decide)) (fun _ hk => hk.2) _ _) (fun _ _ => trivial)⟩, below_cells (Nat.le_trans hb hg) _ _ bl⟩
theorem One.set17 (H : One w wr gb gu C U base B15 d15 B16 d16 (some ⟨go, 0, none⟩) d17 B18 d18 x15 x16 x17 x18) (hb : w.heap.size ≤ base) (i : Int) (h0 : 0 ≤ i) (h1 : i < x17.length) (y : S60) :
    One w (wr.setCells go (i.toNat * 5 + 0) [.string y.f0, .int .i64 y.f1, .int .i64 y.f2, .int .i64 y.f3, .string y.f4]) gb gu C U base B15 d15 B16 d16 (some ⟨go, 0, none⟩) d17 B18 d18 x15 x16 (x17.set i.toNat y) x18 := by
  obtain ⟨bt, bu, ⟨r15, r16, r17, r18⟩, bl⟩ := H
  obtain ⟨g', cap, e, hg, -, cells, hc⟩ := Kd.R_form r17 (by omega)
  injection e with e1 e2 e3
  injection e1 with e1
  injection e1 with e1
  subst e1
  obtain ⟨c, hcl, -, hcc, -⟩ := Kd.R_elem r17 z60 i h0 h1
  have Q := (Kd.R_seg r17 i h0 h1 (seg := [.string y.f0, .int .i64 y.f1, .int .i64 y.f2, .int .i64 y.f3, .string y.f4]) (j := 0) hcl hcc (show 5 ≤ 5 from by decide) (x' := y) (by
    have hc3 : c.length = 5 := hcl
    rw [List.drop_of_length_le (by simp [hc3])]
    simp only [List.take_zero, List.nil_append, List.append_nil]
    exact k60_mkM _ _ _ y) (fun _ hk => hk)).1
  exact ⟨(cells_far (one_ne bt hc (by decide)) _ _).trans bt, (cells_far (one_ne bu hc (by decide)) _ _).trans bu, ⟨Kd.R_mono (R_cells (Kd.R_types r15 hc (by decide)) (fun _ hk => hk.2) _ _) (fun _ _ => trivial), Kd.R_mono (R_cells (Kd.R_types r16 hc (by decide)) (fun _ hk => hk.2) _ _) (fun _ _ => trivial), by rw [List.length_set]; exact Q, Kd.S_mono (S_cells (Kd.S_types r18 hc (by decide)) (fun _ hk => hk.2) _ _) (fun _ _ => trivial)⟩, below_cells (Nat.le_trans hb hg) _ _ bl⟩
end
def pylonlaw14_TouOne.T14 : Bool × List (List Nat × List Nat) := (true, [([], []), ([0], [0]), ([], []), ([], []), ([3], [3]), ([], []), ([5], [5]), ([6], [6]), ([7], [7]), ([], []), ([8, 9], [8, 9]), ([4, 10], [4, 10]), ([11], [11]), ([1, 2, 0, 1, 2, 3, 4, 5, 6, 7, 8, 9, 10, 11, 12], [1, 2]), ([13, 12, 0, 1, 2, 3, 4, 5, 6, 7, 8, 9, 10, 11, 12], [12, 13])])
def pylonlaw14_TouOne.B14 : List Nat := [0, 1, 0, 0, 8, 0, 32, 96, 224, 0, 992, 2040, 4088, 8191, 16383]
theorem pylonlaw14_TouOne.tab14 : rtab .any (opsOf Try.f7 14) = pylonlaw14_TouOne.T14 := by kernel_rfl
theorem pylonlaw14_TouOne.bits14 : waitsOk pylonlaw14_TouOne.T14.2 pylonlaw14_TouOne.B14 = true := by kernel_rfl
def pylonlaw14_TouOne.T19 : Bool × List (List Nat × List Nat) := (true, [([], []), ([0], [0]), ([], []), ([], []), ([3], [3]), ([], []), ([5], [5]), ([6], [6]), ([7], [7]), ([], []), ([8, 9], [8, 9]), ([4, 10], [4, 10]), ([11], [11]), ([1, 2, 0, 1, 2, 3, 4, 5, 6, 7, 8, 9, 10, 11, 12], [1, 2]), ([13, 12, 0, 1, 2, 3, 4, 5, 6, 7, 8, 9, 10, 11, 12], [12, 13])])
def pylonlaw14_TouOne.B19 : List Nat := [0, 1, 0, 0, 8, 0, 32, 96, 224, 0, 992, 2040, 4088, 8191, 16383]
theorem pylonlaw14_TouOne.tab19 : rtab .any (opsOf Try.f7 19) = pylonlaw14_TouOne.T19 := by kernel_rfl
theorem pylonlaw14_TouOne.bits19 : waitsOk pylonlaw14_TouOne.T19.2 pylonlaw14_TouOne.B19 = true := by kernel_rfl
def pylonlaw14_TouOne.Good (k : Nat) (a0_0 : ByteArray) (a0_1 : Int) (a0_2 : Int) (a0_3 : Int) (a0_4 : Int) (a0_5 : Int) (a0_6 : Int) (a0_7 : Int) (a0_8 : Int) (a0_9 : Int) (a0_10 : Int) (a0_11 : Int) (a0_12 : Int) (a0_13 : Int) (a0_14 : Int) (l0_15 : List (S58)) (l0_16 : List (S65)) (l0_17 : List (S60)) (l0_18 : List (S63)) (a0_19 : Int) (a0_20 : Int) (a0_21 : Int) (a0_22 : Int) (a0_23 : Int) (a0_24 : Int) (a0_25 : Int) (a0_26 : Int) (a0_27 : Int) (a1 : Int) : Prop := pylonlaw14_awake.f k = some true ∧ pylonref08_Copy.f a0_0 a0_1 a0_2 a0_3 a0_4 a0_5 a0_6 a0_7 a0_8 a0_9 a0_10 a0_11 a0_12 a0_13 a0_14 l0_15 l0_16 l0_17 l0_18 a0_19 a0_20 a0_21 a0_22 a0_23 a0_24 a0_25 a0_26 a0_27 = some (a0_0, a0_1, a0_2, a0_3, a0_4, a0_5, a0_6, a0_7, a0_8, a0_9, a0_10, a0_11, a0_12, a0_13, a0_14, l0_15, l0_16, l0_17, l0_18, a0_19, a0_20, a0_21, a0_22, a0_23, a0_24, a0_25, a0_26, a0_27) ∧ (∃ n, pylonref06_Name.f k a0_0 = some n) ∧ (∃ (z : Int) (s h b wi : Bool), pylonref04_Check.f k a0_1 a0_2 a0_3 a0_4 a0_5 a0_6 a0_7 a0_8 a0_9 a0_10 = some z ∧ pylonref09_seasons.f k l0_15 = some s ∧ pylonref09_holidays.f k l0_16 = some h ∧ pylonref09_blocks.f k l0_18 = some b ∧ pylonref09_windows.f a0_0 a0_1 a0_2 a0_3 a0_4 a0_5 a0_6 a0_7 a0_8 a0_9 a0_10 a0_11 a0_12 a0_13 a0_14 l0_15 l0_16 l0_17 l0_18 a0_19 a0_20 a0_21 a0_22 a0_23 a0_24 a0_25 a0_26 a0_27 = some wi ∧ ∃ L1 L2 L3 L4 L5 L6 : Int, pylonref04_At.f k a0_1 a0_2 a0_3 a0_4 a0_5 a0_6 a0_7 a0_8 a0_9 a0_10 a1 = some (L1, L2, L3, L4, L5, L6) ∧ ∃ (nm : ByteArray) (e : Int), tou_At.f k a0_0 a0_1 a0_2 a0_3 a0_4 a0_5 a0_6 a0_7 a0_8 a0_9 a0_10 a0_11 a0_12 a0_13 a0_14 l0_15 l0_16 l0_17 l0_18 a0_19 a0_20 a0_21 a0_22 a0_23 a0_24 a0_25 a0_26 a0_27 a1 = some (nm, e) ∧ ((z = 0 ∧ s = true ∧ h = true ∧ b = true ∧ wi = true) → (L6 ≠ 0 → e = 5 ∧ nm = ⟨#[]⟩) ∧ (L6 = 0 → e = 0 ∧ pylonref09_windows.kn l0_18 nm l0_18.length = true ∧ tou_At.f k a0_0 a0_1 a0_2 a0_3 a0_4 a0_5 a0_6 a0_7 a0_8 a0_9 a0_10 a0_11 a0_12 a0_13 a0_14 l0_15.reverse l0_16 l0_17.reverse l0_18 a0_19 a0_20 a0_21 a0_22 a0_23 a0_24 a0_25 a0_26 a0_27 a1 = some (nm, 0))))
open Classical in
noncomputable def pylonlaw14_TouOne.f (k : Nat) (a0_0 : ByteArray) (a0_1 : Int) (a0_2 : Int) (a0_3 : Int) (a0_4 : Int) (a0_5 : Int) (a0_6 : Int) (a0_7 : Int) (a0_8 : Int) (a0_9 : Int) (a0_10 : Int) (a0_11 : Int) (a0_12 : Int) (a0_13 : Int) (a0_14 : Int) (l0_15 : List (S58)) (l0_16 : List (S65)) (l0_17 : List (S60)) (l0_18 : List (S63)) (a0_19 : Int) (a0_20 : Int) (a0_21 : Int) (a0_22 : Int) (a0_23 : Int) (a0_24 : Int) (a0_25 : Int) (a0_26 : Int) (a0_27 : Int) (a1 : Int) : Option Bool := if pylonlaw14_TouOne.Good k a0_0 a0_1 a0_2 a0_3 a0_4 a0_5 a0_6 a0_7 a0_8 a0_9 a0_10 a0_11 a0_12 a0_13 a0_14 l0_15 l0_16 l0_17 l0_18 a0_19 a0_20 a0_21 a0_22 a0_23 a0_24 a0_25 a0_26 a0_27 a1 then some true else none
set_option maxHeartbeats 16000000 in
set_option maxRecDepth 100000 in
theorem pylonlaw14_TouOne.calls (k : Nat) (a0_0 : ByteArray) (a0_1 : Int) (a0_2 : Int) (a0_3 : Int) (a0_4 : Int) (a0_5 : Int) (a0_6 : Int) (a0_7 : Int) (a0_8 : Int) (a0_9 : Int) (a0_10 : Int) (a0_11 : Int) (a0_12 : Int) (a0_13 : Int) (a0_14 : Int) (A0_15 : Option Addr) (c0_15 : Nat) (l0_15 : List (S58)) (A0_16 : Option Addr) (c0_16 : Nat) (l0_16 : List (S65)) (A0_17 : Option Addr) (c0_17 : Nat) (l0_17 : List (S60)) (A0_18 : Option Addr) (c0_18 : Nat) (l0_18 : List (S63)) (a0_19 : Int) (a0_20 : Int) (a0_21 : Int) (a0_22 : Int) (a0_23 : Int) (a0_24 : Int) (a0_25 : Int) (a0_26 : Int) (a0_27 : Int) (a1 : Int) (r : Bool) (w : World) (hr0_15 : Kd.C k58 w A0_15 l0_15.length l0_15) (hc0_15 : l0_15.length ≤ c0_15) (hr0_16 : Kd.C k65 w A0_16 l0_16.length l0_16) (hc0_16 : l0_16.length ≤ c0_16) (hr0_17 : Kd.C k60 w A0_17 l0_17.length l0_17) (hc0_17 : l0_17.length ≤ c0_17) (hr0_18 : Kd.C k63 w A0_18 l0_18.length l0_18) (hc0_18 : l0_18.length ≤ c0_18) (h : pylonlaw14_TouOne.f k a0_0 a0_1 a0_2 a0_3 a0_4 a0_5 a0_6 a0_7 a0_8 a0_9 a0_10 a0_11 a0_12 a0_13 a0_14 l0_15 l0_16 l0_17 l0_18 a0_19 a0_20 a0_21 a0_22 a0_23 a0_24 a0_25 a0_26 a0_27 a1 = some r) :
  Calls Try.prog 7 #[.agg #[.string a0_0, .int .i64 a0_1, .int .i64 a0_2, .int .i64 a0_3, .int .i64 a0_4, .int .i64 a0_5, .int .i64 a0_6, .int .i64 a0_7, .int .i64 a0_8, .int .i64 a0_9, .int .i64 a0_10, .int .i64 a0_11, .int .i64 a0_12, .int .i64 a0_13, .int .i64 a0_14, .slice A0_15 l0_15.length c0_15, .slice A0_16 l0_16.length c0_16, .slice A0_17 l0_17.length c0_17, .slice A0_18 l0_18.length c0_18, .int .i64 a0_19, .int .i64 a0_20, .int .i64 a0_21, .int .i64 a0_22, .int .i64 a0_23, .int .i64 a0_24, .int .i64 a0_25, .int .i64 a0_26, .int .i64 a0_27], .int .i64 a1] w fun e w' => e = .returned (.bool r) ∧ Below w.heap.size w w' := by
  unfold pylonlaw14_TouOne.f at h
  split at h
  case isFalse => exact absurd h (by simp)
  case isTrue hgood =>
  cases h
  obtain ⟨hA, hCp, ⟨n, hN⟩, z, s, h, b, wi, hZ, hS, hH, hB, hW, L1, L2, L3, L4, L5, L6, hL, nm, e, hT, hF⟩ := hgood
  have HA := AX hA
  have HLf := AX hL
  have HF := AX hF
  obtain ⟨C, hC⟩ : ∃ C : Array Value, (#[.string a0_0, .int .i64 a0_1, .int .i64 a0_2, .int .i64 a0_3, .int .i64 a0_4, .int .i64 a0_5, .int .i64 a0_6, .int .i64 a0_7, .int .i64 a0_8, .int .i64 a0_9, .int .i64 a0_10, .int .i64 a0_11, .int .i64 a0_12, .int .i64 a0_13, .int .i64 a0_14, .slice A0_15 l0_15.length c0_15, .slice A0_16 l0_16.length c0_16, .slice A0_17 l0_17.length c0_17, .slice A0_18 l0_18.length c0_18, .int .i64 a0_19, .int .i64 a0_20, .int .i64 a0_21, .int .i64 a0_22, .int .i64 a0_23, .int .i64 a0_24, .int .i64 a0_25, .int .i64 a0_26, .int .i64 a0_27] : Array Value) = C := ⟨_, rfl⟩
  have HK1 := AX (show ∀ w', Below w.heap.size w w' → Calls Try.prog 27 #[.agg C] w' (fun e' w'' => ∃ r1 r2, e' = .returned (.tuple #[.int .i64 r1, .int .i64 r2]) ∧ Below w'.heap.size w' w'' ∧ (r2 = 0 → z = 0 ∧ s = true ∧ h = true ∧ b = true ∧ wi = true)) from fun w' hb => by
   rw [← hC]
   exact pylonref09_Check.calls k a0_0 a0_1 a0_2 a0_3 a0_4 a0_5 a0_6 a0_7 a0_8 a0_9 a0_10 a0_11 a0_12 a0_13 a0_14 _ _ l0_15 _ _ l0_16 _ _ l0_17 _ _ l0_18 a0_19 a0_20 a0_21 a0_22 a0_23 a0_24 a0_25 a0_26 a0_27 n z s h b wi _ (Kd.C_below hr0_15 hb) hc0_15 (Kd.C_below hr0_16 hb) hc0_16 (Kd.C_below hr0_17 hb) hc0_17 (Kd.C_below hr0_18 hb) hc0_18 hN hZ hS hH hB hW)
  have HK2 := AX (show ∀ w', Below w.heap.size w w' → Calls Try.prog 26 #[.agg C] w' (fun e' w'' => ∃ D : Value, e' = .returned D ∧ Below w'.heap.size w' w'' ∧ Calls Try.prog 25 #[D, .int .i64 a1] w'' fun e'' w3 => e'' = .returned (.tuple #[.string nm, .int .i64 e]) ∧ Below w''.heap.size w'' w3) from fun w' hb => by
   rw [← hC]
   refine (pylonref08_Copy.calls a0_0 a0_1 a0_2 a0_3 a0_4 a0_5 a0_6 a0_7 a0_8 a0_9 a0_10 a0_11 a0_12 a0_13 a0_14 _ _ l0_15 _ _ l0_16 _ _ l0_17 _ _ l0_18 a0_19 a0_20 a0_21 a0_22 a0_23 a0_24 a0_25 a0_26 a0_27 _ _ _ _ _ _ _ _ _ _ _ _ _ _ _ _ _ _ _ _ _ _ _ _ _ _ _ _ _ (Kd.C_below hr0_15 hb) hc0_15 (Kd.C_below hr0_16 hb) hc0_16 (Kd.C_below hr0_17 hb) hc0_17 (Kd.C_below hr0_18 hb) hc0_18 hCp).mono ?_
   rintro e' w8 ⟨v15, v16, v17, v18, rfl, ho0, ho1, ho2, ho3, hb2⟩
   obtain ⟨B15, d15, e15⟩ := Kd.R_slice ho0
   obtain ⟨B16, d16, e16⟩ := Kd.R_slice ho1
   obtain ⟨B17, d17, e17⟩ := Kd.R_slice ho2
   obtain ⟨B18, d18, e18⟩ := Kd.S_slice ho3
   subst e15 e16 e17 e18
   exact ⟨_, rfl, hb2, tou_At.calls k a0_0 a0_1 a0_2 a0_3 a0_4 a0_5 a0_6 a0_7 a0_8 a0_9 a0_10 a0_11 a0_12 a0_13 a0_14 _ _ l0_15 _ _ l0_16 _ _ l0_17 _ _ l0_18 a0_19 a0_20 a0_21 a0_22 a0_23 a0_24 a0_25 a0_26 a0_27 a1 nm e _ (Kd.R_reads' ho0).2.2 (Kd.R_reads' ho0).2.1 (Kd.R_reads' ho1).2.2 (Kd.R_reads' ho1).2.1 (Kd.R_reads' ho2).2.2 (Kd.R_reads' ho2).2.1 (Kd.S_reads' ho3).2.2 (Kd.S_reads' ho3).2.1 hT⟩)
  have HK3 := AX (show ∀ w', Below w.heap.size w w' → Calls Try.prog 26 #[.agg C] w' (fun e' w'' => ∃ (U : Array Value) (B15 B16 B17 B18 : Option Addr) (d15 d16 d17 d18 : Nat), e' = .returned (.agg U) ∧ Below w'.heap.size w' w'' ∧ U.size = 28 ∧ U.all (·.oneCell') = true ∧ U[15]? = some (.slice B15 l0_15.length d15) ∧ U[17]? = some (.slice B17 l0_17.length d17) ∧ Rw w'' w'.heap.size B15 d15 B16 d16 B17 d17 B18 d18 l0_15 l0_16 l0_17 l0_18 ∧ ∀ w3 x15 x17, x15.length = l0_15.length → x17.length = l0_17.length → Rw w3 w'.heap.size B15 d15 B16 d16 B17 d17 B18 d18 x15 l0_16 x17 l0_18 → tou_At.f k a0_0 a0_1 a0_2 a0_3 a0_4 a0_5 a0_6 a0_7 a0_8 a0_9 a0_10 a0_11 a0_12 a0_13 a0_14 x15 l0_16 x17 l0_18 a0_19 a0_20 a0_21 a0_22 a0_23 a0_24 a0_25 a0_26 a0_27 a1 = some (nm, 0) → Calls Try.prog 25 #[.agg U, .int .i64 a1] w3 fun e'' w4 => e'' = .returned (.tuple #[.string nm, .int .i64 0]) ∧ Below w3.heap.size w3 w4) from fun w' hb => by
   rw [← hC]
   refine (pylonref08_Copy.calls a0_0 a0_1 a0_2 a0_3 a0_4 a0_5 a0_6 a0_7 a0_8 a0_9 a0_10 a0_11 a0_12 a0_13 a0_14 _ _ l0_15 _ _ l0_16 _ _ l0_17 _ _ l0_18 a0_19 a0_20 a0_21 a0_22 a0_23 a0_24 a0_25 a0_26 a0_27 _ _ _ _ _ _ _ _ _ _ _ _ _ _ _ _ _ _ _ _ _ _ _ _ _ _ _ _ _ (Kd.C_below hr0_15 hb) hc0_15 (Kd.C_below hr0_16 hb) hc0_16 (Kd.C_below hr0_17 hb) hc0_17 (Kd.C_below hr0_18 hb) hc0_18 hCp).mono ?_
   rintro e' w8 ⟨v15, v16, v17, v18, rfl, ho0, ho1, ho2, ho3, hb2⟩
   obtain ⟨B15, d15, e15⟩ := Kd.R_slice ho0
   obtain ⟨B16, d16, e16⟩ := Kd.R_slice ho1
   obtain ⟨B17, d17, e17⟩ := Kd.R_slice ho2
   obtain ⟨B18, d18, e18⟩ := Kd.S_slice ho3
   subst e15 e16 e17 e18
   refine ⟨_, B15, B16, B17, B18, d15, d16, d17, d18, rfl, hb2, rfl, by simp [Value.oneCell'], rfl, rfl, ⟨ho0, ho1, ho2, ho3⟩, fun w3 x15 x17 e15 e17 hR hT3 => ?_⟩
   obtain ⟨q0, q1, q2, q3⟩ := hR
   have := tou_At.calls k a0_0 a0_1 a0_2 a0_3 a0_4 a0_5 a0_6 a0_7 a0_8 a0_9 a0_10 a0_11 a0_12 a0_13 a0_14 _ _ x15 _ _ l0_16 _ _ x17 _ _ l0_18 a0_19 a0_20 a0_21 a0_22 a0_23 a0_24 a0_25 a0_26 a0_27 a1 nm 0 w3 (Kd.R_reads' q0).2.2 (Kd.R_reads' q0).2.1 (Kd.R_reads' q1).2.2 (Kd.R_reads' q1).2.1 (Kd.R_reads' q2).2.2 (Kd.R_reads' q2).2.1 (Kd.S_reads' q3).2.2 (Kd.S_reads' q3).2.1 hT3
   rw [e15, e17] at this
   exact this)
  have HCZ := AX (show C.size = 28 by rw [← hC]; rfl)
  have E0 := AX (show C[0]? = some (.string a0_0) by rw [← hC]; rfl)
  have E1 := AX (show C[1]? = some (.int .i64 a0_1) by rw [← hC]; rfl)
  have E2 := AX (show C[2]? = some (.int .i64 a0_2) by rw [← hC]; rfl)
  have E3 := AX (show C[3]? = some (.int .i64 a0_3) by rw [← hC]; rfl)
  have E4 := AX (show C[4]? = some (.int .i64 a0_4) by rw [← hC]; rfl)
  have E5 := AX (show C[5]? = some (.int .i64 a0_5) by rw [← hC]; rfl)
  have E6 := AX (show C[6]? = some (.int .i64 a0_6) by rw [← hC]; rfl)
  have E7 := AX (show C[7]? = some (.int .i64 a0_7) by rw [← hC]; rfl)
  have E8 := AX (show C[8]? = some (.int .i64 a0_8) by rw [← hC]; rfl)
  have E9 := AX (show C[9]? = some (.int .i64 a0_9) by rw [← hC]; rfl)
  have E10 := AX (show C[10]? = some (.int .i64 a0_10) by rw [← hC]; rfl)
  have E15 := AX (show C[15]? = some (.slice A0_15 l0_15.length c0_15) by rw [← hC]; rfl)
  have E17 := AX (show C[17]? = some (.slice A0_17 l0_17.length c0_17) by rw [← hC]; rfl)
  have E18 := AX (show C[18]? = some (.slice A0_18 l0_18.length c0_18) by rw [← hC]; rfl)
  have HR15 := AX hr0_15
  have hl15 := hr0_15.2.1
  have HR17 := AX hr0_17
  have hl17 := hr0_17.2.1
  have HR18 := AX hr0_18
  have hl18 := hr0_18.2.1
  clear hr0_15 hc0_15 hr0_16 hc0_16 hr0_17 hc0_17 hr0_18 hc0_18 hN hZ hS hH hB hW hA hCp hL hF hT
  go_enter Try.func7, Try.ntmps7
  have HB1 := AX ((Below.refl w.heap.size w).alloc (Nat.le_refl _) (.cells C 47))
  have BK := AX (heap_alloc_new w (.cells C 47))
  go_upto_region 1 with (fail)
  clear hC
  obtain ⟨W, hW⟩ : ∃ W : World, w.alloc (.cells C 47) = W := ⟨_, rfl⟩
  rw [hW] at BK HB1 ⊢
  clear hW
  have BKW := BK
  have HBW := HB1
  clear BK HB1
  obtain ⟨gb, hgb⟩ : ∃ g, w.heap.size = g := ⟨_, rfl⟩
  have HG := AX hgb
  rw [hgb] at BKW ⊢
  clear hgb
  have HL0 := AX (Below.refl W.heap.size W)
  go_upto_region 4 with (first | (go_at_call 15; refine (pylonlaw14_awake.calls k true _ HA.out).mono ?_; rintro e1 w1 ⟨rfl, hb⟩; have HL1 := AX hb; clear hb) | ((with_reducible refine gate_dst (N := 21) rfl ?_); refine wpList_load_mid rfl 47 (.tmp 2) rfl gb 0 rfl C.toList _ ?l1 Try.underlying47 rfl ?l2 ?_; (case l1 => exact wd_range (wd_at BKW.out HL1.out)); (case l2 => rw [Array.length_toList, HCZ.out]; kernel_rfl); rw [Array.toArray_toList]) | (go_at_call 27; refine (HK1.out _ (HBW.out.trans (HL1.out.mono HBW.out.size))).mono ?_; rintro e2 w2 ⟨r1, r2, rfl, hb, hok⟩; have HL2 := AX (HL1.out.trans (hb.mono HL1.out.size)); have HOK := AX hok; clear hb hok))
  by_cases c1 : r2 = 0
  rotate_left
  · have t1 : (r2 != 0) = true := by simp [c1]
    clear c1
    go_wp2
    go_ret
    exact ⟨rfl, HG.out ▸ HBW.out.trans (HL2.out.mono HBW.out.size)⟩
  have t1 : (r2 != 0) = false := by simp [c1]
  have HFF := AX (HF.out (HOK.out c1))
  clear c1 HF HOK
  go_upto_region 7 with (first | ((with_reducible refine gate_dst (N := 28) rfl ?_); refine wpList_load_mid rfl 47 (.tmp 2) rfl gb 0 rfl C.toList _ ?l1 Try.underlying47 rfl ?l2 ?_; (case l1 => exact wd_range (wd_at BKW.out HL2.out)); (case l2 => rw [Array.length_toList, HCZ.out]; kernel_rfl); rw [Array.toArray_toList]) | (go_at_call 26; refine (HK2.out _ (HBW.out.trans (HL2.out.mono HBW.out.size))).mono ?_; rintro e3 w3 ⟨D3, rfl, hb, hK⟩; have HL3 := AX (HL2.out.trans (hb.mono HL2.out.size)); have HD3 := AX hK; clear hb hK) | (go_at_call 25; refine HD3.out.mono ?_; rintro e4 w4 ⟨rfl, hb⟩; have HL4 := AX (HL3.out.trans (hb.mono HL3.out.size)); clear hb))
  have g1 : w4.cell? ⟨gb, 1, none⟩ = _ := wd_cell (wd_at BKW.out HL4.out) E1.out
  have g2 : w4.cell? ⟨gb, 2, none⟩ = _ := wd_cell (wd_at BKW.out HL4.out) E2.out
  have g3 : w4.cell? ⟨gb, 3, none⟩ = _ := wd_cell (wd_at BKW.out HL4.out) E3.out
  have g4 : w4.cell? ⟨gb, 4, none⟩ = _ := wd_cell (wd_at BKW.out HL4.out) E4.out
  have g5 : w4.cell? ⟨gb, 5, none⟩ = _ := wd_cell (wd_at BKW.out HL4.out) E5.out
  have g6 : w4.cell? ⟨gb, 6, none⟩ = _ := wd_cell (wd_at BKW.out HL4.out) E6.out
  have g7 : w4.cell? ⟨gb, 7, none⟩ = _ := wd_cell (wd_at BKW.out HL4.out) E7.out
  have g8 : w4.cell? ⟨gb, 8, none⟩ = _ := wd_cell (wd_at BKW.out HL4.out) E8.out
  have g9 : w4.cell? ⟨gb, 9, none⟩ = _ := wd_cell (wd_at BKW.out HL4.out) E9.out
  have g10 : w4.cell? ⟨gb, 10, none⟩ = _ := wd_cell (wd_at BKW.out HL4.out) E10.out
  go_upto_region 8 with (go_at_call 28; refine (pylonref04_At.calls k a0_1 a0_2 a0_3 a0_4 a0_5 a0_6 a0_7 a0_8 a0_9 a0_10 a1 L1 L2 L3 L4 L5 L6 _ HLf.out).mono ?_; rintro e5 w5 ⟨rfl, hb⟩; have HL5 := AX (HL4.out.trans (hb.mono HL4.out.size)); clear hb)
  clear g1 g2 g3 g4 g5 g6 g7 g8 g9 g10
  have HL6 := AX (HL5.out.alloc HL5.out.size (.cells #[.int .i64 L1, .int .i64 L2, .int .i64 L3, .int .i64 L4, .int .i64 L5] 54))
  obtain ⟨W6, hW6⟩ : ∃ x : World, w5.alloc (.cells #[.int .i64 L1, .int .i64 L2, .int .i64 L3, .int .i64 L4, .int .i64 L5] 54) = x := ⟨_, rfl⟩
  obtain ⟨gl, hgl⟩ : ∃ g, w5.heap.size = g := ⟨_, rfl⟩
  rw [hW6] at HL6 ⊢
  rw [hgl] at ⊢
  clear hW6 hgl
  by_cases c2 : L6 = 0
  rotate_left
  · have t2 : (L6 != 0) = true := by simp [c2]
    obtain ⟨rfl, rfl⟩ := HFF.out.1 c2
    clear c2 HFF
    go_wp2
    go_ret
    first | exact ⟨rfl, HG.out ▸ HBW.out.trans (HL6.out.mono HBW.out.size)⟩ | exact ⟨by simp, HG.out ▸ HBW.out.trans (HL6.out.mono HBW.out.size)⟩
  have t2 : (L6 != 0) = false := by simp [c2]
  obtain ⟨rfl, hkn, hT3⟩ := HFF.out.2 c2
  have HKN := AX hkn
  have HT3 := AX hT3
  clear c2 HFF hkn hT3
  go_upto_region 11 with (first | ((with_reducible refine gate_dst (N := 49) rfl ?_); refine wpList_load_mid rfl 47 (.tmp 2) rfl gb 0 rfl C.toList _ ?l1 Try.underlying47 rfl ?l2 ?_; (case l1 => exact wd_range (wd_at BKW.out HL6.out)); (case l2 => rw [Array.length_toList, HCZ.out]; kernel_rfl); rw [Array.toArray_toList]) | (go_at_call 26; refine (HK3.out _ (HBW.out.trans (HL6.out.mono HBW.out.size))).mono ?_; rintro e7 w7 ⟨U, B15, B16, B17, B18, d15, d16, d17, d18, rfl, hb, hus, huo, hu15, hu17, hrw, hat⟩; have HL7 := AX (HL6.out.trans (hb.mono HL6.out.size)); have HUS := AX hus; have HUO := AX huo; have HU15 := AX hu15; have HU17 := AX hu17; have HRW := AX hrw; have HAT := AX hat; clear hb hus huo hu15 hu17 hrw hat) | ((with_reducible refine gate_dst (N := 11) rfl ?_); refine bx 11 #[.string (⟨#[]⟩ : ByteArray), .int .i64 0, .int .i64 0, .int .i64 0, .int .i64 0, .int .i64 0, .int .i64 0, .int .i64 0, .int .i64 0, .int .i64 0, .int .i64 0, .int .i64 0, .int .i64 0, .int .i64 0, .int .i64 0, .slice none 0 0, .slice none 0 0, .slice none 0 0, .slice none 0 0, .int .i64 0, .int .i64 0, .int .i64 0, .int .i64 0, .int .i64 0, .int .i64 0, .int .i64 0, .int .i64 0, .int .i64 0] 47 ?_; intro gu hg w8 hbox hb; have BU := AX hbox; have HB8 := AX hb; have HG8 := AX hg; clear hbox hb hg) | (refine wpList_store_mid rfl 47 (.tmp 11) (.tmp 50) rfl gu 0 U rfl rfl ?s1 ?s2 ?s3 ?_; (case s1 => rw [HUS.out]; exact cp_there BU.out); (case s2 => rw [HUS.out]; kernel_rfl); (case s3 => exact HUO.out)))
  have HONE : Aside0 (One w (w8.setCells gu 0 U.toList) gb gu C U W6.heap.size B15 d15 B16 d16 B17 d17 B18 d18 (rv l0_15 0) l0_16 (rv l0_17 0) l0_18) := AX (by
    rw [rv_zero, rv_zero]
    have e := all_cells U.toList BU.out (by rw [Array.length_toList, HUS.out]; rfl)
    rw [Array.toArray_toList] at e
    have hl8 := HL7.out.trans (HB8.out.mono HL7.out.size)
    have b8 := wd_at BKW.out hl8
    have hne : gb ≠ gu := by
      rw [HG8.out]
      have := (Array.getElem?_eq_some_iff.1 (wd_at BKW.out HL7.out)).1
      omega
    obtain ⟨q0, q1, q2, q3⟩ := HRW.out
    exact ⟨(cells_far hne _ _).trans b8, e, ⟨Kd.R_mono (R_cells (Kd.R_types (Kd.R_below q0 HB8.out) BU.out (by decide)) (fun _ hk => hk.2) 0 _) (fun _ _ => trivial), Kd.R_mono (R_cells (Kd.R_types (Kd.R_below q1 HB8.out) BU.out (by decide)) (fun _ hk => hk.2) 0 _) (fun _ _ => trivial), Kd.R_mono (R_cells (Kd.R_types (Kd.R_below q2 HB8.out) BU.out (by decide)) (fun _ hk => hk.2) 0 _) (fun _ _ => trivial), Kd.S_mono (S_cells (Kd.S_types (Kd.S_below q3 HB8.out) BU.out (by decide)) (fun _ hk => hk.2) 0 _) (fun _ _ => trivial)⟩, below_cells (by rw [HG8.out]; exact Nat.le_trans HBW.out.size HL7.out.size) _ _ (HBW.out.trans (hl8.mono HBW.out.size))⟩)
  have HBS := AX (show w.heap.size ≤ W6.heap.size from Nat.le_trans HBW.out.size HL6.out.size)
  obtain ⟨W9, hW9⟩ : ∃ x : World, w8.setCells gu 0 U.toList = x := ⟨_, rfl⟩
  rw [hW9] at HONE ⊢
  clear hW9 BU HB8 HG8 HRW
  have g15 := wd_cell HONE.out.bt E15.out
  go_wp2
  clear g15
  go_loopw [54] (fun vi wr => ∃ x : Int, vi = .int .i64 x ∧ 0 ≤ x ∧ x ≤ l0_15.length ∧ Aside0 (One w wr gb gu C U W6.heap.size B15 d15 B16 d16 B17 d17 B18 d18 (rv l0_15 x.toNat) l0_16 (rv l0_17 0) l0_18)) (fun vi _ => l0_15.length - (intOf vi).toNat)
  case atStart => exact ⟨0, rfl, by omega, by omega, HONE⟩
  case round =>
    clear HONE
    obtain ⟨x, rfl, h0, hle, HONE⟩ := hrel
    by_cases hlt : x < (l0_15.length : Int)
    · have hl15' := hl15
      obtain ⟨ji, hji⟩ : ∃ j_ : Int, (wrap64 ((wrap64 ((l0_15.length : Int) - 1)) - x)) = j_ := ⟨_, rfl⟩
      have hjiw : (IntKind.i64.wrap ((wrap64 ((l0_15.length : Int) - 1)) - x)) = ji := (i64_w _).trans hji
      have hje : ji = (l0_15.length : Int) - 1 - x := by
        rw [← hji]; unfold wrap64; omega
      clear hji
      have c39b0 : decide (x < (l0_15.length : Int)) = true := decide_eq_true hlt
      go_upto_region 14 with (fail)
      have HONE1 := AX HONE.out.drew
      obtain ⟨ad, eA, z0, z1, z2⟩ := at_T58 (Kd.C_below HR15.out HONE1.out.bl) ji (by omega) (by omega)
      cases eA
      obtain ⟨go, cap, eo, hgo, -, cls, hcg⟩ := Kd.R_form HONE1.out.rw.r15 (by rw [rv_len _ _ (by omega)]; omega)
      injection eo with eo1 eo2 eo3
      subst eo1
      obtain ⟨ce, -, hM, hcc, hfr⟩ := Kd.R_elem HONE1.out.rw.r15 z58 x h0 (by rw [rv_len _ _ (by omega)]; omega)
      obtain rfl := k58_openM hM
      have y0 : World.cell? _ ⟨go, x.toNat * 3, none⟩ = some _ := hcc 0 _ rfl
      have v0 : World.frozen? _ ⟨go, x.toNat * 3, none⟩ = false := hfr 0
      have y1 : World.cell? _ ⟨go, x.toNat * 3 + 1, none⟩ = some _ := hcc 1 _ rfl
      have v1 : World.frozen? _ ⟨go, x.toNat * 3 + 1, none⟩ = false := hfr 1
      have y2 : World.cell? _ ⟨go, x.toNat * 3 + 2, none⟩ = some _ := hcc 2 _ rfl
      have v2 : World.frozen? _ ⟨go, x.toNat * 3 + 2, none⟩ = false := hfr 2
      clear hcc hfr hM hcg
      have u1 := wd_cell HONE1.out.bu HU15.out
      have u2 := wd_cell HONE1.out.bt E15.out
      have c39b0 : decide (x < (l0_15.length : Int)) = true := decide_eq_true (by omega)
      have c43b0 : decide (0 ≤ x) = true := decide_eq_true h0
      have c41b0 : decide (0 ≤ ji) = true := decide_eq_true (by omega)
      have c42b0 : decide (ji < (l0_15.length : Int)) = true := decide_eq_true (by omega)
      have p1 := eq_true h0
      have p2 : (x < (l0_15.length : Int)) = True := eq_true hlt
      have p3 : (0 ≤ ji) = True := eq_true (by omega)
      have p4 : (ji < (l0_15.length : Int)) = True := eq_true (by omega)
      have HJE := AX hje
      clear hje
      refine start_ (n := 15) (S := fun w' => w'.cell? ⟨gu, 15, none⟩ = some (.slice (some ⟨go, 0, none⟩) l0_15.length d15) ∧ w'.cell? ⟨gb, 15, none⟩ = some (.slice (some ad) l0_15.length c0_15) ∧ w'.cell? (ad.add (ji.toNat * 3)) = some (.string ((rd_T58 l0_15 ji).f0)) ∧ w'.cell? ⟨(ad.add (ji.toNat * 3)).block, (ad.add (ji.toNat * 3)).off + 1, none⟩ = some (.int .i64 ((rd_T58 l0_15 ji).f1)) ∧ w'.cell? ⟨(ad.add (ji.toNat * 3)).block, (ad.add (ji.toNat * 3)).off + 2, none⟩ = some (.int .i64 ((rd_T58 l0_15 ji).f2))) (ds := [14]) #[false, false, false, false, false, false, false, false, false, false, false, false, false, false, false] (by kernel_rfl) rfl rfl ⟨u1, u2, z0, z1, z2⟩ (fun hHeld => ?_)
      refine with_tabW pylonlaw14_TouOne.tab14 pylonlaw14_TouOne.bits14 (fun HT_ HW_ => ?_)
      clear u1 u2 z0 z1 z2
      generalize wr.drew = wd at HONE1 y0 v0 y1 v1 y2 v2 hHeld ⊢
      refine pure_ (i := 0) (N := some 57) (v := ?_) (a' := ?_) #[true, false, false, false, false, false, false, false, false, false, false, false, false, false, false] rfl rfl (any_of HT_.out (by kernel_rfl)) (fun _ _ _ h => h) (Or.inl ⟨by rfl, ?_⟩) ?_ ?_
      rotate_left
      · intro w'
        go_simp
        with_reducible rfl
      rotate_left
      · simp only [Act.put, List.setIfInBounds_toArray, List.set_cons_zero, List.set_cons_succ, i64_w, i32_w]
        rfl
      refine pure_ (i := 2) (N := some 59) (v := ?_) (a' := ?_) #[true, false, true, false, false, false, false, false, false, false, false, false, false, false, false] rfl rfl (any_of HT_.out (by kernel_rfl)) (fun _ _ _ h => h) (Or.inl ⟨by rfl, ?_⟩) ?_ ?_
      rotate_left
      · intro w'
        go_simp
        with_reducible rfl
      rotate_left
      · simp only [Act.put, List.setIfInBounds_toArray, List.set_cons_zero, List.set_cons_succ, i64_w, i32_w]
        rfl
      refine pure_ (i := 3) (N := some 60) (v := ?_) (a' := ?_) #[true, false, true, true, false, false, false, false, false, false, false, false, false, false, false] rfl rfl (any_of HT_.out (by kernel_rfl)) (fun _ _ _ h => h) (Or.inl ⟨by rfl, ?_⟩) ?_ ?_
      rotate_left
      · intro w'
        go_simp
        with_reducible rfl
      rotate_left
      · simp only [Act.put, List.setIfInBounds_toArray, List.set_cons_zero, List.set_cons_succ, i64_w, i32_w]
        rfl
      refine pure_ (i := 5) (N := some 62) (v := ?_) (a' := ?_) #[true, false, true, true, false, true, false, false, false, false, false, false, false, false, false] rfl rfl (any_of HT_.out (by kernel_rfl)) (fun _ _ _ h => h) (Or.inl ⟨by rfl, ?_⟩) ?_ ?_
      rotate_left
      · intro w'
        go_simp
        with_reducible rfl
      rotate_left
      · simp only [Act.put, List.setIfInBounds_toArray, List.set_cons_zero, List.set_cons_succ, i64_w, i32_w]
        rfl
      refine pure_ (i := 9) (N := some 66) (v := ?_) (a' := ?_) #[true, false, true, true, false, true, false, false, false, true, false, false, false, false, false] rfl rfl (any_of HT_.out (by kernel_rfl)) (fun _ _ _ h => h) (Or.inl ⟨by rfl, ?_⟩) ?_ ?_
      rotate_left
      · intro w'
        go_simp
        with_reducible rfl
      rotate_left
      · simp only [Act.put, List.setIfInBounds_toArray, List.set_cons_zero, List.set_cons_succ, i64_w, i32_w]
        rfl
      refine take_ (i := 1) (N := some 58) (v := ?_) (a' := ?_) #[true, true, true, true, false, true, false, false, false, true, false, false, false, false, false] rfl rfl (take_ofW HT_.out HW_.out (by kernel_rfl)) (fun _ _ _ h => h) (Or.inl ⟨by rfl, ?_⟩) hHeld ?_ ?_
      rotate_left
      · rintro w' ⟨s0, s1, s2, s3, s4⟩
        go_simp
        with_reducible rfl
      rotate_left
      · simp only [Act.put, List.setIfInBounds_toArray, List.set_cons_zero, List.set_cons_succ, i64_w, i32_w]
        rfl
      refine take_ (i := 4) (N := some 61) (v := ?_) (a' := ?_) #[true, true, true, true, true, true, false, false, false, true, false, false, false, false, false] rfl rfl (take_ofW HT_.out HW_.out (by kernel_rfl)) (fun _ _ _ h => h) (Or.inl ⟨by rfl, ?_⟩) hHeld ?_ ?_
      rotate_left
      · rintro w' ⟨s0, s1, s2, s3, s4⟩
        go_simp
        with_reducible rfl
      rotate_left
      · simp only [Act.put, List.setIfInBounds_toArray, List.set_cons_zero, List.set_cons_succ, i64_w, i32_w]
        rfl
      refine take_ (i := 6) (N := some 63) (v := ?_) (a' := ?_) #[true, true, true, true, true, true, true, false, false, true, false, false, false, false, false] rfl rfl (take_ofW HT_.out HW_.out (by kernel_rfl)) (fun _ _ _ h => h) (Or.inl ⟨by rfl, ?_⟩) hHeld ?_ ?_
      rotate_left
      · rintro w' ⟨s0, s1, s2, s3, s4⟩
        go_simp
        with_reducible rfl
      rotate_left
      · simp only [Act.put, List.setIfInBounds_toArray, List.set_cons_zero, List.set_cons_succ, i64_w, i32_w]
        rfl
      refine pure_ (i := 7) (N := some 64) (v := ?_) (a' := ?_) #[true, true, true, true, true, true, true, true, false, true, false, false, false, false, false] rfl rfl (any_of HT_.out (by kernel_rfl)) (fun _ _ _ h => h) (Or.inl ⟨by rfl, ?_⟩) ?_ ?_
      rotate_left
      · intro w'
        go_simp
        with_reducible rfl
      rotate_left
      · simp only [Act.put, List.setIfInBounds_toArray, List.set_cons_zero, List.set_cons_succ, i64_w, i32_w]
        rfl
      refine pure_ (i := 8) (N := some 65) (v := ?_) (a' := ?_) #[true, true, true, true, true, true, true, true, true, true, false, false, false, false, false] rfl rfl (any_of HT_.out (by kernel_rfl)) (fun _ _ _ h => h) (Or.inl ⟨by rfl, ?_⟩) ?_ ?_
      rotate_left
      · intro w'
        go_simp
        with_reducible rfl
      rotate_left
      · simp only [Act.put, List.setIfInBounds_toArray, List.set_cons_zero, List.set_cons_succ, i64_w, i32_w]
        rfl
      refine pure_ (i := 10) (N := some 67) (v := ?_) (a' := ?_) #[true, true, true, true, true, true, true, true, true, true, true, false, false, false, false] rfl rfl (any_of HT_.out (by kernel_rfl)) (fun _ _ _ h => h) (Or.inl ⟨by rfl, ?_⟩) ?_ ?_
      rotate_left
      · intro w'
        go_simp
        with_reducible rfl
      rotate_left
      · simp only [Act.put, List.setIfInBounds_toArray, List.set_cons_zero, List.set_cons_succ, i64_w, i32_w]
        rfl
      refine pure_ (i := 11) (N := some 68) (v := ?_) (a' := ?_) #[true, true, true, true, true, true, true, true, true, true, true, true, false, false, false] rfl rfl (any_of HT_.out (by kernel_rfl)) (fun _ _ _ h => h) (Or.inl ⟨by rfl, ?_⟩) ?_ ?_
      rotate_left
      · intro w'
        go_simp
        with_reducible rfl
      rotate_left
      · simp only [Act.put, List.setIfInBounds_toArray, List.set_cons_zero, List.set_cons_succ, i64_w, i32_w]
        rfl
      refine take_ (i := 12) (N := some 69) (v := ?_) (a' := ?_) #[true, true, true, true, true, true, true, true, true, true, true, true, true, false, false] rfl rfl (take_ofW HT_.out HW_.out (by kernel_rfl)) (fun _ _ _ h => h) (Or.inl ⟨by rfl, ?_⟩) hHeld ?_ ?_
      rotate_left
      · rintro w' ⟨s0, s1, s2, s3, s4⟩
        go_simp
        with_reducible rfl
      rotate_left
      · simp only [Act.put, List.setIfInBounds_toArray, List.set_cons_zero, List.set_cons_succ, i64_w, i32_w]
        rfl
      refine pure_ (i := 13) (N := some 70) (v := ?_) (a' := ?_) #[true, true, true, true, true, true, true, true, true, true, true, true, true, true, false] rfl rfl (any_of HT_.out (by kernel_rfl)) (fun _ _ _ h => h) (Or.inl ⟨by rfl, ?_⟩) ?_ ?_
      rotate_left
      · intro w'
        go_simp
        with_reducible rfl
      rotate_left
      · simp only [Act.put, List.setIfInBounds_toArray, List.set_cons_zero, List.set_cons_succ, i64_w, i32_w]
        rfl
      refine last_ (i := 14) (N := none) #[true, true, true, true, true, true, true, true, true, true, true, true, true, true, true] rfl rfl (one_of HT_.out (by kernel_rfl)) (by decide) (fun K hK => ?_)
      refine skip_ (w1 := ?_) (by rfl) rfl ?_ ?_
      rotate_left
      · go_simp
        rfl
      refine hK.out _ _ ?_
      clear hK K
      refine done_ (done_of HT_.out (by kernel_rfl)) ?_
      try go_wp2
      go_roundw
      case rel => exact ⟨x + 1, by go_num, by omega, by omega, AX (by
        have := One.set15 HONE1.out HBS.out x h0 (by rw [rv_len _ _ (by omega)]; omega) (rd_T58 l0_15 ji)
        rw [show rd_T58 l0_15 ji = l0_15.getD (l0_15.length - 1 - x.toNat) z58 by unfold rd_T58; rw [HJE.out]; congr 1; omega, rv_step _ _ _ (by omega), show x.toNat + 1 = (x + 1).toNat by omega] at this
        rw [show rd_T58 l0_15 ji = l0_15.getD (l0_15.length - 1 - x.toNat) z58 by unfold rd_T58; rw [HJE.out]; congr 1; omega]
        exact this)⟩
      case measure => simp [intOf]; omega
    · obtain rfl : x = (l0_15.length : Int) := by omega
      have c39b0 : decide ((l0_15.length : Int) < (l0_15.length : Int)) = false := decide_eq_false (by omega)
      rw [Int.toNat_natCast, rv_all] at HONE
      have g17 := wd_cell HONE.out.bt E17.out
      go_wp2
      clear g17
      go_loopw [75] (fun vi wr => ∃ x : Int, vi = .int .i64 x ∧ 0 ≤ x ∧ x ≤ l0_17.length ∧ Aside0 (One w wr gb gu C U W6.heap.size B15 d15 B16 d16 B17 d17 B18 d18 l0_15.reverse l0_16 (rv l0_17 x.toNat) l0_18)) (fun vi _ => l0_17.length - (intOf vi).toNat)
      case atStart => exact ⟨0, rfl, by omega, by omega, HONE⟩
      case round =>
        clear HONE
        obtain ⟨x, rfl, h0, hle, HONE⟩ := hrel
        by_cases hlt : x < (l0_17.length : Int)
        · have hl17' := hl17
          obtain ⟨ji, hji⟩ : ∃ j_ : Int, (wrap64 ((wrap64 ((l0_17.length : Int) - 1)) - x)) = j_ := ⟨_, rfl⟩
          have hjiw : (IntKind.i64.wrap ((wrap64 ((l0_17.length : Int) - 1)) - x)) = ji := (i64_w _).trans hji
          have hje : ji = (l0_17.length : Int) - 1 - x := by
            rw [← hji]; unfold wrap64; omega
          clear hji
          have c39b0 : decide (x < (l0_17.length : Int)) = true := decide_eq_true hlt
          go_upto_region 19 with (fail)
          have HONE1 := AX HONE.out.drew
          obtain ⟨ad, eA, z0, z1, z2, z3, z4⟩ := at_T60 (Kd.C_below HR17.out HONE1.out.bl) ji (by omega) (by omega)
          cases eA
          obtain ⟨go, cap, eo, hgo, -, cls, hcg⟩ := Kd.R_form HONE1.out.rw.r17 (by rw [rv_len _ _ (by omega)]; omega)
          injection eo with eo1 eo2 eo3
          subst eo1
          obtain ⟨ce, -, hM, hcc, hfr⟩ := Kd.R_elem HONE1.out.rw.r17 z60 x h0 (by rw [rv_len _ _ (by omega)]; omega)
          obtain rfl := k60_openM hM
          have y0 : World.cell? _ ⟨go, x.toNat * 5, none⟩ = some _ := hcc 0 _ rfl
          have v0 : World.frozen? _ ⟨go, x.toNat * 5, none⟩ = false := hfr 0
          have y1 : World.cell? _ ⟨go, x.toNat * 5 + 1, none⟩ = some _ := hcc 1 _ rfl
          have v1 : World.frozen? _ ⟨go, x.toNat * 5 + 1, none⟩ = false := hfr 1
          have y2 : World.cell? _ ⟨go, x.toNat * 5 + 2, none⟩ = some _ := hcc 2 _ rfl
          have v2 : World.frozen? _ ⟨go, x.toNat * 5 + 2, none⟩ = false := hfr 2
          have y3 : World.cell? _ ⟨go, x.toNat * 5 + 3, none⟩ = some _ := hcc 3 _ rfl
          have v3 : World.frozen? _ ⟨go, x.toNat * 5 + 3, none⟩ = false := hfr 3
          have y4 : World.cell? _ ⟨go, x.toNat * 5 + 4, none⟩ = some _ := hcc 4 _ rfl
          have v4 : World.frozen? _ ⟨go, x.toNat * 5 + 4, none⟩ = false := hfr 4
          clear hcc hfr hM hcg
          have u1 := wd_cell HONE1.out.bu HU17.out
          have u2 := wd_cell HONE1.out.bt E17.out
          have c39b0 : decide (x < (l0_17.length : Int)) = true := decide_eq_true (by omega)
          have c43b0 : decide (0 ≤ x) = true := decide_eq_true h0
          have c41b0 : decide (0 ≤ ji) = true := decide_eq_true (by omega)
          have c42b0 : decide (ji < (l0_17.length : Int)) = true := decide_eq_true (by omega)
          have p1 := eq_true h0
          have p2 : (x < (l0_17.length : Int)) = True := eq_true hlt
          have p3 : (0 ≤ ji) = True := eq_true (by omega)
          have p4 : (ji < (l0_17.length : Int)) = True := eq_true (by omega)
          have HJE := AX hje
          clear hje
          refine start_ (n := 15) (S := fun w' => w'.cell? ⟨gu, 17, none⟩ = some (.slice (some ⟨go, 0, none⟩) l0_17.length d17) ∧ w'.cell? ⟨gb, 17, none⟩ = some (.slice (some ad) l0_17.length c0_17) ∧ w'.cell? (ad.add (ji.toNat * 5)) = some (.string ((rd_T60 l0_17 ji).f0)) ∧ w'.cell? ⟨(ad.add (ji.toNat * 5)).block, (ad.add (ji.toNat * 5)).off + 1, none⟩ = some (.int .i64 ((rd_T60 l0_17 ji).f1)) ∧ w'.cell? ⟨(ad.add (ji.toNat * 5)).block, (ad.add (ji.toNat * 5)).off + 2, none⟩ = some (.int .i64 ((rd_T60 l0_17 ji).f2)) ∧ w'.cell? ⟨(ad.add (ji.toNat * 5)).block, (ad.add (ji.toNat * 5)).off + 3, none⟩ = some (.int .i64 ((rd_T60 l0_17 ji).f3)) ∧ w'.cell? ⟨(ad.add (ji.toNat * 5)).block, (ad.add (ji.toNat * 5)).off + 4, none⟩ = some (.string ((rd_T60 l0_17 ji).f4))) (ds := [14]) #[false, false, false, false, false, false, false, false, false, false, false, false, false, false, false] (by kernel_rfl) rfl rfl ⟨u1, u2, z0, z1, z2, z3, z4⟩ (fun hHeld => ?_)
          refine with_tabW pylonlaw14_TouOne.tab19 pylonlaw14_TouOne.bits19 (fun HT_ HW_ => ?_)
          clear u1 u2 z0 z1 z2 z3 z4
          generalize wr.drew = wd at HONE1 y0 v0 y1 v1 y2 v2 y3 v3 y4 v4 hHeld ⊢
          refine pure_ (i := 0) (N := some 78) (v := ?_) (a' := ?_) #[true, false, false, false, false, false, false, false, false, false, false, false, false, false, false] rfl rfl (any_of HT_.out (by kernel_rfl)) (fun _ _ _ h => h) (Or.inl ⟨by rfl, ?_⟩) ?_ ?_
          rotate_left
          · intro w'
            go_simp
            with_reducible rfl
          rotate_left
          · simp only [Act.put, List.setIfInBounds_toArray, List.set_cons_zero, List.set_cons_succ, i64_w, i32_w]
            rfl
          refine pure_ (i := 2) (N := some 80) (v := ?_) (a' := ?_) #[true, false, true, false, false, false, false, false, false, false, false, false, false, false, false] rfl rfl (any_of HT_.out (by kernel_rfl)) (fun _ _ _ h => h) (Or.inl ⟨by rfl, ?_⟩) ?_ ?_
          rotate_left
          · intro w'
            go_simp
            with_reducible rfl
          rotate_left
          · simp only [Act.put, List.setIfInBounds_toArray, List.set_cons_zero, List.set_cons_succ, i64_w, i32_w]
            rfl
          refine pure_ (i := 3) (N := some 81) (v := ?_) (a' := ?_) #[true, false, true, true, false, false, false, false, false, false, false, false, false, false, false] rfl rfl (any_of HT_.out (by kernel_rfl)) (fun _ _ _ h => h) (Or.inl ⟨by rfl, ?_⟩) ?_ ?_
          rotate_left
          · intro w'
            go_simp
            with_reducible rfl
          rotate_left
          · simp only [Act.put, List.setIfInBounds_toArray, List.set_cons_zero, List.set_cons_succ, i64_w, i32_w]
            rfl
          refine pure_ (i := 5) (N := some 83) (v := ?_) (a' := ?_) #[true, false, true, true, false, true, false, false, false, false, false, false, false, false, false] rfl rfl (any_of HT_.out (by kernel_rfl)) (fun _ _ _ h => h) (Or.inl ⟨by rfl, ?_⟩) ?_ ?_
          rotate_left
          · intro w'
            go_simp
            with_reducible rfl
          rotate_left
          · simp only [Act.put, List.setIfInBounds_toArray, List.set_cons_zero, List.set_cons_succ, i64_w, i32_w]
            rfl
          refine pure_ (i := 9) (N := some 87) (v := ?_) (a' := ?_) #[true, false, true, true, false, true, false, false, false, true, false, false, false, false, false] rfl rfl (any_of HT_.out (by kernel_rfl)) (fun _ _ _ h => h) (Or.inl ⟨by rfl, ?_⟩) ?_ ?_
          rotate_left
          · intro w'
            go_simp
            with_reducible rfl
          rotate_left
          · simp only [Act.put, List.setIfInBounds_toArray, List.set_cons_zero, List.set_cons_succ, i64_w, i32_w]
            rfl
          refine take_ (i := 1) (N := some 79) (v := ?_) (a' := ?_) #[true, true, true, true, false, true, false, false, false, true, false, false, false, false, false] rfl rfl (take_ofW HT_.out HW_.out (by kernel_rfl)) (fun _ _ _ h => h) (Or.inl ⟨by rfl, ?_⟩) hHeld ?_ ?_
          rotate_left
          · rintro w' ⟨s0, s1, s2, s3, s4, s5, s6⟩
            go_simp
            with_reducible rfl
          rotate_left
          · simp only [Act.put, List.setIfInBounds_toArray, List.set_cons_zero, List.set_cons_succ, i64_w, i32_w]
            rfl
          refine take_ (i := 4) (N := some 82) (v := ?_) (a' := ?_) #[true, true, true, true, true, true, false, false, false, true, false, false, false, false, false] rfl rfl (take_ofW HT_.out HW_.out (by kernel_rfl)) (fun _ _ _ h => h) (Or.inl ⟨by rfl, ?_⟩) hHeld ?_ ?_
          rotate_left
          · rintro w' ⟨s0, s1, s2, s3, s4, s5, s6⟩
            go_simp
            with_reducible rfl
          rotate_left
          · simp only [Act.put, List.setIfInBounds_toArray, List.set_cons_zero, List.set_cons_succ, i64_w, i32_w]
            rfl
          refine take_ (i := 6) (N := some 84) (v := ?_) (a' := ?_) #[true, true, true, true, true, true, true, false, false, true, false, false, false, false, false] rfl rfl (take_ofW HT_.out HW_.out (by kernel_rfl)) (fun _ _ _ h => h) (Or.inl ⟨by rfl, ?_⟩) hHeld ?_ ?_
          rotate_left
          · rintro w' ⟨s0, s1, s2, s3, s4, s5, s6⟩
            go_simp
            with_reducible rfl
          rotate_left
          · simp only [Act.put, List.setIfInBounds_toArray, List.set_cons_zero, List.set_cons_succ, i64_w, i32_w]
            rfl
          refine pure_ (i := 7) (N := some 85) (v := ?_) (a' := ?_) #[true, true, true, true, true, true, true, true, false, true, false, false, false, false, false] rfl rfl (any_of HT_.out (by kernel_rfl)) (fun _ _ _ h => h) (Or.inl ⟨by rfl, ?_⟩) ?_ ?_
          rotate_left
          · intro w'
            go_simp
            with_reducible rfl
          rotate_left
          · simp only [Act.put, List.setIfInBounds_toArray, List.set_cons_zero, List.set_cons_succ, i64_w, i32_w]
            rfl
          refine pure_ (i := 8) (N := some 86) (v := ?_) (a' := ?_) #[true, true, true, true, true, true, true, true, true, true, false, false, false, false, false] rfl rfl (any_of HT_.out (by kernel_rfl)) (fun _ _ _ h => h) (Or.inl ⟨by rfl, ?_⟩) ?_ ?_
          rotate_left
          · intro w'
            go_simp
            with_reducible rfl
          rotate_left
          · simp only [Act.put, List.setIfInBounds_toArray, List.set_cons_zero, List.set_cons_succ, i64_w, i32_w]
            rfl
          refine pure_ (i := 10) (N := some 88) (v := ?_) (a' := ?_) #[true, true, true, true, true, true, true, true, true, true, true, false, false, false, false] rfl rfl (any_of HT_.out (by kernel_rfl)) (fun _ _ _ h => h) (Or.inl ⟨by rfl, ?_⟩) ?_ ?_
          rotate_left
          · intro w'
            go_simp
            with_reducible rfl
          rotate_left
          · simp only [Act.put, List.setIfInBounds_toArray, List.set_cons_zero, List.set_cons_succ, i64_w, i32_w]
            rfl
          refine pure_ (i := 11) (N := some 89) (v := ?_) (a' := ?_) #[true, true, true, true, true, true, true, true, true, true, true, true, false, false, false] rfl rfl (any_of HT_.out (by kernel_rfl)) (fun _ _ _ h => h) (Or.inl ⟨by rfl, ?_⟩) ?_ ?_
          rotate_left
          · intro w'
            go_simp
            with_reducible rfl
          rotate_left
          · simp only [Act.put, List.setIfInBounds_toArray, List.set_cons_zero, List.set_cons_succ, i64_w, i32_w]
            rfl
          refine take_ (i := 12) (N := some 90) (v := ?_) (a' := ?_) #[true, true, true, true, true, true, true, true, true, true, true, true, true, false, false] rfl rfl (take_ofW HT_.out HW_.out (by kernel_rfl)) (fun _ _ _ h => h) (Or.inl ⟨by rfl, ?_⟩) hHeld ?_ ?_
          rotate_left
          · rintro w' ⟨s0, s1, s2, s3, s4, s5, s6⟩
            go_simp
            with_reducible rfl
          rotate_left
          · simp only [Act.put, List.setIfInBounds_toArray, List.set_cons_zero, List.set_cons_succ, i64_w, i32_w]
            rfl
          refine pure_ (i := 13) (N := some 91) (v := ?_) (a' := ?_) #[true, true, true, true, true, true, true, true, true, true, true, true, true, true, false] rfl rfl (any_of HT_.out (by kernel_rfl)) (fun _ _ _ h => h) (Or.inl ⟨by rfl, ?_⟩) ?_ ?_
          rotate_left
          · intro w'
            go_simp
            with_reducible rfl
          rotate_left
          · simp only [Act.put, List.setIfInBounds_toArray, List.set_cons_zero, List.set_cons_succ, i64_w, i32_w]
            rfl
          refine last_ (i := 14) (N := none) #[true, true, true, true, true, true, true, true, true, true, true, true, true, true, true] rfl rfl (one_of HT_.out (by kernel_rfl)) (by decide) (fun K hK => ?_)
          refine skip_ (w1 := ?_) (by rfl) rfl ?_ ?_
          rotate_left
          · go_simp
            rfl
          refine hK.out _ _ ?_
          clear hK K
          refine done_ (done_of HT_.out (by kernel_rfl)) ?_
          try go_wp2
          go_roundw
          case rel => exact ⟨x + 1, by go_num, by omega, by omega, AX (by
            have := One.set17 HONE1.out HBS.out x h0 (by rw [rv_len _ _ (by omega)]; omega) (rd_T60 l0_17 ji)
            rw [show rd_T60 l0_17 ji = l0_17.getD (l0_17.length - 1 - x.toNat) z60 by unfold rd_T60; rw [HJE.out]; congr 1; omega, rv_step _ _ _ (by omega), show x.toNat + 1 = (x + 1).toNat by omega] at this
            rw [show rd_T60 l0_17 ji = l0_17.getD (l0_17.length - 1 - x.toNat) z60 by unfold rd_T60; rw [HJE.out]; congr 1; omega]
            exact this)⟩
          case measure => simp [intOf]; omega
        · obtain rfl : x = (l0_17.length : Int) := by omega
          have c39b0 : decide ((l0_17.length : Int) < (l0_17.length : Int)) = false := decide_eq_false (by omega)
          rw [Int.toNat_natCast, rv_all] at HONE
          obtain ⟨Wx, hWx⟩ : ∃ x : World, x = wr := ⟨_, rfl⟩
          subst hWx
          go_upto_region 22 with (first | ((with_reducible refine gate_dst (N := 94) rfl ?_); refine wpList_load_mid rfl 47 (.tmp 11) rfl gu 0 rfl U.toList _ ?l1 Try.underlying47 rfl ?l2 ?_; (case l1 => exact wd_range (HONE.out.bu)); (case l2 => rw [Array.length_toList, HUS.out]; kernel_rfl); rw [Array.toArray_toList]) | (go_at_call 25; refine (HAT.out _ l0_15.reverse l0_17.reverse List.length_reverse List.length_reverse HONE.out.rw HT3.out).mono ?_; rintro e9 w9 ⟨rfl, hb⟩; have BKX := AX (wd_at HONE.out.bt hb); have HBX := AX (HONE.out.bl.trans (hb.mono HONE.out.bl.size)); clear hb))
          have g18 := wd_cell BKX.out E18.out
          clear HONE HAT
          go_wp2
          go_loopw [16, 102] (fun v5 vj wj => ∃ j : Nat, v5 = .bool (pylonref09_windows.kn l0_18 nm j) ∧ vj = .int .i64 j ∧ j ≤ l0_18.length ∧ Aside0 (∃ q, wj = w9.drewN q)) (fun _ vj _ => l0_18.length - (intOf vj).toNat)
          case atStart => exact ⟨0, rfl, rfl, by omega, AX ⟨0, rfl⟩⟩
          case round =>
            obtain ⟨j, rfl, rfl, hj, HJ⟩ := hrel
            obtain ⟨qj, rfl⟩ := HJ.out
            have g18 := wd_cell BKX.out E18.out
            by_cases hlj : j < l0_18.length
            · obtain ⟨ad', A1', c1', eA', z0, z1, z2, z3⟩ := at_T63 (Kd.C_below HR18.out HBX.out) (j : Int) (by omega) (by omega)
              simp only [Int.toNat_natCast] at z0
              subst eA'
              obtain ⟨nj, hnj⟩ : ∃ s, (rd_T63 l0_18 (j : Int)).f0 = s := ⟨_, rfl⟩
              rw [hnj] at z0
              obtain ⟨b5, hb5⟩ : ∃ x, pylonref09_windows.kn l0_18 nm j = x := ⟨_, rfl⟩
              have HS := AX (show pylonref09_windows.kn l0_18 nm (j + 1) = (b5 || (nj.toList == nm.toList)) by unfold pylonref09_windows.kn at *; rw [any_succ, hb5, hnj])
              rw [hb5]
              clear hb5 hnj HJ
              cases b5 with
              | true =>
                go_wp2
                go_roundw
                case rel => exact ⟨j + 1, by rw [HS.out]; rfl, by go_num, by omega, AX ⟨_, rfl⟩⟩
                case measure => simp [intOf]; omega
              | false =>
                by_cases cn : nj.toList = nm.toList
                · have c3b0 : (nj.toList == nm.toList) = true := beq_iff_eq.mpr cn
                  rw [c3b0] at HS
                  clear cn
                  go_wp2
                  go_roundw
                  case rel => exact ⟨j + 1, by rw [HS.out]; rfl, by go_num, by omega, AX ⟨_, rfl⟩⟩
                  case measure => simp [intOf]; omega
                · have c3b0 : (nj.toList == nm.toList) = false := beq_eq_false_iff_ne.mpr cn
                  rw [c3b0] at HS
                  clear cn
                  go_wp2
                  go_roundw
                  case rel => exact ⟨j + 1, by rw [HS.out]; rfl, by go_num, by omega, AX ⟨_, rfl⟩⟩
                  case measure => simp [intOf]; omega
            · obtain rfl : j = l0_18.length := by omega
              rw [HKN.out]
              have c8b0 : (nm.toList == nm.toList) = true := beq_self_eq_true _
              have c8b1 : (nm.toList != nm.toList) = false := bne_self_eq_false _
              go_wp2
              go_ret
              first | exact ⟨rfl, HG.out ▸ wd_dr HBX.out _⟩ | exact ⟨by simp, HG.out ▸ wd_dr HBX.out _⟩ | exact ⟨rfl, HG.out ▸ wd_dr (wd_dr HBX.out _) _⟩ | exact ⟨by simp, HG.out ▸ wd_dr (wd_dr HBX.out _) _⟩

end Go.Proofs.Ytkggjjggcbcdiaa.PX
