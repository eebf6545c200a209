/- Functions of the program as plain Lean functions, each with a proof that the call in the machine answers just what the plain function says; condition: the plain function answers at all. -/
import Derived.Test.YtkggjjggcbcdiaaPXx0
import Derived.Test.YtkggjjggcbcdiaaPXx1
import Derived.Test.YtkggjjggcbcdiaaPXx7
import Derived.Test.YtkggjjggcbcdiaaPXx8
import Derived.Test.YtkggjjggcbcdiaaPXx9
import Derived.Test.YtkggjjggcbcdiaaPXx10
import Derived.Test.YtkggjjggcbcdiaaPXx11
import Derived.Test.YtkggjjggcbcdiaaPXx14
import Derived.Test.YtkggjjggcbcdiaaPXx15
import Derived.BigQuiet
import Derived.Deep.MidRow
namespace Go.Proofs.Ytkggjjggcbcdiaa.PX
open Go.RowKit Go.Proofs.YtkggjjggcbcdiaaW.PrintWords Go.Proofs.YtkggjjggcbcdiaaW.PrintLast Go.Proofs.YtkggjjggcbcdiaaW.PrintMore
attribute [local go_sem] max2_int min2_int max_two min_two max_three min_three max_four min_four   -- for this text's walks alone
set_option linter.unusedVariables false
set_option linter.unusedSimpArgs false

attribute [local go_sem high] eqA24
/-! ### pylonlaw14_TouKeeps: function 9 -/
theorem kp_sz (w : World) (o : Obj) : (w.alloc o).heap.size = w.heap.size + 1 := Array.size_push _
/-- the four rows of a copied tariff -/
structure Rw (w : World) (base : Nat) (B15 : Option Addr) (d15 : Nat) (B16 : Option Addr) (d16 : Nat) (B17 : Option Addr) (d17 : Nat) (B18 : Option Addr) (d18 : Nat) (x15 : List S58) (x16 : List S65) (x17 : List S60) (x18 : List S63) : Prop where
  r15 : Kd.R k58 58 w base (fun _ => True) (.slice B15 x15.length d15) x15
  r16 : Kd.R k65 65 w base (fun _ => True) (.slice B16 x16.length d16) x16
  r17 : Kd.R k60 60 w base (fun _ => True) (.slice B17 x17.length d17) x17
  r18 : Kd.S k63 63 w base (fun _ => True) (.slice B18 x18.length d18) x18
/-- where the walk stands: the tariff, its copy and the copy's rows -/
structure Kp (w wr : World) (gb gu gd : Nat) (C V D : Array Value) (v15 v16 v17 v18 : Value) (x15 : List S58) (x16 : List S65) (x17 : List S60) (x18 : List S63) : Prop where
  bt : wr.heap[gb]? = some (.cells C 47 (0, 0))
  bu : wr.heap[gu]? = some (.cells V 47 (0, 0))
  bd : wr.heap[gd]? = some (.cells D 24 (0, 0))
  ne : gb ≠ gu
  nd : gd ≠ gu
  r15 : Kd.R k58 58 wr w.heap.size (fun _ => True) v15 x15
  r16 : Kd.R k65 65 wr w.heap.size (fun _ => True) v16 x16
  r17 : Kd.R k60 60 wr w.heap.size (fun _ => True) v17 x17
  r18 : Kd.S k63 63 wr w.heap.size (fun _ => True) v18 x18
  bl : Below w.heap.size w wr
theorem kp_R {β : Type} {d' : Kd β} {e e' b : Nat} {W w1 : World} {u v : Value} {ys : List β} (h : Kd.R d' e' W b (fun _ => True) u ys) (ht : ∀ k, v.ownBlock = some k → ∃ cells, W.heap[k]? = some (.cells cells e (0, 0))) (hne : ∀ q, q ∈ e' :: d'.E → q ≠ e) (hg : W.grownBy w1 v.ownBlock) : Kd.R d' e' w1 b (fun _ => True) u ys := by
  cases ho : v.ownBlock with
  | none => exact Kd.R_step h (fun k _ hlt => hg.block k hlt (by rw [ho]; simp))
  | some g =>
    obtain ⟨cells, hc⟩ := ht g ho
    exact Kd.R_mono (Kd.R_step (Kd.R_types h hc hne) (fun k hk hlt => hg.block k hlt (by rw [ho]; intro e; injection e with e; exact hk.2 e))) (fun _ _ => trivial)
theorem kp_S {β : Type} {d' : Kd β} {e e' b : Nat} {W w1 : World} {u v : Value} {ys : List β} (h : Kd.S d' e' W b (fun _ => True) u ys) (ht : ∀ k, v.ownBlock = some k → ∃ cells, W.heap[k]? = some (.cells cells e (0, 0))) (hne : ∀ q, q ∈ e' :: d'.E → q ≠ e) (hg : W.grownBy w1 v.ownBlock) : Kd.S d' e' w1 b (fun _ => True) u ys := by
  cases ho : v.ownBlock with
  | none => exact Kd.S_step h (fun k _ hlt => hg.block k hlt (by rw [ho]; simp))
  | some g =>
    obtain ⟨cells, hc⟩ := ht g ho
    exact Kd.S_mono (Kd.S_step (Kd.S_types h hc hne) (fun k hk hlt => hg.block k hlt (by rw [ho]; intro e; injection e with e; exact hk.2 e))) (fun _ _ => trivial)
theorem kp_at {e t : Nat} {W w1 : World} {v : Value} {g : Nat} {cs : Array Value} (h : W.heap[g]? = some (.cells cs t (0, 0))) (ht : ∀ k, v.ownBlock = some k → ∃ cells, W.heap[k]? = some (.cells cells e (0, 0))) (hne : t ≠ e) (hg : W.grownBy w1 v.ownBlock) : w1.heap[g]? = some (.cells cs t (0, 0)) := by
  refine (hg.block g (Array.getElem?_eq_some_iff.1 h).1 fun e2 => ?_).trans h
  obtain ⟨cells, hc⟩ := ht g e2.symm
  rw [h] at hc
  injection hc with hc
  injection hc with _ hc
  exact hne hc
theorem kp_pre {α : Type} {d : Kd α} {w : World} {A : Option Addr} {n : Nat} {xs : List α} {x : α} (h : Kd.C d w A n (xs ++ [x])) : Kd.C d w A xs.length xs := by
  have h1 : xs.length + 1 = n := by have := h.1; simpa using this
  refine ⟨rfl, by have := h.2.1; omega, fun hn => ?_⟩
  obtain ⟨ad, e, hh⟩ := h.2.2 (by omega)
  exact ⟨ad, e, fun j p hp => hh j p (by
    have hj : j < xs.length := by
      rcases Nat.lt_or_ge j xs.length with c | c
      · exact c
      · rw [List.getElem?_eq_none c] at hp; cases hp
    rw [List.getElem?_append_left hj]; exact hp)⟩
theorem kp_last {α : Type} {d : Kd α} {w : World} {g n : Nat} {xs : List α} {x : α} (h : Kd.C d w (some ⟨g, 0, none⟩) n (xs ++ [x])) : ∃ c, d.K w x c ∧ ∀ i u, c[i]? = some u → w.cell? ⟨g, xs.length * d.sz + i, none⟩ = some u := by
  have h1 : xs.length + 1 = n := by have := h.1; simpa using this
  obtain ⟨ad, e, hh⟩ := h.2.2 (by omega)
  cases e
  obtain ⟨c, hl, hK, hcells⟩ := hh xs.length x (by simp)
  refine ⟨c, hK, fun i u hu => ?_⟩
  have h3 := hcells i u hu
  have e4 : (⟨g, 0, none⟩ : Addr).add (xs.length * d.sz + i) = ⟨g, xs.length * d.sz + i, none⟩ := by unfold Addr.add; split <;> simp_all
  rwa [e4] at h3
section
variable {w wr w1 : World} {gb gu gd : Nat} {C V D : Array Value} {v15 v16 v17 v18 v1 : Value} {x15 : List S58} {x16 : List S65} {x17 : List S60} {x18 : List S63}
theorem Kp.below (H : Kp w wr gb gu gd C V D v15 v16 v17 v18 x15 x16 x17 x18) (hb : Below wr.heap.size wr w1) : Kp w w1 gb gu gd C V D v15 v16 v17 v18 x15 x16 x17 x18 :=
  ⟨cp_at H.bt hb, cp_at H.bu hb, cp_at H.bd hb, H.ne, H.nd, Kd.R_below H.r15 hb, Kd.R_below H.r16 hb, Kd.R_below H.r17 hb, Kd.S_below H.r18 hb, H.bl.trans (hb.mono H.bl.size)⟩
theorem Kp.put (H : Kp w wr gb gu gd C V D v15 v16 v17 v18 x15 x16 x17 x18) (hu : w.heap.size ≤ gu) (j : Nat) (v : Value) : Kp w (wr.setCell ⟨gu, j, none⟩ v) gb gu gd C (V.setIfInBounds j v) D v15 v16 v17 v18 x15 x16 x17 x18 :=
  ⟨cp_far H.ne H.bt, cp_put H.bu, cp_far H.nd H.bd, H.ne, H.nd, Kd.R_mono (Kd.R_far (p := ⟨gu, j, none⟩) (Kd.R_types H.r15 H.bu (by decide)) (fun _ hk => hk.2) _) (fun _ _ => trivial), Kd.R_mono (Kd.R_far (p := ⟨gu, j, none⟩) (Kd.R_types H.r16 H.bu (by decide)) (fun _ hk => hk.2) _) (fun _ _ => trivial), Kd.R_mono (Kd.R_far (p := ⟨gu, j, none⟩) (Kd.R_types H.r17 H.bu (by decide)) (fun _ hk => hk.2) _) (fun _ _ => trivial), Kd.S_mono (Kd.S_far (p := ⟨gu, j, none⟩) (Kd.S_types H.r18 H.bu (by decide)) (fun _ hk => hk.2) _) (fun _ _ => trivial), H.bl.setCell hu _⟩
theorem Kp.app15 (H : Kp w wr gb gu gd C V D v15 v16 v17 v18 x15 x16 x17 x18) {y : List S58} (ho : Kd.R k58 58 w1 w.heap.size (fun _ => True) v1 y) (hb : Below w.heap.size w w1) (hg : wr.grownBy w1 v15.ownBlock) : Kp w w1 gb gu gd C V D v1 v16 v17 v18 y x16 x17 x18 :=
  ⟨kp_at H.bt (Kd.R_typed H.r15) (by decide) hg, kp_at H.bu (Kd.R_typed H.r15) (by decide) hg, kp_at H.bd (Kd.R_typed H.r15) (by decide) hg, H.ne, H.nd, ho, kp_R H.r16 (Kd.R_typed H.r15) (by decide) hg, kp_R H.r17 (Kd.R_typed H.r15) (by decide) hg, kp_S H.r18 (Kd.R_typed H.r15) (by decide) hg, hb⟩
theorem Kp.app17 (H : Kp w wr gb gu gd C V D v15 v16 v17 v18 x15 x16 x17 x18) {y : List S60} (ho : Kd.R k60 60 w1 w.heap.size (fun _ => True) v1 y) (hb : Below w.heap.size w w1) (hg : wr.grownBy w1 v17.ownBlock) : Kp w w1 gb gu gd C V D v15 v16 v1 v18 x15 x16 y x18 :=
  ⟨kp_at H.bt (Kd.R_typed H.r17) (by decide) hg, kp_at H.bu (Kd.R_typed H.r17) (by decide) hg, kp_at H.bd (Kd.R_typed H.r17) (by decide) hg, H.ne, H.nd, kp_R H.r15 (Kd.R_typed H.r17) (by decide) hg, kp_R H.r16 (Kd.R_typed H.r17) (by decide) hg, ho, kp_S H.r18 (Kd.R_typed H.r17) (by decide) hg, hb⟩
theorem Kp.app16 (H : Kp w wr gb gu gd C V D v15 v16 v17 v18 x15 x16 x17 x18) {y : List S65} (ho : Kd.R k65 65 w1 w.heap.size (fun _ => True) v1 y) (hb : Below w.heap.size w w1) (hg : wr.grownBy w1 v16.ownBlock) : Kp w w1 gb gu gd C V D v15 v1 v17 v18 x15 y x17 x18 :=
  ⟨kp_at H.bt (Kd.R_typed H.r16) (by decide) hg, kp_at H.bu (Kd.R_typed H.r16) (by decide) hg, kp_at H.bd (Kd.R_typed H.r16) (by decide) hg, H.ne, H.nd, kp_R H.r15 (Kd.R_typed H.r16) (by decide) hg, ho, kp_R H.r17 (Kd.R_typed H.r16) (by decide) hg, kp_S H.r18 (Kd.R_typed H.r16) (by decide) hg, hb⟩
end
theorem kp_wr {n b : Nat} (hb : 0 < b) (h : n * b ≤ 140737488351232) : IntKind.i64.wrap ((n : Int) + 1) = (n : Int) + 1 ∧ wrap64 ((n : Int) + 1) = (n : Int) + 1 := by
  have h2 : n ≤ 140737488351232 := Nat.le_trans (Nat.le_mul_of_pos_right _ hb) h
  have h3 : wrap64 ((n : Int) + 1) = (n : Int) + 1 := by unfold wrap64; omega
  exact ⟨(i64_w _).trans h3, h3⟩
theorem kp_lt (n : Nat) : ((n : Int) < (n : Int) + 1) := by omega
theorem kp_nn (n : Nat) : (0 : Int) ≤ (n : Int) + 1 := by omega
theorem kp_ci {n c : Nat} (h : n + 1 ≤ c) : (n : Int) + 1 ≤ (c : Int) := by omega
theorem kp_whole {P : Program} {ops : Array Oper} {S : World → Prop} {op : Oper} {a : Act} (hw : Region.wanted op (yielded ops a.tmps) = true) (ty : TypeId) (x : Operand) (ho : op.op = .load ty x) (b : Nat) (hx : a.eval x = .pointer (some ⟨b, 0, none⟩)) (cs : Array Value) (d : TypeDesc) (hS : ∀ w, S w → w.rangeAt b 0 cs.toList)
    (hu : P.underlying ty = some d) (hd : d.isRow = true) (hi : (P.info? ty).map (·.size) = some cs.size) : YieldsIf P ops S op (.agg cs) a := by
  have h := yieldsIf_load_mid hw ty x ho b 0 hx cs.toList d hS hu hd (by rw [Array.length_toList]; exact hi)
  rwa [Array.toArray_toList] at h
def pylonlaw14_TouKeeps.TT : Bool × List (List Nat × List Nat) := (true, [([], []), ([0], [0]), ([], []), ([2], [2]), ([1, 3], [1, 3]), ([], []), ([5], [5]), ([6], [6]), ([4, 7], [4, 7]), ([0, 1, 2, 3, 4, 5, 6, 7, 8], []), ([9, 8, 4, 0, 1, 2, 3, 4, 5, 6, 7, 8], [8, 9])])
def pylonlaw14_TouKeeps.BB : List Nat := [0, 1, 0, 4, 15, 0, 32, 96, 255, 511, 1023]
theorem pylonlaw14_TouKeeps.bits : waitsOk pylonlaw14_TouKeeps.TT.2 pylonlaw14_TouKeeps.BB = true := by kernel_rfl
theorem pylonlaw14_TouKeeps.tab4 : rtab .any (opsOf Try.f9 4) = pylonlaw14_TouKeeps.TT := by kernel_rfl
theorem pylonlaw14_TouKeeps.tab5 : rtab .any (opsOf Try.f9 5) = pylonlaw14_TouKeeps.TT := by kernel_rfl
theorem pylonlaw14_TouKeeps.tab6 : rtab .any (opsOf Try.f9 6) = pylonlaw14_TouKeeps.TT := by kernel_rfl
def pylonlaw14_TouKeeps.T11 : Bool × List (List Nat × List Nat) := (true, [([], []), ([], []), ([0, 1], [0, 1]), ([2, 2], [2]), ([3], [3]), ([4, 3], [3, 4]), ([3], [3]), ([6, 3], [3, 6]), ([7, 3], [3, 7]), ([8, 3], [3, 8]), ([5, 9, 3], [3, 5, 9]), ([3], [3]), ([11, 3], [3, 11]), ([12, 3], [3, 12]), ([10, 13, 3], [3, 10, 13]), ([14, 3], [3, 14]), ([15, 3], [3, 15]), ([16, 3], [3, 16]), ([3, 17], [3, 17]), ([18, 3], [18]), ([19], [19]), ([20, 19], [19, 20]), ([19], [19]), ([22, 19], [19, 22]), ([23, 19], [19, 23]), ([24, 19], [19, 24]), ([21, 25, 19], [19, 21, 25]), ([19], [19]), ([27, 19], [19, 27]), ([28, 19], [19, 28]), ([26, 29, 19], [19, 26, 29]), ([30, 19], [19, 30]), ([31, 19], [19, 31]), ([32, 19], [19, 32]), ([19, 33], [19, 33]), ([34, 19], [34]), ([35], [35]), ([36, 35], [35, 36]), ([35], [35]), ([38, 35], [35, 38]), ([39, 35], [35, 39]), ([40, 35], [35, 40]), ([37, 41, 35], [35, 37, 41]), ([35], [35]), ([43, 35], [35, 43]), ([44, 35], [35, 44]), ([42, 45, 35], [35, 42, 45]), ([46, 35], [35, 46]), ([47, 35], [35, 47]), ([48, 35], [35, 48]), ([35, 49], [35, 49]), ([50, 35, 0, 1, 2, 3, 4, 5, 6, 7, 8, 9, 10, 11, 12, 13, 14, 15, 16, 17, 18, 19, 20, 21, 22, 23, 24, 25, 26, 27, 28, 29, 30, 31, 32, 33, 34, 35, 36, 37, 38, 39, 40, 41, 42, 43, 44, 45, 46, 47, 48, 49, 50], [50])])
def pylonlaw14_TouKeeps.B11 : List Nat := [0, 0, 3, 7, 15, 31, 15, 79, 207, 463, 1023, 15, 2063, 6159, 16383, 32767, 65535, 131071, 262143, 524287, 1048575, 2097151, 1048575, 5242879, 13631487, 30408703, 67108863, 1048575, 135266303, 403701759, 1073741823, 2147483647, 4294967295, 8589934591, 17179869183, 34359738367, 68719476735, 137438953471, 68719476735, 343597383679, 893353197567, 1992864825343, 4398046511103, 68719476735, 8864812498943, 26456998543359, 70368744177663, 140737488355327, 281474976710655, 562949953421311, 1125899906842623, 2251799813685247]
theorem pylonlaw14_TouKeeps.tab11 : rtab .any (opsOf Try.f9 11) = pylonlaw14_TouKeeps.T11 := by kernel_rfl
theorem pylonlaw14_TouKeeps.bits11 : waitsOk pylonlaw14_TouKeeps.T11.2 pylonlaw14_TouKeeps.B11 = true := by kernel_rfl
def pylonlaw14_TouKeeps.Good (k : Nat) (a0_0 : ByteArray) (a0_1 : Int) (a0_2 : Int) (a0_3 : Int) (a0_4 : Int) (a0_5 : Int) (a0_6 : Int) (a0_7 : Int) (a0_8 : Int) (a0_9 : Int) (a0_10 : Int) (a0_11 : Int) (a0_12 : Int) (a0_13 : Int) (a0_14 : Int) (l0_15 : List (S58)) (l0_16 : List (S65)) (l0_17 : List (S60)) (l0_18 : List (S63)) (a0_19 : Int) (a0_20 : Int) (a0_21 : Int) (a0_22 : Int) (a0_23 : Int) (a0_24 : Int) (a0_25 : Int) (a0_26 : Int) (a0_27 : Int) (a1 : Int) (d0 d1 d2 : Int) : Prop := pylonlaw14_awake.f k = some true ∧ pylonref08_Copy.f a0_0 a0_1 a0_2 a0_3 a0_4 a0_5 a0_6 a0_7 a0_8 a0_9 a0_10 a0_11 a0_12 a0_13 a0_14 l0_15 l0_16 l0_17 l0_18 a0_19 a0_20 a0_21 a0_22 a0_23 a0_24 a0_25 a0_26 a0_27 = some (a0_0, a0_1, a0_2, a0_3, a0_4, a0_5, a0_6, a0_7, a0_8, a0_9, a0_10, a0_11, a0_12, a0_13, a0_14, l0_15, l0_16, l0_17, l0_18, a0_19, a0_20, a0_21, a0_22, a0_23, a0_24, a0_25, a0_26, a0_27) ∧ l0_15.length * 32 ≤ 140737488351232 ∧ l0_16.length * 32 ≤ 140737488351232 ∧ l0_17.length * 56 ≤ 140737488351232 ∧ (∃ (nm : ByteArray) (e : Int), tou_At.f k a0_0 a0_1 a0_2 a0_3 a0_4 a0_5 a0_6 a0_7 a0_8 a0_9 a0_10 a0_11 a0_12 a0_13 a0_14 l0_15 l0_16 l0_17 l0_18 a0_19 a0_20 a0_21 a0_22 a0_23 a0_24 a0_25 a0_26 a0_27 a1 = some (nm, e)) ∧ (∃ p : Int × Int, tou_Season.f k l0_15 d0 d1 d2 = some p) ∧ (∃ p : Int × Int, tou_Kind.f k l0_16 d0 d1 d2 = some p) ∧ (∃ p : Int × Int, tou_Window.f l0_17 (⟨#[97]⟩ : ByteArray) 0 0 = some p) ∧ (∀ x ∈ l0_18, pylonref08_SameSteps.f k x.f1 x.f1 = some true)
open Classical in
noncomputable def pylonlaw14_TouKeeps.f (k : Nat) (a0_0 : ByteArray) (a0_1 : Int) (a0_2 : Int) (a0_3 : Int) (a0_4 : Int) (a0_5 : Int) (a0_6 : Int) (a0_7 : Int) (a0_8 : Int) (a0_9 : Int) (a0_10 : Int) (a0_11 : Int) (a0_12 : Int) (a0_13 : Int) (a0_14 : Int) (l0_15 : List (S58)) (l0_16 : List (S65)) (l0_17 : List (S60)) (l0_18 : List (S63)) (a0_19 : Int) (a0_20 : Int) (a0_21 : Int) (a0_22 : Int) (a0_23 : Int) (a0_24 : Int) (a0_25 : Int) (a0_26 : Int) (a0_27 : Int) (a1 : Int) (d0 d1 d2 : Int) : Option Bool := if pylonlaw14_TouKeeps.Good k a0_0 a0_1 a0_2 a0_3 a0_4 a0_5 a0_6 a0_7 a0_8 a0_9 a0_10 a0_11 a0_12 a0_13 a0_14 l0_15 l0_16 l0_17 l0_18 a0_19 a0_20 a0_21 a0_22 a0_23 a0_24 a0_25 a0_26 a0_27 a1 d0 d1 d2 then some true else none
set_option maxHeartbeats 16000000 in
set_option maxRecDepth 100000 in
theorem pylonlaw14_TouKeeps.calls (k : Nat) (a0_0 : ByteArray) (a0_1 : Int) (a0_2 : Int) (a0_3 : Int) (a0_4 : Int) (a0_5 : Int) (a0_6 : Int) (a0_7 : Int) (a0_8 : Int) (a0_9 : Int) (a0_10 : Int) (a0_11 : Int) (a0_12 : Int) (a0_13 : Int) (a0_14 : Int) (A0_15 : Option Addr) (c0_15 : Nat) (l0_15 : List (S58)) (A0_16 : Option Addr) (c0_16 : Nat) (l0_16 : List (S65)) (A0_17 : Option Addr) (c0_17 : Nat) (l0_17 : List (S60)) (A0_18 : Option Addr) (c0_18 : Nat) (l0_18 : List (S63)) (a0_19 : Int) (a0_20 : Int) (a0_21 : Int) (a0_22 : Int) (a0_23 : Int) (a0_24 : Int) (a0_25 : Int) (a0_26 : Int) (a0_27 : Int) (a1 : Int) (d0 d1 d2 : Int) (r : Bool) (w : World) (hr0_15 : Kd.C k58 w A0_15 l0_15.length l0_15) (hc0_15 : l0_15.length ≤ c0_15) (hr0_16 : Kd.C k65 w A0_16 l0_16.length l0_16) (hc0_16 : l0_16.length ≤ c0_16) (hr0_17 : Kd.C k60 w A0_17 l0_17.length l0_17) (hc0_17 : l0_17.length ≤ c0_17) (hr0_18 : Kd.C k63 w A0_18 l0_18.length l0_18) (hc0_18 : l0_18.length ≤ c0_18) (h : pylonlaw14_TouKeeps.f k a0_0 a0_1 a0_2 a0_3 a0_4 a0_5 a0_6 a0_7 a0_8 a0_9 a0_10 a0_11 a0_12 a0_13 a0_14 l0_15 l0_16 l0_17 l0_18 a0_19 a0_20 a0_21 a0_22 a0_23 a0_24 a0_25 a0_26 a0_27 a1 d0 d1 d2 = some r) :
  Calls Try.prog 9 #[.agg #[.string a0_0, .int .i64 a0_1, .int .i64 a0_2, .int .i64 a0_3, .int .i64 a0_4, .int .i64 a0_5, .int .i64 a0_6, .int .i64 a0_7, .int .i64 a0_8, .int .i64 a0_9, .int .i64 a0_10, .int .i64 a0_11, .int .i64 a0_12, .int .i64 a0_13, .int .i64 a0_14, .slice A0_15 l0_15.length c0_15, .slice A0_16 l0_16.length c0_16, .slice A0_17 l0_17.length c0_17, .slice A0_18 l0_18.length c0_18, .int .i64 a0_19, .int .i64 a0_20, .int .i64 a0_21, .int .i64 a0_22, .int .i64 a0_23, .int .i64 a0_24, .int .i64 a0_25, .int .i64 a0_26, .int .i64 a0_27], .int .i64 a1, .agg #[.int .i64 d0, .int .i64 d1, .int .i64 d2]] w fun e w' => e = .returned (.bool r) ∧ Below w.heap.size w w' := by
  unfold pylonlaw14_TouKeeps.f at h
  split at h
  case isFalse => exact absurd h (by simp)
  case isTrue hgood =>
  cases h
  obtain ⟨hA, hCp, hm15, hm16, hm17, ⟨nm, e, hT⟩, ⟨⟨p1, p2⟩, hS⟩, ⟨⟨q1, q2⟩, hK⟩, ⟨⟨r1, r2⟩, hW⟩, hM⟩ := hgood
  have HA := AX hA
  have HM15 := AX hm15
  have HM16 := AX hm16
  have HM17 := AX hm17
  have HS := AX hS
  have HK := AX hK
  have HW := AX hW
  obtain ⟨C, hC⟩ : ∃ C : Array Value, (#[.string a0_0, .int .i64 a0_1, .int .i64 a0_2, .int .i64 a0_3, .int .i64 a0_4, .int .i64 a0_5, .int .i64 a0_6, .int .i64 a0_7, .int .i64 a0_8, .int .i64 a0_9, .int .i64 a0_10, .int .i64 a0_11, .int .i64 a0_12, .int .i64 a0_13, .int .i64 a0_14, .slice A0_15 l0_15.length c0_15, .slice A0_16 l0_16.length c0_16, .slice A0_17 l0_17.length c0_17, .slice A0_18 l0_18.length c0_18, .int .i64 a0_19, .int .i64 a0_20, .int .i64 a0_21, .int .i64 a0_22, .int .i64 a0_23, .int .i64 a0_24, .int .i64 a0_25, .int .i64 a0_26, .int .i64 a0_27] : Array Value) = C := ⟨_, rfl⟩
  have HK3 := AX (show ∀ w', Below w.heap.size w w' → Calls Try.prog 26 #[.agg C] w' (fun e' w'' => ∃ (U : Array Value) (B15 B16 B17 B18 : Option Addr) (d15 d16 d17 d18 : Nat), e' = .returned (.agg U) ∧ Below w'.heap.size w' w'' ∧ U.size = 28 ∧ U.all (·.oneCell') = true ∧ U[15]? = some (.slice B15 l0_15.length d15) ∧ U[16]? = some (.slice B16 l0_16.length d16) ∧ U[17]? = some (.slice B17 l0_17.length d17) ∧ Rw w'' w'.heap.size B15 d15 B16 d16 B17 d17 B18 d18 l0_15 l0_16 l0_17 l0_18 ∧ ∀ w3 (N15 : Option Addr) (m15 : Nat) (N16 : Option Addr) (m16 : Nat) (N17 : Option Addr) (m17 : Nat), Below w.heap.size w w3 → Kd.C k58 w3 N15 l0_15.length l0_15 → l0_15.length ≤ m15 → Kd.C k65 w3 N16 l0_16.length l0_16 → l0_16.length ≤ m16 → Kd.C k60 w3 N17 l0_17.length l0_17 → l0_17.length ≤ m17 → Kd.C k63 w3 B18 l0_18.length l0_18 → l0_18.length ≤ d18 → (Calls Try.prog 25 #[.agg (((U.setIfInBounds 15 (.slice N15 l0_15.length m15)).setIfInBounds 17 (.slice N17 l0_17.length m17)).setIfInBounds 16 (.slice N16 l0_16.length m16)), .int .i64 a1] w3 fun e'' w4 => e'' = .returned (.tuple #[.string nm, .int .i64 e]) ∧ Below w3.heap.size w3 w4) ∧ (Calls Try.prog 29 #[.agg (((U.setIfInBounds 15 (.slice N15 l0_15.length m15)).setIfInBounds 17 (.slice N17 l0_17.length m17)).setIfInBounds 16 (.slice N16 l0_16.length m16)), .agg C] w3 fun e'' w4 => e'' = .returned (.bool true) ∧ Below w3.heap.size w3 w4)) from fun w' hb => by
   rw [← hC]
   refine (pylonref08_Copy.calls a0_0 a0_1 a0_2 a0_3 a0_4 a0_5 a0_6 a0_7 a0_8 a0_9 a0_10 a0_11 a0_12 a0_13 a0_14 _ _ l0_15 _ _ l0_16 _ _ l0_17 _ _ l0_18 a0_19 a0_20 a0_21 a0_22 a0_23 a0_24 a0_25 a0_26 a0_27 _ _ _ _ _ _ _ _ _ _ _ _ _ _ _ _ _ _ _ _ _ _ _ _ _ _ _ _ _ (Kd.C_below hr0_15 hb) hc0_15 (Kd.C_below hr0_16 hb) hc0_16 (Kd.C_below hr0_17 hb) hc0_17 (Kd.C_below hr0_18 hb) hc0_18 hCp).mono ?_
   rintro e' w8 ⟨v15, v16, v17, v18, rfl, ho0, ho1, ho2, ho3, hb2⟩
   obtain ⟨B15, d15, e15⟩ := Kd.R_slice ho0
   obtain ⟨B16, d16, e16⟩ := Kd.R_slice ho1
   obtain ⟨B17, d17, e17⟩ := Kd.R_slice ho2
   obtain ⟨B18, d18, e18⟩ := Kd.S_slice ho3
   subst e15 e16 e17 e18
   refine ⟨_, B15, B16, B17, B18, d15, d16, d17, d18, rfl, hb2, rfl, by simp [Value.oneCell'], rfl, rfl, rfl, ⟨ho0, ho1, ho2, ho3⟩, fun w3 N15 m15 N16 m16 N17 m17 hb3 c15 e15 c16 e16 c17 e17 c18 e18 => ⟨?_, ?_⟩⟩
   · exact tou_At.calls k a0_0 a0_1 a0_2 a0_3 a0_4 a0_5 a0_6 a0_7 a0_8 a0_9 a0_10 a0_11 a0_12 a0_13 a0_14 _ _ l0_15 _ _ l0_16 _ _ l0_17 _ _ l0_18 a0_19 a0_20 a0_21 a0_22 a0_23 a0_24 a0_25 a0_26 a0_27 a1 nm e w3 c15 e15 c16 e16 c17 e17 c18 e18 hT
   · exact pylonref08_Same.calls k a0_0 a0_1 a0_2 a0_3 a0_4 a0_5 a0_6 a0_7 a0_8 a0_9 a0_10 a0_11 a0_12 a0_13 a0_14 _ _ l0_15 _ _ l0_16 _ _ l0_17 _ _ l0_18 a0_19 a0_20 a0_21 a0_22 a0_23 a0_24 a0_25 a0_26 a0_27 _ _ _ _ _ _ _ _ w3 c15 e15 c16 e16 c17 e17 c18 e18 (Kd.C_below hr0_15 hb3) hc0_15 (Kd.C_below hr0_16 hb3) hc0_16 (Kd.C_below hr0_17 hb3) hc0_17 (Kd.C_below hr0_18 hb3) hc0_18 hM)
  have HCZ := AX (show C.size = 28 by rw [← hC]; rfl)
  have E15 := AX (show C[15]? = some (.slice A0_15 l0_15.length c0_15) by rw [← hC]; rfl)
  have E16 := AX (show C[16]? = some (.slice A0_16 l0_16.length c0_16) by rw [← hC]; rfl)
  have E17 := AX (show C[17]? = some (.slice A0_17 l0_17.length c0_17) by rw [← hC]; rfl)
  have hl15 := hr0_15.2.1
  have hl16 := hr0_16.2.1
  have hl17 := hr0_17.2.1
  clear hr0_15 hc0_15 hr0_16 hc0_16 hr0_17 hc0_17 hr0_18 hc0_18 hA hCp hT hS hK hW hM
  go_enter Try.func9, Try.ntmps9
  have HB1 := AX ((Below.refl w.heap.size w).alloc (Nat.le_refl _) (.cells C 47))
  have BK := AX (heap_alloc_new w (.cells C 47))
  go_upto_region 1 with (fail)
  clear hC
  obtain ⟨W, hW⟩ : ∃ W : World, ((w.alloc (.cells C 47)).alloc (.cells #[.int .i64 d0, .int .i64 d1, .int .i64 d2] 24)) = W := ⟨_, rfl⟩
  have hb2 := (Below.refl (w.alloc (.cells C 47)).heap.size (w.alloc (.cells C 47))).alloc (Nat.le_refl _) (.cells #[.int .i64 d0, .int .i64 d1, .int .i64 d2] 24)
  have BKW := AX (hW ▸ cp_at BK.out hb2 : W.heap[w.heap.size]? = some (.cells C 47))
  have BDW := AX (show W.heap[w.heap.size + 1]? = some (.cells #[.int .i64 d0, .int .i64 d1, .int .i64 d2] 24) by
    have := heap_alloc_new (w.alloc (.cells C 47)) (.cells #[.int .i64 d0, .int .i64 d1, .int .i64 d2] 24)
    rw [hW, kp_sz] at this
    exact this)
  have HBW := AX (show Below w.heap.size w W from hW ▸ HB1.out.trans (hb2.mono HB1.out.size))
  rw [hW]
  clear hW hb2 HB1 BK
  obtain ⟨gb, hgb⟩ : ∃ g, w.heap.size = g := ⟨_, rfl⟩
  have HG := AX hgb
  rw [hgb] at BKW BDW ⊢
  clear hgb
  obtain ⟨gd, hgd⟩ : ∃ g, gb + 1 = g := ⟨_, rfl⟩
  rw [hgd] at BDW ⊢
  clear hgd
  go_upto_region 4 with (first | (go_at_call 15; refine (pylonlaw14_awake.calls k true _ HA.out).mono ?_; rintro e1 w1 ⟨rfl, hb⟩; have HL1 := AX hb; clear hb) | ((with_reducible refine gate_dst (N := 10) rfl ?_); refine wpList_load_mid rfl 47 (.tmp 3) rfl gb 0 rfl C.toList _ ?l1 Try.underlying47 rfl ?l2 ?_; (case l1 => exact cp_range (cp_at BKW.out HL1.out)); (case l2 => rw [Array.length_toList, HCZ.out]; kernel_rfl); rw [Array.toArray_toList]) | (go_at_call 26; refine (HK3.out _ (HBW.out.trans (HL1.out.mono HBW.out.size))).mono ?_; rintro e7 w7 ⟨U, B15, B16, B17, B18, d15, d16, d17, d18, rfl, hb, hus, huo, hu15, hu16, hu17, hrw, hat⟩; have HL7 := AX (HL1.out.trans (hb.mono HL1.out.size)); have HUS := AX hus; have HUO := AX huo; have HU15 := AX hu15; have HU16 := AX hu16; have HU17 := AX hu17; have HRW := AX hrw; have HAT := AX hat; clear hb hus huo hu15 hu16 hu17 hrw hat) | ((with_reducible refine gate_dst (N := 7) rfl ?_); refine bx 7 #[.string (⟨#[]⟩ : ByteArray), .int .i64 0, .int .i64 0, .int .i64 0, .int .i64 0, .int .i64 0, .int .i64 0, .int .i64 0, .int .i64 0, .int .i64 0, .int .i64 0, .int .i64 0, .int .i64 0, .int .i64 0, .int .i64 0, .slice none 0 0, .slice none 0 0, .slice none 0 0, .slice none 0 0, .int .i64 0, .int .i64 0, .int .i64 0, .int .i64 0, .int .i64 0, .int .i64 0, .int .i64 0, .int .i64 0, .int .i64 0] 47 ?_; intro gu hg w8 hbox hb; have BU := AX hbox; have HB8 := AX hb; have HG8 := AX hg; clear hbox hb hg) | (refine wpList_store_mid rfl 47 (.tmp 7) (.tmp 11) rfl gu 0 U rfl rfl ?s1 ?s2 ?s3 ?_; (case s1 => rw [HUS.out]; exact cp_there BU.out); (case s2 => rw [HUS.out]; kernel_rfl); (case s3 => exact HUO.out)))
  have HKP : Aside0 (Kp w (w8.setCells gu 0 U.toList) gb gu gd C U #[.int .i64 d0, .int .i64 d1, .int .i64 d2] (.slice B15 l0_15.length d15) (.slice B16 l0_16.length d16) (.slice B17 l0_17.length d17) (.slice B18 l0_18.length d18) l0_15 l0_16 l0_17 l0_18) := AX (by
    have e := all_cells U.toList BU.out (by rw [Array.length_toList, HUS.out]; rfl)
    rw [Array.toArray_toList] at e
    have hl8 := HL7.out.trans (HB8.out.mono HL7.out.size)
    have b8 := cp_at BKW.out hl8
    have bd8 := cp_at BDW.out hl8
    have hne : gb ≠ gu := by
      rw [HG8.out]
      have := (Array.getElem?_eq_some_iff.1 (cp_at BKW.out HL7.out)).1
      omega
    have hnd : gd ≠ gu := by
      rw [HG8.out]
      have := (Array.getElem?_eq_some_iff.1 (cp_at BDW.out HL7.out)).1
      omega
    have hlo : w.heap.size ≤ w1.heap.size := Nat.le_trans HBW.out.size HL1.out.size
    obtain ⟨q0, q1, q2, q3⟩ := HRW.out
    exact ⟨(cells_far hne _ _).trans b8, e, (cells_far hnd _ _).trans bd8, hne, hnd, Kd.R_lower (Kd.R_mono (R_cells (Kd.R_types (Kd.R_below q0 HB8.out) BU.out (by decide)) (fun _ hk => hk.2) 0 _) (fun _ _ => trivial)) hlo, Kd.R_lower (Kd.R_mono (R_cells (Kd.R_types (Kd.R_below q1 HB8.out) BU.out (by decide)) (fun _ hk => hk.2) 0 _) (fun _ _ => trivial)) hlo, Kd.R_lower (Kd.R_mono (R_cells (Kd.R_types (Kd.R_below q2 HB8.out) BU.out (by decide)) (fun _ hk => hk.2) 0 _) (fun _ _ => trivial)) hlo, Kd.S_lower (Kd.S_mono (S_cells (Kd.S_types (Kd.S_below q3 HB8.out) BU.out (by decide)) (fun _ hk => hk.2) 0 _) (fun _ _ => trivial)) hlo, below_cells (by rw [HG8.out]; exact Nat.le_trans HBW.out.size HL7.out.size) _ _ (HBW.out.trans (hl8.mono HBW.out.size))⟩)
  have HGU := AX (show w.heap.size ≤ gu by rw [HG8.out]; exact Nat.le_trans HBW.out.size HL7.out.size)
  obtain ⟨W3, hW3⟩ : ∃ x : World, w8.setCells gu 0 U.toList = x := ⟨_, rfl⟩
  rw [hW3] at HKP ⊢
  clear hW3 BU HB8 HG8 HRW HL1 HL7 BKW BDW
  have HKP1 := AX (HKP.out.below (below_drew (Below.refl _ _)))
  clear HKP
  refine start_ (n := 11) (S := fun w' => w'.cell? ⟨gu, 15, none⟩ = some (.slice B15 l0_15.length d15) ∧ w'.cell? ⟨gb, 15, none⟩ = some (.slice A0_15 l0_15.length c0_15)) (ds := [10]) #[false, false, false, false, false, false, false, false, false, false, false] (by kernel_rfl) rfl rfl ⟨cp_cell HKP1.out.bu HU15.out, cp_cell HKP1.out.bt E15.out⟩ (fun hHeld => ?_)
  refine with_tabW pylonlaw14_TouKeeps.tab4 pylonlaw14_TouKeeps.bits (fun HT_ HW_ => ?_)
  generalize (World.drew _) = wd at HKP1 hHeld ⊢
  refine pure_ (i := 0) (N := some 12) (v := ?_) (a' := ?_) #[true, false, false, false, false, false, false, false, false, false, false] rfl rfl (any_of HT_.out (by kernel_rfl)) (fun _ _ _ h => h) (Or.inl ⟨by rfl, ?_⟩) ?_ ?_
  rotate_left
  · intro w'
    go_simp
    with_reducible rfl
  rotate_left
  · simp only [Act.put, List.setIfInBounds_toArray, List.set_cons_zero, List.set_cons_succ, i64_w, i32_w]
    rfl
  refine pure_ (i := 2) (N := some 14) (v := ?_) (a' := ?_) #[true, false, true, false, false, false, false, false, false, false, false] rfl rfl (any_of HT_.out (by kernel_rfl)) (fun _ _ _ h => h) (Or.inl ⟨by rfl, ?_⟩) ?_ ?_
  rotate_left
  · intro w'
    go_simp
    with_reducible rfl
  rotate_left
  · simp only [Act.put, List.setIfInBounds_toArray, List.set_cons_zero, List.set_cons_succ, i64_w, i32_w]
    rfl
  refine pure_ (i := 5) (N := some 17) (v := ?_) (a' := ?_) #[true, false, true, false, false, true, false, false, false, false, false] rfl rfl (any_of HT_.out (by kernel_rfl)) (fun _ _ _ h => h) (Or.inl ⟨by rfl, ?_⟩) ?_ ?_
  rotate_left
  · intro w'
    go_simp
    with_reducible rfl
  rotate_left
  · simp only [Act.put, List.setIfInBounds_toArray, List.set_cons_zero, List.set_cons_succ, i64_w, i32_w]
    rfl
  refine take_ (i := 1) (N := some 13) (v := ?_) (a' := ?_) #[true, true, true, false, false, true, false, false, false, false, false] rfl rfl (take_ofW HT_.out HW_.out (by kernel_rfl)) (fun _ _ _ h => h) (Or.inl ⟨by rfl, ?_⟩) hHeld ?_ ?_
  rotate_left
  · rintro w' ⟨s0, s1⟩
    go_simp
    with_reducible rfl
  rotate_left
  · simp only [Act.put, List.setIfInBounds_toArray, List.set_cons_zero, List.set_cons_succ, i64_w, i32_w]
    rfl
  refine take_ (i := 6) (N := some 18) (v := ?_) (a' := ?_) #[true, true, true, false, false, true, true, false, false, false, false] rfl rfl (take_ofW HT_.out HW_.out (by kernel_rfl)) (fun _ _ _ h => h) (Or.inl ⟨by rfl, ?_⟩) hHeld ?_ ?_
  rotate_left
  · rintro w' ⟨s0, s1⟩
    go_simp
    with_reducible rfl
  rotate_left
  · simp only [Act.put, List.setIfInBounds_toArray, List.set_cons_zero, List.set_cons_succ, i64_w, i32_w]
    rfl
  refine pure_ (i := 7) (N := some 19) (v := ?_) (a' := ?_) #[true, true, true, false, false, true, true, true, false, false, false] rfl rfl (any_of HT_.out (by kernel_rfl)) (fun _ _ _ h => h) (Or.inl ⟨by rfl, ?_⟩) ?_ ?_
  rotate_left
  · intro w'
    go_simp
    with_reducible rfl
  rotate_left
  · simp only [Act.put, List.setIfInBounds_toArray, List.set_cons_zero, List.set_cons_succ, i64_w, i32_w]
    rfl
  refine one_ (i := 3) (N := some 15) #[true, true, true, true, false, true, true, true, false, false, false] rfl rfl (one_of HT_.out (by kernel_rfl)) (by decide) (fun K hK => ?_)
  refine value_ (w1 := ?_) (v := ?_) (by rfl) rfl ?_ ?_
  rotate_left 2
  · go_simp
    constructor
    · rfl
    · rfl
  refine hK.out _ _ ⟨cp_cell (blk_alloc HKP1.out.bu _) HU15.out, cp_cell (blk_alloc HKP1.out.bt _) E15.out⟩ (fun hHeld => ?_)
  clear hK K
  refine norm_ (a' := ?_) ?_ ?_
  rotate_left
  · show Act.put _ (some 15) _ = _
    simp only [Act.put, List.setIfInBounds_toArray, List.set_cons_zero, List.set_cons_succ, i64_w, i32_w]
    rfl
  refine one_ (i := 4) (N := some 16) #[true, true, true, true, true, true, true, true, false, false, false] rfl rfl (one_of HT_.out (by kernel_rfl)) (by decide) (fun K hK => ?_)
  refine Kd.R_append_step k58 (w0 := w) w.heap.size (by rfl) (.tmp 13) (.tmp 15) 36 58 (.agg #[(.string ⟨#[]⟩), (.int .i64 0), (.int .i64 0)]) 32 rfl Try.underlying36 cp_infoE rfl (by decide) (by omega) (.slice B15 l0_15.length d15) l0_15 (⟨(⟨#[115, 112, 97, 114, 101]⟩ : ByteArray), 0, 0⟩ : S58) [.string (⟨#[115, 112, 97, 114, 101]⟩ : ByteArray), .int .i64 0, .int .i64 0] (fun _ => True) (fun _ => False) rfl rfl (k58_mkM _ _ _ (⟨(⟨#[115, 112, 97, 114, 101]⟩ : ByteArray), 0, 0⟩ : S58)) (fun _ h => h.elim) (fun _ _ => trivial) HKP1.out.r15 HKP1.out.bl HKP1.out.bl.size ?hl1 ?_
  (case hl1 => have := HM15.out; omega)
  intro v1 w1 ho hb hg hat
  have HKP2 := AX (HKP1.out.app15 ho hb hg)
  obtain ⟨g15, cap15, e1, -, -, -⟩ := Kd.R_form ho (by simp)
  have e1' : v1 = .slice (some ⟨g15, 0, none⟩) (l0_15.length + 1) cap15 := by rw [e1]; simp
  clear e1
  subst e1'
  have HCAP15 := AX (show l0_15.length + 1 ≤ cap15 from (Kd.R_reads' ho).2.1)
  clear ho hb hg hat HKP1
  refine hK.out _ _ ⟨cp_cell HKP2.out.bu HU15.out, cp_cell HKP2.out.bt E15.out⟩ (fun hHeld => ?_)
  clear hK K
  refine norm_ (a' := ?_) ?_ ?_
  rotate_left
  · show Act.put _ (some 16) _ = _
    simp only [Act.put, List.setIfInBounds_toArray, List.set_cons_zero, List.set_cons_succ, i64_w, i32_w]
    rfl
  have hc1 : l0_15.length ≤ cap15 := by have := HCAP15.out; omega
  have hc2 : (l0_15.length : Int) ≤ (cap15 : Int) := by omega
  refine pure_ (i := 8) (N := some 20) (v := ?_) (a' := ?_) #[true, true, true, true, true, true, true, true, true, false, false] rfl rfl (any_of HT_.out (by kernel_rfl)) (fun _ _ _ h => h) (Or.inl ⟨by rfl, ?_⟩) ?_ ?_
  rotate_left
  · intro w'
    go_simp
    with_reducible rfl
  rotate_left
  · simp only [Act.put, List.setIfInBounds_toArray, List.set_cons_zero, List.set_cons_succ, i64_w, i32_w]
    rfl
  refine pure_ (i := 9) (N := some 21) (v := ?_) (a' := ?_) #[true, true, true, true, true, true, true, true, true, true, false] rfl rfl (any_of HT_.out (by kernel_rfl)) (fun _ _ _ h => h) (Or.inl ⟨by rfl, ?_⟩) ?_ ?_
  rotate_left
  · intro w'
    go_simp
    with_reducible rfl
  rotate_left
  · simp only [Act.put, List.setIfInBounds_toArray, List.set_cons_zero, List.set_cons_succ, i64_w, i32_w]
    rfl
  refine last_ (i := 10) (N := none) #[true, true, true, true, true, true, true, true, true, true, true] rfl rfl (one_of HT_.out (by kernel_rfl)) (by decide) (fun K hK => ?_)
  have hs := cp_cell HKP2.out.bu HU15.out
  have hf := blk_frozen HKP2.out.bu 15
  refine skip_ (w1 := ?_) (by rfl) rfl ?_ ?_
  rotate_left
  · go_simp
    rfl
  refine hK.out _ _ ?_
  clear hK K hs hf hc1 hc2
  refine done_ (done_of HT_.out (by kernel_rfl)) ?_
  clear HT_ HW_
  have HKP := AX (HKP2.out.put HGU.out 15 (.slice (some ⟨g15, 0, none⟩) l0_15.length cap15))
  clear HKP2
  obtain ⟨W4, hW4⟩ : ∃ x : World, w1.setCell ⟨gu, 15, none⟩ (.slice (some ⟨g15, 0, none⟩) l0_15.length cap15) = x := ⟨_, rfl⟩
  rw [hW4] at HKP ⊢
  clear hW4
  obtain ⟨V4, hV4⟩ : ∃ x : Array Value, (U.setIfInBounds 15 (.slice (some ⟨g15, 0, none⟩) l0_15.length cap15)) = x := ⟨_, rfl⟩
  have HV4_15 := AX (show V4[15]? = some (.slice (some ⟨g15, 0, none⟩) l0_15.length cap15) by rw [← hV4, Array.getElem?_setIfInBounds_self_of_lt (by rw [HUS.out]; decide)])
  have HV4_16 := AX (show V4[16]? = some (.slice B16 l0_16.length d16) by rw [← hV4, Array.getElem?_setIfInBounds_ne (by decide)]; exact HU16.out)
  have HV4_17 := AX (show V4[17]? = some (.slice B17 l0_17.length d17) by rw [← hV4, Array.getElem?_setIfInBounds_ne (by decide)]; exact HU17.out)
  have HVSn := AX (show V4.size = 28 by rw [← hV4, Array.size_setIfInBounds]; exact HUS.out)
  have HVS := HVSn
  clear HVSn
  rw [hV4] at HKP
  have HVE4 := AX hV4
  clear hV4
  go_upto_region 5 with (fail)
  have HKP1 := AX (HKP.out.below (below_drew (Below.refl _ _)))
  clear HKP
  refine start_ (n := 11) (S := fun w' => w'.cell? ⟨gu, 17, none⟩ = some (.slice B17 l0_17.length d17) ∧ w'.cell? ⟨gb, 17, none⟩ = some (.slice A0_17 l0_17.length c0_17)) (ds := [10]) #[false, false, false, false, false, false, false, false, false, false, false] (by kernel_rfl) rfl rfl ⟨cp_cell HKP1.out.bu HV4_17.out, cp_cell HKP1.out.bt E17.out⟩ (fun hHeld => ?_)
  refine with_tabW pylonlaw14_TouKeeps.tab5 pylonlaw14_TouKeeps.bits (fun HT_ HW_ => ?_)
  generalize (World.drew _) = wd at HKP1 hHeld ⊢
  refine pure_ (i := 0) (N := some 22) (v := ?_) (a' := ?_) #[true, false, false, false, false, false, false, false, false, false, false] rfl rfl (any_of HT_.out (by kernel_rfl)) (fun _ _ _ h => h) (Or.inl ⟨by rfl, ?_⟩) ?_ ?_
  rotate_left
  · intro w'
    go_simp
    with_reducible rfl
  rotate_left
  · simp only [Act.put, List.setIfInBounds_toArray, List.set_cons_zero, List.set_cons_succ, i64_w, i32_w]
    rfl
  refine pure_ (i := 2) (N := some 24) (v := ?_) (a' := ?_) #[true, false, true, false, false, false, false, false, false, false, false] rfl rfl (any_of HT_.out (by kernel_rfl)) (fun _ _ _ h => h) (Or.inl ⟨by rfl, ?_⟩) ?_ ?_
  rotate_left
  · intro w'
    go_simp
    with_reducible rfl
  rotate_left
  · simp only [Act.put, List.setIfInBounds_toArray, List.set_cons_zero, List.set_cons_succ, i64_w, i32_w]
    rfl
  refine pure_ (i := 5) (N := some 27) (v := ?_) (a' := ?_) #[true, false, true, false, false, true, false, false, false, false, false] rfl rfl (any_of HT_.out (by kernel_rfl)) (fun _ _ _ h => h) (Or.inl ⟨by rfl, ?_⟩) ?_ ?_
  rotate_left
  · intro w'
    go_simp
    with_reducible rfl
  rotate_left
  · simp only [Act.put, List.setIfInBounds_toArray, List.set_cons_zero, List.set_cons_succ, i64_w, i32_w]
    rfl
  refine take_ (i := 1) (N := some 23) (v := ?_) (a' := ?_) #[true, true, true, false, false, true, false, false, false, false, false] rfl rfl (take_ofW HT_.out HW_.out (by kernel_rfl)) (fun _ _ _ h => h) (Or.inl ⟨by rfl, ?_⟩) hHeld ?_ ?_
  rotate_left
  · rintro w' ⟨s0, s1⟩
    go_simp
    with_reducible rfl
  rotate_left
  · simp only [Act.put, List.setIfInBounds_toArray, List.set_cons_zero, List.set_cons_succ, i64_w, i32_w]
    rfl
  refine take_ (i := 6) (N := some 28) (v := ?_) (a' := ?_) #[true, true, true, false, false, true, true, false, false, false, false] rfl rfl (take_ofW HT_.out HW_.out (by kernel_rfl)) (fun _ _ _ h => h) (Or.inl ⟨by rfl, ?_⟩) hHeld ?_ ?_
  rotate_left
  · rintro w' ⟨s0, s1⟩
    go_simp
    with_reducible rfl
  rotate_left
  · simp only [Act.put, List.setIfInBounds_toArray, List.set_cons_zero, List.set_cons_succ, i64_w, i32_w]
    rfl
  refine pure_ (i := 7) (N := some 29) (v := ?_) (a' := ?_) #[true, true, true, false, false, true, true, true, false, false, false] rfl rfl (any_of HT_.out (by kernel_rfl)) (fun _ _ _ h => h) (Or.inl ⟨by rfl, ?_⟩) ?_ ?_
  rotate_left
  · intro w'
    go_simp
    with_reducible rfl
  rotate_left
  · simp only [Act.put, List.setIfInBounds_toArray, List.set_cons_zero, List.set_cons_succ, i64_w, i32_w]
    rfl
  refine one_ (i := 3) (N := some 25) #[true, true, true, true, false, true, true, true, false, false, false] rfl rfl (one_of HT_.out (by kernel_rfl)) (by decide) (fun K hK => ?_)
  refine value_ (w1 := ?_) (v := ?_) (by rfl) rfl ?_ ?_
  rotate_left 2
  · go_simp
    constructor
    · rfl
    · rfl
  refine hK.out _ _ ⟨cp_cell (blk_alloc HKP1.out.bu _) HV4_17.out, cp_cell (blk_alloc HKP1.out.bt _) E17.out⟩ (fun hHeld => ?_)
  clear hK K
  refine norm_ (a' := ?_) ?_ ?_
  rotate_left
  · show Act.put _ (some 25) _ = _
    simp only [Act.put, List.setIfInBounds_toArray, List.set_cons_zero, List.set_cons_succ, i64_w, i32_w]
    rfl
  refine one_ (i := 4) (N := some 26) #[true, true, true, true, true, true, true, true, false, false, false] rfl rfl (one_of HT_.out (by kernel_rfl)) (by decide) (fun K hK => ?_)
  refine Kd.R_append_step k60 (w0 := w) w.heap.size (by rfl) (.tmp 23) (.tmp 25) 33 60 (.agg #[(.string ⟨#[]⟩), (.int .i64 0), (.int .i64 0), (.int .i64 0), (.string ⟨#[]⟩)]) 56 rfl Try.underlying33 cp_infoW rfl (by decide) (by omega) (.slice B17 l0_17.length d17) l0_17 (⟨(⟨#[]⟩ : ByteArray), 77, 0, 0, (⟨#[]⟩ : ByteArray)⟩ : S60) [.string (⟨#[]⟩ : ByteArray), .int .i64 77, .int .i64 0, .int .i64 0, .string (⟨#[]⟩ : ByteArray)] (fun _ => True) (fun _ => False) rfl rfl (k60_mkM _ _ _ (⟨(⟨#[]⟩ : ByteArray), 77, 0, 0, (⟨#[]⟩ : ByteArray)⟩ : S60)) (fun _ h => h.elim) (fun _ _ => trivial) HKP1.out.r17 HKP1.out.bl HKP1.out.bl.size ?hl1 ?_
  (case hl1 => have := HM17.out; omega)
  intro v1 w1 ho hb hg hat
  have HKP2 := AX (HKP1.out.app17 ho hb hg)
  obtain ⟨g17, cap17, e1, -, -, -⟩ := Kd.R_form ho (by simp)
  have e1' : v1 = .slice (some ⟨g17, 0, none⟩) (l0_17.length + 1) cap17 := by rw [e1]; simp
  clear e1
  subst e1'
  have HCAP17 := AX (show l0_17.length + 1 ≤ cap17 from (Kd.R_reads' ho).2.1)
  clear ho hb hg hat HKP1
  refine hK.out _ _ ⟨cp_cell HKP2.out.bu HV4_17.out, cp_cell HKP2.out.bt E17.out⟩ (fun hHeld => ?_)
  clear hK K
  refine norm_ (a' := ?_) ?_ ?_
  rotate_left
  · show Act.put _ (some 26) _ = _
    simp only [Act.put, List.setIfInBounds_toArray, List.set_cons_zero, List.set_cons_succ, i64_w, i32_w]
    rfl
  have hc1 : l0_17.length ≤ cap17 := by have := HCAP17.out; omega
  have hc2 : (l0_17.length : Int) ≤ (cap17 : Int) := by omega
  refine pure_ (i := 8) (N := some 30) (v := ?_) (a' := ?_) #[true, true, true, true, true, true, true, true, true, false, false] rfl rfl (any_of HT_.out (by kernel_rfl)) (fun _ _ _ h => h) (Or.inl ⟨by rfl, ?_⟩) ?_ ?_
  rotate_left
  · intro w'
    go_simp
    with_reducible rfl
  rotate_left
  · simp only [Act.put, List.setIfInBounds_toArray, List.set_cons_zero, List.set_cons_succ, i64_w, i32_w]
    rfl
  refine pure_ (i := 9) (N := some 31) (v := ?_) (a' := ?_) #[true, true, true, true, true, true, true, true, true, true, false] rfl rfl (any_of HT_.out (by kernel_rfl)) (fun _ _ _ h => h) (Or.inl ⟨by rfl, ?_⟩) ?_ ?_
  rotate_left
  · intro w'
    go_simp
    with_reducible rfl
  rotate_left
  · simp only [Act.put, List.setIfInBounds_toArray, List.set_cons_zero, List.set_cons_succ, i64_w, i32_w]
    rfl
  refine last_ (i := 10) (N := none) #[true, true, true, true, true, true, true, true, true, true, true] rfl rfl (one_of HT_.out (by kernel_rfl)) (by decide) (fun K hK => ?_)
  have hs := cp_cell HKP2.out.bu HV4_17.out
  have hf := blk_frozen HKP2.out.bu 17
  refine skip_ (w1 := ?_) (by rfl) rfl ?_ ?_
  rotate_left
  · go_simp
    rfl
  refine hK.out _ _ ?_
  clear hK K hs hf hc1 hc2
  refine done_ (done_of HT_.out (by kernel_rfl)) ?_
  clear HT_ HW_
  have HKP := AX (HKP2.out.put HGU.out 17 (.slice (some ⟨g17, 0, none⟩) l0_17.length cap17))
  clear HKP2
  obtain ⟨W5, hW5⟩ : ∃ x : World, w1.setCell ⟨gu, 17, none⟩ (.slice (some ⟨g17, 0, none⟩) l0_17.length cap17) = x := ⟨_, rfl⟩
  rw [hW5] at HKP ⊢
  clear hW5
  obtain ⟨V5, hV5⟩ : ∃ x : Array Value, (V4.setIfInBounds 17 (.slice (some ⟨g17, 0, none⟩) l0_17.length cap17)) = x := ⟨_, rfl⟩
  have HV5_15 := AX (show V5[15]? = some (.slice (some ⟨g15, 0, none⟩) l0_15.length cap15) by rw [← hV5, Array.getElem?_setIfInBounds_ne (by decide)]; exact HV4_15.out)
  have HV5_16 := AX (show V5[16]? = some (.slice B16 l0_16.length d16) by rw [← hV5, Array.getElem?_setIfInBounds_ne (by decide)]; exact HV4_16.out)
  have HV5_17 := AX (show V5[17]? = some (.slice (some ⟨g17, 0, none⟩) l0_17.length cap17) by rw [← hV5, Array.getElem?_setIfInBounds_self_of_lt (by rw [HVS.out]; decide)])
  have HVSn := AX (show V5.size = 28 by rw [← hV5, Array.size_setIfInBounds]; exact HVS.out)
  clear HVS
  have HVS := HVSn
  clear HVSn
  rw [hV5] at HKP
  have HVE5 := AX hV5
  clear hV5
  go_upto_region 6 with (fail)
  have HKP1 := AX (HKP.out.below (below_drew (Below.refl _ _)))
  clear HKP
  refine start_ (n := 11) (S := fun w' => w'.cell? ⟨gu, 16, none⟩ = some (.slice B16 l0_16.length d16) ∧ w'.cell? ⟨gb, 16, none⟩ = some (.slice A0_16 l0_16.length c0_16)) (ds := [10]) #[false, false, false, false, false, false, false, false, false, false, false] (by kernel_rfl) rfl rfl ⟨cp_cell HKP1.out.bu HV5_16.out, cp_cell HKP1.out.bt E16.out⟩ (fun hHeld => ?_)
  refine with_tabW pylonlaw14_TouKeeps.tab6 pylonlaw14_TouKeeps.bits (fun HT_ HW_ => ?_)
  generalize (World.drew _) = wd at HKP1 hHeld ⊢
  refine pure_ (i := 0) (N := some 32) (v := ?_) (a' := ?_) #[true, false, false, false, false, false, false, false, false, false, false] rfl rfl (any_of HT_.out (by kernel_rfl)) (fun _ _ _ h => h) (Or.inl ⟨by rfl, ?_⟩) ?_ ?_
  rotate_left
  · intro w'
    go_simp
    with_reducible rfl
  rotate_left
  · simp only [Act.put, List.setIfInBounds_toArray, List.set_cons_zero, List.set_cons_succ, i64_w, i32_w]
    rfl
  refine pure_ (i := 2) (N := some 34) (v := ?_) (a' := ?_) #[true, false, true, false, false, false, false, false, false, false, false] rfl rfl (any_of HT_.out (by kernel_rfl)) (fun _ _ _ h => h) (Or.inl ⟨by rfl, ?_⟩) ?_ ?_
  rotate_left
  · intro w'
    go_simp
    with_reducible rfl
  rotate_left
  · simp only [Act.put, List.setIfInBounds_toArray, List.set_cons_zero, List.set_cons_succ, i64_w, i32_w]
    rfl
  refine pure_ (i := 5) (N := some 37) (v := ?_) (a' := ?_) #[true, false, true, false, false, true, false, false, false, false, false] rfl rfl (any_of HT_.out (by kernel_rfl)) (fun _ _ _ h => h) (Or.inl ⟨by rfl, ?_⟩) ?_ ?_
  rotate_left
  · intro w'
    go_simp
    with_reducible rfl
  rotate_left
  · simp only [Act.put, List.setIfInBounds_toArray, List.set_cons_zero, List.set_cons_succ, i64_w, i32_w]
    rfl
  refine take_ (i := 1) (N := some 33) (v := ?_) (a' := ?_) #[true, true, true, false, false, true, false, false, false, false, false] rfl rfl (take_ofW HT_.out HW_.out (by kernel_rfl)) (fun _ _ _ h => h) (Or.inl ⟨by rfl, ?_⟩) hHeld ?_ ?_
  rotate_left
  · rintro w' ⟨s0, s1⟩
    go_simp
    with_reducible rfl
  rotate_left
  · simp only [Act.put, List.setIfInBounds_toArray, List.set_cons_zero, List.set_cons_succ, i64_w, i32_w]
    rfl
  refine take_ (i := 6) (N := some 38) (v := ?_) (a' := ?_) #[true, true, true, false, false, true, true, false, false, false, false] rfl rfl (take_ofW HT_.out HW_.out (by kernel_rfl)) (fun _ _ _ h => h) (Or.inl ⟨by rfl, ?_⟩) hHeld ?_ ?_
  rotate_left
  · rintro w' ⟨s0, s1⟩
    go_simp
    with_reducible rfl
  rotate_left
  · simp only [Act.put, List.setIfInBounds_toArray, List.set_cons_zero, List.set_cons_succ, i64_w, i32_w]
    rfl
  refine pure_ (i := 7) (N := some 39) (v := ?_) (a' := ?_) #[true, true, true, false, false, true, true, true, false, false, false] rfl rfl (any_of HT_.out (by kernel_rfl)) (fun _ _ _ h => h) (Or.inl ⟨by rfl, ?_⟩) ?_ ?_
  rotate_left
  · intro w'
    go_simp
    with_reducible rfl
  rotate_left
  · simp only [Act.put, List.setIfInBounds_toArray, List.set_cons_zero, List.set_cons_succ, i64_w, i32_w]
    rfl
  refine one_ (i := 3) (N := some 35) #[true, true, true, true, false, true, true, true, false, false, false] rfl rfl (one_of HT_.out (by kernel_rfl)) (by decide) (fun K hK => ?_)
  refine value_ (w1 := ?_) (v := ?_) (by rfl) rfl ?_ ?_
  rotate_left 2
  · go_simp
    constructor
    · rfl
    · rfl
  refine hK.out _ _ ⟨cp_cell (blk_alloc HKP1.out.bu _) HV5_16.out, cp_cell (blk_alloc HKP1.out.bt _) E16.out⟩ (fun hHeld => ?_)
  clear hK K
  refine norm_ (a' := ?_) ?_ ?_
  rotate_left
  · show Act.put _ (some 35) _ = _
    simp only [Act.put, List.setIfInBounds_toArray, List.set_cons_zero, List.set_cons_succ, i64_w, i32_w]
    rfl
  refine one_ (i := 4) (N := some 36) #[true, true, true, true, true, true, true, true, false, false, false] rfl rfl (one_of HT_.out (by kernel_rfl)) (by decide) (fun K hK => ?_)
  refine Kd.R_append_step k65 (w0 := w) w.heap.size (by rfl) (.tmp 33) (.tmp 35) 22 65 (.agg #[(.int .i64 0), (.int .i64 0), (.int .i64 0), (.int .i64 0)]) 32 rfl Try.underlying22 cp_infoH rfl (by decide) (by omega) (.slice B16 l0_16.length d16) l0_16 (⟨77, 0, 0, 0⟩ : S65) [.int .i64 77, .int .i64 0, .int .i64 0, .int .i64 0] (fun _ => True) (fun _ => False) rfl rfl (k65_mkM _ _ _ (⟨77, 0, 0, 0⟩ : S65)) (fun _ h => h.elim) (fun _ _ => trivial) HKP1.out.r16 HKP1.out.bl HKP1.out.bl.size ?hl1 ?_
  (case hl1 => have := HM16.out; omega)
  intro v1 w1 ho hb hg hat
  have HKP2 := AX (HKP1.out.app16 ho hb hg)
  obtain ⟨g16, cap16, e1, -, -, -⟩ := Kd.R_form ho (by simp)
  have e1' : v1 = .slice (some ⟨g16, 0, none⟩) (l0_16.length + 1) cap16 := by rw [e1]; simp
  clear e1
  subst e1'
  have HCAP16 := AX (show l0_16.length + 1 ≤ cap16 from (Kd.R_reads' ho).2.1)
  clear ho hb hg hat HKP1
  refine hK.out _ _ ⟨cp_cell HKP2.out.bu HV5_16.out, cp_cell HKP2.out.bt E16.out⟩ (fun hHeld => ?_)
  clear hK K
  refine norm_ (a' := ?_) ?_ ?_
  rotate_left
  · show Act.put _ (some 36) _ = _
    simp only [Act.put, List.setIfInBounds_toArray, List.set_cons_zero, List.set_cons_succ, i64_w, i32_w]
    rfl
  have hc1 : l0_16.length ≤ cap16 := by have := HCAP16.out; omega
  have hc2 : (l0_16.length : Int) ≤ (cap16 : Int) := by omega
  refine pure_ (i := 8) (N := some 40) (v := ?_) (a' := ?_) #[true, true, true, true, true, true, true, true, true, false, false] rfl rfl (any_of HT_.out (by kernel_rfl)) (fun _ _ _ h => h) (Or.inl ⟨by rfl, ?_⟩) ?_ ?_
  rotate_left
  · intro w'
    go_simp
    with_reducible rfl
  rotate_left
  · simp only [Act.put, List.setIfInBounds_toArray, List.set_cons_zero, List.set_cons_succ, i64_w, i32_w]
    rfl
  refine pure_ (i := 9) (N := some 41) (v := ?_) (a' := ?_) #[true, true, true, true, true, true, true, true, true, true, false] rfl rfl (any_of HT_.out (by kernel_rfl)) (fun _ _ _ h => h) (Or.inl ⟨by rfl, ?_⟩) ?_ ?_
  rotate_left
  · intro w'
    go_simp
    with_reducible rfl
  rotate_left
  · simp only [Act.put, List.setIfInBounds_toArray, List.set_cons_zero, List.set_cons_succ, i64_w, i32_w]
    rfl
  refine last_ (i := 10) (N := none) #[true, true, true, true, true, true, true, true, true, true, true] rfl rfl (one_of HT_.out (by kernel_rfl)) (by decide) (fun K hK => ?_)
  have hs := cp_cell HKP2.out.bu HV5_16.out
  have hf := blk_frozen HKP2.out.bu 16
  refine skip_ (w1 := ?_) (by rfl) rfl ?_ ?_
  rotate_left
  · go_simp
    rfl
  refine hK.out _ _ ?_
  clear hK K hs hf hc1 hc2
  refine done_ (done_of HT_.out (by kernel_rfl)) ?_
  clear HT_ HW_
  have HKP := AX (HKP2.out.put HGU.out 16 (.slice (some ⟨g16, 0, none⟩) l0_16.length cap16))
  clear HKP2
  obtain ⟨W6, hW6⟩ : ∃ x : World, w1.setCell ⟨gu, 16, none⟩ (.slice (some ⟨g16, 0, none⟩) l0_16.length cap16) = x := ⟨_, rfl⟩
  rw [hW6] at HKP ⊢
  clear hW6
  obtain ⟨V6, hV6⟩ : ∃ x : Array Value, (V5.setIfInBounds 16 (.slice (some ⟨g16, 0, none⟩) l0_16.length cap16)) = x := ⟨_, rfl⟩
  have HV6_15 := AX (show V6[15]? = some (.slice (some ⟨g15, 0, none⟩) l0_15.length cap15) by rw [← hV6, Array.getElem?_setIfInBounds_ne (by decide)]; exact HV5_15.out)
  have HV6_16 := AX (show V6[16]? = some (.slice (some ⟨g16, 0, none⟩) l0_16.length cap16) by rw [← hV6, Array.getElem?_setIfInBounds_self_of_lt (by rw [HVS.out]; decide)])
  have HV6_17 := AX (show V6[17]? = some (.slice (some ⟨g17, 0, none⟩) l0_17.length cap17) by rw [← hV6, Array.getElem?_setIfInBounds_ne (by decide)]; exact HV5_17.out)
  have HVSn := AX (show V6.size = 28 by rw [← hV6, Array.size_setIfInBounds]; exact HVS.out)
  clear HVS
  have HVS := HVSn
  clear HVSn
  rw [hV6] at HKP
  have HVE6 := AX hV6
  clear hV6
  have HVV := AX (show ((U.setIfInBounds 15 (.slice (some ⟨g15, 0, none⟩) l0_15.length cap15)).setIfInBounds 17 (.slice (some ⟨g17, 0, none⟩) l0_17.length cap17)).setIfInBounds 16 (.slice (some ⟨g16, 0, none⟩) l0_16.length cap16) = V6 by rw [HVE4.out, HVE5.out, HVE6.out])
  go_upto_region 8 with (first | ((with_reducible refine gate_dst (N := 42) rfl ?_); refine wpList_load_mid rfl 47 (.tmp 7) rfl gu 0 rfl V6.toList _ ?l1 Try.underlying47 rfl ?l2 ?_; (case l1 => exact cp_range (HKP.out.bu)); (case l2 => rw [Array.length_toList, HVS.out]; kernel_rfl); rw [Array.toArray_toList]) | (go_at_call 25; rw [← HVV.out]; refine (HAT.out _ (some ⟨g15, 0, none⟩) cap15 (some ⟨g16, 0, none⟩) cap16 (some ⟨g17, 0, none⟩) cap17 HKP.out.bl (kp_pre (Kd.R_reads' HKP.out.r15).2.2) (Nat.le_of_succ_le HCAP15.out) (kp_pre (Kd.R_reads' HKP.out.r16).2.2) (Nat.le_of_succ_le HCAP16.out) (kp_pre (Kd.R_reads' HKP.out.r17).2.2) (Nat.le_of_succ_le HCAP17.out) (Kd.S_reads' HKP.out.r18).2.2 (Kd.S_reads' HKP.out.r18).2.1).1.mono ?_; rintro e9 w9 ⟨rfl, hb⟩; have HKP9 := AX (HKP.out.below hb); clear hb))
  have gs := cp_cell HKP9.out.bu HV6_15.out
  have gd0 : _ = some (Value.int .i64 d0) := cp_cell HKP9.out.bd (j := 0) rfl
  have gd1 : _ = some (Value.int .i64 d1) := cp_cell HKP9.out.bd (j := 1) rfl
  have gd2 : _ = some (Value.int .i64 d2) := cp_cell HKP9.out.bd (j := 2) rfl
  go_upto_region 9 with (go_at_call 23; refine (tou_Season.calls k (some ⟨g15, 0, none⟩) cap15 l0_15 d0 d1 d2 p1 p2 _ (kp_pre (Kd.R_reads' HKP9.out.r15).2.2) (Nat.le_of_succ_le HCAP15.out) HS.out).mono ?_; rintro e' w8 ⟨rfl, hb⟩; have HKP10 := AX (HKP9.out.below hb); clear hb)
  clear gs gd0 gd1 gd2 HKP9
  have gs := cp_cell HKP10.out.bu HV6_16.out
  have gd0 : _ = some (Value.int .i64 d0) := cp_cell HKP10.out.bd (j := 0) rfl
  have gd1 : _ = some (Value.int .i64 d1) := cp_cell HKP10.out.bd (j := 1) rfl
  have gd2 : _ = some (Value.int .i64 d2) := cp_cell HKP10.out.bd (j := 2) rfl
  go_upto_region 10 with (go_at_call 17; refine (tou_Kind.calls k (some ⟨g16, 0, none⟩) cap16 l0_16 d0 d1 d2 q1 q2 _ (kp_pre (Kd.R_reads' HKP10.out.r16).2.2) (Nat.le_of_succ_le HCAP16.out) HK.out).mono ?_; rintro e' w18 ⟨rfl, hb⟩; have HKP11 := AX (HKP10.out.below hb); clear hb)
  clear gs gd0 gd1 gd2 HKP10
  have gs := cp_cell HKP11.out.bu HV6_17.out
  go_upto_region 11 with (go_at_call 21; refine (tou_Window.calls (some ⟨g17, 0, none⟩) cap17 l0_17 (⟨#[97]⟩ : ByteArray) 0 0 r1 r2 _ (kp_pre (Kd.R_reads' HKP11.out.r17).2.2) (Nat.le_of_succ_le HCAP17.out) HW.out).mono ?_; rintro e' w19 ⟨rfl, hb⟩; have HKP12 := AX (HKP11.out.below hb); clear hb)
  clear gs HKP11
  have HKP13 := AX (HKP12.out.below (below_drew (Below.refl _ _)))
  clear HKP12
  have x15 := AX (show _ = some (Value.string (⟨#[115, 112, 97, 114, 101]⟩ : ByteArray)) from by
    obtain ⟨c, hk, hc⟩ := kp_last (Kd.R_reads' HKP13.out.r15).2.2
    have e := k58_open hk
    subst e
    exact hc 0 _ rfl)
  have x17 := AX (show _ = some (Value.int .i64 77) from by
    obtain ⟨c, hk, hc⟩ := kp_last (Kd.R_reads' HKP13.out.r17).2.2
    have e := k60_open hk
    subst e
    exact hc 1 _ rfl)
  have x16 := AX (show _ = some (Value.int .i64 77) from by
    obtain ⟨c, hk, hc⟩ := kp_last (Kd.R_reads' HKP13.out.r16).2.2
    have e := k65_open hk
    subst e
    exact hc 0 _ rfl)
  obtain ⟨hw15, hz15⟩ := kp_wr (by decide) HM15.out
  have hc15 := HCAP15.out
  have hi15 := kp_ci HCAP15.out
  have hp15 := kp_nn l0_15.length
  have hq15 := kp_lt l0_15.length
  obtain ⟨hw17, hz17⟩ := kp_wr (by decide) HM17.out
  have hc17 := HCAP17.out
  have hi17 := kp_ci HCAP17.out
  have hp17 := kp_nn l0_17.length
  have hq17 := kp_lt l0_17.length
  obtain ⟨hw16, hz16⟩ := kp_wr (by decide) HM16.out
  have hc16 := HCAP16.out
  have hi16 := kp_ci HCAP16.out
  have hp16 := kp_nn l0_16.length
  have hq16 := kp_lt l0_16.length
  refine start_ (n := 52) (S := fun w' => w'.rangeAt gu 0 V6.toList ∧ w'.rangeAt gb 0 C.toList ∧ w'.cell? ⟨gu, 15, none⟩ = some (.slice (some ⟨g15, 0, none⟩) l0_15.length cap15) ∧ w'.cell? ⟨gb, 15, none⟩ = some (.slice A0_15 l0_15.length c0_15) ∧ w'.cell? ⟨g15, l0_15.length * 3, none⟩ = some (.string (⟨#[115, 112, 97, 114, 101]⟩ : ByteArray)) ∧ w'.cell? ⟨gu, 17, none⟩ = some (.slice (some ⟨g17, 0, none⟩) l0_17.length cap17) ∧ w'.cell? ⟨gb, 17, none⟩ = some (.slice A0_17 l0_17.length c0_17) ∧ w'.cell? ⟨g17, l0_17.length * 5 + 1, none⟩ = some (.int .i64 77) ∧ w'.cell? ⟨gu, 16, none⟩ = some (.slice (some ⟨g16, 0, none⟩) l0_16.length cap16) ∧ w'.cell? ⟨gb, 16, none⟩ = some (.slice A0_16 l0_16.length c0_16) ∧ w'.cell? ⟨g16, l0_16.length * 4, none⟩ = some (.int .i64 77)) (ds := []) #[false, false, false, false, false, false, false, false, false, false, false, false, false, false, false, false, false, false, false, false, false, false, false, false, false, false, false, false, false, false, false, false, false, false, false, false, false, false, false, false, false, false, false, false, false, false, false, false, false, false, false, false] (by kernel_rfl) rfl rfl ⟨cp_range HKP13.out.bu, cp_range HKP13.out.bt, cp_cell HKP13.out.bu HV6_15.out, cp_cell HKP13.out.bt E15.out, x15.out, cp_cell HKP13.out.bu HV6_17.out, cp_cell HKP13.out.bt E17.out, x17.out, cp_cell HKP13.out.bu HV6_16.out, cp_cell HKP13.out.bt E16.out, x16.out⟩ (fun hHeld => ?_)
  refine with_tabW pylonlaw14_TouKeeps.tab11 pylonlaw14_TouKeeps.bits11 (fun HT_ HW_ => ?_)
  generalize (World.drew _) = wd at HKP13 hHeld x15 x17 x16 ⊢
  refine take_ (i := 0) (N := some 56) (v := .agg V6) (a' := ?_) #[true, false, false, false, false, false, false, false, false, false, false, false, false, false, false, false, false, false, false, false, false, false, false, false, false, false, false, false, false, false, false, false, false, false, false, false, false, false, false, false, false, false, false, false, false, false, false, false, false, false, false, false] rfl rfl (take_ofW HT_.out HW_.out (by kernel_rfl)) (fun _ _ _ h => h) ?hy hHeld ?_ ?_
  (case hy => exact kp_whole (by rfl) 47 (.tmp 7) rfl gu rfl V6 _ (fun w' h => h.1) Try.underlying47 rfl (by rw [HVS.out]; kernel_rfl))
  rotate_left
  · simp only [Act.put, List.setIfInBounds_toArray, List.set_cons_zero, List.set_cons_succ, i64_w, i32_w]
    rfl
  refine take_ (i := 1) (N := some 57) (v := .agg C) (a' := ?_) #[true, true, false, false, false, false, false, false, false, false, false, false, false, false, false, false, false, false, false, false, false, false, false, false, false, false, false, false, false, false, false, false, false, false, false, false, false, false, false, false, false, false, false, false, false, false, false, false, false, false, false, false] rfl rfl (take_ofW HT_.out HW_.out (by kernel_rfl)) (fun _ _ _ h => h) ?hy hHeld ?_ ?_
  (case hy => exact kp_whole (by rfl) 47 (.tmp 3) rfl gb rfl C _ (fun w' h => h.2.1) Try.underlying47 rfl (by rw [HCZ.out]; kernel_rfl))
  rotate_left
  · simp only [Act.put, List.setIfInBounds_toArray, List.set_cons_zero, List.set_cons_succ, i64_w, i32_w]
    rfl
  refine one_ (i := 2) (N := some 58) #[true, true, true, false, false, false, false, false, false, false, false, false, false, false, false, false, false, false, false, false, false, false, false, false, false, false, false, false, false, false, false, false, false, false, false, false, false, false, false, false, false, false, false, false, false, false, false, false, false, false, false, false] rfl rfl (one_of HT_.out (by kernel_rfl)) (by decide) (fun K hK => ?_)
  have hcl := (HAT.out _ (some ⟨g15, 0, none⟩) cap15 (some ⟨g16, 0, none⟩) cap16 (some ⟨g17, 0, none⟩) cap17 HKP13.out.bl (kp_pre (Kd.R_reads' HKP13.out.r15).2.2) (Nat.le_of_succ_le HCAP15.out) (kp_pre (Kd.R_reads' HKP13.out.r16).2.2) (Nat.le_of_succ_le HCAP16.out) (kp_pre (Kd.R_reads' HKP13.out.r17).2.2) (Nat.le_of_succ_le HCAP17.out) (Kd.S_reads' HKP13.out.r18).2.2 (Kd.S_reads' HKP13.out.r18).2.1).2
  rw [HVV.out] at hcl
  refine goes_ Try.func29 (by kernel_rfl) rfl #[.agg V6, .agg C] (by rfl) rfl rfl (by (try simp only [List.map_toArray, List.map_cons, List.map_nil]); first | done | rfl) ?_
  refine hcl.mono ?_
  clear hcl
  rintro e' w20 ⟨rfl, hb⟩
  refine ⟨_, rfl, ?_⟩
  have HKP14 := AX (HKP13.out.below hb)
  clear hb x15 x17 x16 HKP13
  have y15 := AX (show _ = some (Value.string (⟨#[115, 112, 97, 114, 101]⟩ : ByteArray)) from by
    obtain ⟨c, hk, hc⟩ := kp_last (Kd.R_reads' HKP14.out.r15).2.2
    have e := k58_open hk
    subst e
    exact hc 0 _ rfl)
  have y17 := AX (show _ = some (Value.int .i64 77) from by
    obtain ⟨c, hk, hc⟩ := kp_last (Kd.R_reads' HKP14.out.r17).2.2
    have e := k60_open hk
    subst e
    exact hc 1 _ rfl)
  have y16 := AX (show _ = some (Value.int .i64 77) from by
    obtain ⟨c, hk, hc⟩ := kp_last (Kd.R_reads' HKP14.out.r16).2.2
    have e := k65_open hk
    subst e
    exact hc 0 _ rfl)
  refine hK.out _ _ ⟨cp_range HKP14.out.bu, cp_range HKP14.out.bt, cp_cell HKP14.out.bu HV6_15.out, cp_cell HKP14.out.bt E15.out, y15.out, cp_cell HKP14.out.bu HV6_17.out, cp_cell HKP14.out.bt E17.out, y17.out, cp_cell HKP14.out.bu HV6_16.out, cp_cell HKP14.out.bt E16.out, y16.out⟩ (fun hHeld => ?_)
  clear hK K
  refine norm_ (a' := ?_) ?_ ?_
  rotate_left
  · show Act.put _ (some 58) _ = _
    simp only [Act.put, List.setIfInBounds_toArray, List.set_cons_zero, List.set_cons_succ, i64_w, i32_w]
    rfl
  refine pure_ (i := 3) (N := some 59) (v := ?_) (a' := ?_) #[true, true, true, true, false, false, false, false, false, false, false, false, false, false, false, false, false, false, false, false, false, false, false, false, false, false, false, false, false, false, false, false, false, false, false, false, false, false, false, false, false, false, false, false, false, false, false, false, false, false, false, false] rfl rfl (any_of HT_.out (by kernel_rfl)) (fun _ _ _ h => h) (Or.inl ⟨by rfl, ?_⟩) ?_ ?_
  rotate_left
  · intro w'
    go_simp
    with_reducible rfl
  rotate_left
  · simp only [Act.put, List.setIfInBounds_toArray, List.set_cons_zero, List.set_cons_succ, i64_w, i32_w]
    rfl
  refine pure_ (i := 4) (N := some 60) (v := ?_) (a' := ?_) #[true, true, true, true, true, false, false, false, false, false, false, false, false, false, false, false, false, false, false, false, false, false, false, false, false, false, false, false, false, false, false, false, false, false, false, false, false, false, false, false, false, false, false, false, false, false, false, false, false, false, false, false] rfl rfl (any_of HT_.out (by kernel_rfl)) (fun _ _ _ h => h) (Or.inl ⟨by rfl, ?_⟩) ?_ ?_
  rotate_left
  · intro w'
    go_simp
    with_reducible rfl
  rotate_left
  · simp only [Act.put, List.setIfInBounds_toArray, List.set_cons_zero, List.set_cons_succ, i64_w, i32_w]
    rfl
  refine take_ (i := 5) (N := some 61) (v := ?_) (a' := ?_) #[true, true, true, true, true, true, false, false, false, false, false, false, false, false, false, false, false, false, false, false, false, false, false, false, false, false, false, false, false, false, false, false, false, false, false, false, false, false, false, false, false, false, false, false, false, false, false, false, false, false, false, false] rfl rfl (take_ofW HT_.out HW_.out (by kernel_rfl)) (fun _ _ _ h => h) (Or.inl ⟨by rfl, ?_⟩) hHeld ?_ ?_
  rotate_left
  · rintro w' ⟨-, -, s0, s1, s2, s3, s4, s5, s6, s7, s8⟩
    go_simp
    with_reducible rfl
  rotate_left
  · simp only [Act.put, List.setIfInBounds_toArray, List.set_cons_zero, List.set_cons_succ, i64_w, i32_w]
    rfl
  refine pure_ (i := 6) (N := some 62) (v := ?_) (a' := ?_) #[true, true, true, true, true, true, true, false, false, false, false, false, false, false, false, false, false, false, false, false, false, false, false, false, false, false, false, false, false, false, false, false, false, false, false, false, false, false, false, false, false, false, false, false, false, false, false, false, false, false, false, false] rfl rfl (any_of HT_.out (by kernel_rfl)) (fun _ _ _ h => h) (Or.inl ⟨by rfl, ?_⟩) ?_ ?_
  rotate_left
  · intro w'
    go_simp
    with_reducible rfl
  rotate_left
  · simp only [Act.put, List.setIfInBounds_toArray, List.set_cons_zero, List.set_cons_succ, i64_w, i32_w]
    rfl
  refine take_ (i := 7) (N := some 63) (v := ?_) (a' := ?_) #[true, true, true, true, true, true, true, true, false, false, false, false, false, false, false, false, false, false, false, false, false, false, false, false, false, false, false, false, false, false, false, false, false, false, false, false, false, false, false, false, false, false, false, false, false, false, false, false, false, false, false, false] rfl rfl (take_ofW HT_.out HW_.out (by kernel_rfl)) (fun _ _ _ h => h) (Or.inl ⟨by rfl, ?_⟩) hHeld ?_ ?_
  rotate_left
  · rintro w' ⟨-, -, s0, s1, s2, s3, s4, s5, s6, s7, s8⟩
    go_simp
    with_reducible rfl
  rotate_left
  · simp only [Act.put, List.setIfInBounds_toArray, List.set_cons_zero, List.set_cons_succ, i64_w, i32_w]
    rfl
  refine pure_ (i := 8) (N := some 64) (v := ?_) (a' := ?_) #[true, true, true, true, true, true, true, true, true, false, false, false, false, false, false, false, false, false, false, false, false, false, false, false, false, false, false, false, false, false, false, false, false, false, false, false, false, false, false, false, false, false, false, false, false, false, false, false, false, false, false, false] rfl rfl (any_of HT_.out (by kernel_rfl)) (fun _ _ _ h => h) (Or.inl ⟨by rfl, ?_⟩) ?_ ?_
  rotate_left
  · intro w'
    go_simp
    with_reducible rfl
  rotate_left
  · simp only [Act.put, List.setIfInBounds_toArray, List.set_cons_zero, List.set_cons_succ, i64_w, i32_w]
    rfl
  refine pure_ (i := 9) (N := some 65) (v := ?_) (a' := ?_) #[true, true, true, true, true, true, true, true, true, true, false, false, false, false, false, false, false, false, false, false, false, false, false, false, false, false, false, false, false, false, false, false, false, false, false, false, false, false, false, false, false, false, false, false, false, false, false, false, false, false, false, false] rfl rfl (any_of HT_.out (by kernel_rfl)) (fun _ _ _ h => h) (Or.inl ⟨by rfl, ?_⟩) ?_ ?_
  rotate_left
  · intro w'
    go_simp
    with_reducible rfl
  rotate_left
  · simp only [Act.put, List.setIfInBounds_toArray, List.set_cons_zero, List.set_cons_succ, i64_w, i32_w]
    rfl
  refine pure_ (i := 10) (N := some 66) (v := ?_) (a' := ?_) #[true, true, true, true, true, true, true, true, true, true, true, false, false, false, false, false, false, false, false, false, false, false, false, false, false, false, false, false, false, false, false, false, false, false, false, false, false, false, false, false, false, false, false, false, false, false, false, false, false, false, false, false] rfl rfl (any_of HT_.out (by kernel_rfl)) (fun _ _ _ h => h) (Or.inl ⟨by rfl, ?_⟩) ?_ ?_
  rotate_left
  · intro w'
    go_simp
    with_reducible rfl
  rotate_left
  · simp only [Act.put, List.setIfInBounds_toArray, List.set_cons_zero, List.set_cons_succ, i64_w, i32_w]
    rfl
  refine pure_ (i := 11) (N := some 67) (v := ?_) (a' := ?_) #[true, true, true, true, true, true, true, true, true, true, true, true, false, false, false, false, false, false, false, false, false, false, false, false, false, false, false, false, false, false, false, false, false, false, false, false, false, false, false, false, false, false, false, false, false, false, false, false, false, false, false, false] rfl rfl (any_of HT_.out (by kernel_rfl)) (fun _ _ _ h => h) (Or.inl ⟨by rfl, ?_⟩) ?_ ?_
  rotate_left
  · intro w'
    go_simp
    with_reducible rfl
  rotate_left
  · simp only [Act.put, List.setIfInBounds_toArray, List.set_cons_zero, List.set_cons_succ, i64_w, i32_w]
    rfl
  refine take_ (i := 12) (N := some 68) (v := ?_) (a' := ?_) #[true, true, true, true, true, true, true, true, true, true, true, true, true, false, false, false, false, false, false, false, false, false, false, false, false, false, false, false, false, false, false, false, false, false, false, false, false, false, false, false, false, false, false, false, false, false, false, false, false, false, false, false] rfl rfl (take_ofW HT_.out HW_.out (by kernel_rfl)) (fun _ _ _ h => h) (Or.inl ⟨by rfl, ?_⟩) hHeld ?_ ?_
  rotate_left
  · rintro w' ⟨-, -, s0, s1, s2, s3, s4, s5, s6, s7, s8⟩
    go_simp
    with_reducible rfl
  rotate_left
  · simp only [Act.put, List.setIfInBounds_toArray, List.set_cons_zero, List.set_cons_succ, i64_w, i32_w]
    rfl
  refine pure_ (i := 13) (N := some 69) (v := ?_) (a' := ?_) #[true, true, true, true, true, true, true, true, true, true, true, true, true, true, false, false, false, false, false, false, false, false, false, false, false, false, false, false, false, false, false, false, false, false, false, false, false, false, false, false, false, false, false, false, false, false, false, false, false, false, false, false] rfl rfl (any_of HT_.out (by kernel_rfl)) (fun _ _ _ h => h) (Or.inl ⟨by rfl, ?_⟩) ?_ ?_
  rotate_left
  · intro w'
    go_simp
    with_reducible rfl
  rotate_left
  · simp only [Act.put, List.setIfInBounds_toArray, List.set_cons_zero, List.set_cons_succ, i64_w, i32_w]
    rfl
  refine pure_ (i := 14) (N := some 70) (v := ?_) (a' := ?_) #[true, true, true, true, true, true, true, true, true, true, true, true, true, true, true, false, false, false, false, false, false, false, false, false, false, false, false, false, false, false, false, false, false, false, false, false, false, false, false, false, false, false, false, false, false, false, false, false, false, false, false, false] rfl rfl (any_of HT_.out (by kernel_rfl)) (fun _ _ _ h => h) (Or.inl ⟨by rfl, ?_⟩) ?_ ?_
  rotate_left
  · intro w'
    go_simp
    with_reducible rfl
  rotate_left
  · simp only [Act.put, List.setIfInBounds_toArray, List.set_cons_zero, List.set_cons_succ, i64_w, i32_w]
    rfl
  refine pure_ (i := 15) (N := some 71) (v := ?_) (a' := ?_) #[true, true, true, true, true, true, true, true, true, true, true, true, true, true, true, true, false, false, false, false, false, false, false, false, false, false, false, false, false, false, false, false, false, false, false, false, false, false, false, false, false, false, false, false, false, false, false, false, false, false, false, false] rfl rfl (any_of HT_.out (by kernel_rfl)) (fun _ _ _ h => h) (Or.inl ⟨by rfl, ?_⟩) ?_ ?_
  rotate_left
  · intro w'
    go_simp
    with_reducible rfl
  rotate_left
  · simp only [Act.put, List.setIfInBounds_toArray, List.set_cons_zero, List.set_cons_succ, i64_w, i32_w]
    rfl
  refine take_ (i := 16) (N := some 72) (v := ?_) (a' := ?_) #[true, true, true, true, true, true, true, true, true, true, true, true, true, true, true, true, true, false, false, false, false, false, false, false, false, false, false, false, false, false, false, false, false, false, false, false, false, false, false, false, false, false, false, false, false, false, false, false, false, false, false, false] rfl rfl (take_ofW HT_.out HW_.out (by kernel_rfl)) (fun _ _ _ h => h) (Or.inl ⟨by rfl, ?_⟩) hHeld ?_ ?_
  rotate_left
  · rintro w' ⟨-, -, s0, s1, s2, s3, s4, s5, s6, s7, s8⟩
    go_simp
    with_reducible rfl
  rotate_left
  · simp only [Act.put, List.setIfInBounds_toArray, List.set_cons_zero, List.set_cons_succ, i64_w, i32_w]
    rfl
  refine pure_ (i := 17) (N := some 73) (v := ?_) (a' := ?_) #[true, true, true, true, true, true, true, true, true, true, true, true, true, true, true, true, true, true, false, false, false, false, false, false, false, false, false, false, false, false, false, false, false, false, false, false, false, false, false, false, false, false, false, false, false, false, false, false, false, false, false, false] rfl rfl (any_of HT_.out (by kernel_rfl)) (fun _ _ _ h => h) (Or.inl ⟨by rfl, ?_⟩) ?_ ?_
  rotate_left
  · intro w'
    go_simp
    with_reducible rfl
  rotate_left
  · simp only [Act.put, List.setIfInBounds_toArray, List.set_cons_zero, List.set_cons_succ, i64_w, i32_w]
    rfl
  refine pure_ (i := 18) (N := some 74) (v := ?_) (a' := ?_) #[true, true, true, true, true, true, true, true, true, true, true, true, true, true, true, true, true, true, true, false, false, false, false, false, false, false, false, false, false, false, false, false, false, false, false, false, false, false, false, false, false, false, false, false, false, false, false, false, false, false, false, false] rfl rfl (any_of HT_.out (by kernel_rfl)) (fun _ _ _ h => h) (Or.inl ⟨by rfl, ?_⟩) ?_ ?_
  rotate_left
  · intro w'
    go_simp
    with_reducible rfl
  rotate_left
  · simp only [Act.put, List.setIfInBounds_toArray, List.set_cons_zero, List.set_cons_succ, i64_w, i32_w]
    rfl
  refine pure_ (i := 19) (N := some 75) (v := ?_) (a' := ?_) #[true, true, true, true, true, true, true, true, true, true, true, true, true, true, true, true, true, true, true, true, false, false, false, false, false, false, false, false, false, false, false, false, false, false, false, false, false, false, false, false, false, false, false, false, false, false, false, false, false, false, false, false] rfl rfl (any_of HT_.out (by kernel_rfl)) (fun _ _ _ h => h) (Or.inl ⟨by rfl, ?_⟩) ?_ ?_
  rotate_left
  · intro w'
    go_simp
    with_reducible rfl
  rotate_left
  · simp only [Act.put, List.setIfInBounds_toArray, List.set_cons_zero, List.set_cons_succ, i64_w, i32_w]
    rfl
  refine pure_ (i := 20) (N := some 76) (v := ?_) (a' := ?_) #[true, true, true, true, true, true, true, true, true, true, true, true, true, true, true, true, true, true, true, true, true, false, false, false, false, false, false, false, false, false, false, false, false, false, false, false, false, false, false, false, false, false, false, false, false, false, false, false, false, false, false, false] rfl rfl (any_of HT_.out (by kernel_rfl)) (fun _ _ _ h => h) (Or.inl ⟨by rfl, ?_⟩) ?_ ?_
  rotate_left
  · intro w'
    go_simp
    with_reducible rfl
  rotate_left
  · simp only [Act.put, List.setIfInBounds_toArray, List.set_cons_zero, List.set_cons_succ, i64_w, i32_w]
    rfl
  refine take_ (i := 21) (N := some 77) (v := ?_) (a' := ?_) #[true, true, true, true, true, true, true, true, true, true, true, true, true, true, true, true, true, true, true, true, true, true, false, false, false, false, false, false, false, false, false, false, false, false, false, false, false, false, false, false, false, false, false, false, false, false, false, false, false, false, false, false] rfl rfl (take_ofW HT_.out HW_.out (by kernel_rfl)) (fun _ _ _ h => h) (Or.inl ⟨by rfl, ?_⟩) hHeld ?_ ?_
  rotate_left
  · rintro w' ⟨-, -, s0, s1, s2, s3, s4, s5, s6, s7, s8⟩
    go_simp
    with_reducible rfl
  rotate_left
  · simp only [Act.put, List.setIfInBounds_toArray, List.set_cons_zero, List.set_cons_succ, i64_w, i32_w]
    rfl
  refine pure_ (i := 22) (N := some 78) (v := ?_) (a' := ?_) #[true, true, true, true, true, true, true, true, true, true, true, true, true, true, true, true, true, true, true, true, true, true, true, false, false, false, false, false, false, false, false, false, false, false, false, false, false, false, false, false, false, false, false, false, false, false, false, false, false, false, false, false] rfl rfl (any_of HT_.out (by kernel_rfl)) (fun _ _ _ h => h) (Or.inl ⟨by rfl, ?_⟩) ?_ ?_
  rotate_left
  · intro w'
    go_simp
    with_reducible rfl
  rotate_left
  · simp only [Act.put, List.setIfInBounds_toArray, List.set_cons_zero, List.set_cons_succ, i64_w, i32_w]
    rfl
  refine take_ (i := 23) (N := some 79) (v := ?_) (a' := ?_) #[true, true, true, true, true, true, true, true, true, true, true, true, true, true, true, true, true, true, true, true, true, true, true, true, false, false, false, false, false, false, false, false, false, false, false, false, false, false, false, false, false, false, false, false, false, false, false, false, false, false, false, false] rfl rfl (take_ofW HT_.out HW_.out (by kernel_rfl)) (fun _ _ _ h => h) (Or.inl ⟨by rfl, ?_⟩) hHeld ?_ ?_
  rotate_left
  · rintro w' ⟨-, -, s0, s1, s2, s3, s4, s5, s6, s7, s8⟩
    go_simp
    with_reducible rfl
  rotate_left
  · simp only [Act.put, List.setIfInBounds_toArray, List.set_cons_zero, List.set_cons_succ, i64_w, i32_w]
    rfl
  refine pure_ (i := 24) (N := some 80) (v := ?_) (a' := ?_) #[true, true, true, true, true, true, true, true, true, true, true, true, true, true, true, true, true, true, true, true, true, true, true, true, true, false, false, false, false, false, false, false, false, false, false, false, false, false, false, false, false, false, false, false, false, false, false, false, false, false, false, false] rfl rfl (any_of HT_.out (by kernel_rfl)) (fun _ _ _ h => h) (Or.inl ⟨by rfl, ?_⟩) ?_ ?_
  rotate_left
  · intro w'
    go_simp
    with_reducible rfl
  rotate_left
  · simp only [Act.put, List.setIfInBounds_toArray, List.set_cons_zero, List.set_cons_succ, i64_w, i32_w]
    rfl
  refine pure_ (i := 25) (N := some 81) (v := ?_) (a' := ?_) #[true, true, true, true, true, true, true, true, true, true, true, true, true, true, true, true, true, true, true, true, true, true, true, true, true, true, false, false, false, false, false, false, false, false, false, false, false, false, false, false, false, false, false, false, false, false, false, false, false, false, false, false] rfl rfl (any_of HT_.out (by kernel_rfl)) (fun _ _ _ h => h) (Or.inl ⟨by rfl, ?_⟩) ?_ ?_
  rotate_left
  · intro w'
    go_simp
    with_reducible rfl
  rotate_left
  · simp only [Act.put, List.setIfInBounds_toArray, List.set_cons_zero, List.set_cons_succ, i64_w, i32_w]
    rfl
  refine pure_ (i := 26) (N := some 82) (v := ?_) (a' := ?_) #[true, true, true, true, true, true, true, true, true, true, true, true, true, true, true, true, true, true, true, true, true, true, true, true, true, true, true, false, false, false, false, false, false, false, false, false, false, false, false, false, false, false, false, false, false, false, false, false, false, false, false, false] rfl rfl (any_of HT_.out (by kernel_rfl)) (fun _ _ _ h => h) (Or.inl ⟨by rfl, ?_⟩) ?_ ?_
  rotate_left
  · intro w'
    go_simp
    with_reducible rfl
  rotate_left
  · simp only [Act.put, List.setIfInBounds_toArray, List.set_cons_zero, List.set_cons_succ, i64_w, i32_w]
    rfl
  refine pure_ (i := 27) (N := some 83) (v := ?_) (a' := ?_) #[true, true, true, true, true, true, true, true, true, true, true, true, true, true, true, true, true, true, true, true, true, true, true, true, true, true, true, true, false, false, false, false, false, false, false, false, false, false, false, false, false, false, false, false, false, false, false, false, false, false, false, false] rfl rfl (any_of HT_.out (by kernel_rfl)) (fun _ _ _ h => h) (Or.inl ⟨by rfl, ?_⟩) ?_ ?_
  rotate_left
  · intro w'
    go_simp
    with_reducible rfl
  rotate_left
  · simp only [Act.put, List.setIfInBounds_toArray, List.set_cons_zero, List.set_cons_succ, i64_w, i32_w]
    rfl
  refine take_ (i := 28) (N := some 84) (v := ?_) (a' := ?_) #[true, true, true, true, true, true, true, true, true, true, true, true, true, true, true, true, true, true, true, true, true, true, true, true, true, true, true, true, true, false, false, false, false, false, false, false, false, false, false, false, false, false, false, false, false, false, false, false, false, false, false, false] rfl rfl (take_ofW HT_.out HW_.out (by kernel_rfl)) (fun _ _ _ h => h) (Or.inl ⟨by rfl, ?_⟩) hHeld ?_ ?_
  rotate_left
  · rintro w' ⟨-, -, s0, s1, s2, s3, s4, s5, s6, s7, s8⟩
    go_simp
    with_reducible rfl
  rotate_left
  · simp only [Act.put, List.setIfInBounds_toArray, List.set_cons_zero, List.set_cons_succ, i64_w, i32_w]
    rfl
  refine pure_ (i := 29) (N := some 85) (v := ?_) (a' := ?_) #[true, true, true, true, true, true, true, true, true, true, true, true, true, true, true, true, true, true, true, true, true, true, true, true, true, true, true, true, true, true, false, false, false, false, false, false, false, false, false, false, false, false, false, false, false, false, false, false, false, false, false, false] rfl rfl (any_of HT_.out (by kernel_rfl)) (fun _ _ _ h => h) (Or.inl ⟨by rfl, ?_⟩) ?_ ?_
  rotate_left
  · intro w'
    go_simp
    with_reducible rfl
  rotate_left
  · simp only [Act.put, List.setIfInBounds_toArray, List.set_cons_zero, List.set_cons_succ, i64_w, i32_w]
    rfl
  refine pure_ (i := 30) (N := some 86) (v := ?_) (a' := ?_) #[true, true, true, true, true, true, true, true, true, true, true, true, true, true, true, true, true, true, true, true, true, true, true, true, true, true, true, true, true, true, true, false, false, false, false, false, false, false, false, false, false, false, false, false, false, false, false, false, false, false, false, false] rfl rfl (any_of HT_.out (by kernel_rfl)) (fun _ _ _ h => h) (Or.inl ⟨by rfl, ?_⟩) ?_ ?_
  rotate_left
  · intro w'
    go_simp
    with_reducible rfl
  rotate_left
  · simp only [Act.put, List.setIfInBounds_toArray, List.set_cons_zero, List.set_cons_succ, i64_w, i32_w]
    rfl
  refine pure_ (i := 31) (N := some 87) (v := ?_) (a' := ?_) #[true, true, true, true, true, true, true, true, true, true, true, true, true, true, true, true, true, true, true, true, true, true, true, true, true, true, true, true, true, true, true, true, false, false, false, false, false, false, false, false, false, false, false, false, false, false, false, false, false, false, false, false] rfl rfl (any_of HT_.out (by kernel_rfl)) (fun _ _ _ h => h) (Or.inl ⟨by rfl, ?_⟩) ?_ ?_
  rotate_left
  · intro w'
    go_simp
    with_reducible rfl
  rotate_left
  · simp only [Act.put, List.setIfInBounds_toArray, List.set_cons_zero, List.set_cons_succ, i64_w, i32_w]
    rfl
  refine take_ (i := 32) (N := some 88) (v := ?_) (a' := ?_) #[true, true, true, true, true, true, true, true, true, true, true, true, true, true, true, true, true, true, true, true, true, true, true, true, true, true, true, true, true, true, true, true, true, false, false, false, false, false, false, false, false, false, false, false, false, false, false, false, false, false, false, false] rfl rfl (take_ofW HT_.out HW_.out (by kernel_rfl)) (fun _ _ _ h => h) (Or.inl ⟨by rfl, ?_⟩) hHeld ?_ ?_
  rotate_left
  · rintro w' ⟨-, -, s0, s1, s2, s3, s4, s5, s6, s7, s8⟩
    go_simp
    with_reducible rfl
  rotate_left
  · simp only [Act.put, List.setIfInBounds_toArray, List.set_cons_zero, List.set_cons_succ, i64_w, i32_w]
    rfl
  refine pure_ (i := 33) (N := some 89) (v := ?_) (a' := ?_) #[true, true, true, true, true, true, true, true, true, true, true, true, true, true, true, true, true, true, true, true, true, true, true, true, true, true, true, true, true, true, true, true, true, true, false, false, false, false, false, false, false, false, false, false, false, false, false, false, false, false, false, false] rfl rfl (any_of HT_.out (by kernel_rfl)) (fun _ _ _ h => h) (Or.inl ⟨by rfl, ?_⟩) ?_ ?_
  rotate_left
  · intro w'
    go_simp
    with_reducible rfl
  rotate_left
  · simp only [Act.put, List.setIfInBounds_toArray, List.set_cons_zero, List.set_cons_succ, i64_w, i32_w]
    rfl
  refine pure_ (i := 34) (N := some 90) (v := ?_) (a' := ?_) #[true, true, true, true, true, true, true, true, true, true, true, true, true, true, true, true, true, true, true, true, true, true, true, true, true, true, true, true, true, true, true, true, true, true, true, false, false, false, false, false, false, false, false, false, false, false, false, false, false, false, false, false] rfl rfl (any_of HT_.out (by kernel_rfl)) (fun _ _ _ h => h) (Or.inl ⟨by rfl, ?_⟩) ?_ ?_
  rotate_left
  · intro w'
    go_simp
    with_reducible rfl
  rotate_left
  · simp only [Act.put, List.setIfInBounds_toArray, List.set_cons_zero, List.set_cons_succ, i64_w, i32_w]
    rfl
  refine pure_ (i := 35) (N := some 91) (v := ?_) (a' := ?_) #[true, true, true, true, true, true, true, true, true, true, true, true, true, true, true, true, true, true, true, true, true, true, true, true, true, true, true, true, true, true, true, true, true, true, true, true, false, false, false, false, false, false, false, false, false, false, false, false, false, false, false, false] rfl rfl (any_of HT_.out (by kernel_rfl)) (fun _ _ _ h => h) (Or.inl ⟨by rfl, ?_⟩) ?_ ?_
  rotate_left
  · intro w'
    go_simp
    with_reducible rfl
  rotate_left
  · simp only [Act.put, List.setIfInBounds_toArray, List.set_cons_zero, List.set_cons_succ, i64_w, i32_w]
    rfl
  refine pure_ (i := 36) (N := some 92) (v := ?_) (a' := ?_) #[true, true, true, true, true, true, true, true, true, true, true, true, true, true, true, true, true, true, true, true, true, true, true, true, true, true, true, true, true, true, true, true, true, true, true, true, true, false, false, false, false, false, false, false, false, false, false, false, false, false, false, false] rfl rfl (any_of HT_.out (by kernel_rfl)) (fun _ _ _ h => h) (Or.inl ⟨by rfl, ?_⟩) ?_ ?_
  rotate_left
  · intro w'
    go_simp
    with_reducible rfl
  rotate_left
  · simp only [Act.put, List.setIfInBounds_toArray, List.set_cons_zero, List.set_cons_succ, i64_w, i32_w]
    rfl
  refine take_ (i := 37) (N := some 93) (v := ?_) (a' := ?_) #[true, true, true, true, true, true, true, true, true, true, true, true, true, true, true, true, true, true, true, true, true, true, true, true, true, true, true, true, true, true, true, true, true, true, true, true, true, true, false, false, false, false, false, false, false, false, false, false, false, false, false, false] rfl rfl (take_ofW HT_.out HW_.out (by kernel_rfl)) (fun _ _ _ h => h) (Or.inl ⟨by rfl, ?_⟩) hHeld ?_ ?_
  rotate_left
  · rintro w' ⟨-, -, s0, s1, s2, s3, s4, s5, s6, s7, s8⟩
    go_simp
    with_reducible rfl
  rotate_left
  · simp only [Act.put, List.setIfInBounds_toArray, List.set_cons_zero, List.set_cons_succ, i64_w, i32_w]
    rfl
  refine pure_ (i := 38) (N := some 94) (v := ?_) (a' := ?_) #[true, true, true, true, true, true, true, true, true, true, true, true, true, true, true, true, true, true, true, true, true, true, true, true, true, true, true, true, true, true, true, true, true, true, true, true, true, true, true, false, false, false, false, false, false, false, false, false, false, false, false, false] rfl rfl (any_of HT_.out (by kernel_rfl)) (fun _ _ _ h => h) (Or.inl ⟨by rfl, ?_⟩) ?_ ?_
  rotate_left
  · intro w'
    go_simp
    with_reducible rfl
  rotate_left
  · simp only [Act.put, List.setIfInBounds_toArray, List.set_cons_zero, List.set_cons_succ, i64_w, i32_w]
    rfl
  refine take_ (i := 39) (N := some 95) (v := ?_) (a' := ?_) #[true, true, true, true, true, true, true, true, true, true, true, true, true, true, true, true, true, true, true, true, true, true, true, true, true, true, true, true, true, true, true, true, true, true, true, true, true, true, true, true, false, false, false, false, false, false, false, false, false, false, false, false] rfl rfl (take_ofW HT_.out HW_.out (by kernel_rfl)) (fun _ _ _ h => h) (Or.inl ⟨by rfl, ?_⟩) hHeld ?_ ?_
  rotate_left
  · rintro w' ⟨-, -, s0, s1, s2, s3, s4, s5, s6, s7, s8⟩
    go_simp
    with_reducible rfl
  rotate_left
  · simp only [Act.put, List.setIfInBounds_toArray, List.set_cons_zero, List.set_cons_succ, i64_w, i32_w]
    rfl
  refine pure_ (i := 40) (N := some 96) (v := ?_) (a' := ?_) #[true, true, true, true, true, true, true, true, true, true, true, true, true, true, true, true, true, true, true, true, true, true, true, true, true, true, true, true, true, true, true, true, true, true, true, true, true, true, true, true, true, false, false, false, false, false, false, false, false, false, false, false] rfl rfl (any_of HT_.out (by kernel_rfl)) (fun _ _ _ h => h) (Or.inl ⟨by rfl, ?_⟩) ?_ ?_
  rotate_left
  · intro w'
    go_simp
    with_reducible rfl
  rotate_left
  · simp only [Act.put, List.setIfInBounds_toArray, List.set_cons_zero, List.set_cons_succ, i64_w, i32_w]
    rfl
  refine pure_ (i := 41) (N := some 97) (v := ?_) (a' := ?_) #[true, true, true, true, true, true, true, true, true, true, true, true, true, true, true, true, true, true, true, true, true, true, true, true, true, true, true, true, true, true, true, true, true, true, true, true, true, true, true, true, true, true, false, false, false, false, false, false, false, false, false, false] rfl rfl (any_of HT_.out (by kernel_rfl)) (fun _ _ _ h => h) (Or.inl ⟨by rfl, ?_⟩) ?_ ?_
  rotate_left
  · intro w'
    go_simp
    with_reducible rfl
  rotate_left
  · simp only [Act.put, List.setIfInBounds_toArray, List.set_cons_zero, List.set_cons_succ, i64_w, i32_w]
    rfl
  refine pure_ (i := 42) (N := some 98) (v := ?_) (a' := ?_) #[true, true, true, true, true, true, true, true, true, true, true, true, true, true, true, true, true, true, true, true, true, true, true, true, true, true, true, true, true, true, true, true, true, true, true, true, true, true, true, true, true, true, true, false, false, false, false, false, false, false, false, false] rfl rfl (any_of HT_.out (by kernel_rfl)) (fun _ _ _ h => h) (Or.inl ⟨by rfl, ?_⟩) ?_ ?_
  rotate_left
  · intro w'
    go_simp
    with_reducible rfl
  rotate_left
  · simp only [Act.put, List.setIfInBounds_toArray, List.set_cons_zero, List.set_cons_succ, i64_w, i32_w]
    rfl
  refine pure_ (i := 43) (N := some 99) (v := ?_) (a' := ?_) #[true, true, true, true, true, true, true, true, true, true, true, true, true, true, true, true, true, true, true, true, true, true, true, true, true, true, true, true, true, true, true, true, true, true, true, true, true, true, true, true, true, true, true, true, false, false, false, false, false, false, false, false] rfl rfl (any_of HT_.out (by kernel_rfl)) (fun _ _ _ h => h) (Or.inl ⟨by rfl, ?_⟩) ?_ ?_
  rotate_left
  · intro w'
    go_simp
    with_reducible rfl
  rotate_left
  · simp only [Act.put, List.setIfInBounds_toArray, List.set_cons_zero, List.set_cons_succ, i64_w, i32_w]
    rfl
  refine take_ (i := 44) (N := some 100) (v := ?_) (a' := ?_) #[true, true, true, true, true, true, true, true, true, true, true, true, true, true, true, true, true, true, true, true, true, true, true, true, true, true, true, true, true, true, true, true, true, true, true, true, true, true, true, true, true, true, true, true, true, false, false, false, false, false, false, false] rfl rfl (take_ofW HT_.out HW_.out (by kernel_rfl)) (fun _ _ _ h => h) (Or.inl ⟨by rfl, ?_⟩) hHeld ?_ ?_
  rotate_left
  · rintro w' ⟨-, -, s0, s1, s2, s3, s4, s5, s6, s7, s8⟩
    go_simp
    with_reducible rfl
  rotate_left
  · simp only [Act.put, List.setIfInBounds_toArray, List.set_cons_zero, List.set_cons_succ, i64_w, i32_w]
    rfl
  refine pure_ (i := 45) (N := some 101) (v := ?_) (a' := ?_) #[true, true, true, true, true, true, true, true, true, true, true, true, true, true, true, true, true, true, true, true, true, true, true, true, true, true, true, true, true, true, true, true, true, true, true, true, true, true, true, true, true, true, true, true, true, true, false, false, false, false, false, false] rfl rfl (any_of HT_.out (by kernel_rfl)) (fun _ _ _ h => h) (Or.inl ⟨by rfl, ?_⟩) ?_ ?_
  rotate_left
  · intro w'
    go_simp
    with_reducible rfl
  rotate_left
  · simp only [Act.put, List.setIfInBounds_toArray, List.set_cons_zero, List.set_cons_succ, i64_w, i32_w]
    rfl
  refine pure_ (i := 46) (N := some 102) (v := ?_) (a' := ?_) #[true, true, true, true, true, true, true, true, true, true, true, true, true, true, true, true, true, true, true, true, true, true, true, true, true, true, true, true, true, true, true, true, true, true, true, true, true, true, true, true, true, true, true, true, true, true, true, false, false, false, false, false] rfl rfl (any_of HT_.out (by kernel_rfl)) (fun _ _ _ h => h) (Or.inl ⟨by rfl, ?_⟩) ?_ ?_
  rotate_left
  · intro w'
    go_simp
    with_reducible rfl
  rotate_left
  · simp only [Act.put, List.setIfInBounds_toArray, List.set_cons_zero, List.set_cons_succ, i64_w, i32_w]
    rfl
  refine pure_ (i := 47) (N := some 103) (v := ?_) (a' := ?_) #[true, true, true, true, true, true, true, true, true, true, true, true, true, true, true, true, true, true, true, true, true, true, true, true, true, true, true, true, true, true, true, true, true, true, true, true, true, true, true, true, true, true, true, true, true, true, true, true, false, false, false, false] rfl rfl (any_of HT_.out (by kernel_rfl)) (fun _ _ _ h => h) (Or.inl ⟨by rfl, ?_⟩) ?_ ?_
  rotate_left
  · intro w'
    go_simp
    with_reducible rfl
  rotate_left
  · simp only [Act.put, List.setIfInBounds_toArray, List.set_cons_zero, List.set_cons_succ, i64_w, i32_w]
    rfl
  refine take_ (i := 48) (N := some 104) (v := ?_) (a' := ?_) #[true, true, true, true, true, true, true, true, true, true, true, true, true, true, true, true, true, true, true, true, true, true, true, true, true, true, true, true, true, true, true, true, true, true, true, true, true, true, true, true, true, true, true, true, true, true, true, true, true, false, false, false] rfl rfl (take_ofW HT_.out HW_.out (by kernel_rfl)) (fun _ _ _ h => h) (Or.inl ⟨by rfl, ?_⟩) hHeld ?_ ?_
  rotate_left
  · rintro w' ⟨-, -, s0, s1, s2, s3, s4, s5, s6, s7, s8⟩
    go_simp
    with_reducible rfl
  rotate_left
  · simp only [Act.put, List.setIfInBounds_toArray, List.set_cons_zero, List.set_cons_succ, i64_w, i32_w]
    rfl
  refine pure_ (i := 49) (N := some 105) (v := ?_) (a' := ?_) #[true, true, true, true, true, true, true, true, true, true, true, true, true, true, true, true, true, true, true, true, true, true, true, true, true, true, true, true, true, true, true, true, true, true, true, true, true, true, true, true, true, true, true, true, true, true, true, true, true, true, false, false] rfl rfl (any_of HT_.out (by kernel_rfl)) (fun _ _ _ h => h) (Or.inl ⟨by rfl, ?_⟩) ?_ ?_
  rotate_left
  · intro w'
    go_simp
    with_reducible rfl
  rotate_left
  · simp only [Act.put, List.setIfInBounds_toArray, List.set_cons_zero, List.set_cons_succ, i64_w, i32_w]
    rfl
  refine pure_ (i := 50) (N := some 106) (v := ?_) (a' := ?_) #[true, true, true, true, true, true, true, true, true, true, true, true, true, true, true, true, true, true, true, true, true, true, true, true, true, true, true, true, true, true, true, true, true, true, true, true, true, true, true, true, true, true, true, true, true, true, true, true, true, true, true, false] rfl rfl (any_of HT_.out (by kernel_rfl)) (fun _ _ _ h => h) (Or.inl ⟨by rfl, ?_⟩) ?_ ?_
  rotate_left
  · intro w'
    go_simp
    with_reducible rfl
  rotate_left
  · simp only [Act.put, List.setIfInBounds_toArray, List.set_cons_zero, List.set_cons_succ, i64_w, i32_w]
    rfl
  refine pure_ (i := 51) (N := some 6) (v := ?_) (a' := ?_) #[true, true, true, true, true, true, true, true, true, true, true, true, true, true, true, true, true, true, true, true, true, true, true, true, true, true, true, true, true, true, true, true, true, true, true, true, true, true, true, true, true, true, true, true, true, true, true, true, true, true, true, true] rfl rfl (any_of HT_.out (by kernel_rfl)) (fun _ _ _ h => h) (Or.inl ⟨by rfl, ?_⟩) ?_ ?_
  rotate_left
  · intro w'
    go_simp
    with_reducible rfl
  rotate_left
  · simp only [Act.put, List.setIfInBounds_toArray, List.set_cons_zero, List.set_cons_succ, i64_w, i32_w]
    rfl
  refine done_ (done_of HT_.out (by kernel_rfl)) ?_
  clear HT_ HW_
  go_wp2
  go_ret
  first | exact ⟨rfl, HKP14.out.bl⟩ | exact ⟨by simp, HKP14.out.bl⟩

end Go.Proofs.Ytkggjjggcbcdiaa.PX
