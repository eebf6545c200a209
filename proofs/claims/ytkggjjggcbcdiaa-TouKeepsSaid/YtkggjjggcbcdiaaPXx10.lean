/- Functions of the program as plain Lean functions, each with a proof that the call in the machine answers just what the plain function says; condition: the plain function answers at all. -/
import Derived.Test.YtkggjjggcbcdiaaPXx0
import Derived.Test.YtkggjjggcbcdiaaPXx3
import Derived.Deep.MidRow
namespace Go.Proofs.Ytkggjjggcbcdiaa.PX
open Go.RowKit Go.Proofs.YtkggjjggcbcdiaaW.PrintWords Go.Proofs.YtkggjjggcbcdiaaW.PrintLast Go.Proofs.YtkggjjggcbcdiaaW.PrintMore
attribute [local go_sem] max2_int min2_int max_two min_two max_three min_three max_four min_four   -- for this text's walks alone
set_option linter.unusedVariables false
set_option linter.unusedSimpArgs false

/-! ### pylonref08_Copy: function 26 -/
def pylonref08_Copy.fits (l0_15 : List (S58)) (l0_16 : List (S65)) (l0_17 : List (S60)) (l0_18 : List (S63)) : Prop := l0_15.length < 4398046511104 ∧ l0_16.length < 4398046511104 ∧ l0_17.length < 2513169434916 ∧ l0_18.length < 3518437208883 ∧ ∀ x ∈ l0_18, x.f1.length < 8796093022208
open Classical in
noncomputable def pylonref08_Copy.f (a0_0 : ByteArray) (a0_1 : Int) (a0_2 : Int) (a0_3 : Int) (a0_4 : Int) (a0_5 : Int) (a0_6 : Int) (a0_7 : Int) (a0_8 : Int) (a0_9 : Int) (a0_10 : Int) (a0_11 : Int) (a0_12 : Int) (a0_13 : Int) (a0_14 : Int) (l0_15 : List (S58)) (l0_16 : List (S65)) (l0_17 : List (S60)) (l0_18 : List (S63)) (a0_19 : Int) (a0_20 : Int) (a0_21 : Int) (a0_22 : Int) (a0_23 : Int) (a0_24 : Int) (a0_25 : Int) (a0_26 : Int) (a0_27 : Int) : Option (ByteArray × Int × Int × Int × Int × Int × Int × Int × Int × Int × Int × Int × Int × Int × Int × (List (S58)) × (List (S65)) × (List (S60)) × (List (S63)) × Int × Int × Int × Int × Int × Int × Int × Int × Int) := if pylonref08_Copy.fits l0_15 l0_16 l0_17 l0_18 then some (a0_0, a0_1, a0_2, a0_3, a0_4, a0_5, a0_6, a0_7, a0_8, a0_9, a0_10, a0_11, a0_12, a0_13, a0_14, l0_15, l0_16, l0_17, l0_18, a0_19, a0_20, a0_21, a0_22, a0_23, a0_24, a0_25, a0_26, a0_27) else none
theorem cells_far {w : World} {b k : Nat} (h : k ≠ b) : ∀ (vs : List Value) (o : Nat), (w.setCells b o vs).heap[k]? = w.heap[k]? := by
 intro vs
 induction vs generalizing w with
 | nil => intro o; rfl
 | cons v vs ih => intro o; rw [World.setCells, ih, Below.heap_setCell w ⟨b, o, none⟩ v k h]
theorem R_cells {α : Type} {d : Kd α} {e base g : Nat} {ok : Nat → Prop} {w : World} {v : Value} {xs : List α} (h : Kd.R d e w base ok v xs) (hok : ∀ k, ok k → k ≠ g) (o : Nat) (vs : List Value) : Kd.R d e (w.setCells g o vs) base ok v xs := Kd.R_step h fun k ho _ => cells_far (hok k ho) vs o
theorem S_cells {α : Type} {d : Kd α} {e base g : Nat} {ok : Nat → Prop} {w : World} {v : Value} {xs : List α} (h : Kd.S d e w base ok v xs) (hok : ∀ k, ok k → k ≠ g) (o : Nat) (vs : List Value) : Kd.S d e (w.setCells g o vs) base ok v xs := Kd.S_step h fun k ho _ => cells_far (hok k ho) vs o
theorem below_cells {w W : World} {g : Nat} (hg : w.heap.size ≤ g) : ∀ (vs : List Value) (o : Nat), Below w.heap.size w W → Below w.heap.size w (W.setCells g o vs) := by
 intro vs
 induction vs generalizing W with
 | nil => intro o h; exact h
 | cons v vs ih => intro o h; exact ih (o + 1) (h.setCell hg _)
theorem put_cells {g t : Nat} : ∀ (vs : List Value) (o : Nat) (w : World) (cs : Array Value), w.heap[g]? = some (.cells cs t (0, 0)) → ∃ cs', (w.setCells g o vs).heap[g]? = some (.cells cs' t (0, 0)) ∧ cs'.size = cs.size ∧ (∀ j, j < o → cs'[j]? = cs[j]?) ∧ ∀ j (hj : j < vs.length), o + j < cs.size → cs'[o + j]? = some vs[j] := by
 intro vs
 induction vs with
 | nil => intro o w cs h; exact ⟨cs, h, rfl, fun _ _ => rfl, fun j hj => absurd hj (by simp)⟩
 | cons v vs ih =>
  intro o w cs h
  have h1 : (w.setCell ⟨g, o, none⟩ v).heap[g]? = some (.cells (cs.setIfInBounds o v) t (0, 0)) := by
   simp only [World.setCell, Array.getElem?_modify, if_true, h, Option.map_some]
   rfl
  obtain ⟨cs', e1, e2, e3, e4⟩ := ih (o + 1) _ _ h1
  refine ⟨cs', e1, by simpa using e2, fun j hj => ?_, fun j hj hs => ?_⟩
  · rw [e3 j (by omega), Array.getElem?_setIfInBounds]; simp [show o ≠ j by omega]
  · cases j with
   | zero =>
    have hs' : o < cs.size := hs
    rw [Nat.add_zero, e3 o (by omega)]
    simp [hs']
   | succ j => rw [show o + (j + 1) = o + 1 + j by omega]; have := e4 j (by simpa using hj) (by simp; omega); rw [this]; simp
theorem all_cells {w : World} {g t : Nat} {cs : Array Value} (vs : List Value) (h : w.heap[g]? = some (.cells cs t (0, 0))) (hs : cs.size = vs.length) : (w.setCells g 0 vs).heap[g]? = some (.cells vs.toArray t (0, 0)) := by
 obtain ⟨cs', e1, e2, _, e4⟩ := put_cells vs 0 w cs h
 have e : cs' = vs.toArray := by
  apply Array.ext_getElem?
  intro j
  by_cases c : j < vs.length
  · have := e4 j c (by omega); rw [Nat.zero_add] at this; rw [this]; simp [c]
  · rw [Array.getElem?_eq_none (by omega)]; simp [c]
 rw [e1, e]
theorem cp_at {w w' : World} {g : Nat} {o : Obj} (h : w.heap[g]? = some o) (hB : Below w.heap.size w w') : w'.heap[g]? = some o := (hB.block g (Array.getElem?_eq_some_iff.1 h).1).trans h
theorem cp_cell {w : World} {g t j : Nat} {C : Array Value} {v : Value} (h : w.heap[g]? = some (.cells C t (0, 0))) (h2 : C[j]? = some v) : w.cell? ⟨g, j, none⟩ = some v := by simp [World.cell?, h, h2]
theorem cp_put {w : World} {g t j : Nat} {C : Array Value} {v : Value} (h : w.heap[g]? = some (.cells C t (0, 0))) : (w.setCell ⟨g, j, none⟩ v).heap[g]? = some (.cells (C.setIfInBounds j v) t (0, 0)) := by
  simp only [World.setCell, Array.getElem?_modify, if_true, h, Option.map_some]
  rfl
theorem cp_far {w : World} {g g' j : Nat} {o : Obj} {v : Value} (hn : g' ≠ g) (h : w.heap[g']? = some o) : (w.setCell ⟨g, j, none⟩ v).heap[g']? = some o := (Below.heap_setCell w ⟨g, j, none⟩ v g' hn).trans h
theorem cp_twice {C : Array Value} {j : Nat} {u v : Value} : (C.setIfInBounds j u).setIfInBounds j v = C.setIfInBounds j v := by
  apply Array.ext_getElem?
  intro i
  simp only [Array.getElem?_setIfInBounds, Array.size_setIfInBounds]
  split <;> rfl
theorem cp_range {w : World} {g t : Nat} {C : Array Value} (h : w.heap[g]? = some (.cells C t (0, 0))) : w.rangeAt g 0 C.toList := fun j v hv => by
  rw [Nat.zero_add]; exact cp_cell h (by simpa using hv)
theorem cp_there {w : World} {g t : Nat} {C : Array Value} (h : w.heap[g]? = some (.cells C t (0, 0))) : w.there g 0 C.size := fun j hj => by
  rw [Nat.zero_add]; exact ⟨by simp [World.cell?, h, hj], by simp [World.frozen?, h]⟩
theorem cp_infoS : (Try.prog.info? 122).map (fun i => (i.zero, i.size, i.bytes)) = some (some (.agg #[(.int .i64 0), (.int .i64 0)]), 2, 16) := by kernel_rfl
theorem cp_infoB : (Try.prog.info? 63).map (fun i => (i.zero, i.size, i.bytes)) = some (some (.agg #[(.string ⟨#[]⟩), (.slice none 0 0)]), 2, 40) := by kernel_rfl
theorem cp_infoE : (Try.prog.info? 58).map (fun i => (i.zero, i.size, i.bytes)) = some (some (.agg #[(.string ⟨#[]⟩), (.int .i64 0), (.int .i64 0)]), 3, 32) := by kernel_rfl
theorem cp_infoW : (Try.prog.info? 60).map (fun i => (i.zero, i.size, i.bytes)) = some (some (.agg #[(.string ⟨#[]⟩), (.int .i64 0), (.int .i64 0), (.int .i64 0), (.string ⟨#[]⟩)]), 5, 56) := by kernel_rfl
theorem cp_infoH : (Try.prog.info? 65).map (fun i => (i.zero, i.size, i.bytes)) = some (some (.agg #[(.int .i64 0), (.int .i64 0), (.int .i64 0), (.int .i64 0)]), 4, 32) := by kernel_rfl
def pylonref08_Copy.T9 : Bool × List (List Nat × List Nat) := (true, [([], []), ([0], [0]), ([], []), ([], []), ([2, 3], [2, 3]), ([4], [4]), ([5], [5]), ([], []), ([], []), ([], []), ([8, 9], [8, 9]), ([10], [10]), ([11], [11]), ([7, 12], [7, 12]), ([6, 13], [6, 13]), ([14], [14]), ([1, 15, 13], [1, 15]), ([0, 1, 2, 3, 4, 5, 6, 7, 8, 9, 10, 11, 12, 13, 14, 15, 16], []), ([17, 16, 16, 0, 1, 2, 3, 4, 5, 6, 7, 8, 9, 10, 11, 12, 13, 14, 15, 16], [16, 17])])
def pylonref08_Copy.B9 : List Nat := [0, 1, 0, 0, 12, 28, 60, 0, 0, 0, 768, 1792, 3840, 8064, 16380, 32764, 65535, 131071, 262143]
theorem pylonref08_Copy.tab9 : rtab .any (opsOf Try.f26 9) = pylonref08_Copy.T9 := by kernel_rfl
theorem pylonref08_Copy.bits9 : waitsOk pylonref08_Copy.T9.2 pylonref08_Copy.B9 = true := by kernel_rfl
set_option maxHeartbeats 16000000 in
set_option maxRecDepth 100000 in
theorem pylonref08_Copy.calls (a0_0 : ByteArray) (a0_1 : Int) (a0_2 : Int) (a0_3 : Int) (a0_4 : Int) (a0_5 : Int) (a0_6 : Int) (a0_7 : Int) (a0_8 : Int) (a0_9 : Int) (a0_10 : Int) (a0_11 : Int) (a0_12 : Int) (a0_13 : Int) (a0_14 : Int) (A0_15 : Option Addr) (c0_15 : Nat) (l0_15 : List (S58)) (A0_16 : Option Addr) (c0_16 : Nat) (l0_16 : List (S65)) (A0_17 : Option Addr) (c0_17 : Nat) (l0_17 : List (S60)) (A0_18 : Option Addr) (c0_18 : Nat) (l0_18 : List (S63)) (a0_19 : Int) (a0_20 : Int) (a0_21 : Int) (a0_22 : Int) (a0_23 : Int) (a0_24 : Int) (a0_25 : Int) (a0_26 : Int) (a0_27 : Int) (r1 : ByteArray) (r2 : Int) (r3 : Int) (r4 : Int) (r5 : Int) (r6 : Int) (r7 : Int) (r8 : Int) (r9 : Int) (r10 : Int) (r11 : Int) (r12 : Int) (r13 : Int) (r14 : Int) (r15 : Int) (r16 : List (S58)) (r17 : List (S65)) (r18 : List (S60)) (r19 : List (S63)) (r20 : Int) (r21 : Int) (r22 : Int) (r23 : Int) (r24 : Int) (r25 : Int) (r26 : Int) (r27 : Int) (r28 : Int) (w : World) (hr0_15 : Kd.C k58 w A0_15 l0_15.length l0_15) (hc0_15 : l0_15.length ≤ c0_15) (hr0_16 : Kd.C k65 w A0_16 l0_16.length l0_16) (hc0_16 : l0_16.length ≤ c0_16) (hr0_17 : Kd.C k60 w A0_17 l0_17.length l0_17) (hc0_17 : l0_17.length ≤ c0_17) (hr0_18 : Kd.C k63 w A0_18 l0_18.length l0_18) (hc0_18 : l0_18.length ≤ c0_18) (h : pylonref08_Copy.f a0_0 a0_1 a0_2 a0_3 a0_4 a0_5 a0_6 a0_7 a0_8 a0_9 a0_10 a0_11 a0_12 a0_13 a0_14 l0_15 l0_16 l0_17 l0_18 a0_19 a0_20 a0_21 a0_22 a0_23 a0_24 a0_25 a0_26 a0_27 = some (r1, r2, r3, r4, r5, r6, r7, r8, r9, r10, r11, r12, r13, r14, r15, r16, r17, r18, r19, r20, r21, r22, r23, r24, r25, r26, r27, r28)) :
  Calls Try.prog 26 #[.agg #[.string a0_0, .int .i64 a0_1, .int .i64 a0_2, .int .i64 a0_3, .int .i64 a0_4, .int .i64 a0_5, .int .i64 a0_6, .int .i64 a0_7, .int .i64 a0_8, .int .i64 a0_9, .int .i64 a0_10, .int .i64 a0_11, .int .i64 a0_12, .int .i64 a0_13, .int .i64 a0_14, .slice A0_15 l0_15.length c0_15, .slice A0_16 l0_16.length c0_16, .slice A0_17 l0_17.length c0_17, .slice A0_18 l0_18.length c0_18, .int .i64 a0_19, .int .i64 a0_20, .int .i64 a0_21, .int .i64 a0_22, .int .i64 a0_23, .int .i64 a0_24, .int .i64 a0_25, .int .i64 a0_26, .int .i64 a0_27]] w fun e w' => ∃ v15_ v16_ v17_ v18_ : Value, e = .returned (.agg #[.string r1, .int .i64 r2, .int .i64 r3, .int .i64 r4, .int .i64 r5, .int .i64 r6, .int .i64 r7, .int .i64 r8, .int .i64 r9, .int .i64 r10, .int .i64 r11, .int .i64 r12, .int .i64 r13, .int .i64 r14, .int .i64 r15, v15_, v16_, v17_, v18_, .int .i64 r20, .int .i64 r21, .int .i64 r22, .int .i64 r23, .int .i64 r24, .int .i64 r25, .int .i64 r26, .int .i64 r27, .int .i64 r28]) ∧ Kd.R k58 58 w' w.heap.size (fun _ => True) v15_ r16 ∧ Kd.R k65 65 w' w.heap.size (fun _ => True) v16_ r17 ∧ Kd.R k60 60 w' w.heap.size (fun _ => True) v17_ r18 ∧ Kd.S k63 63 w' w.heap.size (fun _ => True) v18_ r19 ∧ Below w.heap.size w w' := by
  unfold pylonref08_Copy.f at h
  split at h
  case isFalse => exact absurd h (by simp)
  case isTrue hfit =>
  simp only [Option.some.injEq, Prod.mk.injEq] at h
  obtain ⟨rfl, rfl, rfl, rfl, rfl, rfl, rfl, rfl, rfl, rfl, rfl, rfl, rfl, rfl, rfl, rfl, rfl, rfl, rfl, rfl, rfl, rfl, rfl, rfl, rfl, rfl, rfl, rfl⟩ := h
  obtain ⟨q15, q16, q17, q18, q19⟩ := hfit
  have HR0_15 := AX hr0_15
  have HC0_15 := AX hc0_15
  have HR0_16 := AX hr0_16
  have HC0_16 := AX hc0_16
  have HR0_17 := AX hr0_17
  have HC0_17 := AX hc0_17
  have HR0_18 := AX hr0_18
  have HC0_18 := AX hc0_18
  have HQ19 := AX q19
  clear hr0_15 hc0_15 hr0_16 hc0_16 hr0_17 hc0_17 hr0_18 hc0_18 q19
  have HB := AX (Below.refl w.heap.size w)
  go_enter Try.func26, Try.ntmps26
  go_upto_region 1 with (first | ((with_reducible refine gate_dst (N := 1) rfl ?_); refine bx 1 #[.string a0_0, .int .i64 a0_1, .int .i64 a0_2, .int .i64 a0_3, .int .i64 a0_4, .int .i64 a0_5, .int .i64 a0_6, .int .i64 a0_7, .int .i64 a0_8, .int .i64 a0_9, .int .i64 a0_10, .int .i64 a0_11, .int .i64 a0_12, .int .i64 a0_13, .int .i64 a0_14, .slice A0_15 l0_15.length c0_15, .slice A0_16 l0_16.length c0_16, .slice A0_17 l0_17.length c0_17, .slice A0_18 l0_18.length c0_18, .int .i64 a0_19, .int .i64 a0_20, .int .i64 a0_21, .int .i64 a0_22, .int .i64 a0_23, .int .i64 a0_24, .int .i64 a0_25, .int .i64 a0_26, .int .i64 a0_27] 47 ?_; intro gb448 hg w5 hbox hb; have BK448 := AX hbox; have GW448 := gwl (w := w) hg bw; replace HB := AX (below_step bw hb); clear hb hbox hg) | ((with_reducible refine gate_dst (N := 2) rfl ?_); refine bx 2 #[.string (⟨#[]⟩ : ByteArray), .int .i64 0, .int .i64 0, .int .i64 0, .int .i64 0, .int .i64 0, .int .i64 0, .int .i64 0, .int .i64 0, .int .i64 0, .int .i64 0, .int .i64 0, .int .i64 0, .int .i64 0, .int .i64 0, .slice none 0 0, .slice none 0 0, .slice none 0 0, .slice none 0 0, .int .i64 0, .int .i64 0, .int .i64 0, .int .i64 0, .int .i64 0, .int .i64 0, .int .i64 0, .int .i64 0, .int .i64 0] 47 ?_; intro gb449 hg w6 hbox hb; have BK449 := AX hbox; have GW449 := gwl (w := w) hg bw; have NB448_449 := nbl hg (bkn BK448); have NB449_448 := nbg hg (bkn BK448); replace BK448 := AX (bkb BK448 hb); replace HB := AX (below_step bw hb); clear hb hbox hg))
  (try simp only [Act.put, List.setIfInBounds_toArray, List.set_cons_zero, List.set_cons_succ])
  obtain ⟨C0, hC0⟩ : ∃ C : Array Value, (#[.string a0_0, .int .i64 a0_1, .int .i64 a0_2, .int .i64 a0_3, .int .i64 a0_4, .int .i64 a0_5, .int .i64 a0_6, .int .i64 a0_7, .int .i64 a0_8, .int .i64 a0_9, .int .i64 a0_10, .int .i64 a0_11, .int .i64 a0_12, .int .i64 a0_13, .int .i64 a0_14, .slice A0_15 l0_15.length c0_15, .slice A0_16 l0_16.length c0_16, .slice A0_17 l0_17.length c0_17, .slice A0_18 l0_18.length c0_18, .int .i64 a0_19, .int .i64 a0_20, .int .i64 a0_21, .int .i64 a0_22, .int .i64 a0_23, .int .i64 a0_24, .int .i64 a0_25, .int .i64 a0_26, .int .i64 a0_27] : Array Value) = C := ⟨_, rfl⟩
  obtain ⟨Z, hZ⟩ : ∃ C : Array Value, (#[.string (⟨#[]⟩ : ByteArray), .int .i64 0, .int .i64 0, .int .i64 0, .int .i64 0, .int .i64 0, .int .i64 0, .int .i64 0, .int .i64 0, .int .i64 0, .int .i64 0, .int .i64 0, .int .i64 0, .int .i64 0, .int .i64 0, .slice none 0 0, .slice none 0 0, .slice none 0 0, .slice none 0 0, .int .i64 0, .int .i64 0, .int .i64 0, .int .i64 0, .int .i64 0, .int .i64 0, .int .i64 0, .int .i64 0, .int .i64 0] : Array Value) = C := ⟨_, rfl⟩
  rw [hC0] at BK448
  rw [hZ] at BK449
  have HC0 := AX hC0
  have HZ := AX (show Z.size = 28 by rw [← hZ]; rfl)
  clear hC0 hZ
  have HCJ := AX (show (C0)[15]? = some (.slice A0_15 l0_15.length c0_15) by simp [← HC0.out])
  go_cut [] (fun wc => ∃ (A15 : Option Addr) (c15 : Nat), Aside0 (Kd.R k58 58 wc w.heap.size (fun _ => True) (.slice A15 l0_15.length c15) l0_15) ∧ Aside0 (wc.heap[gb448]? = some (.cells (C0.setIfInBounds 15 (.slice A15 l0_15.length c15)) 47 (0, 0))) ∧ Aside0 (wc.heap[gb449]? = some (.cells Z 47 (0, 0))) ∧ Aside0 (Below w.heap.size w wc))
  case first =>
    go_wp2_with (first | ((with_reducible refine gate_dst (N := 5) rfl ?_); refine Kd.R_lit k58 (w0 := w6) w6.heap.size 58 ?hg (N := 5) ?hd (xs := ([] : List S58)) (inner := []) (ok := fun _ => True) (okp := fun _ => True) ?hr ?hp (fun _ hk => hk) trivial (Below.refl _ _) (Nat.le_refl _) (by simp) ?_; (case hd => rfl); (case hg => rfl); (case hr => first | (go_simp; done) | (go_simp; rfl)); (case hp => exact (Reps.none _ _)); intro v2 w2 ho hb hg_ hnew_; have HL := AX (And.intro ho hb); have e1 := cp_cell (cp_at BK448.out hb) HCJ.out; clear ho hb hg_ hnew_) | ((with_reducible refine gate_builtin (b := .append) (xs := #[.tmp 5, .tmp 7]) rfl ?_); at_builtin; refine Kd.R_append_rows k58 (w0 := w6) w6.heap.size rfl (.tmp 5) (.tmp 7) 36 58 (.agg #[(.string ⟨#[]⟩), (.int .i64 0), (.int .i64 0)]) 32 rfl Try.underlying36 cp_infoE rfl (by decide) (by omega) v2 ([] : List S58) l0_15 _ _ _ (fun _ => True) (fun _ => False) rfl rfl ?aO ?aR (fun _ _ h => h) (fun _ h => h.elim) ?aF ?aB ?aS ?aL ?_; (case aR => exact Kd.C_below HR0_15.out (HB.out.trans (HL.out.2.mono HB.out.size))); (case aB => exact HL.out.2); (case aF => exact (fun _ _ => trivial)); (case aO => exact HL.out.1); (case aS => exact HL.out.2.size); (case aL => simp; omega); intro v3 w3 ho hb hg hat; rw [List.nil_append] at ho; obtain ⟨An, cn, ea⟩ := Kd.R_slice ho; subst ea; have HN := AX (Kd.R_lower ho HB.out.size); have BK1 := AX (cp_at BK448.out hb); have BK2 := AX (cp_at BK449.out hb); have HBn := AX (HB.out.trans (hb.mono HB.out.size)); have e2 := cp_cell BK1.out HCJ.out; have f2 := blk_frozen BK1.out 15; clear ho hb hg hat))
    go_meet
    case rel => exact ⟨An, cn, AX (Kd.R_mono (Kd.R_far (p := ⟨gb448, 15, none⟩) (Kd.R_types HN.out BK1.out (by decide)) (fun _ hk => hk.2) _) (fun _ _ => trivial)), AX (cp_put BK1.out), AX (cp_far NB449_448.out BK2.out), AX (HBn.out.setCell GW448.out _)⟩
  case rest =>
    clear BK448 BK449 HB HCJ
    obtain ⟨A15, c15, HO15, BK448, BK449, HB⟩ := hcut
    obtain ⟨w15, hw⟩ : ∃ x : World, x = wc := ⟨_, rfl⟩
    subst hw
    have HCJ := AX (show ((C0.setIfInBounds 15 (.slice A15 l0_15.length c15)))[16]? = some (.slice A0_16 l0_16.length c0_16) by simp [← HC0.out])
    go_upto_region 2 with (fail)
    go_cut [] (fun wc => ∃ (A16 : Option Addr) (c16 : Nat), Aside0 (Kd.R k65 65 wc w.heap.size (fun _ => True) (.slice A16 l0_16.length c16) l0_16) ∧ Aside0 (Kd.R k58 58 wc w.heap.size (fun _ => True) (.slice A15 l0_15.length c15) l0_15) ∧ Aside0 (wc.heap[gb448]? = some (.cells ((C0.setIfInBounds 15 (.slice A15 l0_15.length c15)).setIfInBounds 16 (.slice A16 l0_16.length c16)) 47 (0, 0))) ∧ Aside0 (wc.heap[gb449]? = some (.cells Z 47 (0, 0))) ∧ Aside0 (Below w.heap.size w wc))
    case first =>
      go_wp2_with (first | ((with_reducible refine gate_dst (N := 10) rfl ?_); refine Kd.R_lit k65 (w0 := w15) w15.heap.size 65 ?hg (N := 10) ?hd (xs := ([] : List S65)) (inner := []) (ok := fun _ => True) (okp := fun _ => True) ?hr ?hp (fun _ hk => hk) trivial (Below.refl _ _) (Nat.le_refl _) (by simp) ?_; (case hd => rfl); (case hg => rfl); (case hr => first | (go_simp; done) | (go_simp; rfl)); (case hp => exact (Reps.none _ _)); intro v2 w2 ho hb hg_ hnew_; have HL := AX (And.intro ho hb); have e1 := cp_cell (cp_at BK448.out hb) HCJ.out; clear ho hb hg_ hnew_) | ((with_reducible refine gate_builtin (b := .append) (xs := #[.tmp 10, .tmp 12]) rfl ?_); at_builtin; refine Kd.R_append_rows k65 (w0 := w15) w15.heap.size rfl (.tmp 10) (.tmp 12) 22 65 (.agg #[(.int .i64 0), (.int .i64 0), (.int .i64 0), (.int .i64 0)]) 32 rfl Try.underlying22 cp_infoH rfl (by decide) (by omega) v2 ([] : List S65) l0_16 _ _ _ (fun _ => True) (fun _ => False) rfl rfl ?aO ?aR (fun _ _ h => h) (fun _ h => h.elim) ?aF ?aB ?aS ?aL ?_; (case aR => exact Kd.C_below HR0_16.out (HB.out.trans (HL.out.2.mono HB.out.size))); (case aB => exact HL.out.2); (case aF => exact (fun _ _ => trivial)); (case aO => exact HL.out.1); (case aS => exact HL.out.2.size); (case aL => simp; omega); intro v3 w3 ho hb hg hat; rw [List.nil_append] at ho; obtain ⟨An, cn, ea⟩ := Kd.R_slice ho; subst ea; have HN := AX (Kd.R_lower ho HB.out.size); have BK1 := AX (cp_at BK448.out hb); have BK2 := AX (cp_at BK449.out hb); have HBn := AX (HB.out.trans (hb.mono HB.out.size)); have HO15x := AX (Kd.R_below HO15.out hb); have e2 := cp_cell BK1.out HCJ.out; have f2 := blk_frozen BK1.out 16; clear ho hb hg hat))
      go_meet
      case rel => exact ⟨An, cn, AX (Kd.R_mono (Kd.R_far (p := ⟨gb448, 16, none⟩) (Kd.R_types HN.out BK1.out (by decide)) (fun _ hk => hk.2) _) (fun _ _ => trivial)), AX (Kd.R_mono (Kd.R_far (p := ⟨gb448, 16, none⟩) (Kd.R_types HO15x.out BK1.out (by decide)) (fun _ hk => hk.2) _) (fun _ _ => trivial)), AX (cp_put BK1.out), AX (cp_far NB449_448.out BK2.out), AX (HBn.out.setCell GW448.out _)⟩
    case rest =>
      clear BK448 BK449 HB HCJ HO15
      obtain ⟨A16, c16, HO16, HO15, BK448, BK449, HB⟩ := hcut
      obtain ⟨w16, hw⟩ : ∃ x : World, x = wc := ⟨_, rfl⟩
      subst hw
      have HCJ := AX (show (((C0.setIfInBounds 15 (.slice A15 l0_15.length c15)).setIfInBounds 16 (.slice A16 l0_16.length c16)))[17]? = some (.slice A0_17 l0_17.length c0_17) by simp [← HC0.out])
      go_upto_region 3 with (fail)
      go_cut [] (fun wc => ∃ (A17 : Option Addr) (c17 : Nat), Aside0 (Kd.R k60 60 wc w.heap.size (fun _ => True) (.slice A17 l0_17.length c17) l0_17) ∧ Aside0 (Kd.R k58 58 wc w.heap.size (fun _ => True) (.slice A15 l0_15.length c15) l0_15) ∧ Aside0 (Kd.R k65 65 wc w.heap.size (fun _ => True) (.slice A16 l0_16.length c16) l0_16) ∧ Aside0 (wc.heap[gb448]? = some (.cells (((C0.setIfInBounds 15 (.slice A15 l0_15.length c15)).setIfInBounds 16 (.slice A16 l0_16.length c16)).setIfInBounds 17 (.slice A17 l0_17.length c17)) 47 (0, 0))) ∧ Aside0 (wc.heap[gb449]? = some (.cells Z 47 (0, 0))) ∧ Aside0 (Below w.heap.size w wc))
      case first =>
        go_wp2_with (first | ((with_reducible refine gate_dst (N := 15) rfl ?_); refine Kd.R_lit k60 (w0 := w16) w16.heap.size 60 ?hg (N := 15) ?hd (xs := ([] : List S60)) (inner := []) (ok := fun _ => True) (okp := fun _ => True) ?hr ?hp (fun _ hk => hk) trivial (Below.refl _ _) (Nat.le_refl _) (by simp) ?_; (case hd => rfl); (case hg => rfl); (case hr => first | (go_simp; done) | (go_simp; rfl)); (case hp => exact (Reps.none _ _)); intro v2 w2 ho hb hg_ hnew_; have HL := AX (And.intro ho hb); have e1 := cp_cell (cp_at BK448.out hb) HCJ.out; clear ho hb hg_ hnew_) | ((with_reducible refine gate_builtin (b := .append) (xs := #[.tmp 15, .tmp 17]) rfl ?_); at_builtin; refine Kd.R_append_rows k60 (w0 := w16) w16.heap.size rfl (.tmp 15) (.tmp 17) 33 60 (.agg #[(.string ⟨#[]⟩), (.int .i64 0), (.int .i64 0), (.int .i64 0), (.string ⟨#[]⟩)]) 56 rfl Try.underlying33 cp_infoW rfl (by decide) (by omega) v2 ([] : List S60) l0_17 _ _ _ (fun _ => True) (fun _ => False) rfl rfl ?aO ?aR (fun _ _ h => h) (fun _ h => h.elim) ?aF ?aB ?aS ?aL ?_; (case aR => exact Kd.C_below HR0_17.out (HB.out.trans (HL.out.2.mono HB.out.size))); (case aB => exact HL.out.2); (case aF => exact (fun _ _ => trivial)); (case aO => exact HL.out.1); (case aS => exact HL.out.2.size); (case aL => simp; omega); intro v3 w3 ho hb hg hat; rw [List.nil_append] at ho; obtain ⟨An, cn, ea⟩ := Kd.R_slice ho; subst ea; have HN := AX (Kd.R_lower ho HB.out.size); have BK1 := AX (cp_at BK448.out hb); have BK2 := AX (cp_at BK449.out hb); have HBn := AX (HB.out.trans (hb.mono HB.out.size)); have HO15x := AX (Kd.R_below HO15.out hb); have HO16x := AX (Kd.R_below HO16.out hb); have e2 := cp_cell BK1.out HCJ.out; have f2 := blk_frozen BK1.out 17; clear ho hb hg hat))
        go_meet
        case rel => exact ⟨An, cn, AX (Kd.R_mono (Kd.R_far (p := ⟨gb448, 17, none⟩) (Kd.R_types HN.out BK1.out (by decide)) (fun _ hk => hk.2) _) (fun _ _ => trivial)), AX (Kd.R_mono (Kd.R_far (p := ⟨gb448, 17, none⟩) (Kd.R_types HO15x.out BK1.out (by decide)) (fun _ hk => hk.2) _) (fun _ _ => trivial)), AX (Kd.R_mono (Kd.R_far (p := ⟨gb448, 17, none⟩) (Kd.R_types HO16x.out BK1.out (by decide)) (fun _ hk => hk.2) _) (fun _ _ => trivial)), AX (cp_put BK1.out), AX (cp_far NB449_448.out BK2.out), AX (HBn.out.setCell GW448.out _)⟩
      case rest =>
        clear BK448 BK449 HB HCJ HO15 HO16
        obtain ⟨A17, c17, HO17, HO15, HO16, BK448, BK449, HB⟩ := hcut
        obtain ⟨w17, hw⟩ : ∃ x : World, x = wc := ⟨_, rfl⟩
        subst hw
        have HCJ := AX (show ((((C0.setIfInBounds 15 (.slice A15 l0_15.length c15)).setIfInBounds 16 (.slice A16 l0_16.length c16)).setIfInBounds 17 (.slice A17 l0_17.length c17)))[18]? = some (.slice A0_18 l0_18.length c0_18) by simp [← HC0.out])
        have HCS := AX (show ((((C0.setIfInBounds 15 (.slice A15 l0_15.length c15)).setIfInBounds 16 (.slice A16 l0_16.length c16)).setIfInBounds 17 (.slice A17 l0_17.length c17))).size = 28 by simp [← HC0.out])
        obtain ⟨C3, hC3⟩ : ∃ X, (((C0.setIfInBounds 15 (.slice A15 l0_15.length c15)).setIfInBounds 16 (.slice A16 l0_16.length c16)).setIfInBounds 17 (.slice A17 l0_17.length c17)) = X := ⟨_, rfl⟩
        rw [hC3] at BK448 HCJ HCS
        have HC3 := AX hC3
        clear hC3
        have e1 := cp_cell BK448.out HCJ.out
        have f1 := blk_frozen BK448.out 18
        go_wp2
        have HO_449015 := AX (Kd.R_mono (Kd.R_far (p := ⟨gb448, 18, none⟩) (Kd.R_types HO15.out BK448.out (by decide)) (fun _ hk => hk.2) (.slice none 0 0)) (ok' := fun _ => True) (fun _ _ => trivial))
        have HO_449016 := AX (Kd.R_mono (ok' := fun _ => True) (Kd.R_far (p := ⟨gb448, 18, none⟩) (Kd.R_types HO16.out BK448.out (by decide)) (fun _ hk => hk.2) (.slice none 0 0)) (fun _ _ => trivial))
        have HO_449017 := AX (Kd.R_mono (ok' := fun _ => True) (Kd.R_far (p := ⟨gb448, 18, none⟩) (Kd.R_types HO17.out BK448.out (by decide)) (fun _ hk => hk.2) (.slice none 0 0)) (fun _ _ => trivial))
        have HP := AX (And.intro (cp_put (v := .slice none 0 0) (j := 18) BK448.out) (And.intro (cp_far (j := 18) (v := .slice none 0 0) NB449_448.out BK449.out) (HB.out.setCell (p := ⟨gb448, 18, none⟩) GW448.out (.slice none 0 0))))
        clear HO15 HO16 HO17 BK448 BK449 HB HCJ e1 f1
        go_loopw [25] (fun v25 wr => ∃ (x25_1 : Int) (u449018 : Value), v25 = .int .i64 x25_1 ∧ 0 ≤ x25_1 ∧ x25_1 ≤ l0_18.length ∧ Aside0 (Kd.R k58 58 wr w.heap.size (fun _ => True) (.slice A15 l0_15.length c15) l0_15) ∧ Aside0 (Kd.R k65 65 wr w.heap.size (fun _ => True) (.slice A16 l0_16.length c16) l0_16) ∧ Aside0 (Kd.R k60 60 wr w.heap.size (fun _ => True) (.slice A17 l0_17.length c17) l0_17) ∧ Aside0 (Kd.S k63 63 wr w.heap.size (fun _ => True) u449018 (l0_18.take x25_1.toNat)) ∧ Aside0 (wr.heap[gb448]? = some (.cells (C3.setIfInBounds 18 u449018) 47 (0, 0))) ∧ Aside0 (wr.heap[gb449]? = some (.cells Z 47 (0, 0))) ∧ Aside0 (Below w.heap.size w wr)) (fun v25 _ => l0_18.length - (intOf v25).toNat)
        case atStart => exact ⟨0, .slice none 0 0, rfl, by omega, by omega, HO_449015, HO_449016, HO_449017, AX (by exact Kd.S_nil _ _ _ _ _), AX HP.out.1, AX HP.out.2.1, AX HP.out.2.2⟩
        case round =>
          clear HO_449015 HO_449016 HO_449017 HP
          obtain ⟨x25_1, u449018, rfl, hx0, hx1, HO_449015, HO_449016, HO_449017, HO_449018, BK448, BK449, HB⟩ := hrel
          by_cases hlt : x25_1 < (l0_18.length : Int)
          · have HC18 := AX (show (C3.setIfInBounds 18 u449018)[18]? = some u449018 by simp [HCS.out])
            obtain ⟨C, hC⟩ : ∃ X, C3.setIfInBounds 18 u449018 = X := ⟨_, rfl⟩
            rw [hC] at BK448 HC18
            have HCC := AX hC
            clear hC
            have c26b0 : decide (x25_1 < (l0_18.length : Int)) = true := decide_eq_true hlt
            have c27b0 : decide (0 ≤ x25_1) = true := decide_eq_true hx0
            obtain ⟨x449018_1, hxs⟩ : ∃ y_ : List S63, y_ = l0_18.take x25_1.toNat := ⟨_, rfl⟩
            rw [← hxs] at HO_449018
            have hmem : rd_T63 l0_18 x25_1 ∈ l0_18 := by
              have e : rd_T63 l0_18 x25_1 = l0_18[x25_1.toNat]'(by omega) := by simp [rd_T63, show x25_1.toNat < l0_18.length by omega]
              rw [e]; exact List.getElem_mem _
            have LMc29 := AX (show ([] : List S122).length + ((rd_T63 l0_18 x25_1).f1).length < 8796093022208 by simpa using HQ19.out _ hmem)
            have LMc30 := AX (show x449018_1.length < 3518437208883 by rw [hxs]; simp; omega)
            have hnx : x449018_1 ++ [rd_T63 l0_18 x25_1] = l0_18.take (x25_1 + 1).toNat := by
              rw [hxs, show (x25_1 + 1).toNat = x25_1.toNat + 1 by omega, List.take_add_one]
              have hi : x25_1.toNat < l0_18.length := by omega
              simp [rd_T63, hi]
            have HNX := AX hnx
            clear hnx hmem hxs
            obtain ⟨y469, hy469⟩ : ∃ y_ : List S122, y_ = [] := ⟨_, rfl⟩
            have Ny469 := AX hy469
            rw [← hy469] at LMc29
            clear hy469
            obtain ⟨y473, hy473⟩ : ∃ y_ : List S122, y_ = (y469 ++ ((rd_T63 l0_18 x25_1).f1)) := ⟨_, rfl⟩
            have Ny473 := AX hy473
            clear hy473
            obtain ⟨y476, hy476⟩ : ∃ y_ : List S63, y_ = (x449018_1 ++ [(⟨(rd_T63 l0_18 x25_1).f0, y473⟩ : S63)]) := ⟨_, rfl⟩
            have Ny476 := AX hy476
            clear hy476
            go_upto_region 9 with (fail)
            have n0_ := AX (Kd.R_drew HO_449015.out)
            have n1_ := AX (Kd.R_drew HO_449016.out)
            have n2_ := AX (Kd.R_drew HO_449017.out)
            have n3_ := AX (Kd.S_drew HO_449018.out)
            have n4_ := AX (blk_drew BK448.out)
            have n5_ := AX (blk_drew BK449.out)
            have n6_ := AX (below_drew1 HB.out)
            clear HO_449015
            clear HO_449016
            clear HO_449017
            clear HO_449018
            clear BK448
            clear BK449
            clear HB
            have HO_449015 := n0_
            have HO_449016 := n1_
            have HO_449017 := n2_
            have HO_449018 := n3_
            have BK448 := n4_
            have BK449 := n5_
            have HB := n6_
            clear n0_ n1_ n2_ n3_ n4_ n5_ n6_
            have p468 : 0 ≤ (x25_1 : Int) := of_decide_eq_true (by first | (with_reducible assumption) | assumption)
            have q468 : x25_1 < (l0_18.length : Int) := of_decide_eq_true (by first | (with_reducible assumption) | assumption)
            obtain ⟨ad468, A468_1, c468_1, e468, hx468_0, hx468_1, hl468_1, hi468_1⟩ := at_T63 HR0_18.out x25_1 p468 q468
            have hw468_1 := hx468_1
            have hw468_0 := hx468_0
            cases e468
            replace hx468_0 := bcl HB hx468_0
            replace hx468_1 := bcl HB hx468_1
            have HR468_1 := AX hi468_1
            have HC468_1 := AX hl468_1
            clear hi468_1 hl468_1
            replace p468 := eq_true p468
            replace q468 := eq_true q468
            have p472 : 0 ≤ (x25_1 : Int) := of_decide_eq_true (by first | (with_reducible assumption) | assumption)
            have q472 : x25_1 < (l0_18.length : Int) := of_decide_eq_true (by first | (with_reducible assumption) | assumption)
            obtain ⟨ad472, A472_1, c472_1, e472, hx472_0, hx472_1, hl472_1, hi472_1⟩ := at_T63 HR0_18.out x25_1 p472 q472
            have hw472_1 := hx472_1
            have hw472_0 := hx472_0
            obtain rfl : ad468 = ad472 := (by injection e472)
            replace hx472_0 := bcl HB hx472_0
            replace hx472_1 := bcl HB hx472_1
            have HR472_1 := AX hi472_1
            have HC472_1 := AX hl472_1
            clear hi472_1 hl472_1
            replace p472 := eq_true p472
            replace q472 := eq_true q472
            have ea_ := Option.some.inj (hx468_1.symm.trans hx472_1)
            injection ea_ with ea_ en_ ec_
            subst ea_
            subst ec_
            clear en_
            refine start_ (n := 19) (S := fun w' => w'.cell? ⟨gb448, 18, none⟩ = some (u449018) ∧ w'.cell? (ad468.add ((x25_1).toNat * 2)) = some (.string ((rd_T63 l0_18 x25_1).f0)) ∧ w'.cell? ⟨(ad468.add ((x25_1).toNat * 2)).block, (ad468.add ((x25_1).toNat * 2)).off + 1, none⟩ = some (.slice A468_1 ((rd_T63 l0_18 x25_1).f1).length c468_1) ∧ w'.cell? (ad468.add ((x25_1).toNat * 2)) = some (.string ((rd_T63 l0_18 x25_1).f0)) ∧ w'.cell? ⟨(ad468.add ((x25_1).toNat * 2)).block, (ad468.add ((x25_1).toNat * 2)).off + 1, none⟩ = some (.slice A468_1 ((rd_T63 l0_18 x25_1).f1).length c468_1)) (ds := [18]) #[false, false, false, false, false, false, false, false, false, false, false, false, false, false, false, false, false, false, false] (by kernel_rfl) rfl rfl ⟨cp_cell BK448.out HC18.out, (bcl HB hw468_0), (bcl HB hw468_1), (bcl HB hw472_0), (bcl HB hw472_1)⟩ (fun hHeld => ?_); refine with_tabW pylonref08_Copy.tab9 pylonref08_Copy.bits9 (fun HT_ HW_ => ?_)
            generalize wr.drew = w31 at HO_449015 HO_449016 HO_449017 HO_449018 BK448 BK449 HB HR468_1 HR472_1 hx468_0 hx468_1 hx472_0 hx472_1 hHeld ⊢
            refine pure_ (i := 0) (N := some 28) (v := ?_) (a' := ?_) #[true, false, false, false, false, false, false, false, false, false, false, false, false, false, false, false, false, false, false] rfl rfl (any_of HT_.out (by kernel_rfl)) (fun _ _ _ h => h) (Or.inl ⟨by rfl, ?_⟩) ?_ ?_
            rotate_left
            ·intro w'
             go_simp
             with_reducible rfl
            rotate_left
            ·simp only [Act.put, List.setIfInBounds_toArray, List.set_cons_zero, List.set_cons_succ, i64_w, i32_w]
             rfl
            refine pure_ (i := 2) (N := some 30) (v := ?_) (a' := ?_) #[true, false, true, false, false, false, false, false, false, false, false, false, false, false, false, false, false, false, false] rfl rfl (any_of HT_.out (by kernel_rfl)) (fun _ _ _ h => h) (Or.inl ⟨by rfl, ?_⟩) ?_ ?_
            rotate_left
            ·intro w'
             go_simp
             with_reducible rfl
            rotate_left
            ·simp only [Act.put, List.setIfInBounds_toArray, List.set_cons_zero, List.set_cons_succ, i64_w, i32_w]
             rfl
            refine pure_ (i := 3) (N := some 31) (v := ?_) (a' := ?_) #[true, false, true, true, false, false, false, false, false, false, false, false, false, false, false, false, false, false, false] rfl rfl (any_of HT_.out (by kernel_rfl)) (fun _ _ _ h => h) (Or.inl ⟨by rfl, ?_⟩) ?_ ?_
            rotate_left
            ·intro w'
             go_simp
             with_reducible rfl
            rotate_left
            ·simp only [Act.put, List.setIfInBounds_toArray, List.set_cons_zero, List.set_cons_succ, i64_w, i32_w]
             rfl
            refine pure_ (i := 4) (N := some 32) (v := ?_) (a' := ?_) #[true, false, true, true, true, false, false, false, false, false, false, false, false, false, false, false, false, false, false] rfl rfl (any_of HT_.out (by kernel_rfl)) (fun _ _ _ h => h) (Or.inl ⟨by rfl, ?_⟩) ?_ ?_
            rotate_left
            ·intro w'
             go_simp
             with_reducible rfl
            rotate_left
            ·simp only [Act.put, List.setIfInBounds_toArray, List.set_cons_zero, List.set_cons_succ, i64_w, i32_w]
             rfl
            refine pure_ (i := 5) (N := some 33) (v := ?_) (a' := ?_) #[true, false, true, true, true, true, false, false, false, false, false, false, false, false, false, false, false, false, false] rfl rfl (any_of HT_.out (by kernel_rfl)) (fun _ _ _ h => h) (Or.inl ⟨by rfl, ?_⟩) ?_ ?_
            rotate_left
            ·intro w'
             go_simp
             with_reducible rfl
            rotate_left
            ·simp only [Act.put, List.setIfInBounds_toArray, List.set_cons_zero, List.set_cons_succ, i64_w, i32_w]
             rfl
            refine pure_ (i := 8) (N := some 36) (v := ?_) (a' := ?_) #[true, false, true, true, true, true, false, false, true, false, false, false, false, false, false, false, false, false, false] rfl rfl (any_of HT_.out (by kernel_rfl)) (fun _ _ _ h => h) (Or.inl ⟨by rfl, ?_⟩) ?_ ?_
            rotate_left
            ·intro w'
             go_simp
             with_reducible rfl
            rotate_left
            ·simp only [Act.put, List.setIfInBounds_toArray, List.set_cons_zero, List.set_cons_succ, i64_w, i32_w]
             rfl
            refine pure_ (i := 9) (N := some 37) (v := ?_) (a' := ?_) #[true, false, true, true, true, true, false, false, true, true, false, false, false, false, false, false, false, false, false] rfl rfl (any_of HT_.out (by kernel_rfl)) (fun _ _ _ h => h) (Or.inl ⟨by rfl, ?_⟩) ?_ ?_
            rotate_left
            ·intro w'
             go_simp
             with_reducible rfl
            rotate_left
            ·simp only [Act.put, List.setIfInBounds_toArray, List.set_cons_zero, List.set_cons_succ, i64_w, i32_w]
             rfl
            refine pure_ (i := 10) (N := some 38) (v := ?_) (a' := ?_) #[true, false, true, true, true, true, false, false, true, true, true, false, false, false, false, false, false, false, false] rfl rfl (any_of HT_.out (by kernel_rfl)) (fun _ _ _ h => h) (Or.inl ⟨by rfl, ?_⟩) ?_ ?_
            rotate_left
            ·intro w'
             go_simp
             with_reducible rfl
            rotate_left
            ·simp only [Act.put, List.setIfInBounds_toArray, List.set_cons_zero, List.set_cons_succ, i64_w, i32_w]
             rfl
            refine pure_ (i := 11) (N := some 39) (v := ?_) (a' := ?_) #[true, false, true, true, true, true, false, false, true, true, true, true, false, false, false, false, false, false, false] rfl rfl (any_of HT_.out (by kernel_rfl)) (fun _ _ _ h => h) (Or.inl ⟨by rfl, ?_⟩) ?_ ?_
            rotate_left
            ·intro w'
             go_simp
             with_reducible rfl
            rotate_left
            ·simp only [Act.put, List.setIfInBounds_toArray, List.set_cons_zero, List.set_cons_succ, i64_w, i32_w]
             rfl
            refine take_ (i := 1) (N := some 29) (v := ?_) (a' := ?_) #[true, true, true, true, true, true, false, false, true, true, true, true, false, false, false, false, false, false, false] rfl rfl (take_ofW HT_.out HW_.out (by kernel_rfl)) (fun _ _ _ h => h) (Or.inl ⟨by rfl, ?_⟩) hHeld ?_ ?_
            rotate_left
            ·rintro w' ⟨s0, s1, s2, s3, s4⟩
             go_simp
             with_reducible rfl
            rotate_left
            ·simp only [Act.put, List.setIfInBounds_toArray, List.set_cons_zero, List.set_cons_succ, i64_w, i32_w]
             rfl
            refine take_ (i := 6) (N := some 34) (v := ?_) (a' := ?_) #[true, true, true, true, true, true, true, false, true, true, true, true, false, false, false, false, false, false, false] rfl rfl (take_ofW HT_.out HW_.out (by kernel_rfl)) (fun _ _ _ h => h) (Or.inl ⟨by rfl, ?_⟩) hHeld ?_ ?_
            rotate_left
            ·rintro w' ⟨s0, s1, s2, s3, s4⟩
             go_simp
             with_reducible rfl
            rotate_left
            ·simp only [Act.put, List.setIfInBounds_toArray, List.set_cons_zero, List.set_cons_succ, i64_w, i32_w]
             rfl
            refine take_ (i := 12) (N := some 40) (v := ?_) (a' := ?_) #[true, true, true, true, true, true, true, false, true, true, true, true, true, false, false, false, false, false, false] rfl rfl (take_ofW HT_.out HW_.out (by kernel_rfl)) (fun _ _ _ h => h) (Or.inl ⟨by rfl, ?_⟩) hHeld ?_ ?_
            rotate_left
            ·rintro w' ⟨s0, s1, s2, s3, s4⟩
             go_simp
             with_reducible rfl
            rotate_left
            ·simp only [Act.put, List.setIfInBounds_toArray, List.set_cons_zero, List.set_cons_succ, i64_w, i32_w]
             rfl
            refine one_ (i := 7) (N := some 35) #[true, true, true, true, true, true, true, true, true, true, true, true, true, false, false, false, false, false, false] rfl rfl (one_of HT_.out (by kernel_rfl)) (by decide) (fun K hK => ?_)
            refine Kd.R_lit_step k122 _ 122 ?hg (N := 35) ?hd (xs := ([] : List (S122))) (inner := []) (ok := fun _ => True) (okp := fun _ => True) ?hr ?hp (fun _ hk => hk) trivial (Below.refl _ _) (Nat.le_refl _) (by simp) ?_; (case hd => rfl); (case hg => rfl); (case hr => first | (go_simp; done) | (go_simp; rfl)); (case hp => exact (Reps.none _ _))
            intro v470 w32 ho33 hb hg_ hnew_
            clear hg_ hnew_
            (first | rw [← Ny469.out] at ho33 | (simp only [Int.reduceToNat] at ho33; rw [← Ny469.out] at ho33))
            have n0_ := AX (Kd.R_below (kr HO_449015) hb)
            have n1_ := AX (Kd.R_below (kr HO_449016) hb)
            have n2_ := AX (Kd.R_below (kr HO_449017) hb)
            have n3_ := AX (Kd.S_elder' (by (with_reducible repeat (first | apply Kd.S_alloc | apply Kd.S_drewN | apply Kd.S_drew)); exact HO_449018.out) (Kd.R_base ho33) hb)
            have n4_ := AX (Kd.R_lower ho33 (below_size bw))
            have n5_ := AX (bkb BK448 hb)
            have n6_ := AX (blk_below (g := gb449) (o := .cells Z 47 (0, 0)) (bkn BK449) hb)
            have n7_ := AX (below_step bw hb)
            clear HO_449015
            clear HO_449016
            clear HO_449017
            clear HO_449018
            clear BK448
            clear BK449
            clear HB
            have HO_449015 := n0_
            have HO_449016 := n1_
            have HO_449017 := n2_
            have HO_449018 := n3_
            have HO471 := n4_
            have BK448 := n5_
            have BK449 := n6_
            have HB := n7_
            clear n0_ n1_ n2_ n3_ n4_ n5_ n6_ n7_
            clear hb ho33
            refine hK.out _ _ ⟨cp_cell BK448.out HC18.out, (bcl HB hw468_0), (bcl HB hw468_1), (bcl HB hw472_0), (bcl HB hw472_1)⟩ (fun hHeld => ?_)
            clear hK K
            refine norm_ (a' := ?_) ?_ ?_
            rotate_left
            ·show Act.put _ (some 35) _ = _
             simp only [Act.put, List.setIfInBounds_toArray, List.set_cons_zero, List.set_cons_succ, i64_w, i32_w]
             rfl
            refine one_ (i := 13) (N := some 41) #[true, true, true, true, true, true, true, true, true, true, true, true, true, true, false, false, false, false, false] rfl rfl (one_of HT_.out (by kernel_rfl)) (by decide) (fun K hK => ?_)
            refine Kd.R_append_rows_step k122 (w0 := w) w.heap.size (by rfl) (.tmp 35) (.tmp 40) 61 122 (.agg #[(.int .i64 0), (.int .i64 0)]) 16 rfl Try.underlying61 cp_infoS rfl (by decide) (by omega) v470 y469 ((rd_T63 l0_18 x25_1).f1) _ _ _ (fun _ => True) (fun _ => False) rfl rfl ?aO ?aR (fun _ _ h => h) (fun _ h => h.elim) ?aF ?aB ?aS ?aL ?_
            (case aR => repeat (first | exact (Kd.C_below HR472_1.out HB.out) | (with_reducible refine Kd.C_alloc ?_ _) | (with_reducible refine Kd.C_drewN ?_ _) | (with_reducible refine Kd.C_drew ?_)))
            (case aB => exact bw)
            (case aF => exact (fun _ _ => trivial))
            (case aO => exact (kr HO471))
            (case aS => exact (below_size bw))
            (case aL => have := LMc29.out; omega)
            intro v474 w34 ho hb hg hat
            rw [← Ny473.out] at ho
            have n0_ := AX (Kd.R_over' (kr HO_449015) (Kd.R_typed (kr HO471)) (by decide) hg)
            have n1_ := AX (Kd.R_over' (kr HO_449016) (Kd.R_typed (kr HO471)) (by decide) hg)
            have n2_ := AX (Kd.R_over' (kr HO_449017) (Kd.R_typed (kr HO471)) (by decide) hg)
            have n3_ := AX (Kd.S_after (ok := (fun _ => True)) (by (with_reducible repeat (first | apply Kd.S_alloc | apply Kd.S_drewN | apply Kd.S_drew)); exact HO_449018.out) hg hat)
            have n4_ := AX (blk_grown (g := gb448) (o := .cells C 47 (0, 0)) (bkn BK448) hg (Kd.R_ne HO471.out BK448.out (by decide)))
            have n5_ := AX (blk_grown (g := gb449) (o := .cells Z 47 (0, 0)) (bkn BK449) hg (Kd.R_ne HO471.out BK449.out (by decide)))
            have n6_ := AX (hb)
            have n7_ := AX (ho)
            clear HO_449015
            clear HO_449016
            clear HO_449017
            clear HO_449018
            clear BK448
            clear BK449
            clear HB
            clear HO471
            have HO_449015 := n0_
            have HO_449016 := n1_
            have HO_449017 := n2_
            have HO_449018 := n3_
            have BK448 := n4_
            have BK449 := n5_
            have HB := n6_
            have HO475 := n7_
            clear n0_ n1_ n2_ n3_ n4_ n5_ n6_ n7_
            clear ho hb hg hat
            obtain ⟨Ao35, co35, eo35⟩ := Kd.R_slice HO475.out
            (first | subst eo35 | (injection eo35 with f1_ f2_ f3_; have f4_ := f1_.symm; have f5_ := f3_.symm; clear f1_ f2_ f3_; subst f4_; subst f5_))
            refine hK.out _ _ ⟨cp_cell BK448.out HC18.out, (bcl HB hw468_0), (bcl HB hw468_1), (bcl HB hw472_0), (bcl HB hw472_1)⟩ (fun hHeld => ?_)
            clear hK K
            refine norm_ (a' := ?_) ?_ ?_
            rotate_left
            ·show Act.put _ (some 41) _ = _
             simp only [Act.put, List.setIfInBounds_toArray, List.set_cons_zero, List.set_cons_succ, i64_w, i32_w]
             rfl
            refine pure_ (i := 14) (N := some 42) (v := ?_) (a' := ?_) #[true, true, true, true, true, true, true, true, true, true, true, true, true, true, true, false, false, false, false] rfl rfl (any_of HT_.out (by kernel_rfl)) (fun _ _ _ h => h) (Or.inl ⟨by rfl, ?_⟩) ?_ ?_
            rotate_left
            ·intro w'
             go_simp
             with_reducible rfl
            rotate_left
            ·simp only [Act.put, List.setIfInBounds_toArray, List.set_cons_zero, List.set_cons_succ, i64_w, i32_w]
             rfl
            refine one_ (i := 15) (N := some 43) #[true, true, true, true, true, true, true, true, true, true, true, true, true, true, true, true, false, false, false] rfl rfl (one_of HT_.out (by kernel_rfl)) (by decide) (fun K hK => ?_)
            refine value_ (w1 := ?_) (v := ?_) (by rfl) rfl ?_ ?_
            rotate_left 2
            ·go_simp
             constructor
             ·rfl
             ·rfl
            refine hK.out _ _ ⟨cp_cell (blk_alloc BK448.out _) HC18.out, (World.cell?_alloc_lt _ _ _ (World.block_lt_of_cell? _ _ ((bcl HB hw468_0)))).trans ((bcl HB hw468_0)), (World.cell?_alloc_lt _ _ _ (World.block_lt_of_cell? _ _ ((bcl HB hw468_1)))).trans ((bcl HB hw468_1)), (World.cell?_alloc_lt _ _ _ (World.block_lt_of_cell? _ _ ((bcl HB hw472_0)))).trans ((bcl HB hw472_0)), (World.cell?_alloc_lt _ _ _ (World.block_lt_of_cell? _ _ ((bcl HB hw472_1)))).trans ((bcl HB hw472_1))⟩ (fun hHeld => ?_)
            clear hK K
            refine norm_ (a' := ?_) ?_ ?_
            rotate_left
            ·show Act.put _ (some 43) _ = _
             simp only [Act.put, List.setIfInBounds_toArray, List.set_cons_zero, List.set_cons_succ, i64_w, i32_w]
             rfl
            refine one_ (i := 16) (N := some 44) #[true, true, true, true, true, true, true, true, true, true, true, true, true, true, true, true, true, false, false] rfl rfl (one_of HT_.out (by kernel_rfl)) (by decide) (fun K hK => ?_)
            refine Kd.S_append_step k63 (w0 := w) w.heap.size (by rfl) (.tmp 29) (.tmp 43) 43 63 (.agg #[(.string ⟨#[]⟩), (.slice none 0 0)]) 40 rfl Try.underlying43 cp_infoB rfl (by decide) (by omega) u449018 x449018_1 (⟨(rd_T63 l0_18 x25_1).f0, y473⟩ : S63) [.string ((rd_T63 l0_18 x25_1).f0), .slice Ao35 y473.length co35] (fun _ => True) (fun k_ => some k_ = (.slice Ao35 y473.length co35 : Value).ownBlock) rfl rfl ?aP (fun k_ hk_ => ((Kd.R_mono (ok' := fun k_ => ((fun _ => True)) k_ ∧ some k_ ≠ (u449018 : Value).ownBlock) (Kd.R_apart' (HO475.out) (Kd.S_typed HO_449018.out) (by decide)) (fun k_ hk => ⟨trivial, hk.2⟩))).1 k_ hk_.symm) ?aF ?aO ?aB ?aS ?aL ?_
            (case aP => exact k63_mkM _ _ _ (⟨(rd_T63 l0_18 x25_1).f0, y473⟩ : S63) (Kd.R_mono (Kd.R_tight rfl (Kd.R_mono (ok' := fun k_ => ((fun _ => True)) k_ ∧ some k_ ≠ (u449018 : Value).ownBlock) (Kd.R_apart' (HO475.out) (Kd.S_typed HO_449018.out) (by decide)) (fun k_ hk => ⟨trivial, hk.2⟩))) (fun _ h_ => h_)))
            (case aB => exact bw)
            (case aF => exact (fun _ _ => trivial))
            (case aO => exact (by (with_reducible repeat (first | apply Kd.S_alloc | apply Kd.S_drewN | apply Kd.S_drew)); exact Kd.S_mono HO_449018.out (fun k_ hk => ⟨trivial, fun e_ => hk.2 e_⟩)))
            (case aS => exact (below_size bw))
            (case aL => have := LMc30.out; omega)
            intro v477 w36 ho hb hg hat
            rw [← Ny476.out] at ho
            have n0_ := AX (Kd.R_over' (kr HO_449015) (Kd.S_typed (by (with_reducible repeat (first | apply Kd.S_alloc | apply Kd.S_drewN | apply Kd.S_drew)); exact HO_449018.out)) (by decide) hg)
            have n1_ := AX (Kd.R_over' (kr HO_449016) (Kd.S_typed (by (with_reducible repeat (first | apply Kd.S_alloc | apply Kd.S_drewN | apply Kd.S_drew)); exact HO_449018.out)) (by decide) hg)
            have n2_ := AX (Kd.R_over' (kr HO_449017) (Kd.S_typed (by (with_reducible repeat (first | apply Kd.S_alloc | apply Kd.S_drewN | apply Kd.S_drew)); exact HO_449018.out)) (by decide) hg)
            have n3_ := AX (blk_grown (g := gb448) (o := .cells C 47 (0, 0)) (bkn BK448) hg (Kd.S_ne HO_449018.out BK448.out (by decide)))
            have n4_ := AX (blk_grown (g := gb449) (o := .cells Z 47 (0, 0)) (bkn BK449) hg (Kd.S_ne HO_449018.out BK449.out (by decide)))
            have n5_ := AX (hb)
            have n6_ := AX (ho)
            clear HO_449015
            clear HO_449016
            clear HO_449017
            clear BK448
            clear BK449
            clear HB
            clear HO_449018
            clear HO475
            have HO_449015 := n0_
            have HO_449016 := n1_
            have HO_449017 := n2_
            have BK448 := n3_
            have BK449 := n4_
            have HB := n5_
            have HO478 := n6_
            clear n0_ n1_ n2_ n3_ n4_ n5_ n6_
            clear ho hb hg hat
            obtain ⟨Ao37, co37, eo37⟩ := Kd.S_slice HO478.out
            (first | subst eo37 | (injection eo37 with f1_ f2_ f3_; have f4_ := f1_.symm; have f5_ := f3_.symm; clear f1_ f2_ f3_; subst f4_; subst f5_))
            refine hK.out _ _ ⟨cp_cell BK448.out HC18.out, (bcl HB hw468_0), (bcl HB hw468_1), (bcl HB hw472_0), (bcl HB hw472_1)⟩ (fun hHeld => ?_)
            clear hK K
            refine norm_ (a' := ?_) ?_ ?_
            rotate_left
            ·show Act.put _ (some 44) _ = _
             simp only [Act.put, List.setIfInBounds_toArray, List.set_cons_zero, List.set_cons_succ, i64_w, i32_w]
             rfl
            refine pure_ (i := 17) (N := some 45) (v := ?_) (a' := ?_) #[true, true, true, true, true, true, true, true, true, true, true, true, true, true, true, true, true, true, false] rfl rfl (any_of HT_.out (by kernel_rfl)) (fun _ _ _ h => h) (Or.inl ⟨by rfl, ?_⟩) ?_ ?_
            rotate_left
            ·intro w'
             go_simp
             with_reducible rfl
            rotate_left
            ·simp only [Act.put, List.setIfInBounds_toArray, List.set_cons_zero, List.set_cons_succ, i64_w, i32_w]
             rfl
            refine last_ (i := 18) (N := none) #[true, true, true, true, true, true, true, true, true, true, true, true, true, true, true, true, true, true, true] rfl rfl (one_of HT_.out (by kernel_rfl)) (by decide) (fun K hK => ?_)
            have hs38 : w36.cell? ⟨gb448, 18, none⟩ = some (u449018) := cp_cell BK448.out HC18.out
            have hfs38 := blk_frozen BK448.out 18
            have hns38_1 := NB449_448.out
            have hms38_1 := NB448_449.out
            refine skip_ (w1 := ?_) (by rfl) rfl ?_ ?_
            rotate_left
            ·go_simp
             rfl
            refine hK.out _ _ ?_
            clear hK K
            refine done_ (done_of HT_.out (by kernel_rfl)) ?_
            have hfin : y476 = l0_18.take (x25_1 + 1).toNat := by
              rw [Ny476.out, ← HNX.out, Ny473.out, Ny469.out]; simp
            have HFIN := AX hfin
            clear hfin
            try go_wp2
            go_roundw
            case rel => exact ⟨x25_1 + 1, _, by go_num, by omega, by omega, AX (Kd.R_mono (ok' := fun _ => True) (Kd.R_far (p := ⟨gb448, 18, none⟩) (Kd.R_types HO_449015.out BK448.out (by decide)) (fun _ hk => hk.2) _) (fun _ _ => trivial)), AX (Kd.R_mono (ok' := fun _ => True) (Kd.R_far (p := ⟨gb448, 18, none⟩) (Kd.R_types HO_449016.out BK448.out (by decide)) (fun _ hk => hk.2) _) (fun _ _ => trivial)), AX (Kd.R_mono (ok' := fun _ => True) (Kd.R_far (p := ⟨gb448, 18, none⟩) (Kd.R_types HO_449017.out BK448.out (by decide)) (fun _ hk => hk.2) _) (fun _ _ => trivial)), AX (by rw [← HFIN.out]; exact Kd.S_mono (ok' := fun _ => True) (Kd.S_far (p := ⟨gb448, 18, none⟩) (Kd.S_types HO478.out BK448.out (by decide)) (fun _ hk => hk.2) _) (fun _ _ => trivial)), AX (by rw [← cp_twice (C := C3) (u := u449018), HCC.out]; exact cp_put BK448.out), AX (cp_far NB449_448.out BK449.out), AX (HB.out.setCell GW448.out _)⟩
            case measure => simp [intOf]; omega
          · obtain rfl : x25_1 = (l0_18.length : Int) := by omega
            rw [show ((l0_18.length : Int)).toNat = l0_18.length by omega, List.take_length] at HO_449018
            obtain ⟨A18, c18, e18⟩ := Kd.S_slice HO_449018.out
            subst e18
            obtain ⟨C, hC⟩ : ∃ X, C3.setIfInBounds 18 (.slice A18 l0_18.length c18) = X := ⟨_, rfl⟩
            rw [hC] at BK448
            have HCL := AX (show C = #[.string a0_0, .int .i64 a0_1, .int .i64 a0_2, .int .i64 a0_3, .int .i64 a0_4, .int .i64 a0_5, .int .i64 a0_6, .int .i64 a0_7, .int .i64 a0_8, .int .i64 a0_9, .int .i64 a0_10, .int .i64 a0_11, .int .i64 a0_12, .int .i64 a0_13, .int .i64 a0_14, .slice A15 l0_15.length c15, .slice A16 l0_16.length c16, .slice A17 l0_17.length c17, .slice A18 l0_18.length c18, .int .i64 a0_19, .int .i64 a0_20, .int .i64 a0_21, .int .i64 a0_22, .int .i64 a0_23, .int .i64 a0_24, .int .i64 a0_25, .int .i64 a0_26, .int .i64 a0_27] by rw [← hC, ← HC3.out, ← HC0.out]; simp)
            have HCZ := AX (show C.size = 28 by rw [HCL.out]; first | rfl | simp)
            clear hC
            have hone : C.all (·.oneCell') = true := by rw [HCL.out]; first | rfl | simp [Value.oneCell']
            have HONE := AX hone
            clear hone
            go_wp2_with (first | ((with_reducible refine gate_dst (N := 47) rfl ?_); refine wpList_load_mid rfl 47 (.tmp 1) rfl gb448 0 rfl C.toList _ ?l1 Try.underlying47 rfl ?l2 ?_; (case l1 => exact cp_range BK448.out); (case l2 => rw [Array.length_toList, HCZ.out]; kernel_rfl); rw [Array.toArray_toList]) | (refine wpList_store_mid rfl 47 (.tmp 2) (.tmp 47) rfl gb449 0 C rfl rfl ?s1 ?s2 ?s3 ?_; (case s1 => rw [HCZ.out, ← HZ.out]; exact cp_there BK449.out); (case s2 => rw [HCZ.out]; kernel_rfl); (case s3 => exact HONE.out)))
            refine bodyPost_ret (results_cell_row rfl _ _ gb449 47 #[.string a0_0, .int .i64 a0_1, .int .i64 a0_2, .int .i64 a0_3, .int .i64 a0_4, .int .i64 a0_5, .int .i64 a0_6, .int .i64 a0_7, .int .i64 a0_8, .int .i64 a0_9, .int .i64 a0_10, .int .i64 a0_11, .int .i64 a0_12, .int .i64 a0_13, .int .i64 a0_14, .slice A15 l0_15.length c15, .slice A16 l0_16.length c16, .slice A17 l0_17.length c17, .slice A18 l0_18.length c18, .int .i64 a0_19, .int .i64 a0_20, .int .i64 a0_21, .int .i64 a0_22, .int .i64 a0_23, .int .i64 a0_24, .int .i64 a0_25, .int .i64 a0_26, .int .i64 a0_27] (0, 0) _ rfl (by have e := all_cells C.toList BK449.out (by rw [Array.length_toList, HCZ.out]; exact HZ.out); rw [Array.toArray_toList, HCL.out] at e; rw [HCL.out]; exact e) Try.underlying47 rfl (by kernel_rfl)) rfl ?_
            exact ⟨_, _, _, _, rfl, Kd.R_mono (R_cells (Kd.R_types HO_449015.out BK449.out (by decide)) (fun _ hk => hk.2) 0 _) (fun _ _ => trivial), Kd.R_mono (R_cells (Kd.R_types HO_449016.out BK449.out (by decide)) (fun _ hk => hk.2) 0 _) (fun _ _ => trivial), Kd.R_mono (R_cells (Kd.R_types HO_449017.out BK449.out (by decide)) (fun _ hk => hk.2) 0 _) (fun _ _ => trivial), Kd.S_mono (S_cells (Kd.S_types HO_449018.out BK449.out (by decide)) (fun _ hk => hk.2) 0 _) (fun _ _ => trivial), below_cells GW449.out _ 0 HB.out⟩

/-! ### civil_YearDay: function 93 -/
def civil_YearDay.f (a0_0 : Int) (a0_1 : Int) (a0_2 : Int) : Option (Int × Int) := (civil_Days.f a0_0 a0_1 a0_2).bind fun bt185 => (if bt185.2 = 0 then ((civil_Days.f a0_0 1 1).bind fun bt187 => (some (wrap64 ((wrap64 (bt185.1 - bt187.1)) + 1), 0))) else (some (0, bt185.2)))
set_option maxHeartbeats 8000000 in
set_option maxRecDepth 100000 in
theorem civil_YearDay.calls (a0_0 : Int) (a0_1 : Int) (a0_2 : Int) (r1 : Int) (r2 : Int) (w : World) (h : civil_YearDay.f a0_0 a0_1 a0_2 = some (r1, r2)) :
  Calls Try.prog 93 #[.agg #[.int .i64 a0_0, .int .i64 a0_1, .int .i64 a0_2]] w fun e w' => e = .returned (.tuple #[.int .i64 r1, .int .i64 r2]) ∧ Below w.heap.size w w' := by
 have hu24 := Try.underlying24
 have HB := AX (Below.refl w.heap.size w)
 have H : ((civil_Days.f a0_0 a0_1 a0_2).bind fun bt185 => (if bt185.2 = 0 then ((civil_Days.f a0_0 1 1).bind fun bt187 => (some (wrap64 ((wrap64 (bt185.1 - bt187.1)) + 1), 0))) else (some (0, bt185.2)))) = some (r1, r2) := h
 clear h
 replace H := Option.bind_eq_some_iff.mp H
 obtain ⟨⟨t185, t186⟩, A20, H⟩ := H
 replace H : (if t186 = 0 then ((civil_Days.f a0_0 1 1).bind fun bt187 => (some (wrap64 ((wrap64 (t185 - bt187.1)) + 1), 0))) else (some (0, t186))) = some (r1, r2) := H
 have A2 := AX A20
 clear A20
 by_cases c3 : t186 = 0
 ·rw [if_pos c3] at H
  have c3b0 : (t186 == 0) = true := beq_iff_eq.mpr c3
  have c3b1 : (t186 != 0) = false := bne_eq_false_iff_eq.mpr c3
  clear c3
  replace H := Option.bind_eq_some_iff.mp H
  obtain ⟨⟨t187, t188⟩, A40, H⟩ := H
  replace H : (some (wrap64 ((wrap64 (t185 - t187)) + 1), 0)) = some (r1, r2) := H
  have A4 := AX A40
  clear A40
  simp only [Option.some.injEq, Prod.mk.injEq] at H
  obtain ⟨rfl, rfl⟩ := H
  go_enter Try.func93, Try.ntmps93
  go_wp2_with (first | ((with_reducible refine gate_dst (N := 1) rfl ?_); refine bx 1 #[.int .i64 a0_0, .int .i64 a0_1, .int .i64 a0_2] 24 ?_; intro gb184 hg w5 hbox hb; have BK184 := AX (hbox); have GW184 := gwl (w := w) hg bw; have GE184 := GW184; replace HB := AX (below_step bw hb); clear hb hbox hg; obtain ⟨hcz6_0, hcz6_1, hcz6_2⟩ := blkC3 (w := w5) BK184.out; obtain ⟨hfz6_0, hfz6_1, hfz6_2⟩ := blkF3 BK184.out) | ((with_reducible refine gate_callee (f := 48) rfl ?_); refine gL (some 10) Try.func48 #[.agg #[.int .i64 a0_0, .int .i64 a0_1, .int .i64 a0_2]] ?_; (with_reducible refine (civil_Days.calls a0_0 a0_1 a0_2 t185 t186 _ A2.out).mono ?_); rintro e w7 ⟨rfl, hb⟩; refine ⟨_, rfl, ?_⟩; replace BK184 := AX (bkb BK184 hb); replace HB := AX (below_step bw hb); (try clear hb); obtain ⟨hcz8_0, hcz8_1, hcz8_2⟩ := blkC3 (w := w7) BK184.out; obtain ⟨hfz8_0, hfz8_1, hfz8_2⟩ := blkF3 BK184.out) | ((with_reducible refine gate_callee (f := 48) rfl ?_); refine gL (some 20) Try.func48 #[.agg #[.int .i64 a0_0, .int .i64 1, .int .i64 1]] ?_; (with_reducible refine (civil_Days.calls a0_0 1 1 t187 t188 _ A4.out).mono ?_); rintro e w9 ⟨rfl, hb⟩; refine ⟨_, rfl, ?_⟩; replace BK184 := AX (bkb BK184 hb); replace HB := AX (below_step bw hb); (try clear hb)))
  go_ret2
  exact ⟨by first | rfl | (simp [errW_none, errW_some] <;> rfl) | (simp [*, errW_none, errW_some] <;> rfl), bw⟩
 ·rw [if_neg c3] at H
  have c3b0 : (t186 == 0) = false := beq_eq_false_iff_ne.mpr c3
  have c3b1 : (t186 != 0) = true := bne_iff_ne.mpr c3
  simp only [Option.some.injEq, Prod.mk.injEq] at H
  obtain ⟨rfl, rfl⟩ := H
  go_enter Try.func93, Try.ntmps93
  go_wp2_with (first | ((with_reducible refine gate_dst (N := 1) rfl ?_); refine bx 1 #[.int .i64 a0_0, .int .i64 a0_1, .int .i64 a0_2] 24 ?_; intro gb184 hg w10 hbox hb; have BK184 := AX (hbox); have GW184 := gwl (w := w) hg bw; have GE184 := GW184; replace HB := AX (below_step bw hb); clear hb hbox hg; obtain ⟨hcz11_0, hcz11_1, hcz11_2⟩ := blkC3 (w := w10) BK184.out; obtain ⟨hfz11_0, hfz11_1, hfz11_2⟩ := blkF3 BK184.out) | ((with_reducible refine gate_callee (f := 48) rfl ?_); refine gL (some 10) Try.func48 #[.agg #[.int .i64 a0_0, .int .i64 a0_1, .int .i64 a0_2]] ?_; (with_reducible refine (civil_Days.calls a0_0 a0_1 a0_2 t185 t186 _ A2.out).mono ?_); rintro e w12 ⟨rfl, hb⟩; refine ⟨_, rfl, ?_⟩; replace BK184 := AX (bkb BK184 hb); replace HB := AX (below_step bw hb); (try clear hb)))
  go_ret2
  exact ⟨by first | rfl | (simp [errW_none, errW_some] <;> rfl) | (simp [*, errW_none, errW_some] <;> rfl), bw⟩

end Go.Proofs.Ytkggjjggcbcdiaa.PX
