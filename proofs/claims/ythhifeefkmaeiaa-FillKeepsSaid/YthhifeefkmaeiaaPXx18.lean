/- Functions of the program as plain Lean functions, each with a proof that the call in the machine answers just what the plain function says; condition: the plain function answers at all. -/
import Derived.Test.YthhifeefkmaeiaaPXx0
import Derived.Test.YthhifeefkmaeiaaPXx3
import Derived.Test.YthhifeefkmaeiaaPXx8
import Derived.Test.YthhifeefkmaeiaaPXx10
import Derived.Test.YthhifeefkmaeiaaPXx11
namespace Go.Proofs.Ythhifeefkmaeiaa.PX
open Go.RowKit Go.Proofs.YthhifeefkmaeiaaW.PrintWords Go.Proofs.YthhifeefkmaeiaaW.PrintLast Go.Proofs.YthhifeefkmaeiaaW.PrintMore
attribute [local go_sem] max2_int min2_int max_two min_two max_three min_three max_four min_four   -- for this text's walks alone
set_option linter.unusedVariables false
set_option linter.unusedSimpArgs false

/-! ### pylonlaw11_FillKeeps: function 9 -/
/-- all calls answer -/
def pylonlaw11_FillKeeps.Good (k : Nat) (m : ByteArray) (st sp n mu tu : Int) (l0 : List S45) (a1 : Int) : Prop :=
  pylonlaw11_awake.f k = some true ∧ l0.length * 40 ≤ 140737488351232 ∧ pylonref07_Same.f k m st sp n mu tu l0 m st sp n mu tu l0 = some true ∧
  ∃ (LA : List S45) (y : Int) (LC : List S43) (z : Int), fill_Fill.f m st sp n mu tu l0 a1 = some (LA, y) ∧ fill_Gaps.f m st sp n mu tu l0 = some (LC, z) ∧ LA.length ≤ 40001 ∧ LC.length ≤ 40001 ∧ pylonref11_SameReads.f k LA LA = some true ∧ pylonref11_SameSpans.f k LC LC = some true
open Classical in
noncomputable def pylonlaw11_FillKeeps.f (k : Nat) (m : ByteArray) (st sp n mu tu : Int) (l0 : List S45) (a1 : Int) : Option Bool := if pylonlaw11_FillKeeps.Good k m st sp n mu tu l0 a1 then some true else none
theorem fk_pre {α : Type} {d : Kd α} {w : World} {A : Option Addr} {n : Nat} {xs : List α} {x : α} (h : Kd.C d w A n (xs ++ [x])) : Kd.C d w A xs.length xs := by
  have h1 : xs.length + 1 = n := by have := h.1; simpa using this
  refine ⟨rfl, by have := h.2.1; omega, fun hn => ?_⟩
  obtain ⟨ad, e, hh⟩ := h.2.2 (by omega)
  exact ⟨ad, e, fun j p hp => hh j p (by
    have hj : j < xs.length := by
      rcases Nat.lt_or_ge j xs.length with c | c
      · exact c
      · rw [List.getElem?_eq_none c] at hp; cases hp
    rw [List.getElem?_append_left hj]; exact hp)⟩
theorem fk_77 {w : World} {g n : Nat} {xs : List S45} {x : S45} (h : Kd.C k45 w (some ⟨g, 0, none⟩) n (xs ++ [x])) : w.cell? ⟨g, xs.length * 5, none⟩ = some (.int .i64 x.f0) := by
  have h1 : xs.length + 1 = n := by have := h.1; simpa using this
  obtain ⟨ad, e, hh⟩ := h.2.2 (by omega)
  cases e
  obtain ⟨c, hl, hK, hcells⟩ := hh xs.length x (by simp)
  have e2 := k45_open hK
  subst e2
  have h3 := hcells 0 _ rfl
  have hsz : k45.sz = 5 := rfl
  rw [hsz, Nat.add_zero] at h3
  have e4 : (⟨g, 0, none⟩ : Addr).add (xs.length * 5) = ⟨g, xs.length * 5, none⟩ := by unfold Addr.add; split <;> simp_all
  rwa [e4] at h3
/-- from w9 to wr only the blocks oa and oc were written -/
structure FkS (w9 wr : World) (oa oc : Option Nat) : Prop where
  os : wr.os = w9.os
  tape : wr.tape = w9.tape
  output : wr.output = w9.output
  size : w9.heap.size ≤ wr.heap.size
  block : ∀ i, i < w9.heap.size → some i ≠ oa → some i ≠ oc → wr.heap[i]? = w9.heap[i]?
theorem FkS.refl (w : World) (oa oc : Option Nat) : FkS w w oa oc := ⟨rfl, rfl, rfl, Nat.le_refl _, fun _ _ _ _ => rfl⟩
theorem FkS.step {w9 wr w1 : World} {oa oc v : Option Nat} (h : FkS w9 wr oa oc) (g : wr.grownBy w1 v) (hv : (v = oa ∨ v = oc) ∨ ∃ b, v = some b ∧ w9.heap.size ≤ b) : FkS w9 w1 oa oc :=
  ⟨g.os.trans h.os, g.tape.trans h.tape, g.output.trans h.output, Nat.le_trans h.size g.size, fun i hi ha hc => by
    refine (g.block i (Nat.lt_of_lt_of_le hi h.size) fun e => ?_).trans (h.block i hi ha hc)
    rcases hv with (e2 | e2) | ⟨b, e2, hb⟩
    · exact ha (e.trans e2)
    · exact hc (e.trans e2)
    · rw [e2] at e; cases e; omega⟩
theorem FkS.R {α : Type} {d : Kd α} {e base lo hi : Nat} {w9 wr : World} {oa oc : Option Nat} {v : Value} {xs : List α} (s : FkS w9 wr oa oc) (h : Kd.R d e w9 base (fun k => lo ≤ k ∧ k < hi) v xs) (ha : ∀ k, oa = some k → k < lo ∨ hi ≤ k) (hc : ∀ k, oc = some k → k < lo ∨ hi ≤ k) : Kd.R d e wr base (fun k => lo ≤ k ∧ k < hi) v xs :=
  Kd.R_step h fun k hk hlt => s.block k hlt (fun e => by have := ha k e.symm; omega) (fun e => by have := hc k e.symm; omega)
theorem FkS.at {w9 wr : World} {oa oc : Option Nat} {g : Nat} {o : Obj} (s : FkS w9 wr oa oc) (h : w9.heap[g]? = some o) (ha : ∀ k, oa = some k → k ≠ g) (hc : ∀ k, oc = some k → k ≠ g) : wr.heap[g]? = some o :=
  (s.block g (Array.getElem?_eq_some_iff.1 h).1 (fun e => ha g e.symm rfl) (fun e => hc g e.symm rfl)).trans h
theorem FkS.below {w w9 wr : World} {oa oc : Option Nat} (s : FkS w9 wr oa oc) (h : Below w.heap.size w w9) (ha : ∀ k, oa = some k → w.heap.size ≤ k) (hc : ∀ k, oc = some k → w.heap.size ≤ k) : Below w.heap.size w wr :=
  ⟨s.os.trans h.os, s.tape.trans h.tape, s.output.trans h.output, Nat.le_trans h.size s.size, fun i hi => (s.block i (Nat.lt_of_lt_of_le hi h.size) (fun e => by have := ha i e.symm; omega) (fun e => by have := hc i e.symm; omega)).trans (h.block i hi)⟩
theorem fk_bd {α : Type} {d : Kd α} {e : Nat} {w w' : World} {ok : Nat → Prop} {v : Value} {xs : List α} (h : Kd.R d e w' w.heap.size ok v xs) : Kd.R d e w' w.heap.size (fun k => w.heap.size ≤ k ∧ k < w'.heap.size) v xs := Kd.R_mono (Kd.R_bound h) fun k hk => ⟨hk.2.1, hk.2.2.1⟩
theorem fk_at {w w' : World} {g : Nat} {o : Obj} (h : w.heap[g]? = some o) (hB : Below w.heap.size w w') : w'.heap[g]? = some o := (hB.block g (Array.getElem?_eq_some_iff.1 h).1).trans h
/-- the rows a and c while they are spoilt -/
structure FkL (w9 wr : World) (ba bc : Nat) (va vc : Value) (na nc : Nat) (oa oc : Option Nat) : Prop where
  a : ∃ i, wr.ownsRow ba 45 5 va na i
  c : ∃ i, wr.ownsRow bc 43 2 vc nc i
  s : FkS w9 wr oa oc
  ha : va.ownBlock = oa ∨ ∃ b, va.ownBlock = some b ∧ w9.heap.size ≤ b
  hc : vc.ownBlock = oc ∨ ∃ b, vc.ownBlock = some b ∧ w9.heap.size ≤ b
theorem fk_ne {w : World} {ba bc na nc : Nat} {va vc : Value} {ia ic : List Value} (ha : w.ownsRow ba 45 5 va na ia) (hc : w.ownsRow bc 43 2 vc nc ic) (k : Nat) (h1 : va.ownBlock = some k) (h2 : vc.ownBlock = some k) : False := by
  obtain ⟨x, e1⟩ := own_typed ha k h1
  obtain ⟨y, e2⟩ := own_typed hc k h2
  rw [e1] at e2
  injection e2 with e2
  injection e2 with _ e2
  exact absurd e2 (by decide)
theorem FkL.putA {w9 wr w1 : World} {ba bc : Nat} {va vc v1 : Value} {na nc n1 : Nat} {oa oc : Option Nat} (h : FkL w9 wr ba bc va vc na nc oa oc) {i : List Value} (ho : w1.ownsRow ba 45 5 v1 n1 i) (g : wr.grownBy w1 va.ownBlock) (hat : v1.ownBlock = va.ownBlock ∨ ∃ b, v1.ownBlock = some b ∧ wr.heap.size ≤ b) : FkL w9 w1 ba bc v1 vc n1 nc oa oc := by
  obtain ⟨ia, hia⟩ := h.a
  obtain ⟨ic, hic⟩ := h.c
  have hs := h.s.size
  refine ⟨⟨_, ho⟩, ⟨ic, own_move hic fun k hk => g.block k (hic.lt k hk).2 fun e => fk_ne hia hic k e.symm hk⟩, h.s.step g ?_, ?_, h.hc⟩
  · rcases h.ha with e | e
    · exact .inl (.inl e)
    · exact .inr e
  · rcases hat with e | ⟨b, e, hb⟩
    · rw [e]; exact h.ha
    · exact .inr ⟨b, e, by omega⟩
theorem FkL.putC {w9 wr w1 : World} {ba bc : Nat} {va vc v1 : Value} {na nc n1 : Nat} {oa oc : Option Nat} (h : FkL w9 wr ba bc va vc na nc oa oc) {i : List Value} (ho : w1.ownsRow bc 43 2 v1 n1 i) (g : wr.grownBy w1 vc.ownBlock) (hat : v1.ownBlock = vc.ownBlock ∨ ∃ b, v1.ownBlock = some b ∧ wr.heap.size ≤ b) : FkL w9 w1 ba bc va v1 na n1 oa oc := by
  obtain ⟨ia, hia⟩ := h.a
  obtain ⟨ic, hic⟩ := h.c
  have hs := h.s.size
  refine ⟨⟨ia, own_move hia fun k hk => g.block k (hia.lt k hk).2 fun e => fk_ne hia hic k hk e.symm⟩, ⟨_, ho⟩, h.s.step g ?_, h.ha, ?_⟩
  · rcases h.hc with e | e
    · exact .inl (.inr e)
    · exact .inr e
  · rcases hat with e | ⟨b, e, hb⟩
    · rw [e]; exact h.hc
    · exact .inr ⟨b, e, by omega⟩
theorem fk_cell {w : World} {base n c e sz : Nat} {A : Option Addr} {inner : List Value} (hsz : 0 < sz) (h : w.ownsRow base e sz (.slice A n c) n inner) {i : Nat} (hi : i < n) :
    ∃ g u, A = some ⟨g, 0, none⟩ ∧ base ≤ g ∧ n ≤ c ∧ w.cell? ⟨g, i * sz, none⟩ = some u ∧ w.frozen? ⟨g, i * sz, none⟩ = false := by
  rcases h.2 with ⟨e, h0⟩ | ⟨g, cap, cur, e, hb, hg, hnc, hcm, hcs, ht⟩
  · omega
  · injection e with e1 e2 e3
    subst e3
    have : i * sz < cur.size := by rw [hcs]; exact Nat.mul_lt_mul_of_pos_right (by omega) hsz
    exact ⟨g, cur[i * sz], e1, hb, hnc, by simp [World.cell?, hg, this], by simp [World.frozen?, hg]⟩
theorem fk_dr (w : World) (q : Nat) : Below w.heap.size w (w.drewN q) := ⟨rfl, rfl, rfl, Nat.le_refl _, fun _ _ => rfl⟩
theorem fk_C45 {w w' : World} {A : Option Addr} {n : Nat} {xs : List S45} (h : Kd.C k45 w A n xs) (hw : w'.heap = w.heap) : Kd.C k45 w' A n xs :=
  ⟨h.1, h.2.1, fun hn => by
    obtain ⟨ad, e, hh⟩ := h.2.2 hn
    exact ⟨ad, e, fun j p hp => by
      obtain ⟨c, hl, hK, hcells⟩ := hh j p hp
      exact ⟨c, hl, by rw [k45_open hK]; exact k45_mk w' p, fun i u hi => (World.cell?_of_block (by rw [hw])).trans (hcells i u hi)⟩⟩⟩
theorem fk_C43 {w w' : World} {A : Option Addr} {n : Nat} {xs : List S43} (h : Kd.C k43 w A n xs) (hw : w'.heap = w.heap) : Kd.C k43 w' A n xs :=
  ⟨h.1, h.2.1, fun hn => by
    obtain ⟨ad, e, hh⟩ := h.2.2 hn
    exact ⟨ad, e, fun j p hp => by
      obtain ⟨c, hl, hK, hcells⟩ := hh j p hp
      exact ⟨c, hl, by rw [k43_open hK]; exact k43_mk w' p, fun i u hi => (World.cell?_of_block (by rw [hw])).trans (hcells i u hi)⟩⟩⟩
theorem fk_same45 {k : Nat} {w9 : World} {A A' : Option Addr} {c c' : Nat} {xs : List S45} (h1 : Kd.C k45 w9 A xs.length xs) (hc : xs.length ≤ c) (h2 : Kd.C k45 w9 A' xs.length xs) (hc' : xs.length ≤ c') (hS : pylonref11_SameReads.f k xs xs = some true) :
    ∀ w', w'.heap = w9.heap → Calls Try.prog 20 #[.slice A xs.length c, .slice A' xs.length c'] w' fun e w'' => e = .returned (.bool true) ∧ ∃ q, w'' = w'.drewN q := fun w' hw =>
  (pylonref11_SameReads.calls k A c xs A' c' xs true w' (fk_C45 h1 hw) hc (fk_C45 h2 hw) hc' hS).mono fun e w'' ⟨he, q, hq⟩ => ⟨he, q, hq⟩
theorem fk_same43 {k : Nat} {w9 : World} {A A' : Option Addr} {c c' : Nat} {xs : List S43} (h1 : Kd.C k43 w9 A xs.length xs) (hc : xs.length ≤ c) (h2 : Kd.C k43 w9 A' xs.length xs) (hc' : xs.length ≤ c') (hS : pylonref11_SameSpans.f k xs xs = some true) :
    ∀ w', w'.heap = w9.heap → Calls Try.prog 17 #[.slice A xs.length c, .slice A' xs.length c'] w' fun e w'' => e = .returned (.bool true) ∧ ∃ q, w'' = w'.drewN q := fun w' hw =>
  (pylonref11_SameSpans.calls k A c xs A' c' xs true w' (fk_C43 h1 hw) hc (fk_C43 h2 hw) hc' hS).mono fun e w'' ⟨he, q, hq⟩ => ⟨he, q, hq⟩
theorem fk_sameF {k : Nat} {w9 : World} {m : ByteArray} {st sp n mu tu : Int} {A A' : Option Addr} {c c' : Nat} {xs : List S45} (h1 : Kd.C k45 w9 A xs.length xs) (hc : xs.length ≤ c) (h2 : Kd.C k45 w9 A' xs.length xs) (hc' : xs.length ≤ c') (hS : pylonref07_Same.f k m st sp n mu tu xs m st sp n mu tu xs = some true) :
    ∀ w', w'.heap = w9.heap → Calls Try.prog 22 #[.agg #[.string m, .int .i64 st, .int .i64 sp, .int .i64 n, .int .i64 mu, .int .i64 tu, .slice A xs.length c], .agg #[.string m, .int .i64 st, .int .i64 sp, .int .i64 n, .int .i64 mu, .int .i64 tu, .slice A' xs.length c']] w' fun e w'' => e = .returned (.bool true) ∧ Below w'.heap.size w' w'' := fun w' hw =>
  pylonref07_Same.calls k m st sp n mu tu A c xs m st sp n mu tu A' c' xs true w' (fk_C45 h1 hw) hc (fk_C45 h2 hw) hc' hS
theorem fk_one45 : ∀ u ∈ [Value.int .i64 (-7), .int .i64 0, .int .i64 0, .int .i64 0, .int .u8 0], u.oneCell' = true := by
  intro u hu
  simp only [List.mem_cons, List.not_mem_nil, or_false] at hu
  rcases hu with rfl | rfl | rfl | rfl | rfl <;> rfl
theorem fk_one43 : ∀ u ∈ [Value.int .i64 (-7), .int .i64 0], u.oneCell' = true := by
  intro u hu
  simp only [List.mem_cons, List.not_mem_nil, or_false] at hu
  rcases hu with rfl | rfl <;> rfl
set_option maxHeartbeats 16000000 in
set_option maxRecDepth 100000 in
theorem pylonlaw11_FillKeeps.calls (k : Nat) (a0_0 : ByteArray) (a0_1 : Int) (a0_2 : Int) (a0_3 : Int) (a0_4 : Int) (a0_5 : Int) (A0_6 : Option Addr) (c0_6 : Nat) (l0_6 : List (S45)) (a1 : Int) (r : Bool) (w : World) (hr0_6 : Kd.C k45 w A0_6 l0_6.length l0_6) (hc0_6 : l0_6.length ≤ c0_6) (h : pylonlaw11_FillKeeps.f k a0_0 a0_1 a0_2 a0_3 a0_4 a0_5 l0_6 a1 = some r) :
  Calls Try.prog 9 #[.agg #[.string a0_0, .int .i64 a0_1, .int .i64 a0_2, .int .i64 a0_3, .int .i64 a0_4, .int .i64 a0_5, .slice A0_6 l0_6.length c0_6], .int .i64 a1] w fun e w' => e = .returned (.bool r) ∧ Below w.heap.size w w' := by
  unfold pylonlaw11_FillKeeps.f at h
  split at h
  case isFalse => exact absurd h (by simp)
  case isTrue hgood =>
  cases h
  obtain ⟨hAw, hlen, hSm, LA, y, LC, z, hF, hG, hlA, hlC, hSA, hSC⟩ := hgood
  have HAw := AX hAw; have HF := AX hF; have HG := AX hG; have HSS := AX (And.intro hSm (And.intro hSA hSC))
  have HR0 := AX hr0_6
  have HC0 := AX hc0_6
  have HLEN := AX hlen
  clear hAw hF hG hSm hSA hSC hr0_6 hc0_6 hlen
  have HB0 := AX ((Below.refl w.heap.size w).alloc (Nat.le_refl _) (.cells #[.string a0_0, .int .i64 a0_1, .int .i64 a0_2, .int .i64 a0_3, .int .i64 a0_4, .int .i64 a0_5, .slice A0_6 l0_6.length c0_6] 31))
  have HX0 := AX (heap_alloc_new w (.cells #[.string a0_0, .int .i64 a0_1, .int .i64 a0_2, .int .i64 a0_3, .int .i64 a0_4, .int .i64 a0_5, .slice A0_6 l0_6.length c0_6] 31))
  go_enter Try.func9, Try.ntmps9
  go_upto_region 4 with (first
    | (go_at_call 10; refine (pylonlaw11_awake.calls k true _ HAw.out).mono ?_; rintro e w1 ⟨rfl, hB1⟩; have hx := fk_at HX0.out hB1; have HX1 := AX hx; have HB1 := AX (HB0.out.trans (hB1.mono HB0.out.size)); clear hB1 hx)
    | ((with_reducible refine gate_dst (N := 21) rfl ?_); refine Kd.R_lit k45 (w0 := w1) w1.heap.size 45 ?hg (N := 21) ?hd (xs := ([] : List S45)) (inner := []) (ok := fun _ => True) (okp := fun _ => True) ?hr ?hp (fun _ hk => hk) trivial (Below.refl _ _) (Nat.le_refl _) (by simp) ?_; (case hd => rfl); (case hg => rfl); (case hr => first | (go_simp; done) | (go_simp; rfl)); (case hp => exact (Reps.none _ _)); intro v2 w2 ho hb hg_ hnew_; have HR2 := AX (And.intro ho hb); obtain ⟨e0, e1, e2, e3, e4, e5, e6⟩ := blkC7 (w := w2) (fk_at HX1.out hb); clear ho hb hg_ hnew_)
    | ((with_reducible refine gate_builtin (b := .append) (xs := #[.tmp 21, .tmp 23]) rfl ?_); at_builtin; refine Kd.R_append_rows k45 (w0 := w1) w1.heap.size rfl (.tmp 21) (.tmp 23) 29 45 (.agg #[(.int .i64 0), (.int .i64 0), (.int .i64 0), (.int .i64 0), (.int .u8 0)]) 40 rfl Try.underlying29 info45 rfl (by decide) (by omega) v2 ([] : List S45) l0_6 _ _ _ (fun _ => True) (fun _ => False) rfl rfl ?aO ?aR (fun _ _ h => h) (fun _ h => h.elim) ?aF ?aB ?aS ?aL ?_; (case aR => exact Kd.C_below HR0.out (HB1.out.trans (HR2.out.2.mono HB1.out.size))); (case aB => exact HR2.out.2); (case aF => exact (fun _ _ => trivial)); (case aO => exact HR2.out.1); (case aS => exact HR2.out.2.size); (case aL => have := HLEN.out; simp; omega); intro v3 w3 ho hb hg hat; rw [List.nil_append] at ho; have HR3 := AX (And.intro ho hb); clear ho hb hg hat)
    | ((with_reducible refine gate_builtin (b := .append) (xs := #[.tmp 24, .tmp 26]) rfl ?_); at_builtin; refine Kd.R_append k45 (w0 := w1) w1.heap.size rfl (.tmp 24) (.tmp 26) 29 45 (.agg #[(.int .i64 0), (.int .i64 0), (.int .i64 0), (.int .i64 0), (.int .u8 0)]) 40 rfl Try.underlying29 info45 rfl (by decide) (by decide) v3 l0_6 (⟨77, 0, 0, 0, 0⟩ : S45) [.int .i64 77, .int .i64 0, .int .i64 0, .int .i64 0, .int .u8 0] (fun _ => True) (fun _ => False) rfl rfl (k45_mkM _ _ _ (⟨77, 0, 0, 0, 0⟩ : S45)) (fun _ h => h.elim) (fun _ _ => trivial) HR3.out.1 HR3.out.2 HR3.out.2.size ?hl1 ?_; (case hl1 => have := HLEN.out; omega); intro v4 w4 ho hb hg hat; have HR4 := AX (And.intro ho hb); clear ho hb hg hat))
  obtain ⟨g3, cap3, e3, hb3, hs3, cel3, hh3⟩ := Kd.R_form HR4.out.1 (by simp)
  have e3' : v4 = .slice (some ⟨g3, 0, none⟩) (l0_6.length + 1) cap3 := by rw [e3]; simp
  clear e3
  subst e3'
  obtain ⟨hl3, hcap3, hC3⟩ := Kd.R_reads' HR4.out.1
  have HROOM := AX (fk_bd HR4.out.1)
  have HRM := AX (And.intro (fk_pre hC3) (And.intro (fk_77 hC3) (And.intro (show l0_6.length + 1 ≤ cap3 from hcap3) (And.intro hb3 hs3))))
  have HX4 := AX (fk_at HX1.out HR4.out.2)
  have HB4 := AX (HB1.out.trans (HR4.out.2.mono HB1.out.size))
  have HS14 := AX (And.intro HB1.out.size HR4.out.2.size)
  obtain ⟨e0, e1, e2, e3, e4, e5, e6⟩ := blkC7 (w := w4) HX4.out
  have e6a : (w4.alloc (.cells #[.string a0_0, .int .i64 a0_1, .int .i64 a0_2, .int .i64 a0_3, .int .i64 a0_4, .int .i64 a0_5, .slice A0_6 l0_6.length c0_6] 31)).cell? ⟨w.heap.size, 6, none⟩ = some (.slice A0_6 l0_6.length c0_6) := (blkC7 (fk_at HX4.out ((Below.refl w4.heap.size w4).alloc (Nat.le_refl _) _))).2.2.2.2.2.2
  have hcap : (l0_6.length : Int) ≤ cap3 := by omega
  have HX2 := AX (heap_alloc_new w4 (.cells #[.string a0_0, .int .i64 a0_1, .int .i64 a0_2, .int .i64 a0_3, .int .i64 a0_4, .int .i64 a0_5, .slice (some ⟨g3, 0, none⟩) l0_6.length cap3] 31))
  have HBA := AX ((Below.refl w4.heap.size w4).alloc (Nat.le_refl _) (.cells #[.string a0_0, .int .i64 a0_1, .int .i64 a0_2, .int .i64 a0_3, .int .i64 a0_4, .int .i64 a0_5, .slice (some ⟨g3, 0, none⟩) l0_6.length cap3] 31))
  clear HR2 HR3 HR4 HB0 HX0 hl3 hcap3 hC3 hb3 hs3 cel3 hh3 HAw
  go_upto_region 6 with (fail)
  clear e0 e1 e2 e3 e4 e5 e6
  go_upto_region 7 with (go_at_call 19; refine (fill_Fill.calls a0_0 a0_1 a0_2 a0_3 a0_4 a0_5 (some ⟨g3, 0, none⟩) cap3 l0_6 a1 LA y _ ?hc1 ?hc2 HF.out).mono ?_; (case hc1 => exact Kd.C_below HRM.out.1 HBA.out); (case hc2 => have := HRM.out.2.2.1; omega); rintro e w6 ⟨va, rfl, hR, hB⟩; obtain ⟨Ava, cva, ea⟩ := Kd.R_slice hR; subst ea; have HRva := AX (fk_bd hR); have D6 := AX (HBA.out.trans (hB.mono HBA.out.size)); have HXva := AX (And.intro (fk_at (fk_at HX4.out HBA.out) hB) (fk_at HX2.out hB)); have HSva := AX hB.size; have HBva := AX hB; obtain ⟨f0, f1, f2, f3, f4, f5, f6⟩ := blkC7 (w := w6) HXva.out.2; clear hR hB)
  go_upto_region 8 with (go_at_call 19; refine (fill_Fill.calls a0_0 a0_1 a0_2 a0_3 a0_4 a0_5 (some ⟨g3, 0, none⟩) cap3 l0_6 a1 LA y _ ?hc1 ?hc2 HF.out).mono ?_; (case hc1 => exact Kd.C_below HRM.out.1 D6.out); (case hc2 => have := HRM.out.2.2.1; omega); rintro e w7 ⟨vb, rfl, hR, hB⟩; obtain ⟨Avb, cvb, ea⟩ := Kd.R_slice hR; subst ea; have HRvb := AX (fk_bd hR); have D7 := AX (D6.out.trans (hB.mono D6.out.size)); have HXvb := AX (And.intro (fk_at HXva.out.1 hB) (fk_at HXva.out.2 hB)); have HSvb := AX hB.size; have HBvb := AX hB; obtain ⟨g_0, g_1, g_2, g_3, g_4, g_5, g_6⟩ := blkC7 (w := w7) HXvb.out.2; clear hR hB)
  go_upto_region 9 with (go_at_call 15; refine (fill_Gaps.calls a0_0 a0_1 a0_2 a0_3 a0_4 a0_5 (some ⟨g3, 0, none⟩) cap3 l0_6 LC z _ ?hc1 ?hc2 HG.out).mono ?_; (case hc1 => exact Kd.C_below HRM.out.1 D7.out); (case hc2 => have := HRM.out.2.2.1; omega); rintro e w8 ⟨vc, rfl, hR, hB⟩; obtain ⟨Avc, cvc, ea⟩ := Kd.R_slice hR; subst ea; have HRvc := AX (fk_bd hR); have D8 := AX (D7.out.trans (hB.mono D7.out.size)); have HXvc := AX (And.intro (fk_at HXvb.out.1 hB) (fk_at HXvb.out.2 hB)); have HSvc := AX hB.size; have HBvc := AX hB; obtain ⟨i_0, i_1, i_2, i_3, i_4, i_5, i_6⟩ := blkC7 (w := w8) HXvc.out.2; clear hR hB)
  go_upto_region 10 with (go_at_call 15; refine (fill_Gaps.calls a0_0 a0_1 a0_2 a0_3 a0_4 a0_5 (some ⟨g3, 0, none⟩) cap3 l0_6 LC z _ ?hc1 ?hc2 HG.out).mono ?_; (case hc1 => exact Kd.C_below HRM.out.1 D8.out); (case hc2 => have := HRM.out.2.2.1; omega); rintro e w9 ⟨vd, rfl, hR, hB⟩; obtain ⟨Avd, cvd, ea⟩ := Kd.R_slice hR; subst ea; have HRvd := AX (fk_bd hR); have D9 := AX (D8.out.trans (hB.mono D8.out.size)); have HXvd := AX (And.intro (fk_at HXvc.out.1 hB) (fk_at HXvc.out.2 hB)); have HSvd := AX hB.size; have HBvd := AX hB; obtain ⟨j_0, j_1, j_2, j_3, j_4, j_5, j_6⟩ := blkC7 (w := w9) HXvd.out.2; clear hR hB)
  obtain ⟨p0, p1, p2, p3, p4, p5, p6⟩ := blkC7 (w := w9) HXvd.out.1
  have hbs : (w4.alloc (.cells #[.string a0_0, .int .i64 a0_1, .int .i64 a0_2, .int .i64 a0_3, .int .i64 a0_4, .int .i64 a0_5, .slice (some ⟨g3, 0, none⟩) l0_6.length cap3] 31)).heap.size = w4.heap.size + 1 := by simp
  have HBS := AX hbs
  clear hbs
  have Ra9 := AX (Kd.R_below (Kd.R_below (Kd.R_below HRva.out HBvb.out) HBvc.out) HBvd.out)
  have Rb9 := AX (Kd.R_below (Kd.R_below HRvb.out HBvc.out) HBvd.out)
  have Rc9 := AX (Kd.R_below HRvc.out HBvd.out)
  have Rd9 := HRvd
  have Ka := AX (Kd.R_reads' Ra9.out).2
  have Kb := AX (Kd.R_reads' Rb9.out).2
  have Kc := AX (Kd.R_reads' Rc9.out).2
  have Kd' := AX (Kd.R_reads' Rd9.out).2
  have S1 := AX (fk_same45 Ka.out.2 Ka.out.1 Kb.out.2 Kb.out.1 HSS.out.2.1)
  have S2 := AX (fk_same43 Kc.out.2 Kc.out.1 Kd'.out.2 Kd'.out.1 HSS.out.2.2)
  have S3 := AX (fk_sameF (c := cap3) (Kd.C_below HRM.out.1 D9.out) (by have := HRM.out.2.2.1; omega) (Kd.C_below HR0.out (HB4.out.trans (D9.out.mono HB4.out.size))) HC0.out HSS.out.1)
  go_upto_region 12 with (first
    | (go_at_call_of 20 (Value.slice Ava LA.length cva); (with_reducible refine (S1.out _ ?hq1).mono ?_); (case hq1 => rfl); rintro e w' ⟨rfl, q, rfl⟩)
    | (go_at_call_of 17 (Value.slice Avc LC.length cvc); (with_reducible refine (S2.out _ ?hq2).mono ?_); (case hq2 => rfl); rintro e w' ⟨rfl, q, rfl⟩)
    | (go_at_call 22; (with_reducible refine (S3.out _ ?hq3).mono ?_); (case hq3 => rfl); rintro e w10 ⟨rfl, hB⟩; have HD := AX (show Below w9.heap.size w9 w10 from ⟨hB.os, hB.tape, hB.output, hB.size, hB.block⟩); have p6' := (blkC7 (fk_at HXvd.out.1 HD.out)).2.2.2.2.2.2; have h77 : w10.cell? ⟨g3, l0_6.length * 5, none⟩ = some (.int .i64 77) := ((D9.out.trans (HD.out.mono D9.out.size)).cell (p := ⟨g3, l0_6.length * 5, none⟩) HRM.out.2.2.2.2).trans HRM.out.2.1; clear hB))
  clear S1 S2 S3
  go_upto_region 14 with (first
    | ((with_reducible refine gate_dst (N := 88) rfl ?_); refine Kd.R_lit k45 (w0 := w10) w10.heap.size 45 ?hg (N := 88) ?hd (xs := ([] : List S45)) (inner := []) (ok := fun _ => True) (okp := fun _ => True) ?hr ?hp (fun _ hk => hk) trivial (Below.refl _ _) (Nat.le_refl _) (by simp) ?_; (case hd => rfl); (case hg => rfl); (case hr => first | (go_simp; done) | (go_simp; rfl)); (case hp => exact (Reps.none _ _)); intro v11 w11 ho hb hg_ hnew_; have HR11 := AX (And.intro ho hb); clear ho hb hg_ hnew_)
    | ((with_reducible refine gate_builtin (b := .append) (xs := #[.tmp 88, .tmp 89]) rfl ?_); at_builtin; refine Kd.R_append_rows k45 (w0 := w10) w10.heap.size rfl (.tmp 88) (.tmp 89) 29 45 (.agg #[(.int .i64 0), (.int .i64 0), (.int .i64 0), (.int .i64 0), (.int .u8 0)]) 40 rfl Try.underlying29 info45 rfl (by decide) (by omega) v11 ([] : List S45) LA _ _ _ (fun _ => True) (fun _ => False) rfl rfl ?aO ?aR (fun _ _ h => h) (fun _ h => h.elim) ?aF ?aB ?aS ?aL ?_; (case aR => exact Kd.C_below (Kd.C_below Kb.out.2 HD.out) HR11.out.2); (case aB => exact HR11.out.2); (case aF => exact (fun _ _ => trivial)); (case aO => exact HR11.out.1); (case aS => exact HR11.out.2.size); (case aL => simp; omega); intro v12 w12 ho hb hg hat; rw [List.nil_append] at ho; obtain ⟨Av12, cv12, ea⟩ := Kd.R_slice ho; subst ea; have HR12 := AX (And.intro (fk_bd ho) hb); clear ho hb hg hat)
    | ((with_reducible refine gate_dst (N := 91) rfl ?_); refine Kd.R_lit k43 (w0 := w12) w12.heap.size 43 ?hg (N := 91) ?hd (xs := ([] : List S43)) (inner := []) (ok := fun _ => True) (okp := fun _ => True) ?hr ?hp (fun _ hk => hk) trivial (Below.refl _ _) (Nat.le_refl _) (by simp) ?_; (case hd => rfl); (case hg => rfl); (case hr => first | (go_simp; done) | (go_simp; rfl)); (case hp => exact (Reps.none _ _)); intro v13 w13 ho hb hg_ hnew_; have HR13 := AX (And.intro ho hb); clear ho hb hg_ hnew_)
    | ((with_reducible refine gate_builtin (b := .append) (xs := #[.tmp 91, .tmp 92]) rfl ?_); at_builtin; refine Kd.R_append_rows k43 (w0 := w12) w12.heap.size rfl (.tmp 91) (.tmp 92) 32 43 (.agg #[(.int .i64 0), (.int .i64 0)]) 16 rfl Try.underlying32 info43 rfl (by decide) (by omega) v13 ([] : List S43) LC _ _ _ (fun _ => True) (fun _ => False) rfl rfl ?aO ?aR (fun _ _ h => h) (fun _ h => h.elim) ?aF ?aB ?aS ?aL ?_; (case aR => exact Kd.C_below (Kd.C_below (Kd.C_below Kd'.out.2 HD.out) HR12.out.2) HR13.out.2); (case aB => exact HR13.out.2); (case aF => exact (fun _ _ => trivial)); (case aO => exact HR13.out.1); (case aS => exact HR13.out.2.size); (case aL => simp; omega); intro v14 w14 ho hb hg hat; rw [List.nil_append] at ho; obtain ⟨Av14, cv14, ea⟩ := Kd.R_slice ho; subst ea; have HR14 := AX (And.intro (fk_bd ho) hb); clear ho hb hg hat))
  have B10 := AX (D9.out.trans (HD.out.mono D9.out.size))
  have Ra14 := AX (Kd.R_below (Kd.R_below (Kd.R_below Ra9.out HD.out) HR12.out.2) HR14.out.2)
  have Rb14 := AX (Kd.R_below (Kd.R_below (Kd.R_below Rb9.out HD.out) HR12.out.2) HR14.out.2)
  have Rc14 := AX (Kd.R_below (Kd.R_below (Kd.R_below Rc9.out HD.out) HR12.out.2) HR14.out.2)
  have Rd14 := AX (Kd.R_below (Kd.R_below (Kd.R_below Rd9.out HD.out) HR12.out.2) HR14.out.2)
  have Rk14 := AX (Kd.R_below HR12.out.1 HR14.out.2)
  have Rs14 := AX HR14.out.1
  have D14 := AX ((B10.out.trans (HR12.out.2.mono B10.out.size)).trans (HR14.out.2.mono (Nat.le_trans B10.out.size HR12.out.2.size)))
  have Rr14 := AX (Kd.R_below HROOM.out D14.out)
  have X14 := AX (And.intro (fk_at (fk_at (fk_at HXvd.out.1 HD.out) HR12.out.2) HR14.out.2) (fk_at (fk_at (fk_at HXvd.out.2 HD.out) HR12.out.2) HR14.out.2))
  have W14 := AX (HB4.out.trans (D14.out.mono HB4.out.size))
  have HSZ := AX (And.intro HS14.out (And.intro HSva.out (And.intro HSvb.out (And.intro HSvc.out (And.intro HSvd.out (And.intro HD.out.size (And.intro HR12.out.2.size HR14.out.2.size)))))))
  rw [HBS.out] at HSZ
  have OA := AX (show ∀ k, (Value.slice Ava LA.length cva).ownBlock = some k → w4.heap.size + 1 ≤ k ∧ k < w6.heap.size from fun k hk => by have := HRva.out.1 k hk; rw [HBS.out] at this; exact this)
  have OC := AX (show ∀ k, (Value.slice Avc LC.length cvc).ownBlock = some k → w7.heap.size ≤ k ∧ k < w8.heap.size from fun k hk => HRvc.out.1 k hk)
  have HL0 : Aside0 (FkL w14 w14 (w4.heap.size + 1) w7.heap.size (.slice Ava LA.length cva) (.slice Avc LC.length cvc) LA.length LC.length (Value.slice Ava LA.length cva).ownBlock (Value.slice Avc LC.length cvc).ownBlock) := AX ⟨by have := Kd.R_own Ra14.out; rw [HBS.out] at this; exact this, Kd.R_own Rc14.out, FkS.refl _ _ _, .inl rfl, .inl rfl⟩
  go_wp2
  go_loopw [96] (fun vi wr => ∃ i : Nat, vi = .int .i64 i ∧ i ≤ LA.length ∧ Aside0 (FkL w14 wr (w4.heap.size + 1) w7.heap.size (.slice Ava LA.length cva) (.slice Avc LC.length cvc) LA.length LC.length (Value.slice Ava LA.length cva).ownBlock (Value.slice Avc LC.length cvc).ownBlock)) (fun vi _ => LA.length - (intOf vi).toNat)
  case atStart => exact ⟨0, rfl, by omega, HL0⟩
  case round =>
    clear HL0
    obtain ⟨i, rfl, hi, HL⟩ := hrel
    by_cases hlt : i < LA.length
    · obtain ⟨ia, hia⟩ := HL.out.a
      obtain ⟨ga, u, eA, hgb, hnc, hcell, hfr⟩ := fk_cell (by decide) hia hlt
      have HIN := AX (And.intro HL.out hia)
      have hlc : (LA.length : Int) ≤ cva := by omega
      subst eA
      clear hia hgb hnc HL
      go_wp2
      go_roundw
      case rel =>
        have st := HIN.out.2.stored (i * 5) (.int .i64 (-7))
        exact ⟨i + 1, by go_num, by omega, AX (HIN.out.1.putA st.1 st.2 (.inl rfl))⟩
      case measure => simp [intOf]; omega
    · have HL0 := HL
      clear HL
      go_wp2
      clear hlt hi
      go_loopw [106] (fun vi wr => ∃ i : Nat, vi = .int .i64 i ∧ i ≤ LC.length ∧ Aside0 (FkL w14 wr (w4.heap.size + 1) w7.heap.size (.slice Ava LA.length cva) (.slice Avc LC.length cvc) LA.length LC.length (Value.slice Ava LA.length cva).ownBlock (Value.slice Avc LC.length cvc).ownBlock)) (fun vi _ => LC.length - (intOf vi).toNat)
      case atStart => exact ⟨0, rfl, by omega, HL0⟩
      case round =>
        clear HL0
        obtain ⟨i, rfl, hi, HL⟩ := hrel
        by_cases hlt : i < LC.length
        · obtain ⟨ic, hic⟩ := HL.out.c
          obtain ⟨gc, u, eA, hgb, hnc, hcell, hfr⟩ := fk_cell (by decide) hic hlt
          have HIN := AX (And.intro HL.out hic)
          have hlc : (LC.length : Int) ≤ cvc := by omega
          subst eA
          clear hic hgb hnc HL
          go_wp2
          go_roundw
          case rel =>
            have st := HIN.out.2.stored (i * 2) (.int .i64 (-7))
            exact ⟨i + 1, by go_num, by omega, AX (HIN.out.1.putC st.1 st.2 (.inl rfl))⟩
          case measure => simp [intOf]; omega
        · have HL0 := HL
          clear HL
          go_wp2
          clear hlt hi
          go_loopw [7, 11, 114] (fun vv vu vi wr => ∃ (i na nc : Nat) (va vc : Value), vv = va ∧ vu = vc ∧ vi = .int .i64 i ∧ i ≤ 20 ∧ na ≤ LA.length + i ∧ nc ≤ LC.length + i ∧ Aside0 (FkL w14 wr (w4.heap.size + 1) w7.heap.size va vc na nc (Value.slice Ava LA.length cva).ownBlock (Value.slice Avc LC.length cvc).ownBlock)) (fun _ _ vi _ => 20 - (intOf vi).toNat)
          case atStart => exact ⟨0, LA.length, LC.length, _, _, rfl, rfl, rfl, by omega, by omega, by omega, HL0⟩
          case round =>
            clear HL0
            obtain ⟨i, na, nc, va, vc, rfl, rfl, rfl, hi, hna, hnc, HL⟩ := hrel
            by_cases hlt : i < 20
            · obtain ⟨ia, hia⟩ := HL.out.a
              have HIA := AX hia
              clear hia
              go_wp2_with (first
                | ((with_reducible refine gate_builtin (b := .append) (xs := #[.tmp 116, .tmp 118]) rfl ?_); at_builtin; refine print_append_cells (w0 := wr) (w4.heap.size + 1) rfl (.tmp 116) (.tmp 118) 29 45 (.agg #[(.int .i64 0), (.int .i64 0), (.int .i64 0), (.int .i64 0), (.int .u8 0)]) 5 40 rfl Try.underlying29 info45 rfl (by decide) (by decide) _ na ia [.int .i64 (-7), .int .i64 0, .int .i64 0, .int .i64 0, .int .u8 0] rfl rfl rfl fk_one45 HIA.out (Below.refl _ _) ?h1 ?h2 ?_; (case h1 => have := HSZ.out; have := HL.out.s.size; omega); (case h2 => omega); intro v1 wn ho hb hg hat; have HN := AX (HL.out.putA ho hg hat); clear ho hb hg hat; obtain ⟨ic, hic⟩ := HN.out.c; have HIC := AX hic; clear hic)
                | ((with_reducible refine gate_builtin (b := .append) (xs := #[.tmp 120, .tmp 122]) rfl ?_); at_builtin; refine print_append_cells (w0 := wn) w7.heap.size rfl (.tmp 120) (.tmp 122) 32 43 (.agg #[(.int .i64 0), (.int .i64 0)]) 2 16 rfl Try.underlying32 info43 rfl (by decide) (by decide) _ nc ic [.int .i64 (-7), .int .i64 0] rfl rfl rfl fk_one43 HIC.out (Below.refl _ _) ?h1 ?h2 ?_; (case h1 => have := HSZ.out; have := HN.out.s.size; omega); (case h2 => omega); intro v2' wn2 ho hb hg hat; have HN2 := AX (HN.out.putC ho hg hat); clear ho hb hg hat))
              go_roundw
              case rel => exact ⟨i + 1, na + 1, nc + 1, v1, v2', rfl, rfl, by go_num, by omega, by omega, by omega, HN2⟩
              case measure => simp [intOf]; omega
            · have HS := AX HL.out.s
              clear HL hna hnc
              have Rb := AX (HS.out.R Rb14.out (fun k hk => by have := OA.out k hk; omega) (fun k hk => by have := OC.out k hk; omega))
              have Rd := AX (HS.out.R Rd14.out (fun k hk => by have := OA.out k hk; have := HSZ.out; omega) (fun k hk => by have := OC.out k hk; omega))
              have Rk := AX (HS.out.R Rk14.out (fun k hk => by have := OA.out k hk; have := HSZ.out; omega) (fun k hk => by have := OC.out k hk; have := HSZ.out; omega))
              have Rs := AX (HS.out.R Rs14.out (fun k hk => by have := OA.out k hk; have := HSZ.out; omega) (fun k hk => by have := OC.out k hk; have := HSZ.out; omega))
              have Rr := AX (HS.out.R Rr14.out (fun k hk => by have := OA.out k hk; have := HSZ.out; omega) (fun k hk => by have := OC.out k hk; have := HSZ.out; omega))
              have W15 := AX (HS.out.below W14.out (fun k hk => by have := OA.out k hk; have := HSZ.out; omega) (fun k hk => by have := OC.out k hk; have := HSZ.out; omega))
              have X15 := AX (And.intro (HS.out.at X14.out.1 (fun k hk => by have := OA.out k hk; have := HSZ.out; omega) (fun k hk => by have := OC.out k hk; have := HSZ.out; omega)) (HS.out.at X14.out.2 (fun k hk => by have := OA.out k hk; have := HSZ.out; omega) (fun k hk => by have := OC.out k hk; have := HSZ.out; omega)))
              obtain ⟨x0, x1, x2, x3, x4, x5, x6⟩ := blkC7 (w := wr) X15.out.1
              obtain ⟨y0, y1, y2, y3, y4, y5, y6⟩ := blkC7 (w := wr) X15.out.2
              have Lb := AX (Kd.R_reads' Rb.out).2
              have Lk := AX (Kd.R_reads' Rk.out).2
              have Ld := AX (Kd.R_reads' Rd.out).2
              have Ls := AX (Kd.R_reads' Rs.out).2
              have S5 := AX (fk_same45 Lb.out.2 Lb.out.1 Lk.out.2 Lk.out.1 HSS.out.2.1)
              have S6 := AX (fk_same43 Ld.out.2 Ld.out.1 Ls.out.2 Ls.out.1 HSS.out.2.2)
              have S7 := AX (fk_sameF (c := cap3) (fk_pre (Kd.R_reads' Rr.out).2.2) (by have := HRM.out.2.2.1; omega) (Kd.C_below HR0.out W15.out) HC0.out HSS.out.1)
              go_wp2_with (first
                | (go_at_call_of 20 (Value.slice Avb LA.length cvb); (with_reducible refine (S5.out _ ?hq5).mono ?_); (case hq5 => rfl); rintro e w' ⟨rfl, q, rfl⟩)
                | (go_at_call_of 17 (Value.slice Avd LC.length cvd); (with_reducible refine (S6.out _ ?hq6).mono ?_); (case hq6 => rfl); rintro e w' ⟨rfl, q, rfl⟩)
                | (go_at_call 22; (with_reducible refine (S7.out _ ?hq7).mono ?_); (case hq7 => rfl); rintro e w16 ⟨rfl, hB⟩; have HD2 := AX (show Below wr.heap.size wr w16 from ⟨hB.os, hB.tape, hB.output, hB.size, hB.block⟩); clear hB))
              go_ret
              exact ⟨rfl, W15.out.trans (HD2.out.mono W15.out.size)⟩

end Go.Proofs.Ythhifeefkmaeiaa.PX
