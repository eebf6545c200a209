/- Functions of the program as plain Lean functions, each with a proof that the call in the machine answers just what the plain function says; condition: the plain function answers at all. -/
import Derived.Test.YtegedhnbmclbkaaPXx0
import Derived.Test.YtegedhnbmclbkaaPXx1
import Derived.Test.YtegedhnbmclbkaaPXx2
import Derived.Test.YtegedhnbmclbkaaPXx5
import Derived.Test.YtegedhnbmclbkaaPXx6
import Derived.Test.YtegedhnbmclbkaaPXx7
import Derived.Test.YtegedhnbmclbkaaPXx12
import Derived.BigQuiet
namespace Go.Proofs.Ytegedhnbmclbkaa.PX
open Go.RowKit Go.Proofs.YtegedhnbmclbkaaW.PrintWords Go.Proofs.YtegedhnbmclbkaaW.PrintLast Go.Proofs.YtegedhnbmclbkaaW.PrintMore
attribute [local go_sem] max2_int min2_int max_two min_two max_three min_three max_four min_four   -- for this text's walks alone
set_option linter.unusedVariables false
set_option linter.unusedSimpArgs false

attribute [local go_sem high] eqA33
/-! ### pylonlaw05_HolidayKeeps: function 7 -/
/-- all calls answer -/
def pylonlaw05_HolidayKeeps.Good (k : Nat) (l0 : List S25) (a1 : Int) (d0 d1 d2 : Int) : Prop :=
  pylonlaw05_awake.f = some true ∧ l0.length * 32 ≤ 140737488351232 ∧
  ∃ (LA : List S33) (y : Int) (b : Bool) (e : Int), holiday_List.f k l0 a1 = some (LA, y) ∧ holiday_Is.f k l0 d0 d1 d2 = some (b, e) ∧ pylonref05_List.f k l0 a1 = some (LA, y) ∧ LA.length ≤ 40001 ∧ pylonref13_SameDates.f k LA LA = some true
open Classical in
noncomputable def pylonlaw05_HolidayKeeps.f (k : Nat) (l0 : List S25) (a1 d0 d1 d2 : Int) : Option Bool := if pylonlaw05_HolidayKeeps.Good k l0 a1 d0 d1 d2 then some true else none
theorem fk_pre {α : Type} {d : Kd α} {w : World} {A : Option Addr} {n : Nat} {xs : List α} {x : α} (h : Kd.C d w A n (xs ++ [x])) : Kd.C d w A xs.length xs := by
  have h1 : xs.length + 1 = n := by have := h.1; simpa using this
  refine ⟨rfl, by have := h.2.1; omega, fun hn => ?_⟩
  obtain ⟨ad, e, hh⟩ := h.2.2 (by omega)
  exact ⟨ad, e, fun j p hp => hh j p (by
    have hj : j < xs.length := by
      rcases Nat.lt_or_ge j xs.length with c | c
      · exact c
      · rw [List.getElem?_eq_none c] at hp; cases hp
    rw [List.getElem?_append_left hj]; exact hp)⟩
theorem fk_77 {w : World} {g n : Nat} {xs : List S25} {x : S25} (h : Kd.C k25 w (some ⟨g, 0, none⟩) n (xs ++ [x])) : w.cell? ⟨g, xs.length * 4, none⟩ = some (.int .i64 x.f0) := by
  have h1 : xs.length + 1 = n := by have := h.1; simpa using this
  obtain ⟨ad, e, hh⟩ := h.2.2 (by omega)
  cases e
  obtain ⟨c, hl, hK, hcells⟩ := hh xs.length x (by simp)
  have e2 := k25_open hK
  subst e2
  have h3 := hcells 0 _ rfl
  have hsz : k25.sz = 4 := rfl
  rw [hsz, Nat.add_zero] at h3
  have e4 : (⟨g, 0, none⟩ : Addr).add (xs.length * 4) = ⟨g, xs.length * 4, none⟩ := by unfold Addr.add; split <;> simp_all
  rwa [e4] at h3
/-- from w9 to wr only the block oa was written -/
structure FkS (w9 wr : World) (oa : Option Nat) : Prop where
  os : wr.os = w9.os
  tape : wr.tape = w9.tape
  output : wr.output = w9.output
  size : w9.heap.size ≤ wr.heap.size
  block : ∀ i, i < w9.heap.size → some i ≠ oa → wr.heap[i]? = w9.heap[i]?
theorem FkS.refl (w : World) (oa : Option Nat) : FkS w w oa := ⟨rfl, rfl, rfl, Nat.le_refl _, fun _ _ _ => rfl⟩
theorem FkS.step {w9 wr w1 : World} {oa v : Option Nat} (h : FkS w9 wr oa) (g : wr.grownBy w1 v) (hv : v = oa ∨ ∃ b, v = some b ∧ w9.heap.size ≤ b) : FkS w9 w1 oa :=
  ⟨g.os.trans h.os, g.tape.trans h.tape, g.output.trans h.output, Nat.le_trans h.size g.size, fun i hi ha => by
    refine (g.block i (Nat.lt_of_lt_of_le hi h.size) fun e => ?_).trans (h.block i hi ha)
    rcases hv with e2 | ⟨b, e2, hb⟩
    · exact ha (e.trans e2)
    · rw [e2] at e; cases e; omega⟩
theorem FkS.R {α : Type} {d : Kd α} {e base lo hi : Nat} {w9 wr : World} {oa : Option Nat} {v : Value} {xs : List α} (s : FkS w9 wr oa) (h : Kd.R d e w9 base (fun k => lo ≤ k ∧ k < hi) v xs) (ha : ∀ k, oa = some k → k < lo ∨ hi ≤ k) : Kd.R d e wr base (fun k => lo ≤ k ∧ k < hi) v xs :=
  Kd.R_step h fun k hk hlt => s.block k hlt (fun e => by have := ha k e.symm; omega)
theorem FkS.below {w w9 wr : World} {oa : Option Nat} (s : FkS w9 wr oa) (h : Below w.heap.size w w9) (ha : ∀ k, oa = some k → w.heap.size ≤ k) : Below w.heap.size w wr :=
  ⟨s.os.trans h.os, s.tape.trans h.tape, s.output.trans h.output, Nat.le_trans h.size s.size, fun i hi => (s.block i (Nat.lt_of_lt_of_le hi h.size) (fun e => by have := ha i e.symm; omega)).trans (h.block i hi)⟩
theorem fk_bd {α : Type} {d : Kd α} {e : Nat} {w w' : World} {ok : Nat → Prop} {v : Value} {xs : List α} (h : Kd.R d e w' w.heap.size ok v xs) : Kd.R d e w' w.heap.size (fun k => w.heap.size ≤ k ∧ k < w'.heap.size) v xs := Kd.R_mono (Kd.R_bound h) fun k hk => ⟨hk.2.1, hk.2.2.1⟩
theorem fk_at {w w' : World} {g : Nat} {o : Obj} (h : w.heap[g]? = some o) (hB : Below w.heap.size w w') : w'.heap[g]? = some o := (hB.block g (Array.getElem?_eq_some_iff.1 h).1).trans h
/-- the row a while it is spoilt -/
structure FkL (w9 wr : World) (ba : Nat) (va : Value) (na : Nat) (oa : Option Nat) : Prop where
  a : ∃ i, wr.ownsRow ba 33 3 va na i
  s : FkS w9 wr oa
  ha : va.ownBlock = oa ∨ ∃ b, va.ownBlock = some b ∧ w9.heap.size ≤ b
theorem FkL.putA {w9 wr w1 : World} {ba : Nat} {va v1 : Value} {na n1 : Nat} {oa : Option Nat} (h : FkL w9 wr ba va na oa) {i : List Value} (ho : w1.ownsRow ba 33 3 v1 n1 i) (g : wr.grownBy w1 va.ownBlock) (hat : v1.ownBlock = va.ownBlock ∨ ∃ b, v1.ownBlock = some b ∧ wr.heap.size ≤ b) : FkL w9 w1 ba v1 n1 oa := by
  have hs := h.s.size
  refine ⟨⟨_, ho⟩, h.s.step g h.ha, ?_⟩
  rcases hat with e | ⟨b, e, hb⟩
  · rw [e]; exact h.ha
  · exact .inr ⟨b, e, by omega⟩
theorem fk_meas {n i : Nat} {z : Int} (h : i < n) (hz : z = (i : Int) + 1) : n - z.toNat < n - ((i : Int)).toNat := by omega
theorem fk_cell {w : World} {base n c e sz : Nat} {A : Option Addr} {inner : List Value} (hsz : 0 < sz) (h : w.ownsRow base e sz (.slice A n c) n inner) {i : Nat} (hi : i < n) :
    ∃ g u, A = some ⟨g, 0, none⟩ ∧ base ≤ g ∧ n ≤ c ∧ w.cell? ⟨g, i * sz, none⟩ = some u ∧ w.frozen? ⟨g, i * sz, none⟩ = false := by
  rcases h.2 with ⟨e, h0⟩ | ⟨g, cap, cur, e, hb, hg, hnc, hcm, hcs, ht⟩
  · omega
  · injection e with e1 e2 e3
    subst e3
    have : i * sz < cur.size := by rw [hcs]; exact Nat.mul_lt_mul_of_pos_right (by omega) hsz
    exact ⟨g, cur[i * sz], e1, hb, hnc, by simp [World.cell?, hg, this], by simp [World.frozen?, hg]⟩
theorem fk_dr (w : World) (q : Nat) : Below w.heap.size w (w.drewN q) := ⟨rfl, rfl, rfl, Nat.le_refl _, fun _ _ => rfl⟩
theorem fk_C33 {w w' : World} {A : Option Addr} {n : Nat} {xs : List S33} (h : Kd.C k33 w A n xs) (hw : w'.heap = w.heap) : Kd.C k33 w' A n xs :=
  ⟨h.1, h.2.1, fun hn => by
    obtain ⟨ad, e, hh⟩ := h.2.2 hn
    exact ⟨ad, e, fun j p hp => by
      obtain ⟨c, hl, hK, hcells⟩ := hh j p hp
      exact ⟨c, hl, by rw [k33_open hK]; exact k33_mk w' p, fun i u hi => (World.cell?_of_block (by rw [hw])).trans (hcells i u hi)⟩⟩⟩
theorem fk_same33 {k : Nat} {w9 : World} {A A' : Option Addr} {c c' : Nat} {xs : List S33} (h1 : Kd.C k33 w9 A xs.length xs) (hc : xs.length ≤ c) (h2 : Kd.C k33 w9 A' xs.length xs) (hc' : xs.length ≤ c') (hS : pylonref13_SameDates.f k xs xs = some true) :
    ∀ w', w'.heap = w9.heap → Calls Try.prog 10 #[.slice A xs.length c, .slice A' xs.length c'] w' fun e w'' => e = .returned (.bool true) ∧ ∃ q, w'' = w'.drewN q := fun w' hw =>
  (pylonref13_SameDates.calls k A c xs A' c' xs true w' (fk_C33 h1 hw) hc (fk_C33 h2 hw) hc' hS).mono fun e w'' ⟨he, hq⟩ => ⟨he, hq.out⟩
theorem fk_one33 : ∀ u ∈ [Value.int .i64 20000, .int .i64 0, .int .i64 0], u.oneCell' = true := by
  intro u hu
  simp only [List.mem_cons, List.not_mem_nil, or_false] at hu
  rcases hu with rfl | rfl | rfl <;> rfl
theorem fk_eq (d : Nat) (w : World) (x0 y0 : Int) (x1 y1 : Int) (x2 y2 : Int) (x3 y3 : Int) :
    (Op.equalIn (d + 2) 25 (.agg #[.int .i64 x0, .int .i64 x1, .int .i64 x2, .int .i64 x3]) (.agg #[.int .i64 y0, .int .i64 y1, .int .i64 y2, .int .i64 y3])).run Try.prog w = .ok (x0 == y0 && (x1 == y1 && (x2 == y2 && (x3 == y3)))) w := by
  refine eqA_of Try.underlying25 (by kernel_rfl) ?_
  refine eqf_cons (by rfl) (by go_simp; rfl) (by go_simp; rfl) (by go_simp) ?_
  refine eqf_cons (by rfl) (by go_simp; rfl) (by go_simp; rfl) (by go_simp) ?_
  refine eqf_cons (by rfl) (by go_simp; rfl) (by go_simp; rfl) (by go_simp) ?_
  exact eqf_last (by rfl) (by go_simp; rfl) (by go_simp; rfl) (by go_simp)
attribute [local go_sem high] fk_eq
set_option maxHeartbeats 16000000 in
set_option maxRecDepth 100000 in
theorem pylonlaw05_HolidayKeeps.calls (k : Nat) (A0 : Option Addr) (c0 : Nat) (l0 : List (S25)) (a1 : Int) (d0 : Int) (d1 : Int) (d2 : Int) (r : Bool) (w : World) (hr0 : Kd.C k25 w A0 l0.length l0) (hc0 : l0.length ≤ c0) (h : pylonlaw05_HolidayKeeps.f k l0 a1 d0 d1 d2 = some r) :
  Calls Try.prog 7 #[.slice A0 l0.length c0, .int .i64 a1, .agg #[.int .i64 d0, .int .i64 d1, .int .i64 d2]] w fun e w' => e = .returned (.bool r) ∧ Below w.heap.size w w' := by
  unfold pylonlaw05_HolidayKeeps.f at h
  split at h
  case isFalse => exact absurd h (by simp)
  case isTrue hgood =>
  cases h
  obtain ⟨hAw, hlen, LA, y, b, e', hF, hI, hG, hlA, hS⟩ := hgood
  have HAw := AX hAw; have HF := AX hF; have HI := AX hI; have HG := AX hG; have HSS := AX hS
  have HR0 := AX hr0
  have HC0 := AX hc0
  have HLEN := AX hlen
  have HC0' : (l0.length : Int) ≤ c0 := by omega
  clear hAw hF hI hG hS hr0 hc0 hlen
  have HB0 := AX ((Below.refl w.heap.size w).alloc (Nat.le_refl _) (.cells #[.int .i64 d0, .int .i64 d1, .int .i64 d2] 33 (0, 0)))
  have HX0 := AX (heap_alloc_new w (.cells #[.int .i64 d0, .int .i64 d1, .int .i64 d2] 33 (0, 0)))
  go_enter Try.func7, Try.ntmps7
  go_upto_region 4 with (first
    | (go_at_call 8; refine (pylonlaw05_awake.calls true _ HAw.out).mono ?_; rintro e w1 ⟨rfl, hB1⟩; have hx := fk_at HX0.out hB1; have HX1 := AX hx; have HB1 := AX (HB0.out.trans (hB1.mono HB0.out.size)); clear hB1 hx)
    | ((with_reducible refine gate_dst (N := 19) rfl ?_); refine Kd.R_lit k25 (w0 := w1) w1.heap.size 25 ?hg (N := 19) ?hd (xs := ([] : List S25)) (inner := []) (ok := fun _ => True) (okp := fun _ => True) ?hr ?hp (fun _ hk => hk) trivial (Below.refl _ _) (Nat.le_refl _) (by simp) ?_; (case hd => rfl); (case hg => rfl); (case hr => first | (go_simp; done) | (go_simp; rfl)); (case hp => exact (Reps.none _ _)); intro v2 w2 ho hb hg_ hnew_; have HR2 := AX (And.intro ho hb); clear ho hb hg_ hnew_)
    | ((with_reducible refine gate_builtin (b := .append) (xs := #[.tmp 19, .tmp 20]) rfl ?_); at_builtin; refine Kd.R_append_rows k25 (w0 := w1) w1.heap.size rfl (.tmp 19) (.tmp 20) 22 25 (.agg #[(.int .i64 0), (.int .i64 0), (.int .i64 0), (.int .i64 0)]) 32 rfl Try.underlying22 info25 rfl (by decide) (by omega) v2 ([] : List S25) l0 _ _ _ (fun _ => True) (fun _ => False) rfl rfl ?aO ?aR (fun _ _ h => h) (fun _ h => h.elim) ?aF ?aB ?aS ?aL ?_; (case aR => exact Kd.C_below HR0.out (HB1.out.trans (HR2.out.2.mono HB1.out.size))); (case aB => exact HR2.out.2); (case aF => exact (fun _ _ => trivial)); (case aO => exact HR2.out.1); (case aS => exact HR2.out.2.size); (case aL => have := HLEN.out; simp; omega); intro v3 w3 ho hb hg hat; rw [List.nil_append] at ho; have HR3 := AX (And.intro ho hb); clear ho hb hg hat)
    | ((with_reducible refine gate_builtin (b := .append) (xs := #[.tmp 21, .tmp 23]) rfl ?_); at_builtin; refine Kd.R_append k25 (w0 := w1) w1.heap.size rfl (.tmp 21) (.tmp 23) 22 25 (.agg #[(.int .i64 0), (.int .i64 0), (.int .i64 0), (.int .i64 0)]) 32 rfl Try.underlying22 info25 rfl (by decide) (by decide) v3 l0 (⟨77, 0, 0, 0⟩ : S25) [.int .i64 77, .int .i64 0, .int .i64 0, .int .i64 0] (fun _ => True) (fun _ => False) rfl rfl (k25_mkM _ _ _ (⟨77, 0, 0, 0⟩ : S25)) (fun _ h => h.elim) (fun _ _ => trivial) HR3.out.1 HR3.out.2 HR3.out.2.size ?hl1 ?_; (case hl1 => have := HLEN.out; omega); intro v4 w4 ho hb hg hat; have HR4 := AX (And.intro ho hb); clear ho hb hg hat))
  obtain ⟨g3, cap3, e3, hb3, hs3, cel3, hh3⟩ := Kd.R_form HR4.out.1 (by simp)
  have e3' : v4 = .slice (some ⟨g3, 0, none⟩) (l0.length + 1) cap3 := by rw [e3]; simp
  clear e3
  subst e3'
  obtain ⟨hl3, hcap3, hC3⟩ := Kd.R_reads' HR4.out.1
  have HRM := AX (And.intro (fk_pre hC3) (And.intro (fk_77 hC3) (And.intro (show l0.length + 1 ≤ cap3 from hcap3) (And.intro hb3 hs3))))
  have HX4 := AX (fk_at HX1.out HR4.out.2)
  have HB4 := AX (HB1.out.trans (HR4.out.2.mono HB1.out.size))
  have hcap : (l0.length : Int) ≤ cap3 := by omega
  have hcap1 : (l0.length : Int) + 1 ≤ cap3 := by omega
  clear HR2 HR3 HR4 HB0 HX0 hl3 hcap3 hC3 hb3 hs3 cel3 hh3 HAw
  go_upto_region 6 with (go_at_call 9; refine (holiday_List.calls k (some ⟨g3, 0, none⟩) cap3 l0 a1 LA y _ ?hc1 ?hc2 HF.out).mono ?_; (case hc1 => exact HRM.out.1); (case hc2 => have := HRM.out.2.2.1; omega); rintro e w6 ⟨va, rfl, hR, hB⟩; obtain ⟨Ava, cva, ea⟩ := Kd.R_slice hR; subst ea; have HRva := AX (fk_bd hR); have D6 := AX hB; have HX6 := AX (fk_at HX4.out hB); clear hR hB)
  go_upto_region 7 with (go_at_call 9; refine (holiday_List.calls k (some ⟨g3, 0, none⟩) cap3 l0 a1 LA y _ ?hc1 ?hc2 HF.out).mono ?_; (case hc1 => exact Kd.C_below HRM.out.1 D6.out); (case hc2 => have := HRM.out.2.2.1; omega); rintro e w7 ⟨vb, rfl, hR, hB⟩; obtain ⟨Avb, cvb, ea⟩ := Kd.R_slice hR; subst ea; have HRvb := AX (fk_bd hR); have HBvb := AX hB; have D7 := AX (D6.out.trans (hB.mono D6.out.size)); have HX7 := AX (fk_at HX6.out hB); clear hR hB)
  obtain ⟨q0, q1, q2⟩ := blkC3 (w := w7) HX7.out
  go_upto_region 8 with (go_at_call 17; refine (holiday_Is.calls k (some ⟨g3, 0, none⟩) cap3 l0 d0 d1 d2 b e' _ ?hc1 ?hc2 HI.out).mono ?_; (case hc1 => exact Kd.C_below HRM.out.1 D7.out); (case hc2 => have := HRM.out.2.2.1; omega); rintro e w8 ⟨rfl, hB⟩; have HB8 := AX hB; have D8 := AX (D7.out.trans (hB.mono D7.out.size)); clear hB)
  clear q0 q1 q2
  go_upto_region 9 with (go_at_call 20; refine (pylonref05_List.calls k A0 c0 l0 a1 LA y _ ?hc1 ?hc2 HG.out).mono ?_; (case hc1 => exact Kd.C_below HR0.out (HB4.out.trans (D8.out.mono HB4.out.size))); (case hc2 => have := HC0.out; omega); rintro e w9 ⟨vc, rfl, hR, hB⟩; obtain ⟨Avc, cvc, ea⟩ := Kd.R_slice hR; subst ea; have HRvc := AX (fk_bd hR); have HBvc := AX hB; have D9 := AX (D8.out.trans (hB.mono D8.out.size)); clear hR hB)
  have Ra9 := AX (Kd.R_below (Kd.R_below (Kd.R_below HRva.out HBvb.out) HB8.out) HBvc.out)
  have Rb9 := AX (Kd.R_below (Kd.R_below HRvb.out HB8.out) HBvc.out)
  have Rc9 := HRvc
  have HSZ := AX (And.intro HB4.out.size (And.intro D6.out.size (And.intro HBvb.out.size (And.intro HB8.out.size HBvc.out.size))))
  have Ka := AX (Kd.R_reads' Ra9.out).2
  have Kb := AX (Kd.R_reads' Rb9.out).2
  have Kc := AX (Kd.R_reads' Rc9.out).2
  have S1 := AX (fk_same33 Ka.out.2 Ka.out.1 Kc.out.2 Kc.out.1 HSS.out)
  have S2 := AX (fk_same33 Kb.out.2 Kb.out.1 Kc.out.2 Kc.out.1 HSS.out)
  have h77 : w9.cell? ⟨g3, l0.length * 4, none⟩ = some (.int .i64 77) := D9.out.cell (p := ⟨g3, l0.length * 4, none⟩) HRM.out.2.2.2.2 |>.trans HRM.out.2.1
  go_upto_region 11 with (first
    | (go_at_call_of 10 (Value.slice Ava LA.length cva); (with_reducible refine (S1.out _ ?hq1).mono ?_); (case hq1 => rfl); rintro e w' ⟨rfl, q, rfl⟩)
    | (go_at_call_of 10 (Value.slice Avb LA.length cvb); (with_reducible refine (S2.out _ ?hq2).mono ?_); (case hq2 => rfl); rintro e w' ⟨rfl, q, rfl⟩))
  clear S1 S2 h77
  have W9 := AX (HB4.out.trans (D9.out.mono HB4.out.size))
  have OA := AX (show ∀ k, (Value.slice Ava LA.length cva).ownBlock = some k → w4.heap.size ≤ k ∧ k < w6.heap.size from fun k hk => HRva.out.1 k hk)
  go_wp2
  go_loopw [81] (fun vi wr => ∃ i : Nat, vi = .int .i64 i ∧ i ≤ l0.length ∧ Aside0 (Below w9.heap.size w9 wr)) (fun vi _ => l0.length - (intOf vi).toNat)
  case atStart => exact ⟨0, rfl, by omega, ⟨⟨rfl, rfl, rfl, Nat.le_refl _, fun _ _ => rfl⟩⟩⟩
  case round =>
    obtain ⟨i, rfl, hi, HL⟩ := hrel
    by_cases hlt : i < l0.length
    · have p0 : (0 : Int) ≤ (i : Int) := by omega
      have p1 : (i : Int) < (l0.length : Int) := by omega
      obtain ⟨adr, er, r0, r1, r2, r3⟩ := at_T25 (Kd.C_below HRM.out.1 (D9.out.trans (HL.out.mono D9.out.size))) i p0 p1
      obtain ⟨ad0, e0, i0, i1, i2, i3⟩ := at_T25 (Kd.C_below HR0.out (W9.out.trans (HL.out.mono W9.out.size))) i p0 p1
      cases er
      subst e0
      have ea : (⟨g3, 0, none⟩ : Addr).add (i * 4) = ⟨g3, i * 4, none⟩ := by unfold Addr.add; split <;> simp_all
      simp only [Int.toNat_natCast, ea] at r0 r1 r2 r3 i0 i1 i2 i3
      clear ea p0 p1
      have hlt2 : (i : Int) + 1 ≤ 9000000000000 := by have := HLEN.out; omega
      have hln : l0.length ≤ 9000000000000 := by have := HLEN.out; omega
      go_wp2
      go_quiet (fail)
      go_wp2
      go_roundw
      case rel => exact ⟨i + 1, by go_num, by omega, ⟨⟨HL.out.os, HL.out.tape, HL.out.output, HL.out.size, HL.out.block⟩⟩⟩
      case measure => simp [intOf]; omega
    · have Ra14 := AX (Kd.R_below Ra9.out HL.out)
      have Rb14 := AX (Kd.R_below Rb9.out HL.out)
      have Rc14 := AX (Kd.R_below Rc9.out HL.out)
      have W14 := AX (W9.out.trans (HL.out.mono W9.out.size))
      have HZ14 := AX HL.out.size
      go_wp2
      clear hlt hi HL
      rename World => wz
      have HL0 : Aside0 (FkL wz wz w4.heap.size (.slice Ava LA.length cva) LA.length (Value.slice Ava LA.length cva).ownBlock) := AX ⟨Kd.R_own Ra14.out, FkS.refl _ _, .inl rfl⟩
      go_loopw [96] (fun vi w' => ∃ i : Nat, vi = .int .i64 i ∧ i ≤ LA.length ∧ Aside0 (FkL wz w' w4.heap.size (.slice Ava LA.length cva) LA.length (Value.slice Ava LA.length cva).ownBlock)) (fun vi _ => LA.length - (intOf vi).toNat)
      case atStart => exact ⟨0, rfl, by omega, HL0⟩
      case round =>
        clear HL0
        obtain ⟨i, rfl, hi, HL⟩ := hrel
        by_cases hlt : i < LA.length
        · obtain ⟨ia, hia⟩ := HL.out.a
          obtain ⟨ga, u, eA, hgb, hnc, hcell, hfr⟩ := fk_cell (by decide) hia hlt
          have HIN := AX (And.intro HL.out hia)
          have hlc : (LA.length : Int) ≤ cva := by omega
          subst eA
          clear hia hgb hnc HL
          go_wp2
          go_roundw
          case rel =>
            have st := HIN.out.2.stored (i * 3) (.int .i64 20000)
            exact ⟨i + 1, by go_num, by omega, AX (HIN.out.1.putA st.1 st.2 (.inl rfl))⟩
          case measure => simp [intOf]; omega
        · have HL0 := HL
          clear HL
          go_wp2
          clear hlt hi
          go_loopw [9, 104] (fun vv vi w' => ∃ (i na : Nat) (va : Value), vv = va ∧ vi = .int .i64 i ∧ i ≤ 20 ∧ na ≤ LA.length + i ∧ Aside0 (FkL wz w' w4.heap.size va na (Value.slice Ava LA.length cva).ownBlock)) (fun _ vi _ => 20 - (intOf vi).toNat)
          case atStart => exact ⟨0, LA.length, _, rfl, rfl, by omega, by omega, HL0⟩
          case round =>
            clear HL0
            obtain ⟨i, na, va, rfl, rfl, hi, hna, HL⟩ := hrel
            by_cases hlt : i < 20
            · obtain ⟨ia, hia⟩ := HL.out.a
              have HIA := AX hia
              clear hia
              go_wp2_with ((with_reducible refine gate_builtin (b := .append) (xs := #[.tmp 106, .tmp 108]) rfl ?_); at_builtin; refine print_append_cells (w0 := wr) w4.heap.size rfl (.tmp 106) (.tmp 108) 26 33 (.agg #[(.int .i64 0), (.int .i64 0), (.int .i64 0)]) 3 24 rfl Try.underlying26 info33 rfl (by decide) (by decide) _ na ia [.int .i64 20000, .int .i64 0, .int .i64 0] rfl rfl rfl fk_one33 HIA.out (Below.refl _ _) ?h1 ?h2 ?_; (case h1 => have := HSZ.out; have := HZ14.out; have := HL.out.s.size; omega); (case h2 => omega); intro v1 wn ho hb hg hat; have HN := AX (HL.out.putA ho hg hat); clear ho hb hg hat)
              go_roundw
              case rel => exact ⟨i + 1, na + 1, v1, rfl, by go_num, by omega, by omega, HN⟩
              case measure => simp [intOf]; omega
            · have HS := AX HL.out.s
              clear HL hna
              have Rb := AX (HS.out.R Rb14.out (fun k hk => by have := OA.out k hk; omega))
              have Rc := AX (HS.out.R Rc14.out (fun k hk => by have := OA.out k hk; have := HSZ.out; omega))
              have W15 := AX (HS.out.below W14.out (fun k hk => by have := OA.out k hk; have := HSZ.out; omega))
              have Lb := AX (Kd.R_reads' Rb.out).2
              have Lc := AX (Kd.R_reads' Rc.out).2
              have S5 := AX (fk_same33 Lb.out.2 Lb.out.1 Lc.out.2 Lc.out.1 HSS.out)
              go_wp2_with (go_at_call_of 10 (Value.slice Avb LA.length cvb); (with_reducible refine (S5.out _ ?hq5).mono ?_); (case hq5 => rfl); rintro e w' ⟨rfl, q, rfl⟩)
              go_ret
              exact ⟨rfl, W15.out.trans ((fk_dr _ _).mono W15.out.size)⟩

end Go.Proofs.Ytegedhnbmclbkaa.PX
