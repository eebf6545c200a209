/- Functions of the program as plain Lean functions, each with a proof that the call in the machine answers just what the plain function says; condition: the plain function answers at all. -/
import Derived.Test.YtkggjjggcbcdiaaPXx0
import Derived.Test.YtkggjjggcbcdiaaPXx8
import Derived.Test.YtkggjjggcbcdiaaPXx9
namespace Go.Proofs.Ytkggjjggcbcdiaa.PX
open Go.RowKit Go.Proofs.YtkggjjggcbcdiaaW.PrintWords Go.Proofs.YtkggjjggcbcdiaaW.PrintLast Go.Proofs.YtkggjjggcbcdiaaW.PrintMore
attribute [local go_sem] max2_int min2_int max_two min_two max_three min_three max_four min_four   -- for this text's walks alone
set_option linter.unusedVariables false
set_option linter.unusedSimpArgs false

/-! ### zone_good: function 94 -/
def zone_good.f (k : Nat) (a0_0 : Int) (a0_1 : Int) (a0_2 : Int) (a0_3 : Int) : Option (Bool) := (civil_Nth.f k 2000 a0_0 a0_1 a0_2).bind fun bt384 => (if bt384.2.2.2 = 0 then (if a0_3 ≥ 60 then (some (decide (a0_3 ≤ 1380))) else (some false)) else (some false))
theorem zone_good.mono : ∀ a0 a1 a2 a3 k, LeO (zone_good.f k a0 a1 a2 a3) (zone_good.f (k + 1) a0 a1 a2 a3) := by
 intro a0 a1 a2 a3 k
 unfold zone_good.f
 repeat' first
   | (with_reducible exact civil_Nth.mono _ _ _ _ _)
   | (with_reducible exact LeO.refl _)
   | (with_reducible exact LeO.none _)
   | (with_reducible refine LeO.ite ?_ ?_)
   | (with_reducible refine LeO.bind ?_ (fun _ => ?_))
set_option maxHeartbeats 8000000 in
set_option maxRecDepth 100000 in
theorem zone_good.calls (k : Nat) (a0_0 : Int) (a0_1 : Int) (a0_2 : Int) (a0_3 : Int) (r : Bool) (w : World) (h : zone_good.f k a0_0 a0_1 a0_2 a0_3 = some r) :
  Calls Try.prog 94 #[.agg #[.int .i64 a0_0, .int .i64 a0_1, .int .i64 a0_2, .int .i64 a0_3]] w fun e w' => e = .returned (.bool r) ∧ Below w.heap.size w w' := by
 have hu40 := Try.underlying40
 have hu24 := Try.underlying24
 have HB := AX (Below.refl w.heap.size w)
 have H : ((civil_Nth.f k 2000 a0_0 a0_1 a0_2).bind fun bt384 => (if bt384.2.2.2 = 0 then (if a0_3 ≥ 60 then (some (decide (a0_3 ≤ 1380))) else (some false)) else (some false))) = some r := h
 clear h
 replace H := Option.bind_eq_some_iff.mp H
 obtain ⟨⟨t384, t385, t386, t387⟩, A20, H⟩ := H
 replace H : (if t387 = 0 then (if a0_3 ≥ 60 then (some (decide (a0_3 ≤ 1380))) else (some false)) else (some false)) = some r := H
 have A2 := AX A20
 clear A20
 by_cases c3 : t387 = 0
 ·rw [if_pos c3] at H
  have c3b0 : (t387 == 0) = true := beq_iff_eq.mpr c3
  have c3b1 : (t387 != 0) = false := bne_eq_false_iff_eq.mpr c3
  clear c3
  by_cases c4 : a0_3 ≥ 60
  ·rw [if_pos c4] at H
   have c4b0 : decide (60 ≤ a0_3) = true := decide_eq_true c4
   clear c4
   obtain rfl := Option.some.inj H
   go_enter Try.func94, Try.ntmps94
   go_wp2_with (first | ((with_reducible refine gate_dst (N := 1) rfl ?_); refine bx 1 #[.int .i64 a0_0, .int .i64 a0_1, .int .i64 a0_2, .int .i64 a0_3] 40 ?_; intro gb383 hg w5 hbox hb; have BK383 := AX (hbox); have GW383 := gwl (w := w) hg bw; have GE383 := GW383; replace HB := AX (below_step bw hb); clear hb hbox hg; obtain ⟨hcz6_0, hcz6_1, hcz6_2, hcz6_3⟩ := blkC4 (w := w5) BK383.out; obtain ⟨hfz6_0, hfz6_1, hfz6_2, hfz6_3⟩ := blkF4 BK383.out) | ((with_reducible refine gate_callee (f := 66) rfl ?_); refine gL (some 12) Try.func66 #[.int .i64 2000, .int .i64 a0_0, .int .i64 a0_1, .int .i64 a0_2] ?_; (with_reducible refine (civil_Nth.calls k 2000 a0_0 a0_1 a0_2 t384 t385 t386 t387 _ A2.out).mono ?_); rintro e w7 ⟨rfl, hb⟩; refine ⟨_, rfl, ?_⟩; replace BK383 := AX (bkb BK383 hb); replace HB := AX (below_step bw hb); (try clear hb)) | ((with_reducible refine gate_dst (N := 3) rfl ?_); refine bx 3 #[.int .i64 0, .int .i64 0, .int .i64 0] 24 ?_; intro gb388 hg w8 hbox hb; have BK388 := AX (hbox); have GW388 := gwl (w := w) hg bw; have GE388 := GW388; have NB383_388 := nbl hg (bkn BK383); have NB388_383 := nbg hg (bkn BK383); replace BK383 := AX (bkb BK383 hb); replace HB := AX (below_step bw hb); clear hb hbox hg; have hnb9 := NB388_383.out; have hnc9 := NB383_388.out; obtain ⟨hcz10_0, hcz10_1, hcz10_2⟩ := blkC3 (w := w8) BK388.out; obtain ⟨hfz10_0, hfz10_1, hfz10_2⟩ := blkF3 BK388.out; obtain ⟨hcz11_0, hcz11_1, hcz11_2, hcz11_3⟩ := blkC4 (w := w8) BK383.out; obtain ⟨hfz11_0, hfz11_1, hfz11_2, hfz11_3⟩ := blkF4 BK383.out))
   go_ret
   exact ⟨by first | rfl | (simp [errW_none, errW_some] <;> rfl) | (simp [*, errW_none, errW_some] <;> rfl), bw⟩
  ·rw [if_neg c4] at H
   have c4b0 : decide (60 ≤ a0_3) = false := decide_eq_false c4
   clear c4
   obtain rfl := Option.some.inj H
   go_enter Try.func94, Try.ntmps94
   go_wp2_with (first | ((with_reducible refine gate_dst (N := 1) rfl ?_); refine bx 1 #[.int .i64 a0_0, .int .i64 a0_1, .int .i64 a0_2, .int .i64 a0_3] 40 ?_; intro gb383 hg w12 hbox hb; have BK383 := AX (hbox); have GW383 := gwl (w := w) hg bw; have GE383 := GW383; replace HB := AX (below_step bw hb); clear hb hbox hg; obtain ⟨hcz13_0, hcz13_1, hcz13_2, hcz13_3⟩ := blkC4 (w := w12) BK383.out; obtain ⟨hfz13_0, hfz13_1, hfz13_2, hfz13_3⟩ := blkF4 BK383.out) | ((with_reducible refine gate_callee (f := 66) rfl ?_); refine gL (some 12) Try.func66 #[.int .i64 2000, .int .i64 a0_0, .int .i64 a0_1, .int .i64 a0_2] ?_; (with_reducible refine (civil_Nth.calls k 2000 a0_0 a0_1 a0_2 t384 t385 t386 t387 _ A2.out).mono ?_); rintro e w14 ⟨rfl, hb⟩; refine ⟨_, rfl, ?_⟩; replace BK383 := AX (bkb BK383 hb); replace HB := AX (below_step bw hb); (try clear hb)) | ((with_reducible refine gate_dst (N := 3) rfl ?_); refine bx 3 #[.int .i64 0, .int .i64 0, .int .i64 0] 24 ?_; intro gb388 hg w15 hbox hb; have BK388 := AX (hbox); have GW388 := gwl (w := w) hg bw; have GE388 := GW388; have NB383_388 := nbl hg (bkn BK383); have NB388_383 := nbg hg (bkn BK383); replace BK383 := AX (bkb BK383 hb); replace HB := AX (below_step bw hb); clear hb hbox hg; have hnb16 := NB388_383.out; have hnc16 := NB383_388.out; obtain ⟨hcz17_0, hcz17_1, hcz17_2⟩ := blkC3 (w := w15) BK388.out; obtain ⟨hfz17_0, hfz17_1, hfz17_2⟩ := blkF3 BK388.out; obtain ⟨hcz18_0, hcz18_1, hcz18_2, hcz18_3⟩ := blkC4 (w := w15) BK383.out; obtain ⟨hfz18_0, hfz18_1, hfz18_2, hfz18_3⟩ := blkF4 BK383.out))
   go_ret
   exact ⟨by first | rfl | (simp [errW_none, errW_some] <;> rfl) | (simp [*, errW_none, errW_some] <;> rfl), bw⟩
 ·rw [if_neg c3] at H
  have c3b0 : (t387 == 0) = false := beq_eq_false_iff_ne.mpr c3
  have c3b1 : (t387 != 0) = true := bne_iff_ne.mpr c3
  obtain rfl := Option.some.inj H
  go_enter Try.func94, Try.ntmps94
  go_wp2_with (first | ((with_reducible refine gate_dst (N := 1) rfl ?_); refine bx 1 #[.int .i64 a0_0, .int .i64 a0_1, .int .i64 a0_2, .int .i64 a0_3] 40 ?_; intro gb383 hg w19 hbox hb; have BK383 := AX (hbox); have GW383 := gwl (w := w) hg bw; have GE383 := GW383; replace HB := AX (below_step bw hb); clear hb hbox hg; obtain ⟨hcz20_0, hcz20_1, hcz20_2, hcz20_3⟩ := blkC4 (w := w19) BK383.out; obtain ⟨hfz20_0, hfz20_1, hfz20_2, hfz20_3⟩ := blkF4 BK383.out) | ((with_reducible refine gate_callee (f := 66) rfl ?_); refine gL (some 12) Try.func66 #[.int .i64 2000, .int .i64 a0_0, .int .i64 a0_1, .int .i64 a0_2] ?_; (with_reducible refine (civil_Nth.calls k 2000 a0_0 a0_1 a0_2 t384 t385 t386 t387 _ A2.out).mono ?_); rintro e w21 ⟨rfl, hb⟩; refine ⟨_, rfl, ?_⟩; replace BK383 := AX (bkb BK383 hb); replace HB := AX (below_step bw hb); (try clear hb)) | ((with_reducible refine gate_dst (N := 3) rfl ?_); refine bx 3 #[.int .i64 0, .int .i64 0, .int .i64 0] 24 ?_; intro gb388 hg w22 hbox hb; have BK388 := AX (hbox); have GW388 := gwl (w := w) hg bw; have GE388 := GW388; have NB383_388 := nbl hg (bkn BK383); have NB388_383 := nbg hg (bkn BK383); replace BK383 := AX (bkb BK383 hb); replace HB := AX (below_step bw hb); clear hb hbox hg; have hnb23 := NB388_383.out; have hnc23 := NB383_388.out; obtain ⟨hcz24_0, hcz24_1, hcz24_2⟩ := blkC3 (w := w22) BK388.out; obtain ⟨hfz24_0, hfz24_1, hfz24_2⟩ := blkF3 BK388.out))
  go_ret
  exact ⟨by first | rfl | (simp [errW_none, errW_some] <;> rfl) | (simp [*, errW_none, errW_some] <;> rfl), bw⟩

/-! ### zone_Check: function 76 -/
mutual
def zone_Check.j0 : Nat → Bool → Int → Int → Int → Int → Int → Int → Int → Int → Int → Int → Option (Int)
 | 0, _, _, _, _, _, _, _, _, _, _, _ => none
 | k + 1, x3, x390000, x390001, x390002, x390003, x390004, x390005, x390006, x390007, x390008, x390009 => if x3 = true then (some 8) else (if x390001 = 0 then (some 0) else (if x390001 = 30 then (zone_Check.j1 k false x390000 x390001 x390002 x390003 x390004 x390005 x390006 x390007 x390008 x390009) else (zone_Check.j1 k (x390001 != 60) x390000 x390001 x390002 x390003 x390004 x390005 x390006 x390007 x390008 x390009)))
def zone_Check.j1 : Nat → Bool → Int → Int → Int → Int → Int → Int → Int → Int → Int → Int → Option (Int)
 | 0, _, _, _, _, _, _, _, _, _, _, _ => none
 | k + 1, x22, x390000, x390001, x390002, x390003, x390004, x390005, x390006, x390007, x390008, x390009 => if x22 = true then (some 8) else ((zone_good.f k x390002 x390003 x390004 x390005).bind fun t390 => (if t390 = true then ((zone_good.f k x390006 x390007 x390008 x390009).bind fun t391 => (if t391 = true then (if x390002 = x390006 then (some 8) else (some 0)) else (some 8))) else (some 8)))
end
def zone_Check.f (k : Nat) (a0_0 : Int) (a0_1 : Int) (a0_2 : Int) (a0_3 : Int) (a0_4 : Int) (a0_5 : Int) (a0_6 : Int) (a0_7 : Int) (a0_8 : Int) (a0_9 : Int) : Option (Int) := if a0_0 < (-720) then (zone_Check.j0 k true a0_0 a0_1 a0_2 a0_3 a0_4 a0_5 a0_6 a0_7 a0_8 a0_9) else (if a0_0 > 840 then (zone_Check.j0 k true a0_0 a0_1 a0_2 a0_3 a0_4 a0_5 a0_6 a0_7 a0_8 a0_9) else (zone_Check.j0 k ((Int.tmod a0_0 15) != 0) a0_0 a0_1 a0_2 a0_3 a0_4 a0_5 a0_6 a0_7 a0_8 a0_9))
theorem zone_Check.mono_l : ∀ k, (∀ y0 y1 y2 y3 y4 y5 y6 y7 y8 y9 y10, LeO (zone_Check.j0 k y0 y1 y2 y3 y4 y5 y6 y7 y8 y9 y10) (zone_Check.j0 (k + 1) y0 y1 y2 y3 y4 y5 y6 y7 y8 y9 y10)) ∧ (∀ y0 y1 y2 y3 y4 y5 y6 y7 y8 y9 y10, LeO (zone_Check.j1 k y0 y1 y2 y3 y4 y5 y6 y7 y8 y9 y10) (zone_Check.j1 (k + 1) y0 y1 y2 y3 y4 y5 y6 y7 y8 y9 y10))
 | 0 => ⟨fun _ _ _ _ _ _ _ _ _ _ _ r h => by simp [zone_Check.j0] at h, fun _ _ _ _ _ _ _ _ _ _ _ r h => by simp [zone_Check.j1] at h⟩
 | k + 1 => by
  obtain ⟨ih0, ih1⟩ := zone_Check.mono_l k
  refine ⟨?_, ?_⟩
  ·intro y0 y1 y2 y3 y4 y5 y6 y7 y8 y9 y10
   unfold zone_Check.j0
   repeat' first
   | (with_reducible exact ih0 _ _ _ _ _ _ _ _ _ _ _)
   | (with_reducible exact ih1 _ _ _ _ _ _ _ _ _ _ _)
   | (with_reducible exact zone_good.mono _ _ _ _ _)
   | (with_reducible exact LeO.refl _)
   | (with_reducible exact LeO.none _)
   | (with_reducible refine LeO.ite ?_ ?_)
   | (with_reducible refine LeO.bind ?_ (fun _ => ?_))
  ·intro y0 y1 y2 y3 y4 y5 y6 y7 y8 y9 y10
   unfold zone_Check.j1
   repeat' first
   | (with_reducible exact ih0 _ _ _ _ _ _ _ _ _ _ _)
   | (with_reducible exact ih1 _ _ _ _ _ _ _ _ _ _ _)
   | (with_reducible exact zone_good.mono _ _ _ _ _)
   | (with_reducible exact LeO.refl _)
   | (with_reducible exact LeO.none _)
   | (with_reducible refine LeO.ite ?_ ?_)
   | (with_reducible refine LeO.bind ?_ (fun _ => ?_))
theorem zone_Check.mono : ∀ a0 a1 a2 a3 a4 a5 a6 a7 a8 a9 k, LeO (zone_Check.f k a0 a1 a2 a3 a4 a5 a6 a7 a8 a9) (zone_Check.f (k + 1) a0 a1 a2 a3 a4 a5 a6 a7 a8 a9) := by
 intro a0 a1 a2 a3 a4 a5 a6 a7 a8 a9 k
 obtain ⟨ih0, ih1⟩ := zone_Check.mono_l k
 unfold zone_Check.f
 repeat' first
   | (with_reducible exact ih0 _ _ _ _ _ _ _ _ _ _ _)
   | (with_reducible exact ih1 _ _ _ _ _ _ _ _ _ _ _)
   | (with_reducible exact zone_good.mono _ _ _ _ _)
   | (with_reducible exact LeO.refl _)
   | (with_reducible exact LeO.none _)
   | (with_reducible refine LeO.ite ?_ ?_)
   | (with_reducible refine LeO.bind ?_ (fun _ => ?_))
set_option maxHeartbeats 8000000 in
set_option maxRecDepth 100000 in
theorem zone_Check.calls (k : Nat) (a0_0 : Int) (a0_1 : Int) (a0_2 : Int) (a0_3 : Int) (a0_4 : Int) (a0_5 : Int) (a0_6 : Int) (a0_7 : Int) (a0_8 : Int) (a0_9 : Int) (r : Int) (w : World) (h : zone_Check.f k a0_0 a0_1 a0_2 a0_3 a0_4 a0_5 a0_6 a0_7 a0_8 a0_9 = some r) :
  Calls Try.prog 76 #[.agg #[.int .i64 a0_0, .int .i64 a0_1, .int .i64 a0_2, .int .i64 a0_3, .int .i64 a0_4, .int .i64 a0_5, .int .i64 a0_6, .int .i64 a0_7, .int .i64 a0_8, .int .i64 a0_9]] w fun e w' => e = .returned (.int .i64 r) ∧ Below w.heap.size w w' := by
 have hu42 := Try.underlying42
 have hu40 := Try.underlying40
 have HB := AX (Below.refl w.heap.size w)
 have H : (if a0_0 < (-720) then (zone_Check.j0 k true a0_0 a0_1 a0_2 a0_3 a0_4 a0_5 a0_6 a0_7 a0_8 a0_9) else (if a0_0 > 840 then (zone_Check.j0 k true a0_0 a0_1 a0_2 a0_3 a0_4 a0_5 a0_6 a0_7 a0_8 a0_9) else (zone_Check.j0 k ((Int.tmod a0_0 15) != 0) a0_0 a0_1 a0_2 a0_3 a0_4 a0_5 a0_6 a0_7 a0_8 a0_9))) = some r := h
 clear h
 have HC2 := AX H
 clear H
 go_enter Try.func76, Try.ntmps76
 go_upto_region 1 with (first | ((with_reducible refine gate_dst (N := 1) rfl ?_); refine bx 1 #[.int .i64 a0_0, .int .i64 a0_1, .int .i64 a0_2, .int .i64 a0_3, .int .i64 a0_4, .int .i64 a0_5, .int .i64 a0_6, .int .i64 a0_7, .int .i64 a0_8, .int .i64 a0_9] 42 ?_; intro gb389 hg w3 hbox hb; have BK389 := AX (hbox); have GW389 := gwl (w := w) hg bw; have GE389 := GW389; replace HB := AX (below_step bw hb); clear hb hbox hg))
 (try simp only [Act.put, List.setIfInBounds_toArray, List.set_cons_zero, List.set_cons_succ])
 go_cut [3] (fun v3 wc => ∃ (kq : Nat) (x3_1 : Bool), v3 = .bool x3_1 ∧ Aside0 (zone_Check.j0 kq x3_1 a0_0 a0_1 a0_2 a0_3 a0_4 a0_5 a0_6 a0_7 a0_8 a0_9 = some r) ∧ Aside0 (kq ≤ k) ∧ Aside0 (wc.heap[gb389]? = some (.cells #[.int .i64 a0_0, .int .i64 a0_1, .int .i64 a0_2, .int .i64 a0_3, .int .i64 a0_4, .int .i64 a0_5, .int .i64 a0_6, .int .i64 a0_7, .int .i64 a0_8, .int .i64 a0_9] 42 (0, 0))) ∧ Aside0 (Below w.heap.size w wc))
 case first =>
  have H := HC2.out
  clear HC2
  by_cases c4 : a0_0 < (-720)
  ·rw [if_pos c4] at H
   have c4b0 : decide (a0_0 < (-720)) = true := decide_eq_true c4
   clear c4
   (first | rw [c4b0] | (simp only [i64_w, i32_w]; rw [c4b0]) | skip)
   have H' := AX H
   clear H
   obtain ⟨hcz5_0, hcz5_1, hcz5_2, hcz5_3, hcz5_4, hcz5_5, hcz5_6, hcz5_7, hcz5_8, hcz5_9⟩ := blkC10 (w := w3) BK389.out
   obtain ⟨hfz5_0, hfz5_1, hfz5_2, hfz5_3, hfz5_4, hfz5_5, hfz5_6, hfz5_7, hfz5_8, hfz5_9⟩ := blkF10 BK389.out
   go_wp2
   go_meet
   case rel => exact ⟨_, (true), (by first | rfl | (simp; done) | (simp [*]; done)), H', ⟨by first | omega | exact Nat.le_refl _⟩, ⟨bkn BK389⟩, ⟨bw⟩⟩
  ·rw [if_neg c4] at H
   have c4b0 : decide (a0_0 < (-720)) = false := decide_eq_false c4
   clear c4
   (first | rw [c4b0] | (simp only [i64_w, i32_w]; rw [c4b0]) | skip)
   by_cases c6 : a0_0 > 840
   ·rw [if_pos c6] at H
    have c6b0 : decide (840 < a0_0) = true := decide_eq_true c6
    clear c6
    have H' := AX H
    clear H
    obtain ⟨hcz7_0, hcz7_1, hcz7_2, hcz7_3, hcz7_4, hcz7_5, hcz7_6, hcz7_7, hcz7_8, hcz7_9⟩ := blkC10 (w := w3) BK389.out
    obtain ⟨hfz7_0, hfz7_1, hfz7_2, hfz7_3, hfz7_4, hfz7_5, hfz7_6, hfz7_7, hfz7_8, hfz7_9⟩ := blkF10 BK389.out
    go_wp2
    go_meet
    case rel => exact ⟨_, (true), (by first | rfl | (simp; done) | (simp [*]; done)), H', ⟨by first | omega | exact Nat.le_refl _⟩, ⟨bkn BK389⟩, ⟨bw⟩⟩
   ·rw [if_neg c6] at H
    have c6b0 : decide (840 < a0_0) = false := decide_eq_false c6
    clear c6
    have H' := AX H
    clear H
    obtain ⟨hcz8_0, hcz8_1, hcz8_2, hcz8_3, hcz8_4, hcz8_5, hcz8_6, hcz8_7, hcz8_8, hcz8_9⟩ := blkC10 (w := w3) BK389.out
    obtain ⟨hfz8_0, hfz8_1, hfz8_2, hfz8_3, hfz8_4, hfz8_5, hfz8_6, hfz8_7, hfz8_8, hfz8_9⟩ := blkF10 BK389.out
    go_wp2
    go_meet
    case rel => exact ⟨_, (((Int.tmod a0_0 15) != 0)), (by first | rfl | (simp; done) | (simp [*]; done)), H', ⟨by first | omega | exact Nat.le_refl _⟩, ⟨bkn BK389⟩, ⟨bw⟩⟩
 case rest =>
  clear HC2
  obtain ⟨kq, x3_1, rfl, HA, HJ1, BK389, HB⟩ := hcut
  cases kq with
  | zero => exact absurd HA.out (by simp [zone_Check.j0])
  | succ kj1 =>
   have H := HA.out
   clear HA
   simp only [zone_Check.j0] at H
   by_cases c9 : x3_1 = true
   ·subst c9
    have H1 : (some 8) = some r := by rw [if_pos rfl] at H; exact H
    clear H
    have H := H1
    clear H1
    obtain rfl := Option.some.inj H
    go_wp2
    go_ret
    exact ⟨by first | rfl | (simp [errW_none, errW_some] <;> rfl) | (simp [*, errW_none, errW_some] <;> rfl), bw⟩
   ·replace c9 := Bool.eq_false_iff.mpr c9
    subst c9
    have H1 : (if a0_1 = 0 then (some 0) else (if a0_1 = 30 then (zone_Check.j1 kj1 false a0_0 a0_1 a0_2 a0_3 a0_4 a0_5 a0_6 a0_7 a0_8 a0_9) else (zone_Check.j1 kj1 (a0_1 != 60) a0_0 a0_1 a0_2 a0_3 a0_4 a0_5 a0_6 a0_7 a0_8 a0_9))) = some r := by rw [if_neg (show ¬ (false = true) by decide)] at H; exact H
    clear H
    have H := H1
    clear H1
    by_cases c10 : a0_1 = 0
    ·rw [if_pos c10] at H
     have c10b0 : (a0_1 == 0) = true := beq_iff_eq.mpr c10
     have c10b1 : (a0_1 != 0) = false := bne_eq_false_iff_eq.mpr c10
     clear c10
     obtain rfl := Option.some.inj H
     obtain ⟨hcz11_0, hcz11_1, hcz11_2, hcz11_3, hcz11_4, hcz11_5, hcz11_6, hcz11_7, hcz11_8, hcz11_9⟩ := blkC10 (w := wc) BK389.out
     obtain ⟨hfz11_0, hfz11_1, hfz11_2, hfz11_3, hfz11_4, hfz11_5, hfz11_6, hfz11_7, hfz11_8, hfz11_9⟩ := blkF10 BK389.out
     go_wp2
     go_ret
     exact ⟨by first | rfl | (simp [errW_none, errW_some] <;> rfl) | (simp [*, errW_none, errW_some] <;> rfl), bw⟩
    ·rw [if_neg c10] at H
     have c10b0 : (a0_1 == 0) = false := beq_eq_false_iff_ne.mpr c10
     have c10b1 : (a0_1 != 0) = true := bne_iff_ne.mpr c10
     have HC12 := AX H
     clear H
     obtain ⟨hcz13_0, hcz13_1, hcz13_2, hcz13_3, hcz13_4, hcz13_5, hcz13_6, hcz13_7, hcz13_8, hcz13_9⟩ := blkC10 (w := wc) BK389.out
     obtain ⟨hfz13_0, hfz13_1, hfz13_2, hfz13_3, hfz13_4, hfz13_5, hfz13_6, hfz13_7, hfz13_8, hfz13_9⟩ := blkF10 BK389.out
     go_upto_region 5 with (fail)
     go_cut [22] (fun v22 wc => ∃ (kq : Nat) (x22_11 : Bool), v22 = .bool x22_11 ∧ Aside0 (zone_Check.j1 kq x22_11 a0_0 a0_1 a0_2 a0_3 a0_4 a0_5 a0_6 a0_7 a0_8 a0_9 = some r) ∧ Aside0 (kq ≤ kj1) ∧ Aside0 (wc.heap[gb389]? = some (.cells #[.int .i64 a0_0, .int .i64 a0_1, .int .i64 a0_2, .int .i64 a0_3, .int .i64 a0_4, .int .i64 a0_5, .int .i64 a0_6, .int .i64 a0_7, .int .i64 a0_8, .int .i64 a0_9] 42 (0, 0))) ∧ Aside0 (Below w.heap.size w wc))
     case first =>
      have H := HC12.out
      clear HC12
      by_cases c14 : a0_1 = 30
      ·rw [if_pos c14] at H
       have c14b0 : (a0_1 == 30) = true := beq_iff_eq.mpr c14
       have c14b1 : (a0_1 != 30) = false := bne_eq_false_iff_eq.mpr c14
       clear c14
       (first | rw [c14b0] | (simp only [i64_w, i32_w]; rw [c14b0]) | skip)
       have H' := AX H
       clear H
       obtain ⟨hcz15_0, hcz15_1, hcz15_2, hcz15_3, hcz15_4, hcz15_5, hcz15_6, hcz15_7, hcz15_8, hcz15_9⟩ := blkC10 (w := wc) BK389.out
       obtain ⟨hfz15_0, hfz15_1, hfz15_2, hfz15_3, hfz15_4, hfz15_5, hfz15_6, hfz15_7, hfz15_8, hfz15_9⟩ := blkF10 BK389.out
       go_wp2
       go_meet
       case rel => exact ⟨_, (false), (by first | rfl | (simp; done) | (simp [*]; done)), H', ⟨by have := HJ1.out; first | omega | exact Nat.le_refl _⟩, ⟨bkn BK389⟩, ⟨bw⟩⟩
      ·rw [if_neg c14] at H
       have c14b0 : (a0_1 == 30) = false := beq_eq_false_iff_ne.mpr c14
       have c14b1 : (a0_1 != 30) = true := bne_iff_ne.mpr c14
       (first | rw [c14b0] | (simp only [i64_w, i32_w]; rw [c14b0]) | skip)
       have H' := AX H
       clear H
       obtain ⟨hcz16_0, hcz16_1, hcz16_2, hcz16_3, hcz16_4, hcz16_5, hcz16_6, hcz16_7, hcz16_8, hcz16_9⟩ := blkC10 (w := wc) BK389.out
       obtain ⟨hfz16_0, hfz16_1, hfz16_2, hfz16_3, hfz16_4, hfz16_5, hfz16_6, hfz16_7, hfz16_8, hfz16_9⟩ := blkF10 BK389.out
       go_wp2
       go_meet
       case rel => exact ⟨_, ((a0_1 != 60)), (by first | rfl | (simp; done) | (simp [*]; done)), H', ⟨by have := HJ1.out; first | omega | exact Nat.le_refl _⟩, ⟨bkn BK389⟩, ⟨bw⟩⟩
     case rest =>
      clear HC12
      try clear c9
      try clear c10
      try clear c10b0 c10b1
      try clear hcz13_0 hcz13_1 hcz13_2 hcz13_3 hcz13_4 hcz13_5 hcz13_6 hcz13_7 hcz13_8 hcz13_9
      try clear hfz13_0 hfz13_1 hfz13_2 hfz13_3 hfz13_4 hfz13_5 hfz13_6 hfz13_7 hfz13_8 hfz13_9
      obtain ⟨kq, x22_11, rfl, HA, HJ11, BK389, HB⟩ := hcut
      cases kq with
      | zero => exact absurd HA.out (by simp [zone_Check.j1])
      | succ kj11 =>
       have H := HA.out
       clear HA
       simp only [zone_Check.j1] at H
       by_cases c17 : x22_11 = true
       ·subst c17
        have H1 : (some 8) = some r := by rw [if_pos rfl] at H; exact H
        clear H
        have H := H1
        clear H1
        obtain rfl := Option.some.inj H
        go_wp2
        go_ret
        exact ⟨by first | rfl | (simp [errW_none, errW_some] <;> rfl) | (simp [*, errW_none, errW_some] <;> rfl), bw⟩
       ·replace c17 := Bool.eq_false_iff.mpr c17
        subst c17
        have H1 : ((zone_good.f kj11 a0_2 a0_3 a0_4 a0_5).bind fun t390 => (if t390 = true then ((zone_good.f kj11 a0_6 a0_7 a0_8 a0_9).bind fun t391 => (if t391 = true then (if a0_2 = a0_6 then (some 8) else (some 0)) else (some 8))) else (some 8))) = some r := by rw [if_neg (show ¬ (false = true) by decide)] at H; exact H
        clear H
        have H := H1
        clear H1
        replace H := Option.bind_eq_some_iff.mp H
        obtain ⟨t390, A180, H⟩ := H
        replace H : (if t390 = true then ((zone_good.f kj11 a0_6 a0_7 a0_8 a0_9).bind fun t391 => (if t391 = true then (if a0_2 = a0_6 then (some 8) else (some 0)) else (some 8))) else (some 8)) = some r := H
        have A18 := AX A180
        clear A180
        by_cases c19 : t390 = true
        ·subst c19
         have H1 : ((zone_good.f kj11 a0_6 a0_7 a0_8 a0_9).bind fun t391 => (if t391 = true then (if a0_2 = a0_6 then (some 8) else (some 0)) else (some 8))) = some r := by rw [if_pos rfl] at H; exact H
         clear H
         have H := H1
         clear H1
         replace H := Option.bind_eq_some_iff.mp H
         obtain ⟨t391, A200, H⟩ := H
         replace H : (if t391 = true then (if a0_2 = a0_6 then (some 8) else (some 0)) else (some 8)) = some r := H
         have A20 := AX A200
         clear A200
         by_cases c21 : t391 = true
         ·subst c21
          have H1 : (if a0_2 = a0_6 then (some 8) else (some 0)) = some r := by rw [if_pos rfl] at H; exact H
          clear H
          have H := H1
          clear H1
          by_cases c22 : a0_2 = a0_6
          ·rw [if_pos c22] at H
           have c22b0 : (a0_2 == a0_6) = true := beq_iff_eq.mpr c22
           have c22b1 : (a0_2 != a0_6) = false := bne_eq_false_iff_eq.mpr c22
           clear c22
           obtain rfl := Option.some.inj H
           obtain ⟨hcz23_0, hcz23_1, hcz23_2, hcz23_3, hcz23_4, hcz23_5, hcz23_6, hcz23_7, hcz23_8, hcz23_9⟩ := blkC10 (w := wc) BK389.out
           obtain ⟨hfz23_0, hfz23_1, hfz23_2, hfz23_3, hfz23_4, hfz23_5, hfz23_6, hfz23_7, hfz23_8, hfz23_9⟩ := blkF10 BK389.out
           go_wp2_with (first | ((with_reducible refine gate_callee (f := 94) rfl ?_); refine gL (some 33) Try.func94 #[.agg #[.int .i64 a0_2, .int .i64 a0_3, .int .i64 a0_4, .int .i64 a0_5]] ?_; (with_reducible refine (zone_good.calls kj11 a0_2 a0_3 a0_4 a0_5 true _ A18.out).mono ?_); rintro e w24 ⟨rfl, hb⟩; refine ⟨_, rfl, ?_⟩; replace BK389 := AX (bkb BK389 hb); replace HB := AX (below_step bw hb); (try clear hb); obtain ⟨hcz25_0, hcz25_1, hcz25_2, hcz25_3, hcz25_4, hcz25_5, hcz25_6, hcz25_7, hcz25_8, hcz25_9⟩ := blkC10 (w := w24) BK389.out; obtain ⟨hfz25_0, hfz25_1, hfz25_2, hfz25_3, hfz25_4, hfz25_5, hfz25_6, hfz25_7, hfz25_8, hfz25_9⟩ := blkF10 BK389.out) | ((with_reducible refine gate_callee (f := 94) rfl ?_); refine gL (some 37) Try.func94 #[.agg #[.int .i64 a0_6, .int .i64 a0_7, .int .i64 a0_8, .int .i64 a0_9]] ?_; (with_reducible refine (zone_good.calls kj11 a0_6 a0_7 a0_8 a0_9 true _ A20.out).mono ?_); rintro e w26 ⟨rfl, hb⟩; refine ⟨_, rfl, ?_⟩; replace BK389 := AX (bkb BK389 hb); replace HB := AX (below_step bw hb); (try clear hb); obtain ⟨hcz27_0, hcz27_1, hcz27_2, hcz27_3, hcz27_4, hcz27_5, hcz27_6, hcz27_7, hcz27_8, hcz27_9⟩ := blkC10 (w := w26) BK389.out; obtain ⟨hfz27_0, hfz27_1, hfz27_2, hfz27_3, hfz27_4, hfz27_5, hfz27_6, hfz27_7, hfz27_8, hfz27_9⟩ := blkF10 BK389.out))
           go_ret
           exact ⟨by first | rfl | (simp [errW_none, errW_some] <;> rfl) | (simp [*, errW_none, errW_some] <;> rfl), bw⟩
          ·rw [if_neg c22] at H
           have c22b0 : (a0_2 == a0_6) = false := beq_eq_false_iff_ne.mpr c22
           have c22b1 : (a0_2 != a0_6) = true := bne_iff_ne.mpr c22
           obtain rfl := Option.some.inj H
           obtain ⟨hcz28_0, hcz28_1, hcz28_2, hcz28_3, hcz28_4, hcz28_5, hcz28_6, hcz28_7, hcz28_8, hcz28_9⟩ := blkC10 (w := wc) BK389.out
           obtain ⟨hfz28_0, hfz28_1, hfz28_2, hfz28_3, hfz28_4, hfz28_5, hfz28_6, hfz28_7, hfz28_8, hfz28_9⟩ := blkF10 BK389.out
           go_wp2_with (first | ((with_reducible refine gate_callee (f := 94) rfl ?_); refine gL (some 33) Try.func94 #[.agg #[.int .i64 a0_2, .int .i64 a0_3, .int .i64 a0_4, .int .i64 a0_5]] ?_; (with_reducible refine (zone_good.calls kj11 a0_2 a0_3 a0_4 a0_5 true _ A18.out).mono ?_); rintro e w29 ⟨rfl, hb⟩; refine ⟨_, rfl, ?_⟩; replace BK389 := AX (bkb BK389 hb); replace HB := AX (below_step bw hb); (try clear hb); obtain ⟨hcz30_0, hcz30_1, hcz30_2, hcz30_3, hcz30_4, hcz30_5, hcz30_6, hcz30_7, hcz30_8, hcz30_9⟩ := blkC10 (w := w29) BK389.out; obtain ⟨hfz30_0, hfz30_1, hfz30_2, hfz30_3, hfz30_4, hfz30_5, hfz30_6, hfz30_7, hfz30_8, hfz30_9⟩ := blkF10 BK389.out) | ((with_reducible refine gate_callee (f := 94) rfl ?_); refine gL (some 37) Try.func94 #[.agg #[.int .i64 a0_6, .int .i64 a0_7, .int .i64 a0_8, .int .i64 a0_9]] ?_; (with_reducible refine (zone_good.calls kj11 a0_6 a0_7 a0_8 a0_9 true _ A20.out).mono ?_); rintro e w31 ⟨rfl, hb⟩; refine ⟨_, rfl, ?_⟩; replace BK389 := AX (bkb BK389 hb); replace HB := AX (below_step bw hb); (try clear hb); obtain ⟨hcz32_0, hcz32_1, hcz32_2, hcz32_3, hcz32_4, hcz32_5, hcz32_6, hcz32_7, hcz32_8, hcz32_9⟩ := blkC10 (w := w31) BK389.out; obtain ⟨hfz32_0, hfz32_1, hfz32_2, hfz32_3, hfz32_4, hfz32_5, hfz32_6, hfz32_7, hfz32_8, hfz32_9⟩ := blkF10 BK389.out))
           go_ret
           exact ⟨by first | rfl | (simp [errW_none, errW_some] <;> rfl) | (simp [*, errW_none, errW_some] <;> rfl), bw⟩
         ·replace c21 := Bool.eq_false_iff.mpr c21
          subst c21
          have H1 : (some 8) = some r := by rw [if_neg (show ¬ (false = true) by decide)] at H; exact H
          clear H
          have H := H1
          clear H1
          obtain rfl := Option.some.inj H
          obtain ⟨hcz33_0, hcz33_1, hcz33_2, hcz33_3, hcz33_4, hcz33_5, hcz33_6, hcz33_7, hcz33_8, hcz33_9⟩ := blkC10 (w := wc) BK389.out
          obtain ⟨hfz33_0, hfz33_1, hfz33_2, hfz33_3, hfz33_4, hfz33_5, hfz33_6, hfz33_7, hfz33_8, hfz33_9⟩ := blkF10 BK389.out
          go_wp2_with (first | ((with_reducible refine gate_callee (f := 94) rfl ?_); refine gL (some 33) Try.func94 #[.agg #[.int .i64 a0_2, .int .i64 a0_3, .int .i64 a0_4, .int .i64 a0_5]] ?_; (with_reducible refine (zone_good.calls kj11 a0_2 a0_3 a0_4 a0_5 true _ A18.out).mono ?_); rintro e w34 ⟨rfl, hb⟩; refine ⟨_, rfl, ?_⟩; replace BK389 := AX (bkb BK389 hb); replace HB := AX (below_step bw hb); (try clear hb); obtain ⟨hcz35_0, hcz35_1, hcz35_2, hcz35_3, hcz35_4, hcz35_5, hcz35_6, hcz35_7, hcz35_8, hcz35_9⟩ := blkC10 (w := w34) BK389.out; obtain ⟨hfz35_0, hfz35_1, hfz35_2, hfz35_3, hfz35_4, hfz35_5, hfz35_6, hfz35_7, hfz35_8, hfz35_9⟩ := blkF10 BK389.out) | ((with_reducible refine gate_callee (f := 94) rfl ?_); refine gL (some 37) Try.func94 #[.agg #[.int .i64 a0_6, .int .i64 a0_7, .int .i64 a0_8, .int .i64 a0_9]] ?_; (with_reducible refine (zone_good.calls kj11 a0_6 a0_7 a0_8 a0_9 false _ A20.out).mono ?_); rintro e w36 ⟨rfl, hb⟩; refine ⟨_, rfl, ?_⟩; replace BK389 := AX (bkb BK389 hb); replace HB := AX (below_step bw hb); (try clear hb)))
          go_ret
          exact ⟨by first | rfl | (simp [errW_none, errW_some] <;> rfl) | (simp [*, errW_none, errW_some] <;> rfl), bw⟩
        ·replace c19 := Bool.eq_false_iff.mpr c19
         subst c19
         have H1 : (some 8) = some r := by rw [if_neg (show ¬ (false = true) by decide)] at H; exact H
         clear H
         have H := H1
         clear H1
         obtain rfl := Option.some.inj H
         obtain ⟨hcz37_0, hcz37_1, hcz37_2, hcz37_3, hcz37_4, hcz37_5, hcz37_6, hcz37_7, hcz37_8, hcz37_9⟩ := blkC10 (w := wc) BK389.out
         obtain ⟨hfz37_0, hfz37_1, hfz37_2, hfz37_3, hfz37_4, hfz37_5, hfz37_6, hfz37_7, hfz37_8, hfz37_9⟩ := blkF10 BK389.out
         go_wp2_with (first | ((with_reducible refine gate_callee (f := 94) rfl ?_); refine gL (some 33) Try.func94 #[.agg #[.int .i64 a0_2, .int .i64 a0_3, .int .i64 a0_4, .int .i64 a0_5]] ?_; (with_reducible refine (zone_good.calls kj11 a0_2 a0_3 a0_4 a0_5 false _ A18.out).mono ?_); rintro e w38 ⟨rfl, hb⟩; refine ⟨_, rfl, ?_⟩; replace BK389 := AX (bkb BK389 hb); replace HB := AX (below_step bw hb); (try clear hb)))
         go_ret
         exact ⟨by first | rfl | (simp [errW_none, errW_some] <;> rfl) | (simp [*, errW_none, errW_some] <;> rfl), bw⟩

/-! ### zone_clock: function 77 -/
def zone_clock.j0 : Nat → Int → Int → Bool → Option (Int × Int × Int × Int × Int)
 | 0, _, _, _ => none
 | k + 1, x0, x1, x15 => if x15 = true then (some (0, 0, 0, 0, 5)) else (if (Int.tmod (wrap64 (x0 + (wrap64 (60 * x1)))) 86400) < 0 then ((civil_Of.f (wrap64 ((wrap64 (Int.tdiv (wrap64 (x0 + (wrap64 (60 * x1)))) 86400)) - 1))).bind fun bt393 => (some (bt393.1, bt393.2.1, bt393.2.2.1, wrap64 (Int.tdiv (wrap64 ((wrap64 (x0 + (wrap64 (60 * x1)))) - (wrap64 ((wrap64 ((wrap64 (Int.tdiv (wrap64 (x0 + (wrap64 (60 * x1)))) 86400)) - 1)) * 86400)))) 60), bt393.2.2.2))) else ((civil_Of.f (wrap64 (Int.tdiv (wrap64 (x0 + (wrap64 (60 * x1)))) 86400))).bind fun bt398 => (some (bt398.1, bt398.2.1, bt398.2.2.1, wrap64 (Int.tdiv (wrap64 ((wrap64 (x0 + (wrap64 (60 * x1)))) - (wrap64 ((wrap64 (Int.tdiv (wrap64 (x0 + (wrap64 (60 * x1)))) 86400)) * 86400)))) 60), bt398.2.2.2))))
def zone_clock.f (k : Nat) (a0 : Int) (a1 : Int) : Option (Int × Int × Int × Int × Int) := if a0 < (-1099511627776) then (zone_clock.j0 k a0 a1 true) else (zone_clock.j0 k a0 a1 (decide (a0 > 1099511627776)))
theorem zone_clock.mono_l : ∀ k, (∀ y0 y1 y2, LeO (zone_clock.j0 k y0 y1 y2) (zone_clock.j0 (k + 1) y0 y1 y2))
 | 0 => fun _ _ _ r h => by simp [zone_clock.j0] at h
 | k + 1 => by
  have ih0 := zone_clock.mono_l k
  ·intro y0 y1 y2
   unfold zone_clock.j0
   repeat' first
   | (with_reducible exact ih0 _ _ _)
   | (with_reducible exact LeO.refl _)
   | (with_reducible exact LeO.none _)
   | (with_reducible refine LeO.ite ?_ ?_)
   | (with_reducible refine LeO.bind ?_ (fun _ => ?_))
theorem zone_clock.mono : ∀ a0 a1 k, LeO (zone_clock.f k a0 a1) (zone_clock.f (k + 1) a0 a1) := by
 intro a0 a1 k
 have ih0 := zone_clock.mono_l k
 unfold zone_clock.f
 repeat' first
   | (with_reducible exact ih0 _ _ _)
   | (with_reducible exact LeO.refl _)
   | (with_reducible exact LeO.none _)
   | (with_reducible refine LeO.ite ?_ ?_)
   | (with_reducible refine LeO.bind ?_ (fun _ => ?_))
set_option maxHeartbeats 8000000 in
set_option maxRecDepth 100000 in
theorem zone_clock.calls (k : Nat) (a0 : Int) (a1 : Int) (r1 : Int) (r2 : Int) (r3 : Int) (r4 : Int) (r5 : Int) (w : World) (h : zone_clock.f k a0 a1 = some (r1, r2, r3, r4, r5)) :
  Calls Try.prog 77 #[.int .i64 a0, .int .i64 a1] w fun e w' => e = .returned (.tuple #[.agg #[.int .i64 r1, .int .i64 r2, .int .i64 r3], .int .i64 r4, .int .i64 r5]) ∧ Below w.heap.size w w' := by
 have hu24 := Try.underlying24
 have HB := AX (Below.refl w.heap.size w)
 have H : (if a0 < (-1099511627776) then (zone_clock.j0 k a0 a1 true) else (zone_clock.j0 k a0 a1 (decide (a0 > 1099511627776)))) = some (r1, r2, r3, r4, r5) := h
 clear h
 have HC3 := AX H
 clear H
 go_enter Try.func77, Try.ntmps77
 go_upto_region 1 with (first | ((with_reducible refine gate_dst (N := 4) rfl ?_); refine bx 4 #[.int .i64 0, .int .i64 0, .int .i64 0] 24 ?_; intro gb392 hg w4 hbox hb; have BK392 := AX (hbox); have GW392 := gwl (w := w) hg bw; have GE392 := GW392; replace HB := AX (below_step bw hb); clear hb hbox hg))
 (try simp only [Act.put, List.setIfInBounds_toArray, List.set_cons_zero, List.set_cons_succ])
 go_cut [15] (fun v15 wc => ∃ (kq : Nat) (x15_2 : Bool), v15 = .bool x15_2 ∧ Aside0 (zone_clock.j0 kq a0 a1 x15_2 = some (r1, r2, r3, r4, r5)) ∧ Aside0 (kq ≤ k) ∧ Aside0 (wc.heap[gb392]? = some (.cells #[.int .i64 0, .int .i64 0, .int .i64 0] 24 (0, 0))) ∧ Aside0 (Below w.heap.size w wc))
 case first =>
  have H := HC3.out
  clear HC3
  by_cases c5 : a0 < (-1099511627776)
  ·rw [if_pos c5] at H
   have c5b0 : decide (a0 < (-1099511627776)) = true := decide_eq_true c5
   clear c5
   (first | rw [c5b0] | (simp only [i64_w, i32_w]; rw [c5b0]) | skip)
   have H' := AX H
   clear H
   go_wp2
   go_meet
   case rel => exact ⟨_, (true), (by first | rfl | (simp; done) | (simp [*]; done)), H', ⟨by first | omega | exact Nat.le_refl _⟩, ⟨bkn BK392⟩, ⟨bw⟩⟩
  ·rw [if_neg c5] at H
   have c5b0 : decide (a0 < (-1099511627776)) = false := decide_eq_false c5
   clear c5
   (first | rw [c5b0] | (simp only [i64_w, i32_w]; rw [c5b0]) | skip)
   have H' := AX H
   clear H
   go_wp2
   go_meet
   case rel => exact ⟨_, (decide (a0 > 1099511627776)), (by first | rfl | (simp; done) | (simp [*]; done)), H', ⟨by first | omega | exact Nat.le_refl _⟩, ⟨bkn BK392⟩, ⟨bw⟩⟩
 case rest =>
  clear HC3
  obtain ⟨kq, x15_2, rfl, HA, HJ2, BK392, HB⟩ := hcut
  cases kq with
  | zero => exact absurd HA.out (by simp [zone_clock.j0])
  | succ kj2 =>
   have H := HA.out
   clear HA
   simp only [zone_clock.j0] at H
   by_cases c6 : x15_2 = true
   ·subst c6
    have H1 : (some (0, 0, 0, 0, 5)) = some (r1, r2, r3, r4, r5) := by rw [if_pos rfl] at H; exact H
    clear H
    have H := H1
    clear H1
    simp only [Option.some.injEq, Prod.mk.injEq] at H
    obtain ⟨rfl, rfl, rfl, rfl, rfl⟩ := H
    obtain ⟨hcz7_0, hcz7_1, hcz7_2⟩ := blkC3 (w := wc) BK392.out
    obtain ⟨hfz7_0, hfz7_1, hfz7_2⟩ := blkF3 BK392.out
    go_wp2
    refine bodyPost_ret (results_ctt rfl _ _ gb392 24 #[.int .i64 0, .int .i64 0, .int .i64 0] (0, 0) _ rfl (by (with_reducible repeat first|refine blk_drewN ?_ _|refine blk_drew ?_|refine blk_alloc ?_ _); refine blk_put (cs := #[.int .i64 0, .int .i64 0, .int .i64 0]) ?_ 2 _ rfl; (with_reducible repeat first|refine blk_drewN ?_ _|refine blk_drew ?_|refine blk_alloc ?_ _); refine blk_put (cs := #[.int .i64 0, .int .i64 0, .int .i64 0]) ?_ 1 _ rfl; (with_reducible repeat first|refine blk_drewN ?_ _|refine blk_drew ?_|refine blk_alloc ?_ _); refine blk_put (cs := #[.int .i64 0, .int .i64 0, .int .i64 0]) ?_ 0 _ rfl; (with_reducible repeat first|refine blk_drewN ?_ _|refine blk_drew ?_|refine blk_alloc ?_ _); exact BK392.out) Try.underlying24 rfl (by kernel_rfl)) rfl ?_
    exact ⟨by first | rfl | (simp [errW_none, errW_some] <;> rfl) | (simp [*, errW_none, errW_some] <;> rfl), bw⟩
   ·replace c6 := Bool.eq_false_iff.mpr c6
    subst c6
    have H1 : (if (Int.tmod (wrap64 (a0 + (wrap64 (60 * a1)))) 86400) < 0 then ((civil_Of.f (wrap64 ((wrap64 (Int.tdiv (wrap64 (a0 + (wrap64 (60 * a1)))) 86400)) - 1))).bind fun bt393 => (some (bt393.1, bt393.2.1, bt393.2.2.1, wrap64 (Int.tdiv (wrap64 ((wrap64 (a0 + (wrap64 (60 * a1)))) - (wrap64 ((wrap64 ((wrap64 (Int.tdiv (wrap64 (a0 + (wrap64 (60 * a1)))) 86400)) - 1)) * 86400)))) 60), bt393.2.2.2))) else ((civil_Of.f (wrap64 (Int.tdiv (wrap64 (a0 + (wrap64 (60 * a1)))) 86400))).bind fun bt398 => (some (bt398.1, bt398.2.1, bt398.2.2.1, wrap64 (Int.tdiv (wrap64 ((wrap64 (a0 + (wrap64 (60 * a1)))) - (wrap64 ((wrap64 (Int.tdiv (wrap64 (a0 + (wrap64 (60 * a1)))) 86400)) * 86400)))) 60), bt398.2.2.2)))) = some (r1, r2, r3, r4, r5) := by rw [if_neg (show ¬ (false = true) by decide)] at H; exact H
    clear H
    have H := H1
    clear H1
    by_cases c8 : (Int.tmod (wrap64 (a0 + (wrap64 (60 * a1)))) 86400) < 0
    ·rw [if_pos c8] at H
     have c8b0 : decide ((Int.tmod (wrap64 (a0 + (wrap64 (60 * a1)))) 86400) < 0) = true := decide_eq_true c8
     clear c8
     replace H := Option.bind_eq_some_iff.mp H
     obtain ⟨⟨t393, t394, t395, t396⟩, A90, H⟩ := H
     replace H : (some (t393, t394, t395, wrap64 (Int.tdiv (wrap64 ((wrap64 (a0 + (wrap64 (60 * a1)))) - (wrap64 ((wrap64 ((wrap64 (Int.tdiv (wrap64 (a0 + (wrap64 (60 * a1)))) 86400)) - 1)) * 86400)))) 60), t396)) = some (r1, r2, r3, r4, r5) := H
     have A9 := AX A90
     clear A90
     simp only [Option.some.injEq, Prod.mk.injEq] at H
     obtain ⟨rfl, rfl, rfl, rfl, rfl⟩ := H
     go_wp2_with (first | ((with_reducible refine gate_callee (f := 89) rfl ?_); refine gL (some 30) Try.func89 #[.int .i64 (wrap64 ((wrap64 (Int.tdiv (wrap64 (a0 + (wrap64 (60 * a1)))) 86400)) - 1))] ?_; (with_reducible refine (civil_Of.calls (wrap64 ((wrap64 (Int.tdiv (wrap64 (a0 + (wrap64 (60 * a1)))) 86400)) - 1)) t393 t394 t395 t396 _ A9.out).mono ?_); rintro e w10 ⟨rfl, hb⟩; refine ⟨_, rfl, ?_⟩; replace BK392 := AX (bkb BK392 hb); replace HB := AX (below_step bw hb); (try clear hb)) | ((with_reducible refine gate_dst (N := 8) rfl ?_); refine bx 8 #[.int .i64 0, .int .i64 0, .int .i64 0] 24 ?_; intro gb397 hg w11 hbox hb; have BK397 := AX (hbox); have GW397 := gwl (w := w) hg bw; have GE397 := GW397; have NB392_397 := nbl hg (bkn BK392); have NB397_392 := nbg hg (bkn BK392); replace BK392 := AX (bkb BK392 hb); replace HB := AX (below_step bw hb); clear hb hbox hg; have hnb12 := NB397_392.out; have hnc12 := NB392_397.out; obtain ⟨hcz13_0, hcz13_1, hcz13_2⟩ := blkC3 (w := w11) BK397.out; obtain ⟨hfz13_0, hfz13_1, hfz13_2⟩ := blkF3 BK397.out; obtain ⟨hcz14_0, hcz14_1, hcz14_2⟩ := blkC3 (w := w11) BK392.out; obtain ⟨hfz14_0, hfz14_1, hfz14_2⟩ := blkF3 BK392.out))
     refine bodyPost_ret (results_ctt rfl _ _ gb392 24 #[.int .i64 t393, .int .i64 t394, .int .i64 t395] (0, 0) _ rfl (by (with_reducible repeat first|refine blk_drewN ?_ _|refine blk_drew ?_|refine blk_alloc ?_ _); refine blk_put (cs := #[.int .i64 t393, .int .i64 t394, .int .i64 0]) ?_ 2 _ rfl; (with_reducible repeat first|refine blk_drewN ?_ _|refine blk_drew ?_|refine blk_alloc ?_ _); refine blk_put (cs := #[.int .i64 t393, .int .i64 0, .int .i64 0]) ?_ 1 _ rfl; (with_reducible repeat first|refine blk_drewN ?_ _|refine blk_drew ?_|refine blk_alloc ?_ _); refine blk_put (cs := #[.int .i64 0, .int .i64 0, .int .i64 0]) ?_ 0 _ rfl; (with_reducible repeat first|refine blk_drewN ?_ _|refine blk_drew ?_|refine blk_alloc ?_ _); refine blk_far ?_ NB392_397.out _; (with_reducible repeat first|refine blk_drewN ?_ _|refine blk_drew ?_|refine blk_alloc ?_ _); refine blk_far ?_ NB392_397.out _; (with_reducible repeat first|refine blk_drewN ?_ _|refine blk_drew ?_|refine blk_alloc ?_ _); refine blk_far ?_ NB392_397.out _; (with_reducible repeat first|refine blk_drewN ?_ _|refine blk_drew ?_|refine blk_alloc ?_ _); exact BK392.out) Try.underlying24 rfl (by kernel_rfl)) rfl ?_
     exact ⟨by first | rfl | (simp [errW_none, errW_some] <;> rfl) | (simp [*, errW_none, errW_some] <;> rfl), bw⟩
    ·rw [if_neg c8] at H
     have c8b0 : decide ((Int.tmod (wrap64 (a0 + (wrap64 (60 * a1)))) 86400) < 0) = false := decide_eq_false c8
     clear c8
     replace H := Option.bind_eq_some_iff.mp H
     obtain ⟨⟨t398, t399, t400, t401⟩, A150, H⟩ := H
     replace H : (some (t398, t399, t400, wrap64 (Int.tdiv (wrap64 ((wrap64 (a0 + (wrap64 (60 * a1)))) - (wrap64 ((wrap64 (Int.tdiv (wrap64 (a0 + (wrap64 (60 * a1)))) 86400)) * 86400)))) 60), t401)) = some (r1, r2, r3, r4, r5) := H
     have A15 := AX A150
     clear A150
     simp only [Option.some.injEq, Prod.mk.injEq] at H
     obtain ⟨rfl, rfl, rfl, rfl, rfl⟩ := H
     go_wp2_with (first | ((with_reducible refine gate_callee (f := 89) rfl ?_); refine gL (some 30) Try.func89 #[.int .i64 (wrap64 (Int.tdiv (wrap64 (a0 + (wrap64 (60 * a1)))) 86400))] ?_; (with_reducible refine (civil_Of.calls (wrap64 (Int.tdiv (wrap64 (a0 + (wrap64 (60 * a1)))) 86400)) t398 t399 t400 t401 _ A15.out).mono ?_); rintro e w16 ⟨rfl, hb⟩; refine ⟨_, rfl, ?_⟩; replace BK392 := AX (bkb BK392 hb); replace HB := AX (below_step bw hb); (try clear hb)) | ((with_reducible refine gate_dst (N := 8) rfl ?_); refine bx 8 #[.int .i64 0, .int .i64 0, .int .i64 0] 24 ?_; intro gb402 hg w17 hbox hb; have BK402 := AX (hbox); have GW402 := gwl (w := w) hg bw; have GE402 := GW402; have NB392_402 := nbl hg (bkn BK392); have NB402_392 := nbg hg (bkn BK392); replace BK392 := AX (bkb BK392 hb); replace HB := AX (below_step bw hb); clear hb hbox hg; have hnb18 := NB402_392.out; have hnc18 := NB392_402.out; obtain ⟨hcz19_0, hcz19_1, hcz19_2⟩ := blkC3 (w := w17) BK402.out; obtain ⟨hfz19_0, hfz19_1, hfz19_2⟩ := blkF3 BK402.out; obtain ⟨hcz20_0, hcz20_1, hcz20_2⟩ := blkC3 (w := w17) BK392.out; obtain ⟨hfz20_0, hfz20_1, hfz20_2⟩ := blkF3 BK392.out))
     refine bodyPost_ret (results_ctt rfl _ _ gb392 24 #[.int .i64 t398, .int .i64 t399, .int .i64 t400] (0, 0) _ rfl (by (with_reducible repeat first|refine blk_drewN ?_ _|refine blk_drew ?_|refine blk_alloc ?_ _); refine blk_put (cs := #[.int .i64 t398, .int .i64 t399, .int .i64 0]) ?_ 2 _ rfl; (with_reducible repeat first|refine blk_drewN ?_ _|refine blk_drew ?_|refine blk_alloc ?_ _); refine blk_put (cs := #[.int .i64 t398, .int .i64 0, .int .i64 0]) ?_ 1 _ rfl; (with_reducible repeat first|refine blk_drewN ?_ _|refine blk_drew ?_|refine blk_alloc ?_ _); refine blk_put (cs := #[.int .i64 0, .int .i64 0, .int .i64 0]) ?_ 0 _ rfl; (with_reducible repeat first|refine blk_drewN ?_ _|refine blk_drew ?_|refine blk_alloc ?_ _); refine blk_far ?_ NB392_402.out _; (with_reducible repeat first|refine blk_drewN ?_ _|refine blk_drew ?_|refine blk_alloc ?_ _); refine blk_far ?_ NB392_402.out _; (with_reducible repeat first|refine blk_drewN ?_ _|refine blk_drew ?_|refine blk_alloc ?_ _); refine blk_far ?_ NB392_402.out _; (with_reducible repeat first|refine blk_drewN ?_ _|refine blk_drew ?_|refine blk_alloc ?_ _); exact BK392.out) Try.underlying24 rfl (by kernel_rfl)) rfl ?_
     exact ⟨by first | rfl | (simp [errW_none, errW_some] <;> rfl) | (simp [*, errW_none, errW_some] <;> rfl), bw⟩

/-! ### zone_turn: function 95 -/
def zone_turn.f (k : Nat) (a0_0 : Int) (a0_1 : Int) (a0_2 : Int) (a0_3 : Int) (a1 : Int) (a2 : Int) : Option (Int) := (civil_Nth.f k a1 a0_0 a0_1 a0_2).bind fun bt404 => ((civil_Days.f bt404.1 bt404.2.1 bt404.2.2.1).bind fun bt409 => (some (wrap64 ((wrap64 (bt409.1 * 86400)) + (wrap64 (60 * (wrap64 (a0_3 - a2))))))))
theorem zone_turn.mono : ∀ a0 a1 a2 a3 a4 a5 k, LeO (zone_turn.f k a0 a1 a2 a3 a4 a5) (zone_turn.f (k + 1) a0 a1 a2 a3 a4 a5) := by
 intro a0 a1 a2 a3 a4 a5 k
 unfold zone_turn.f
 repeat' first
   | (with_reducible exact civil_Nth.mono _ _ _ _ _)
   | (with_reducible exact LeO.refl _)
   | (with_reducible exact LeO.none _)
   | (with_reducible refine LeO.ite ?_ ?_)
   | (with_reducible refine LeO.bind ?_ (fun _ => ?_))
set_option maxHeartbeats 8000000 in
set_option maxRecDepth 100000 in
theorem zone_turn.calls (k : Nat) (a0_0 : Int) (a0_1 : Int) (a0_2 : Int) (a0_3 : Int) (a1 : Int) (a2 : Int) (r : Int) (w : World) (h : zone_turn.f k a0_0 a0_1 a0_2 a0_3 a1 a2 = some r) :
  Calls Try.prog 95 #[.agg #[.int .i64 a0_0, .int .i64 a0_1, .int .i64 a0_2, .int .i64 a0_3], .int .i64 a1, .int .i64 a2] w fun e w' => e = .returned (.int .i64 r) ∧ Below w.heap.size w w' := by
 have hu40 := Try.underlying40
 have hu24 := Try.underlying24
 have HB := AX (Below.refl w.heap.size w)
 have H : ((civil_Nth.f k a1 a0_0 a0_1 a0_2).bind fun bt404 => ((civil_Days.f bt404.1 bt404.2.1 bt404.2.2.1).bind fun bt409 => (some (wrap64 ((wrap64 (bt409.1 * 86400)) + (wrap64 (60 * (wrap64 (a0_3 - a2))))))))) = some r := h
 clear h
 replace H := Option.bind_eq_some_iff.mp H
 obtain ⟨⟨t404, t405, t406, t407⟩, A40, H⟩ := H
 replace H : ((civil_Days.f t404 t405 t406).bind fun bt409 => (some (wrap64 ((wrap64 (bt409.1 * 86400)) + (wrap64 (60 * (wrap64 (a0_3 - a2)))))))) = some r := H
 have A4 := AX A40
 clear A40
 replace H := Option.bind_eq_some_iff.mp H
 obtain ⟨⟨t409, t410⟩, A50, H⟩ := H
 replace H : (some (wrap64 ((wrap64 (t409 * 86400)) + (wrap64 (60 * (wrap64 (a0_3 - a2))))))) = some r := H
 have A5 := AX A50
 clear A50
 obtain rfl := Option.some.inj H
 go_enter Try.func95, Try.ntmps95
 go_wp2_with (first | ((with_reducible refine gate_dst (N := 3) rfl ?_); refine bx 3 #[.int .i64 a0_0, .int .i64 a0_1, .int .i64 a0_2, .int .i64 a0_3] 40 ?_; intro gb403 hg w6 hbox hb; have BK403 := AX (hbox); have GW403 := gwl (w := w) hg bw; have GE403 := GW403; replace HB := AX (below_step bw hb); clear hb hbox hg; obtain ⟨hcz7_0, hcz7_1, hcz7_2, hcz7_3⟩ := blkC4 (w := w6) BK403.out; obtain ⟨hfz7_0, hfz7_1, hfz7_2, hfz7_3⟩ := blkF4 BK403.out) | ((with_reducible refine gate_callee (f := 66) rfl ?_); refine gL (some 19) Try.func66 #[.int .i64 a1, .int .i64 a0_0, .int .i64 a0_1, .int .i64 a0_2] ?_; (with_reducible refine (civil_Nth.calls k a1 a0_0 a0_1 a0_2 t404 t405 t406 t407 _ A4.out).mono ?_); rintro e w8 ⟨rfl, hb⟩; refine ⟨_, rfl, ?_⟩; replace BK403 := AX (bkb BK403 hb); replace HB := AX (below_step bw hb); (try clear hb)) | ((with_reducible refine gate_dst (N := 7) rfl ?_); refine bx 7 #[.int .i64 0, .int .i64 0, .int .i64 0] 24 ?_; intro gb408 hg w9 hbox hb; have BK408 := AX (hbox); have GW408 := gwl (w := w) hg bw; have GE408 := GW408; have NB403_408 := nbl hg (bkn BK403); have NB408_403 := nbg hg (bkn BK403); replace BK403 := AX (bkb BK403 hb); replace HB := AX (below_step bw hb); clear hb hbox hg; have hnb10 := NB408_403.out; have hnc10 := NB403_408.out; obtain ⟨hcz11_0, hcz11_1, hcz11_2⟩ := blkC3 (w := w9) BK408.out; obtain ⟨hfz11_0, hfz11_1, hfz11_2⟩ := blkF3 BK408.out) | ((with_reducible refine gate_callee (f := 48) rfl ?_); refine gL (some 24) Try.func48 #[.agg #[.int .i64 t404, .int .i64 t405, .int .i64 t406]] ?_; (with_reducible refine (civil_Days.calls t404 t405 t406 t409 t410 _ A5.out).mono ?_); rintro e w12 ⟨rfl, hb⟩; refine ⟨_, rfl, ?_⟩; replace BK403 := AX (blk_below (g := gb403) (o := .cells #[.int .i64 a0_0, .int .i64 a0_1, .int .i64 a0_2, .int .i64 a0_3] 40 (0, 0)) (by (with_reducible repeat first|refine blk_drewN ?_ _|refine blk_drew ?_|refine blk_alloc ?_ _|refine blk_far ?_ NB403_408.out _); exact BK403.out) hb); replace BK408 := AX (blk_below (g := gb408) (o := .cells #[.int .i64 t404, .int .i64 t405, .int .i64 t406] 24 (0, 0)) (by (with_reducible repeat first|refine blk_drewN ?_ _|refine blk_drew ?_|refine blk_alloc ?_ _); refine blk_put (cs := #[.int .i64 t404, .int .i64 t405, .int .i64 0]) ?_ 2 _ rfl; (with_reducible repeat first|refine blk_drewN ?_ _|refine blk_drew ?_|refine blk_alloc ?_ _); refine blk_put (cs := #[.int .i64 t404, .int .i64 0, .int .i64 0]) ?_ 1 _ rfl; (with_reducible repeat first|refine blk_drewN ?_ _|refine blk_drew ?_|refine blk_alloc ?_ _); refine blk_put (cs := #[.int .i64 0, .int .i64 0, .int .i64 0]) ?_ 0 _ rfl; (with_reducible repeat first|refine blk_drewN ?_ _|refine blk_drew ?_|refine blk_alloc ?_ _); exact BK408.out) hb); replace HB := AX (below_step bw hb); (try clear hb); obtain ⟨hcz13_0, hcz13_1, hcz13_2, hcz13_3⟩ := blkC4 (w := w12) BK403.out; obtain ⟨hfz13_0, hfz13_1, hfz13_2, hfz13_3⟩ := blkF4 BK403.out))
 go_ret
 exact ⟨by first | rfl | (simp [errW_none, errW_some] <;> rfl) | (simp [*, errW_none, errW_some] <;> rfl), bw⟩

end Go.Proofs.Ytkggjjggcbcdiaa.PX
