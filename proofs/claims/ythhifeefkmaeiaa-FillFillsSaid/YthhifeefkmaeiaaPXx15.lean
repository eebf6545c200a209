/- Functions of the program as plain Lean functions, each with a proof that the call in the machine answers just what the plain function says; condition: the plain function answers at all. -/
import Derived.Test.YthhifeefkmaeiaaPXx0
import Derived.Test.YthhifeefkmaeiaaPXx3
import Derived.Test.YthhifeefkmaeiaaPXx8
import Derived.Test.YthhifeefkmaeiaaPXx9
import Derived.Test.YthhifeefkmaeiaaPXx10
import Derived.Test.YthhifeefkmaeiaaPXx11
namespace Go.Proofs.Ythhifeefkmaeiaa.PX
open Go.RowKit Go.Proofs.YthhifeefkmaeiaaW.PrintWords Go.Proofs.YthhifeefkmaeiaaW.PrintLast Go.Proofs.YthhifeefkmaeiaaW.PrintMore
attribute [local go_sem] max2_int min2_int max_two min_two max_three min_three max_four min_four   -- for this text's walks alone
set_option linter.unusedVariables false
set_option linter.unusedSimpArgs false

/-! ### pylonlaw11_FillFills: function 6 -/
def pylonlaw11_FillFills.j0 : Nat → Int → ByteArray → Int → Int → Int → Int → Int → List (S45) → Option (Bool)
 | 0, _, _, _, _, _, _, _, _ => none
 | k + 1, x1, x275000, x275001, x275002, x275003, x275004, x275005, x275006 => (pylonref11_Fill.f k x275000 x275001 x275002 x275003 x275004 x275005 x275006 x1).bind fun bt276 => ((pylonlaw11_copyFile.f x275000 x275001 x275002 x275003 x275004 x275005 x275006).bind fun bt280 => ((fill_Fill.f bt280.1 bt280.2.1 bt280.2.2.1 bt280.2.2.2.1 bt280.2.2.2.2.1 bt280.2.2.2.2.2.1 bt280.2.2.2.2.2.2 x1).bind fun bt289 => (if bt289.2 = bt276.2 then ((pylonref11_SameReads.f k bt289.1 bt276.1).bind fun t293 => (some t293)) else (some false))))
def pylonlaw11_FillFills.f (k : Nat) (a0_0 : ByteArray) (a0_1 : Int) (a0_2 : Int) (a0_3 : Int) (a0_4 : Int) (a0_5 : Int) (l0_6 : List (S45)) (a1 : Int) : Option (Bool) := (pylonlaw11_awake.f k).bind fun t275 => (if t275 = true then (if a0_3 > 3000 then (pylonlaw11_FillFills.j0 k a1 a0_0 a0_1 a0_2 (Int.tmod a0_3 3000) a0_4 a0_5 l0_6) else (pylonlaw11_FillFills.j0 k a1 a0_0 a0_1 a0_2 a0_3 a0_4 a0_5 l0_6)) else (some false))
theorem pylonlaw11_FillFills.mono_l : ∀ k, (∀ y0 y1 y2 y3 y4 y5 y6 y7, LeO (pylonlaw11_FillFills.j0 k y0 y1 y2 y3 y4 y5 y6 y7) (pylonlaw11_FillFills.j0 (k + 1) y0 y1 y2 y3 y4 y5 y6 y7))
 | 0 => fun _ _ _ _ _ _ _ _ r h => by simp [pylonlaw11_FillFills.j0] at h
 | k + 1 => by
  have ih0 := pylonlaw11_FillFills.mono_l k
  ·intro y0 y1 y2 y3 y4 y5 y6 y7
   unfold pylonlaw11_FillFills.j0
   repeat' first
   | (with_reducible exact ih0 _ _ _ _ _ _ _ _)
   | (with_reducible exact pylonlaw11_awake.mono _)
   | (with_reducible exact pylonref11_Fill.mono _ _ _ _ _ _ _ _ _)
   | (with_reducible exact pylonref11_SameReads.mono _ _ _)
   | (with_reducible exact LeO.refl _)
   | (with_reducible exact LeO.none _)
   | (with_reducible refine LeO.ite ?_ ?_)
   | (with_reducible refine LeO.bind ?_ (fun _ => ?_))
theorem pylonlaw11_FillFills.mono : ∀ a0 a1 a2 a3 a4 a5 a6 a7 k, LeO (pylonlaw11_FillFills.f k a0 a1 a2 a3 a4 a5 a6 a7) (pylonlaw11_FillFills.f (k + 1) a0 a1 a2 a3 a4 a5 a6 a7) := by
 intro a0 a1 a2 a3 a4 a5 a6 a7 k
 have ih0 := pylonlaw11_FillFills.mono_l k
 unfold pylonlaw11_FillFills.f
 repeat' first
   | (with_reducible exact ih0 _ _ _ _ _ _ _ _)
   | (with_reducible exact pylonlaw11_awake.mono _)
   | (with_reducible exact pylonref11_Fill.mono _ _ _ _ _ _ _ _ _)
   | (with_reducible exact pylonref11_SameReads.mono _ _ _)
   | (with_reducible exact LeO.refl _)
   | (with_reducible exact LeO.none _)
   | (with_reducible refine LeO.ite ?_ ?_)
   | (with_reducible refine LeO.bind ?_ (fun _ => ?_))
set_option maxHeartbeats 8000000 in
set_option maxRecDepth 100000 in
theorem pylonlaw11_FillFills.calls (k : Nat) (a0_0 : ByteArray) (a0_1 : Int) (a0_2 : Int) (a0_3 : Int) (a0_4 : Int) (a0_5 : Int) (A0_6 : Option Addr) (c0_6 : Nat) (l0_6 : List (S45)) (a1 : Int) (r : Bool) (w : World) (hr0_6 : Kd.C k45 w A0_6 l0_6.length l0_6) (hc0_6 : l0_6.length ≤ c0_6) (h : pylonlaw11_FillFills.f k a0_0 a0_1 a0_2 a0_3 a0_4 a0_5 l0_6 a1 = some r) :
  Calls Try.prog 6 #[.agg #[.string a0_0, .int .i64 a0_1, .int .i64 a0_2, .int .i64 a0_3, .int .i64 a0_4, .int .i64 a0_5, .slice A0_6 l0_6.length c0_6], .int .i64 a1] w fun e w' => e = .returned (.bool r) ∧ Below w.heap.size w w' := by
 have hu31 := Try.underlying31
 have HR0_6 := AX hr0_6
 have HC0_6 := AX hc0_6
 clear hr0_6 hc0_6
 have HB := AX (Below.refl w.heap.size w)
 have H : ((pylonlaw11_awake.f k).bind fun t275 => (if t275 = true then (if a0_3 > 3000 then (pylonlaw11_FillFills.j0 k a1 a0_0 a0_1 a0_2 (Int.tmod a0_3 3000) a0_4 a0_5 l0_6) else (pylonlaw11_FillFills.j0 k a1 a0_0 a0_1 a0_2 a0_3 a0_4 a0_5 l0_6)) else (some false))) = some r := h
 clear h
 replace H := Option.bind_eq_some_iff.mp H
 obtain ⟨t275, A30, H⟩ := H
 replace H : (if t275 = true then (if a0_3 > 3000 then (pylonlaw11_FillFills.j0 k a1 a0_0 a0_1 a0_2 (Int.tmod a0_3 3000) a0_4 a0_5 l0_6) else (pylonlaw11_FillFills.j0 k a1 a0_0 a0_1 a0_2 a0_3 a0_4 a0_5 l0_6)) else (some false)) = some r := H
 have A3 := AX A30
 clear A30
 by_cases c4 : t275 = true
 ·subst c4
  have H1 : (if a0_3 > 3000 then (pylonlaw11_FillFills.j0 k a1 a0_0 a0_1 a0_2 (Int.tmod a0_3 3000) a0_4 a0_5 l0_6) else (pylonlaw11_FillFills.j0 k a1 a0_0 a0_1 a0_2 a0_3 a0_4 a0_5 l0_6)) = some r := by rw [if_pos rfl] at H; exact H
  clear H
  have H := H1
  clear H1
  have HC5 := AX H
  clear H
  go_enter Try.func6, Try.ntmps6
  go_upto_if 13 with (first | ((with_reducible refine gate_dst (N := 2) rfl ?_); refine bx 2 #[.string a0_0, .int .i64 a0_1, .int .i64 a0_2, .int .i64 a0_3, .int .i64 a0_4, .int .i64 a0_5, .slice A0_6 l0_6.length c0_6] 31 ?_; intro gb274 hg w6 hbox hb; have BK274 := AX (hbox); have GW274 := gwl (w := w) hg bw; have GE274 := GW274; replace HB := AX (below_step bw hb); clear hb hbox hg) | ((with_reducible refine gate_callee (f := 10) rfl ?_); refine gL (some 9) Try.func10 #[] ?_; (with_reducible refine (pylonlaw11_awake.calls k  true _ A3.out).mono ?_); rintro e w7 ⟨rfl, hb⟩; refine ⟨_, rfl, ?_⟩; replace BK274 := AX (bkb BK274 hb); replace HB := AX (below_step bw hb); (try clear hb); obtain ⟨hcz8_0, hcz8_1, hcz8_2, hcz8_3, hcz8_4, hcz8_5, hcz8_6⟩ := blkC7 (w := w7) BK274.out; obtain ⟨hfz8_0, hfz8_1, hfz8_2, hfz8_3, hfz8_4, hfz8_5, hfz8_6⟩ := blkF7 BK274.out))
  (try simp only [Act.put, List.setIfInBounds_toArray, List.set_cons_zero, List.set_cons_succ])
  go_cut [] (fun wc => ∃ (kq : Nat) (x275003_4 : Int), Aside0 (pylonlaw11_FillFills.j0 kq a1 a0_0 a0_1 a0_2 x275003_4 a0_4 a0_5 l0_6 = some r) ∧ Aside0 (kq ≤ k) ∧ Aside0 (wc.heap[gb274]? = some (.cells #[.string a0_0, .int .i64 a0_1, .int .i64 a0_2, .int .i64 x275003_4, .int .i64 a0_4, .int .i64 a0_5, (.slice A0_6 l0_6.length c0_6)] 31 (0, 0))) ∧ Aside0 (Below w.heap.size w wc))
  case first =>
   have H := HC5.out
   clear HC5
   by_cases c9 : a0_3 > 3000
   ·rw [if_pos c9] at H
    have c9b0 : decide (3000 < a0_3) = true := decide_eq_true c9
    clear c9
    (first | rw [c9b0] | (simp only [i64_w, i32_w]; rw [c9b0]) | skip)
    have H' := AX H
    clear H
    obtain ⟨hcz10_0, hcz10_1, hcz10_2, hcz10_3, hcz10_4, hcz10_5, hcz10_6⟩ := blkC7 (w := w7) BK274.out
    obtain ⟨hfz10_0, hfz10_1, hfz10_2, hfz10_3, hfz10_4, hfz10_5, hfz10_6⟩ := blkF7 BK274.out
    go_wp2
    go_meet
    case rel => exact ⟨_, (Int.tmod a0_3 3000), H', ⟨by first | omega | exact Nat.le_refl _⟩, ⟨by (with_reducible repeat first|refine blk_drewN ?_ _|refine blk_drew ?_|refine blk_alloc ?_ _); refine blk_put (cs := #[.string a0_0, .int .i64 a0_1, .int .i64 a0_2, .int .i64 a0_3, .int .i64 a0_4, .int .i64 a0_5, .slice A0_6 l0_6.length c0_6]) ?_ 3 _ rfl; (with_reducible repeat first|refine blk_drewN ?_ _|refine blk_drew ?_|refine blk_alloc ?_ _); exact BK274.out⟩, ⟨bw⟩⟩
   ·rw [if_neg c9] at H
    have c9b0 : decide (3000 < a0_3) = false := decide_eq_false c9
    clear c9
    (first | rw [c9b0] | (simp only [i64_w, i32_w]; rw [c9b0]) | skip)
    have H' := AX H
    clear H
    go_wp2
    go_meet
    case rel => exact ⟨_, (a0_3), H', ⟨by first | omega | exact Nat.le_refl _⟩, ⟨bkn BK274⟩, ⟨bw⟩⟩
  case rest =>
   clear HC5
   try clear c4
   try clear hcz8_0 hcz8_1 hcz8_2 hcz8_3 hcz8_4 hcz8_5 hcz8_6
   try clear hfz8_0 hfz8_1 hfz8_2 hfz8_3 hfz8_4 hfz8_5 hfz8_6
   obtain ⟨kq, x275003_4, HA, HJ4, BK274, HB⟩ := hcut
   cases kq with
   | zero => exact absurd HA.out (by simp [pylonlaw11_FillFills.j0])
   | succ kj4 =>
    have H := HA.out
    clear HA
    simp only [pylonlaw11_FillFills.j0] at H
    replace H := Option.bind_eq_some_iff.mp H
    obtain ⟨⟨t276, t279⟩, A110, H⟩ := H
    replace H : ((pylonlaw11_copyFile.f a0_0 a0_1 a0_2 x275003_4 a0_4 a0_5 l0_6).bind fun bt280 => ((fill_Fill.f bt280.1 bt280.2.1 bt280.2.2.1 bt280.2.2.2.1 bt280.2.2.2.2.1 bt280.2.2.2.2.2.1 bt280.2.2.2.2.2.2 a1).bind fun bt289 => (if bt289.2 = t279 then ((pylonref11_SameReads.f kj4 bt289.1 t276).bind fun t293 => (some t293)) else (some false)))) = some r := H
    have A11 := AX A110
    clear A110
    replace H := Option.bind_eq_some_iff.mp H
    obtain ⟨⟨t280, t281, t282, t283, t284, t285, t286⟩, A120, H⟩ := H
    replace H : ((fill_Fill.f t280 t281 t282 t283 t284 t285 t286 a1).bind fun bt289 => (if bt289.2 = t279 then ((pylonref11_SameReads.f kj4 bt289.1 t276).bind fun t293 => (some t293)) else (some false))) = some r := H
    have A12 := AX A120
    clear A120
    replace H := Option.bind_eq_some_iff.mp H
    obtain ⟨⟨t289, t292⟩, A130, H⟩ := H
    replace H : (if t292 = t279 then ((pylonref11_SameReads.f kj4 t289 t276).bind fun t293 => (some t293)) else (some false)) = some r := H
    have A13 := AX A130
    clear A130
    by_cases c14 : t292 = t279
    ·rw [if_pos c14] at H
     have c14b0 : (t292 == t279) = true := beq_iff_eq.mpr c14
     have c14b1 : (t292 != t279) = false := bne_eq_false_iff_eq.mpr c14
     clear c14
     replace H := Option.bind_eq_some_iff.mp H
     obtain ⟨t293, A150, H⟩ := H
     replace H : (some t293) = some r := H
     have A15 := AX A150
     clear A150
     obtain rfl := Option.some.inj H
     obtain ⟨hcz16_0, hcz16_1, hcz16_2, hcz16_3, hcz16_4, hcz16_5, hcz16_6⟩ := blkC7 (w := wc) BK274.out
     obtain ⟨hfz16_0, hfz16_1, hfz16_2, hfz16_3, hfz16_4, hfz16_5, hfz16_6⟩ := blkF7 BK274.out
     go_wp2_with (first | ((with_reducible refine gate_callee (f := 18) rfl ?_); refine gL (some 21) Try.func18 #[.agg #[.string a0_0, .int .i64 a0_1, .int .i64 a0_2, .int .i64 x275003_4, .int .i64 a0_4, .int .i64 a0_5, .slice A0_6 l0_6.length c0_6], .int .i64 a1] ?_; (with_reducible refine (pylonref11_Fill.calls kj4 a0_0 a0_1 a0_2 x275003_4 a0_4 a0_5 _ _ l0_6 a1 t276 t279 _ ?side1 ?side2 A11.out).mono ?_); (case side1 => repeat (first | exact (Kd.C_below HR0_6.out HB.out) | (with_reducible refine Kd.C_alloc ?_ _) | (with_reducible refine Kd.C_drewN ?_ _) | (with_reducible refine Kd.C_drew ?_))); (case side2 => exact HC0_6.out); rintro e w17 ⟨v277, rfl, ho0, hb⟩; refine ⟨_, rfl, ?_⟩; have HO278 := AX (Kd.R_lower ho0 (below_size bw)); replace BK274 := AX (bkb BK274 hb); replace HB := AX (below_step bw hb); (try clear hb); (try clear hb2); (try clear hk); (try clear hi); (try clear ho0); obtain ⟨hcz18_0, hcz18_1, hcz18_2, hcz18_3, hcz18_4, hcz18_5, hcz18_6⟩ := blkC7 (w := w17) BK274.out; obtain ⟨hfz18_0, hfz18_1, hfz18_2, hfz18_3, hfz18_4, hfz18_5, hfz18_6⟩ := blkF7 BK274.out) | ((with_reducible refine gate_callee (f := 16) rfl ?_); refine gL (some 26) Try.func16 #[.agg #[.string a0_0, .int .i64 a0_1, .int .i64 a0_2, .int .i64 x275003_4, .int .i64 a0_4, .int .i64 a0_5, .slice A0_6 l0_6.length c0_6]] ?_; (with_reducible refine (pylonlaw11_copyFile.calls a0_0 a0_1 a0_2 x275003_4 a0_4 a0_5 _ _ l0_6 t280 t281 t282 t283 t284 t285 t286 _ ?side1 ?side2 A12.out).mono ?_); (case side1 => repeat (first | exact (Kd.C_below HR0_6.out HB.out) | (with_reducible refine Kd.C_alloc ?_ _) | (with_reducible refine Kd.C_drewN ?_ _) | (with_reducible refine Kd.C_drew ?_))); (case side2 => exact HC0_6.out); rintro e w19 ⟨v287, rfl, ho0, hb⟩; refine ⟨_, rfl, ?_⟩; have HO288 := AX (Kd.R_lower (Kd.R_new' ho0 (Kd.R_lt (kr HO278))) (below_size bw)); replace HO278 := AX (Kd.R_elder' (kr HO278) (Kd.R_base ho0) hb); replace BK274 := AX (bkb BK274 hb); replace HB := AX (below_step bw hb); (try clear hb); (try clear hb2); (try clear hk); (try clear hi); (try clear ho0); obtain ⟨Ao20, co20, eo20⟩ := Kd.R_slice HO288.out; subst eo20) | ((with_reducible refine gate_callee (f := 19) rfl ?_); refine gL (some 28) Try.func19 #[.agg #[.string t280, .int .i64 t281, .int .i64 t282, .int .i64 t283, .int .i64 t284, .int .i64 t285, .slice Ao20 t286.length co20], .int .i64 a1] ?_; (with_reducible refine (fill_Fill.calls t280 t281 t282 t283 t284 t285 _ _ t286 a1 t289 t292 _ ?side1 ?side2 A13.out).mono ?_); (case side1 => repeat (first | exact (Kd.R_reads' HO288.out).2.2 | (with_reducible refine Kd.C_alloc ?_ _) | (with_reducible refine Kd.C_drewN ?_ _) | (with_reducible refine Kd.C_drew ?_))); (case side2 => exact (Kd.R_reads' HO288.out).2.1); rintro e w21 ⟨v290, rfl, ho0, hb⟩; refine ⟨_, rfl, ?_⟩; have HO291 := AX (Kd.R_lower (Kd.R_new' (Kd.R_new' ho0 (Kd.R_lt (kr HO278))) (Kd.R_lt (kr HO288))) (below_size bw)); replace HO278 := AX (Kd.R_elder' (kr HO278) (Kd.R_base ho0) hb); replace HO288 := AX (Kd.R_elder' (kr HO288) (Kd.R_base ho0) hb); replace BK274 := AX (bkb BK274 hb); replace HB := AX (below_step bw hb); (try clear hb); (try clear hb2); (try clear hk); (try clear hi); (try clear ho0); obtain ⟨Ao22, co22, eo22⟩ := Kd.R_slice HO291.out; subst eo22; obtain ⟨Ao23, co23, eo23⟩ := Kd.R_slice HO278.out; subst eo23) | (go_at_call 20; (with_reducible refine (pylonref11_SameReads.calls kj4 _ _ t289 _ _ t276 t293 _ ?side1 ?side2 ?side3 ?side4 A15.out).mono ?_); (case side1 => repeat (first | exact (Kd.R_reads' HO291.out).2.2 | (with_reducible refine Kd.C_alloc ?_ _) | (with_reducible refine Kd.C_drewN ?_ _) | (with_reducible refine Kd.C_drew ?_))); (case side2 => exact (Kd.R_reads' HO291.out).2.1); (case side3 => repeat (first | exact (Kd.R_reads' HO278.out).2.2 | (with_reducible refine Kd.C_alloc ?_ _) | (with_reducible refine Kd.C_drewN ?_ _) | (with_reducible refine Kd.C_drew ?_))); (case side4 => exact (Kd.R_reads' HO278.out).2.1); rintro e w' ⟨rfl, ⟨nd, rfl⟩⟩))
     go_ret
     exact ⟨by first | rfl | (simp [errW_none, errW_some] <;> rfl) | (simp [*, errW_none, errW_some] <;> rfl), bw⟩
    ·rw [if_neg c14] at H
     have c14b0 : (t292 == t279) = false := beq_eq_false_iff_ne.mpr c14
     have c14b1 : (t292 != t279) = true := bne_iff_ne.mpr c14
     obtain rfl := Option.some.inj H
     obtain ⟨hcz24_0, hcz24_1, hcz24_2, hcz24_3, hcz24_4, hcz24_5, hcz24_6⟩ := blkC7 (w := wc) BK274.out
     obtain ⟨hfz24_0, hfz24_1, hfz24_2, hfz24_3, hfz24_4, hfz24_5, hfz24_6⟩ := blkF7 BK274.out
     go_wp2_with (first | ((with_reducible refine gate_callee (f := 18) rfl ?_); refine gL (some 21) Try.func18 #[.agg #[.string a0_0, .int .i64 a0_1, .int .i64 a0_2, .int .i64 x275003_4, .int .i64 a0_4, .int .i64 a0_5, .slice A0_6 l0_6.length c0_6], .int .i64 a1] ?_; (with_reducible refine (pylonref11_Fill.calls kj4 a0_0 a0_1 a0_2 x275003_4 a0_4 a0_5 _ _ l0_6 a1 t276 t279 _ ?side1 ?side2 A11.out).mono ?_); (case side1 => repeat (first | exact (Kd.C_below HR0_6.out HB.out) | (with_reducible refine Kd.C_alloc ?_ _) | (with_reducible refine Kd.C_drewN ?_ _) | (with_reducible refine Kd.C_drew ?_))); (case side2 => exact HC0_6.out); rintro e w25 ⟨v277, rfl, ho0, hb⟩; refine ⟨_, rfl, ?_⟩; have HO278 := AX (Kd.R_lower ho0 (below_size bw)); replace BK274 := AX (bkb BK274 hb); replace HB := AX (below_step bw hb); (try clear hb); (try clear hb2); (try clear hk); (try clear hi); (try clear ho0); obtain ⟨hcz26_0, hcz26_1, hcz26_2, hcz26_3, hcz26_4, hcz26_5, hcz26_6⟩ := blkC7 (w := w25) BK274.out; obtain ⟨hfz26_0, hfz26_1, hfz26_2, hfz26_3, hfz26_4, hfz26_5, hfz26_6⟩ := blkF7 BK274.out) | ((with_reducible refine gate_callee (f := 16) rfl ?_); refine gL (some 26) Try.func16 #[.agg #[.string a0_0, .int .i64 a0_1, .int .i64 a0_2, .int .i64 x275003_4, .int .i64 a0_4, .int .i64 a0_5, .slice A0_6 l0_6.length c0_6]] ?_; (with_reducible refine (pylonlaw11_copyFile.calls a0_0 a0_1 a0_2 x275003_4 a0_4 a0_5 _ _ l0_6 t280 t281 t282 t283 t284 t285 t286 _ ?side1 ?side2 A12.out).mono ?_); (case side1 => repeat (first | exact (Kd.C_below HR0_6.out HB.out) | (with_reducible refine Kd.C_alloc ?_ _) | (with_reducible refine Kd.C_drewN ?_ _) | (with_reducible refine Kd.C_drew ?_))); (case side2 => exact HC0_6.out); rintro e w27 ⟨v287, rfl, ho0, hb⟩; refine ⟨_, rfl, ?_⟩; have HO288 := AX (Kd.R_lower (Kd.R_new' ho0 (Kd.R_lt (kr HO278))) (below_size bw)); replace HO278 := AX (Kd.R_elder' (kr HO278) (Kd.R_base ho0) hb); replace BK274 := AX (bkb BK274 hb); replace HB := AX (below_step bw hb); (try clear hb); (try clear hb2); (try clear hk); (try clear hi); (try clear ho0); obtain ⟨Ao28, co28, eo28⟩ := Kd.R_slice HO288.out; subst eo28) | ((with_reducible refine gate_callee (f := 19) rfl ?_); refine gL (some 28) Try.func19 #[.agg #[.string t280, .int .i64 t281, .int .i64 t282, .int .i64 t283, .int .i64 t284, .int .i64 t285, .slice Ao28 t286.length co28], .int .i64 a1] ?_; (with_reducible refine (fill_Fill.calls t280 t281 t282 t283 t284 t285 _ _ t286 a1 t289 t292 _ ?side1 ?side2 A13.out).mono ?_); (case side1 => repeat (first | exact (Kd.R_reads' HO288.out).2.2 | (with_reducible refine Kd.C_alloc ?_ _) | (with_reducible refine Kd.C_drewN ?_ _) | (with_reducible refine Kd.C_drew ?_))); (case side2 => exact (Kd.R_reads' HO288.out).2.1); rintro e w29 ⟨v290, rfl, ho0, hb⟩; refine ⟨_, rfl, ?_⟩; have HO291 := AX (Kd.R_lower (Kd.R_new' (Kd.R_new' ho0 (Kd.R_lt (kr HO278))) (Kd.R_lt (kr HO288))) (below_size bw)); replace HO278 := AX (Kd.R_elder' (kr HO278) (Kd.R_base ho0) hb); replace HO288 := AX (Kd.R_elder' (kr HO288) (Kd.R_base ho0) hb); replace BK274 := AX (bkb BK274 hb); replace HB := AX (below_step bw hb); (try clear hb); (try clear hb2); (try clear hk); (try clear hi); (try clear ho0)))
     go_ret
     exact ⟨by first | rfl | (simp [errW_none, errW_some] <;> rfl) | (simp [*, errW_none, errW_some] <;> rfl), bw⟩
 ·replace c4 := Bool.eq_false_iff.mpr c4
  subst c4
  have H1 : (some false) = some r := by rw [if_neg (show ¬ (false = true) by decide)] at H; exact H
  clear H
  have H := H1
  clear H1
  obtain rfl := Option.some.inj H
  go_enter Try.func6, Try.ntmps6
  go_wp2_with (first | ((with_reducible refine gate_dst (N := 2) rfl ?_); refine bx 2 #[.string a0_0, .int .i64 a0_1, .int .i64 a0_2, .int .i64 a0_3, .int .i64 a0_4, .int .i64 a0_5, .slice A0_6 l0_6.length c0_6] 31 ?_; intro gb274 hg w30 hbox hb; have BK274 := AX (hbox); have GW274 := gwl (w := w) hg bw; have GE274 := GW274; replace HB := AX (below_step bw hb); clear hb hbox hg) | ((with_reducible refine gate_callee (f := 10) rfl ?_); refine gL (some 9) Try.func10 #[] ?_; (with_reducible refine (pylonlaw11_awake.calls k  false _ A3.out).mono ?_); rintro e w31 ⟨rfl, hb⟩; refine ⟨_, rfl, ?_⟩; replace BK274 := AX (bkb BK274 hb); replace HB := AX (below_step bw hb); (try clear hb)))
  go_ret
  exact ⟨by first | rfl | (simp [errW_none, errW_some] <;> rfl) | (simp [*, errW_none, errW_some] <;> rfl), bw⟩

end Go.Proofs.Ythhifeefkmaeiaa.PX
