/- Functions of the program as plain Lean functions, each with a proof that the call in the machine answers just what the plain function says; condition: the plain function answers at all. -/
import Derived.Test.YtkggjjggcbcdiaaPXx0
import Derived.Test.YtkggjjggcbcdiaaPXx9
import Derived.Test.YtkggjjggcbcdiaaPXx14
import Derived.Test.YtkggjjggcbcdiaaPXx15
namespace Go.Proofs.Ytkggjjggcbcdiaa.PX
open Go.RowKit Go.Proofs.YtkggjjggcbcdiaaW.PrintWords Go.Proofs.YtkggjjggcbcdiaaW.PrintLast Go.Proofs.YtkggjjggcbcdiaaW.PrintMore
attribute [local go_sem] max2_int min2_int max_two min_two max_three min_three max_four min_four   -- for this text's walks alone
set_option linter.unusedVariables false
set_option linter.unusedSimpArgs false

/-! ### pylonref04_At: function 28 -/
mutual
def pylonref04_At.j0 : Nat → Int → Int → Int → Int → Bool → Int → Int → Int → Int → Int → Int → Int → Int → Int → Int → Option (Int × Int × Int × Int × Int × Int)
 | 0, _, _, _, _, _, _, _, _, _, _, _, _, _, _, _ => none
 | k + 1, x1, x9, x10, x11, x13, x253000, x253001, x253002, x253003, x253004, x253005, x253006, x253007, x253008, x253009 => if x10 > x11 then (if x1 < x11 then (pylonref04_At.j1 k x1 x9 true x253000 x253001 x253002 x253003 x253004 x253005 x253006 x253007 x253008 x253009) else (pylonref04_At.j1 k x1 x9 (decide (x1 ≥ x10)) x253000 x253001 x253002 x253003 x253004 x253005 x253006 x253007 x253008 x253009)) else (pylonref04_At.j1 k x1 x9 x13 x253000 x253001 x253002 x253003 x253004 x253005 x253006 x253007 x253008 x253009)
def pylonref04_At.j1 : Nat → Int → Int → Bool → Int → Int → Int → Int → Int → Int → Int → Int → Int → Int → Option (Int × Int × Int × Int × Int × Int)
 | 0, _, _, _, _, _, _, _, _, _, _, _, _, _ => none
 | k + 1, x1, x9, x13, x253000, x253001, x253002, x253003, x253004, x253005, x253006, x253007, x253008, x253009 => if x13 = true then ((pylonref04_shown.f k x1 (wrap64 (x253000 + x253001))).bind fun bt269 => (if bt269.2.2.2.2 = true then (some (bt269.1, bt269.2.1, bt269.2.2.1, wrap64 (Int.tdiv bt269.2.2.2.1 60), wrap64 (x253000 + x253001), 0)) else (some (0, 0, 0, 0, 0, 5)))) else ((pylonref04_shown.f k x1 x9).bind fun bt274 => (if bt274.2.2.2.2 = true then (some (bt274.1, bt274.2.1, bt274.2.2.1, wrap64 (Int.tdiv bt274.2.2.2.1 60), x9, 0)) else (some (0, 0, 0, 0, 0, 5))))
end
def pylonref04_At.f (k : Nat) (a0_0 : Int) (a0_1 : Int) (a0_2 : Int) (a0_3 : Int) (a0_4 : Int) (a0_5 : Int) (a0_6 : Int) (a0_7 : Int) (a0_8 : Int) (a0_9 : Int) (a1 : Int) : Option (Int × Int × Int × Int × Int × Int) := (pylonref04_Check.f k a0_0 a0_1 a0_2 a0_3 a0_4 a0_5 a0_6 a0_7 a0_8 a0_9).bind fun t254 => (if t254 = 0 then ((pylonref04_shown.f k a1 a0_0).bind fun bt255 => (if bt255.2.2.2.2 = true then (if a0_1 = 0 then ((pylonref04_shown.f k a1 a0_0).bind fun bt261 => (if bt261.2.2.2.2 = true then (some (bt261.1, bt261.2.1, bt261.2.2.1, wrap64 (Int.tdiv bt261.2.2.2.1 60), a0_0, 0)) else (some (0, 0, 0, 0, 0, 5)))) else ((pylonref04_Turns.f k a0_0 a0_1 a0_2 a0_3 a0_4 a0_5 a0_6 a0_7 a0_8 a0_9 bt255.1).bind fun bt266 => (if a1 ≥ bt266.1 then (pylonref04_At.j0 k a1 a0_0 bt266.1 bt266.2.1 (decide (a1 < bt266.2.1)) a0_0 a0_1 a0_2 a0_3 a0_4 a0_5 a0_6 a0_7 a0_8 a0_9) else (pylonref04_At.j0 k a1 a0_0 bt266.1 bt266.2.1 false a0_0 a0_1 a0_2 a0_3 a0_4 a0_5 a0_6 a0_7 a0_8 a0_9)))) else (some (0, 0, 0, 0, 0, 5)))) else (some (0, 0, 0, 0, 0, 8)))
theorem pylonref04_At.mono_l : ∀ k, (∀ y0 y1 y2 y3 y4 y5 y6 y7 y8 y9 y10 y11 y12 y13 y14, LeO (pylonref04_At.j0 k y0 y1 y2 y3 y4 y5 y6 y7 y8 y9 y10 y11 y12 y13 y14) (pylonref04_At.j0 (k + 1) y0 y1 y2 y3 y4 y5 y6 y7 y8 y9 y10 y11 y12 y13 y14)) ∧ (∀ y0 y1 y2 y3 y4 y5 y6 y7 y8 y9 y10 y11 y12, LeO (pylonref04_At.j1 k y0 y1 y2 y3 y4 y5 y6 y7 y8 y9 y10 y11 y12) (pylonref04_At.j1 (k + 1) y0 y1 y2 y3 y4 y5 y6 y7 y8 y9 y10 y11 y12))
 | 0 => ⟨fun _ _ _ _ _ _ _ _ _ _ _ _ _ _ _ r h => by simp [pylonref04_At.j0] at h, fun _ _ _ _ _ _ _ _ _ _ _ _ _ r h => by simp [pylonref04_At.j1] at h⟩
 | k + 1 => by
  obtain ⟨ih0, ih1⟩ := pylonref04_At.mono_l k
  refine ⟨?_, ?_⟩
  ·intro y0 y1 y2 y3 y4 y5 y6 y7 y8 y9 y10 y11 y12 y13 y14
   unfold pylonref04_At.j0
   repeat' first
   | (with_reducible exact ih0 _ _ _ _ _ _ _ _ _ _ _ _ _ _ _)
   | (with_reducible exact ih1 _ _ _ _ _ _ _ _ _ _ _ _ _)
   | (with_reducible exact pylonref04_Check.mono _ _ _ _ _ _ _ _ _ _ _)
   | (with_reducible exact pylonref04_Turns.mono _ _ _ _ _ _ _ _ _ _ _ _)
   | (with_reducible exact pylonref04_shown.mono _ _ _)
   | (with_reducible exact LeO.refl _)
   | (with_reducible exact LeO.none _)
   | (with_reducible refine LeO.ite ?_ ?_)
   | (with_reducible refine LeO.bind ?_ (fun _ => ?_))
  ·intro y0 y1 y2 y3 y4 y5 y6 y7 y8 y9 y10 y11 y12
   unfold pylonref04_At.j1
   repeat' first
   | (with_reducible exact ih0 _ _ _ _ _ _ _ _ _ _ _ _ _ _ _)
   | (with_reducible exact ih1 _ _ _ _ _ _ _ _ _ _ _ _ _)
   | (with_reducible exact pylonref04_Check.mono _ _ _ _ _ _ _ _ _ _ _)
   | (with_reducible exact pylonref04_Turns.mono _ _ _ _ _ _ _ _ _ _ _ _)
   | (with_reducible exact pylonref04_shown.mono _ _ _)
   | (with_reducible exact LeO.refl _)
   | (with_reducible exact LeO.none _)
   | (with_reducible refine LeO.ite ?_ ?_)
   | (with_reducible refine LeO.bind ?_ (fun _ => ?_))
theorem pylonref04_At.mono : ∀ a0 a1 a2 a3 a4 a5 a6 a7 a8 a9 a10 k, LeO (pylonref04_At.f k a0 a1 a2 a3 a4 a5 a6 a7 a8 a9 a10) (pylonref04_At.f (k + 1) a0 a1 a2 a3 a4 a5 a6 a7 a8 a9 a10) := by
 intro a0 a1 a2 a3 a4 a5 a6 a7 a8 a9 a10 k
 obtain ⟨ih0, ih1⟩ := pylonref04_At.mono_l k
 unfold pylonref04_At.f
 repeat' first
   | (with_reducible exact ih0 _ _ _ _ _ _ _ _ _ _ _ _ _ _ _)
   | (with_reducible exact ih1 _ _ _ _ _ _ _ _ _ _ _ _ _)
   | (with_reducible exact pylonref04_Check.mono _ _ _ _ _ _ _ _ _ _ _)
   | (with_reducible exact pylonref04_Turns.mono _ _ _ _ _ _ _ _ _ _ _ _)
   | (with_reducible exact pylonref04_shown.mono _ _ _)
   | (with_reducible exact LeO.refl _)
   | (with_reducible exact LeO.none _)
   | (with_reducible refine LeO.ite ?_ ?_)
   | (with_reducible refine LeO.bind ?_ (fun _ => ?_))
set_option maxHeartbeats 8000000 in
set_option maxRecDepth 100000 in
theorem pylonref04_At.calls (k : Nat) (a0_0 : Int) (a0_1 : Int) (a0_2 : Int) (a0_3 : Int) (a0_4 : Int) (a0_5 : Int) (a0_6 : Int) (a0_7 : Int) (a0_8 : Int) (a0_9 : Int) (a1 : Int) (r1 : Int) (r2 : Int) (r3 : Int) (r4 : Int) (r5 : Int) (r6 : Int) (w : World) (h : pylonref04_At.f k a0_0 a0_1 a0_2 a0_3 a0_4 a0_5 a0_6 a0_7 a0_8 a0_9 a1 = some (r1, r2, r3, r4, r5, r6)) :
  Calls Try.prog 28 #[.agg #[.int .i64 a0_0, .int .i64 a0_1, .int .i64 a0_2, .int .i64 a0_3, .int .i64 a0_4, .int .i64 a0_5, .int .i64 a0_6, .int .i64 a0_7, .int .i64 a0_8, .int .i64 a0_9], .int .i64 a1] w fun e w' => e = .returned (.tuple #[.agg #[.int .i64 r1, .int .i64 r2, .int .i64 r3, .int .i64 r4, .int .i64 r5], .int .i64 r6]) ∧ Below w.heap.size w w' := by
 have hu42 := Try.underlying42
 have hu54 := Try.underlying54
 have hu24 := Try.underlying24
 have HB := AX (Below.refl w.heap.size w)
 have H : ((pylonref04_Check.f k a0_0 a0_1 a0_2 a0_3 a0_4 a0_5 a0_6 a0_7 a0_8 a0_9).bind fun t254 => (if t254 = 0 then ((pylonref04_shown.f k a1 a0_0).bind fun bt255 => (if bt255.2.2.2.2 = true then (if a0_1 = 0 then ((pylonref04_shown.f k a1 a0_0).bind fun bt261 => (if bt261.2.2.2.2 = true then (some (bt261.1, bt261.2.1, bt261.2.2.1, wrap64 (Int.tdiv bt261.2.2.2.1 60), a0_0, 0)) else (some (0, 0, 0, 0, 0, 5)))) else ((pylonref04_Turns.f k a0_0 a0_1 a0_2 a0_3 a0_4 a0_5 a0_6 a0_7 a0_8 a0_9 bt255.1).bind fun bt266 => (if a1 ≥ bt266.1 then (pylonref04_At.j0 k a1 a0_0 bt266.1 bt266.2.1 (decide (a1 < bt266.2.1)) a0_0 a0_1 a0_2 a0_3 a0_4 a0_5 a0_6 a0_7 a0_8 a0_9) else (pylonref04_At.j0 k a1 a0_0 bt266.1 bt266.2.1 false a0_0 a0_1 a0_2 a0_3 a0_4 a0_5 a0_6 a0_7 a0_8 a0_9)))) else (some (0, 0, 0, 0, 0, 5)))) else (some (0, 0, 0, 0, 0, 8)))) = some (r1, r2, r3, r4, r5, r6) := h
 clear h
 replace H := Option.bind_eq_some_iff.mp H
 obtain ⟨t254, A30, H⟩ := H
 replace H : (if t254 = 0 then ((pylonref04_shown.f k a1 a0_0).bind fun bt255 => (if bt255.2.2.2.2 = true then (if a0_1 = 0 then ((pylonref04_shown.f k a1 a0_0).bind fun bt261 => (if bt261.2.2.2.2 = true then (some (bt261.1, bt261.2.1, bt261.2.2.1, wrap64 (Int.tdiv bt261.2.2.2.1 60), a0_0, 0)) else (some (0, 0, 0, 0, 0, 5)))) else ((pylonref04_Turns.f k a0_0 a0_1 a0_2 a0_3 a0_4 a0_5 a0_6 a0_7 a0_8 a0_9 bt255.1).bind fun bt266 => (if a1 ≥ bt266.1 then (pylonref04_At.j0 k a1 a0_0 bt266.1 bt266.2.1 (decide (a1 < bt266.2.1)) a0_0 a0_1 a0_2 a0_3 a0_4 a0_5 a0_6 a0_7 a0_8 a0_9) else (pylonref04_At.j0 k a1 a0_0 bt266.1 bt266.2.1 false a0_0 a0_1 a0_2 a0_3 a0_4 a0_5 a0_6 a0_7 a0_8 a0_9)))) else (some (0, 0, 0, 0, 0, 5)))) else (some (0, 0, 0, 0, 0, 8))) = some (r1, r2, r3, r4, r5, r6) := H
 have A3 := AX A30
 clear A30
 by_cases c4 : t254 = 0
 ·rw [if_pos c4] at H
  have c4b0 : (t254 == 0) = true := beq_iff_eq.mpr c4
  have c4b1 : (t254 != 0) = false := bne_eq_false_iff_eq.mpr c4
  clear c4
  replace H := Option.bind_eq_some_iff.mp H
  obtain ⟨⟨t255, t256, t257, t258, t259⟩, A50, H⟩ := H
  replace H : (if t259 = true then (if a0_1 = 0 then ((pylonref04_shown.f k a1 a0_0).bind fun bt261 => (if bt261.2.2.2.2 = true then (some (bt261.1, bt261.2.1, bt261.2.2.1, wrap64 (Int.tdiv bt261.2.2.2.1 60), a0_0, 0)) else (some (0, 0, 0, 0, 0, 5)))) else ((pylonref04_Turns.f k a0_0 a0_1 a0_2 a0_3 a0_4 a0_5 a0_6 a0_7 a0_8 a0_9 t255).bind fun bt266 => (if a1 ≥ bt266.1 then (pylonref04_At.j0 k a1 a0_0 bt266.1 bt266.2.1 (decide (a1 < bt266.2.1)) a0_0 a0_1 a0_2 a0_3 a0_4 a0_5 a0_6 a0_7 a0_8 a0_9) else (pylonref04_At.j0 k a1 a0_0 bt266.1 bt266.2.1 false a0_0 a0_1 a0_2 a0_3 a0_4 a0_5 a0_6 a0_7 a0_8 a0_9)))) else (some (0, 0, 0, 0, 0, 5))) = some (r1, r2, r3, r4, r5, r6) := H
  have A5 := AX A50
  clear A50
  by_cases c6 : t259 = true
  ·subst c6
   have H1 : (if a0_1 = 0 then ((pylonref04_shown.f k a1 a0_0).bind fun bt261 => (if bt261.2.2.2.2 = true then (some (bt261.1, bt261.2.1, bt261.2.2.1, wrap64 (Int.tdiv bt261.2.2.2.1 60), a0_0, 0)) else (some (0, 0, 0, 0, 0, 5)))) else ((pylonref04_Turns.f k a0_0 a0_1 a0_2 a0_3 a0_4 a0_5 a0_6 a0_7 a0_8 a0_9 t255).bind fun bt266 => (if a1 ≥ bt266.1 then (pylonref04_At.j0 k a1 a0_0 bt266.1 bt266.2.1 (decide (a1 < bt266.2.1)) a0_0 a0_1 a0_2 a0_3 a0_4 a0_5 a0_6 a0_7 a0_8 a0_9) else (pylonref04_At.j0 k a1 a0_0 bt266.1 bt266.2.1 false a0_0 a0_1 a0_2 a0_3 a0_4 a0_5 a0_6 a0_7 a0_8 a0_9)))) = some (r1, r2, r3, r4, r5, r6) := by rw [if_pos rfl] at H; exact H
   clear H
   have H := H1
   clear H1
   by_cases c7 : a0_1 = 0
   ·rw [if_pos c7] at H
    have c7b0 : (a0_1 == 0) = true := beq_iff_eq.mpr c7
    have c7b1 : (a0_1 != 0) = false := bne_eq_false_iff_eq.mpr c7
    clear c7
    replace H := Option.bind_eq_some_iff.mp H
    obtain ⟨⟨t261, t262, t263, t264, t265⟩, A80, H⟩ := H
    replace H : (if t265 = true then (some (t261, t262, t263, wrap64 (Int.tdiv t264 60), a0_0, 0)) else (some (0, 0, 0, 0, 0, 5))) = some (r1, r2, r3, r4, r5, r6) := H
    have A8 := AX A80
    clear A80
    by_cases c9 : t265 = true
    ·subst c9
     have H1 : (some (t261, t262, t263, wrap64 (Int.tdiv t264 60), a0_0, 0)) = some (r1, r2, r3, r4, r5, r6) := by rw [if_pos rfl] at H; exact H
     clear H
     have H := H1
     clear H1
     simp only [Option.some.injEq, Prod.mk.injEq] at H
     obtain ⟨rfl, rfl, rfl, rfl, rfl, rfl⟩ := H
     go_enter Try.func28, Try.ntmps28
     go_wp2_with (first | ((with_reducible refine gate_dst (N := 2) rfl ?_); refine bx 2 #[.int .i64 a0_0, .int .i64 a0_1, .int .i64 a0_2, .int .i64 a0_3, .int .i64 a0_4, .int .i64 a0_5, .int .i64 a0_6, .int .i64 a0_7, .int .i64 a0_8, .int .i64 a0_9] 42 ?_; intro gb252 hg w10 hbox hb; have BK252 := AX (hbox); have GW252 := gwl (w := w) hg bw; have GE252 := GW252; replace HB := AX (below_step bw hb); clear hb hbox hg) | ((with_reducible refine gate_dst (N := 4) rfl ?_); refine bx 4 #[.int .i64 0, .int .i64 0, .int .i64 0, .int .i64 0, .int .i64 0] 54 ?_; intro gb253 hg w11 hbox hb; have BK253 := AX (hbox); have GW253 := gwl (w := w) hg bw; have GE253 := GW253; have NB252_253 := nbl hg (bkn BK252); have NB253_252 := nbg hg (bkn BK252); replace BK252 := AX (bkb BK252 hb); replace HB := AX (below_step bw hb); clear hb hbox hg; have hnb12 := NB252_253.out; have hnc12 := NB253_252.out; obtain ⟨hcz13_0, hcz13_1, hcz13_2, hcz13_3, hcz13_4, hcz13_5, hcz13_6, hcz13_7, hcz13_8, hcz13_9⟩ := blkC10 (w := w11) BK252.out; obtain ⟨hfz13_0, hfz13_1, hfz13_2, hfz13_3, hfz13_4, hfz13_5, hfz13_6, hfz13_7, hfz13_8, hfz13_9⟩ := blkF10 BK252.out) | ((with_reducible refine gate_callee (f := 52) rfl ?_); refine gL (some 15) Try.func52 #[.agg #[.int .i64 a0_0, .int .i64 a0_1, .int .i64 a0_2, .int .i64 a0_3, .int .i64 a0_4, .int .i64 a0_5, .int .i64 a0_6, .int .i64 a0_7, .int .i64 a0_8, .int .i64 a0_9]] ?_; (with_reducible refine (pylonref04_Check.calls k a0_0 a0_1 a0_2 a0_3 a0_4 a0_5 a0_6 a0_7 a0_8 a0_9 t254 _ A3.out).mono ?_); rintro e w14 ⟨rfl, hb⟩; refine ⟨_, rfl, ?_⟩; replace BK252 := AX (bkb BK252 hb); replace BK253 := AX (bkb BK253 hb); replace HB := AX (below_step bw hb); (try clear hb); obtain ⟨hcz15_0, hcz15_1, hcz15_2, hcz15_3, hcz15_4, hcz15_5, hcz15_6, hcz15_7, hcz15_8, hcz15_9⟩ := blkC10 (w := w14) BK252.out; obtain ⟨hfz15_0, hfz15_1, hfz15_2, hfz15_3, hfz15_4, hfz15_5, hfz15_6, hfz15_7, hfz15_8, hfz15_9⟩ := blkF10 BK252.out) | ((with_reducible refine gate_callee (f := 58) rfl ?_); refine gL (some 22) Try.func58 #[.int .i64 a1, .int .i64 a0_0] ?_; (with_reducible refine (pylonref04_shown.calls k a1 a0_0 t255 t256 t257 t258 true _ A5.out).mono ?_); rintro e w16 ⟨rfl, hb⟩; refine ⟨_, rfl, ?_⟩; replace BK252 := AX (bkb BK252 hb); replace BK253 := AX (bkb BK253 hb); replace HB := AX (below_step bw hb); (try clear hb)) | ((with_reducible refine gate_dst (N := 6) rfl ?_); refine bx 6 #[.int .i64 0, .int .i64 0, .int .i64 0] 24 ?_; intro gb260 hg w17 hbox hb; have BK260 := AX (hbox); have GW260 := gwl (w := w) hg bw; have GE260 := GW260; have NB252_260 := nbl hg (bkn BK252); have NB260_252 := nbg hg (bkn BK252); have NB253_260 := nbl hg (bkn BK253); have NB260_253 := nbg hg (bkn BK253); replace BK252 := AX (bkb BK252 hb); replace BK253 := AX (bkb BK253 hb); replace HB := AX (below_step bw hb); clear hb hbox hg; have hnb18 := NB260_252.out; have hnc18 := NB252_260.out; have hnb19 := NB260_253.out; have hnc19 := NB253_260.out; obtain ⟨hcz20_0, hcz20_1, hcz20_2⟩ := blkC3 (w := w17) BK260.out; obtain ⟨hfz20_0, hfz20_1, hfz20_2⟩ := blkF3 BK260.out; obtain ⟨hcz21_0, hcz21_1, hcz21_2, hcz21_3, hcz21_4, hcz21_5, hcz21_6, hcz21_7, hcz21_8, hcz21_9⟩ := blkC10 (w := w17) BK252.out; obtain ⟨hfz21_0, hfz21_1, hfz21_2, hfz21_3, hfz21_4, hfz21_5, hfz21_6, hfz21_7, hfz21_8, hfz21_9⟩ := blkF10 BK252.out) | ((with_reducible refine gate_callee (f := 58) rfl ?_); refine gL (some 70) Try.func58 #[.int .i64 a1, .int .i64 a0_0] ?_; (with_reducible refine (pylonref04_shown.calls k a1 a0_0 t261 t262 t263 t264 true _ A8.out).mono ?_); rintro e w22 ⟨rfl, hb⟩; refine ⟨_, rfl, ?_⟩; replace BK252 := AX (blk_below (g := gb252) (o := .cells #[.int .i64 a0_0, .int .i64 a0_1, .int .i64 a0_2, .int .i64 a0_3, .int .i64 a0_4, .int .i64 a0_5, .int .i64 a0_6, .int .i64 a0_7, .int .i64 a0_8, .int .i64 a0_9] 42 (0, 0)) (by (with_reducible repeat first|refine blk_drewN ?_ _|refine blk_drew ?_|refine blk_alloc ?_ _|refine blk_far ?_ NB252_260.out _); exact BK252.out) hb); replace BK253 := AX (blk_below (g := gb253) (o := .cells #[.int .i64 0, .int .i64 0, .int .i64 0, .int .i64 0, .int .i64 0] 54 (0, 0)) (by (with_reducible repeat first|refine blk_drewN ?_ _|refine blk_drew ?_|refine blk_alloc ?_ _|refine blk_far ?_ NB253_260.out _); exact BK253.out) hb); replace BK260 := AX (blk_below (g := gb260) (o := .cells #[.int .i64 t255, .int .i64 t256, .int .i64 t257] 24 (0, 0)) (by (with_reducible repeat first|refine blk_drewN ?_ _|refine blk_drew ?_|refine blk_alloc ?_ _); refine blk_put (cs := #[.int .i64 t255, .int .i64 t256, .int .i64 0]) ?_ 2 _ rfl; (with_reducible repeat first|refine blk_drewN ?_ _|refine blk_drew ?_|refine blk_alloc ?_ _); refine blk_put (cs := #[.int .i64 t255, .int .i64 0, .int .i64 0]) ?_ 1 _ rfl; (with_reducible repeat first|refine blk_drewN ?_ _|refine blk_drew ?_|refine blk_alloc ?_ _); refine blk_put (cs := #[.int .i64 0, .int .i64 0, .int .i64 0]) ?_ 0 _ rfl; (with_reducible repeat first|refine blk_drewN ?_ _|refine blk_drew ?_|refine blk_alloc ?_ _); exact BK260.out) hb); replace HB := AX (below_step bw hb); (try clear hb); obtain ⟨hcz23_0, hcz23_1, hcz23_2⟩ := blkC3 (w := w22) BK260.out; obtain ⟨hfz23_0, hfz23_1, hfz23_2⟩ := blkF3 BK260.out; obtain ⟨hcz24_0, hcz24_1, hcz24_2, hcz24_3, hcz24_4⟩ := blkC5 (w := w22) BK253.out; obtain ⟨hfz24_0, hfz24_1, hfz24_2, hfz24_3, hfz24_4⟩ := blkF5 BK253.out))
     refine bodyPost_ret (results_ct rfl _ _ gb253 54 #[.int .i64 t261, .int .i64 t262, .int .i64 t263, .int .i64 (wrap64 (Int.tdiv t264 60)), .int .i64 a0_0] (0, 0) _ rfl (by (with_reducible repeat first|refine blk_drewN ?_ _|refine blk_drew ?_|refine blk_alloc ?_ _); refine blk_put (cs := #[.int .i64 t261, .int .i64 t262, .int .i64 t263, .int .i64 (wrap64 (Int.tdiv t264 60)), .int .i64 0]) ?_ 4 _ rfl; (with_reducible repeat first|refine blk_drewN ?_ _|refine blk_drew ?_|refine blk_alloc ?_ _); refine blk_put (cs := #[.int .i64 t261, .int .i64 t262, .int .i64 t263, .int .i64 0, .int .i64 0]) ?_ 3 _ rfl; (with_reducible repeat first|refine blk_drewN ?_ _|refine blk_drew ?_|refine blk_alloc ?_ _); refine blk_put (cs := #[.int .i64 t261, .int .i64 t262, .int .i64 0, .int .i64 0, .int .i64 0]) ?_ 2 _ rfl; (with_reducible repeat first|refine blk_drewN ?_ _|refine blk_drew ?_|refine blk_alloc ?_ _); refine blk_put (cs := #[.int .i64 t261, .int .i64 0, .int .i64 0, .int .i64 0, .int .i64 0]) ?_ 1 _ rfl; (with_reducible repeat first|refine blk_drewN ?_ _|refine blk_drew ?_|refine blk_alloc ?_ _); refine blk_put (cs := #[.int .i64 0, .int .i64 0, .int .i64 0, .int .i64 0, .int .i64 0]) ?_ 0 _ rfl; (with_reducible repeat first|refine blk_drewN ?_ _|refine blk_drew ?_|refine blk_alloc ?_ _); refine blk_far ?_ NB253_260.out _; (with_reducible repeat first|refine blk_drewN ?_ _|refine blk_drew ?_|refine blk_alloc ?_ _); refine blk_far ?_ NB253_260.out _; (with_reducible repeat first|refine blk_drewN ?_ _|refine blk_drew ?_|refine blk_alloc ?_ _); refine blk_far ?_ NB253_260.out _; (with_reducible repeat first|refine blk_drewN ?_ _|refine blk_drew ?_|refine blk_alloc ?_ _); exact BK253.out) Try.underlying54 rfl (by kernel_rfl)) rfl ?_
     exact ⟨by first | rfl | (simp [errW_none, errW_some] <;> rfl) | (simp [*, errW_none, errW_some] <;> rfl), bw⟩
    ·replace c9 := Bool.eq_false_iff.mpr c9
     subst c9
     have H1 : (some (0, 0, 0, 0, 0, 5)) = some (r1, r2, r3, r4, r5, r6) := by rw [if_neg (show ¬ (false = true) by decide)] at H; exact H
     clear H
     have H := H1
     clear H1
     simp only [Option.some.injEq, Prod.mk.injEq] at H
     obtain ⟨rfl, rfl, rfl, rfl, rfl, rfl⟩ := H
     go_enter Try.func28, Try.ntmps28
     go_wp2_with (first | ((with_reducible refine gate_dst (N := 2) rfl ?_); refine bx 2 #[.int .i64 a0_0, .int .i64 a0_1, .int .i64 a0_2, .int .i64 a0_3, .int .i64 a0_4, .int .i64 a0_5, .int .i64 a0_6, .int .i64 a0_7, .int .i64 a0_8, .int .i64 a0_9] 42 ?_; intro gb252 hg w25 hbox hb; have BK252 := AX (hbox); have GW252 := gwl (w := w) hg bw; have GE252 := GW252; replace HB := AX (below_step bw hb); clear hb hbox hg) | ((with_reducible refine gate_dst (N := 4) rfl ?_); refine bx 4 #[.int .i64 0, .int .i64 0, .int .i64 0, .int .i64 0, .int .i64 0] 54 ?_; intro gb253 hg w26 hbox hb; have BK253 := AX (hbox); have GW253 := gwl (w := w) hg bw; have GE253 := GW253; have NB252_253 := nbl hg (bkn BK252); have NB253_252 := nbg hg (bkn BK252); replace BK252 := AX (bkb BK252 hb); replace HB := AX (below_step bw hb); clear hb hbox hg; have hnb27 := NB252_253.out; have hnc27 := NB253_252.out; obtain ⟨hcz28_0, hcz28_1, hcz28_2, hcz28_3, hcz28_4, hcz28_5, hcz28_6, hcz28_7, hcz28_8, hcz28_9⟩ := blkC10 (w := w26) BK252.out; obtain ⟨hfz28_0, hfz28_1, hfz28_2, hfz28_3, hfz28_4, hfz28_5, hfz28_6, hfz28_7, hfz28_8, hfz28_9⟩ := blkF10 BK252.out) | ((with_reducible refine gate_callee (f := 52) rfl ?_); refine gL (some 15) Try.func52 #[.agg #[.int .i64 a0_0, .int .i64 a0_1, .int .i64 a0_2, .int .i64 a0_3, .int .i64 a0_4, .int .i64 a0_5, .int .i64 a0_6, .int .i64 a0_7, .int .i64 a0_8, .int .i64 a0_9]] ?_; (with_reducible refine (pylonref04_Check.calls k a0_0 a0_1 a0_2 a0_3 a0_4 a0_5 a0_6 a0_7 a0_8 a0_9 t254 _ A3.out).mono ?_); rintro e w29 ⟨rfl, hb⟩; refine ⟨_, rfl, ?_⟩; replace BK252 := AX (bkb BK252 hb); replace BK253 := AX (bkb BK253 hb); replace HB := AX (below_step bw hb); (try clear hb); obtain ⟨hcz30_0, hcz30_1, hcz30_2, hcz30_3, hcz30_4, hcz30_5, hcz30_6, hcz30_7, hcz30_8, hcz30_9⟩ := blkC10 (w := w29) BK252.out; obtain ⟨hfz30_0, hfz30_1, hfz30_2, hfz30_3, hfz30_4, hfz30_5, hfz30_6, hfz30_7, hfz30_8, hfz30_9⟩ := blkF10 BK252.out) | ((with_reducible refine gate_callee (f := 58) rfl ?_); refine gL (some 22) Try.func58 #[.int .i64 a1, .int .i64 a0_0] ?_; (with_reducible refine (pylonref04_shown.calls k a1 a0_0 t255 t256 t257 t258 true _ A5.out).mono ?_); rintro e w31 ⟨rfl, hb⟩; refine ⟨_, rfl, ?_⟩; replace BK252 := AX (bkb BK252 hb); replace BK253 := AX (bkb BK253 hb); replace HB := AX (below_step bw hb); (try clear hb)) | ((with_reducible refine gate_dst (N := 6) rfl ?_); refine bx 6 #[.int .i64 0, .int .i64 0, .int .i64 0] 24 ?_; intro gb260 hg w32 hbox hb; have BK260 := AX (hbox); have GW260 := gwl (w := w) hg bw; have GE260 := GW260; have NB252_260 := nbl hg (bkn BK252); have NB260_252 := nbg hg (bkn BK252); have NB253_260 := nbl hg (bkn BK253); have NB260_253 := nbg hg (bkn BK253); replace BK252 := AX (bkb BK252 hb); replace BK253 := AX (bkb BK253 hb); replace HB := AX (below_step bw hb); clear hb hbox hg; have hnb33 := NB260_252.out; have hnc33 := NB252_260.out; have hnb34 := NB260_253.out; have hnc34 := NB253_260.out; obtain ⟨hcz35_0, hcz35_1, hcz35_2⟩ := blkC3 (w := w32) BK260.out; obtain ⟨hfz35_0, hfz35_1, hfz35_2⟩ := blkF3 BK260.out; obtain ⟨hcz36_0, hcz36_1, hcz36_2, hcz36_3, hcz36_4, hcz36_5, hcz36_6, hcz36_7, hcz36_8, hcz36_9⟩ := blkC10 (w := w32) BK252.out; obtain ⟨hfz36_0, hfz36_1, hfz36_2, hfz36_3, hfz36_4, hfz36_5, hfz36_6, hfz36_7, hfz36_8, hfz36_9⟩ := blkF10 BK252.out) | ((with_reducible refine gate_callee (f := 58) rfl ?_); refine gL (some 70) Try.func58 #[.int .i64 a1, .int .i64 a0_0] ?_; (with_reducible refine (pylonref04_shown.calls k a1 a0_0 t261 t262 t263 t264 false _ A8.out).mono ?_); rintro e w37 ⟨rfl, hb⟩; refine ⟨_, rfl, ?_⟩; replace BK252 := AX (blk_below (g := gb252) (o := .cells #[.int .i64 a0_0, .int .i64 a0_1, .int .i64 a0_2, .int .i64 a0_3, .int .i64 a0_4, .int .i64 a0_5, .int .i64 a0_6, .int .i64 a0_7, .int .i64 a0_8, .int .i64 a0_9] 42 (0, 0)) (by (with_reducible repeat first|refine blk_drewN ?_ _|refine blk_drew ?_|refine blk_alloc ?_ _|refine blk_far ?_ NB252_260.out _); exact BK252.out) hb); replace BK253 := AX (blk_below (g := gb253) (o := .cells #[.int .i64 0, .int .i64 0, .int .i64 0, .int .i64 0, .int .i64 0] 54 (0, 0)) (by (with_reducible repeat first|refine blk_drewN ?_ _|refine blk_drew ?_|refine blk_alloc ?_ _|refine blk_far ?_ NB253_260.out _); exact BK253.out) hb); replace BK260 := AX (blk_below (g := gb260) (o := .cells #[.int .i64 t255, .int .i64 t256, .int .i64 t257] 24 (0, 0)) (by (with_reducible repeat first|refine blk_drewN ?_ _|refine blk_drew ?_|refine blk_alloc ?_ _); refine blk_put (cs := #[.int .i64 t255, .int .i64 t256, .int .i64 0]) ?_ 2 _ rfl; (with_reducible repeat first|refine blk_drewN ?_ _|refine blk_drew ?_|refine blk_alloc ?_ _); refine blk_put (cs := #[.int .i64 t255, .int .i64 0, .int .i64 0]) ?_ 1 _ rfl; (with_reducible repeat first|refine blk_drewN ?_ _|refine blk_drew ?_|refine blk_alloc ?_ _); refine blk_put (cs := #[.int .i64 0, .int .i64 0, .int .i64 0]) ?_ 0 _ rfl; (with_reducible repeat first|refine blk_drewN ?_ _|refine blk_drew ?_|refine blk_alloc ?_ _); exact BK260.out) hb); replace HB := AX (below_step bw hb); (try clear hb); obtain ⟨hcz38_0, hcz38_1, hcz38_2⟩ := blkC3 (w := w37) BK260.out; obtain ⟨hfz38_0, hfz38_1, hfz38_2⟩ := blkF3 BK260.out; obtain ⟨hcz39_0, hcz39_1, hcz39_2, hcz39_3, hcz39_4⟩ := blkC5 (w := w37) BK253.out; obtain ⟨hfz39_0, hfz39_1, hfz39_2, hfz39_3, hfz39_4⟩ := blkF5 BK253.out))
     refine bodyPost_ret (results_ct rfl _ _ gb253 54 #[.int .i64 0, .int .i64 0, .int .i64 0, .int .i64 0, .int .i64 0] (0, 0) _ rfl (by (with_reducible repeat first|refine blk_drewN ?_ _|refine blk_drew ?_|refine blk_alloc ?_ _); refine blk_put (cs := #[.int .i64 0, .int .i64 0, .int .i64 0, .int .i64 0, .int .i64 0]) ?_ 4 _ rfl; (with_reducible repeat first|refine blk_drewN ?_ _|refine blk_drew ?_|refine blk_alloc ?_ _); refine blk_put (cs := #[.int .i64 0, .int .i64 0, .int .i64 0, .int .i64 0, .int .i64 0]) ?_ 3 _ rfl; (with_reducible repeat first|refine blk_drewN ?_ _|refine blk_drew ?_|refine blk_alloc ?_ _); refine blk_put (cs := #[.int .i64 0, .int .i64 0, .int .i64 0, .int .i64 0, .int .i64 0]) ?_ 2 _ rfl; (with_reducible repeat first|refine blk_drewN ?_ _|refine blk_drew ?_|refine blk_alloc ?_ _); refine blk_put (cs := #[.int .i64 0, .int .i64 0, .int .i64 0, .int .i64 0, .int .i64 0]) ?_ 1 _ rfl; (with_reducible repeat first|refine blk_drewN ?_ _|refine blk_drew ?_|refine blk_alloc ?_ _); refine blk_put (cs := #[.int .i64 0, .int .i64 0, .int .i64 0, .int .i64 0, .int .i64 0]) ?_ 0 _ rfl; (with_reducible repeat first|refine blk_drewN ?_ _|refine blk_drew ?_|refine blk_alloc ?_ _); refine blk_far ?_ NB253_260.out _; (with_reducible repeat first|refine blk_drewN ?_ _|refine blk_drew ?_|refine blk_alloc ?_ _); refine blk_far ?_ NB253_260.out _; (with_reducible repeat first|refine blk_drewN ?_ _|refine blk_drew ?_|refine blk_alloc ?_ _); refine blk_far ?_ NB253_260.out _; (with_reducible repeat first|refine blk_drewN ?_ _|refine blk_drew ?_|refine blk_alloc ?_ _); exact BK253.out) Try.underlying54 rfl (by kernel_rfl)) rfl ?_
     exact ⟨by first | rfl | (simp [errW_none, errW_some] <;> rfl) | (simp [*, errW_none, errW_some] <;> rfl), bw⟩
   ·rw [if_neg c7] at H
    have c7b0 : (a0_1 == 0) = false := beq_eq_false_iff_ne.mpr c7
    have c7b1 : (a0_1 != 0) = true := bne_iff_ne.mpr c7
    replace H := Option.bind_eq_some_iff.mp H
    obtain ⟨⟨t266, t267, t268⟩, A400, H⟩ := H
    replace H : (if a1 ≥ t266 then (pylonref04_At.j0 k a1 a0_0 t266 t267 (decide (a1 < t267)) a0_0 a0_1 a0_2 a0_3 a0_4 a0_5 a0_6 a0_7 a0_8 a0_9) else (pylonref04_At.j0 k a1 a0_0 t266 t267 false a0_0 a0_1 a0_2 a0_3 a0_4 a0_5 a0_6 a0_7 a0_8 a0_9)) = some (r1, r2, r3, r4, r5, r6) := H
    have A40 := AX A400
    clear A400
    have HC41 := AX H
    clear H
    go_enter Try.func28, Try.ntmps28
    go_upto_region 9 with (first | ((with_reducible refine gate_dst (N := 2) rfl ?_); refine bx 2 #[.int .i64 a0_0, .int .i64 a0_1, .int .i64 a0_2, .int .i64 a0_3, .int .i64 a0_4, .int .i64 a0_5, .int .i64 a0_6, .int .i64 a0_7, .int .i64 a0_8, .int .i64 a0_9] 42 ?_; intro gb252 hg w42 hbox hb; have BK252 := AX (hbox); have GW252 := gwl (w := w) hg bw; have GE252 := GW252; replace HB := AX (below_step bw hb); clear hb hbox hg) | ((with_reducible refine gate_dst (N := 4) rfl ?_); refine bx 4 #[.int .i64 0, .int .i64 0, .int .i64 0, .int .i64 0, .int .i64 0] 54 ?_; intro gb253 hg w43 hbox hb; have BK253 := AX (hbox); have GW253 := gwl (w := w) hg bw; have GE253 := GW253; have NB252_253 := nbl hg (bkn BK252); have NB253_252 := nbg hg (bkn BK252); replace BK252 := AX (bkb BK252 hb); replace HB := AX (below_step bw hb); clear hb hbox hg; have hnb44 := NB252_253.out; have hnc44 := NB253_252.out; obtain ⟨hcz45_0, hcz45_1, hcz45_2, hcz45_3, hcz45_4, hcz45_5, hcz45_6, hcz45_7, hcz45_8, hcz45_9⟩ := blkC10 (w := w43) BK252.out; obtain ⟨hfz45_0, hfz45_1, hfz45_2, hfz45_3, hfz45_4, hfz45_5, hfz45_6, hfz45_7, hfz45_8, hfz45_9⟩ := blkF10 BK252.out) | ((with_reducible refine gate_callee (f := 52) rfl ?_); refine gL (some 15) Try.func52 #[.agg #[.int .i64 a0_0, .int .i64 a0_1, .int .i64 a0_2, .int .i64 a0_3, .int .i64 a0_4, .int .i64 a0_5, .int .i64 a0_6, .int .i64 a0_7, .int .i64 a0_8, .int .i64 a0_9]] ?_; (with_reducible refine (pylonref04_Check.calls k a0_0 a0_1 a0_2 a0_3 a0_4 a0_5 a0_6 a0_7 a0_8 a0_9 t254 _ A3.out).mono ?_); rintro e w46 ⟨rfl, hb⟩; refine ⟨_, rfl, ?_⟩; replace BK252 := AX (bkb BK252 hb); replace BK253 := AX (bkb BK253 hb); replace HB := AX (below_step bw hb); (try clear hb); obtain ⟨hcz47_0, hcz47_1, hcz47_2, hcz47_3, hcz47_4, hcz47_5, hcz47_6, hcz47_7, hcz47_8, hcz47_9⟩ := blkC10 (w := w46) BK252.out; obtain ⟨hfz47_0, hfz47_1, hfz47_2, hfz47_3, hfz47_4, hfz47_5, hfz47_6, hfz47_7, hfz47_8, hfz47_9⟩ := blkF10 BK252.out) | ((with_reducible refine gate_callee (f := 58) rfl ?_); refine gL (some 22) Try.func58 #[.int .i64 a1, .int .i64 a0_0] ?_; (with_reducible refine (pylonref04_shown.calls k a1 a0_0 t255 t256 t257 t258 true _ A5.out).mono ?_); rintro e w48 ⟨rfl, hb⟩; refine ⟨_, rfl, ?_⟩; replace BK252 := AX (bkb BK252 hb); replace BK253 := AX (bkb BK253 hb); replace HB := AX (below_step bw hb); (try clear hb)) | ((with_reducible refine gate_dst (N := 6) rfl ?_); refine bx 6 #[.int .i64 0, .int .i64 0, .int .i64 0] 24 ?_; intro gb260 hg w49 hbox hb; have BK260 := AX (hbox); have GW260 := gwl (w := w) hg bw; have GE260 := GW260; have NB252_260 := nbl hg (bkn BK252); have NB260_252 := nbg hg (bkn BK252); have NB253_260 := nbl hg (bkn BK253); have NB260_253 := nbg hg (bkn BK253); replace BK252 := AX (bkb BK252 hb); replace BK253 := AX (bkb BK253 hb); replace HB := AX (below_step bw hb); clear hb hbox hg; have hnb50 := NB260_252.out; have hnc50 := NB252_260.out; have hnb51 := NB260_253.out; have hnc51 := NB253_260.out; obtain ⟨hcz52_0, hcz52_1, hcz52_2⟩ := blkC3 (w := w49) BK260.out; obtain ⟨hfz52_0, hfz52_1, hfz52_2⟩ := blkF3 BK260.out; obtain ⟨hcz53_0, hcz53_1, hcz53_2, hcz53_3, hcz53_4, hcz53_5, hcz53_6, hcz53_7, hcz53_8, hcz53_9⟩ := blkC10 (w := w49) BK252.out; obtain ⟨hfz53_0, hfz53_1, hfz53_2, hfz53_3, hfz53_4, hfz53_5, hfz53_6, hfz53_7, hfz53_8, hfz53_9⟩ := blkF10 BK252.out) | ((with_reducible refine gate_callee (f := 59) rfl ?_); refine gL (some 38) Try.func59 #[.agg #[.int .i64 a0_0, .int .i64 a0_1, .int .i64 a0_2, .int .i64 a0_3, .int .i64 a0_4, .int .i64 a0_5, .int .i64 a0_6, .int .i64 a0_7, .int .i64 a0_8, .int .i64 a0_9], .int .i64 t255] ?_; (with_reducible refine (pylonref04_Turns.calls k a0_0 a0_1 a0_2 a0_3 a0_4 a0_5 a0_6 a0_7 a0_8 a0_9 t255 t266 t267 t268 _ A40.out).mono ?_); rintro e w54 ⟨rfl, hb⟩; refine ⟨_, rfl, ?_⟩; replace BK252 := AX (blk_below (g := gb252) (o := .cells #[.int .i64 a0_0, .int .i64 a0_1, .int .i64 a0_2, .int .i64 a0_3, .int .i64 a0_4, .int .i64 a0_5, .int .i64 a0_6, .int .i64 a0_7, .int .i64 a0_8, .int .i64 a0_9] 42 (0, 0)) (by (with_reducible repeat first|refine blk_drewN ?_ _|refine blk_drew ?_|refine blk_alloc ?_ _|refine blk_far ?_ NB252_260.out _); exact BK252.out) hb); replace BK253 := AX (blk_below (g := gb253) (o := .cells #[.int .i64 0, .int .i64 0, .int .i64 0, .int .i64 0, .int .i64 0] 54 (0, 0)) (by (with_reducible repeat first|refine blk_drewN ?_ _|refine blk_drew ?_|refine blk_alloc ?_ _|refine blk_far ?_ NB253_260.out _); exact BK253.out) hb); replace BK260 := AX (blk_below (g := gb260) (o := .cells #[.int .i64 t255, .int .i64 t256, .int .i64 t257] 24 (0, 0)) (by (with_reducible repeat first|refine blk_drewN ?_ _|refine blk_drew ?_|refine blk_alloc ?_ _); refine blk_put (cs := #[.int .i64 t255, .int .i64 t256, .int .i64 0]) ?_ 2 _ rfl; (with_reducible repeat first|refine blk_drewN ?_ _|refine blk_drew ?_|refine blk_alloc ?_ _); refine blk_put (cs := #[.int .i64 t255, .int .i64 0, .int .i64 0]) ?_ 1 _ rfl; (with_reducible repeat first|refine blk_drewN ?_ _|refine blk_drew ?_|refine blk_alloc ?_ _); refine blk_put (cs := #[.int .i64 0, .int .i64 0, .int .i64 0]) ?_ 0 _ rfl; (with_reducible repeat first|refine blk_drewN ?_ _|refine blk_drew ?_|refine blk_alloc ?_ _); exact BK260.out) hb); replace HB := AX (below_step bw hb); (try clear hb)))
    (try simp only [Act.put, List.setIfInBounds_toArray, List.set_cons_zero, List.set_cons_succ])
    go_cut [13] (fun v13 wc => ∃ (kq : Nat) (x13_40 : Bool), v13 = .bool x13_40 ∧ Aside0 (pylonref04_At.j0 kq a1 a0_0 t266 t267 x13_40 a0_0 a0_1 a0_2 a0_3 a0_4 a0_5 a0_6 a0_7 a0_8 a0_9 = some (r1, r2, r3, r4, r5, r6)) ∧ Aside0 (kq ≤ k) ∧ Aside0 (wc.heap[gb252]? = some (.cells #[.int .i64 a0_0, .int .i64 a0_1, .int .i64 a0_2, .int .i64 a0_3, .int .i64 a0_4, .int .i64 a0_5, .int .i64 a0_6, .int .i64 a0_7, .int .i64 a0_8, .int .i64 a0_9] 42 (0, 0))) ∧ Aside0 (wc.heap[gb253]? = some (.cells #[.int .i64 0, .int .i64 0, .int .i64 0, .int .i64 0, .int .i64 0] 54 (0, 0))) ∧ Aside0 (wc.heap[gb260]? = some (.cells #[.int .i64 t255, .int .i64 t256, .int .i64 t257] 24 (0, 0))) ∧ Aside0 (Below w.heap.size w wc))
    case first =>
     have H := HC41.out
     clear HC41
     by_cases c55 : a1 ≥ t266
     ·rw [if_pos c55] at H
      have c55b0 : decide (t266 ≤ a1) = true := decide_eq_true c55
      clear c55
      (first | rw [c55b0] | (simp only [i64_w, i32_w]; rw [c55b0]) | skip)
      have H' := AX H
      clear H
      go_wp2
      go_meet
      case rel => exact ⟨_, (decide (a1 < t267)), (by first | rfl | (simp; done) | (simp [*]; done)), H', ⟨by first | omega | exact Nat.le_refl _⟩, ⟨bkn BK252⟩, ⟨bkn BK253⟩, ⟨bkn BK260⟩, ⟨bw⟩⟩
     ·rw [if_neg c55] at H
      have c55b0 : decide (t266 ≤ a1) = false := decide_eq_false c55
      clear c55
      (first | rw [c55b0] | (simp only [i64_w, i32_w]; rw [c55b0]) | skip)
      have H' := AX H
      clear H
      go_wp2
      go_meet
      case rel => exact ⟨_, (false), (by first | rfl | (simp; done) | (simp [*]; done)), H', ⟨by first | omega | exact Nat.le_refl _⟩, ⟨bkn BK252⟩, ⟨bkn BK253⟩, ⟨bkn BK260⟩, ⟨bw⟩⟩
    case rest =>
     clear HC41
     try clear c4b0 c4b1
     try clear c6
     try clear c7
     try clear c7b0 c7b1
     try clear hcz45_0 hcz45_1 hcz45_2 hcz45_3 hcz45_4 hcz45_5 hcz45_6 hcz45_7 hcz45_8 hcz45_9
     try clear hcz47_0 hcz47_1 hcz47_2 hcz47_3 hcz47_4 hcz47_5 hcz47_6 hcz47_7 hcz47_8 hcz47_9
     try clear hcz52_0 hcz52_1 hcz52_2
     try clear hcz53_0 hcz53_1 hcz53_2 hcz53_3 hcz53_4 hcz53_5 hcz53_6 hcz53_7 hcz53_8 hcz53_9
     try clear hfz45_0 hfz45_1 hfz45_2 hfz45_3 hfz45_4 hfz45_5 hfz45_6 hfz45_7 hfz45_8 hfz45_9
     try clear hfz47_0 hfz47_1 hfz47_2 hfz47_3 hfz47_4 hfz47_5 hfz47_6 hfz47_7 hfz47_8 hfz47_9
     try clear hfz52_0 hfz52_1 hfz52_2
     try clear hfz53_0 hfz53_1 hfz53_2 hfz53_3 hfz53_4 hfz53_5 hfz53_6 hfz53_7 hfz53_8 hfz53_9
     obtain ⟨kq, x13_40, rfl, HA, HJ40, BK252, BK253, BK260, HB⟩ := hcut
     cases kq with
     | zero => exact absurd HA.out (by simp [pylonref04_At.j0])
     | succ kj40 =>
      have H := HA.out
      clear HA
      simp only [pylonref04_At.j0] at H
      have HC56 := AX H
      clear H
      go_upto_if 52 with (fail)
      go_cut [13] (fun v13 wc => ∃ (kq : Nat) (x13_55 : Bool), v13 = .bool x13_55 ∧ Aside0 (pylonref04_At.j1 kq a1 a0_0 x13_55 a0_0 a0_1 a0_2 a0_3 a0_4 a0_5 a0_6 a0_7 a0_8 a0_9 = some (r1, r2, r3, r4, r5, r6)) ∧ Aside0 (kq ≤ kj40) ∧ Aside0 (wc.heap[gb252]? = some (.cells #[.int .i64 a0_0, .int .i64 a0_1, .int .i64 a0_2, .int .i64 a0_3, .int .i64 a0_4, .int .i64 a0_5, .int .i64 a0_6, .int .i64 a0_7, .int .i64 a0_8, .int .i64 a0_9] 42 (0, 0))) ∧ Aside0 (wc.heap[gb253]? = some (.cells #[.int .i64 0, .int .i64 0, .int .i64 0, .int .i64 0, .int .i64 0] 54 (0, 0))) ∧ Aside0 (wc.heap[gb260]? = some (.cells #[.int .i64 t255, .int .i64 t256, .int .i64 t257] 24 (0, 0))) ∧ Aside0 (Below w.heap.size w wc))
      case first =>
       have H := HC56.out
       clear HC56
       by_cases c57 : t266 > t267
       ·rw [if_pos c57] at H
        have c57b0 : decide (t267 < t266) = true := decide_eq_true c57
        clear c57
        (first | rw [c57b0] | (simp only [i64_w, i32_w]; rw [c57b0]) | skip)
        by_cases c58 : a1 < t267
        ·rw [if_pos c58] at H
         have c58b0 : decide (a1 < t267) = true := decide_eq_true c58
         clear c58
         have H' := AX H
         clear H
         go_wp2
         go_meet
         case rel => exact ⟨_, (true), (by first | rfl | (simp; done) | (simp [*]; done)), H', ⟨by have := HJ40.out; first | omega | exact Nat.le_refl _⟩, ⟨bkn BK252⟩, ⟨bkn BK253⟩, ⟨bkn BK260⟩, ⟨bw⟩⟩
        ·rw [if_neg c58] at H
         have c58b0 : decide (a1 < t267) = false := decide_eq_false c58
         clear c58
         have H' := AX H
         clear H
         go_wp2
         go_meet
         case rel => exact ⟨_, (decide (a1 ≥ t266)), (by first | rfl | (simp; done) | (simp [*]; done)), H', ⟨by have := HJ40.out; first | omega | exact Nat.le_refl _⟩, ⟨bkn BK252⟩, ⟨bkn BK253⟩, ⟨bkn BK260⟩, ⟨bw⟩⟩
       ·rw [if_neg c57] at H
        have c57b0 : decide (t267 < t266) = false := decide_eq_false c57
        clear c57
        (first | rw [c57b0] | (simp only [i64_w, i32_w]; rw [c57b0]) | skip)
        have H' := AX H
        clear H
        go_wp2
        go_meet
        case rel => exact ⟨_, (x13_40), (by first | rfl | (simp; done) | (simp [*]; done)), H', ⟨by have := HJ40.out; first | omega | exact Nat.le_refl _⟩, ⟨bkn BK252⟩, ⟨bkn BK253⟩, ⟨bkn BK260⟩, ⟨bw⟩⟩
      case rest =>
       clear HC56
       obtain ⟨kq, x13_55, rfl, HA, HJ55, BK252, BK253, BK260, HB⟩ := hcut
       cases kq with
       | zero => exact absurd HA.out (by simp [pylonref04_At.j1])
       | succ kj55 =>
        have H := HA.out
        clear HA
        simp only [pylonref04_At.j1] at H
        by_cases c59 : x13_55 = true
        ·subst c59
         have H1 : ((pylonref04_shown.f kj55 a1 (wrap64 (a0_0 + a0_1))).bind fun bt269 => (if bt269.2.2.2.2 = true then (some (bt269.1, bt269.2.1, bt269.2.2.1, wrap64 (Int.tdiv bt269.2.2.2.1 60), wrap64 (a0_0 + a0_1), 0)) else (some (0, 0, 0, 0, 0, 5)))) = some (r1, r2, r3, r4, r5, r6) := by rw [if_pos rfl] at H; exact H
         clear H
         have H := H1
         clear H1
         replace H := Option.bind_eq_some_iff.mp H
         obtain ⟨⟨t269, t270, t271, t272, t273⟩, A600, H⟩ := H
         replace H : (if t273 = true then (some (t269, t270, t271, wrap64 (Int.tdiv t272 60), wrap64 (a0_0 + a0_1), 0)) else (some (0, 0, 0, 0, 0, 5))) = some (r1, r2, r3, r4, r5, r6) := H
         have A60 := AX A600
         clear A600
         by_cases c61 : t273 = true
         ·subst c61
          have H1 : (some (t269, t270, t271, wrap64 (Int.tdiv t272 60), wrap64 (a0_0 + a0_1), 0)) = some (r1, r2, r3, r4, r5, r6) := by rw [if_pos rfl] at H; exact H
          clear H
          have H := H1
          clear H1
          simp only [Option.some.injEq, Prod.mk.injEq] at H
          obtain ⟨rfl, rfl, rfl, rfl, rfl, rfl⟩ := H
          have hnb62 := NB252_253.out
          have hnc62 := NB253_252.out
          have hnb63 := NB252_260.out
          have hnc63 := NB260_252.out
          obtain ⟨hcz64_0, hcz64_1, hcz64_2, hcz64_3, hcz64_4, hcz64_5, hcz64_6, hcz64_7, hcz64_8, hcz64_9⟩ := blkC10 (w := wc) BK252.out
          obtain ⟨hfz64_0, hfz64_1, hfz64_2, hfz64_3, hfz64_4, hfz64_5, hfz64_6, hfz64_7, hfz64_8, hfz64_9⟩ := blkF10 BK252.out
          go_wp2_with (first | ((with_reducible refine gate_callee (f := 58) rfl ?_); refine gL (some 70) Try.func58 #[.int .i64 a1, .int .i64 (wrap64 (a0_0 + a0_1))] ?_; (with_reducible refine (pylonref04_shown.calls kj55 a1 (wrap64 (a0_0 + a0_1)) t269 t270 t271 t272 true _ A60.out).mono ?_); rintro e w65 ⟨rfl, hb⟩; refine ⟨_, rfl, ?_⟩; replace BK252 := AX (bkb BK252 hb); replace BK253 := AX (bkb BK253 hb); replace BK260 := AX (bkb BK260 hb); replace HB := AX (below_step bw hb); (try clear hb); have hnb66 := NB260_253.out; have hnc66 := NB253_260.out; obtain ⟨hcz67_0, hcz67_1, hcz67_2⟩ := blkC3 (w := w65) BK260.out; obtain ⟨hfz67_0, hfz67_1, hfz67_2⟩ := blkF3 BK260.out; obtain ⟨hcz68_0, hcz68_1, hcz68_2, hcz68_3, hcz68_4⟩ := blkC5 (w := w65) BK253.out; obtain ⟨hfz68_0, hfz68_1, hfz68_2, hfz68_3, hfz68_4⟩ := blkF5 BK253.out))
          refine bodyPost_ret (results_ct rfl _ _ gb253 54 #[.int .i64 t269, .int .i64 t270, .int .i64 t271, .int .i64 (wrap64 (Int.tdiv t272 60)), .int .i64 (wrap64 (a0_0 + a0_1))] (0, 0) _ rfl (by (with_reducible repeat first|refine blk_drewN ?_ _|refine blk_drew ?_|refine blk_alloc ?_ _); refine blk_put (cs := #[.int .i64 t269, .int .i64 t270, .int .i64 t271, .int .i64 (wrap64 (Int.tdiv t272 60)), .int .i64 0]) ?_ 4 _ rfl; (with_reducible repeat first|refine blk_drewN ?_ _|refine blk_drew ?_|refine blk_alloc ?_ _); refine blk_put (cs := #[.int .i64 t269, .int .i64 t270, .int .i64 t271, .int .i64 0, .int .i64 0]) ?_ 3 _ rfl; (with_reducible repeat first|refine blk_drewN ?_ _|refine blk_drew ?_|refine blk_alloc ?_ _); refine blk_put (cs := #[.int .i64 t269, .int .i64 t270, .int .i64 0, .int .i64 0, .int .i64 0]) ?_ 2 _ rfl; (with_reducible repeat first|refine blk_drewN ?_ _|refine blk_drew ?_|refine blk_alloc ?_ _); refine blk_put (cs := #[.int .i64 t269, .int .i64 0, .int .i64 0, .int .i64 0, .int .i64 0]) ?_ 1 _ rfl; (with_reducible repeat first|refine blk_drewN ?_ _|refine blk_drew ?_|refine blk_alloc ?_ _); refine blk_put (cs := #[.int .i64 0, .int .i64 0, .int .i64 0, .int .i64 0, .int .i64 0]) ?_ 0 _ rfl; (with_reducible repeat first|refine blk_drewN ?_ _|refine blk_drew ?_|refine blk_alloc ?_ _); refine blk_far ?_ NB253_260.out _; (with_reducible repeat first|refine blk_drewN ?_ _|refine blk_drew ?_|refine blk_alloc ?_ _); refine blk_far ?_ NB253_260.out _; (with_reducible repeat first|refine blk_drewN ?_ _|refine blk_drew ?_|refine blk_alloc ?_ _); refine blk_far ?_ NB253_260.out _; (with_reducible repeat first|refine blk_drewN ?_ _|refine blk_drew ?_|refine blk_alloc ?_ _); exact BK253.out) Try.underlying54 rfl (by kernel_rfl)) rfl ?_
          exact ⟨by first | rfl | (simp [errW_none, errW_some] <;> rfl) | (simp [*, errW_none, errW_some] <;> rfl), bw⟩
         ·replace c61 := Bool.eq_false_iff.mpr c61
          subst c61
          have H1 : (some (0, 0, 0, 0, 0, 5)) = some (r1, r2, r3, r4, r5, r6) := by rw [if_neg (show ¬ (false = true) by decide)] at H; exact H
          clear H
          have H := H1
          clear H1
          simp only [Option.some.injEq, Prod.mk.injEq] at H
          obtain ⟨rfl, rfl, rfl, rfl, rfl, rfl⟩ := H
          have hnb69 := NB252_253.out
          have hnc69 := NB253_252.out
          have hnb70 := NB252_260.out
          have hnc70 := NB260_252.out
          obtain ⟨hcz71_0, hcz71_1, hcz71_2, hcz71_3, hcz71_4, hcz71_5, hcz71_6, hcz71_7, hcz71_8, hcz71_9⟩ := blkC10 (w := wc) BK252.out
          obtain ⟨hfz71_0, hfz71_1, hfz71_2, hfz71_3, hfz71_4, hfz71_5, hfz71_6, hfz71_7, hfz71_8, hfz71_9⟩ := blkF10 BK252.out
          go_wp2_with (first | ((with_reducible refine gate_callee (f := 58) rfl ?_); refine gL (some 70) Try.func58 #[.int .i64 a1, .int .i64 (wrap64 (a0_0 + a0_1))] ?_; (with_reducible refine (pylonref04_shown.calls kj55 a1 (wrap64 (a0_0 + a0_1)) t269 t270 t271 t272 false _ A60.out).mono ?_); rintro e w72 ⟨rfl, hb⟩; refine ⟨_, rfl, ?_⟩; replace BK252 := AX (bkb BK252 hb); replace BK253 := AX (bkb BK253 hb); replace BK260 := AX (bkb BK260 hb); replace HB := AX (below_step bw hb); (try clear hb); have hnb73 := NB260_253.out; have hnc73 := NB253_260.out; obtain ⟨hcz74_0, hcz74_1, hcz74_2⟩ := blkC3 (w := w72) BK260.out; obtain ⟨hfz74_0, hfz74_1, hfz74_2⟩ := blkF3 BK260.out; obtain ⟨hcz75_0, hcz75_1, hcz75_2, hcz75_3, hcz75_4⟩ := blkC5 (w := w72) BK253.out; obtain ⟨hfz75_0, hfz75_1, hfz75_2, hfz75_3, hfz75_4⟩ := blkF5 BK253.out))
          refine bodyPost_ret (results_ct rfl _ _ gb253 54 #[.int .i64 0, .int .i64 0, .int .i64 0, .int .i64 0, .int .i64 0] (0, 0) _ rfl (by (with_reducible repeat first|refine blk_drewN ?_ _|refine blk_drew ?_|refine blk_alloc ?_ _); refine blk_put (cs := #[.int .i64 0, .int .i64 0, .int .i64 0, .int .i64 0, .int .i64 0]) ?_ 4 _ rfl; (with_reducible repeat first|refine blk_drewN ?_ _|refine blk_drew ?_|refine blk_alloc ?_ _); refine blk_put (cs := #[.int .i64 0, .int .i64 0, .int .i64 0, .int .i64 0, .int .i64 0]) ?_ 3 _ rfl; (with_reducible repeat first|refine blk_drewN ?_ _|refine blk_drew ?_|refine blk_alloc ?_ _); refine blk_put (cs := #[.int .i64 0, .int .i64 0, .int .i64 0, .int .i64 0, .int .i64 0]) ?_ 2 _ rfl; (with_reducible repeat first|refine blk_drewN ?_ _|refine blk_drew ?_|refine blk_alloc ?_ _); refine blk_put (cs := #[.int .i64 0, .int .i64 0, .int .i64 0, .int .i64 0, .int .i64 0]) ?_ 1 _ rfl; (with_reducible repeat first|refine blk_drewN ?_ _|refine blk_drew ?_|refine blk_alloc ?_ _); refine blk_put (cs := #[.int .i64 0, .int .i64 0, .int .i64 0, .int .i64 0, .int .i64 0]) ?_ 0 _ rfl; (with_reducible repeat first|refine blk_drewN ?_ _|refine blk_drew ?_|refine blk_alloc ?_ _); refine blk_far ?_ NB253_260.out _; (with_reducible repeat first|refine blk_drewN ?_ _|refine blk_drew ?_|refine blk_alloc ?_ _); refine blk_far ?_ NB253_260.out _; (with_reducible repeat first|refine blk_drewN ?_ _|refine blk_drew ?_|refine blk_alloc ?_ _); refine blk_far ?_ NB253_260.out _; (with_reducible repeat first|refine blk_drewN ?_ _|refine blk_drew ?_|refine blk_alloc ?_ _); exact BK253.out) Try.underlying54 rfl (by kernel_rfl)) rfl ?_
          exact ⟨by first | rfl | (simp [errW_none, errW_some] <;> rfl) | (simp [*, errW_none, errW_some] <;> rfl), bw⟩
        ·replace c59 := Bool.eq_false_iff.mpr c59
         subst c59
         have H1 : ((pylonref04_shown.f kj55 a1 a0_0).bind fun bt274 => (if bt274.2.2.2.2 = true then (some (bt274.1, bt274.2.1, bt274.2.2.1, wrap64 (Int.tdiv bt274.2.2.2.1 60), a0_0, 0)) else (some (0, 0, 0, 0, 0, 5)))) = some (r1, r2, r3, r4, r5, r6) := by rw [if_neg (show ¬ (false = true) by decide)] at H; exact H
         clear H
         have H := H1
         clear H1
         replace H := Option.bind_eq_some_iff.mp H
         obtain ⟨⟨t274, t275, t276, t277, t278⟩, A760, H⟩ := H
         replace H : (if t278 = true then (some (t274, t275, t276, wrap64 (Int.tdiv t277 60), a0_0, 0)) else (some (0, 0, 0, 0, 0, 5))) = some (r1, r2, r3, r4, r5, r6) := H
         have A76 := AX A760
         clear A760
         by_cases c77 : t278 = true
         ·subst c77
          have H1 : (some (t274, t275, t276, wrap64 (Int.tdiv t277 60), a0_0, 0)) = some (r1, r2, r3, r4, r5, r6) := by rw [if_pos rfl] at H; exact H
          clear H
          have H := H1
          clear H1
          simp only [Option.some.injEq, Prod.mk.injEq] at H
          obtain ⟨rfl, rfl, rfl, rfl, rfl, rfl⟩ := H
          go_wp2_with (first | ((with_reducible refine gate_callee (f := 58) rfl ?_); refine gL (some 70) Try.func58 #[.int .i64 a1, .int .i64 a0_0] ?_; (with_reducible refine (pylonref04_shown.calls kj55 a1 a0_0 t274 t275 t276 t277 true _ A76.out).mono ?_); rintro e w78 ⟨rfl, hb⟩; refine ⟨_, rfl, ?_⟩; replace BK252 := AX (bkb BK252 hb); replace BK253 := AX (bkb BK253 hb); replace BK260 := AX (bkb BK260 hb); replace HB := AX (below_step bw hb); (try clear hb); have hnb79 := NB260_252.out; have hnc79 := NB252_260.out; have hnb80 := NB260_253.out; have hnc80 := NB253_260.out; obtain ⟨hcz81_0, hcz81_1, hcz81_2⟩ := blkC3 (w := w78) BK260.out; obtain ⟨hfz81_0, hfz81_1, hfz81_2⟩ := blkF3 BK260.out; have hnb82 := NB253_252.out; have hnc82 := NB252_253.out; obtain ⟨hcz83_0, hcz83_1, hcz83_2, hcz83_3, hcz83_4⟩ := blkC5 (w := w78) BK253.out; obtain ⟨hfz83_0, hfz83_1, hfz83_2, hfz83_3, hfz83_4⟩ := blkF5 BK253.out))
          refine bodyPost_ret (results_ct rfl _ _ gb253 54 #[.int .i64 t274, .int .i64 t275, .int .i64 t276, .int .i64 (wrap64 (Int.tdiv t277 60)), .int .i64 a0_0] (0, 0) _ rfl (by (with_reducible repeat first|refine blk_drewN ?_ _|refine blk_drew ?_|refine blk_alloc ?_ _); refine blk_put (cs := #[.int .i64 t274, .int .i64 t275, .int .i64 t276, .int .i64 (wrap64 (Int.tdiv t277 60)), .int .i64 0]) ?_ 4 _ rfl; (with_reducible repeat first|refine blk_drewN ?_ _|refine blk_drew ?_|refine blk_alloc ?_ _); refine blk_put (cs := #[.int .i64 t274, .int .i64 t275, .int .i64 t276, .int .i64 0, .int .i64 0]) ?_ 3 _ rfl; (with_reducible repeat first|refine blk_drewN ?_ _|refine blk_drew ?_|refine blk_alloc ?_ _); refine blk_put (cs := #[.int .i64 t274, .int .i64 t275, .int .i64 0, .int .i64 0, .int .i64 0]) ?_ 2 _ rfl; (with_reducible repeat first|refine blk_drewN ?_ _|refine blk_drew ?_|refine blk_alloc ?_ _); refine blk_put (cs := #[.int .i64 t274, .int .i64 0, .int .i64 0, .int .i64 0, .int .i64 0]) ?_ 1 _ rfl; (with_reducible repeat first|refine blk_drewN ?_ _|refine blk_drew ?_|refine blk_alloc ?_ _); refine blk_put (cs := #[.int .i64 0, .int .i64 0, .int .i64 0, .int .i64 0, .int .i64 0]) ?_ 0 _ rfl; (with_reducible repeat first|refine blk_drewN ?_ _|refine blk_drew ?_|refine blk_alloc ?_ _); refine blk_far ?_ NB253_260.out _; (with_reducible repeat first|refine blk_drewN ?_ _|refine blk_drew ?_|refine blk_alloc ?_ _); refine blk_far ?_ NB253_260.out _; (with_reducible repeat first|refine blk_drewN ?_ _|refine blk_drew ?_|refine blk_alloc ?_ _); refine blk_far ?_ NB253_260.out _; (with_reducible repeat first|refine blk_drewN ?_ _|refine blk_drew ?_|refine blk_alloc ?_ _); exact BK253.out) Try.underlying54 rfl (by kernel_rfl)) rfl ?_
          exact ⟨by first | rfl | (simp [errW_none, errW_some] <;> rfl) | (simp [*, errW_none, errW_some] <;> rfl), bw⟩
         ·replace c77 := Bool.eq_false_iff.mpr c77
          subst c77
          have H1 : (some (0, 0, 0, 0, 0, 5)) = some (r1, r2, r3, r4, r5, r6) := by rw [if_neg (show ¬ (false = true) by decide)] at H; exact H
          clear H
          have H := H1
          clear H1
          simp only [Option.some.injEq, Prod.mk.injEq] at H
          obtain ⟨rfl, rfl, rfl, rfl, rfl, rfl⟩ := H
          go_wp2_with (first | ((with_reducible refine gate_callee (f := 58) rfl ?_); refine gL (some 70) Try.func58 #[.int .i64 a1, .int .i64 a0_0] ?_; (with_reducible refine (pylonref04_shown.calls kj55 a1 a0_0 t274 t275 t276 t277 false _ A76.out).mono ?_); rintro e w84 ⟨rfl, hb⟩; refine ⟨_, rfl, ?_⟩; replace BK252 := AX (bkb BK252 hb); replace BK253 := AX (bkb BK253 hb); replace BK260 := AX (bkb BK260 hb); replace HB := AX (below_step bw hb); (try clear hb); have hnb85 := NB260_252.out; have hnc85 := NB252_260.out; have hnb86 := NB260_253.out; have hnc86 := NB253_260.out; obtain ⟨hcz87_0, hcz87_1, hcz87_2⟩ := blkC3 (w := w84) BK260.out; obtain ⟨hfz87_0, hfz87_1, hfz87_2⟩ := blkF3 BK260.out; have hnb88 := NB253_252.out; have hnc88 := NB252_253.out; obtain ⟨hcz89_0, hcz89_1, hcz89_2, hcz89_3, hcz89_4⟩ := blkC5 (w := w84) BK253.out; obtain ⟨hfz89_0, hfz89_1, hfz89_2, hfz89_3, hfz89_4⟩ := blkF5 BK253.out))
          refine bodyPost_ret (results_ct rfl _ _ gb253 54 #[.int .i64 0, .int .i64 0, .int .i64 0, .int .i64 0, .int .i64 0] (0, 0) _ rfl (by (with_reducible repeat first|refine blk_drewN ?_ _|refine blk_drew ?_|refine blk_alloc ?_ _); refine blk_put (cs := #[.int .i64 0, .int .i64 0, .int .i64 0, .int .i64 0, .int .i64 0]) ?_ 4 _ rfl; (with_reducible repeat first|refine blk_drewN ?_ _|refine blk_drew ?_|refine blk_alloc ?_ _); refine blk_put (cs := #[.int .i64 0, .int .i64 0, .int .i64 0, .int .i64 0, .int .i64 0]) ?_ 3 _ rfl; (with_reducible repeat first|refine blk_drewN ?_ _|refine blk_drew ?_|refine blk_alloc ?_ _); refine blk_put (cs := #[.int .i64 0, .int .i64 0, .int .i64 0, .int .i64 0, .int .i64 0]) ?_ 2 _ rfl; (with_reducible repeat first|refine blk_drewN ?_ _|refine blk_drew ?_|refine blk_alloc ?_ _); refine blk_put (cs := #[.int .i64 0, .int .i64 0, .int .i64 0, .int .i64 0, .int .i64 0]) ?_ 1 _ rfl; (with_reducible repeat first|refine blk_drewN ?_ _|refine blk_drew ?_|refine blk_alloc ?_ _); refine blk_put (cs := #[.int .i64 0, .int .i64 0, .int .i64 0, .int .i64 0, .int .i64 0]) ?_ 0 _ rfl; (with_reducible repeat first|refine blk_drewN ?_ _|refine blk_drew ?_|refine blk_alloc ?_ _); refine blk_far ?_ NB253_260.out _; (with_reducible repeat first|refine blk_drewN ?_ _|refine blk_drew ?_|refine blk_alloc ?_ _); refine blk_far ?_ NB253_260.out _; (with_reducible repeat first|refine blk_drewN ?_ _|refine blk_drew ?_|refine blk_alloc ?_ _); refine blk_far ?_ NB253_260.out _; (with_reducible repeat first|refine blk_drewN ?_ _|refine blk_drew ?_|refine blk_alloc ?_ _); exact BK253.out) Try.underlying54 rfl (by kernel_rfl)) rfl ?_
          exact ⟨by first | rfl | (simp [errW_none, errW_some] <;> rfl) | (simp [*, errW_none, errW_some] <;> rfl), bw⟩
  ·replace c6 := Bool.eq_false_iff.mpr c6
   subst c6
   have H1 : (some (0, 0, 0, 0, 0, 5)) = some (r1, r2, r3, r4, r5, r6) := by rw [if_neg (show ¬ (false = true) by decide)] at H; exact H
   clear H
   have H := H1
   clear H1
   simp only [Option.some.injEq, Prod.mk.injEq] at H
   obtain ⟨rfl, rfl, rfl, rfl, rfl, rfl⟩ := H
   go_enter Try.func28, Try.ntmps28
   go_wp2_with (first | ((with_reducible refine gate_dst (N := 2) rfl ?_); refine bx 2 #[.int .i64 a0_0, .int .i64 a0_1, .int .i64 a0_2, .int .i64 a0_3, .int .i64 a0_4, .int .i64 a0_5, .int .i64 a0_6, .int .i64 a0_7, .int .i64 a0_8, .int .i64 a0_9] 42 ?_; intro gb252 hg w90 hbox hb; have BK252 := AX (hbox); have GW252 := gwl (w := w) hg bw; have GE252 := GW252; replace HB := AX (below_step bw hb); clear hb hbox hg) | ((with_reducible refine gate_dst (N := 4) rfl ?_); refine bx 4 #[.int .i64 0, .int .i64 0, .int .i64 0, .int .i64 0, .int .i64 0] 54 ?_; intro gb253 hg w91 hbox hb; have BK253 := AX (hbox); have GW253 := gwl (w := w) hg bw; have GE253 := GW253; have NB252_253 := nbl hg (bkn BK252); have NB253_252 := nbg hg (bkn BK252); replace BK252 := AX (bkb BK252 hb); replace HB := AX (below_step bw hb); clear hb hbox hg; have hnb92 := NB252_253.out; have hnc92 := NB253_252.out; obtain ⟨hcz93_0, hcz93_1, hcz93_2, hcz93_3, hcz93_4, hcz93_5, hcz93_6, hcz93_7, hcz93_8, hcz93_9⟩ := blkC10 (w := w91) BK252.out; obtain ⟨hfz93_0, hfz93_1, hfz93_2, hfz93_3, hfz93_4, hfz93_5, hfz93_6, hfz93_7, hfz93_8, hfz93_9⟩ := blkF10 BK252.out) | ((with_reducible refine gate_callee (f := 52) rfl ?_); refine gL (some 15) Try.func52 #[.agg #[.int .i64 a0_0, .int .i64 a0_1, .int .i64 a0_2, .int .i64 a0_3, .int .i64 a0_4, .int .i64 a0_5, .int .i64 a0_6, .int .i64 a0_7, .int .i64 a0_8, .int .i64 a0_9]] ?_; (with_reducible refine (pylonref04_Check.calls k a0_0 a0_1 a0_2 a0_3 a0_4 a0_5 a0_6 a0_7 a0_8 a0_9 t254 _ A3.out).mono ?_); rintro e w94 ⟨rfl, hb⟩; refine ⟨_, rfl, ?_⟩; replace BK252 := AX (bkb BK252 hb); replace BK253 := AX (bkb BK253 hb); replace HB := AX (below_step bw hb); (try clear hb); obtain ⟨hcz95_0, hcz95_1, hcz95_2, hcz95_3, hcz95_4, hcz95_5, hcz95_6, hcz95_7, hcz95_8, hcz95_9⟩ := blkC10 (w := w94) BK252.out; obtain ⟨hfz95_0, hfz95_1, hfz95_2, hfz95_3, hfz95_4, hfz95_5, hfz95_6, hfz95_7, hfz95_8, hfz95_9⟩ := blkF10 BK252.out) | ((with_reducible refine gate_callee (f := 58) rfl ?_); refine gL (some 22) Try.func58 #[.int .i64 a1, .int .i64 a0_0] ?_; (with_reducible refine (pylonref04_shown.calls k a1 a0_0 t255 t256 t257 t258 false _ A5.out).mono ?_); rintro e w96 ⟨rfl, hb⟩; refine ⟨_, rfl, ?_⟩; replace BK252 := AX (bkb BK252 hb); replace BK253 := AX (bkb BK253 hb); replace HB := AX (below_step bw hb); (try clear hb)) | ((with_reducible refine gate_dst (N := 6) rfl ?_); refine bx 6 #[.int .i64 0, .int .i64 0, .int .i64 0] 24 ?_; intro gb260 hg w97 hbox hb; have BK260 := AX (hbox); have GW260 := gwl (w := w) hg bw; have GE260 := GW260; have NB252_260 := nbl hg (bkn BK252); have NB260_252 := nbg hg (bkn BK252); have NB253_260 := nbl hg (bkn BK253); have NB260_253 := nbg hg (bkn BK253); replace BK252 := AX (bkb BK252 hb); replace BK253 := AX (bkb BK253 hb); replace HB := AX (below_step bw hb); clear hb hbox hg; have hnb98 := NB260_252.out; have hnc98 := NB252_260.out; have hnb99 := NB260_253.out; have hnc99 := NB253_260.out; obtain ⟨hcz100_0, hcz100_1, hcz100_2⟩ := blkC3 (w := w97) BK260.out; obtain ⟨hfz100_0, hfz100_1, hfz100_2⟩ := blkF3 BK260.out; obtain ⟨hcz101_0, hcz101_1, hcz101_2, hcz101_3, hcz101_4⟩ := blkC5 (w := w97) BK253.out; obtain ⟨hfz101_0, hfz101_1, hfz101_2, hfz101_3, hfz101_4⟩ := blkF5 BK253.out))
   refine bodyPost_ret (results_ct rfl _ _ gb253 54 #[.int .i64 0, .int .i64 0, .int .i64 0, .int .i64 0, .int .i64 0] (0, 0) _ rfl (by (with_reducible repeat first|refine blk_drewN ?_ _|refine blk_drew ?_|refine blk_alloc ?_ _); refine blk_put (cs := #[.int .i64 0, .int .i64 0, .int .i64 0, .int .i64 0, .int .i64 0]) ?_ 4 _ rfl; (with_reducible repeat first|refine blk_drewN ?_ _|refine blk_drew ?_|refine blk_alloc ?_ _); refine blk_put (cs := #[.int .i64 0, .int .i64 0, .int .i64 0, .int .i64 0, .int .i64 0]) ?_ 3 _ rfl; (with_reducible repeat first|refine blk_drewN ?_ _|refine blk_drew ?_|refine blk_alloc ?_ _); refine blk_put (cs := #[.int .i64 0, .int .i64 0, .int .i64 0, .int .i64 0, .int .i64 0]) ?_ 2 _ rfl; (with_reducible repeat first|refine blk_drewN ?_ _|refine blk_drew ?_|refine blk_alloc ?_ _); refine blk_put (cs := #[.int .i64 0, .int .i64 0, .int .i64 0, .int .i64 0, .int .i64 0]) ?_ 1 _ rfl; (with_reducible repeat first|refine blk_drewN ?_ _|refine blk_drew ?_|refine blk_alloc ?_ _); refine blk_put (cs := #[.int .i64 0, .int .i64 0, .int .i64 0, .int .i64 0, .int .i64 0]) ?_ 0 _ rfl; (with_reducible repeat first|refine blk_drewN ?_ _|refine blk_drew ?_|refine blk_alloc ?_ _); refine blk_far ?_ NB253_260.out _; (with_reducible repeat first|refine blk_drewN ?_ _|refine blk_drew ?_|refine blk_alloc ?_ _); refine blk_far ?_ NB253_260.out _; (with_reducible repeat first|refine blk_drewN ?_ _|refine blk_drew ?_|refine blk_alloc ?_ _); refine blk_far ?_ NB253_260.out _; (with_reducible repeat first|refine blk_drewN ?_ _|refine blk_drew ?_|refine blk_alloc ?_ _); exact BK253.out) Try.underlying54 rfl (by kernel_rfl)) rfl ?_
   exact ⟨by first | rfl | (simp [errW_none, errW_some] <;> rfl) | (simp [*, errW_none, errW_some] <;> rfl), bw⟩
 ·rw [if_neg c4] at H
  have c4b0 : (t254 == 0) = false := beq_eq_false_iff_ne.mpr c4
  have c4b1 : (t254 != 0) = true := bne_iff_ne.mpr c4
  simp only [Option.some.injEq, Prod.mk.injEq] at H
  obtain ⟨rfl, rfl, rfl, rfl, rfl, rfl⟩ := H
  go_enter Try.func28, Try.ntmps28
  go_wp2_with (first | ((with_reducible refine gate_dst (N := 2) rfl ?_); refine bx 2 #[.int .i64 a0_0, .int .i64 a0_1, .int .i64 a0_2, .int .i64 a0_3, .int .i64 a0_4, .int .i64 a0_5, .int .i64 a0_6, .int .i64 a0_7, .int .i64 a0_8, .int .i64 a0_9] 42 ?_; intro gb252 hg w102 hbox hb; have BK252 := AX (hbox); have GW252 := gwl (w := w) hg bw; have GE252 := GW252; replace HB := AX (below_step bw hb); clear hb hbox hg) | ((with_reducible refine gate_dst (N := 4) rfl ?_); refine bx 4 #[.int .i64 0, .int .i64 0, .int .i64 0, .int .i64 0, .int .i64 0] 54 ?_; intro gb253 hg w103 hbox hb; have BK253 := AX (hbox); have GW253 := gwl (w := w) hg bw; have GE253 := GW253; have NB252_253 := nbl hg (bkn BK252); have NB253_252 := nbg hg (bkn BK252); replace BK252 := AX (bkb BK252 hb); replace HB := AX (below_step bw hb); clear hb hbox hg; have hnb104 := NB252_253.out; have hnc104 := NB253_252.out; obtain ⟨hcz105_0, hcz105_1, hcz105_2, hcz105_3, hcz105_4, hcz105_5, hcz105_6, hcz105_7, hcz105_8, hcz105_9⟩ := blkC10 (w := w103) BK252.out; obtain ⟨hfz105_0, hfz105_1, hfz105_2, hfz105_3, hfz105_4, hfz105_5, hfz105_6, hfz105_7, hfz105_8, hfz105_9⟩ := blkF10 BK252.out) | ((with_reducible refine gate_callee (f := 52) rfl ?_); refine gL (some 15) Try.func52 #[.agg #[.int .i64 a0_0, .int .i64 a0_1, .int .i64 a0_2, .int .i64 a0_3, .int .i64 a0_4, .int .i64 a0_5, .int .i64 a0_6, .int .i64 a0_7, .int .i64 a0_8, .int .i64 a0_9]] ?_; (with_reducible refine (pylonref04_Check.calls k a0_0 a0_1 a0_2 a0_3 a0_4 a0_5 a0_6 a0_7 a0_8 a0_9 t254 _ A3.out).mono ?_); rintro e w106 ⟨rfl, hb⟩; refine ⟨_, rfl, ?_⟩; replace BK252 := AX (bkb BK252 hb); replace BK253 := AX (bkb BK253 hb); replace HB := AX (below_step bw hb); (try clear hb); obtain ⟨hcz107_0, hcz107_1, hcz107_2, hcz107_3, hcz107_4⟩ := blkC5 (w := w106) BK253.out; obtain ⟨hfz107_0, hfz107_1, hfz107_2, hfz107_3, hfz107_4⟩ := blkF5 BK253.out))
  refine bodyPost_ret (results_ct rfl _ _ gb253 54 #[.int .i64 0, .int .i64 0, .int .i64 0, .int .i64 0, .int .i64 0] (0, 0) _ rfl (by (with_reducible repeat first|refine blk_drewN ?_ _|refine blk_drew ?_|refine blk_alloc ?_ _); refine blk_put (cs := #[.int .i64 0, .int .i64 0, .int .i64 0, .int .i64 0, .int .i64 0]) ?_ 4 _ rfl; (with_reducible repeat first|refine blk_drewN ?_ _|refine blk_drew ?_|refine blk_alloc ?_ _); refine blk_put (cs := #[.int .i64 0, .int .i64 0, .int .i64 0, .int .i64 0, .int .i64 0]) ?_ 3 _ rfl; (with_reducible repeat first|refine blk_drewN ?_ _|refine blk_drew ?_|refine blk_alloc ?_ _); refine blk_put (cs := #[.int .i64 0, .int .i64 0, .int .i64 0, .int .i64 0, .int .i64 0]) ?_ 2 _ rfl; (with_reducible repeat first|refine blk_drewN ?_ _|refine blk_drew ?_|refine blk_alloc ?_ _); refine blk_put (cs := #[.int .i64 0, .int .i64 0, .int .i64 0, .int .i64 0, .int .i64 0]) ?_ 1 _ rfl; (with_reducible repeat first|refine blk_drewN ?_ _|refine blk_drew ?_|refine blk_alloc ?_ _); refine blk_put (cs := #[.int .i64 0, .int .i64 0, .int .i64 0, .int .i64 0, .int .i64 0]) ?_ 0 _ rfl; (with_reducible repeat first|refine blk_drewN ?_ _|refine blk_drew ?_|refine blk_alloc ?_ _); exact BK253.out) Try.underlying54 rfl (by kernel_rfl)) rfl ?_
  exact ⟨by first | rfl | (simp [errW_none, errW_some] <;> rfl) | (simp [*, errW_none, errW_some] <;> rfl), bw⟩

end Go.Proofs.Ytkggjjggcbcdiaa.PX
