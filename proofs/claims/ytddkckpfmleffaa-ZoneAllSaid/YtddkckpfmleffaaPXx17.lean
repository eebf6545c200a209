/- Functions of the program as plain Lean functions, each with a proof that the call in the machine answers just what the plain function says; condition: the plain function answers at all. -/
import Derived.Test.YtddkckpfmleffaaPXx0
import Derived.Test.YtddkckpfmleffaaPXx1
import Derived.Test.YtddkckpfmleffaaPXx7
import Derived.Test.YtddkckpfmleffaaPXx9
import Derived.Test.YtddkckpfmleffaaPXx15
import Derived.Test.YtddkckpfmleffaaPXx16
namespace Go.Proofs.Ytddkckpfmleffaa.PX
open Go.RowKit Go.Proofs.YtddkckpfmleffaaW.PrintWords Go.Proofs.YtddkckpfmleffaaW.PrintLast Go.Proofs.YtddkckpfmleffaaW.PrintMore
attribute [local go_sem] max2_int min2_int max_two min_two max_three min_three max_four min_four   -- for this text's walks alone
set_option linter.unusedVariables false
set_option linter.unusedSimpArgs false

attribute [local go_sem high] eqA33
/-! ### pylonref04_Day: function 50 -/
def pylonref04_Day.j0 : Nat → Bool → Int → Int → Int → Int → Int → Int → Int → Int → Int → Int → Int → Int → Int → Option (Int × Int × Int)
 | 0, _, _, _, _, _, _, _, _, _, _, _, _, _, _ => none
 | k + 1, x28, x417000, x417001, x417002, x417003, x417004, x417005, x417006, x417007, x417008, x417009, x418000, x418001, x418002 => if x28 = true then (some (0, 0, 5)) else ((pylonref03_Add.f k x418000 x418001 x418002 1).bind fun bt422 => ((pylonref04_begins.f k x417000 x417001 x417002 x417003 x417004 x417005 x417006 x417007 x417008 x417009 x418000 x418001 x418002).bind fun t427 => ((pylonref04_begins.f k x417000 x417001 x417002 x417003 x417004 x417005 x417006 x417007 x417008 x417009 bt422.1 bt422.2.1 bt422.2.2.1).bind fun t428 => (some (t427, t428, 0)))))
def pylonref04_Day.f (k : Nat) (a0_0 : Int) (a0_1 : Int) (a0_2 : Int) (a0_3 : Int) (a0_4 : Int) (a0_5 : Int) (a0_6 : Int) (a0_7 : Int) (a0_8 : Int) (a0_9 : Int) (a1_0 : Int) (a1_1 : Int) (a1_2 : Int) : Option (Int × Int × Int) := (pylonref04_Check.f k a0_0 a0_1 a0_2 a0_3 a0_4 a0_5 a0_6 a0_7 a0_8 a0_9).bind fun t418 => (if t418 = 0 then ((pylonref03_Is.f k a1_0 a1_1 a1_2).bind fun t421 => (if t421 = true then (if (a1_0 == 1 && (a1_1 == 1 && (a1_2 == 1))) = true then (pylonref04_Day.j0 k true a0_0 a0_1 a0_2 a0_3 a0_4 a0_5 a0_6 a0_7 a0_8 a0_9 a1_0 a1_1 a1_2) else (pylonref04_Day.j0 k (a1_0 == 9999 && (a1_1 == 12 && (a1_2 == 31))) a0_0 a0_1 a0_2 a0_3 a0_4 a0_5 a0_6 a0_7 a0_8 a0_9 a1_0 a1_1 a1_2)) else (pylonref04_Day.j0 k true a0_0 a0_1 a0_2 a0_3 a0_4 a0_5 a0_6 a0_7 a0_8 a0_9 a1_0 a1_1 a1_2))) else (some (0, 0, 8)))
theorem pylonref04_Day.mono_l : ∀ k, (∀ y0 y1 y2 y3 y4 y5 y6 y7 y8 y9 y10 y11 y12 y13, LeO (pylonref04_Day.j0 k y0 y1 y2 y3 y4 y5 y6 y7 y8 y9 y10 y11 y12 y13) (pylonref04_Day.j0 (k + 1) y0 y1 y2 y3 y4 y5 y6 y7 y8 y9 y10 y11 y12 y13))
 | 0 => fun _ _ _ _ _ _ _ _ _ _ _ _ _ _ r h => by simp [pylonref04_Day.j0] at h
 | k + 1 => by
  have ih0 := pylonref04_Day.mono_l k
  ·intro y0 y1 y2 y3 y4 y5 y6 y7 y8 y9 y10 y11 y12 y13
   unfold pylonref04_Day.j0
   repeat' first
   | (with_reducible exact ih0 _ _ _ _ _ _ _ _ _ _ _ _ _ _)
   | (with_reducible exact pylonref03_Add.mono _ _ _ _ _)
   | (with_reducible exact pylonref03_Is.mono _ _ _ _)
   | (with_reducible exact pylonref04_Check.mono _ _ _ _ _ _ _ _ _ _ _)
   | (with_reducible exact pylonref04_begins.mono _ _ _ _ _ _ _ _ _ _ _ _ _ _)
   | (with_reducible exact LeO.refl _)
   | (with_reducible exact LeO.none _)
   | (with_reducible refine LeO.ite ?_ ?_)
   | (with_reducible refine LeO.bind ?_ (fun _ => ?_))
theorem pylonref04_Day.mono : ∀ a0 a1 a2 a3 a4 a5 a6 a7 a8 a9 a10 a11 a12 k, LeO (pylonref04_Day.f k a0 a1 a2 a3 a4 a5 a6 a7 a8 a9 a10 a11 a12) (pylonref04_Day.f (k + 1) a0 a1 a2 a3 a4 a5 a6 a7 a8 a9 a10 a11 a12) := by
 intro a0 a1 a2 a3 a4 a5 a6 a7 a8 a9 a10 a11 a12 k
 have ih0 := pylonref04_Day.mono_l k
 unfold pylonref04_Day.f
 repeat' first
   | (with_reducible exact ih0 _ _ _ _ _ _ _ _ _ _ _ _ _ _)
   | (with_reducible exact pylonref03_Add.mono _ _ _ _ _)
   | (with_reducible exact pylonref03_Is.mono _ _ _ _)
   | (with_reducible exact pylonref04_Check.mono _ _ _ _ _ _ _ _ _ _ _)
   | (with_reducible exact pylonref04_begins.mono _ _ _ _ _ _ _ _ _ _ _ _ _ _)
   | (with_reducible exact LeO.refl _)
   | (with_reducible exact LeO.none _)
   | (with_reducible refine LeO.ite ?_ ?_)
   | (with_reducible refine LeO.bind ?_ (fun _ => ?_))
def pylonref04_Day.T7 : Bool × List (List Nat × List Nat) := (true, [([], []), ([], []), ([0, 1], [0, 1]), ([], []), ([], []), ([3, 4, 2], [3, 4]), ([2, 5, 0, 1, 2], [2]), ([5, 6, 0, 1, 2, 3, 4, 5, 6], [5]), ([7, 0, 1, 2, 3, 4, 5, 6, 7], [])])
def pylonref04_Day.B7 : List Nat := [0, 0, 3, 0, 0, 31, 63, 127, 255]
theorem pylonref04_Day.tab7 : rtab .any (opsOf Try.f50 7) = pylonref04_Day.T7 := by kernel_rfl
theorem pylonref04_Day.bits7 : waitsOk pylonref04_Day.T7.2 pylonref04_Day.B7 = true := by kernel_rfl
set_option maxHeartbeats 8000000 in
set_option maxRecDepth 100000 in
theorem pylonref04_Day.calls (k : Nat) (a0_0 : Int) (a0_1 : Int) (a0_2 : Int) (a0_3 : Int) (a0_4 : Int) (a0_5 : Int) (a0_6 : Int) (a0_7 : Int) (a0_8 : Int) (a0_9 : Int) (a1_0 : Int) (a1_1 : Int) (a1_2 : Int) (r1 : Int) (r2 : Int) (r3 : Int) (w : World) (h : pylonref04_Day.f k a0_0 a0_1 a0_2 a0_3 a0_4 a0_5 a0_6 a0_7 a0_8 a0_9 a1_0 a1_1 a1_2 = some (r1, r2, r3)) :
  Calls Try.prog 50 #[.agg #[.int .i64 a0_0, .int .i64 a0_1, .int .i64 a0_2, .int .i64 a0_3, .int .i64 a0_4, .int .i64 a0_5, .int .i64 a0_6, .int .i64 a0_7, .int .i64 a0_8, .int .i64 a0_9], .agg #[.int .i64 a1_0, .int .i64 a1_1, .int .i64 a1_2]] w fun e w' => e = .returned (.tuple #[.int .i64 r1, .int .i64 r2, .int .i64 r3]) ∧ Below w.heap.size w w' := by
 have hu25 := Try.underlying25
 have hu33 := Try.underlying33
 have HB := AX (Below.refl w.heap.size w)
 have H : ((pylonref04_Check.f k a0_0 a0_1 a0_2 a0_3 a0_4 a0_5 a0_6 a0_7 a0_8 a0_9).bind fun t418 => (if t418 = 0 then ((pylonref03_Is.f k a1_0 a1_1 a1_2).bind fun t421 => (if t421 = true then (if (a1_0 == 1 && (a1_1 == 1 && (a1_2 == 1))) = true then (pylonref04_Day.j0 k true a0_0 a0_1 a0_2 a0_3 a0_4 a0_5 a0_6 a0_7 a0_8 a0_9 a1_0 a1_1 a1_2) else (pylonref04_Day.j0 k (a1_0 == 9999 && (a1_1 == 12 && (a1_2 == 31))) a0_0 a0_1 a0_2 a0_3 a0_4 a0_5 a0_6 a0_7 a0_8 a0_9 a1_0 a1_1 a1_2)) else (pylonref04_Day.j0 k true a0_0 a0_1 a0_2 a0_3 a0_4 a0_5 a0_6 a0_7 a0_8 a0_9 a1_0 a1_1 a1_2))) else (some (0, 0, 8)))) = some (r1, r2, r3) := h
 clear h
 replace H := Option.bind_eq_some_iff.mp H
 obtain ⟨t418, A30, H⟩ := H
 replace H : (if t418 = 0 then ((pylonref03_Is.f k a1_0 a1_1 a1_2).bind fun t421 => (if t421 = true then (if (a1_0 == 1 && (a1_1 == 1 && (a1_2 == 1))) = true then (pylonref04_Day.j0 k true a0_0 a0_1 a0_2 a0_3 a0_4 a0_5 a0_6 a0_7 a0_8 a0_9 a1_0 a1_1 a1_2) else (pylonref04_Day.j0 k (a1_0 == 9999 && (a1_1 == 12 && (a1_2 == 31))) a0_0 a0_1 a0_2 a0_3 a0_4 a0_5 a0_6 a0_7 a0_8 a0_9 a1_0 a1_1 a1_2)) else (pylonref04_Day.j0 k true a0_0 a0_1 a0_2 a0_3 a0_4 a0_5 a0_6 a0_7 a0_8 a0_9 a1_0 a1_1 a1_2))) else (some (0, 0, 8))) = some (r1, r2, r3) := H
 have A3 := AX A30
 clear A30
 by_cases c4 : t418 = 0
 ·rw [if_pos c4] at H
  have c4b0 : (t418 == 0) = true := beq_iff_eq.mpr c4
  have c4b1 : (t418 != 0) = false := bne_eq_false_iff_eq.mpr c4
  clear c4
  have HC5 := AX H
  clear H
  go_enter Try.func50, Try.ntmps50
  go_upto_region 4 with (first | ((with_reducible refine gate_dst (N := 2) rfl ?_); refine bx 2 #[.int .i64 a0_0, .int .i64 a0_1, .int .i64 a0_2, .int .i64 a0_3, .int .i64 a0_4, .int .i64 a0_5, .int .i64 a0_6, .int .i64 a0_7, .int .i64 a0_8, .int .i64 a0_9] 25 ?_; intro gb416 hg w6 hbox hb; have BK416 := AX (hbox); have GW416 := gwl (w := w) hg bw; have GE416 := GW416; replace HB := AX (below_step bw hb); clear hb hbox hg) | ((with_reducible refine gate_dst (N := 3) rfl ?_); refine bx 3 #[.int .i64 a1_0, .int .i64 a1_1, .int .i64 a1_2] 33 ?_; intro gb417 hg w7 hbox hb; have BK417 := AX (hbox); have GW417 := gwl (w := w) hg bw; have GE417 := GW417; have NB416_417 := nbl hg (bkn BK416); have NB417_416 := nbg hg (bkn BK416); replace BK416 := AX (bkb BK416 hb); replace HB := AX (below_step bw hb); clear hb hbox hg; have hnb8 := NB416_417.out; have hnc8 := NB417_416.out; obtain ⟨hcz9_0, hcz9_1, hcz9_2, hcz9_3, hcz9_4, hcz9_5, hcz9_6, hcz9_7, hcz9_8, hcz9_9⟩ := blkC10 (w := w7) BK416.out; obtain ⟨hfz9_0, hfz9_1, hfz9_2, hfz9_3, hfz9_4, hfz9_5, hfz9_6, hfz9_7, hfz9_8, hfz9_9⟩ := blkF10 BK416.out) | ((with_reducible refine gate_callee (f := 16) rfl ?_); refine gL (some 12) Try.func16 #[.agg #[.int .i64 a0_0, .int .i64 a0_1, .int .i64 a0_2, .int .i64 a0_3, .int .i64 a0_4, .int .i64 a0_5, .int .i64 a0_6, .int .i64 a0_7, .int .i64 a0_8, .int .i64 a0_9]] ?_; (with_reducible refine (pylonref04_Check.calls k a0_0 a0_1 a0_2 a0_3 a0_4 a0_5 a0_6 a0_7 a0_8 a0_9 t418 _ A3.out).mono ?_); rintro e w10 ⟨rfl, hb⟩; refine ⟨_, rfl, ?_⟩; replace BK416 := AX (bkb BK416 hb); replace BK417 := AX (bkb BK417 hb); replace HB := AX (below_step bw hb); (try clear hb)) | ((with_reducible refine gate_dst (N := 7) rfl ?_); refine bx 7 #[.int .i64 0, .int .i64 0, .int .i64 0] 33 ?_; intro gb419 hg w11 hbox hb; have BK419 := AX (hbox); have GW419 := gwl (w := w) hg bw; have GE419 := GW419; have NB416_419 := nbl hg (bkn BK416); have NB419_416 := nbg hg (bkn BK416); have NB417_419 := nbl hg (bkn BK417); have NB419_417 := nbg hg (bkn BK417); replace BK416 := AX (bkb BK416 hb); replace BK417 := AX (bkb BK417 hb); replace HB := AX (below_step bw hb); clear hb hbox hg) | ((with_reducible refine gate_dst (N := 8) rfl ?_); refine bx 8 #[.int .i64 0, .int .i64 0, .int .i64 0] 33 ?_; intro gb420 hg w12 hbox hb; have BK420 := AX (hbox); have GW420 := gwl (w := w) hg bw; have GE420 := GW420; have NB416_420 := nbl hg (bkn BK416); have NB420_416 := nbg hg (bkn BK416); have NB417_420 := nbl hg (bkn BK417); have NB420_417 := nbg hg (bkn BK417); have NB419_420 := nbl hg (bkn BK419); have NB420_419 := nbg hg (bkn BK419); replace BK416 := AX (bkb BK416 hb); replace BK417 := AX (bkb BK417 hb); replace BK419 := AX (bkb BK419 hb); replace HB := AX (below_step bw hb); clear hb hbox hg; have hnb13 := NB419_416.out; have hnc13 := NB416_419.out; have hnb14 := NB419_417.out; have hnc14 := NB417_419.out; have hnb15 := NB419_420.out; have hnc15 := NB420_419.out; obtain ⟨hcz16_0, hcz16_1, hcz16_2⟩ := blkC3 (w := w12) BK419.out; obtain ⟨hfz16_0, hfz16_1, hfz16_2⟩ := blkF3 BK419.out; have hnb17 := NB420_416.out; have hnc17 := NB416_420.out; have hnb18 := NB420_417.out; have hnc18 := NB417_420.out; obtain ⟨hcz19_0, hcz19_1, hcz19_2⟩ := blkC3 (w := w12) BK420.out; obtain ⟨hfz19_0, hfz19_1, hfz19_2⟩ := blkF3 BK420.out))
  (try simp only [Act.put, List.setIfInBounds_toArray, List.set_cons_zero, List.set_cons_succ])
  go_cut [28] (fun v28 wc => ∃ (kq : Nat) (x28_4 : Bool), v28 = .bool x28_4 ∧ Aside0 (pylonref04_Day.j0 kq x28_4 a0_0 a0_1 a0_2 a0_3 a0_4 a0_5 a0_6 a0_7 a0_8 a0_9 a1_0 a1_1 a1_2 = some (r1, r2, r3)) ∧ Aside0 (kq ≤ k) ∧ Aside0 (wc.heap[gb416]? = some (.cells #[.int .i64 a0_0, .int .i64 a0_1, .int .i64 a0_2, .int .i64 a0_3, .int .i64 a0_4, .int .i64 a0_5, .int .i64 a0_6, .int .i64 a0_7, .int .i64 a0_8, .int .i64 a0_9] 25 (0, 0))) ∧ Aside0 (wc.heap[gb417]? = some (.cells #[.int .i64 a1_0, .int .i64 a1_1, .int .i64 a1_2] 33 (0, 0))) ∧ Aside0 (wc.heap[gb419]? = some (.cells #[.int .i64 1, .int .i64 1, .int .i64 1] 33 (0, 0))) ∧ Aside0 (wc.heap[gb420]? = some (.cells #[.int .i64 9999, .int .i64 12, .int .i64 31] 33 (0, 0))) ∧ Aside0 (Below w.heap.size w wc))
  case first =>
   have H := HC5.out
   clear HC5
   replace H := Option.bind_eq_some_iff.mp H
   obtain ⟨t421, A200, H⟩ := H
   replace H : (if t421 = true then (if (a1_0 == 1 && (a1_1 == 1 && (a1_2 == 1))) = true then (pylonref04_Day.j0 k true a0_0 a0_1 a0_2 a0_3 a0_4 a0_5 a0_6 a0_7 a0_8 a0_9 a1_0 a1_1 a1_2) else (pylonref04_Day.j0 k (a1_0 == 9999 && (a1_1 == 12 && (a1_2 == 31))) a0_0 a0_1 a0_2 a0_3 a0_4 a0_5 a0_6 a0_7 a0_8 a0_9 a1_0 a1_1 a1_2)) else (pylonref04_Day.j0 k true a0_0 a0_1 a0_2 a0_3 a0_4 a0_5 a0_6 a0_7 a0_8 a0_9 a1_0 a1_1 a1_2)) = some (r1, r2, r3) := H
   have A20 := AX A200
   clear A200
   by_cases c21 : t421 = true
   ·subst c21
    have H1 : (if (a1_0 == 1 && (a1_1 == 1 && (a1_2 == 1))) = true then (pylonref04_Day.j0 k true a0_0 a0_1 a0_2 a0_3 a0_4 a0_5 a0_6 a0_7 a0_8 a0_9 a1_0 a1_1 a1_2) else (pylonref04_Day.j0 k (a1_0 == 9999 && (a1_1 == 12 && (a1_2 == 31))) a0_0 a0_1 a0_2 a0_3 a0_4 a0_5 a0_6 a0_7 a0_8 a0_9 a1_0 a1_1 a1_2)) = some (r1, r2, r3) := by rw [if_pos rfl] at H; exact H
    clear H
    have H := H1
    clear H1
    by_cases c22 : (a1_0 == 1 && (a1_1 == 1 && (a1_2 == 1))) = true
    ·rw [if_pos c22] at H
     have c22b0 : (a1_0 == 1 && (a1_1 == 1 && (a1_2 == 1))) = true := c22
     (try (have c22b1 : decide (a1_0 = 1 && (a1_1 == 1 && (a1_2 == 1))) = true := by simpa using c22))
     (try (have c22b2 : (a1_0 == 1 && (a1_1 == 1 && (a1_2 == 1))) = true := by simpa using c22))
     clear c22
     (first | rw [c22b0] | (simp only [i64_w, i32_w]; rw [c22b0]) | skip)
     have H' := AX H
     clear H
     have hnb23 := NB417_416.out
     have hnc23 := NB416_417.out
     have hnb24 := NB417_419.out
     have hnc24 := NB419_417.out
     have hnb25 := NB417_420.out
     have hnc25 := NB420_417.out
     obtain ⟨hcz26_0, hcz26_1, hcz26_2⟩ := blkC3 (w := w12) BK417.out
     obtain ⟨hfz26_0, hfz26_1, hfz26_2⟩ := blkF3 BK417.out
     go_wp2_with (first | ((with_reducible refine gate_callee (f := 65) rfl ?_); refine gL (some 17) Try.func65 #[.agg #[.int .i64 a1_0, .int .i64 a1_1, .int .i64 a1_2]] ?_; (with_reducible refine (pylonref03_Is.calls k a1_0 a1_1 a1_2 true _ A20.out).mono ?_); rintro e w27 ⟨rfl, hb⟩; refine ⟨_, rfl, ?_⟩; replace BK416 := AX (blk_below (g := gb416) (o := .cells #[.int .i64 a0_0, .int .i64 a0_1, .int .i64 a0_2, .int .i64 a0_3, .int .i64 a0_4, .int .i64 a0_5, .int .i64 a0_6, .int .i64 a0_7, .int .i64 a0_8, .int .i64 a0_9] 25 (0, 0)) (by (with_reducible repeat first|refine blk_drewN ?_ _|refine blk_drew ?_|refine blk_alloc ?_ _|refine blk_far ?_ NB416_420.out _|refine blk_far ?_ NB416_419.out _); exact BK416.out) hb); replace BK417 := AX (blk_below (g := gb417) (o := .cells #[.int .i64 a1_0, .int .i64 a1_1, .int .i64 a1_2] 33 (0, 0)) (by (with_reducible repeat first|refine blk_drewN ?_ _|refine blk_drew ?_|refine blk_alloc ?_ _|refine blk_far ?_ NB417_420.out _|refine blk_far ?_ NB417_419.out _); exact BK417.out) hb); replace BK419 := AX (blk_below (g := gb419) (o := .cells #[.int .i64 1, .int .i64 1, .int .i64 1] 33 (0, 0)) (by (with_reducible repeat first|refine blk_drewN ?_ _|refine blk_drew ?_|refine blk_alloc ?_ _); refine blk_far ?_ NB419_420.out _; (with_reducible repeat first|refine blk_drewN ?_ _|refine blk_drew ?_|refine blk_alloc ?_ _); refine blk_far ?_ NB419_420.out _; (with_reducible repeat first|refine blk_drewN ?_ _|refine blk_drew ?_|refine blk_alloc ?_ _); refine blk_far ?_ NB419_420.out _; (with_reducible repeat first|refine blk_drewN ?_ _|refine blk_drew ?_|refine blk_alloc ?_ _); refine blk_put (cs := #[.int .i64 1, .int .i64 1, .int .i64 0]) ?_ 2 _ rfl; (with_reducible repeat first|refine blk_drewN ?_ _|refine blk_drew ?_|refine blk_alloc ?_ _); refine blk_put (cs := #[.int .i64 1, .int .i64 0, .int .i64 0]) ?_ 1 _ rfl; (with_reducible repeat first|refine blk_drewN ?_ _|refine blk_drew ?_|refine blk_alloc ?_ _); refine blk_put (cs := #[.int .i64 0, .int .i64 0, .int .i64 0]) ?_ 0 _ rfl; (with_reducible repeat first|refine blk_drewN ?_ _|refine blk_drew ?_|refine blk_alloc ?_ _); exact BK419.out) hb); replace BK420 := AX (blk_below (g := gb420) (o := .cells #[.int .i64 9999, .int .i64 12, .int .i64 31] 33 (0, 0)) (by (with_reducible repeat first|refine blk_drewN ?_ _|refine blk_drew ?_|refine blk_alloc ?_ _); refine blk_put (cs := #[.int .i64 9999, .int .i64 12, .int .i64 0]) ?_ 2 _ rfl; (with_reducible repeat first|refine blk_drewN ?_ _|refine blk_drew ?_|refine blk_alloc ?_ _); refine blk_put (cs := #[.int .i64 9999, .int .i64 0, .int .i64 0]) ?_ 1 _ rfl; (with_reducible repeat first|refine blk_drewN ?_ _|refine blk_drew ?_|refine blk_alloc ?_ _); refine blk_put (cs := #[.int .i64 0, .int .i64 0, .int .i64 0]) ?_ 0 _ rfl; (with_reducible repeat first|refine blk_drewN ?_ _|refine blk_drew ?_|refine blk_alloc ?_ _); refine blk_far ?_ NB420_419.out _; (with_reducible repeat first|refine blk_drewN ?_ _|refine blk_drew ?_|refine blk_alloc ?_ _); refine blk_far ?_ NB420_419.out _; (with_reducible repeat first|refine blk_drewN ?_ _|refine blk_drew ?_|refine blk_alloc ?_ _); refine blk_far ?_ NB420_419.out _; (with_reducible repeat first|refine blk_drewN ?_ _|refine blk_drew ?_|refine blk_alloc ?_ _); exact BK420.out) hb); replace HB := AX (below_step bw hb); (try clear hb); obtain ⟨hcz28_0, hcz28_1, hcz28_2⟩ := blkC3 (w := w27) BK417.out; obtain ⟨hfz28_0, hfz28_1, hfz28_2⟩ := blkF3 BK417.out; have hnb29 := NB419_416.out; have hnc29 := NB416_419.out; have hnb30 := NB419_420.out; have hnc30 := NB420_419.out; obtain ⟨hcz31_0, hcz31_1, hcz31_2⟩ := blkC3 (w := w27) BK419.out; obtain ⟨hfz31_0, hfz31_1, hfz31_2⟩ := blkF3 BK419.out))
     go_meet
     case rel => exact ⟨_, (true), (by first | rfl | (simp; done) | (simp [*]; done)), H', ⟨by first | omega | exact Nat.le_refl _⟩, ⟨bkn BK416⟩, ⟨bkn BK417⟩, ⟨bkn BK419⟩, ⟨bkn BK420⟩, ⟨bw⟩⟩
    ·rw [if_neg c22] at H
     have c22b0 : (a1_0 == 1 && (a1_1 == 1 && (a1_2 == 1))) = false := by simpa using c22
     (try (have c22b1 : decide (a1_0 = 1 && (a1_1 == 1 && (a1_2 == 1))) = false := by simpa using c22))
     (try (have c22b2 : (a1_0 == 1 && (a1_1 == 1 && (a1_2 == 1))) = false := by simpa using c22))
     (try (have c22b3 : ¬ (a1_0 = 1 && (a1_1 == 1 && (a1_2 == 1))) := by simpa using c22))
     clear c22
     (first | rw [c22b0] | (simp only [i64_w, i32_w]; rw [c22b0]) | skip)
     have H' := AX H
     clear H
     have hnb32 := NB417_416.out
     have hnc32 := NB416_417.out
     have hnb33 := NB417_419.out
     have hnc33 := NB419_417.out
     have hnb34 := NB417_420.out
     have hnc34 := NB420_417.out
     obtain ⟨hcz35_0, hcz35_1, hcz35_2⟩ := blkC3 (w := w12) BK417.out
     obtain ⟨hfz35_0, hfz35_1, hfz35_2⟩ := blkF3 BK417.out
     go_wp2_with (first | ((with_reducible refine gate_callee (f := 65) rfl ?_); refine gL (some 17) Try.func65 #[.agg #[.int .i64 a1_0, .int .i64 a1_1, .int .i64 a1_2]] ?_; (with_reducible refine (pylonref03_Is.calls k a1_0 a1_1 a1_2 true _ A20.out).mono ?_); rintro e w36 ⟨rfl, hb⟩; refine ⟨_, rfl, ?_⟩; replace BK416 := AX (blk_below (g := gb416) (o := .cells #[.int .i64 a0_0, .int .i64 a0_1, .int .i64 a0_2, .int .i64 a0_3, .int .i64 a0_4, .int .i64 a0_5, .int .i64 a0_6, .int .i64 a0_7, .int .i64 a0_8, .int .i64 a0_9] 25 (0, 0)) (by (with_reducible repeat first|refine blk_drewN ?_ _|refine blk_drew ?_|refine blk_alloc ?_ _|refine blk_far ?_ NB416_420.out _|refine blk_far ?_ NB416_419.out _); exact BK416.out) hb); replace BK417 := AX (blk_below (g := gb417) (o := .cells #[.int .i64 a1_0, .int .i64 a1_1, .int .i64 a1_2] 33 (0, 0)) (by (with_reducible repeat first|refine blk_drewN ?_ _|refine blk_drew ?_|refine blk_alloc ?_ _|refine blk_far ?_ NB417_420.out _|refine blk_far ?_ NB417_419.out _); exact BK417.out) hb); replace BK419 := AX (blk_below (g := gb419) (o := .cells #[.int .i64 1, .int .i64 1, .int .i64 1] 33 (0, 0)) (by (with_reducible repeat first|refine blk_drewN ?_ _|refine blk_drew ?_|refine blk_alloc ?_ _); refine blk_far ?_ NB419_420.out _; (with_reducible repeat first|refine blk_drewN ?_ _|refine blk_drew ?_|refine blk_alloc ?_ _); refine blk_far ?_ NB419_420.out _; (with_reducible repeat first|refine blk_drewN ?_ _|refine blk_drew ?_|refine blk_alloc ?_ _); refine blk_far ?_ NB419_420.out _; (with_reducible repeat first|refine blk_drewN ?_ _|refine blk_drew ?_|refine blk_alloc ?_ _); refine blk_put (cs := #[.int .i64 1, .int .i64 1, .int .i64 0]) ?_ 2 _ rfl; (with_reducible repeat first|refine blk_drewN ?_ _|refine blk_drew ?_|refine blk_alloc ?_ _); refine blk_put (cs := #[.int .i64 1, .int .i64 0, .int .i64 0]) ?_ 1 _ rfl; (with_reducible repeat first|refine blk_drewN ?_ _|refine blk_drew ?_|refine blk_alloc ?_ _); refine blk_put (cs := #[.int .i64 0, .int .i64 0, .int .i64 0]) ?_ 0 _ rfl; (with_reducible repeat first|refine blk_drewN ?_ _|refine blk_drew ?_|refine blk_alloc ?_ _); exact BK419.out) hb); replace BK420 := AX (blk_below (g := gb420) (o := .cells #[.int .i64 9999, .int .i64 12, .int .i64 31] 33 (0, 0)) (by (with_reducible repeat first|refine blk_drewN ?_ _|refine blk_drew ?_|refine blk_alloc ?_ _); refine blk_put (cs := #[.int .i64 9999, .int .i64 12, .int .i64 0]) ?_ 2 _ rfl; (with_reducible repeat first|refine blk_drewN ?_ _|refine blk_drew ?_|refine blk_alloc ?_ _); refine blk_put (cs := #[.int .i64 9999, .int .i64 0, .int .i64 0]) ?_ 1 _ rfl; (with_reducible repeat first|refine blk_drewN ?_ _|refine blk_drew ?_|refine blk_alloc ?_ _); refine blk_put (cs := #[.int .i64 0, .int .i64 0, .int .i64 0]) ?_ 0 _ rfl; (with_reducible repeat first|refine blk_drewN ?_ _|refine blk_drew ?_|refine blk_alloc ?_ _); refine blk_far ?_ NB420_419.out _; (with_reducible repeat first|refine blk_drewN ?_ _|refine blk_drew ?_|refine blk_alloc ?_ _); refine blk_far ?_ NB420_419.out _; (with_reducible repeat first|refine blk_drewN ?_ _|refine blk_drew ?_|refine blk_alloc ?_ _); refine blk_far ?_ NB420_419.out _; (with_reducible repeat first|refine blk_drewN ?_ _|refine blk_drew ?_|refine blk_alloc ?_ _); exact BK420.out) hb); replace HB := AX (below_step bw hb); (try clear hb); obtain ⟨hcz37_0, hcz37_1, hcz37_2⟩ := blkC3 (w := w36) BK417.out; obtain ⟨hfz37_0, hfz37_1, hfz37_2⟩ := blkF3 BK417.out; have hnb38 := NB419_416.out; have hnc38 := NB416_419.out; have hnb39 := NB419_420.out; have hnc39 := NB420_419.out; obtain ⟨hcz40_0, hcz40_1, hcz40_2⟩ := blkC3 (w := w36) BK419.out; obtain ⟨hfz40_0, hfz40_1, hfz40_2⟩ := blkF3 BK419.out; have hnb41 := NB420_416.out; have hnc41 := NB416_420.out; obtain ⟨hcz42_0, hcz42_1, hcz42_2⟩ := blkC3 (w := w36) BK420.out; obtain ⟨hfz42_0, hfz42_1, hfz42_2⟩ := blkF3 BK420.out))
     go_meet
     case rel => exact ⟨_, ((a1_0 == 9999 && (a1_1 == 12 && (a1_2 == 31)))), (by first | rfl | (simp; done) | (simp [*]; done)), H', ⟨by first | omega | exact Nat.le_refl _⟩, ⟨bkn BK416⟩, ⟨bkn BK417⟩, ⟨bkn BK419⟩, ⟨bkn BK420⟩, ⟨bw⟩⟩
   ·replace c21 := Bool.eq_false_iff.mpr c21
    subst c21
    have H1 : (pylonref04_Day.j0 k true a0_0 a0_1 a0_2 a0_3 a0_4 a0_5 a0_6 a0_7 a0_8 a0_9 a1_0 a1_1 a1_2) = some (r1, r2, r3) := by rw [if_neg (show ¬ (false = true) by decide)] at H; exact H
    clear H
    have H := H1
    clear H1
    have H' := AX H
    clear H
    have hnb43 := NB417_416.out
    have hnc43 := NB416_417.out
    have hnb44 := NB417_419.out
    have hnc44 := NB419_417.out
    have hnb45 := NB417_420.out
    have hnc45 := NB420_417.out
    obtain ⟨hcz46_0, hcz46_1, hcz46_2⟩ := blkC3 (w := w12) BK417.out
    obtain ⟨hfz46_0, hfz46_1, hfz46_2⟩ := blkF3 BK417.out
    go_wp2_with (first | ((with_reducible refine gate_callee (f := 65) rfl ?_); refine gL (some 17) Try.func65 #[.agg #[.int .i64 a1_0, .int .i64 a1_1, .int .i64 a1_2]] ?_; (with_reducible refine (pylonref03_Is.calls k a1_0 a1_1 a1_2 false _ A20.out).mono ?_); rintro e w47 ⟨rfl, hb⟩; refine ⟨_, rfl, ?_⟩; replace BK416 := AX (blk_below (g := gb416) (o := .cells #[.int .i64 a0_0, .int .i64 a0_1, .int .i64 a0_2, .int .i64 a0_3, .int .i64 a0_4, .int .i64 a0_5, .int .i64 a0_6, .int .i64 a0_7, .int .i64 a0_8, .int .i64 a0_9] 25 (0, 0)) (by (with_reducible repeat first|refine blk_drewN ?_ _|refine blk_drew ?_|refine blk_alloc ?_ _|refine blk_far ?_ NB416_420.out _|refine blk_far ?_ NB416_419.out _); exact BK416.out) hb); replace BK417 := AX (blk_below (g := gb417) (o := .cells #[.int .i64 a1_0, .int .i64 a1_1, .int .i64 a1_2] 33 (0, 0)) (by (with_reducible repeat first|refine blk_drewN ?_ _|refine blk_drew ?_|refine blk_alloc ?_ _|refine blk_far ?_ NB417_420.out _|refine blk_far ?_ NB417_419.out _); exact BK417.out) hb); replace BK419 := AX (blk_below (g := gb419) (o := .cells #[.int .i64 1, .int .i64 1, .int .i64 1] 33 (0, 0)) (by (with_reducible repeat first|refine blk_drewN ?_ _|refine blk_drew ?_|refine blk_alloc ?_ _); refine blk_far ?_ NB419_420.out _; (with_reducible repeat first|refine blk_drewN ?_ _|refine blk_drew ?_|refine blk_alloc ?_ _); refine blk_far ?_ NB419_420.out _; (with_reducible repeat first|refine blk_drewN ?_ _|refine blk_drew ?_|refine blk_alloc ?_ _); refine blk_far ?_ NB419_420.out _; (with_reducible repeat first|refine blk_drewN ?_ _|refine blk_drew ?_|refine blk_alloc ?_ _); refine blk_put (cs := #[.int .i64 1, .int .i64 1, .int .i64 0]) ?_ 2 _ rfl; (with_reducible repeat first|refine blk_drewN ?_ _|refine blk_drew ?_|refine blk_alloc ?_ _); refine blk_put (cs := #[.int .i64 1, .int .i64 0, .int .i64 0]) ?_ 1 _ rfl; (with_reducible repeat first|refine blk_drewN ?_ _|refine blk_drew ?_|refine blk_alloc ?_ _); refine blk_put (cs := #[.int .i64 0, .int .i64 0, .int .i64 0]) ?_ 0 _ rfl; (with_reducible repeat first|refine blk_drewN ?_ _|refine blk_drew ?_|refine blk_alloc ?_ _); exact BK419.out) hb); replace BK420 := AX (blk_below (g := gb420) (o := .cells #[.int .i64 9999, .int .i64 12, .int .i64 31] 33 (0, 0)) (by (with_reducible repeat first|refine blk_drewN ?_ _|refine blk_drew ?_|refine blk_alloc ?_ _); refine blk_put (cs := #[.int .i64 9999, .int .i64 12, .int .i64 0]) ?_ 2 _ rfl; (with_reducible repeat first|refine blk_drewN ?_ _|refine blk_drew ?_|refine blk_alloc ?_ _); refine blk_put (cs := #[.int .i64 9999, .int .i64 0, .int .i64 0]) ?_ 1 _ rfl; (with_reducible repeat first|refine blk_drewN ?_ _|refine blk_drew ?_|refine blk_alloc ?_ _); refine blk_put (cs := #[.int .i64 0, .int .i64 0, .int .i64 0]) ?_ 0 _ rfl; (with_reducible repeat first|refine blk_drewN ?_ _|refine blk_drew ?_|refine blk_alloc ?_ _); refine blk_far ?_ NB420_419.out _; (with_reducible repeat first|refine blk_drewN ?_ _|refine blk_drew ?_|refine blk_alloc ?_ _); refine blk_far ?_ NB420_419.out _; (with_reducible repeat first|refine blk_drewN ?_ _|refine blk_drew ?_|refine blk_alloc ?_ _); refine blk_far ?_ NB420_419.out _; (with_reducible repeat first|refine blk_drewN ?_ _|refine blk_drew ?_|refine blk_alloc ?_ _); exact BK420.out) hb); replace HB := AX (below_step bw hb); (try clear hb)))
    go_meet
    case rel => exact ⟨_, (true), (by first | rfl | (simp; done) | (simp [*]; done)), H', ⟨by first | omega | exact Nat.le_refl _⟩, ⟨bkn BK416⟩, ⟨bkn BK417⟩, ⟨bkn BK419⟩, ⟨bkn BK420⟩, ⟨bw⟩⟩
  case rest =>
   clear HC5
   try clear c4b0 c4b1
   try clear hcz16_0 hcz16_1 hcz16_2
   try clear hcz19_0 hcz19_1 hcz19_2
   try clear hcz9_0 hcz9_1 hcz9_2 hcz9_3 hcz9_4 hcz9_5 hcz9_6 hcz9_7 hcz9_8 hcz9_9
   try clear hfz16_0 hfz16_1 hfz16_2
   try clear hfz19_0 hfz19_1 hfz19_2
   try clear hfz9_0 hfz9_1 hfz9_2 hfz9_3 hfz9_4 hfz9_5 hfz9_6 hfz9_7 hfz9_8 hfz9_9
   obtain ⟨kq, x28_4, rfl, HA, HJ4, BK416, BK417, BK419, BK420, HB⟩ := hcut
   cases kq with
   | zero => exact absurd HA.out (by simp [pylonref04_Day.j0])
   | succ kj4 =>
    have H := HA.out
    clear HA
    simp only [pylonref04_Day.j0] at H
    by_cases c48 : x28_4 = true
    ·subst c48
     have H1 : (some (0, 0, 5)) = some (r1, r2, r3) := by rw [if_pos rfl] at H; exact H
     clear H
     have H := H1
     clear H1
     simp only [Option.some.injEq, Prod.mk.injEq] at H
     obtain ⟨rfl, rfl, rfl⟩ := H
     go_wp2
     go_ret3
     exact ⟨by first | rfl | (simp [errW_none, errW_some] <;> rfl) | (simp [*, errW_none, errW_some] <;> rfl), bw⟩
    ·replace c48 := Bool.eq_false_iff.mpr c48
     subst c48
     have H1 : ((pylonref03_Add.f kj4 a1_0 a1_1 a1_2 1).bind fun bt422 => ((pylonref04_begins.f kj4 a0_0 a0_1 a0_2 a0_3 a0_4 a0_5 a0_6 a0_7 a0_8 a0_9 a1_0 a1_1 a1_2).bind fun t427 => ((pylonref04_begins.f kj4 a0_0 a0_1 a0_2 a0_3 a0_4 a0_5 a0_6 a0_7 a0_8 a0_9 bt422.1 bt422.2.1 bt422.2.2.1).bind fun t428 => (some (t427, t428, 0))))) = some (r1, r2, r3) := by rw [if_neg (show ¬ (false = true) by decide)] at H; exact H
     clear H
     have H := H1
     clear H1
     replace H := Option.bind_eq_some_iff.mp H
     obtain ⟨⟨t422, t423, t424, t425⟩, A490, H⟩ := H
     replace H : ((pylonref04_begins.f kj4 a0_0 a0_1 a0_2 a0_3 a0_4 a0_5 a0_6 a0_7 a0_8 a0_9 a1_0 a1_1 a1_2).bind fun t427 => ((pylonref04_begins.f kj4 a0_0 a0_1 a0_2 a0_3 a0_4 a0_5 a0_6 a0_7 a0_8 a0_9 t422 t423 t424).bind fun t428 => (some (t427, t428, 0)))) = some (r1, r2, r3) := H
     have A49 := AX A490
     clear A490
     replace H := Option.bind_eq_some_iff.mp H
     obtain ⟨t427, A500, H⟩ := H
     replace H : ((pylonref04_begins.f kj4 a0_0 a0_1 a0_2 a0_3 a0_4 a0_5 a0_6 a0_7 a0_8 a0_9 t422 t423 t424).bind fun t428 => (some (t427, t428, 0))) = some (r1, r2, r3) := H
     have A50 := AX A500
     clear A500
     replace H := Option.bind_eq_some_iff.mp H
     obtain ⟨t428, A510, H⟩ := H
     replace H : (some (t427, t428, 0)) = some (r1, r2, r3) := H
     have A51 := AX A510
     clear A510
     simp only [Option.some.injEq, Prod.mk.injEq] at H
     obtain ⟨rfl, rfl, rfl⟩ := H
     have hnb52 := NB417_416.out
     have hnc52 := NB416_417.out
     have hnb53 := NB417_419.out
     have hnc53 := NB419_417.out
     have hnb54 := NB417_420.out
     have hnc54 := NB420_417.out
     obtain ⟨hcz55_0, hcz55_1, hcz55_2⟩ := blkC3 (w := wc) BK417.out
     obtain ⟨hfz55_0, hfz55_1, hfz55_2⟩ := blkF3 BK417.out
     try go_wp2_with (first | ((with_reducible refine gate_callee (f := 26) rfl ?_); refine gL (some 31) Try.func26 #[.agg #[.int .i64 a1_0, .int .i64 a1_1, .int .i64 a1_2], .int .i64 1] ?_; (with_reducible refine (pylonref03_Add.calls kj4 a1_0 a1_1 a1_2 1 t422 t423 t424 t425 _ A49.out).mono ?_); rintro e w56 ⟨rfl, hb⟩; refine ⟨_, rfl, ?_⟩; replace BK416 := AX (bkb BK416 hb); replace BK417 := AX (bkb BK417 hb); replace BK419 := AX (bkb BK419 hb); replace BK420 := AX (bkb BK420 hb); replace HB := AX (below_step bw hb); (try clear hb)) | ((with_reducible refine gate_dst (N := 9) rfl ?_); refine bx 9 #[.int .i64 0, .int .i64 0, .int .i64 0] 33 ?_; intro gb426 hg w57 hbox hb; have BK426 := AX (hbox); have GW426 := gwl (w := w) hg bw; have GE426 := GW426; have NB416_426 := nbl hg (bkn BK416); have NB426_416 := nbg hg (bkn BK416); have NB417_426 := nbl hg (bkn BK417); have NB426_417 := nbg hg (bkn BK417); have NB419_426 := nbl hg (bkn BK419); have NB426_419 := nbg hg (bkn BK419); have NB420_426 := nbl hg (bkn BK420); have NB426_420 := nbg hg (bkn BK420); replace BK416 := AX (bkb BK416 hb); replace BK417 := AX (bkb BK417 hb); replace BK419 := AX (bkb BK419 hb); replace BK420 := AX (bkb BK420 hb); replace HB := AX (below_step bw hb); clear hb hbox hg; have hnb58 := NB426_416.out; have hnc58 := NB416_426.out; have hnb59 := NB426_417.out; have hnc59 := NB417_426.out; have hnb60 := NB426_419.out; have hnc60 := NB419_426.out; have hnb61 := NB426_420.out; have hnc61 := NB420_426.out; obtain ⟨hcz62_0, hcz62_1, hcz62_2⟩ := blkC3 (w := w57) BK426.out; obtain ⟨hfz62_0, hfz62_1, hfz62_2⟩ := blkF3 BK426.out))
     have n0_ : Aside0 ((((w57.setCell ⟨gb426, 0, none⟩ (.int .i64 t422)).setCell ⟨gb426, 1, none⟩ (.int .i64 t423)).setCell ⟨gb426, 2, none⟩ (.int .i64 t424)).heap[gb416]? = some (.cells #[.int .i64 a0_0, .int .i64 a0_1, .int .i64 a0_2, .int .i64 a0_3, .int .i64 a0_4, .int .i64 a0_5, .int .i64 a0_6, .int .i64 a0_7, .int .i64 a0_8, .int .i64 a0_9] 25 (0, 0))) := ⟨by (with_reducible repeat first|refine blk_drewN ?_ _|refine blk_drew ?_|refine blk_alloc ?_ _); refine blk_far ?_ NB416_426.out _; (with_reducible repeat first|refine blk_drewN ?_ _|refine blk_drew ?_|refine blk_alloc ?_ _); refine blk_far ?_ NB416_426.out _; (with_reducible repeat first|refine blk_drewN ?_ _|refine blk_drew ?_|refine blk_alloc ?_ _); refine blk_far ?_ NB416_426.out _; (with_reducible repeat first|refine blk_drewN ?_ _|refine blk_drew ?_|refine blk_alloc ?_ _); exact BK416.out⟩
     have n1_ : Aside0 ((((w57.setCell ⟨gb426, 0, none⟩ (.int .i64 t422)).setCell ⟨gb426, 1, none⟩ (.int .i64 t423)).setCell ⟨gb426, 2, none⟩ (.int .i64 t424)).heap[gb417]? = some (.cells #[.int .i64 a1_0, .int .i64 a1_1, .int .i64 a1_2] 33 (0, 0))) := ⟨by (with_reducible repeat first|refine blk_drewN ?_ _|refine blk_drew ?_|refine blk_alloc ?_ _); refine blk_far ?_ NB417_426.out _; (with_reducible repeat first|refine blk_drewN ?_ _|refine blk_drew ?_|refine blk_alloc ?_ _); refine blk_far ?_ NB417_426.out _; (with_reducible repeat first|refine blk_drewN ?_ _|refine blk_drew ?_|refine blk_alloc ?_ _); refine blk_far ?_ NB417_426.out _; (with_reducible repeat first|refine blk_drewN ?_ _|refine blk_drew ?_|refine blk_alloc ?_ _); exact BK417.out⟩
     have n2_ : Aside0 ((((w57.setCell ⟨gb426, 0, none⟩ (.int .i64 t422)).setCell ⟨gb426, 1, none⟩ (.int .i64 t423)).setCell ⟨gb426, 2, none⟩ (.int .i64 t424)).heap[gb419]? = some (.cells #[.int .i64 1, .int .i64 1, .int .i64 1] 33 (0, 0))) := ⟨by (with_reducible repeat first|refine blk_drewN ?_ _|refine blk_drew ?_|refine blk_alloc ?_ _); refine blk_far ?_ NB419_426.out _; (with_reducible repeat first|refine blk_drewN ?_ _|refine blk_drew ?_|refine blk_alloc ?_ _); refine blk_far ?_ NB419_426.out _; (with_reducible repeat first|refine blk_drewN ?_ _|refine blk_drew ?_|refine blk_alloc ?_ _); refine blk_far ?_ NB419_426.out _; (with_reducible repeat first|refine blk_drewN ?_ _|refine blk_drew ?_|refine blk_alloc ?_ _); exact BK419.out⟩
     have n3_ : Aside0 ((((w57.setCell ⟨gb426, 0, none⟩ (.int .i64 t422)).setCell ⟨gb426, 1, none⟩ (.int .i64 t423)).setCell ⟨gb426, 2, none⟩ (.int .i64 t424)).heap[gb420]? = some (.cells #[.int .i64 9999, .int .i64 12, .int .i64 31] 33 (0, 0))) := ⟨by (with_reducible repeat first|refine blk_drewN ?_ _|refine blk_drew ?_|refine blk_alloc ?_ _); refine blk_far ?_ NB420_426.out _; (with_reducible repeat first|refine blk_drewN ?_ _|refine blk_drew ?_|refine blk_alloc ?_ _); refine blk_far ?_ NB420_426.out _; (with_reducible repeat first|refine blk_drewN ?_ _|refine blk_drew ?_|refine blk_alloc ?_ _); refine blk_far ?_ NB420_426.out _; (with_reducible repeat first|refine blk_drewN ?_ _|refine blk_drew ?_|refine blk_alloc ?_ _); exact BK420.out⟩
     have n4_ : Aside0 ((((w57.setCell ⟨gb426, 0, none⟩ (.int .i64 t422)).setCell ⟨gb426, 1, none⟩ (.int .i64 t423)).setCell ⟨gb426, 2, none⟩ (.int .i64 t424)).heap[gb426]? = some (.cells #[.int .i64 t422, .int .i64 t423, .int .i64 t424] 33 (0, 0))) := ⟨by (with_reducible repeat first|refine blk_drewN ?_ _|refine blk_drew ?_|refine blk_alloc ?_ _); refine blk_put (cs := #[.int .i64 t422, .int .i64 t423, .int .i64 0]) ?_ 2 _ rfl; (with_reducible repeat first|refine blk_drewN ?_ _|refine blk_drew ?_|refine blk_alloc ?_ _); refine blk_put (cs := #[.int .i64 t422, .int .i64 0, .int .i64 0]) ?_ 1 _ rfl; (with_reducible repeat first|refine blk_drewN ?_ _|refine blk_drew ?_|refine blk_alloc ?_ _); refine blk_put (cs := #[.int .i64 0, .int .i64 0, .int .i64 0]) ?_ 0 _ rfl; (with_reducible repeat first|refine blk_drewN ?_ _|refine blk_drew ?_|refine blk_alloc ?_ _); exact BK426.out⟩
     have n5_ : Aside0 (Below w.heap.size w (((w57.setCell ⟨gb426, 0, none⟩ (.int .i64 t422)).setCell ⟨gb426, 1, none⟩ (.int .i64 t423)).setCell ⟨gb426, 2, none⟩ (.int .i64 t424))) := ⟨bw⟩
     (try clear BK416)
     (try clear BK417)
     (try clear BK419)
     (try clear BK420)
     (try clear BK426)
     (try clear HB)
     generalize (((w57.setCell ⟨gb426, 0, none⟩ (.int .i64 t422)).setCell ⟨gb426, 1, none⟩ (.int .i64 t423)).setCell ⟨gb426, 2, none⟩ (.int .i64 t424)) = w63 at n0_ n1_ n2_ n3_ n4_ n5_ ⊢
     have BK416 := n0_
     have BK417 := n1_
     have BK419 := n2_
     have BK420 := n3_
     have BK426 := n4_
     have HB := n5_
     clear n0_ n1_ n2_ n3_ n4_ n5_
     have n0_ := AX (blk_drew BK416.out)
     have n1_ := AX (blk_drew BK417.out)
     have n2_ := AX (blk_drew BK419.out)
     have n3_ := AX (blk_drew BK420.out)
     have n4_ := AX (blk_drew BK426.out)
     have n5_ := AX (below_drew1 HB.out)
     clear BK416
     clear BK417
     clear BK419
     clear BK420
     clear BK426
     clear HB
     have BK416 := n0_
     have BK417 := n1_
     have BK419 := n2_
     have BK420 := n3_
     have BK426 := n4_
     have HB := n5_
     clear n0_ n1_ n2_ n3_ n4_ n5_
     refine start_ (n := 9) (S := fun w' => w'.cell? ⟨gb416, 0, none⟩ = some (.int .i64 a0_0) ∧ w'.cell? ⟨gb416, 1, none⟩ = some (.int .i64 a0_1) ∧ w'.cell? ⟨gb416, 2, none⟩ = some (.int .i64 a0_2) ∧ w'.cell? ⟨gb416, 3, none⟩ = some (.int .i64 a0_3) ∧ w'.cell? ⟨gb416, 4, none⟩ = some (.int .i64 a0_4) ∧ w'.cell? ⟨gb416, 5, none⟩ = some (.int .i64 a0_5) ∧ w'.cell? ⟨gb416, 6, none⟩ = some (.int .i64 a0_6) ∧ w'.cell? ⟨gb416, 7, none⟩ = some (.int .i64 a0_7) ∧ w'.cell? ⟨gb416, 8, none⟩ = some (.int .i64 a0_8) ∧ w'.cell? ⟨gb416, 9, none⟩ = some (.int .i64 a0_9) ∧ w'.cell? ⟨gb417, 0, none⟩ = some (.int .i64 a1_0) ∧ w'.cell? ⟨gb417, 1, none⟩ = some (.int .i64 a1_1) ∧ w'.cell? ⟨gb417, 2, none⟩ = some (.int .i64 a1_2) ∧ w'.cell? ⟨gb426, 0, none⟩ = some (.int .i64 t422) ∧ w'.cell? ⟨gb426, 1, none⟩ = some (.int .i64 t423) ∧ w'.cell? ⟨gb426, 2, none⟩ = some (.int .i64 t424)) (ds := []) #[false, false, false, false, false, false, false, false, false] (by kernel_rfl) rfl rfl ⟨(blk_cell BK416.out 0).trans rfl, (blk_cell BK416.out 1).trans rfl, (blk_cell BK416.out 2).trans rfl, (blk_cell BK416.out 3).trans rfl, (blk_cell BK416.out 4).trans rfl, (blk_cell BK416.out 5).trans rfl, (blk_cell BK416.out 6).trans rfl, (blk_cell BK416.out 7).trans rfl, (blk_cell BK416.out 8).trans rfl, (blk_cell BK416.out 9).trans rfl, (blk_cell BK417.out 0).trans rfl, (blk_cell BK417.out 1).trans rfl, (blk_cell BK417.out 2).trans rfl, (blk_cell BK426.out 0).trans rfl, (blk_cell BK426.out 1).trans rfl, (blk_cell BK426.out 2).trans rfl⟩ (fun hHeld => ?_); refine with_tabW pylonref04_Day.tab7 pylonref04_Day.bits7 (fun HT_ HW_ => ?_)
     generalize w63.drew = w64 at BK416 BK417 BK419 BK420 BK426 HB hHeld ⊢
     refine take_ (i := 0) (N := some 34) (v := ?_) (a' := ?_) #[true, false, false, false, false, false, false, false, false] rfl rfl (take_ofW HT_.out HW_.out (by kernel_rfl)) (fun _ _ _ h => h) (Or.inl ⟨by rfl, ?_⟩) hHeld ?_ ?_
     rotate_left
     ·rintro w' ⟨s0, s1, s2, s3, s4, s5, s6, s7, s8, s9, s10, s11, s12, s13, s14, s15⟩
      go_simp
      with_reducible rfl
     rotate_left
     ·simp only [Act.put, List.setIfInBounds_toArray, List.set_cons_zero, List.set_cons_succ, i64_w, i32_w]
      rfl
     refine take_ (i := 1) (N := some 35) (v := ?_) (a' := ?_) #[true, true, false, false, false, false, false, false, false] rfl rfl (take_ofW HT_.out HW_.out (by kernel_rfl)) (fun _ _ _ h => h) (Or.inl ⟨by rfl, ?_⟩) hHeld ?_ ?_
     rotate_left
     ·rintro w' ⟨s0, s1, s2, s3, s4, s5, s6, s7, s8, s9, s10, s11, s12, s13, s14, s15⟩
      go_simp
      with_reducible rfl
     rotate_left
     ·simp only [Act.put, List.setIfInBounds_toArray, List.set_cons_zero, List.set_cons_succ, i64_w, i32_w]
      rfl
     refine take_ (i := 3) (N := some 37) (v := ?_) (a' := ?_) #[true, true, false, true, false, false, false, false, false] rfl rfl (take_ofW HT_.out HW_.out (by kernel_rfl)) (fun _ _ _ h => h) (Or.inl ⟨by rfl, ?_⟩) hHeld ?_ ?_
     rotate_left
     ·rintro w' ⟨s0, s1, s2, s3, s4, s5, s6, s7, s8, s9, s10, s11, s12, s13, s14, s15⟩
      go_simp
      with_reducible rfl
     rotate_left
     ·simp only [Act.put, List.setIfInBounds_toArray, List.set_cons_zero, List.set_cons_succ, i64_w, i32_w]
      rfl
     refine take_ (i := 4) (N := some 38) (v := ?_) (a' := ?_) #[true, true, false, true, true, false, false, false, false] rfl rfl (take_ofW HT_.out HW_.out (by kernel_rfl)) (fun _ _ _ h => h) (Or.inl ⟨by rfl, ?_⟩) hHeld ?_ ?_
     rotate_left
     ·rintro w' ⟨s0, s1, s2, s3, s4, s5, s6, s7, s8, s9, s10, s11, s12, s13, s14, s15⟩
      go_simp
      with_reducible rfl
     rotate_left
     ·simp only [Act.put, List.setIfInBounds_toArray, List.set_cons_zero, List.set_cons_succ, i64_w, i32_w]
      rfl
     refine one_ (i := 2) (N := some 36) #[true, true, true, true, true, false, false, false, false] rfl rfl (one_of HT_.out (by kernel_rfl)) (by decide) (fun K hK => ?_)
     refine goes_ Try.func67 (by kernel_rfl) rfl #[.agg #[.int .i64 a0_0, .int .i64 a0_1, .int .i64 a0_2, .int .i64 a0_3, .int .i64 a0_4, .int .i64 a0_5, .int .i64 a0_6, .int .i64 a0_7, .int .i64 a0_8, .int .i64 a0_9], .agg #[.int .i64 a1_0, .int .i64 a1_1, .int .i64 a1_2]] (by rfl) rfl rfl (by (try simp only [List.map_toArray, List.map_cons, List.map_nil]); first | done | rfl | (simp only [List.length_drop, List.length_take]; rfl)) ?_
     with_reducible refine (pylonref04_begins.calls kj4 a0_0 a0_1 a0_2 a0_3 a0_4 a0_5 a0_6 a0_7 a0_8 a0_9 a1_0 a1_1 a1_2 t427 _ A50.out).mono ?_
     rintro e w65 ⟨rfl, hb⟩
     refine ⟨_, rfl, ?_⟩
     have n0_ := AX (bkb BK416 hb)
     have n1_ := AX (bkb BK417 hb)
     have n2_ := AX (bkb BK419 hb)
     have n3_ := AX (bkb BK420 hb)
     have n4_ := AX (bkb BK426 hb)
     have n5_ := AX (below_step bw hb)
     clear BK416
     clear BK417
     clear BK419
     clear BK420
     clear BK426
     clear HB
     have BK416 := n0_
     have BK417 := n1_
     have BK419 := n2_
     have BK420 := n3_
     have BK426 := n4_
     have HB := n5_
     clear n0_ n1_ n2_ n3_ n4_ n5_
     (try clear hb)
     (try clear hb2)
     (try clear hk)
     (try clear hi)
     refine hK.out _ _ ⟨(blk_cell BK416.out 0).trans rfl, (blk_cell BK416.out 1).trans rfl, (blk_cell BK416.out 2).trans rfl, (blk_cell BK416.out 3).trans rfl, (blk_cell BK416.out 4).trans rfl, (blk_cell BK416.out 5).trans rfl, (blk_cell BK416.out 6).trans rfl, (blk_cell BK416.out 7).trans rfl, (blk_cell BK416.out 8).trans rfl, (blk_cell BK416.out 9).trans rfl, (blk_cell BK417.out 0).trans rfl, (blk_cell BK417.out 1).trans rfl, (blk_cell BK417.out 2).trans rfl, (blk_cell BK426.out 0).trans rfl, (blk_cell BK426.out 1).trans rfl, (blk_cell BK426.out 2).trans rfl⟩ (fun hHeld => ?_)
     clear hK K
     refine norm_ (a' := ?_) ?_ ?_
     rotate_left
     ·show Act.put _ (some 36) _ = _
      simp only [Act.put, List.setIfInBounds_toArray, List.set_cons_zero, List.set_cons_succ, i64_w, i32_w]
      rfl
     refine one_ (i := 5) (N := some 39) #[true, true, true, true, true, true, false, false, false] rfl rfl (one_of HT_.out (by kernel_rfl)) (by decide) (fun K hK => ?_)
     refine goes_ Try.func67 (by kernel_rfl) rfl #[.agg #[.int .i64 a0_0, .int .i64 a0_1, .int .i64 a0_2, .int .i64 a0_3, .int .i64 a0_4, .int .i64 a0_5, .int .i64 a0_6, .int .i64 a0_7, .int .i64 a0_8, .int .i64 a0_9], .agg #[.int .i64 t422, .int .i64 t423, .int .i64 t424]] (by rfl) rfl rfl (by (try simp only [List.map_toArray, List.map_cons, List.map_nil]); first | done | rfl | (simp only [List.length_drop, List.length_take]; rfl)) ?_
     with_reducible refine (pylonref04_begins.calls kj4 a0_0 a0_1 a0_2 a0_3 a0_4 a0_5 a0_6 a0_7 a0_8 a0_9 t422 t423 t424 t428 _ A51.out).mono ?_
     rintro e w66 ⟨rfl, hb⟩
     refine ⟨_, rfl, ?_⟩
     have n0_ := AX (bkb BK416 hb)
     have n1_ := AX (bkb BK417 hb)
     have n2_ := AX (bkb BK419 hb)
     have n3_ := AX (bkb BK420 hb)
     have n4_ := AX (bkb BK426 hb)
     have n5_ := AX (below_step bw hb)
     clear BK416
     clear BK417
     clear BK419
     clear BK420
     clear BK426
     clear HB
     have BK416 := n0_
     have BK417 := n1_
     have BK419 := n2_
     have BK420 := n3_
     have BK426 := n4_
     have HB := n5_
     clear n0_ n1_ n2_ n3_ n4_ n5_
     (try clear hb)
     (try clear hb2)
     (try clear hk)
     (try clear hi)
     refine hK.out _ _ ⟨(blk_cell BK416.out 0).trans rfl, (blk_cell BK416.out 1).trans rfl, (blk_cell BK416.out 2).trans rfl, (blk_cell BK416.out 3).trans rfl, (blk_cell BK416.out 4).trans rfl, (blk_cell BK416.out 5).trans rfl, (blk_cell BK416.out 6).trans rfl, (blk_cell BK416.out 7).trans rfl, (blk_cell BK416.out 8).trans rfl, (blk_cell BK416.out 9).trans rfl, (blk_cell BK417.out 0).trans rfl, (blk_cell BK417.out 1).trans rfl, (blk_cell BK417.out 2).trans rfl, (blk_cell BK426.out 0).trans rfl, (blk_cell BK426.out 1).trans rfl, (blk_cell BK426.out 2).trans rfl⟩ (fun hHeld => ?_)
     clear hK K
     refine norm_ (a' := ?_) ?_ ?_
     rotate_left
     ·show Act.put _ (some 39) _ = _
      simp only [Act.put, List.setIfInBounds_toArray, List.set_cons_zero, List.set_cons_succ, i64_w, i32_w]
      rfl
     refine pure_ (i := 6) (N := some 4) (v := ?_) (a' := ?_) #[true, true, true, true, true, true, true, false, false] rfl rfl (any_of HT_.out (by kernel_rfl)) (fun _ _ _ h => h) (Or.inl ⟨by rfl, ?_⟩) ?_ ?_
     rotate_left
     ·intro w'
      go_simp
      with_reducible rfl
     rotate_left
     ·simp only [Act.put, List.setIfInBounds_toArray, List.set_cons_zero, List.set_cons_succ, i64_w, i32_w]
      rfl
     refine pure_ (i := 7) (N := some 5) (v := ?_) (a' := ?_) #[true, true, true, true, true, true, true, true, false] rfl rfl (any_of HT_.out (by kernel_rfl)) (fun _ _ _ h => h) (Or.inl ⟨by rfl, ?_⟩) ?_ ?_
     rotate_left
     ·intro w'
      go_simp
      with_reducible rfl
     rotate_left
     ·simp only [Act.put, List.setIfInBounds_toArray, List.set_cons_zero, List.set_cons_succ, i64_w, i32_w]
      rfl
     refine pure_ (i := 8) (N := some 6) (v := ?_) (a' := ?_) #[true, true, true, true, true, true, true, true, true] rfl rfl (any_of HT_.out (by kernel_rfl)) (fun _ _ _ h => h) (Or.inl ⟨by rfl, ?_⟩) ?_ ?_
     rotate_left
     ·intro w'
      go_simp
      with_reducible rfl
     rotate_left
     ·simp only [Act.put, List.setIfInBounds_toArray, List.set_cons_zero, List.set_cons_succ, i64_w, i32_w]
      rfl
     refine done_ (done_of HT_.out (by kernel_rfl)) ?_
     try go_wp2
     go_ret3
     exact ⟨by first | rfl | (simp [errW_none, errW_some] <;> rfl) | (simp [*, errW_none, errW_some] <;> rfl), bw⟩
 ·rw [if_neg c4] at H
  have c4b0 : (t418 == 0) = false := beq_eq_false_iff_ne.mpr c4
  have c4b1 : (t418 != 0) = true := bne_iff_ne.mpr c4
  simp only [Option.some.injEq, Prod.mk.injEq] at H
  obtain ⟨rfl, rfl, rfl⟩ := H
  go_enter Try.func50, Try.ntmps50
  go_wp2_with (first | ((with_reducible refine gate_dst (N := 2) rfl ?_); refine bx 2 #[.int .i64 a0_0, .int .i64 a0_1, .int .i64 a0_2, .int .i64 a0_3, .int .i64 a0_4, .int .i64 a0_5, .int .i64 a0_6, .int .i64 a0_7, .int .i64 a0_8, .int .i64 a0_9] 25 ?_; intro gb416 hg w67 hbox hb; have BK416 := AX (hbox); have GW416 := gwl (w := w) hg bw; have GE416 := GW416; replace HB := AX (below_step bw hb); clear hb hbox hg) | ((with_reducible refine gate_dst (N := 3) rfl ?_); refine bx 3 #[.int .i64 a1_0, .int .i64 a1_1, .int .i64 a1_2] 33 ?_; intro gb417 hg w68 hbox hb; have BK417 := AX (hbox); have GW417 := gwl (w := w) hg bw; have GE417 := GW417; have NB416_417 := nbl hg (bkn BK416); have NB417_416 := nbg hg (bkn BK416); replace BK416 := AX (bkb BK416 hb); replace HB := AX (below_step bw hb); clear hb hbox hg; have hnb69 := NB416_417.out; have hnc69 := NB417_416.out; obtain ⟨hcz70_0, hcz70_1, hcz70_2, hcz70_3, hcz70_4, hcz70_5, hcz70_6, hcz70_7, hcz70_8, hcz70_9⟩ := blkC10 (w := w68) BK416.out; obtain ⟨hfz70_0, hfz70_1, hfz70_2, hfz70_3, hfz70_4, hfz70_5, hfz70_6, hfz70_7, hfz70_8, hfz70_9⟩ := blkF10 BK416.out) | ((with_reducible refine gate_callee (f := 16) rfl ?_); refine gL (some 12) Try.func16 #[.agg #[.int .i64 a0_0, .int .i64 a0_1, .int .i64 a0_2, .int .i64 a0_3, .int .i64 a0_4, .int .i64 a0_5, .int .i64 a0_6, .int .i64 a0_7, .int .i64 a0_8, .int .i64 a0_9]] ?_; (with_reducible refine (pylonref04_Check.calls k a0_0 a0_1 a0_2 a0_3 a0_4 a0_5 a0_6 a0_7 a0_8 a0_9 t418 _ A3.out).mono ?_); rintro e w71 ⟨rfl, hb⟩; refine ⟨_, rfl, ?_⟩; replace BK416 := AX (bkb BK416 hb); replace BK417 := AX (bkb BK417 hb); replace HB := AX (below_step bw hb); (try clear hb)))
  go_ret3
  exact ⟨by first | rfl | (simp [errW_none, errW_some] <;> rfl) | (simp [*, errW_none, errW_some] <;> rfl), bw⟩

end Go.Proofs.Ytddkckpfmleffaa.PX
