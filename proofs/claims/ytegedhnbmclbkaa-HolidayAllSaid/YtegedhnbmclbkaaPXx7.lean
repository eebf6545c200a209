/- Functions of the program as plain Lean functions, each with a proof that the call in the machine answers just what the plain function says; condition: the plain function answers at all. -/
import Derived.Test.YtegedhnbmclbkaaPXx0
import Derived.Test.YtegedhnbmclbkaaPXx1
import Derived.Test.YtegedhnbmclbkaaPXx2
import Derived.Test.YtegedhnbmclbkaaPXx3
import Derived.Test.YtegedhnbmclbkaaPXx4
namespace Go.Proofs.Ytegedhnbmclbkaa.PX
open Go.RowKit Go.Proofs.YtegedhnbmclbkaaW.PrintWords Go.Proofs.YtegedhnbmclbkaaW.PrintLast Go.Proofs.YtegedhnbmclbkaaW.PrintMore
attribute [local go_sem] max2_int min2_int max_two min_two max_three min_three max_four min_four   -- for this text's walks alone
set_option linter.unusedVariables false
set_option linter.unusedSimpArgs false

attribute [local go_sem high] eqA33
/-! ### holiday_Is: function 17 -/
mutual
def holiday_Is.l0 : Nat → List (S25) → List (S25) → Int → Int → Int → Int → Int → Option (Bool × Int)
 | 0, _, _, _, _, _, _, _ => none
 | k + 1, x0, x18, x19, x20, x194000, x194001, x194002 => if x20 < x19 then (if 0 ≤ x20 then (if x20 < (x18.length : Int) then ((holiday_Check.f k ((rd_T25 x18 x20).f0) ((rd_T25 x18 x20).f1) ((rd_T25 x18 x20).f2) ((rd_T25 x18 x20).f3)).bind fun t196 => (if t196 = 0 then (holiday_Is.l0 k x0 x18 x19 (wrap64 (x20 + 1)) x194000 x194001 x194002) else (some (false, 8)))) else (none)) else (none)) else ((civil_Days.f x194000 x194001 x194002).bind fun bt197 => (if bt197.2 = 0 then (holiday_Is.l1 k x0 (x0.length : Int) 0 x194000 x194001 x194002) else (some (false, bt197.2))))
def holiday_Is.l1 : Nat → List (S25) → Int → Int → Int → Int → Int → Option (Bool × Int)
 | 0, _, _, _, _, _, _ => none
 | k + 1, x36, x37, x38, x194000, x194001, x194002 => if x38 < x37 then (if 0 ≤ x38 then (if x38 < (x36.length : Int) then ((holiday_On.f k ((rd_T25 x36 x38).f0) ((rd_T25 x36 x38).f1) ((rd_T25 x36 x38).f2) ((rd_T25 x36 x38).f3) x194000).bind fun bt201 => (if bt201.2.2.2 = 0 then (holiday_Is.j2 k x36 x37 x38 (bt201.1 == x194000 && (bt201.2.1 == x194001 && (bt201.2.2.1 == x194002))) x194000 x194001 x194002 ((rd_T25 x36 x38).f0) ((rd_T25 x36 x38).f1) ((rd_T25 x36 x38).f2) ((rd_T25 x36 x38).f3)) else (holiday_Is.j2 k x36 x37 x38 false x194000 x194001 x194002 ((rd_T25 x36 x38).f0) ((rd_T25 x36 x38).f1) ((rd_T25 x36 x38).f2) ((rd_T25 x36 x38).f3)))) else (none)) else (none)) else (some (false, 0))
def holiday_Is.j2 : Nat → List (S25) → Int → Int → Bool → Int → Int → Int → Int → Int → Int → Int → Option (Bool × Int)
 | 0, _, _, _, _, _, _, _, _, _, _, _ => none
 | k + 1, x36, x37, x38, x55, x194000, x194001, x194002, x201000, x201001, x201002, x201003 => if x55 = true then (some (true, 0)) else (if x201000 = 3 then (holiday_Is.l2 k x36 x37 x38 0 (wrap64 (x194000 - 1)) (wrap64 (x194000 + 1)) x194000 x194001 x194002 x201000 x201001 x201002 x201003) else (holiday_Is.l1 k x36 x37 (wrap64 (x38 + 1)) x194000 x194001 x194002))
def holiday_Is.l2 : Nat → List (S25) → Int → Int → Int → Int → Int → Int → Int → Int → Int → Int → Int → Int → Option (Bool × Int)
 | 0, _, _, _, _, _, _, _, _, _, _, _, _, _ => none
 | k + 1, x36, x37, x38, x66, x900, x901, x194000, x194001, x194002, x201000, x201001, x201002, x201003 => if x66 < 2 then (if x66 = 0 then ((holiday_On.f k x201000 x201001 x201002 x201003 x900).bind fun bt206 => (if bt206.2.2.2 = 0 then (if (bt206.1 == x194000 && (bt206.2.1 == x194001 && (bt206.2.2.1 == x194002))) = true then (some (true, 0)) else (holiday_Is.l2 k x36 x37 x38 (wrap64 (x66 + 1)) x900 x901 x194000 x194001 x194002 x201000 x201001 x201002 x201003)) else (holiday_Is.l2 k x36 x37 x38 (wrap64 (x66 + 1)) x900 x901 x194000 x194001 x194002 x201000 x201001 x201002 x201003))) else (if x66 = 1 then ((holiday_On.f k x201000 x201001 x201002 x201003 x901).bind fun bt211 => (if bt211.2.2.2 = 0 then (if (bt211.1 == x194000 && (bt211.2.1 == x194001 && (bt211.2.2.1 == x194002))) = true then (some (true, 0)) else (holiday_Is.l2 k x36 x37 x38 (wrap64 (x66 + 1)) x900 x901 x194000 x194001 x194002 x201000 x201001 x201002 x201003)) else (holiday_Is.l2 k x36 x37 x38 (wrap64 (x66 + 1)) x900 x901 x194000 x194001 x194002 x201000 x201001 x201002 x201003))) else (none))) else (holiday_Is.l1 k x36 x37 (wrap64 (x38 + 1)) x194000 x194001 x194002)
end
def holiday_Is.f (k : Nat) (l0 : List (S25)) (a1_0 : Int) (a1_1 : Int) (a1_2 : Int) : Option (Bool × Int) := holiday_Is.l0 k l0 l0 (l0.length : Int) 0 a1_0 a1_1 a1_2
theorem holiday_Is.mono_l : ∀ k, (∀ y0 y1 y2 y3 y4 y5 y6, LeO (holiday_Is.l0 k y0 y1 y2 y3 y4 y5 y6) (holiday_Is.l0 (k + 1) y0 y1 y2 y3 y4 y5 y6)) ∧ (∀ y0 y1 y2 y3 y4 y5, LeO (holiday_Is.l1 k y0 y1 y2 y3 y4 y5) (holiday_Is.l1 (k + 1) y0 y1 y2 y3 y4 y5)) ∧ (∀ y0 y1 y2 y3 y4 y5 y6 y7 y8 y9 y10, LeO (holiday_Is.j2 k y0 y1 y2 y3 y4 y5 y6 y7 y8 y9 y10) (holiday_Is.j2 (k + 1) y0 y1 y2 y3 y4 y5 y6 y7 y8 y9 y10)) ∧ (∀ y0 y1 y2 y3 y4 y5 y6 y7 y8 y9 y10 y11 y12, LeO (holiday_Is.l2 k y0 y1 y2 y3 y4 y5 y6 y7 y8 y9 y10 y11 y12) (holiday_Is.l2 (k + 1) y0 y1 y2 y3 y4 y5 y6 y7 y8 y9 y10 y11 y12))
 | 0 => ⟨fun _ _ _ _ _ _ _ r h => by simp [holiday_Is.l0] at h, fun _ _ _ _ _ _ r h => by simp [holiday_Is.l1] at h, fun _ _ _ _ _ _ _ _ _ _ _ r h => by simp [holiday_Is.j2] at h, fun _ _ _ _ _ _ _ _ _ _ _ _ _ r h => by simp [holiday_Is.l2] at h⟩
 | k + 1 => by
  obtain ⟨ih0, ih1, ih2, ih3⟩ := holiday_Is.mono_l k
  refine ⟨?_, ?_, ?_, ?_⟩
  ·intro y0 y1 y2 y3 y4 y5 y6
   unfold holiday_Is.l0
   repeat' first
   | (with_reducible exact ih0 _ _ _ _ _ _ _)
   | (with_reducible exact ih1 _ _ _ _ _ _)
   | (with_reducible exact ih2 _ _ _ _ _ _ _ _ _ _ _)
   | (with_reducible exact ih3 _ _ _ _ _ _ _ _ _ _ _ _ _)
   | (with_reducible exact holiday_Check.mono _ _ _ _ _)
   | (with_reducible exact holiday_On.mono _ _ _ _ _ _)
   | (with_reducible exact LeO.refl _)
   | (with_reducible exact LeO.none _)
   | (with_reducible refine LeO.ite ?_ ?_)
   | (with_reducible refine LeO.bind ?_ (fun _ => ?_))
  ·intro y0 y1 y2 y3 y4 y5
   unfold holiday_Is.l1
   repeat' first
   | (with_reducible exact ih0 _ _ _ _ _ _ _)
   | (with_reducible exact ih1 _ _ _ _ _ _)
   | (with_reducible exact ih2 _ _ _ _ _ _ _ _ _ _ _)
   | (with_reducible exact ih3 _ _ _ _ _ _ _ _ _ _ _ _ _)
   | (with_reducible exact holiday_Check.mono _ _ _ _ _)
   | (with_reducible exact holiday_On.mono _ _ _ _ _ _)
   | (with_reducible exact LeO.refl _)
   | (with_reducible exact LeO.none _)
   | (with_reducible refine LeO.ite ?_ ?_)
   | (with_reducible refine LeO.bind ?_ (fun _ => ?_))
  ·intro y0 y1 y2 y3 y4 y5 y6 y7 y8 y9 y10
   unfold holiday_Is.j2
   repeat' first
   | (with_reducible exact ih0 _ _ _ _ _ _ _)
   | (with_reducible exact ih1 _ _ _ _ _ _)
   | (with_reducible exact ih2 _ _ _ _ _ _ _ _ _ _ _)
   | (with_reducible exact ih3 _ _ _ _ _ _ _ _ _ _ _ _ _)
   | (with_reducible exact holiday_Check.mono _ _ _ _ _)
   | (with_reducible exact holiday_On.mono _ _ _ _ _ _)
   | (with_reducible exact LeO.refl _)
   | (with_reducible exact LeO.none _)
   | (with_reducible refine LeO.ite ?_ ?_)
   | (with_reducible refine LeO.bind ?_ (fun _ => ?_))
  ·intro y0 y1 y2 y3 y4 y5 y6 y7 y8 y9 y10 y11 y12
   unfold holiday_Is.l2
   repeat' first
   | (with_reducible exact ih0 _ _ _ _ _ _ _)
   | (with_reducible exact ih1 _ _ _ _ _ _)
   | (with_reducible exact ih2 _ _ _ _ _ _ _ _ _ _ _)
   | (with_reducible exact ih3 _ _ _ _ _ _ _ _ _ _ _ _ _)
   | (with_reducible exact holiday_Check.mono _ _ _ _ _)
   | (with_reducible exact holiday_On.mono _ _ _ _ _ _)
   | (with_reducible exact LeO.refl _)
   | (with_reducible exact LeO.none _)
   | (with_reducible refine LeO.ite ?_ ?_)
   | (with_reducible refine LeO.bind ?_ (fun _ => ?_))
theorem holiday_Is.mono : ∀ a0 a1 a2 a3 k, LeO (holiday_Is.f k a0 a1 a2 a3) (holiday_Is.f (k + 1) a0 a1 a2 a3) := by
 intro a0 a1 a2 a3 k
 obtain ⟨ih0, ih1, ih2, ih3⟩ := holiday_Is.mono_l k
 unfold holiday_Is.f
 repeat' first
   | (with_reducible exact ih0 _ _ _ _ _ _ _)
   | (with_reducible exact ih1 _ _ _ _ _ _)
   | (with_reducible exact ih2 _ _ _ _ _ _ _ _ _ _ _)
   | (with_reducible exact ih3 _ _ _ _ _ _ _ _ _ _ _ _ _)
   | (with_reducible exact holiday_Check.mono _ _ _ _ _)
   | (with_reducible exact holiday_On.mono _ _ _ _ _ _)
   | (with_reducible exact LeO.refl _)
   | (with_reducible exact LeO.none _)
   | (with_reducible refine LeO.ite ?_ ?_)
   | (with_reducible refine LeO.bind ?_ (fun _ => ?_))
set_option maxHeartbeats 8000000 in
set_option maxRecDepth 100000 in
theorem holiday_Is.calls (k : Nat) (A0 : Option Addr) (c0 : Nat) (l0 : List (S25)) (a1_0 : Int) (a1_1 : Int) (a1_2 : Int) (r1 : Bool) (r2 : Int) (w : World) (hr0 : Kd.C k25 w A0 l0.length l0) (hc0 : l0.length ≤ c0) (h : holiday_Is.f k l0 a1_0 a1_1 a1_2 = some (r1, r2)) :
  Calls Try.prog 17 #[.slice A0 l0.length c0, .agg #[.int .i64 a1_0, .int .i64 a1_1, .int .i64 a1_2]] w fun e w' => e = .returned (.tuple #[.bool r1, .int .i64 r2]) ∧ Below w.heap.size w w' := by
 have hu33 := Try.underlying33
 have hu25 := Try.underlying25
 have HR0 := AX hr0
 have HC0 := AX hc0
 clear hr0 hc0
 have HB := AX (Below.refl w.heap.size w)
 have H : (holiday_Is.l0 k l0 l0 (l0.length : Int) 0 a1_0 a1_1 a1_2) = some (r1, r2) := h
 clear h
 have H' := AX H
 clear H
 go_enter Try.func17, Try.ntmps17
 go_wp2_with (first | ((with_reducible refine gate_dst (N := 3) rfl ?_); refine bx 3 #[.int .i64 a1_0, .int .i64 a1_1, .int .i64 a1_2] 33 ?_; intro gb193 hg w3 hbox hb; have BK193 := AX (hbox); have GW193 := gwl (w := w) hg bw; have GE193 := GW193; replace HB := AX (below_step bw hb); clear hb hbox hg))
 go_loopg [20] k (fun kq v20 w' => ∃ (x20_1 : Int), v20 = .int .i64 x20_1 ∧ Aside0 (holiday_Is.l0 kq l0 l0 (l0.length : Int) x20_1 a1_0 a1_1 a1_2 = some (r1, r2)) ∧ Aside0 (kq ≤ k) ∧ Aside0 (w'.heap[gb193]? = some (.cells #[.int .i64 a1_0, .int .i64 a1_1, .int .i64 a1_2] 33 (0, 0))) ∧ Aside0 (Below w.heap.size w w'))
 case atStart => exact ⟨(0), (by first | rfl | (simp; done) | (simp [*]; done)), H', ⟨Nat.le_refl _⟩, ⟨bkn BK193⟩, ⟨bw⟩⟩
 case round =>
  clear H'
  obtain ⟨x20_1, rfl, HA, HK1, BK193, HB⟩ := hrel
  cases gk with
  | zero => exact absurd HA.out (by simp [holiday_Is.l0])
  | succ k1 =>
   have H := HA.out
   clear HA
   simp only [holiday_Is.l0] at H
   by_cases c4 : x20_1 < (l0.length : Int)
   ·rw [if_pos c4] at H
    have c4b0 : decide (x20_1 < (l0.length : Int)) = true := decide_eq_true c4
    clear c4
    by_cases c5 : 0 ≤ x20_1
    ·rw [if_pos c5] at H
     have c5b0 : decide (0 ≤ x20_1) = true := decide_eq_true c5
     clear c5
     by_cases c6 : x20_1 < (l0.length : Int)
     ·rw [if_pos c6] at H
      have c6b0 : decide (x20_1 < (l0.length : Int)) = true := decide_eq_true c6
      clear c6
      replace H := Option.bind_eq_some_iff.mp H
      obtain ⟨t196, A70, H⟩ := H
      replace H : (if t196 = 0 then (holiday_Is.l0 k1 l0 l0 (l0.length : Int) (wrap64 (x20_1 + 1)) a1_0 a1_1 a1_2) else (some (false, 8))) = some (r1, r2) := H
      have A7 := AX A70
      clear A70
      by_cases c8 : t196 = 0
      ·rw [if_pos c8] at H
       have c8b0 : (t196 == 0) = true := beq_iff_eq.mpr c8
       have c8b1 : (t196 != 0) = false := bne_eq_false_iff_eq.mpr c8
       clear c8
       have H' := AX H
       clear H
       have p194 : 0 ≤ (x20_1 : Int) := of_decide_eq_true (by first | (with_reducible assumption) | assumption)
       have q194 : x20_1 < (l0.length : Int) := of_decide_eq_true (by first | (with_reducible assumption) | assumption)
       obtain ⟨ad194, e194, hx194_0, hx194_1, hx194_2, hx194_3⟩ := at_T25 HR0.out x20_1 p194 q194
       cases e194
       replace hx194_0 := bcl HB hx194_0
       replace hx194_1 := bcl HB hx194_1
       replace hx194_2 := bcl HB hx194_2
       replace hx194_3 := bcl HB hx194_3
       replace p194 := eq_true p194
       replace q194 := eq_true q194
       go_wp2_with (first | ((with_reducible refine gate_dst (N := 7) rfl ?_); refine bx 7 #[.int .i64 0, .int .i64 0, .int .i64 0, .int .i64 0] 25 ?_; intro gb195 hg w9 hbox hb; have BK195 := AX (hbox); have GW195 := gwl (w := w) hg bw; have GE195 := GW195; have NB193_195 := nbl hg (bkn BK193); have NB195_193 := nbg hg (bkn BK193); replace BK193 := AX (bkb BK193 hb); replace HB := AX (below_step bw hb); clear hb hbox hg; have hnb10 := NB195_193.out; have hnc10 := NB193_195.out; obtain ⟨hcz11_0, hcz11_1, hcz11_2, hcz11_3⟩ := blkC4 (w := w9) BK195.out; obtain ⟨hfz11_0, hfz11_1, hfz11_2, hfz11_3⟩ := blkF4 BK195.out) | ((with_reducible refine gate_callee (f := 12) rfl ?_); refine gL (some 25) Try.func12 #[.agg #[.int .i64 ((rd_T25 l0 x20_1).f0), .int .i64 ((rd_T25 l0 x20_1).f1), .int .i64 ((rd_T25 l0 x20_1).f2), .int .i64 ((rd_T25 l0 x20_1).f3)]] ?_; (with_reducible refine (holiday_Check.calls k1 ((rd_T25 l0 x20_1).f0) ((rd_T25 l0 x20_1).f1) ((rd_T25 l0 x20_1).f2) ((rd_T25 l0 x20_1).f3) t196 _ A7.out).mono ?_); rintro e w12 ⟨rfl, hb⟩; refine ⟨_, rfl, ?_⟩; replace BK193 := AX (blk_below (g := gb193) (o := .cells #[.int .i64 a1_0, .int .i64 a1_1, .int .i64 a1_2] 33 (0, 0)) (by (with_reducible repeat first|refine blk_drewN ?_ _|refine blk_drew ?_|refine blk_alloc ?_ _|refine blk_far ?_ NB193_195.out _); exact BK193.out) hb); replace BK195 := AX (blk_below (g := gb195) (o := .cells #[.int .i64 ((rd_T25 l0 x20_1).f0), .int .i64 ((rd_T25 l0 x20_1).f1), .int .i64 ((rd_T25 l0 x20_1).f2), .int .i64 ((rd_T25 l0 x20_1).f3)] 25 (0, 0)) (by (with_reducible repeat first|refine blk_drewN ?_ _|refine blk_drew ?_|refine blk_alloc ?_ _); refine blk_put (cs := #[.int .i64 ((rd_T25 l0 x20_1).f0), .int .i64 ((rd_T25 l0 x20_1).f1), .int .i64 ((rd_T25 l0 x20_1).f2), .int .i64 0]) ?_ 3 _ rfl; (with_reducible repeat first|refine blk_drewN ?_ _|refine blk_drew ?_|refine blk_alloc ?_ _); refine blk_put (cs := #[.int .i64 ((rd_T25 l0 x20_1).f0), .int .i64 ((rd_T25 l0 x20_1).f1), .int .i64 0, .int .i64 0]) ?_ 2 _ rfl; (with_reducible repeat first|refine blk_drewN ?_ _|refine blk_drew ?_|refine blk_alloc ?_ _); refine blk_put (cs := #[.int .i64 ((rd_T25 l0 x20_1).f0), .int .i64 0, .int .i64 0, .int .i64 0]) ?_ 1 _ rfl; (with_reducible repeat first|refine blk_drewN ?_ _|refine blk_drew ?_|refine blk_alloc ?_ _); refine blk_put (cs := #[.int .i64 0, .int .i64 0, .int .i64 0, .int .i64 0]) ?_ 0 _ rfl; (with_reducible repeat first|refine blk_drewN ?_ _|refine blk_drew ?_|refine blk_alloc ?_ _); exact BK195.out) hb); replace HB := AX (below_step bw hb); (try clear hb)))
       go_roundg k1
       case measure => have := HK1.out; omega
       case rel => exact ⟨(wrap64 (x20_1 + 1)), (by first | rfl | (simp; done) | (simp [*]; done)), H', ⟨by have := HK1.out; omega⟩, ⟨bkn BK193⟩, ⟨bw⟩⟩
      ·rw [if_neg c8] at H
       have c8b0 : (t196 == 0) = false := beq_eq_false_iff_ne.mpr c8
       have c8b1 : (t196 != 0) = true := bne_iff_ne.mpr c8
       simp only [Option.some.injEq, Prod.mk.injEq] at H
       obtain ⟨rfl, rfl⟩ := H
       have p194 : 0 ≤ (x20_1 : Int) := of_decide_eq_true (by first | (with_reducible assumption) | assumption)
       have q194 : x20_1 < (l0.length : Int) := of_decide_eq_true (by first | (with_reducible assumption) | assumption)
       obtain ⟨ad194, e194, hx194_0, hx194_1, hx194_2, hx194_3⟩ := at_T25 HR0.out x20_1 p194 q194
       cases e194
       replace hx194_0 := bcl HB hx194_0
       replace hx194_1 := bcl HB hx194_1
       replace hx194_2 := bcl HB hx194_2
       replace hx194_3 := bcl HB hx194_3
       replace p194 := eq_true p194
       replace q194 := eq_true q194
       go_wp2_with (first | ((with_reducible refine gate_dst (N := 7) rfl ?_); refine bx 7 #[.int .i64 0, .int .i64 0, .int .i64 0, .int .i64 0] 25 ?_; intro gb195 hg w13 hbox hb; have BK195 := AX (hbox); have GW195 := gwl (w := w) hg bw; have GE195 := GW195; have NB193_195 := nbl hg (bkn BK193); have NB195_193 := nbg hg (bkn BK193); replace BK193 := AX (bkb BK193 hb); replace HB := AX (below_step bw hb); clear hb hbox hg; have hnb14 := NB195_193.out; have hnc14 := NB193_195.out; obtain ⟨hcz15_0, hcz15_1, hcz15_2, hcz15_3⟩ := blkC4 (w := w13) BK195.out; obtain ⟨hfz15_0, hfz15_1, hfz15_2, hfz15_3⟩ := blkF4 BK195.out) | ((with_reducible refine gate_callee (f := 12) rfl ?_); refine gL (some 25) Try.func12 #[.agg #[.int .i64 ((rd_T25 l0 x20_1).f0), .int .i64 ((rd_T25 l0 x20_1).f1), .int .i64 ((rd_T25 l0 x20_1).f2), .int .i64 ((rd_T25 l0 x20_1).f3)]] ?_; (with_reducible refine (holiday_Check.calls k1 ((rd_T25 l0 x20_1).f0) ((rd_T25 l0 x20_1).f1) ((rd_T25 l0 x20_1).f2) ((rd_T25 l0 x20_1).f3) t196 _ A7.out).mono ?_); rintro e w16 ⟨rfl, hb⟩; refine ⟨_, rfl, ?_⟩; replace BK193 := AX (blk_below (g := gb193) (o := .cells #[.int .i64 a1_0, .int .i64 a1_1, .int .i64 a1_2] 33 (0, 0)) (by (with_reducible repeat first|refine blk_drewN ?_ _|refine blk_drew ?_|refine blk_alloc ?_ _|refine blk_far ?_ NB193_195.out _); exact BK193.out) hb); replace BK195 := AX (blk_below (g := gb195) (o := .cells #[.int .i64 ((rd_T25 l0 x20_1).f0), .int .i64 ((rd_T25 l0 x20_1).f1), .int .i64 ((rd_T25 l0 x20_1).f2), .int .i64 ((rd_T25 l0 x20_1).f3)] 25 (0, 0)) (by (with_reducible repeat first|refine blk_drewN ?_ _|refine blk_drew ?_|refine blk_alloc ?_ _); refine blk_put (cs := #[.int .i64 ((rd_T25 l0 x20_1).f0), .int .i64 ((rd_T25 l0 x20_1).f1), .int .i64 ((rd_T25 l0 x20_1).f2), .int .i64 0]) ?_ 3 _ rfl; (with_reducible repeat first|refine blk_drewN ?_ _|refine blk_drew ?_|refine blk_alloc ?_ _); refine blk_put (cs := #[.int .i64 ((rd_T25 l0 x20_1).f0), .int .i64 ((rd_T25 l0 x20_1).f1), .int .i64 0, .int .i64 0]) ?_ 2 _ rfl; (with_reducible repeat first|refine blk_drewN ?_ _|refine blk_drew ?_|refine blk_alloc ?_ _); refine blk_put (cs := #[.int .i64 ((rd_T25 l0 x20_1).f0), .int .i64 0, .int .i64 0, .int .i64 0]) ?_ 1 _ rfl; (with_reducible repeat first|refine blk_drewN ?_ _|refine blk_drew ?_|refine blk_alloc ?_ _); refine blk_put (cs := #[.int .i64 0, .int .i64 0, .int .i64 0, .int .i64 0]) ?_ 0 _ rfl; (with_reducible repeat first|refine blk_drewN ?_ _|refine blk_drew ?_|refine blk_alloc ?_ _); exact BK195.out) hb); replace HB := AX (below_step bw hb); (try clear hb)))
       go_ret2
       exact ⟨by first | rfl | (simp [errW_none, errW_some] <;> rfl) | (simp [*, errW_none, errW_some] <;> rfl), bw⟩
     ·rw [if_neg c6] at H
      exact absurd H (by simp)
    ·rw [if_neg c5] at H
     exact absurd H (by simp)
   ·rw [if_neg c4] at H
    have c4b0 : decide (x20_1 < (l0.length : Int)) = false := decide_eq_false c4
    clear c4
    replace H := Option.bind_eq_some_iff.mp H
    obtain ⟨⟨t197, t198⟩, A170, H⟩ := H
    replace H : (if t198 = 0 then (holiday_Is.l1 k1 l0 (l0.length : Int) 0 a1_0 a1_1 a1_2) else (some (false, t198))) = some (r1, r2) := H
    have A17 := AX A170
    clear A170
    by_cases c18 : t198 = 0
    ·rw [if_pos c18] at H
     have c18b0 : (t198 == 0) = true := beq_iff_eq.mpr c18
     have c18b1 : (t198 != 0) = false := bne_eq_false_iff_eq.mpr c18
     clear c18
     have H' := AX H
     clear H
     obtain ⟨hcz19_0, hcz19_1, hcz19_2⟩ := blkC3 (w := wr) BK193.out
     obtain ⟨hfz19_0, hfz19_1, hfz19_2⟩ := blkF3 BK193.out
     go_wp2_with (first | ((with_reducible refine gate_callee (f := 32) rfl ?_); refine gL (some 30) Try.func32 #[.agg #[.int .i64 a1_0, .int .i64 a1_1, .int .i64 a1_2]] ?_; (with_reducible refine (civil_Days.calls a1_0 a1_1 a1_2 t197 t198 _ A17.out).mono ?_); rintro e w20 ⟨rfl, hb⟩; refine ⟨_, rfl, ?_⟩; replace BK193 := AX (bkb BK193 hb); replace HB := AX (below_step bw hb); (try clear hb)))
     go_loopg [38] k1 (fun kq v38 w' => ∃ (x38_2 : Int), v38 = .int .i64 x38_2 ∧ Aside0 (holiday_Is.l1 kq l0 (l0.length : Int) x38_2 a1_0 a1_1 a1_2 = some (r1, r2)) ∧ Aside0 (kq ≤ k1) ∧ Aside0 (w'.heap[gb193]? = some (.cells #[.int .i64 a1_0, .int .i64 a1_1, .int .i64 a1_2] 33 (0, 0))) ∧ Aside0 (Below w.heap.size w w'))
     case atStart => exact ⟨(0), (by first | rfl | (simp; done) | (simp [*]; done)), H', ⟨Nat.le_refl _⟩, ⟨bkn BK193⟩, ⟨bw⟩⟩
     case round =>
      clear H'
      try clear c4b0
      try clear c18b0 c18b1
      try clear hcz19_0 hcz19_1 hcz19_2
      try clear hfz19_0 hfz19_1 hfz19_2
      obtain ⟨x38_2, rfl, HA, HK2, BK193, HB⟩ := hrel
      cases gk with
      | zero => exact absurd HA.out (by simp [holiday_Is.l1])
      | succ k2 =>
       have H := HA.out
       clear HA
       simp only [holiday_Is.l1] at H
       by_cases c21 : x38_2 < (l0.length : Int)
       ·rw [if_pos c21] at H
        have c21b0 : decide (x38_2 < (l0.length : Int)) = true := decide_eq_true c21
        clear c21
        by_cases c22 : 0 ≤ x38_2
        ·rw [if_pos c22] at H
         have c22b0 : decide (0 ≤ x38_2) = true := decide_eq_true c22
         clear c22
         by_cases c23 : x38_2 < (l0.length : Int)
         ·rw [if_pos c23] at H
          have c23b0 : decide (x38_2 < (l0.length : Int)) = true := decide_eq_true c23
          clear c23
          replace H := Option.bind_eq_some_iff.mp H
          obtain ⟨⟨t201, t202, t203, t204⟩, A240, H⟩ := H
          replace H : (if t204 = 0 then (holiday_Is.j2 k2 l0 (l0.length : Int) x38_2 (t201 == a1_0 && (t202 == a1_1 && (t203 == a1_2))) a1_0 a1_1 a1_2 ((rd_T25 l0 x38_2).f0) ((rd_T25 l0 x38_2).f1) ((rd_T25 l0 x38_2).f2) ((rd_T25 l0 x38_2).f3)) else (holiday_Is.j2 k2 l0 (l0.length : Int) x38_2 false a1_0 a1_1 a1_2 ((rd_T25 l0 x38_2).f0) ((rd_T25 l0 x38_2).f1) ((rd_T25 l0 x38_2).f2) ((rd_T25 l0 x38_2).f3))) = some (r1, r2) := H
          have A24 := AX A240
          clear A240
          have HC25 := AX H
          clear H
          have p199 : 0 ≤ (x38_2 : Int) := of_decide_eq_true (by first | (with_reducible assumption) | assumption)
          have q199 : x38_2 < (l0.length : Int) := of_decide_eq_true (by first | (with_reducible assumption) | assumption)
          obtain ⟨ad199, e199, hx199_0, hx199_1, hx199_2, hx199_3⟩ := at_T25 HR0.out x38_2 p199 q199
          cases e199
          replace hx199_0 := bcl HB hx199_0
          replace hx199_1 := bcl HB hx199_1
          replace hx199_2 := bcl HB hx199_2
          replace hx199_3 := bcl HB hx199_3
          replace p199 := eq_true p199
          replace q199 := eq_true q199
          go_upto_region 14 with (first | ((with_reducible refine gate_dst (N := 11) rfl ?_); refine bx 11 #[.int .i64 0, .int .i64 0, .int .i64 0, .int .i64 0] 25 ?_; intro gb200 hg w26 hbox hb; have BK200 := AX (hbox); have GW200 := gwl (w := w) hg bw; have GE200 := GW200; have NB193_200 := nbl hg (bkn BK193); have NB200_193 := nbg hg (bkn BK193); replace BK193 := AX (bkb BK193 hb); replace HB := AX (below_step bw hb); clear hb hbox hg; have hnb27 := NB200_193.out; have hnc27 := NB193_200.out; obtain ⟨hcz28_0, hcz28_1, hcz28_2, hcz28_3⟩ := blkC4 (w := w26) BK200.out; obtain ⟨hfz28_0, hfz28_1, hfz28_2, hfz28_3⟩ := blkF4 BK200.out; obtain ⟨hcz29_0, hcz29_1, hcz29_2⟩ := blkC3 (w := w26) BK193.out; obtain ⟨hfz29_0, hfz29_1, hfz29_2⟩ := blkF3 BK193.out) | ((with_reducible refine gate_callee (f := 11) rfl ?_); refine gL (some 46) Try.func11 #[.agg #[.int .i64 ((rd_T25 l0 x38_2).f0), .int .i64 ((rd_T25 l0 x38_2).f1), .int .i64 ((rd_T25 l0 x38_2).f2), .int .i64 ((rd_T25 l0 x38_2).f3)], .int .i64 a1_0] ?_; (with_reducible refine (holiday_On.calls k2 ((rd_T25 l0 x38_2).f0) ((rd_T25 l0 x38_2).f1) ((rd_T25 l0 x38_2).f2) ((rd_T25 l0 x38_2).f3) a1_0 t201 t202 t203 t204 _ A24.out).mono ?_); rintro e w30 ⟨rfl, hb⟩; refine ⟨_, rfl, ?_⟩; replace BK193 := AX (blk_below (g := gb193) (o := .cells #[.int .i64 a1_0, .int .i64 a1_1, .int .i64 a1_2] 33 (0, 0)) (by (with_reducible repeat first|refine blk_drewN ?_ _|refine blk_drew ?_|refine blk_alloc ?_ _|refine blk_far ?_ NB193_200.out _); exact BK193.out) hb); replace BK200 := AX (blk_below (g := gb200) (o := .cells #[.int .i64 ((rd_T25 l0 x38_2).f0), .int .i64 ((rd_T25 l0 x38_2).f1), .int .i64 ((rd_T25 l0 x38_2).f2), .int .i64 ((rd_T25 l0 x38_2).f3)] 25 (0, 0)) (by (with_reducible repeat first|refine blk_drewN ?_ _|refine blk_drew ?_|refine blk_alloc ?_ _); refine blk_put (cs := #[.int .i64 ((rd_T25 l0 x38_2).f0), .int .i64 ((rd_T25 l0 x38_2).f1), .int .i64 ((rd_T25 l0 x38_2).f2), .int .i64 0]) ?_ 3 _ rfl; (with_reducible repeat first|refine blk_drewN ?_ _|refine blk_drew ?_|refine blk_alloc ?_ _); refine blk_put (cs := #[.int .i64 ((rd_T25 l0 x38_2).f0), .int .i64 ((rd_T25 l0 x38_2).f1), .int .i64 0, .int .i64 0]) ?_ 2 _ rfl; (with_reducible repeat first|refine blk_drewN ?_ _|refine blk_drew ?_|refine blk_alloc ?_ _); refine blk_put (cs := #[.int .i64 ((rd_T25 l0 x38_2).f0), .int .i64 0, .int .i64 0, .int .i64 0]) ?_ 1 _ rfl; (with_reducible repeat first|refine blk_drewN ?_ _|refine blk_drew ?_|refine blk_alloc ?_ _); refine blk_put (cs := #[.int .i64 0, .int .i64 0, .int .i64 0, .int .i64 0]) ?_ 0 _ rfl; (with_reducible repeat first|refine blk_drewN ?_ _|refine blk_drew ?_|refine blk_alloc ?_ _); exact BK200.out) hb); replace HB := AX (below_step bw hb); (try clear hb)) | ((with_reducible refine gate_dst (N := 12) rfl ?_); refine bx 12 #[.int .i64 0, .int .i64 0, .int .i64 0] 33 ?_; intro gb205 hg w31 hbox hb; have BK205 := AX (hbox); have GW205 := gwl (w := w) hg bw; have GE205 := GW205; have NB193_205 := nbl hg (bkn BK193); have NB205_193 := nbg hg (bkn BK193); have NB200_205 := nbl hg (bkn BK200); have NB205_200 := nbg hg (bkn BK200); replace BK193 := AX (bkb BK193 hb); replace BK200 := AX (bkb BK200 hb); replace HB := AX (below_step bw hb); clear hb hbox hg; have hnb32 := NB205_193.out; have hnc32 := NB193_205.out; have hnb33 := NB205_200.out; have hnc33 := NB200_205.out; obtain ⟨hcz34_0, hcz34_1, hcz34_2⟩ := blkC3 (w := w31) BK205.out; obtain ⟨hfz34_0, hfz34_1, hfz34_2⟩ := blkF3 BK205.out))
          (try simp only [Act.put, List.setIfInBounds_toArray, List.set_cons_zero, List.set_cons_succ])
          go_cut [55] (fun v55 wc => ∃ (kq : Nat) (x55_24 : Bool), v55 = .bool x55_24 ∧ Aside0 (holiday_Is.j2 kq l0 (l0.length : Int) x38_2 x55_24 a1_0 a1_1 a1_2 ((rd_T25 l0 x38_2).f0) ((rd_T25 l0 x38_2).f1) ((rd_T25 l0 x38_2).f2) ((rd_T25 l0 x38_2).f3) = some (r1, r2)) ∧ Aside0 (kq ≤ k2) ∧ Aside0 (wc.heap[gb193]? = some (.cells #[.int .i64 a1_0, .int .i64 a1_1, .int .i64 a1_2] 33 (0, 0))) ∧ Aside0 (wc.heap[gb200]? = some (.cells #[.int .i64 ((rd_T25 l0 x38_2).f0), .int .i64 ((rd_T25 l0 x38_2).f1), .int .i64 ((rd_T25 l0 x38_2).f2), .int .i64 ((rd_T25 l0 x38_2).f3)] 25 (0, 0))) ∧ Aside0 (wc.heap[gb205]? = some (.cells #[.int .i64 t201, .int .i64 t202, .int .i64 t203] 33 (0, 0))) ∧ Aside0 (Below w.heap.size w wc))
          case first =>
           have H := HC25.out
           clear HC25
           by_cases c35 : t204 = 0
           ·rw [if_pos c35] at H
            have c35b0 : (t204 == 0) = true := beq_iff_eq.mpr c35
            have c35b1 : (t204 != 0) = false := bne_eq_false_iff_eq.mpr c35
            clear c35
            (first | rw [c35b0] | (simp only [i64_w, i32_w]; rw [c35b0]) | skip)
            have H' := AX H
            clear H
            have hnb36 := NB205_193.out
            have hnc36 := NB193_205.out
            have hnb37 := NB205_200.out
            have hnc37 := NB200_205.out
            obtain ⟨hcz38_0, hcz38_1, hcz38_2⟩ := blkC3 (w := w31) BK205.out
            obtain ⟨hfz38_0, hfz38_1, hfz38_2⟩ := blkF3 BK205.out
            have hnb39 := NB193_200.out
            have hnc39 := NB200_193.out
            obtain ⟨hcz40_0, hcz40_1, hcz40_2⟩ := blkC3 (w := w31) BK193.out
            obtain ⟨hfz40_0, hfz40_1, hfz40_2⟩ := blkF3 BK193.out
            go_wp2
            go_meet
            case rel => exact ⟨_, ((t201 == a1_0 && (t202 == a1_1 && (t203 == a1_2)))), (by first | rfl | (simp; done) | (simp [*]; done)), H', ⟨by have := HK1.out; have := HK2.out; first | omega | exact Nat.le_refl _⟩, ⟨by (with_reducible repeat first|refine blk_drewN ?_ _|refine blk_drew ?_|refine blk_alloc ?_ _); refine blk_far ?_ NB193_205.out _; (with_reducible repeat first|refine blk_drewN ?_ _|refine blk_drew ?_|refine blk_alloc ?_ _); refine blk_far ?_ NB193_205.out _; (with_reducible repeat first|refine blk_drewN ?_ _|refine blk_drew ?_|refine blk_alloc ?_ _); refine blk_far ?_ NB193_205.out _; (with_reducible repeat first|refine blk_drewN ?_ _|refine blk_drew ?_|refine blk_alloc ?_ _); exact BK193.out⟩, ⟨by (with_reducible repeat first|refine blk_drewN ?_ _|refine blk_drew ?_|refine blk_alloc ?_ _); refine blk_far ?_ NB200_205.out _; (with_reducible repeat first|refine blk_drewN ?_ _|refine blk_drew ?_|refine blk_alloc ?_ _); refine blk_far ?_ NB200_205.out _; (with_reducible repeat first|refine blk_drewN ?_ _|refine blk_drew ?_|refine blk_alloc ?_ _); refine blk_far ?_ NB200_205.out _; (with_reducible repeat first|refine blk_drewN ?_ _|refine blk_drew ?_|refine blk_alloc ?_ _); exact BK200.out⟩, ⟨by (with_reducible repeat first|refine blk_drewN ?_ _|refine blk_drew ?_|refine blk_alloc ?_ _); refine blk_put (cs := #[.int .i64 t201, .int .i64 t202, .int .i64 0]) ?_ 2 _ rfl; (with_reducible repeat first|refine blk_drewN ?_ _|refine blk_drew ?_|refine blk_alloc ?_ _); refine blk_put (cs := #[.int .i64 t201, .int .i64 0, .int .i64 0]) ?_ 1 _ rfl; (with_reducible repeat first|refine blk_drewN ?_ _|refine blk_drew ?_|refine blk_alloc ?_ _); refine blk_put (cs := #[.int .i64 0, .int .i64 0, .int .i64 0]) ?_ 0 _ rfl; (with_reducible repeat first|refine blk_drewN ?_ _|refine blk_drew ?_|refine blk_alloc ?_ _); exact BK205.out⟩, ⟨bw⟩⟩
           ·rw [if_neg c35] at H
            have c35b0 : (t204 == 0) = false := beq_eq_false_iff_ne.mpr c35
            have c35b1 : (t204 != 0) = true := bne_iff_ne.mpr c35
            (first | rw [c35b0] | (simp only [i64_w, i32_w]; rw [c35b0]) | skip)
            have H' := AX H
            clear H
            go_wp2
            go_meet
            case rel => exact ⟨_, (false), (by first | rfl | (simp; done) | (simp [*]; done)), H', ⟨by have := HK1.out; have := HK2.out; first | omega | exact Nat.le_refl _⟩, ⟨by (with_reducible repeat first|refine blk_drewN ?_ _|refine blk_drew ?_|refine blk_alloc ?_ _); refine blk_far ?_ NB193_205.out _; (with_reducible repeat first|refine blk_drewN ?_ _|refine blk_drew ?_|refine blk_alloc ?_ _); refine blk_far ?_ NB193_205.out _; (with_reducible repeat first|refine blk_drewN ?_ _|refine blk_drew ?_|refine blk_alloc ?_ _); refine blk_far ?_ NB193_205.out _; (with_reducible repeat first|refine blk_drewN ?_ _|refine blk_drew ?_|refine blk_alloc ?_ _); exact BK193.out⟩, ⟨by (with_reducible repeat first|refine blk_drewN ?_ _|refine blk_drew ?_|refine blk_alloc ?_ _); refine blk_far ?_ NB200_205.out _; (with_reducible repeat first|refine blk_drewN ?_ _|refine blk_drew ?_|refine blk_alloc ?_ _); refine blk_far ?_ NB200_205.out _; (with_reducible repeat first|refine blk_drewN ?_ _|refine blk_drew ?_|refine blk_alloc ?_ _); refine blk_far ?_ NB200_205.out _; (with_reducible repeat first|refine blk_drewN ?_ _|refine blk_drew ?_|refine blk_alloc ?_ _); exact BK200.out⟩, ⟨by (with_reducible repeat first|refine blk_drewN ?_ _|refine blk_drew ?_|refine blk_alloc ?_ _); refine blk_put (cs := #[.int .i64 t201, .int .i64 t202, .int .i64 0]) ?_ 2 _ rfl; (with_reducible repeat first|refine blk_drewN ?_ _|refine blk_drew ?_|refine blk_alloc ?_ _); refine blk_put (cs := #[.int .i64 t201, .int .i64 0, .int .i64 0]) ?_ 1 _ rfl; (with_reducible repeat first|refine blk_drewN ?_ _|refine blk_drew ?_|refine blk_alloc ?_ _); refine blk_put (cs := #[.int .i64 0, .int .i64 0, .int .i64 0]) ?_ 0 _ rfl; (with_reducible repeat first|refine blk_drewN ?_ _|refine blk_drew ?_|refine blk_alloc ?_ _); exact BK205.out⟩, ⟨bw⟩⟩
          case rest =>
           clear HC25
           try clear c21b0
           try clear c22b0
           try clear c23b0
           try clear hcz28_0 hcz28_1 hcz28_2 hcz28_3
           try clear hcz29_0 hcz29_1 hcz29_2
           try clear hcz34_0 hcz34_1 hcz34_2
           try clear hfz28_0 hfz28_1 hfz28_2 hfz28_3
           try clear hfz29_0 hfz29_1 hfz29_2
           try clear hfz34_0 hfz34_1 hfz34_2
           try clear hx199_0
           try clear hx199_1
           try clear hx199_2
           try clear hx199_3
           try clear p199
           try clear q199
           obtain ⟨kq, x55_24, rfl, HA, HJ24, BK193, BK200, BK205, HB⟩ := hcut
           cases kq with
           | zero => exact absurd HA.out (by simp [holiday_Is.j2])
           | succ kj24 =>
            have H := HA.out
            clear HA
            simp only [holiday_Is.j2] at H
            by_cases c41 : x55_24 = true
            ·subst c41
             have H1 : (some (true, 0)) = some (r1, r2) := by rw [if_pos rfl] at H; exact H
             clear H
             have H := H1
             clear H1
             simp only [Option.some.injEq, Prod.mk.injEq] at H
             obtain ⟨rfl, rfl⟩ := H
             go_wp2
             go_ret2
             exact ⟨by first | rfl | (simp [errW_none, errW_some] <;> rfl) | (simp [*, errW_none, errW_some] <;> rfl), bw⟩
            ·replace c41 := Bool.eq_false_iff.mpr c41
             subst c41
             have H1 : (if ((rd_T25 l0 x38_2).f0) = 3 then (holiday_Is.l2 kj24 l0 (l0.length : Int) x38_2 0 (wrap64 (a1_0 - 1)) (wrap64 (a1_0 + 1)) a1_0 a1_1 a1_2 ((rd_T25 l0 x38_2).f0) ((rd_T25 l0 x38_2).f1) ((rd_T25 l0 x38_2).f2) ((rd_T25 l0 x38_2).f3)) else (holiday_Is.l1 kj24 l0 (l0.length : Int) (wrap64 (x38_2 + 1)) a1_0 a1_1 a1_2)) = some (r1, r2) := by rw [if_neg (show ¬ (false = true) by decide)] at H; exact H
             clear H
             have H := H1
             clear H1
             by_cases c42 : ((rd_T25 l0 x38_2).f0) = 3
             ·rw [if_pos c42] at H
              have c42b0 : (((rd_T25 l0 x38_2).f0) == 3) = true := beq_iff_eq.mpr c42
              have c42b1 : (((rd_T25 l0 x38_2).f0) != 3) = false := bne_eq_false_iff_eq.mpr c42
              clear c42
              have H' := AX H
              clear H
              have hnb43 := NB200_193.out
              have hnc43 := NB193_200.out
              have hnb44 := NB200_205.out
              have hnc44 := NB205_200.out
              obtain ⟨hcz45_0, hcz45_1, hcz45_2, hcz45_3⟩ := blkC4 (w := wc) BK200.out
              obtain ⟨hfz45_0, hfz45_1, hfz45_2, hfz45_3⟩ := blkF4 BK200.out
              have hnb46 := NB193_205.out
              have hnc46 := NB205_193.out
              obtain ⟨hcz47_0, hcz47_1, hcz47_2⟩ := blkC3 (w := wc) BK193.out
              obtain ⟨hfz47_0, hfz47_1, hfz47_2⟩ := blkF3 BK193.out
              go_wp2
              go_loopg [66] kj24 (fun kq v66 w' => ∃ (x66_4 : Int), v66 = .int .i64 x66_4 ∧ Aside0 (holiday_Is.l2 kq l0 (l0.length : Int) x38_2 x66_4 (wrap64 (a1_0 - 1)) (wrap64 (a1_0 + 1)) a1_0 a1_1 a1_2 ((rd_T25 l0 x38_2).f0) ((rd_T25 l0 x38_2).f1) ((rd_T25 l0 x38_2).f2) ((rd_T25 l0 x38_2).f3) = some (r1, r2)) ∧ Aside0 (kq ≤ kj24) ∧ Aside0 (w'.heap[gb193]? = some (.cells #[.int .i64 a1_0, .int .i64 a1_1, .int .i64 a1_2] 33 (0, 0))) ∧ Aside0 (w'.heap[gb200]? = some (.cells #[.int .i64 ((rd_T25 l0 x38_2).f0), .int .i64 ((rd_T25 l0 x38_2).f1), .int .i64 ((rd_T25 l0 x38_2).f2), .int .i64 ((rd_T25 l0 x38_2).f3)] 25 (0, 0))) ∧ Aside0 (w'.heap[gb205]? = some (.cells #[.int .i64 t201, .int .i64 t202, .int .i64 t203] 33 (0, 0))) ∧ Aside0 (Below w.heap.size w w'))
              case atStart => exact ⟨(0), (by first | rfl | (simp; done) | (simp [*]; done)), H', ⟨Nat.le_refl _⟩, ⟨bkn BK193⟩, ⟨bkn BK200⟩, ⟨bkn BK205⟩, ⟨bw⟩⟩
              case round =>
               clear H'
               try clear c41
               try clear c42b0 c42b1
               try clear hcz45_0 hcz45_1 hcz45_2 hcz45_3
               try clear hcz47_0 hcz47_1 hcz47_2
               try clear hfz45_0 hfz45_1 hfz45_2 hfz45_3
               try clear hfz47_0 hfz47_1 hfz47_2
               obtain ⟨x66_4, rfl, HA, HK4, BK193, BK200, BK205, HB⟩ := hrel
               cases gk with
               | zero => exact absurd HA.out (by simp [holiday_Is.l2])
               | succ k4 =>
                have H := HA.out
                clear HA
                simp only [holiday_Is.l2] at H
                by_cases c48 : x66_4 < 2
                ·rw [if_pos c48] at H
                 have c48b0 : decide (x66_4 < 2) = true := decide_eq_true c48
                 clear c48
                 by_cases c49 : x66_4 = 0
                 ·rw [if_pos c49] at H
                  have ixc49 : ∀ w_ : World, (Instr.index 61 (.agg #[.int .i64 (wrap64 (a1_0 - 1)), .int .i64 (wrap64 (a1_0 + 1))]) (.int .i64 x66_4)).run Try.prog w_ = .ok (.int .i64 (wrap64 (a1_0 - 1))) w_ := fun w_ => by rw [c49]; kernel_rfl
                  have c49b0 : (x66_4 == 0) = true := beq_iff_eq.mpr c49
                  have c49b1 : (x66_4 != 0) = false := bne_eq_false_iff_eq.mpr c49
                  clear c49
                  replace H := Option.bind_eq_some_iff.mp H
                  obtain ⟨⟨t206, t207, t208, t209⟩, A500, H⟩ := H
                  replace H : (if t209 = 0 then (if (t206 == a1_0 && (t207 == a1_1 && (t208 == a1_2))) = true then (some (true, 0)) else (holiday_Is.l2 k4 l0 (l0.length : Int) x38_2 (wrap64 (x66_4 + 1)) (wrap64 (a1_0 - 1)) (wrap64 (a1_0 + 1)) a1_0 a1_1 a1_2 ((rd_T25 l0 x38_2).f0) ((rd_T25 l0 x38_2).f1) ((rd_T25 l0 x38_2).f2) ((rd_T25 l0 x38_2).f3))) else (holiday_Is.l2 k4 l0 (l0.length : Int) x38_2 (wrap64 (x66_4 + 1)) (wrap64 (a1_0 - 1)) (wrap64 (a1_0 + 1)) a1_0 a1_1 a1_2 ((rd_T25 l0 x38_2).f0) ((rd_T25 l0 x38_2).f1) ((rd_T25 l0 x38_2).f2) ((rd_T25 l0 x38_2).f3))) = some (r1, r2) := H
                  have A50 := AX A500
                  clear A500
                  by_cases c51 : t209 = 0
                  ·rw [if_pos c51] at H
                   have c51b0 : (t209 == 0) = true := beq_iff_eq.mpr c51
                   have c51b1 : (t209 != 0) = false := bne_eq_false_iff_eq.mpr c51
                   clear c51
                   by_cases c52 : (t206 == a1_0 && (t207 == a1_1 && (t208 == a1_2))) = true
                   ·rw [if_pos c52] at H
                    have c52b0 : (t206 == a1_0 && (t207 == a1_1 && (t208 == a1_2))) = true := c52
                    (try (have c52b1 : decide (t206 = a1_0 && (t207 == a1_1 && (t208 == a1_2))) = true := by simpa using c52))
                    (try (have c52b2 : (t206 == a1_0 && (t207 == a1_1 && (t208 == a1_2))) = true := by simpa using c52))
                    clear c52
                    simp only [Option.some.injEq, Prod.mk.injEq] at H
                    obtain ⟨rfl, rfl⟩ := H
                    have hnb53 := NB200_193.out
                    have hnc53 := NB193_200.out
                    have hnb54 := NB200_205.out
                    have hnc54 := NB205_200.out
                    obtain ⟨hcz55_0, hcz55_1, hcz55_2, hcz55_3⟩ := blkC4 (w := wr) BK200.out
                    obtain ⟨hfz55_0, hfz55_1, hfz55_2, hfz55_3⟩ := blkF4 BK200.out
                    go_wp2_with (first | ((with_reducible refine gate_callee (f := 11) rfl ?_); refine gL (some 72) Try.func11 #[.agg #[.int .i64 ((rd_T25 l0 x38_2).f0), .int .i64 ((rd_T25 l0 x38_2).f1), .int .i64 ((rd_T25 l0 x38_2).f2), .int .i64 ((rd_T25 l0 x38_2).f3)], .int .i64 (wrap64 (a1_0 - 1))] ?_; (with_reducible refine (holiday_On.calls k4 ((rd_T25 l0 x38_2).f0) ((rd_T25 l0 x38_2).f1) ((rd_T25 l0 x38_2).f2) ((rd_T25 l0 x38_2).f3) (wrap64 (a1_0 - 1)) t206 t207 t208 t209 _ A50.out).mono ?_); rintro e w56 ⟨rfl, hb⟩; refine ⟨_, rfl, ?_⟩; replace BK193 := AX (bkb BK193 hb); replace BK200 := AX (bkb BK200 hb); replace BK205 := AX (bkb BK205 hb); replace HB := AX (below_step bw hb); (try clear hb)) | ((with_reducible refine gate_dst (N := 16) rfl ?_); refine bx 16 #[.int .i64 0, .int .i64 0, .int .i64 0] 33 ?_; intro gb210 hg w57 hbox hb; have BK210 := AX (hbox); have GW210 := gwl (w := w) hg bw; have GE210 := GW210; have NB193_210 := nbl hg (bkn BK193); have NB210_193 := nbg hg (bkn BK193); have NB200_210 := nbl hg (bkn BK200); have NB210_200 := nbg hg (bkn BK200); have NB205_210 := nbl hg (bkn BK205); have NB210_205 := nbg hg (bkn BK205); replace BK193 := AX (bkb BK193 hb); replace BK200 := AX (bkb BK200 hb); replace BK205 := AX (bkb BK205 hb); replace HB := AX (below_step bw hb); clear hb hbox hg; have hnb58 := NB210_193.out; have hnc58 := NB193_210.out; have hnb59 := NB210_200.out; have hnc59 := NB200_210.out; have hnb60 := NB210_205.out; have hnc60 := NB205_210.out; obtain ⟨hcz61_0, hcz61_1, hcz61_2⟩ := blkC3 (w := w57) BK210.out; obtain ⟨hfz61_0, hfz61_1, hfz61_2⟩ := blkF3 BK210.out; have hnb62 := NB193_205.out; have hnc62 := NB205_193.out; obtain ⟨hcz63_0, hcz63_1, hcz63_2⟩ := blkC3 (w := w57) BK193.out; obtain ⟨hfz63_0, hfz63_1, hfz63_2⟩ := blkF3 BK193.out))
                    go_ret2
                    exact ⟨by first | rfl | (simp [errW_none, errW_some] <;> rfl) | (simp [*, errW_none, errW_some] <;> rfl), bw⟩
                   ·rw [if_neg c52] at H
                    have c52b0 : (t206 == a1_0 && (t207 == a1_1 && (t208 == a1_2))) = false := by simpa using c52
                    (try (have c52b1 : decide (t206 = a1_0 && (t207 == a1_1 && (t208 == a1_2))) = false := by simpa using c52))
                    (try (have c52b2 : (t206 == a1_0 && (t207 == a1_1 && (t208 == a1_2))) = false := by simpa using c52))
                    (try (have c52b3 : ¬ (t206 = a1_0 && (t207 == a1_1 && (t208 == a1_2))) := by simpa using c52))
                    clear c52
                    have H' := AX H
                    clear H
                    have hnb64 := NB200_193.out
                    have hnc64 := NB193_200.out
                    have hnb65 := NB200_205.out
                    have hnc65 := NB205_200.out
                    obtain ⟨hcz66_0, hcz66_1, hcz66_2, hcz66_3⟩ := blkC4 (w := wr) BK200.out
                    obtain ⟨hfz66_0, hfz66_1, hfz66_2, hfz66_3⟩ := blkF4 BK200.out
                    go_wp2_with (first | ((with_reducible refine gate_callee (f := 11) rfl ?_); refine gL (some 72) Try.func11 #[.agg #[.int .i64 ((rd_T25 l0 x38_2).f0), .int .i64 ((rd_T25 l0 x38_2).f1), .int .i64 ((rd_T25 l0 x38_2).f2), .int .i64 ((rd_T25 l0 x38_2).f3)], .int .i64 (wrap64 (a1_0 - 1))] ?_; (with_reducible refine (holiday_On.calls k4 ((rd_T25 l0 x38_2).f0) ((rd_T25 l0 x38_2).f1) ((rd_T25 l0 x38_2).f2) ((rd_T25 l0 x38_2).f3) (wrap64 (a1_0 - 1)) t206 t207 t208 t209 _ A50.out).mono ?_); rintro e w67 ⟨rfl, hb⟩; refine ⟨_, rfl, ?_⟩; replace BK193 := AX (bkb BK193 hb); replace BK200 := AX (bkb BK200 hb); replace BK205 := AX (bkb BK205 hb); replace HB := AX (below_step bw hb); (try clear hb)) | ((with_reducible refine gate_dst (N := 16) rfl ?_); refine bx 16 #[.int .i64 0, .int .i64 0, .int .i64 0] 33 ?_; intro gb210 hg w68 hbox hb; have BK210 := AX (hbox); have GW210 := gwl (w := w) hg bw; have GE210 := GW210; have NB193_210 := nbl hg (bkn BK193); have NB210_193 := nbg hg (bkn BK193); have NB200_210 := nbl hg (bkn BK200); have NB210_200 := nbg hg (bkn BK200); have NB205_210 := nbl hg (bkn BK205); have NB210_205 := nbg hg (bkn BK205); replace BK193 := AX (bkb BK193 hb); replace BK200 := AX (bkb BK200 hb); replace BK205 := AX (bkb BK205 hb); replace HB := AX (below_step bw hb); clear hb hbox hg; have hnb69 := NB210_193.out; have hnc69 := NB193_210.out; have hnb70 := NB210_200.out; have hnc70 := NB200_210.out; have hnb71 := NB210_205.out; have hnc71 := NB205_210.out; obtain ⟨hcz72_0, hcz72_1, hcz72_2⟩ := blkC3 (w := w68) BK210.out; obtain ⟨hfz72_0, hfz72_1, hfz72_2⟩ := blkF3 BK210.out; have hnb73 := NB193_205.out; have hnc73 := NB205_193.out; obtain ⟨hcz74_0, hcz74_1, hcz74_2⟩ := blkC3 (w := w68) BK193.out; obtain ⟨hfz74_0, hfz74_1, hfz74_2⟩ := blkF3 BK193.out))
                    go_roundg k4
                    case measure => have := HK1.out; have := HK2.out; have := HJ24.out; have := HK4.out; omega
                    case rel => exact ⟨(wrap64 (x66_4 + 1)), (by first | rfl | (simp; done) | (simp [*]; done)), H', ⟨by have := HK1.out; have := HK2.out; have := HJ24.out; have := HK4.out; omega⟩, ⟨by (with_reducible repeat first|refine blk_drewN ?_ _|refine blk_drew ?_|refine blk_alloc ?_ _); refine blk_far ?_ NB193_210.out _; (with_reducible repeat first|refine blk_drewN ?_ _|refine blk_drew ?_|refine blk_alloc ?_ _); refine blk_far ?_ NB193_210.out _; (with_reducible repeat first|refine blk_drewN ?_ _|refine blk_drew ?_|refine blk_alloc ?_ _); refine blk_far ?_ NB193_210.out _; (with_reducible repeat first|refine blk_drewN ?_ _|refine blk_drew ?_|refine blk_alloc ?_ _); exact BK193.out⟩, ⟨by (with_reducible repeat first|refine blk_drewN ?_ _|refine blk_drew ?_|refine blk_alloc ?_ _); refine blk_far ?_ NB200_210.out _; (with_reducible repeat first|refine blk_drewN ?_ _|refine blk_drew ?_|refine blk_alloc ?_ _); refine blk_far ?_ NB200_210.out _; (with_reducible repeat first|refine blk_drewN ?_ _|refine blk_drew ?_|refine blk_alloc ?_ _); refine blk_far ?_ NB200_210.out _; (with_reducible repeat first|refine blk_drewN ?_ _|refine blk_drew ?_|refine blk_alloc ?_ _); exact BK200.out⟩, ⟨by (with_reducible repeat first|refine blk_drewN ?_ _|refine blk_drew ?_|refine blk_alloc ?_ _); refine blk_far ?_ NB205_210.out _; (with_reducible repeat first|refine blk_drewN ?_ _|refine blk_drew ?_|refine blk_alloc ?_ _); refine blk_far ?_ NB205_210.out _; (with_reducible repeat first|refine blk_drewN ?_ _|refine blk_drew ?_|refine blk_alloc ?_ _); refine blk_far ?_ NB205_210.out _; (with_reducible repeat first|refine blk_drewN ?_ _|refine blk_drew ?_|refine blk_alloc ?_ _); exact BK205.out⟩, ⟨bw⟩⟩
                  ·rw [if_neg c51] at H
                   have c51b0 : (t209 == 0) = false := beq_eq_false_iff_ne.mpr c51
                   have c51b1 : (t209 != 0) = true := bne_iff_ne.mpr c51
                   have H' := AX H
                   clear H
                   have hnb75 := NB200_193.out
                   have hnc75 := NB193_200.out
                   have hnb76 := NB200_205.out
                   have hnc76 := NB205_200.out
                   obtain ⟨hcz77_0, hcz77_1, hcz77_2, hcz77_3⟩ := blkC4 (w := wr) BK200.out
                   obtain ⟨hfz77_0, hfz77_1, hfz77_2, hfz77_3⟩ := blkF4 BK200.out
                   go_wp2_with (first | ((with_reducible refine gate_callee (f := 11) rfl ?_); refine gL (some 72) Try.func11 #[.agg #[.int .i64 ((rd_T25 l0 x38_2).f0), .int .i64 ((rd_T25 l0 x38_2).f1), .int .i64 ((rd_T25 l0 x38_2).f2), .int .i64 ((rd_T25 l0 x38_2).f3)], .int .i64 (wrap64 (a1_0 - 1))] ?_; (with_reducible refine (holiday_On.calls k4 ((rd_T25 l0 x38_2).f0) ((rd_T25 l0 x38_2).f1) ((rd_T25 l0 x38_2).f2) ((rd_T25 l0 x38_2).f3) (wrap64 (a1_0 - 1)) t206 t207 t208 t209 _ A50.out).mono ?_); rintro e w78 ⟨rfl, hb⟩; refine ⟨_, rfl, ?_⟩; replace BK193 := AX (bkb BK193 hb); replace BK200 := AX (bkb BK200 hb); replace BK205 := AX (bkb BK205 hb); replace HB := AX (below_step bw hb); (try clear hb)) | ((with_reducible refine gate_dst (N := 16) rfl ?_); refine bx 16 #[.int .i64 0, .int .i64 0, .int .i64 0] 33 ?_; intro gb210 hg w79 hbox hb; have BK210 := AX (hbox); have GW210 := gwl (w := w) hg bw; have GE210 := GW210; have NB193_210 := nbl hg (bkn BK193); have NB210_193 := nbg hg (bkn BK193); have NB200_210 := nbl hg (bkn BK200); have NB210_200 := nbg hg (bkn BK200); have NB205_210 := nbl hg (bkn BK205); have NB210_205 := nbg hg (bkn BK205); replace BK193 := AX (bkb BK193 hb); replace BK200 := AX (bkb BK200 hb); replace BK205 := AX (bkb BK205 hb); replace HB := AX (below_step bw hb); clear hb hbox hg; have hnb80 := NB210_193.out; have hnc80 := NB193_210.out; have hnb81 := NB210_200.out; have hnc81 := NB200_210.out; have hnb82 := NB210_205.out; have hnc82 := NB205_210.out; obtain ⟨hcz83_0, hcz83_1, hcz83_2⟩ := blkC3 (w := w79) BK210.out; obtain ⟨hfz83_0, hfz83_1, hfz83_2⟩ := blkF3 BK210.out))
                   go_roundg k4
                   case measure => have := HK1.out; have := HK2.out; have := HJ24.out; have := HK4.out; omega
                   case rel => exact ⟨(wrap64 (x66_4 + 1)), (by first | rfl | (simp; done) | (simp [*]; done)), H', ⟨by have := HK1.out; have := HK2.out; have := HJ24.out; have := HK4.out; omega⟩, ⟨by (with_reducible repeat first|refine blk_drewN ?_ _|refine blk_drew ?_|refine blk_alloc ?_ _); refine blk_far ?_ NB193_210.out _; (with_reducible repeat first|refine blk_drewN ?_ _|refine blk_drew ?_|refine blk_alloc ?_ _); refine blk_far ?_ NB193_210.out _; (with_reducible repeat first|refine blk_drewN ?_ _|refine blk_drew ?_|refine blk_alloc ?_ _); refine blk_far ?_ NB193_210.out _; (with_reducible repeat first|refine blk_drewN ?_ _|refine blk_drew ?_|refine blk_alloc ?_ _); exact BK193.out⟩, ⟨by (with_reducible repeat first|refine blk_drewN ?_ _|refine blk_drew ?_|refine blk_alloc ?_ _); refine blk_far ?_ NB200_210.out _; (with_reducible repeat first|refine blk_drewN ?_ _|refine blk_drew ?_|refine blk_alloc ?_ _); refine blk_far ?_ NB200_210.out _; (with_reducible repeat first|refine blk_drewN ?_ _|refine blk_drew ?_|refine blk_alloc ?_ _); refine blk_far ?_ NB200_210.out _; (with_reducible repeat first|refine blk_drewN ?_ _|refine blk_drew ?_|refine blk_alloc ?_ _); exact BK200.out⟩, ⟨by (with_reducible repeat first|refine blk_drewN ?_ _|refine blk_drew ?_|refine blk_alloc ?_ _); refine blk_far ?_ NB205_210.out _; (with_reducible repeat first|refine blk_drewN ?_ _|refine blk_drew ?_|refine blk_alloc ?_ _); refine blk_far ?_ NB205_210.out _; (with_reducible repeat first|refine blk_drewN ?_ _|refine blk_drew ?_|refine blk_alloc ?_ _); refine blk_far ?_ NB205_210.out _; (with_reducible repeat first|refine blk_drewN ?_ _|refine blk_drew ?_|refine blk_alloc ?_ _); exact BK205.out⟩, ⟨bw⟩⟩
                 ·rw [if_neg c49] at H
                  have c49b0 : (x66_4 == 0) = false := beq_eq_false_iff_ne.mpr c49
                  have c49b1 : (x66_4 != 0) = true := bne_iff_ne.mpr c49
                  by_cases c84 : x66_4 = 1
                  ·rw [if_pos c84] at H
                   have ixc84 : ∀ w_ : World, (Instr.index 61 (.agg #[.int .i64 (wrap64 (a1_0 - 1)), .int .i64 (wrap64 (a1_0 + 1))]) (.int .i64 x66_4)).run Try.prog w_ = .ok (.int .i64 (wrap64 (a1_0 + 1))) w_ := fun w_ => by rw [c84]; kernel_rfl
                   have c84b0 : (x66_4 == 1) = true := beq_iff_eq.mpr c84
                   have c84b1 : (x66_4 != 1) = false := bne_eq_false_iff_eq.mpr c84
                   clear c84
                   replace H := Option.bind_eq_some_iff.mp H
                   obtain ⟨⟨t211, t212, t213, t214⟩, A850, H⟩ := H
                   replace H : (if t214 = 0 then (if (t211 == a1_0 && (t212 == a1_1 && (t213 == a1_2))) = true then (some (true, 0)) else (holiday_Is.l2 k4 l0 (l0.length : Int) x38_2 (wrap64 (x66_4 + 1)) (wrap64 (a1_0 - 1)) (wrap64 (a1_0 + 1)) a1_0 a1_1 a1_2 ((rd_T25 l0 x38_2).f0) ((rd_T25 l0 x38_2).f1) ((rd_T25 l0 x38_2).f2) ((rd_T25 l0 x38_2).f3))) else (holiday_Is.l2 k4 l0 (l0.length : Int) x38_2 (wrap64 (x66_4 + 1)) (wrap64 (a1_0 - 1)) (wrap64 (a1_0 + 1)) a1_0 a1_1 a1_2 ((rd_T25 l0 x38_2).f0) ((rd_T25 l0 x38_2).f1) ((rd_T25 l0 x38_2).f2) ((rd_T25 l0 x38_2).f3))) = some (r1, r2) := H
                   have A85 := AX A850
                   clear A850
                   by_cases c86 : t214 = 0
                   ·rw [if_pos c86] at H
                    have c86b0 : (t214 == 0) = true := beq_iff_eq.mpr c86
                    have c86b1 : (t214 != 0) = false := bne_eq_false_iff_eq.mpr c86
                    clear c86
                    by_cases c87 : (t211 == a1_0 && (t212 == a1_1 && (t213 == a1_2))) = true
                    ·rw [if_pos c87] at H
                     have c87b0 : (t211 == a1_0 && (t212 == a1_1 && (t213 == a1_2))) = true := c87
                     (try (have c87b1 : decide (t211 = a1_0 && (t212 == a1_1 && (t213 == a1_2))) = true := by simpa using c87))
                     (try (have c87b2 : (t211 == a1_0 && (t212 == a1_1 && (t213 == a1_2))) = true := by simpa using c87))
                     clear c87
                     simp only [Option.some.injEq, Prod.mk.injEq] at H
                     obtain ⟨rfl, rfl⟩ := H
                     have hnb88 := NB200_193.out
                     have hnc88 := NB193_200.out
                     have hnb89 := NB200_205.out
                     have hnc89 := NB205_200.out
                     obtain ⟨hcz90_0, hcz90_1, hcz90_2, hcz90_3⟩ := blkC4 (w := wr) BK200.out
                     obtain ⟨hfz90_0, hfz90_1, hfz90_2, hfz90_3⟩ := blkF4 BK200.out
                     go_wp2_with (first | ((with_reducible refine gate_callee (f := 11) rfl ?_); refine gL (some 72) Try.func11 #[.agg #[.int .i64 ((rd_T25 l0 x38_2).f0), .int .i64 ((rd_T25 l0 x38_2).f1), .int .i64 ((rd_T25 l0 x38_2).f2), .int .i64 ((rd_T25 l0 x38_2).f3)], .int .i64 (wrap64 (a1_0 + 1))] ?_; (with_reducible refine (holiday_On.calls k4 ((rd_T25 l0 x38_2).f0) ((rd_T25 l0 x38_2).f1) ((rd_T25 l0 x38_2).f2) ((rd_T25 l0 x38_2).f3) (wrap64 (a1_0 + 1)) t211 t212 t213 t214 _ A85.out).mono ?_); rintro e w91 ⟨rfl, hb⟩; refine ⟨_, rfl, ?_⟩; replace BK193 := AX (bkb BK193 hb); replace BK200 := AX (bkb BK200 hb); replace BK205 := AX (bkb BK205 hb); replace HB := AX (below_step bw hb); (try clear hb)) | ((with_reducible refine gate_dst (N := 16) rfl ?_); refine bx 16 #[.int .i64 0, .int .i64 0, .int .i64 0] 33 ?_; intro gb215 hg w92 hbox hb; have BK215 := AX (hbox); have GW215 := gwl (w := w) hg bw; have GE215 := GW215; have NB193_215 := nbl hg (bkn BK193); have NB215_193 := nbg hg (bkn BK193); have NB200_215 := nbl hg (bkn BK200); have NB215_200 := nbg hg (bkn BK200); have NB205_215 := nbl hg (bkn BK205); have NB215_205 := nbg hg (bkn BK205); replace BK193 := AX (bkb BK193 hb); replace BK200 := AX (bkb BK200 hb); replace BK205 := AX (bkb BK205 hb); replace HB := AX (below_step bw hb); clear hb hbox hg; have hnb93 := NB215_193.out; have hnc93 := NB193_215.out; have hnb94 := NB215_200.out; have hnc94 := NB200_215.out; have hnb95 := NB215_205.out; have hnc95 := NB205_215.out; obtain ⟨hcz96_0, hcz96_1, hcz96_2⟩ := blkC3 (w := w92) BK215.out; obtain ⟨hfz96_0, hfz96_1, hfz96_2⟩ := blkF3 BK215.out; have hnb97 := NB193_205.out; have hnc97 := NB205_193.out; obtain ⟨hcz98_0, hcz98_1, hcz98_2⟩ := blkC3 (w := w92) BK193.out; obtain ⟨hfz98_0, hfz98_1, hfz98_2⟩ := blkF3 BK193.out))
                     go_ret2
                     exact ⟨by first | rfl | (simp [errW_none, errW_some] <;> rfl) | (simp [*, errW_none, errW_some] <;> rfl), bw⟩
                    ·rw [if_neg c87] at H
                     have c87b0 : (t211 == a1_0 && (t212 == a1_1 && (t213 == a1_2))) = false := by simpa using c87
                     (try (have c87b1 : decide (t211 = a1_0 && (t212 == a1_1 && (t213 == a1_2))) = false := by simpa using c87))
                     (try (have c87b2 : (t211 == a1_0 && (t212 == a1_1 && (t213 == a1_2))) = false := by simpa using c87))
                     (try (have c87b3 : ¬ (t211 = a1_0 && (t212 == a1_1 && (t213 == a1_2))) := by simpa using c87))
                     clear c87
                     have H' := AX H
                     clear H
                     have hnb99 := NB200_193.out
                     have hnc99 := NB193_200.out
                     have hnb100 := NB200_205.out
                     have hnc100 := NB205_200.out
                     obtain ⟨hcz101_0, hcz101_1, hcz101_2, hcz101_3⟩ := blkC4 (w := wr) BK200.out
                     obtain ⟨hfz101_0, hfz101_1, hfz101_2, hfz101_3⟩ := blkF4 BK200.out
                     go_wp2_with (first | ((with_reducible refine gate_callee (f := 11) rfl ?_); refine gL (some 72) Try.func11 #[.agg #[.int .i64 ((rd_T25 l0 x38_2).f0), .int .i64 ((rd_T25 l0 x38_2).f1), .int .i64 ((rd_T25 l0 x38_2).f2), .int .i64 ((rd_T25 l0 x38_2).f3)], .int .i64 (wrap64 (a1_0 + 1))] ?_; (with_reducible refine (holiday_On.calls k4 ((rd_T25 l0 x38_2).f0) ((rd_T25 l0 x38_2).f1) ((rd_T25 l0 x38_2).f2) ((rd_T25 l0 x38_2).f3) (wrap64 (a1_0 + 1)) t211 t212 t213 t214 _ A85.out).mono ?_); rintro e w102 ⟨rfl, hb⟩; refine ⟨_, rfl, ?_⟩; replace BK193 := AX (bkb BK193 hb); replace BK200 := AX (bkb BK200 hb); replace BK205 := AX (bkb BK205 hb); replace HB := AX (below_step bw hb); (try clear hb)) | ((with_reducible refine gate_dst (N := 16) rfl ?_); refine bx 16 #[.int .i64 0, .int .i64 0, .int .i64 0] 33 ?_; intro gb215 hg w103 hbox hb; have BK215 := AX (hbox); have GW215 := gwl (w := w) hg bw; have GE215 := GW215; have NB193_215 := nbl hg (bkn BK193); have NB215_193 := nbg hg (bkn BK193); have NB200_215 := nbl hg (bkn BK200); have NB215_200 := nbg hg (bkn BK200); have NB205_215 := nbl hg (bkn BK205); have NB215_205 := nbg hg (bkn BK205); replace BK193 := AX (bkb BK193 hb); replace BK200 := AX (bkb BK200 hb); replace BK205 := AX (bkb BK205 hb); replace HB := AX (below_step bw hb); clear hb hbox hg; have hnb104 := NB215_193.out; have hnc104 := NB193_215.out; have hnb105 := NB215_200.out; have hnc105 := NB200_215.out; have hnb106 := NB215_205.out; have hnc106 := NB205_215.out; obtain ⟨hcz107_0, hcz107_1, hcz107_2⟩ := blkC3 (w := w103) BK215.out; obtain ⟨hfz107_0, hfz107_1, hfz107_2⟩ := blkF3 BK215.out; have hnb108 := NB193_205.out; have hnc108 := NB205_193.out; obtain ⟨hcz109_0, hcz109_1, hcz109_2⟩ := blkC3 (w := w103) BK193.out; obtain ⟨hfz109_0, hfz109_1, hfz109_2⟩ := blkF3 BK193.out))
                     go_roundg k4
                     case measure => have := HK1.out; have := HK2.out; have := HJ24.out; have := HK4.out; omega
                     case rel => exact ⟨(wrap64 (x66_4 + 1)), (by first | rfl | (simp; done) | (simp [*]; done)), H', ⟨by have := HK1.out; have := HK2.out; have := HJ24.out; have := HK4.out; omega⟩, ⟨by (with_reducible repeat first|refine blk_drewN ?_ _|refine blk_drew ?_|refine blk_alloc ?_ _); refine blk_far ?_ NB193_215.out _; (with_reducible repeat first|refine blk_drewN ?_ _|refine blk_drew ?_|refine blk_alloc ?_ _); refine blk_far ?_ NB193_215.out _; (with_reducible repeat first|refine blk_drewN ?_ _|refine blk_drew ?_|refine blk_alloc ?_ _); refine blk_far ?_ NB193_215.out _; (with_reducible repeat first|refine blk_drewN ?_ _|refine blk_drew ?_|refine blk_alloc ?_ _); exact BK193.out⟩, ⟨by (with_reducible repeat first|refine blk_drewN ?_ _|refine blk_drew ?_|refine blk_alloc ?_ _); refine blk_far ?_ NB200_215.out _; (with_reducible repeat first|refine blk_drewN ?_ _|refine blk_drew ?_|refine blk_alloc ?_ _); refine blk_far ?_ NB200_215.out _; (with_reducible repeat first|refine blk_drewN ?_ _|refine blk_drew ?_|refine blk_alloc ?_ _); refine blk_far ?_ NB200_215.out _; (with_reducible repeat first|refine blk_drewN ?_ _|refine blk_drew ?_|refine blk_alloc ?_ _); exact BK200.out⟩, ⟨by (with_reducible repeat first|refine blk_drewN ?_ _|refine blk_drew ?_|refine blk_alloc ?_ _); refine blk_far ?_ NB205_215.out _; (with_reducible repeat first|refine blk_drewN ?_ _|refine blk_drew ?_|refine blk_alloc ?_ _); refine blk_far ?_ NB205_215.out _; (with_reducible repeat first|refine blk_drewN ?_ _|refine blk_drew ?_|refine blk_alloc ?_ _); refine blk_far ?_ NB205_215.out _; (with_reducible repeat first|refine blk_drewN ?_ _|refine blk_drew ?_|refine blk_alloc ?_ _); exact BK205.out⟩, ⟨bw⟩⟩
                   ·rw [if_neg c86] at H
                    have c86b0 : (t214 == 0) = false := beq_eq_false_iff_ne.mpr c86
                    have c86b1 : (t214 != 0) = true := bne_iff_ne.mpr c86
                    have H' := AX H
                    clear H
                    have hnb110 := NB200_193.out
                    have hnc110 := NB193_200.out
                    have hnb111 := NB200_205.out
                    have hnc111 := NB205_200.out
                    obtain ⟨hcz112_0, hcz112_1, hcz112_2, hcz112_3⟩ := blkC4 (w := wr) BK200.out
                    obtain ⟨hfz112_0, hfz112_1, hfz112_2, hfz112_3⟩ := blkF4 BK200.out
                    go_wp2_with (first | ((with_reducible refine gate_callee (f := 11) rfl ?_); refine gL (some 72) Try.func11 #[.agg #[.int .i64 ((rd_T25 l0 x38_2).f0), .int .i64 ((rd_T25 l0 x38_2).f1), .int .i64 ((rd_T25 l0 x38_2).f2), .int .i64 ((rd_T25 l0 x38_2).f3)], .int .i64 (wrap64 (a1_0 + 1))] ?_; (with_reducible refine (holiday_On.calls k4 ((rd_T25 l0 x38_2).f0) ((rd_T25 l0 x38_2).f1) ((rd_T25 l0 x38_2).f2) ((rd_T25 l0 x38_2).f3) (wrap64 (a1_0 + 1)) t211 t212 t213 t214 _ A85.out).mono ?_); rintro e w113 ⟨rfl, hb⟩; refine ⟨_, rfl, ?_⟩; replace BK193 := AX (bkb BK193 hb); replace BK200 := AX (bkb BK200 hb); replace BK205 := AX (bkb BK205 hb); replace HB := AX (below_step bw hb); (try clear hb)) | ((with_reducible refine gate_dst (N := 16) rfl ?_); refine bx 16 #[.int .i64 0, .int .i64 0, .int .i64 0] 33 ?_; intro gb215 hg w114 hbox hb; have BK215 := AX (hbox); have GW215 := gwl (w := w) hg bw; have GE215 := GW215; have NB193_215 := nbl hg (bkn BK193); have NB215_193 := nbg hg (bkn BK193); have NB200_215 := nbl hg (bkn BK200); have NB215_200 := nbg hg (bkn BK200); have NB205_215 := nbl hg (bkn BK205); have NB215_205 := nbg hg (bkn BK205); replace BK193 := AX (bkb BK193 hb); replace BK200 := AX (bkb BK200 hb); replace BK205 := AX (bkb BK205 hb); replace HB := AX (below_step bw hb); clear hb hbox hg; have hnb115 := NB215_193.out; have hnc115 := NB193_215.out; have hnb116 := NB215_200.out; have hnc116 := NB200_215.out; have hnb117 := NB215_205.out; have hnc117 := NB205_215.out; obtain ⟨hcz118_0, hcz118_1, hcz118_2⟩ := blkC3 (w := w114) BK215.out; obtain ⟨hfz118_0, hfz118_1, hfz118_2⟩ := blkF3 BK215.out))
                    go_roundg k4
                    case measure => have := HK1.out; have := HK2.out; have := HJ24.out; have := HK4.out; omega
                    case rel => exact ⟨(wrap64 (x66_4 + 1)), (by first | rfl | (simp; done) | (simp [*]; done)), H', ⟨by have := HK1.out; have := HK2.out; have := HJ24.out; have := HK4.out; omega⟩, ⟨by (with_reducible repeat first|refine blk_drewN ?_ _|refine blk_drew ?_|refine blk_alloc ?_ _); refine blk_far ?_ NB193_215.out _; (with_reducible repeat first|refine blk_drewN ?_ _|refine blk_drew ?_|refine blk_alloc ?_ _); refine blk_far ?_ NB193_215.out _; (with_reducible repeat first|refine blk_drewN ?_ _|refine blk_drew ?_|refine blk_alloc ?_ _); refine blk_far ?_ NB193_215.out _; (with_reducible repeat first|refine blk_drewN ?_ _|refine blk_drew ?_|refine blk_alloc ?_ _); exact BK193.out⟩, ⟨by (with_reducible repeat first|refine blk_drewN ?_ _|refine blk_drew ?_|refine blk_alloc ?_ _); refine blk_far ?_ NB200_215.out _; (with_reducible repeat first|refine blk_drewN ?_ _|refine blk_drew ?_|refine blk_alloc ?_ _); refine blk_far ?_ NB200_215.out _; (with_reducible repeat first|refine blk_drewN ?_ _|refine blk_drew ?_|refine blk_alloc ?_ _); refine blk_far ?_ NB200_215.out _; (with_reducible repeat first|refine blk_drewN ?_ _|refine blk_drew ?_|refine blk_alloc ?_ _); exact BK200.out⟩, ⟨by (with_reducible repeat first|refine blk_drewN ?_ _|refine blk_drew ?_|refine blk_alloc ?_ _); refine blk_far ?_ NB205_215.out _; (with_reducible repeat first|refine blk_drewN ?_ _|refine blk_drew ?_|refine blk_alloc ?_ _); refine blk_far ?_ NB205_215.out _; (with_reducible repeat first|refine blk_drewN ?_ _|refine blk_drew ?_|refine blk_alloc ?_ _); refine blk_far ?_ NB205_215.out _; (with_reducible repeat first|refine blk_drewN ?_ _|refine blk_drew ?_|refine blk_alloc ?_ _); exact BK205.out⟩, ⟨bw⟩⟩
                  ·rw [if_neg c84] at H
                   exact absurd H (by simp)
                ·rw [if_neg c48] at H
                 have c48b0 : decide (x66_4 < 2) = false := decide_eq_false c48
                 clear c48
                 have H' := AX H
                 clear H
                 go_wp2
                 go_roundg k4
                 case measure => have := HK1.out; have := HK2.out; have := HJ24.out; have := HK4.out; omega
                 case rel => exact ⟨(wrap64 (x38_2 + 1)), (by first | rfl | (simp; done) | (simp [*]; done)), H', ⟨by have := HK1.out; have := HK2.out; have := HJ24.out; have := HK4.out; omega⟩, ⟨bkn BK193⟩, ⟨bw⟩⟩
             ·rw [if_neg c42] at H
              have c42b0 : (((rd_T25 l0 x38_2).f0) == 3) = false := beq_eq_false_iff_ne.mpr c42
              have c42b1 : (((rd_T25 l0 x38_2).f0) != 3) = true := bne_iff_ne.mpr c42
              have H' := AX H
              clear H
              have hnb119 := NB200_193.out
              have hnc119 := NB193_200.out
              have hnb120 := NB200_205.out
              have hnc120 := NB205_200.out
              obtain ⟨hcz121_0, hcz121_1, hcz121_2, hcz121_3⟩ := blkC4 (w := wc) BK200.out
              obtain ⟨hfz121_0, hfz121_1, hfz121_2, hfz121_3⟩ := blkF4 BK200.out
              go_wp2
              go_roundg kj24
              case measure => have := HK1.out; have := HK2.out; have := HJ24.out; omega
              case rel => exact ⟨(wrap64 (x38_2 + 1)), (by first | rfl | (simp; done) | (simp [*]; done)), H', ⟨by have := HK1.out; have := HK2.out; have := HJ24.out; omega⟩, ⟨bkn BK193⟩, ⟨bw⟩⟩
         ·rw [if_neg c23] at H
          exact absurd H (by simp)
        ·rw [if_neg c22] at H
         exact absurd H (by simp)
       ·rw [if_neg c21] at H
        have c21b0 : decide (x38_2 < (l0.length : Int)) = false := decide_eq_false c21
        clear c21
        simp only [Option.some.injEq, Prod.mk.injEq] at H
        obtain ⟨rfl, rfl⟩ := H
        go_wp2
        go_ret2
        exact ⟨by first | rfl | (simp [errW_none, errW_some] <;> rfl) | (simp [*, errW_none, errW_some] <;> rfl), bw⟩
    ·rw [if_neg c18] at H
     have c18b0 : (t198 == 0) = false := beq_eq_false_iff_ne.mpr c18
     have c18b1 : (t198 != 0) = true := bne_iff_ne.mpr c18
     simp only [Option.some.injEq, Prod.mk.injEq] at H
     obtain ⟨rfl, rfl⟩ := H
     obtain ⟨hcz122_0, hcz122_1, hcz122_2⟩ := blkC3 (w := wr) BK193.out
     obtain ⟨hfz122_0, hfz122_1, hfz122_2⟩ := blkF3 BK193.out
     go_wp2_with (first | ((with_reducible refine gate_callee (f := 32) rfl ?_); refine gL (some 30) Try.func32 #[.agg #[.int .i64 a1_0, .int .i64 a1_1, .int .i64 a1_2]] ?_; (with_reducible refine (civil_Days.calls a1_0 a1_1 a1_2 t197 t198 _ A17.out).mono ?_); rintro e w123 ⟨rfl, hb⟩; refine ⟨_, rfl, ?_⟩; replace BK193 := AX (bkb BK193 hb); replace HB := AX (below_step bw hb); (try clear hb)))
     go_ret2
     exact ⟨by first | rfl | (simp [errW_none, errW_some] <;> rfl) | (simp [*, errW_none, errW_some] <;> rfl), bw⟩

end Go.Proofs.Ytegedhnbmclbkaa.PX
