/- Functions of the program as plain Lean functions, each with a proof that the call in the machine answers just what the plain function says; condition: the plain function answers at all. -/
import Derived.Test.YtkggjjggcbcdiaaPXx0
import Derived.Test.YtkggjjggcbcdiaaPXx1
import Derived.Test.YtkggjjggcbcdiaaPXx3
import Derived.Test.YtkggjjggcbcdiaaPXx4
import Derived.Test.YtkggjjggcbcdiaaPXx5
namespace Go.Proofs.Ytkggjjggcbcdiaa.PX
open Go.RowKit Go.Proofs.YtkggjjggcbcdiaaW.PrintWords Go.Proofs.YtkggjjggcbcdiaaW.PrintLast Go.Proofs.YtkggjjggcbcdiaaW.PrintMore
attribute [local go_sem] max2_int min2_int max_two min_two max_three min_three max_four min_four   -- for this text's walks alone
set_option linter.unusedVariables false
set_option linter.unusedSimpArgs false

attribute [local go_sem high] eqA24
/-! ### holiday_Is: function 39 -/
mutual
def holiday_Is.l0 : Nat → List (S65) → List (S65) → Int → Int → Int → Int → Int → Option (Bool × Int)
 | 0, _, _, _, _, _, _, _ => none
 | k + 1, x0, x18, x19, x20, x150000, x150001, x150002 => if x20 < x19 then (if 0 ≤ x20 then (if x20 < (x18.length : Int) then ((holiday_Check.f k ((rd_T65 x18 x20).f0) ((rd_T65 x18 x20).f1) ((rd_T65 x18 x20).f2) ((rd_T65 x18 x20).f3)).bind fun t152 => (if t152 = 0 then (holiday_Is.l0 k x0 x18 x19 (wrap64 (x20 + 1)) x150000 x150001 x150002) else (some (false, 8)))) else (none)) else (none)) else ((civil_Days.f x150000 x150001 x150002).bind fun bt153 => (if bt153.2 = 0 then (holiday_Is.l1 k x0 (x0.length : Int) 0 x150000 x150001 x150002) else (some (false, bt153.2))))
def holiday_Is.l1 : Nat → List (S65) → Int → Int → Int → Int → Int → Option (Bool × Int)
 | 0, _, _, _, _, _, _ => none
 | k + 1, x36, x37, x38, x150000, x150001, x150002 => if x38 < x37 then (if 0 ≤ x38 then (if x38 < (x36.length : Int) then ((holiday_On.f k ((rd_T65 x36 x38).f0) ((rd_T65 x36 x38).f1) ((rd_T65 x36 x38).f2) ((rd_T65 x36 x38).f3) x150000).bind fun bt157 => (if bt157.2.2.2 = 0 then (holiday_Is.j2 k x36 x37 x38 (bt157.1 == x150000 && (bt157.2.1 == x150001 && (bt157.2.2.1 == x150002))) x150000 x150001 x150002 ((rd_T65 x36 x38).f0) ((rd_T65 x36 x38).f1) ((rd_T65 x36 x38).f2) ((rd_T65 x36 x38).f3)) else (holiday_Is.j2 k x36 x37 x38 false x150000 x150001 x150002 ((rd_T65 x36 x38).f0) ((rd_T65 x36 x38).f1) ((rd_T65 x36 x38).f2) ((rd_T65 x36 x38).f3)))) else (none)) else (none)) else (some (false, 0))
def holiday_Is.j2 : Nat → List (S65) → Int → Int → Bool → Int → Int → Int → Int → Int → Int → Int → Option (Bool × Int)
 | 0, _, _, _, _, _, _, _, _, _, _, _ => none
 | k + 1, x36, x37, x38, x55, x150000, x150001, x150002, x157000, x157001, x157002, x157003 => if x55 = true then (some (true, 0)) else (if x157000 = 3 then (holiday_Is.l2 k x36 x37 x38 0 (wrap64 (x150000 - 1)) (wrap64 (x150000 + 1)) x150000 x150001 x150002 x157000 x157001 x157002 x157003) else (holiday_Is.l1 k x36 x37 (wrap64 (x38 + 1)) x150000 x150001 x150002))
def holiday_Is.l2 : Nat → List (S65) → Int → Int → Int → Int → Int → Int → Int → Int → Int → Int → Int → Int → Option (Bool × Int)
 | 0, _, _, _, _, _, _, _, _, _, _, _, _, _ => none
 | k + 1, x36, x37, x38, x66, x900, x901, x150000, x150001, x150002, x157000, x157001, x157002, x157003 => if x66 < 2 then (if x66 = 0 then ((holiday_On.f k x157000 x157001 x157002 x157003 x900).bind fun bt162 => (if bt162.2.2.2 = 0 then (if (bt162.1 == x150000 && (bt162.2.1 == x150001 && (bt162.2.2.1 == x150002))) = true then (some (true, 0)) else (holiday_Is.l2 k x36 x37 x38 (wrap64 (x66 + 1)) x900 x901 x150000 x150001 x150002 x157000 x157001 x157002 x157003)) else (holiday_Is.l2 k x36 x37 x38 (wrap64 (x66 + 1)) x900 x901 x150000 x150001 x150002 x157000 x157001 x157002 x157003))) else (if x66 = 1 then ((holiday_On.f k x157000 x157001 x157002 x157003 x901).bind fun bt167 => (if bt167.2.2.2 = 0 then (if (bt167.1 == x150000 && (bt167.2.1 == x150001 && (bt167.2.2.1 == x150002))) = true then (some (true, 0)) else (holiday_Is.l2 k x36 x37 x38 (wrap64 (x66 + 1)) x900 x901 x150000 x150001 x150002 x157000 x157001 x157002 x157003)) else (holiday_Is.l2 k x36 x37 x38 (wrap64 (x66 + 1)) x900 x901 x150000 x150001 x150002 x157000 x157001 x157002 x157003))) else (none))) else (holiday_Is.l1 k x36 x37 (wrap64 (x38 + 1)) x150000 x150001 x150002)
end
def holiday_Is.f (k : Nat) (l0 : List (S65)) (a1_0 : Int) (a1_1 : Int) (a1_2 : Int) : Option (Bool × Int) := holiday_Is.l0 k l0 l0 (l0.length : Int) 0 a1_0 a1_1 a1_2
theorem holiday_Is.mono_l : ∀ k, (∀ y0 y1 y2 y3 y4 y5 y6, LeO (holiday_Is.l0 k y0 y1 y2 y3 y4 y5 y6) (holiday_Is.l0 (k + 1) y0 y1 y2 y3 y4 y5 y6)) ∧ (∀ y0 y1 y2 y3 y4 y5, LeO (holiday_Is.l1 k y0 y1 y2 y3 y4 y5) (holiday_Is.l1 (k + 1) y0 y1 y2 y3 y4 y5)) ∧ (∀ y0 y1 y2 y3 y4 y5 y6 y7 y8 y9 y10, LeO (holiday_Is.j2 k y0 y1 y2 y3 y4 y5 y6 y7 y8 y9 y10) (holiday_Is.j2 (k + 1) y0 y1 y2 y3 y4 y5 y6 y7 y8 y9 y10)) ∧ (∀ y0 y1 y2 y3 y4 y5 y6 y7 y8 y9 y10 y11 y12, LeO (holiday_Is.l2 k y0 y1 y2 y3 y4 y5 y6 y7 y8 y9 y10 y11 y12) (holiday_Is.l2 (k + 1) y0 y1 y2 y3 y4 y5 y6 y7 y8 y9 y10 y11 y12))
 | 0 => ⟨fun _ _ _ _ _ _ _ r h => by simp [holiday_Is.l0] at h, fun _ _ _ _ _ _ r h => by simp [holiday_Is.l1] at h, fun _ _ _ _ _ _ _ _ _ _ _ r h => by simp [holiday_Is.j2] at h, fun _ _ _ _ _ _ _ _ _ _ _ _ _ r h => by simp [holiday_Is.l2] at h⟩
 | k + 1 => by
  obtain ⟨ih0, ih1, ih2, ih3⟩ := holiday_Is.mono_l k
  refine ⟨?_, ?_, ?_, ?_⟩
  ·intro y0 y1 y2 y3 y4 y5 y6
   unfold holiday_Is.l0
   repeat' first
   | (with_reducible exact ih0 _ _ _ _ _ _ _)
   | (with_reducible exact ih1 _ _ _ _ _ _)
   | (with_reducible exact ih2 _ _ _ _ _ _ _ _ _ _ _)
   | (with_reducible exact ih3 _ _ _ _ _ _ _ _ _ _ _ _ _)
   | (with_reducible exact holiday_Check.mono _ _ _ _ _)
   | (with_reducible exact holiday_On.mono _ _ _ _ _ _)
   | (with_reducible exact LeO.refl _)
   | (with_reducible exact LeO.none _)
   | (with_reducible refine LeO.ite ?_ ?_)
   | (with_reducible refine LeO.bind ?_ (fun _ => ?_))
  ·intro y0 y1 y2 y3 y4 y5
   unfold holiday_Is.l1
   repeat' first
   | (with_reducible exact ih0 _ _ _ _ _ _ _)
   | (with_reducible exact ih1 _ _ _ _ _ _)
   | (with_reducible exact ih2 _ _ _ _ _ _ _ _ _ _ _)
   | (with_reducible exact ih3 _ _ _ _ _ _ _ _ _ _ _ _ _)
   | (with_reducible exact holiday_Check.mono _ _ _ _ _)
   | (with_reducible exact holiday_On.mono _ _ _ _ _ _)
   | (with_reducible exact LeO.refl _)
   | (with_reducible exact LeO.none _)
   | (with_reducible refine LeO.ite ?_ ?_)
   | (with_reducible refine LeO.bind ?_ (fun _ => ?_))
  ·intro y0 y1 y2 y3 y4 y5 y6 y7 y8 y9 y10
   unfold holiday_Is.j2
   repeat' first
   | (with_reducible exact ih0 _ _ _ _ _ _ _)
   | (with_reducible exact ih1 _ _ _ _ _ _)
   | (with_reducible exact ih2 _ _ _ _ _ _ _ _ _ _ _)
   | (with_reducible exact ih3 _ _ _ _ _ _ _ _ _ _ _ _ _)
   | (with_reducible exact holiday_Check.mono _ _ _ _ _)
   | (with_reducible exact holiday_On.mono _ _ _ _ _ _)
   | (with_reducible exact LeO.refl _)
   | (with_reducible exact LeO.none _)
   | (with_reducible refine LeO.ite ?_ ?_)
   | (with_reducible refine LeO.bind ?_ (fun _ => ?_))
  ·intro y0 y1 y2 y3 y4 y5 y6 y7 y8 y9 y10 y11 y12
   unfold holiday_Is.l2
   repeat' first
   | (with_reducible exact ih0 _ _ _ _ _ _ _)
   | (with_reducible exact ih1 _ _ _ _ _ _)
   | (with_reducible exact ih2 _ _ _ _ _ _ _ _ _ _ _)
   | (with_reducible exact ih3 _ _ _ _ _ _ _ _ _ _ _ _ _)
   | (with_reducible exact holiday_Check.mono _ _ _ _ _)
   | (with_reducible exact holiday_On.mono _ _ _ _ _ _)
   | (with_reducible exact LeO.refl _)
   | (with_reducible exact LeO.none _)
   | (with_reducible refine LeO.ite ?_ ?_)
   | (with_reducible refine LeO.bind ?_ (fun _ => ?_))
theorem holiday_Is.mono : ∀ a0 a1 a2 a3 k, LeO (holiday_Is.f k a0 a1 a2 a3) (holiday_Is.f (k + 1) a0 a1 a2 a3) := by
 intro a0 a1 a2 a3 k
 obtain ⟨ih0, ih1, ih2, ih3⟩ := holiday_Is.mono_l k
 unfold holiday_Is.f
 repeat' first
   | (with_reducible exact ih0 _ _ _ _ _ _ _)
   | (with_reducible exact ih1 _ _ _ _ _ _)
   | (with_reducible exact ih2 _ _ _ _ _ _ _ _ _ _ _)
   | (with_reducible exact ih3 _ _ _ _ _ _ _ _ _ _ _ _ _)
   | (with_reducible exact holiday_Check.mono _ _ _ _ _)
   | (with_reducible exact holiday_On.mono _ _ _ _ _ _)
   | (with_reducible exact LeO.refl _)
   | (with_reducible exact LeO.none _)
   | (with_reducible refine LeO.ite ?_ ?_)
   | (with_reducible refine LeO.bind ?_ (fun _ => ?_))
set_option maxHeartbeats 8000000 in
set_option maxRecDepth 100000 in
theorem holiday_Is.calls (k : Nat) (A0 : Option Addr) (c0 : Nat) (l0 : List (S65)) (a1_0 : Int) (a1_1 : Int) (a1_2 : Int) (r1 : Bool) (r2 : Int) (w : World) (hr0 : Kd.C k65 w A0 l0.length l0) (hc0 : l0.length ≤ c0) (h : holiday_Is.f k l0 a1_0 a1_1 a1_2 = some (r1, r2)) :
  Calls Try.prog 39 #[.slice A0 l0.length c0, .agg #[.int .i64 a1_0, .int .i64 a1_1, .int .i64 a1_2]] w fun e w' => e = .returned (.tuple #[.bool r1, .int .i64 r2]) ∧ Below w.heap.size w w' := by
 have hu24 := Try.underlying24
 have hu65 := Try.underlying65
 have HR0 := AX hr0
 have HC0 := AX hc0
 clear hr0 hc0
 have HB := AX (Below.refl w.heap.size w)
 have H : (holiday_Is.l0 k l0 l0 (l0.length : Int) 0 a1_0 a1_1 a1_2) = some (r1, r2) := h
 clear h
 have H' := AX H
 clear H
 go_enter Try.func39, Try.ntmps39
 go_wp2_with (first | ((with_reducible refine gate_dst (N := 3) rfl ?_); refine bx 3 #[.int .i64 a1_0, .int .i64 a1_1, .int .i64 a1_2] 24 ?_; intro gb149 hg w3 hbox hb; have BK149 := AX (hbox); have GW149 := gwl (w := w) hg bw; have GE149 := GW149; replace HB := AX (below_step bw hb); clear hb hbox hg))
 go_loopg [20] k (fun kq v20 w' => ∃ (x20_1 : Int), v20 = .int .i64 x20_1 ∧ Aside0 (holiday_Is.l0 kq l0 l0 (l0.length : Int) x20_1 a1_0 a1_1 a1_2 = some (r1, r2)) ∧ Aside0 (kq ≤ k) ∧ Aside0 (w'.heap[gb149]? = some (.cells #[.int .i64 a1_0, .int .i64 a1_1, .int .i64 a1_2] 24 (0, 0))) ∧ Aside0 (Below w.heap.size w w'))
 case atStart => exact ⟨(0), (by first | rfl | (simp; done) | (simp [*]; done)), H', ⟨Nat.le_refl _⟩, ⟨bkn BK149⟩, ⟨bw⟩⟩
 case round =>
  clear H'
  obtain ⟨x20_1, rfl, HA, HK1, BK149, HB⟩ := hrel
  cases gk with
  | zero => exact absurd HA.out (by simp [holiday_Is.l0])
  | succ k1 =>
   have H := HA.out
   clear HA
   simp only [holiday_Is.l0] at H
   by_cases c4 : x20_1 < (l0.length : Int)
   ·rw [if_pos c4] at H
    have c4b0 : decide (x20_1 < (l0.length : Int)) = true := decide_eq_true c4
    clear c4
    by_cases c5 : 0 ≤ x20_1
    ·rw [if_pos c5] at H
     have c5b0 : decide (0 ≤ x20_1) = true := decide_eq_true c5
     clear c5
     by_cases c6 : x20_1 < (l0.length : Int)
     ·rw [if_pos c6] at H
      have c6b0 : decide (x20_1 < (l0.length : Int)) = true := decide_eq_true c6
      clear c6
      replace H := Option.bind_eq_some_iff.mp H
      obtain ⟨t152, A70, H⟩ := H
      replace H : (if t152 = 0 then (holiday_Is.l0 k1 l0 l0 (l0.length : Int) (wrap64 (x20_1 + 1)) a1_0 a1_1 a1_2) else (some (false, 8))) = some (r1, r2) := H
      have A7 := AX A70
      clear A70
      by_cases c8 : t152 = 0
      ·rw [if_pos c8] at H
       have c8b0 : (t152 == 0) = true := beq_iff_eq.mpr c8
       have c8b1 : (t152 != 0) = false := bne_eq_false_iff_eq.mpr c8
       clear c8
       have H' := AX H
       clear H
       have p150 : 0 ≤ (x20_1 : Int) := of_decide_eq_true (by first | (with_reducible assumption) | assumption)
       have q150 : x20_1 < (l0.length : Int) := of_decide_eq_true (by first | (with_reducible assumption) | assumption)
       obtain ⟨ad150, e150, hx150_0, hx150_1, hx150_2, hx150_3⟩ := at_T65 HR0.out x20_1 p150 q150
       cases e150
       replace hx150_0 := bcl HB hx150_0
       replace hx150_1 := bcl HB hx150_1
       replace hx150_2 := bcl HB hx150_2
       replace hx150_3 := bcl HB hx150_3
       replace p150 := eq_true p150
       replace q150 := eq_true q150
       go_wp2_with (first | ((with_reducible refine gate_dst (N := 7) rfl ?_); refine bx 7 #[.int .i64 0, .int .i64 0, .int .i64 0, .int .i64 0] 65 ?_; intro gb151 hg w9 hbox hb; have BK151 := AX (hbox); have GW151 := gwl (w := w) hg bw; have GE151 := GW151; have NB149_151 := nbl hg (bkn BK149); have NB151_149 := nbg hg (bkn BK149); replace BK149 := AX (bkb BK149 hb); replace HB := AX (below_step bw hb); clear hb hbox hg; have hnb10 := NB151_149.out; have hnc10 := NB149_151.out; obtain ⟨hcz11_0, hcz11_1, hcz11_2, hcz11_3⟩ := blkC4 (w := w9) BK151.out; obtain ⟨hfz11_0, hfz11_1, hfz11_2, hfz11_3⟩ := blkF4 BK151.out) | ((with_reducible refine gate_callee (f := 34) rfl ?_); refine gL (some 25) Try.func34 #[.agg #[.int .i64 ((rd_T65 l0 x20_1).f0), .int .i64 ((rd_T65 l0 x20_1).f1), .int .i64 ((rd_T65 l0 x20_1).f2), .int .i64 ((rd_T65 l0 x20_1).f3)]] ?_; (with_reducible refine (holiday_Check.calls k1 ((rd_T65 l0 x20_1).f0) ((rd_T65 l0 x20_1).f1) ((rd_T65 l0 x20_1).f2) ((rd_T65 l0 x20_1).f3) t152 _ A7.out).mono ?_); rintro e w12 ⟨rfl, hb⟩; refine ⟨_, rfl, ?_⟩; replace BK149 := AX (blk_below (g := gb149) (o := .cells #[.int .i64 a1_0, .int .i64 a1_1, .int .i64 a1_2] 24 (0, 0)) (by (with_reducible repeat first|refine blk_drewN ?_ _|refine blk_drew ?_|refine blk_alloc ?_ _|refine blk_far ?_ NB149_151.out _); exact BK149.out) hb); replace BK151 := AX (blk_below (g := gb151) (o := .cells #[.int .i64 ((rd_T65 l0 x20_1).f0), .int .i64 ((rd_T65 l0 x20_1).f1), .int .i64 ((rd_T65 l0 x20_1).f2), .int .i64 ((rd_T65 l0 x20_1).f3)] 65 (0, 0)) (by (with_reducible repeat first|refine blk_drewN ?_ _|refine blk_drew ?_|refine blk_alloc ?_ _); refine blk_put (cs := #[.int .i64 ((rd_T65 l0 x20_1).f0), .int .i64 ((rd_T65 l0 x20_1).f1), .int .i64 ((rd_T65 l0 x20_1).f2), .int .i64 0]) ?_ 3 _ rfl; (with_reducible repeat first|refine blk_drewN ?_ _|refine blk_drew ?_|refine blk_alloc ?_ _); refine blk_put (cs := #[.int .i64 ((rd_T65 l0 x20_1).f0), .int .i64 ((rd_T65 l0 x20_1).f1), .int .i64 0, .int .i64 0]) ?_ 2 _ rfl; (with_reducible repeat first|refine blk_drewN ?_ _|refine blk_drew ?_|refine blk_alloc ?_ _); refine blk_put (cs := #[.int .i64 ((rd_T65 l0 x20_1).f0), .int .i64 0, .int .i64 0, .int .i64 0]) ?_ 1 _ rfl; (with_reducible repeat first|refine blk_drewN ?_ _|refine blk_drew ?_|refine blk_alloc ?_ _); refine blk_put (cs := #[.int .i64 0, .int .i64 0, .int .i64 0, .int .i64 0]) ?_ 0 _ rfl; (with_reducible repeat first|refine blk_drewN ?_ _|refine blk_drew ?_|refine blk_alloc ?_ _); exact BK151.out) hb); replace HB := AX (below_step bw hb); (try clear hb)))
       go_roundg k1
       case measure => have := HK1.out; omega
       case rel => exact ⟨(wrap64 (x20_1 + 1)), (by first | rfl | (simp; done) | (simp [*]; done)), H', ⟨by have := HK1.out; omega⟩, ⟨bkn BK149⟩, ⟨bw⟩⟩
      ·rw [if_neg c8] at H
       have c8b0 : (t152 == 0) = false := beq_eq_false_iff_ne.mpr c8
       have c8b1 : (t152 != 0) = true := bne_iff_ne.mpr c8
       simp only [Option.some.injEq, Prod.mk.injEq] at H
       obtain ⟨rfl, rfl⟩ := H
       have p150 : 0 ≤ (x20_1 : Int) := of_decide_eq_true (by first | (with_reducible assumption) | assumption)
       have q150 : x20_1 < (l0.length : Int) := of_decide_eq_true (by first | (with_reducible assumption) | assumption)
       obtain ⟨ad150, e150, hx150_0, hx150_1, hx150_2, hx150_3⟩ := at_T65 HR0.out x20_1 p150 q150
       cases e150
       replace hx150_0 := bcl HB hx150_0
       replace hx150_1 := bcl HB hx150_1
       replace hx150_2 := bcl HB hx150_2
       replace hx150_3 := bcl HB hx150_3
       replace p150 := eq_true p150
       replace q150 := eq_true q150
       go_wp2_with (first | ((with_reducible refine gate_dst (N := 7) rfl ?_); refine bx 7 #[.int .i64 0, .int .i64 0, .int .i64 0, .int .i64 0] 65 ?_; intro gb151 hg w13 hbox hb; have BK151 := AX (hbox); have GW151 := gwl (w := w) hg bw; have GE151 := GW151; have NB149_151 := nbl hg (bkn BK149); have NB151_149 := nbg hg (bkn BK149); replace BK149 := AX (bkb BK149 hb); replace HB := AX (below_step bw hb); clear hb hbox hg; have hnb14 := NB151_149.out; have hnc14 := NB149_151.out; obtain ⟨hcz15_0, hcz15_1, hcz15_2, hcz15_3⟩ := blkC4 (w := w13) BK151.out; obtain ⟨hfz15_0, hfz15_1, hfz15_2, hfz15_3⟩ := blkF4 BK151.out) | ((with_reducible refine gate_callee (f := 34) rfl ?_); refine gL (some 25) Try.func34 #[.agg #[.int .i64 ((rd_T65 l0 x20_1).f0), .int .i64 ((rd_T65 l0 x20_1).f1), .int .i64 ((rd_T65 l0 x20_1).f2), .int .i64 ((rd_T65 l0 x20_1).f3)]] ?_; (with_reducible refine (holiday_Check.calls k1 ((rd_T65 l0 x20_1).f0) ((rd_T65 l0 x20_1).f1) ((rd_T65 l0 x20_1).f2) ((rd_T65 l0 x20_1).f3) t152 _ A7.out).mono ?_); rintro e w16 ⟨rfl, hb⟩; refine ⟨_, rfl, ?_⟩; replace BK149 := AX (blk_below (g := gb149) (o := .cells #[.int .i64 a1_0, .int .i64 a1_1, .int .i64 a1_2] 24 (0, 0)) (by (with_reducible repeat first|refine blk_drewN ?_ _|refine blk_drew ?_|refine blk_alloc ?_ _|refine blk_far ?_ NB149_151.out _); exact BK149.out) hb); replace BK151 := AX (blk_below (g := gb151) (o := .cells #[.int .i64 ((rd_T65 l0 x20_1).f0), .int .i64 ((rd_T65 l0 x20_1).f1), .int .i64 ((rd_T65 l0 x20_1).f2), .int .i64 ((rd_T65 l0 x20_1).f3)] 65 (0, 0)) (by (with_reducible repeat first|refine blk_drewN ?_ _|refine blk_drew ?_|refine blk_alloc ?_ _); refine blk_put (cs := #[.int .i64 ((rd_T65 l0 x20_1).f0), .int .i64 ((rd_T65 l0 x20_1).f1), .int .i64 ((rd_T65 l0 x20_1).f2), .int .i64 0]) ?_ 3 _ rfl; (with_reducible repeat first|refine blk_drewN ?_ _|refine blk_drew ?_|refine blk_alloc ?_ _); refine blk_put (cs := #[.int .i64 ((rd_T65 l0 x20_1).f0), .int .i64 ((rd_T65 l0 x20_1).f1), .int .i64 0, .int .i64 0]) ?_ 2 _ rfl; (with_reducible repeat first|refine blk_drewN ?_ _|refine blk_drew ?_|refine blk_alloc ?_ _); refine blk_put (cs := #[.int .i64 ((rd_T65 l0 x20_1).f0), .int .i64 0, .int .i64 0, .int .i64 0]) ?_ 1 _ rfl; (with_reducible repeat first|refine blk_drewN ?_ _|refine blk_drew ?_|refine blk_alloc ?_ _); refine blk_put (cs := #[.int .i64 0, .int .i64 0, .int .i64 0, .int .i64 0]) ?_ 0 _ rfl; (with_reducible repeat first|refine blk_drewN ?_ _|refine blk_drew ?_|refine blk_alloc ?_ _); exact BK151.out) hb); replace HB := AX (below_step bw hb); (try clear hb)))
       go_ret2
       exact ⟨by first | rfl | (simp [errW_none, errW_some] <;> rfl) | (simp [*, errW_none, errW_some] <;> rfl), bw⟩
     ·rw [if_neg c6] at H
      exact absurd H (by simp)
    ·rw [if_neg c5] at H
     exact absurd H (by simp)
   ·rw [if_neg c4] at H
    have c4b0 : decide (x20_1 < (l0.length : Int)) = false := decide_eq_false c4
    clear c4
    replace H := Option.bind_eq_some_iff.mp H
    obtain ⟨⟨t153, t154⟩, A170, H⟩ := H
    replace H : (if t154 = 0 then (holiday_Is.l1 k1 l0 (l0.length : Int) 0 a1_0 a1_1 a1_2) else (some (false, t154))) = some (r1, r2) := H
    have A17 := AX A170
    clear A170
    by_cases c18 : t154 = 0
    ·rw [if_pos c18] at H
     have c18b0 : (t154 == 0) = true := beq_iff_eq.mpr c18
     have c18b1 : (t154 != 0) = false := bne_eq_false_iff_eq.mpr c18
     clear c18
     have H' := AX H
     clear H
     obtain ⟨hcz19_0, hcz19_1, hcz19_2⟩ := blkC3 (w := wr) BK149.out
     obtain ⟨hfz19_0, hfz19_1, hfz19_2⟩ := blkF3 BK149.out
     go_wp2_with (first | ((with_reducible refine gate_callee (f := 48) rfl ?_); refine gL (some 30) Try.func48 #[.agg #[.int .i64 a1_0, .int .i64 a1_1, .int .i64 a1_2]] ?_; (with_reducible refine (civil_Days.calls a1_0 a1_1 a1_2 t153 t154 _ A17.out).mono ?_); rintro e w20 ⟨rfl, hb⟩; refine ⟨_, rfl, ?_⟩; replace BK149 := AX (bkb BK149 hb); replace HB := AX (below_step bw hb); (try clear hb)))
     go_loopg [38] k1 (fun kq v38 w' => ∃ (x38_2 : Int), v38 = .int .i64 x38_2 ∧ Aside0 (holiday_Is.l1 kq l0 (l0.length : Int) x38_2 a1_0 a1_1 a1_2 = some (r1, r2)) ∧ Aside0 (kq ≤ k1) ∧ Aside0 (w'.heap[gb149]? = some (.cells #[.int .i64 a1_0, .int .i64 a1_1, .int .i64 a1_2] 24 (0, 0))) ∧ Aside0 (Below w.heap.size w w'))
     case atStart => exact ⟨(0), (by first | rfl | (simp; done) | (simp [*]; done)), H', ⟨Nat.le_refl _⟩, ⟨bkn BK149⟩, ⟨bw⟩⟩
     case round =>
      clear H'
      try clear c4b0
      try clear c18b0 c18b1
      try clear hcz19_0 hcz19_1 hcz19_2
      try clear hfz19_0 hfz19_1 hfz19_2
      obtain ⟨x38_2, rfl, HA, HK2, BK149, HB⟩ := hrel
      cases gk with
      | zero => exact absurd HA.out (by simp [holiday_Is.l1])
      | succ k2 =>
       have H := HA.out
       clear HA
       simp only [holiday_Is.l1] at H
       by_cases c21 : x38_2 < (l0.length : Int)
       ·rw [if_pos c21] at H
        have c21b0 : decide (x38_2 < (l0.length : Int)) = true := decide_eq_true c21
        clear c21
        by_cases c22 : 0 ≤ x38_2
        ·rw [if_pos c22] at H
         have c22b0 : decide (0 ≤ x38_2) = true := decide_eq_true c22
         clear c22
         by_cases c23 : x38_2 < (l0.length : Int)
         ·rw [if_pos c23] at H
          have c23b0 : decide (x38_2 < (l0.length : Int)) = true := decide_eq_true c23
          clear c23
          replace H := Option.bind_eq_some_iff.mp H
          obtain ⟨⟨t157, t158, t159, t160⟩, A240, H⟩ := H
          replace H : (if t160 = 0 then (holiday_Is.j2 k2 l0 (l0.length : Int) x38_2 (t157 == a1_0 && (t158 == a1_1 && (t159 == a1_2))) a1_0 a1_1 a1_2 ((rd_T65 l0 x38_2).f0) ((rd_T65 l0 x38_2).f1) ((rd_T65 l0 x38_2).f2) ((rd_T65 l0 x38_2).f3)) else (holiday_Is.j2 k2 l0 (l0.length : Int) x38_2 false a1_0 a1_1 a1_2 ((rd_T65 l0 x38_2).f0) ((rd_T65 l0 x38_2).f1) ((rd_T65 l0 x38_2).f2) ((rd_T65 l0 x38_2).f3))) = some (r1, r2) := H
          have A24 := AX A240
          clear A240
          have HC25 := AX H
          clear H
          have p155 : 0 ≤ (x38_2 : Int) := of_decide_eq_true (by first | (with_reducible assumption) | assumption)
          have q155 : x38_2 < (l0.length : Int) := of_decide_eq_true (by first | (with_reducible assumption) | assumption)
          obtain ⟨ad155, e155, hx155_0, hx155_1, hx155_2, hx155_3⟩ := at_T65 HR0.out x38_2 p155 q155
          cases e155
          replace hx155_0 := bcl HB hx155_0
          replace hx155_1 := bcl HB hx155_1
          replace hx155_2 := bcl HB hx155_2
          replace hx155_3 := bcl HB hx155_3
          replace p155 := eq_true p155
          replace q155 := eq_true q155
          go_upto_region 14 with (first | ((with_reducible refine gate_dst (N := 11) rfl ?_); refine bx 11 #[.int .i64 0, .int .i64 0, .int .i64 0, .int .i64 0] 65 ?_; intro gb156 hg w26 hbox hb; have BK156 := AX (hbox); have GW156 := gwl (w := w) hg bw; have GE156 := GW156; have NB149_156 := nbl hg (bkn BK149); have NB156_149 := nbg hg (bkn BK149); replace BK149 := AX (bkb BK149 hb); replace HB := AX (below_step bw hb); clear hb hbox hg; have hnb27 := NB156_149.out; have hnc27 := NB149_156.out; obtain ⟨hcz28_0, hcz28_1, hcz28_2, hcz28_3⟩ := blkC4 (w := w26) BK156.out; obtain ⟨hfz28_0, hfz28_1, hfz28_2, hfz28_3⟩ := blkF4 BK156.out; obtain ⟨hcz29_0, hcz29_1, hcz29_2⟩ := blkC3 (w := w26) BK149.out; obtain ⟨hfz29_0, hfz29_1, hfz29_2⟩ := blkF3 BK149.out) | ((with_reducible refine gate_callee (f := 33) rfl ?_); refine gL (some 46) Try.func33 #[.agg #[.int .i64 ((rd_T65 l0 x38_2).f0), .int .i64 ((rd_T65 l0 x38_2).f1), .int .i64 ((rd_T65 l0 x38_2).f2), .int .i64 ((rd_T65 l0 x38_2).f3)], .int .i64 a1_0] ?_; (with_reducible refine (holiday_On.calls k2 ((rd_T65 l0 x38_2).f0) ((rd_T65 l0 x38_2).f1) ((rd_T65 l0 x38_2).f2) ((rd_T65 l0 x38_2).f3) a1_0 t157 t158 t159 t160 _ A24.out).mono ?_); rintro e w30 ⟨rfl, hb⟩; refine ⟨_, rfl, ?_⟩; replace BK149 := AX (blk_below (g := gb149) (o := .cells #[.int .i64 a1_0, .int .i64 a1_1, .int .i64 a1_2] 24 (0, 0)) (by (with_reducible repeat first|refine blk_drewN ?_ _|refine blk_drew ?_|refine blk_alloc ?_ _|refine blk_far ?_ NB149_156.out _); exact BK149.out) hb); replace BK156 := AX (blk_below (g := gb156) (o := .cells #[.int .i64 ((rd_T65 l0 x38_2).f0), .int .i64 ((rd_T65 l0 x38_2).f1), .int .i64 ((rd_T65 l0 x38_2).f2), .int .i64 ((rd_T65 l0 x38_2).f3)] 65 (0, 0)) (by (with_reducible repeat first|refine blk_drewN ?_ _|refine blk_drew ?_|refine blk_alloc ?_ _); refine blk_put (cs := #[.int .i64 ((rd_T65 l0 x38_2).f0), .int .i64 ((rd_T65 l0 x38_2).f1), .int .i64 ((rd_T65 l0 x38_2).f2), .int .i64 0]) ?_ 3 _ rfl; (with_reducible repeat first|refine blk_drewN ?_ _|refine blk_drew ?_|refine blk_alloc ?_ _); refine blk_put (cs := #[.int .i64 ((rd_T65 l0 x38_2).f0), .int .i64 ((rd_T65 l0 x38_2).f1), .int .i64 0, .int .i64 0]) ?_ 2 _ rfl; (with_reducible repeat first|refine blk_drewN ?_ _|refine blk_drew ?_|refine blk_alloc ?_ _); refine blk_put (cs := #[.int .i64 ((rd_T65 l0 x38_2).f0), .int .i64 0, .int .i64 0, .int .i64 0]) ?_ 1 _ rfl; (with_reducible repeat first|refine blk_drewN ?_ _|refine blk_drew ?_|refine blk_alloc ?_ _); refine blk_put (cs := #[.int .i64 0, .int .i64 0, .int .i64 0, .int .i64 0]) ?_ 0 _ rfl; (with_reducible repeat first|refine blk_drewN ?_ _|refine blk_drew ?_|refine blk_alloc ?_ _); exact BK156.out) hb); replace HB := AX (below_step bw hb); (try clear hb)) | ((with_reducible refine gate_dst (N := 12) rfl ?_); refine bx 12 #[.int .i64 0, .int .i64 0, .int .i64 0] 24 ?_; intro gb161 hg w31 hbox hb; have BK161 := AX (hbox); have GW161 := gwl (w := w) hg bw; have GE161 := GW161; have NB149_161 := nbl hg (bkn BK149); have NB161_149 := nbg hg (bkn BK149); have NB156_161 := nbl hg (bkn BK156); have NB161_156 := nbg hg (bkn BK156); replace BK149 := AX (bkb BK149 hb); replace BK156 := AX (bkb BK156 hb); replace HB := AX (below_step bw hb); clear hb hbox hg; have hnb32 := NB161_149.out; have hnc32 := NB149_161.out; have hnb33 := NB161_156.out; have hnc33 := NB156_161.out; obtain ⟨hcz34_0, hcz34_1, hcz34_2⟩ := blkC3 (w := w31) BK161.out; obtain ⟨hfz34_0, hfz34_1, hfz34_2⟩ := blkF3 BK161.out))
          (try simp only [Act.put, List.setIfInBounds_toArray, List.set_cons_zero, List.set_cons_succ])
          go_cut [55] (fun v55 wc => ∃ (kq : Nat) (x55_24 : Bool), v55 = .bool x55_24 ∧ Aside0 (holiday_Is.j2 kq l0 (l0.length : Int) x38_2 x55_24 a1_0 a1_1 a1_2 ((rd_T65 l0 x38_2).f0) ((rd_T65 l0 x38_2).f1) ((rd_T65 l0 x38_2).f2) ((rd_T65 l0 x38_2).f3) = some (r1, r2)) ∧ Aside0 (kq ≤ k2) ∧ Aside0 (wc.heap[gb149]? = some (.cells #[.int .i64 a1_0, .int .i64 a1_1, .int .i64 a1_2] 24 (0, 0))) ∧ Aside0 (wc.heap[gb156]? = some (.cells #[.int .i64 ((rd_T65 l0 x38_2).f0), .int .i64 ((rd_T65 l0 x38_2).f1), .int .i64 ((rd_T65 l0 x38_2).f2), .int .i64 ((rd_T65 l0 x38_2).f3)] 65 (0, 0))) ∧ Aside0 (wc.heap[gb161]? = some (.cells #[.int .i64 t157, .int .i64 t158, .int .i64 t159] 24 (0, 0))) ∧ Aside0 (Below w.heap.size w wc))
          case first =>
           have H := HC25.out
           clear HC25
           by_cases c35 : t160 = 0
           ·rw [if_pos c35] at H
            have c35b0 : (t160 == 0) = true := beq_iff_eq.mpr c35
            have c35b1 : (t160 != 0) = false := bne_eq_false_iff_eq.mpr c35
            clear c35
            (first | rw [c35b0] | (simp only [i64_w, i32_w]; rw [c35b0]) | skip)
            have H' := AX H
            clear H
            have hnb36 := NB161_149.out
            have hnc36 := NB149_161.out
            have hnb37 := NB161_156.out
            have hnc37 := NB156_161.out
            obtain ⟨hcz38_0, hcz38_1, hcz38_2⟩ := blkC3 (w := w31) BK161.out
            obtain ⟨hfz38_0, hfz38_1, hfz38_2⟩ := blkF3 BK161.out
            have hnb39 := NB149_156.out
            have hnc39 := NB156_149.out
            obtain ⟨hcz40_0, hcz40_1, hcz40_2⟩ := blkC3 (w := w31) BK149.out
            obtain ⟨hfz40_0, hfz40_1, hfz40_2⟩ := blkF3 BK149.out
            go_wp2
            go_meet
            case rel => exact ⟨_, ((t157 == a1_0 && (t158 == a1_1 && (t159 == a1_2)))), (by first | rfl | (simp; done) | (simp [*]; done)), H', ⟨by have := HK1.out; have := HK2.out; first | omega | exact Nat.le_refl _⟩, ⟨by (with_reducible repeat first|refine blk_drewN ?_ _|refine blk_drew ?_|refine blk_alloc ?_ _); refine blk_far ?_ NB149_161.out _; (with_reducible repeat first|refine blk_drewN ?_ _|refine blk_drew ?_|refine blk_alloc ?_ _); refine blk_far ?_ NB149_161.out _; (with_reducible repeat first|refine blk_drewN ?_ _|refine blk_drew ?_|refine blk_alloc ?_ _); refine blk_far ?_ NB149_161.out _; (with_reducible repeat first|refine blk_drewN ?_ _|refine blk_drew ?_|refine blk_alloc ?_ _); exact BK149.out⟩, ⟨by (with_reducible repeat first|refine blk_drewN ?_ _|refine blk_drew ?_|refine blk_alloc ?_ _); refine blk_far ?_ NB156_161.out _; (with_reducible repeat first|refine blk_drewN ?_ _|refine blk_drew ?_|refine blk_alloc ?_ _); refine blk_far ?_ NB156_161.out _; (with_reducible repeat first|refine blk_drewN ?_ _|refine blk_drew ?_|refine blk_alloc ?_ _); refine blk_far ?_ NB156_161.out _; (with_reducible repeat first|refine blk_drewN ?_ _|refine blk_drew ?_|refine blk_alloc ?_ _); exact BK156.out⟩, ⟨by (with_reducible repeat first|refine blk_drewN ?_ _|refine blk_drew ?_|refine blk_alloc ?_ _); refine blk_put (cs := #[.int .i64 t157, .int .i64 t158, .int .i64 0]) ?_ 2 _ rfl; (with_reducible repeat first|refine blk_drewN ?_ _|refine blk_drew ?_|refine blk_alloc ?_ _); refine blk_put (cs := #[.int .i64 t157, .int .i64 0, .int .i64 0]) ?_ 1 _ rfl; (with_reducible repeat first|refine blk_drewN ?_ _|refine blk_drew ?_|refine blk_alloc ?_ _); refine blk_put (cs := #[.int .i64 0, .int .i64 0, .int .i64 0]) ?_ 0 _ rfl; (with_reducible repeat first|refine blk_drewN ?_ _|refine blk_drew ?_|refine blk_alloc ?_ _); exact BK161.out⟩, ⟨bw⟩⟩
           ·rw [if_neg c35] at H
            have c35b0 : (t160 == 0) = false := beq_eq_false_iff_ne.mpr c35
            have c35b1 : (t160 != 0) = true := bne_iff_ne.mpr c35
            (first | rw [c35b0] | (simp only [i64_w, i32_w]; rw [c35b0]) | skip)
            have H' := AX H
            clear H
            go_wp2
            go_meet
            case rel => exact ⟨_, (false), (by first | rfl | (simp; done) | (simp [*]; done)), H', ⟨by have := HK1.out; have := HK2.out; first | omega | exact Nat.le_refl _⟩, ⟨by (with_reducible repeat first|refine blk_drewN ?_ _|refine blk_drew ?_|refine blk_alloc ?_ _); refine blk_far ?_ NB149_161.out _; (with_reducible repeat first|refine blk_drewN ?_ _|refine blk_drew ?_|refine blk_alloc ?_ _); refine blk_far ?_ NB149_161.out _; (with_reducible repeat first|refine blk_drewN ?_ _|refine blk_drew ?_|refine blk_alloc ?_ _); refine blk_far ?_ NB149_161.out _; (with_reducible repeat first|refine blk_drewN ?_ _|refine blk_drew ?_|refine blk_alloc ?_ _); exact BK149.out⟩, ⟨by (with_reducible repeat first|refine blk_drewN ?_ _|refine blk_drew ?_|refine blk_alloc ?_ _); refine blk_far ?_ NB156_161.out _; (with_reducible repeat first|refine blk_drewN ?_ _|refine blk_drew ?_|refine blk_alloc ?_ _); refine blk_far ?_ NB156_161.out _; (with_reducible repeat first|refine blk_drewN ?_ _|refine blk_drew ?_|refine blk_alloc ?_ _); refine blk_far ?_ NB156_161.out _; (with_reducible repeat first|refine blk_drewN ?_ _|refine blk_drew ?_|refine blk_alloc ?_ _); exact BK156.out⟩, ⟨by (with_reducible repeat first|refine blk_drewN ?_ _|refine blk_drew ?_|refine blk_alloc ?_ _); refine blk_put (cs := #[.int .i64 t157, .int .i64 t158, .int .i64 0]) ?_ 2 _ rfl; (with_reducible repeat first|refine blk_drewN ?_ _|refine blk_drew ?_|refine blk_alloc ?_ _); refine blk_put (cs := #[.int .i64 t157, .int .i64 0, .int .i64 0]) ?_ 1 _ rfl; (with_reducible repeat first|refine blk_drewN ?_ _|refine blk_drew ?_|refine blk_alloc ?_ _); refine blk_put (cs := #[.int .i64 0, .int .i64 0, .int .i64 0]) ?_ 0 _ rfl; (with_reducible repeat first|refine blk_drewN ?_ _|refine blk_drew ?_|refine blk_alloc ?_ _); exact BK161.out⟩, ⟨bw⟩⟩
          case rest =>
           clear HC25
           try clear c21b0
           try clear c22b0
           try clear c23b0
           try clear hcz28_0 hcz28_1 hcz28_2 hcz28_3
           try clear hcz29_0 hcz29_1 hcz29_2
           try clear hcz34_0 hcz34_1 hcz34_2
           try clear hfz28_0 hfz28_1 hfz28_2 hfz28_3
           try clear hfz29_0 hfz29_1 hfz29_2
           try clear hfz34_0 hfz34_1 hfz34_2
           try clear hx155_0
           try clear hx155_1
           try clear hx155_2
           try clear hx155_3
           try clear p155
           try clear q155
           obtain ⟨kq, x55_24, rfl, HA, HJ24, BK149, BK156, BK161, HB⟩ := hcut
           cases kq with
           | zero => exact absurd HA.out (by simp [holiday_Is.j2])
           | succ kj24 =>
            have H := HA.out
            clear HA
            simp only [holiday_Is.j2] at H
            by_cases c41 : x55_24 = true
            ·subst c41
             have H1 : (some (true, 0)) = some (r1, r2) := by rw [if_pos rfl] at H; exact H
             clear H
             have H := H1
             clear H1
             simp only [Option.some.injEq, Prod.mk.injEq] at H
             obtain ⟨rfl, rfl⟩ := H
             go_wp2
             go_ret2
             exact ⟨by first | rfl | (simp [errW_none, errW_some] <;> rfl) | (simp [*, errW_none, errW_some] <;> rfl), bw⟩
            ·replace c41 := Bool.eq_false_iff.mpr c41
             subst c41
             have H1 : (if ((rd_T65 l0 x38_2).f0) = 3 then (holiday_Is.l2 kj24 l0 (l0.length : Int) x38_2 0 (wrap64 (a1_0 - 1)) (wrap64 (a1_0 + 1)) a1_0 a1_1 a1_2 ((rd_T65 l0 x38_2).f0) ((rd_T65 l0 x38_2).f1) ((rd_T65 l0 x38_2).f2) ((rd_T65 l0 x38_2).f3)) else (holiday_Is.l1 kj24 l0 (l0.length : Int) (wrap64 (x38_2 + 1)) a1_0 a1_1 a1_2)) = some (r1, r2) := by rw [if_neg (show ¬ (false = true) by decide)] at H; exact H
             clear H
             have H := H1
             clear H1
             by_cases c42 : ((rd_T65 l0 x38_2).f0) = 3
             ·rw [if_pos c42] at H
              have c42b0 : (((rd_T65 l0 x38_2).f0) == 3) = true := beq_iff_eq.mpr c42
              have c42b1 : (((rd_T65 l0 x38_2).f0) != 3) = false := bne_eq_false_iff_eq.mpr c42
              clear c42
              have H' := AX H
              clear H
              have hnb43 := NB156_149.out
              have hnc43 := NB149_156.out
              have hnb44 := NB156_161.out
              have hnc44 := NB161_156.out
              obtain ⟨hcz45_0, hcz45_1, hcz45_2, hcz45_3⟩ := blkC4 (w := wc) BK156.out
              obtain ⟨hfz45_0, hfz45_1, hfz45_2, hfz45_3⟩ := blkF4 BK156.out
              have hnb46 := NB149_161.out
              have hnc46 := NB161_149.out
              obtain ⟨hcz47_0, hcz47_1, hcz47_2⟩ := blkC3 (w := wc) BK149.out
              obtain ⟨hfz47_0, hfz47_1, hfz47_2⟩ := blkF3 BK149.out
              go_wp2
              go_loopg [66] kj24 (fun kq v66 w' => ∃ (x66_4 : Int), v66 = .int .i64 x66_4 ∧ Aside0 (holiday_Is.l2 kq l0 (l0.length : Int) x38_2 x66_4 (wrap64 (a1_0 - 1)) (wrap64 (a1_0 + 1)) a1_0 a1_1 a1_2 ((rd_T65 l0 x38_2).f0) ((rd_T65 l0 x38_2).f1) ((rd_T65 l0 x38_2).f2) ((rd_T65 l0 x38_2).f3) = some (r1, r2)) ∧ Aside0 (kq ≤ kj24) ∧ Aside0 (w'.heap[gb149]? = some (.cells #[.int .i64 a1_0, .int .i64 a1_1, .int .i64 a1_2] 24 (0, 0))) ∧ Aside0 (w'.heap[gb156]? = some (.cells #[.int .i64 ((rd_T65 l0 x38_2).f0), .int .i64 ((rd_T65 l0 x38_2).f1), .int .i64 ((rd_T65 l0 x38_2).f2), .int .i64 ((rd_T65 l0 x38_2).f3)] 65 (0, 0))) ∧ Aside0 (w'.heap[gb161]? = some (.cells #[.int .i64 t157, .int .i64 t158, .int .i64 t159] 24 (0, 0))) ∧ Aside0 (Below w.heap.size w w'))
              case atStart => exact ⟨(0), (by first | rfl | (simp; done) | (simp [*]; done)), H', ⟨Nat.le_refl _⟩, ⟨bkn BK149⟩, ⟨bkn BK156⟩, ⟨bkn BK161⟩, ⟨bw⟩⟩
              case round =>
               clear H'
               try clear c41
               try clear c42b0 c42b1
               try clear hcz45_0 hcz45_1 hcz45_2 hcz45_3
               try clear hcz47_0 hcz47_1 hcz47_2
               try clear hfz45_0 hfz45_1 hfz45_2 hfz45_3
               try clear hfz47_0 hfz47_1 hfz47_2
               obtain ⟨x66_4, rfl, HA, HK4, BK149, BK156, BK161, HB⟩ := hrel
               cases gk with
               | zero => exact absurd HA.out (by simp [holiday_Is.l2])
               | succ k4 =>
                have H := HA.out
                clear HA
                simp only [holiday_Is.l2] at H
                by_cases c48 : x66_4 < 2
                ·rw [if_pos c48] at H
                 have c48b0 : decide (x66_4 < 2) = true := decide_eq_true c48
                 clear c48
                 by_cases c49 : x66_4 = 0
                 ·rw [if_pos c49] at H
                  have ixc49 : ∀ w_ : World, (Instr.index 111 (.agg #[.int .i64 (wrap64 (a1_0 - 1)), .int .i64 (wrap64 (a1_0 + 1))]) (.int .i64 x66_4)).run Try.prog w_ = .ok (.int .i64 (wrap64 (a1_0 - 1))) w_ := fun w_ => by rw [c49]; kernel_rfl
                  have c49b0 : (x66_4 == 0) = true := beq_iff_eq.mpr c49
                  have c49b1 : (x66_4 != 0) = false := bne_eq_false_iff_eq.mpr c49
                  clear c49
                  replace H := Option.bind_eq_some_iff.mp H
                  obtain ⟨⟨t162, t163, t164, t165⟩, A500, H⟩ := H
                  replace H : (if t165 = 0 then (if (t162 == a1_0 && (t163 == a1_1 && (t164 == a1_2))) = true then (some (true, 0)) else (holiday_Is.l2 k4 l0 (l0.length : Int) x38_2 (wrap64 (x66_4 + 1)) (wrap64 (a1_0 - 1)) (wrap64 (a1_0 + 1)) a1_0 a1_1 a1_2 ((rd_T65 l0 x38_2).f0) ((rd_T65 l0 x38_2).f1) ((rd_T65 l0 x38_2).f2) ((rd_T65 l0 x38_2).f3))) else (holiday_Is.l2 k4 l0 (l0.length : Int) x38_2 (wrap64 (x66_4 + 1)) (wrap64 (a1_0 - 1)) (wrap64 (a1_0 + 1)) a1_0 a1_1 a1_2 ((rd_T65 l0 x38_2).f0) ((rd_T65 l0 x38_2).f1) ((rd_T65 l0 x38_2).f2) ((rd_T65 l0 x38_2).f3))) = some (r1, r2) := H
                  have A50 := AX A500
                  clear A500
                  by_cases c51 : t165 = 0
                  ·rw [if_pos c51] at H
                   have c51b0 : (t165 == 0) = true := beq_iff_eq.mpr c51
                   have c51b1 : (t165 != 0) = false := bne_eq_false_iff_eq.mpr c51
                   clear c51
                   by_cases c52 : (t162 == a1_0 && (t163 == a1_1 && (t164 == a1_2))) = true
                   ·rw [if_pos c52] at H
                    have c52b0 : (t162 == a1_0 && (t163 == a1_1 && (t164 == a1_2))) = true := c52
                    (try (have c52b1 : decide (t162 = a1_0 && (t163 == a1_1 && (t164 == a1_2))) = true := by simpa using c52))
                    (try (have c52b2 : (t162 == a1_0 && (t163 == a1_1 && (t164 == a1_2))) = true := by simpa using c52))
                    clear c52
                    simp only [Option.some.injEq, Prod.mk.injEq] at H
                    obtain ⟨rfl, rfl⟩ := H
                    have hnb53 := NB156_149.out
                    have hnc53 := NB149_156.out
                    have hnb54 := NB156_161.out
                    have hnc54 := NB161_156.out
                    obtain ⟨hcz55_0, hcz55_1, hcz55_2, hcz55_3⟩ := blkC4 (w := wr) BK156.out
                    obtain ⟨hfz55_0, hfz55_1, hfz55_2, hfz55_3⟩ := blkF4 BK156.out
                    go_wp2_with (first | ((with_reducible refine gate_callee (f := 33) rfl ?_); refine gL (some 72) Try.func33 #[.agg #[.int .i64 ((rd_T65 l0 x38_2).f0), .int .i64 ((rd_T65 l0 x38_2).f1), .int .i64 ((rd_T65 l0 x38_2).f2), .int .i64 ((rd_T65 l0 x38_2).f3)], .int .i64 (wrap64 (a1_0 - 1))] ?_; (with_reducible refine (holiday_On.calls k4 ((rd_T65 l0 x38_2).f0) ((rd_T65 l0 x38_2).f1) ((rd_T65 l0 x38_2).f2) ((rd_T65 l0 x38_2).f3) (wrap64 (a1_0 - 1)) t162 t163 t164 t165 _ A50.out).mono ?_); rintro e w56 ⟨rfl, hb⟩; refine ⟨_, rfl, ?_⟩; replace BK149 := AX (bkb BK149 hb); replace BK156 := AX (bkb BK156 hb); replace BK161 := AX (bkb BK161 hb); replace HB := AX (below_step bw hb); (try clear hb)) | ((with_reducible refine gate_dst (N := 16) rfl ?_); refine bx 16 #[.int .i64 0, .int .i64 0, .int .i64 0] 24 ?_; intro gb166 hg w57 hbox hb; have BK166 := AX (hbox); have GW166 := gwl (w := w) hg bw; have GE166 := GW166; have NB149_166 := nbl hg (bkn BK149); have NB166_149 := nbg hg (bkn BK149); have NB156_166 := nbl hg (bkn BK156); have NB166_156 := nbg hg (bkn BK156); have NB161_166 := nbl hg (bkn BK161); have NB166_161 := nbg hg (bkn BK161); replace BK149 := AX (bkb BK149 hb); replace BK156 := AX (bkb BK156 hb); replace BK161 := AX (bkb BK161 hb); replace HB := AX (below_step bw hb); clear hb hbox hg; have hnb58 := NB166_149.out; have hnc58 := NB149_166.out; have hnb59 := NB166_156.out; have hnc59 := NB156_166.out; have hnb60 := NB166_161.out; have hnc60 := NB161_166.out; obtain ⟨hcz61_0, hcz61_1, hcz61_2⟩ := blkC3 (w := w57) BK166.out; obtain ⟨hfz61_0, hfz61_1, hfz61_2⟩ := blkF3 BK166.out; have hnb62 := NB149_161.out; have hnc62 := NB161_149.out; obtain ⟨hcz63_0, hcz63_1, hcz63_2⟩ := blkC3 (w := w57) BK149.out; obtain ⟨hfz63_0, hfz63_1, hfz63_2⟩ := blkF3 BK149.out))
                    go_ret2
                    exact ⟨by first | rfl | (simp [errW_none, errW_some] <;> rfl) | (simp [*, errW_none, errW_some] <;> rfl), bw⟩
                   ·rw [if_neg c52] at H
                    have c52b0 : (t162 == a1_0 && (t163 == a1_1 && (t164 == a1_2))) = false := by simpa using c52
                    (try (have c52b1 : decide (t162 = a1_0 && (t163 == a1_1 && (t164 == a1_2))) = false := by simpa using c52))
                    (try (have c52b2 : (t162 == a1_0 && (t163 == a1_1 && (t164 == a1_2))) = false := by simpa using c52))
                    (try (have c52b3 : ¬ (t162 = a1_0 && (t163 == a1_1 && (t164 == a1_2))) := by simpa using c52))
                    clear c52
                    have H' := AX H
                    clear H
                    have hnb64 := NB156_149.out
                    have hnc64 := NB149_156.out
                    have hnb65 := NB156_161.out
                    have hnc65 := NB161_156.out
                    obtain ⟨hcz66_0, hcz66_1, hcz66_2, hcz66_3⟩ := blkC4 (w := wr) BK156.out
                    obtain ⟨hfz66_0, hfz66_1, hfz66_2, hfz66_3⟩ := blkF4 BK156.out
                    go_wp2_with (first | ((with_reducible refine gate_callee (f := 33) rfl ?_); refine gL (some 72) Try.func33 #[.agg #[.int .i64 ((rd_T65 l0 x38_2).f0), .int .i64 ((rd_T65 l0 x38_2).f1), .int .i64 ((rd_T65 l0 x38_2).f2), .int .i64 ((rd_T65 l0 x38_2).f3)], .int .i64 (wrap64 (a1_0 - 1))] ?_; (with_reducible refine (holiday_On.calls k4 ((rd_T65 l0 x38_2).f0) ((rd_T65 l0 x38_2).f1) ((rd_T65 l0 x38_2).f2) ((rd_T65 l0 x38_2).f3) (wrap64 (a1_0 - 1)) t162 t163 t164 t165 _ A50.out).mono ?_); rintro e w67 ⟨rfl, hb⟩; refine ⟨_, rfl, ?_⟩; replace BK149 := AX (bkb BK149 hb); replace BK156 := AX (bkb BK156 hb); replace BK161 := AX (bkb BK161 hb); replace HB := AX (below_step bw hb); (try clear hb)) | ((with_reducible refine gate_dst (N := 16) rfl ?_); refine bx 16 #[.int .i64 0, .int .i64 0, .int .i64 0] 24 ?_; intro gb166 hg w68 hbox hb; have BK166 := AX (hbox); have GW166 := gwl (w := w) hg bw; have GE166 := GW166; have NB149_166 := nbl hg (bkn BK149); have NB166_149 := nbg hg (bkn BK149); have NB156_166 := nbl hg (bkn BK156); have NB166_156 := nbg hg (bkn BK156); have NB161_166 := nbl hg (bkn BK161); have NB166_161 := nbg hg (bkn BK161); replace BK149 := AX (bkb BK149 hb); replace BK156 := AX (bkb BK156 hb); replace BK161 := AX (bkb BK161 hb); replace HB := AX (below_step bw hb); clear hb hbox hg; have hnb69 := NB166_149.out; have hnc69 := NB149_166.out; have hnb70 := NB166_156.out; have hnc70 := NB156_166.out; have hnb71 := NB166_161.out; have hnc71 := NB161_166.out; obtain ⟨hcz72_0, hcz72_1, hcz72_2⟩ := blkC3 (w := w68) BK166.out; obtain ⟨hfz72_0, hfz72_1, hfz72_2⟩ := blkF3 BK166.out; have hnb73 := NB149_161.out; have hnc73 := NB161_149.out; obtain ⟨hcz74_0, hcz74_1, hcz74_2⟩ := blkC3 (w := w68) BK149.out; obtain ⟨hfz74_0, hfz74_1, hfz74_2⟩ := blkF3 BK149.out))
                    go_roundg k4
                    case measure => have := HK1.out; have := HK2.out; have := HJ24.out; have := HK4.out; omega
                    case rel => exact ⟨(wrap64 (x66_4 + 1)), (by first | rfl | (simp; done) | (simp [*]; done)), H', ⟨by have := HK1.out; have := HK2.out; have := HJ24.out; have := HK4.out; omega⟩, ⟨by (with_reducible repeat first|refine blk_drewN ?_ _|refine blk_drew ?_|refine blk_alloc ?_ _); refine blk_far ?_ NB149_166.out _; (with_reducible repeat first|refine blk_drewN ?_ _|refine blk_drew ?_|refine blk_alloc ?_ _); refine blk_far ?_ NB149_166.out _; (with_reducible repeat first|refine blk_drewN ?_ _|refine blk_drew ?_|refine blk_alloc ?_ _); refine blk_far ?_ NB149_166.out _; (with_reducible repeat first|refine blk_drewN ?_ _|refine blk_drew ?_|refine blk_alloc ?_ _); exact BK149.out⟩, ⟨by (with_reducible repeat first|refine blk_drewN ?_ _|refine blk_drew ?_|refine blk_alloc ?_ _); refine blk_far ?_ NB156_166.out _; (with_reducible repeat first|refine blk_drewN ?_ _|refine blk_drew ?_|refine blk_alloc ?_ _); refine blk_far ?_ NB156_166.out _; (with_reducible repeat first|refine blk_drewN ?_ _|refine blk_drew ?_|refine blk_alloc ?_ _); refine blk_far ?_ NB156_166.out _; (with_reducible repeat first|refine blk_drewN ?_ _|refine blk_drew ?_|refine blk_alloc ?_ _); exact BK156.out⟩, ⟨by (with_reducible repeat first|refine blk_drewN ?_ _|refine blk_drew ?_|refine blk_alloc ?_ _); refine blk_far ?_ NB161_166.out _; (with_reducible repeat first|refine blk_drewN ?_ _|refine blk_drew ?_|refine blk_alloc ?_ _); refine blk_far ?_ NB161_166.out _; (with_reducible repeat first|refine blk_drewN ?_ _|refine blk_drew ?_|refine blk_alloc ?_ _); refine blk_far ?_ NB161_166.out _; (with_reducible repeat first|refine blk_drewN ?_ _|refine blk_drew ?_|refine blk_alloc ?_ _); exact BK161.out⟩, ⟨bw⟩⟩
                  ·rw [if_neg c51] at H
                   have c51b0 : (t165 == 0) = false := beq_eq_false_iff_ne.mpr c51
                   have c51b1 : (t165 != 0) = true := bne_iff_ne.mpr c51
                   have H' := AX H
                   clear H
                   have hnb75 := NB156_149.out
                   have hnc75 := NB149_156.out
                   have hnb76 := NB156_161.out
                   have hnc76 := NB161_156.out
                   obtain ⟨hcz77_0, hcz77_1, hcz77_2, hcz77_3⟩ := blkC4 (w := wr) BK156.out
                   obtain ⟨hfz77_0, hfz77_1, hfz77_2, hfz77_3⟩ := blkF4 BK156.out
                   go_wp2_with (first | ((with_reducible refine gate_callee (f := 33) rfl ?_); refine gL (some 72) Try.func33 #[.agg #[.int .i64 ((rd_T65 l0 x38_2).f0), .int .i64 ((rd_T65 l0 x38_2).f1), .int .i64 ((rd_T65 l0 x38_2).f2), .int .i64 ((rd_T65 l0 x38_2).f3)], .int .i64 (wrap64 (a1_0 - 1))] ?_; (with_reducible refine (holiday_On.calls k4 ((rd_T65 l0 x38_2).f0) ((rd_T65 l0 x38_2).f1) ((rd_T65 l0 x38_2).f2) ((rd_T65 l0 x38_2).f3) (wrap64 (a1_0 - 1)) t162 t163 t164 t165 _ A50.out).mono ?_); rintro e w78 ⟨rfl, hb⟩; refine ⟨_, rfl, ?_⟩; replace BK149 := AX (bkb BK149 hb); replace BK156 := AX (bkb BK156 hb); replace BK161 := AX (bkb BK161 hb); replace HB := AX (below_step bw hb); (try clear hb)) | ((with_reducible refine gate_dst (N := 16) rfl ?_); refine bx 16 #[.int .i64 0, .int .i64 0, .int .i64 0] 24 ?_; intro gb166 hg w79 hbox hb; have BK166 := AX (hbox); have GW166 := gwl (w := w) hg bw; have GE166 := GW166; have NB149_166 := nbl hg (bkn BK149); have NB166_149 := nbg hg (bkn BK149); have NB156_166 := nbl hg (bkn BK156); have NB166_156 := nbg hg (bkn BK156); have NB161_166 := nbl hg (bkn BK161); have NB166_161 := nbg hg (bkn BK161); replace BK149 := AX (bkb BK149 hb); replace BK156 := AX (bkb BK156 hb); replace BK161 := AX (bkb BK161 hb); replace HB := AX (below_step bw hb); clear hb hbox hg; have hnb80 := NB166_149.out; have hnc80 := NB149_166.out; have hnb81 := NB166_156.out; have hnc81 := NB156_166.out; have hnb82 := NB166_161.out; have hnc82 := NB161_166.out; obtain ⟨hcz83_0, hcz83_1, hcz83_2⟩ := blkC3 (w := w79) BK166.out; obtain ⟨hfz83_0, hfz83_1, hfz83_2⟩ := blkF3 BK166.out))
                   go_roundg k4
                   case measure => have := HK1.out; have := HK2.out; have := HJ24.out; have := HK4.out; omega
                   case rel => exact ⟨(wrap64 (x66_4 + 1)), (by first | rfl | (simp; done) | (simp [*]; done)), H', ⟨by have := HK1.out; have := HK2.out; have := HJ24.out; have := HK4.out; omega⟩, ⟨by (with_reducible repeat first|refine blk_drewN ?_ _|refine blk_drew ?_|refine blk_alloc ?_ _); refine blk_far ?_ NB149_166.out _; (with_reducible repeat first|refine blk_drewN ?_ _|refine blk_drew ?_|refine blk_alloc ?_ _); refine blk_far ?_ NB149_166.out _; (with_reducible repeat first|refine blk_drewN ?_ _|refine blk_drew ?_|refine blk_alloc ?_ _); refine blk_far ?_ NB149_166.out _; (with_reducible repeat first|refine blk_drewN ?_ _|refine blk_drew ?_|refine blk_alloc ?_ _); exact BK149.out⟩, ⟨by (with_reducible repeat first|refine blk_drewN ?_ _|refine blk_drew ?_|refine blk_alloc ?_ _); refine blk_far ?_ NB156_166.out _; (with_reducible repeat first|refine blk_drewN ?_ _|refine blk_drew ?_|refine blk_alloc ?_ _); refine blk_far ?_ NB156_166.out _; (with_reducible repeat first|refine blk_drewN ?_ _|refine blk_drew ?_|refine blk_alloc ?_ _); refine blk_far ?_ NB156_166.out _; (with_reducible repeat first|refine blk_drewN ?_ _|refine blk_drew ?_|refine blk_alloc ?_ _); exact BK156.out⟩, ⟨by (with_reducible repeat first|refine blk_drewN ?_ _|refine blk_drew ?_|refine blk_alloc ?_ _); refine blk_far ?_ NB161_166.out _; (with_reducible repeat first|refine blk_drewN ?_ _|refine blk_drew ?_|refine blk_alloc ?_ _); refine blk_far ?_ NB161_166.out _; (with_reducible repeat first|refine blk_drewN ?_ _|refine blk_drew ?_|refine blk_alloc ?_ _); refine blk_far ?_ NB161_166.out _; (with_reducible repeat first|refine blk_drewN ?_ _|refine blk_drew ?_|refine blk_alloc ?_ _); exact BK161.out⟩, ⟨bw⟩⟩
                 ·rw [if_neg c49] at H
                  have c49b0 : (x66_4 == 0) = false := beq_eq_false_iff_ne.mpr c49
                  have c49b1 : (x66_4 != 0) = true := bne_iff_ne.mpr c49
                  by_cases c84 : x66_4 = 1
                  ·rw [if_pos c84] at H
                   have ixc84 : ∀ w_ : World, (Instr.index 111 (.agg #[.int .i64 (wrap64 (a1_0 - 1)), .int .i64 (wrap64 (a1_0 + 1))]) (.int .i64 x66_4)).run Try.prog w_ = .ok (.int .i64 (wrap64 (a1_0 + 1))) w_ := fun w_ => by rw [c84]; kernel_rfl
                   have c84b0 : (x66_4 == 1) = true := beq_iff_eq.mpr c84
                   have c84b1 : (x66_4 != 1) = false := bne_eq_false_iff_eq.mpr c84
                   clear c84
                   replace H := Option.bind_eq_some_iff.mp H
                   obtain ⟨⟨t167, t168, t169, t170⟩, A850, H⟩ := H
                   replace H : (if t170 = 0 then (if (t167 == a1_0 && (t168 == a1_1 && (t169 == a1_2))) = true then (some (true, 0)) else (holiday_Is.l2 k4 l0 (l0.length : Int) x38_2 (wrap64 (x66_4 + 1)) (wrap64 (a1_0 - 1)) (wrap64 (a1_0 + 1)) a1_0 a1_1 a1_2 ((rd_T65 l0 x38_2).f0) ((rd_T65 l0 x38_2).f1) ((rd_T65 l0 x38_2).f2) ((rd_T65 l0 x38_2).f3))) else (holiday_Is.l2 k4 l0 (l0.length : Int) x38_2 (wrap64 (x66_4 + 1)) (wrap64 (a1_0 - 1)) (wrap64 (a1_0 + 1)) a1_0 a1_1 a1_2 ((rd_T65 l0 x38_2).f0) ((rd_T65 l0 x38_2).f1) ((rd_T65 l0 x38_2).f2) ((rd_T65 l0 x38_2).f3))) = some (r1, r2) := H
                   have A85 := AX A850
                   clear A850
                   by_cases c86 : t170 = 0
                   ·rw [if_pos c86] at H
                    have c86b0 : (t170 == 0) = true := beq_iff_eq.mpr c86
                    have c86b1 : (t170 != 0) = false := bne_eq_false_iff_eq.mpr c86
                    clear c86
                    by_cases c87 : (t167 == a1_0 && (t168 == a1_1 && (t169 == a1_2))) = true
                    ·rw [if_pos c87] at H
                     have c87b0 : (t167 == a1_0 && (t168 == a1_1 && (t169 == a1_2))) = true := c87
                     (try (have c87b1 : decide (t167 = a1_0 && (t168 == a1_1 && (t169 == a1_2))) = true := by simpa using c87))
                     (try (have c87b2 : (t167 == a1_0 && (t168 == a1_1 && (t169 == a1_2))) = true := by simpa using c87))
                     clear c87
                     simp only [Option.some.injEq, Prod.mk.injEq] at H
                     obtain ⟨rfl, rfl⟩ := H
                     have hnb88 := NB156_149.out
                     have hnc88 := NB149_156.out
                     have hnb89 := NB156_161.out
                     have hnc89 := NB161_156.out
                     obtain ⟨hcz90_0, hcz90_1, hcz90_2, hcz90_3⟩ := blkC4 (w := wr) BK156.out
                     obtain ⟨hfz90_0, hfz90_1, hfz90_2, hfz90_3⟩ := blkF4 BK156.out
                     go_wp2_with (first | ((with_reducible refine gate_callee (f := 33) rfl ?_); refine gL (some 72) Try.func33 #[.agg #[.int .i64 ((rd_T65 l0 x38_2).f0), .int .i64 ((rd_T65 l0 x38_2).f1), .int .i64 ((rd_T65 l0 x38_2).f2), .int .i64 ((rd_T65 l0 x38_2).f3)], .int .i64 (wrap64 (a1_0 + 1))] ?_; (with_reducible refine (holiday_On.calls k4 ((rd_T65 l0 x38_2).f0) ((rd_T65 l0 x38_2).f1) ((rd_T65 l0 x38_2).f2) ((rd_T65 l0 x38_2).f3) (wrap64 (a1_0 + 1)) t167 t168 t169 t170 _ A85.out).mono ?_); rintro e w91 ⟨rfl, hb⟩; refine ⟨_, rfl, ?_⟩; replace BK149 := AX (bkb BK149 hb); replace BK156 := AX (bkb BK156 hb); replace BK161 := AX (bkb BK161 hb); replace HB := AX (below_step bw hb); (try clear hb)) | ((with_reducible refine gate_dst (N := 16) rfl ?_); refine bx 16 #[.int .i64 0, .int .i64 0, .int .i64 0] 24 ?_; intro gb171 hg w92 hbox hb; have BK171 := AX (hbox); have GW171 := gwl (w := w) hg bw; have GE171 := GW171; have NB149_171 := nbl hg (bkn BK149); have NB171_149 := nbg hg (bkn BK149); have NB156_171 := nbl hg (bkn BK156); have NB171_156 := nbg hg (bkn BK156); have NB161_171 := nbl hg (bkn BK161); have NB171_161 := nbg hg (bkn BK161); replace BK149 := AX (bkb BK149 hb); replace BK156 := AX (bkb BK156 hb); replace BK161 := AX (bkb BK161 hb); replace HB := AX (below_step bw hb); clear hb hbox hg; have hnb93 := NB171_149.out; have hnc93 := NB149_171.out; have hnb94 := NB171_156.out; have hnc94 := NB156_171.out; have hnb95 := NB171_161.out; have hnc95 := NB161_171.out; obtain ⟨hcz96_0, hcz96_1, hcz96_2⟩ := blkC3 (w := w92) BK171.out; obtain ⟨hfz96_0, hfz96_1, hfz96_2⟩ := blkF3 BK171.out; have hnb97 := NB149_161.out; have hnc97 := NB161_149.out; obtain ⟨hcz98_0, hcz98_1, hcz98_2⟩ := blkC3 (w := w92) BK149.out; obtain ⟨hfz98_0, hfz98_1, hfz98_2⟩ := blkF3 BK149.out))
                     go_ret2
                     exact ⟨by first | rfl | (simp [errW_none, errW_some] <;> rfl) | (simp [*, errW_none, errW_some] <;> rfl), bw⟩
                    ·rw [if_neg c87] at H
                     have c87b0 : (t167 == a1_0 && (t168 == a1_1 && (t169 == a1_2))) = false := by simpa using c87
                     (try (have c87b1 : decide (t167 = a1_0 && (t168 == a1_1 && (t169 == a1_2))) = false := by simpa using c87))
                     (try (have c87b2 : (t167 == a1_0 && (t168 == a1_1 && (t169 == a1_2))) = false := by simpa using c87))
                     (try (have c87b3 : ¬ (t167 = a1_0 && (t168 == a1_1 && (t169 == a1_2))) := by simpa using c87))
                     clear c87
                     have H' := AX H
                     clear H
                     have hnb99 := NB156_149.out
                     have hnc99 := NB149_156.out
                     have hnb100 := NB156_161.out
                     have hnc100 := NB161_156.out
                     obtain ⟨hcz101_0, hcz101_1, hcz101_2, hcz101_3⟩ := blkC4 (w := wr) BK156.out
                     obtain ⟨hfz101_0, hfz101_1, hfz101_2, hfz101_3⟩ := blkF4 BK156.out
                     go_wp2_with (first | ((with_reducible refine gate_callee (f := 33) rfl ?_); refine gL (some 72) Try.func33 #[.agg #[.int .i64 ((rd_T65 l0 x38_2).f0), .int .i64 ((rd_T65 l0 x38_2).f1), .int .i64 ((rd_T65 l0 x38_2).f2), .int .i64 ((rd_T65 l0 x38_2).f3)], .int .i64 (wrap64 (a1_0 + 1))] ?_; (with_reducible refine (holiday_On.calls k4 ((rd_T65 l0 x38_2).f0) ((rd_T65 l0 x38_2).f1) ((rd_T65 l0 x38_2).f2) ((rd_T65 l0 x38_2).f3) (wrap64 (a1_0 + 1)) t167 t168 t169 t170 _ A85.out).mono ?_); rintro e w102 ⟨rfl, hb⟩; refine ⟨_, rfl, ?_⟩; replace BK149 := AX (bkb BK149 hb); replace BK156 := AX (bkb BK156 hb); replace BK161 := AX (bkb BK161 hb); replace HB := AX (below_step bw hb); (try clear hb)) | ((with_reducible refine gate_dst (N := 16) rfl ?_); refine bx 16 #[.int .i64 0, .int .i64 0, .int .i64 0] 24 ?_; intro gb171 hg w103 hbox hb; have BK171 := AX (hbox); have GW171 := gwl (w := w) hg bw; have GE171 := GW171; have NB149_171 := nbl hg (bkn BK149); have NB171_149 := nbg hg (bkn BK149); have NB156_171 := nbl hg (bkn BK156); have NB171_156 := nbg hg (bkn BK156); have NB161_171 := nbl hg (bkn BK161); have NB171_161 := nbg hg (bkn BK161); replace BK149 := AX (bkb BK149 hb); replace BK156 := AX (bkb BK156 hb); replace BK161 := AX (bkb BK161 hb); replace HB := AX (below_step bw hb); clear hb hbox hg; have hnb104 := NB171_149.out; have hnc104 := NB149_171.out; have hnb105 := NB171_156.out; have hnc105 := NB156_171.out; have hnb106 := NB171_161.out; have hnc106 := NB161_171.out; obtain ⟨hcz107_0, hcz107_1, hcz107_2⟩ := blkC3 (w := w103) BK171.out; obtain ⟨hfz107_0, hfz107_1, hfz107_2⟩ := blkF3 BK171.out; have hnb108 := NB149_161.out; have hnc108 := NB161_149.out; obtain ⟨hcz109_0, hcz109_1, hcz109_2⟩ := blkC3 (w := w103) BK149.out; obtain ⟨hfz109_0, hfz109_1, hfz109_2⟩ := blkF3 BK149.out))
                     go_roundg k4
                     case measure => have := HK1.out; have := HK2.out; have := HJ24.out; have := HK4.out; omega
                     case rel => exact ⟨(wrap64 (x66_4 + 1)), (by first | rfl | (simp; done) | (simp [*]; done)), H', ⟨by have := HK1.out; have := HK2.out; have := HJ24.out; have := HK4.out; omega⟩, ⟨by (with_reducible repeat first|refine blk_drewN ?_ _|refine blk_drew ?_|refine blk_alloc ?_ _); refine blk_far ?_ NB149_171.out _; (with_reducible repeat first|refine blk_drewN ?_ _|refine blk_drew ?_|refine blk_alloc ?_ _); refine blk_far ?_ NB149_171.out _; (with_reducible repeat first|refine blk_drewN ?_ _|refine blk_drew ?_|refine blk_alloc ?_ _); refine blk_far ?_ NB149_171.out _; (with_reducible repeat first|refine blk_drewN ?_ _|refine blk_drew ?_|refine blk_alloc ?_ _); exact BK149.out⟩, ⟨by (with_reducible repeat first|refine blk_drewN ?_ _|refine blk_drew ?_|refine blk_alloc ?_ _); refine blk_far ?_ NB156_171.out _; (with_reducible repeat first|refine blk_drewN ?_ _|refine blk_drew ?_|refine blk_alloc ?_ _); refine blk_far ?_ NB156_171.out _; (with_reducible repeat first|refine blk_drewN ?_ _|refine blk_drew ?_|refine blk_alloc ?_ _); refine blk_far ?_ NB156_171.out _; (with_reducible repeat first|refine blk_drewN ?_ _|refine blk_drew ?_|refine blk_alloc ?_ _); exact BK156.out⟩, ⟨by (with_reducible repeat first|refine blk_drewN ?_ _|refine blk_drew ?_|refine blk_alloc ?_ _); refine blk_far ?_ NB161_171.out _; (with_reducible repeat first|refine blk_drewN ?_ _|refine blk_drew ?_|refine blk_alloc ?_ _); refine blk_far ?_ NB161_171.out _; (with_reducible repeat first|refine blk_drewN ?_ _|refine blk_drew ?_|refine blk_alloc ?_ _); refine blk_far ?_ NB161_171.out _; (with_reducible repeat first|refine blk_drewN ?_ _|refine blk_drew ?_|refine blk_alloc ?_ _); exact BK161.out⟩, ⟨bw⟩⟩
                   ·rw [if_neg c86] at H
                    have c86b0 : (t170 == 0) = false := beq_eq_false_iff_ne.mpr c86
                    have c86b1 : (t170 != 0) = true := bne_iff_ne.mpr c86
                    have H' := AX H
                    clear H
                    have hnb110 := NB156_149.out
                    have hnc110 := NB149_156.out
                    have hnb111 := NB156_161.out
                    have hnc111 := NB161_156.out
                    obtain ⟨hcz112_0, hcz112_1, hcz112_2, hcz112_3⟩ := blkC4 (w := wr) BK156.out
                    obtain ⟨hfz112_0, hfz112_1, hfz112_2, hfz112_3⟩ := blkF4 BK156.out
                    go_wp2_with (first | ((with_reducible refine gate_callee (f := 33) rfl ?_); refine gL (some 72) Try.func33 #[.agg #[.int .i64 ((rd_T65 l0 x38_2).f0), .int .i64 ((rd_T65 l0 x38_2).f1), .int .i64 ((rd_T65 l0 x38_2).f2), .int .i64 ((rd_T65 l0 x38_2).f3)], .int .i64 (wrap64 (a1_0 + 1))] ?_; (with_reducible refine (holiday_On.calls k4 ((rd_T65 l0 x38_2).f0) ((rd_T65 l0 x38_2).f1) ((rd_T65 l0 x38_2).f2) ((rd_T65 l0 x38_2).f3) (wrap64 (a1_0 + 1)) t167 t168 t169 t170 _ A85.out).mono ?_); rintro e w113 ⟨rfl, hb⟩; refine ⟨_, rfl, ?_⟩; replace BK149 := AX (bkb BK149 hb); replace BK156 := AX (bkb BK156 hb); replace BK161 := AX (bkb BK161 hb); replace HB := AX (below_step bw hb); (try clear hb)) | ((with_reducible refine gate_dst (N := 16) rfl ?_); refine bx 16 #[.int .i64 0, .int .i64 0, .int .i64 0] 24 ?_; intro gb171 hg w114 hbox hb; have BK171 := AX (hbox); have GW171 := gwl (w := w) hg bw; have GE171 := GW171; have NB149_171 := nbl hg (bkn BK149); have NB171_149 := nbg hg (bkn BK149); have NB156_171 := nbl hg (bkn BK156); have NB171_156 := nbg hg (bkn BK156); have NB161_171 := nbl hg (bkn BK161); have NB171_161 := nbg hg (bkn BK161); replace BK149 := AX (bkb BK149 hb); replace BK156 := AX (bkb BK156 hb); replace BK161 := AX (bkb BK161 hb); replace HB := AX (below_step bw hb); clear hb hbox hg; have hnb115 := NB171_149.out; have hnc115 := NB149_171.out; have hnb116 := NB171_156.out; have hnc116 := NB156_171.out; have hnb117 := NB171_161.out; have hnc117 := NB161_171.out; obtain ⟨hcz118_0, hcz118_1, hcz118_2⟩ := blkC3 (w := w114) BK171.out; obtain ⟨hfz118_0, hfz118_1, hfz118_2⟩ := blkF3 BK171.out))
                    go_roundg k4
                    case measure => have := HK1.out; have := HK2.out; have := HJ24.out; have := HK4.out; omega
                    case rel => exact ⟨(wrap64 (x66_4 + 1)), (by first | rfl | (simp; done) | (simp [*]; done)), H', ⟨by have := HK1.out; have := HK2.out; have := HJ24.out; have := HK4.out; omega⟩, ⟨by (with_reducible repeat first|refine blk_drewN ?_ _|refine blk_drew ?_|refine blk_alloc ?_ _); refine blk_far ?_ NB149_171.out _; (with_reducible repeat first|refine blk_drewN ?_ _|refine blk_drew ?_|refine blk_alloc ?_ _); refine blk_far ?_ NB149_171.out _; (with_reducible repeat first|refine blk_drewN ?_ _|refine blk_drew ?_|refine blk_alloc ?_ _); refine blk_far ?_ NB149_171.out _; (with_reducible repeat first|refine blk_drewN ?_ _|refine blk_drew ?_|refine blk_alloc ?_ _); exact BK149.out⟩, ⟨by (with_reducible repeat first|refine blk_drewN ?_ _|refine blk_drew ?_|refine blk_alloc ?_ _); refine blk_far ?_ NB156_171.out _; (with_reducible repeat first|refine blk_drewN ?_ _|refine blk_drew ?_|refine blk_alloc ?_ _); refine blk_far ?_ NB156_171.out _; (with_reducible repeat first|refine blk_drewN ?_ _|refine blk_drew ?_|refine blk_alloc ?_ _); refine blk_far ?_ NB156_171.out _; (with_reducible repeat first|refine blk_drewN ?_ _|refine blk_drew ?_|refine blk_alloc ?_ _); exact BK156.out⟩, ⟨by (with_reducible repeat first|refine blk_drewN ?_ _|refine blk_drew ?_|refine blk_alloc ?_ _); refine blk_far ?_ NB161_171.out _; (with_reducible repeat first|refine blk_drewN ?_ _|refine blk_drew ?_|refine blk_alloc ?_ _); refine blk_far ?_ NB161_171.out _; (with_reducible repeat first|refine blk_drewN ?_ _|refine blk_drew ?_|refine blk_alloc ?_ _); refine blk_far ?_ NB161_171.out _; (with_reducible repeat first|refine blk_drewN ?_ _|refine blk_drew ?_|refine blk_alloc ?_ _); exact BK161.out⟩, ⟨bw⟩⟩
                  ·rw [if_neg c84] at H
                   exact absurd H (by simp)
                ·rw [if_neg c48] at H
                 have c48b0 : decide (x66_4 < 2) = false := decide_eq_false c48
                 clear c48
                 have H' := AX H
                 clear H
                 go_wp2
                 go_roundg k4
                 case measure => have := HK1.out; have := HK2.out; have := HJ24.out; have := HK4.out; omega
                 case rel => exact ⟨(wrap64 (x38_2 + 1)), (by first | rfl | (simp; done) | (simp [*]; done)), H', ⟨by have := HK1.out; have := HK2.out; have := HJ24.out; have := HK4.out; omega⟩, ⟨bkn BK149⟩, ⟨bw⟩⟩
             ·rw [if_neg c42] at H
              have c42b0 : (((rd_T65 l0 x38_2).f0) == 3) = false := beq_eq_false_iff_ne.mpr c42
              have c42b1 : (((rd_T65 l0 x38_2).f0) != 3) = true := bne_iff_ne.mpr c42
              have H' := AX H
              clear H
              have hnb119 := NB156_149.out
              have hnc119 := NB149_156.out
              have hnb120 := NB156_161.out
              have hnc120 := NB161_156.out
              obtain ⟨hcz121_0, hcz121_1, hcz121_2, hcz121_3⟩ := blkC4 (w := wc) BK156.out
              obtain ⟨hfz121_0, hfz121_1, hfz121_2, hfz121_3⟩ := blkF4 BK156.out
              go_wp2
              go_roundg kj24
              case measure => have := HK1.out; have := HK2.out; have := HJ24.out; omega
              case rel => exact ⟨(wrap64 (x38_2 + 1)), (by first | rfl | (simp; done) | (simp [*]; done)), H', ⟨by have := HK1.out; have := HK2.out; have := HJ24.out; omega⟩, ⟨bkn BK149⟩, ⟨bw⟩⟩
         ·rw [if_neg c23] at H
          exact absurd H (by simp)
        ·rw [if_neg c22] at H
         exact absurd H (by simp)
       ·rw [if_neg c21] at H
        have c21b0 : decide (x38_2 < (l0.length : Int)) = false := decide_eq_false c21
        clear c21
        simp only [Option.some.injEq, Prod.mk.injEq] at H
        obtain ⟨rfl, rfl⟩ := H
        go_wp2
        go_ret2
        exact ⟨by first | rfl | (simp [errW_none, errW_some] <;> rfl) | (simp [*, errW_none, errW_some] <;> rfl), bw⟩
    ·rw [if_neg c18] at H
     have c18b0 : (t154 == 0) = false := beq_eq_false_iff_ne.mpr c18
     have c18b1 : (t154 != 0) = true := bne_iff_ne.mpr c18
     simp only [Option.some.injEq, Prod.mk.injEq] at H
     obtain ⟨rfl, rfl⟩ := H
     obtain ⟨hcz122_0, hcz122_1, hcz122_2⟩ := blkC3 (w := wr) BK149.out
     obtain ⟨hfz122_0, hfz122_1, hfz122_2⟩ := blkF3 BK149.out
     go_wp2_with (first | ((with_reducible refine gate_callee (f := 48) rfl ?_); refine gL (some 30) Try.func48 #[.agg #[.int .i64 a1_0, .int .i64 a1_1, .int .i64 a1_2]] ?_; (with_reducible refine (civil_Days.calls a1_0 a1_1 a1_2 t153 t154 _ A17.out).mono ?_); rintro e w123 ⟨rfl, hb⟩; refine ⟨_, rfl, ?_⟩; replace BK149 := AX (bkb BK149 hb); replace HB := AX (below_step bw hb); (try clear hb)))
     go_ret2
     exact ⟨by first | rfl | (simp [errW_none, errW_some] <;> rfl) | (simp [*, errW_none, errW_some] <;> rfl), bw⟩

end Go.Proofs.Ytkggjjggcbcdiaa.PX
