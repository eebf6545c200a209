/- Functions of the program as plain Lean functions, each with a proof that the call in the machine answers just what the plain function says; condition: the plain function answers at all. -/
import Derived.Test.YtpogcehbciacdaaPXx0
namespace Go.Proofs.Ytpogcehbciacdaa.PX
open Go.RowKit Go.Proofs.YtpogcehbciacdaaW.PrintWords Go.Proofs.YtpogcehbciacdaaW.PrintLast Go.Proofs.YtpogcehbciacdaaW.PrintMore
attribute [local go_sem] max2_int min2_int max_two min_two max_three min_three max_four min_four   -- for this text's walks alone
set_option linter.unusedVariables false
set_option linter.unusedSimpArgs false

/-! ### bank_sum: function 21 -/
def bank_sum.l0 : Nat → Int → Int → List (S32) → Int → Int → Option (Int × Bool)
 | 0, _, _, _, _, _ => none
 | k + 1, x4, x5, x8, x9, x10 => if x10 < x9 then (if 0 ≤ x10 then (if x10 < (x8.length : Int) then (if ((rd_T32 x8 x10).f0) < 1 then (some (0, false)) else (if ((rd_T32 x8 x10).f0) > (wrap64 (1000000000000000 - x4)) then (some (0, false)) else (if ((rd_T32 x8 x10).f1) < 0 then (some (0, false)) else (if ((rd_T32 x8 x10).f1) > x5 then (some (0, false)) else (bank_sum.l0 k (wrap64 (x4 + ((rd_T32 x8 x10).f0))) ((rd_T32 x8 x10).f1) x8 x9 (wrap64 (x10 + 1))))))) else (none)) else (none)) else (some (x4, true))
def bank_sum.f (k : Nat) (l0 : List (S32)) : Option (Int × Bool) := bank_sum.l0 k 0 36 l0 (l0.length : Int) 0
theorem bank_sum.mono_l : ∀ k, (∀ y0 y1 y2 y3 y4, LeO (bank_sum.l0 k y0 y1 y2 y3 y4) (bank_sum.l0 (k + 1) y0 y1 y2 y3 y4))
 | 0 => fun _ _ _ _ _ r h => by simp [bank_sum.l0] at h
 | k + 1 => by
  have ih0 := bank_sum.mono_l k
  ·intro y0 y1 y2 y3 y4
   unfold bank_sum.l0
   repeat' first
   | (with_reducible exact ih0 _ _ _ _ _)
   | (with_reducible exact LeO.refl _)
   | (with_reducible exact LeO.none _)
   | (with_reducible refine LeO.ite ?_ ?_)
   | (with_reducible refine LeO.bind ?_ (fun _ => ?_))
theorem bank_sum.mono : ∀ a0 k, LeO (bank_sum.f k a0) (bank_sum.f (k + 1) a0) := by
 intro a0 k
 have ih0 := bank_sum.mono_l k
 unfold bank_sum.f
 repeat' first
   | (with_reducible exact ih0 _ _ _ _ _)
   | (with_reducible exact LeO.refl _)
   | (with_reducible exact LeO.none _)
   | (with_reducible refine LeO.ite ?_ ?_)
   | (with_reducible refine LeO.bind ?_ (fun _ => ?_))
set_option maxHeartbeats 8000000 in
set_option maxRecDepth 100000 in
theorem bank_sum.calls (k : Nat) (A0 : Option Addr) (c0 : Nat) (l0 : List (S32)) (r1 : Int) (r2 : Bool) (w : World) (hr0 : Kd.C k32 w A0 l0.length l0) (hc0 : l0.length ≤ c0) (h : bank_sum.f k l0 = some (r1, r2)) :
  Calls Try.prog 21 #[.slice A0 l0.length c0] w fun e w' => e = .returned (.tuple #[.int .i64 r1, .bool r2]) ∧ Below w.heap.size w w' := by
 have hu32 := Try.underlying32
 have HR0 := AX hr0
 have HC0 := AX hc0
 clear hr0 hc0
 have HB := AX (Below.refl w.heap.size w)
 have H : (bank_sum.l0 k 0 36 l0 (l0.length : Int) 0) = some (r1, r2) := h
 clear h
 have H' := AX H
 clear H
 go_enter Try.func21, Try.ntmps21
 go_wp2
 repeat (go_quiet (fail); try go_wp2)
 go_loopg [4, 5, 10] k (fun kq v4 v5 v10 w' => ∃ (x4_1 : Int) (x5_1 : Int) (x10_1 : Int), v4 = .int .i64 x4_1 ∧ v5 = .int .i64 x5_1 ∧ v10 = .int .i64 x10_1 ∧ Aside0 (bank_sum.l0 kq x4_1 x5_1 l0 (l0.length : Int) x10_1 = some (r1, r2)) ∧ Aside0 (kq ≤ k) ∧ Aside0 (Below w.heap.size w w'))
 case atStart => exact ⟨(0), (36), (0), (by first | rfl | (simp; done) | (simp [*]; done)), (by first | rfl | (simp; done) | (simp [*]; done)), (by first | rfl | (simp; done) | (simp [*]; done)), H', ⟨Nat.le_refl _⟩, ⟨bw⟩⟩
 case round =>
  clear H'
  obtain ⟨x4_1, x5_1, x10_1, rfl, rfl, rfl, HA, HK1, HB⟩ := hrel
  cases gk with
  | zero => exact absurd HA.out (by simp [bank_sum.l0])
  | succ k1 =>
   have H := HA.out
   clear HA
   simp only [bank_sum.l0] at H
   by_cases c2 : x10_1 < (l0.length : Int)
   ·rw [if_pos c2] at H
    have c2b0 : decide (x10_1 < (l0.length : Int)) = true := decide_eq_true c2
    clear c2
    by_cases c3 : 0 ≤ x10_1
    ·rw [if_pos c3] at H
     have c3b0 : decide (0 ≤ x10_1) = true := decide_eq_true c3
     clear c3
     by_cases c4 : x10_1 < (l0.length : Int)
     ·rw [if_pos c4] at H
      have c4b0 : decide (x10_1 < (l0.length : Int)) = true := decide_eq_true c4
      clear c4
      by_cases c5 : ((rd_T32 l0 x10_1).f0) < 1
      ·rw [if_pos c5] at H
       have c5b0 : decide (((rd_T32 l0 x10_1).f0) < 1) = true := decide_eq_true c5
       clear c5
       simp only [Option.some.injEq, Prod.mk.injEq] at H
       obtain ⟨rfl, rfl⟩ := H
       have p101 : 0 ≤ (x10_1 : Int) := of_decide_eq_true (by first | (with_reducible assumption) | assumption)
       have q101 : x10_1 < (l0.length : Int) := of_decide_eq_true (by first | (with_reducible assumption) | assumption)
       obtain ⟨ad101, e101, hx101_0, hx101_1⟩ := at_T32 HR0.out x10_1 p101 q101
       cases e101
       replace hx101_0 := bcl HB hx101_0
       replace hx101_1 := bcl HB hx101_1
       replace p101 := eq_true p101
       replace q101 := eq_true q101
       go_wp2_with (first | ((with_reducible refine gate_dst (N := 7) rfl ?_); refine bx 7 #[.int .i64 0, .int .i64 0] 32 ?_; intro gb102 hg w6 hbox hb; have BK102 := AX (hbox); have GW102 := gwl (w := w) hg bw; have GE102 := GW102; replace HB := AX (below_step bw hb); clear hb hbox hg; obtain ⟨hcz7_0, hcz7_1⟩ := blkC2 (w := w6) BK102.out; obtain ⟨hfz7_0, hfz7_1⟩ := blkF2 BK102.out))
       repeat (go_quiet (first | ((with_reducible refine gate_dst (N := 7) rfl ?_); refine bx 7 #[.int .i64 0, .int .i64 0] 32 ?_; intro gb102 hg w6 hbox hb; have BK102 := AX (hbox); have GW102 := gwl (w := w) hg bw; have GE102 := GW102; replace HB := AX (below_step bw hb); clear hb hbox hg; obtain ⟨hcz7_0, hcz7_1⟩ := blkC2 (w := w6) BK102.out; obtain ⟨hfz7_0, hfz7_1⟩ := blkF2 BK102.out)); try go_wp2_with (first | ((with_reducible refine gate_dst (N := 7) rfl ?_); refine bx 7 #[.int .i64 0, .int .i64 0] 32 ?_; intro gb102 hg w6 hbox hb; have BK102 := AX (hbox); have GW102 := gwl (w := w) hg bw; have GE102 := GW102; replace HB := AX (below_step bw hb); clear hb hbox hg; obtain ⟨hcz7_0, hcz7_1⟩ := blkC2 (w := w6) BK102.out; obtain ⟨hfz7_0, hfz7_1⟩ := blkF2 BK102.out)))
       go_ret2
       exact ⟨by first | rfl | (simp [errW_none, errW_some] <;> rfl) | (simp [*, errW_none, errW_some] <;> rfl), bw⟩
      ·rw [if_neg c5] at H
       have c5b0 : decide (((rd_T32 l0 x10_1).f0) < 1) = false := decide_eq_false c5
       clear c5
       by_cases c8 : ((rd_T32 l0 x10_1).f0) > (wrap64 (1000000000000000 - x4_1))
       ·rw [if_pos c8] at H
        have c8b0 : decide ((wrap64 (1000000000000000 - x4_1)) < ((rd_T32 l0 x10_1).f0)) = true := decide_eq_true c8
        clear c8
        simp only [Option.some.injEq, Prod.mk.injEq] at H
        obtain ⟨rfl, rfl⟩ := H
        have p101 : 0 ≤ (x10_1 : Int) := of_decide_eq_true (by first | (with_reducible assumption) | assumption)
        have q101 : x10_1 < (l0.length : Int) := of_decide_eq_true (by first | (with_reducible assumption) | assumption)
        obtain ⟨ad101, e101, hx101_0, hx101_1⟩ := at_T32 HR0.out x10_1 p101 q101
        cases e101
        replace hx101_0 := bcl HB hx101_0
        replace hx101_1 := bcl HB hx101_1
        replace p101 := eq_true p101
        replace q101 := eq_true q101
        go_wp2_with (first | ((with_reducible refine gate_dst (N := 7) rfl ?_); refine bx 7 #[.int .i64 0, .int .i64 0] 32 ?_; intro gb102 hg w9 hbox hb; have BK102 := AX (hbox); have GW102 := gwl (w := w) hg bw; have GE102 := GW102; replace HB := AX (below_step bw hb); clear hb hbox hg; obtain ⟨hcz10_0, hcz10_1⟩ := blkC2 (w := w9) BK102.out; obtain ⟨hfz10_0, hfz10_1⟩ := blkF2 BK102.out))
        repeat (go_quiet (first | ((with_reducible refine gate_dst (N := 7) rfl ?_); refine bx 7 #[.int .i64 0, .int .i64 0] 32 ?_; intro gb102 hg w9 hbox hb; have BK102 := AX (hbox); have GW102 := gwl (w := w) hg bw; have GE102 := GW102; replace HB := AX (below_step bw hb); clear hb hbox hg; obtain ⟨hcz10_0, hcz10_1⟩ := blkC2 (w := w9) BK102.out; obtain ⟨hfz10_0, hfz10_1⟩ := blkF2 BK102.out)); try go_wp2_with (first | ((with_reducible refine gate_dst (N := 7) rfl ?_); refine bx 7 #[.int .i64 0, .int .i64 0] 32 ?_; intro gb102 hg w9 hbox hb; have BK102 := AX (hbox); have GW102 := gwl (w := w) hg bw; have GE102 := GW102; replace HB := AX (below_step bw hb); clear hb hbox hg; obtain ⟨hcz10_0, hcz10_1⟩ := blkC2 (w := w9) BK102.out; obtain ⟨hfz10_0, hfz10_1⟩ := blkF2 BK102.out)))
        go_ret2
        exact ⟨by first | rfl | (simp [errW_none, errW_some] <;> rfl) | (simp [*, errW_none, errW_some] <;> rfl), bw⟩
       ·rw [if_neg c8] at H
        have c8b0 : decide ((wrap64 (1000000000000000 - x4_1)) < ((rd_T32 l0 x10_1).f0)) = false := decide_eq_false c8
        clear c8
        by_cases c11 : ((rd_T32 l0 x10_1).f1) < 0
        ·rw [if_pos c11] at H
         have c11b0 : decide (((rd_T32 l0 x10_1).f1) < 0) = true := decide_eq_true c11
         clear c11
         simp only [Option.some.injEq, Prod.mk.injEq] at H
         obtain ⟨rfl, rfl⟩ := H
         have p101 : 0 ≤ (x10_1 : Int) := of_decide_eq_true (by first | (with_reducible assumption) | assumption)
         have q101 : x10_1 < (l0.length : Int) := of_decide_eq_true (by first | (with_reducible assumption) | assumption)
         obtain ⟨ad101, e101, hx101_0, hx101_1⟩ := at_T32 HR0.out x10_1 p101 q101
         cases e101
         replace hx101_0 := bcl HB hx101_0
         replace hx101_1 := bcl HB hx101_1
         replace p101 := eq_true p101
         replace q101 := eq_true q101
         go_wp2_with (first | ((with_reducible refine gate_dst (N := 7) rfl ?_); refine bx 7 #[.int .i64 0, .int .i64 0] 32 ?_; intro gb102 hg w12 hbox hb; have BK102 := AX (hbox); have GW102 := gwl (w := w) hg bw; have GE102 := GW102; replace HB := AX (below_step bw hb); clear hb hbox hg; obtain ⟨hcz13_0, hcz13_1⟩ := blkC2 (w := w12) BK102.out; obtain ⟨hfz13_0, hfz13_1⟩ := blkF2 BK102.out))
         repeat (go_quiet (first | ((with_reducible refine gate_dst (N := 7) rfl ?_); refine bx 7 #[.int .i64 0, .int .i64 0] 32 ?_; intro gb102 hg w12 hbox hb; have BK102 := AX (hbox); have GW102 := gwl (w := w) hg bw; have GE102 := GW102; replace HB := AX (below_step bw hb); clear hb hbox hg; obtain ⟨hcz13_0, hcz13_1⟩ := blkC2 (w := w12) BK102.out; obtain ⟨hfz13_0, hfz13_1⟩ := blkF2 BK102.out)); try go_wp2_with (first | ((with_reducible refine gate_dst (N := 7) rfl ?_); refine bx 7 #[.int .i64 0, .int .i64 0] 32 ?_; intro gb102 hg w12 hbox hb; have BK102 := AX (hbox); have GW102 := gwl (w := w) hg bw; have GE102 := GW102; replace HB := AX (below_step bw hb); clear hb hbox hg; obtain ⟨hcz13_0, hcz13_1⟩ := blkC2 (w := w12) BK102.out; obtain ⟨hfz13_0, hfz13_1⟩ := blkF2 BK102.out)))
         go_ret2
         exact ⟨by first | rfl | (simp [errW_none, errW_some] <;> rfl) | (simp [*, errW_none, errW_some] <;> rfl), bw⟩
        ·rw [if_neg c11] at H
         have c11b0 : decide (((rd_T32 l0 x10_1).f1) < 0) = false := decide_eq_false c11
         clear c11
         by_cases c14 : ((rd_T32 l0 x10_1).f1) > x5_1
         ·rw [if_pos c14] at H
          have c14b0 : decide (x5_1 < ((rd_T32 l0 x10_1).f1)) = true := decide_eq_true c14
          clear c14
          simp only [Option.some.injEq, Prod.mk.injEq] at H
          obtain ⟨rfl, rfl⟩ := H
          have p101 : 0 ≤ (x10_1 : Int) := of_decide_eq_true (by first | (with_reducible assumption) | assumption)
          have q101 : x10_1 < (l0.length : Int) := of_decide_eq_true (by first | (with_reducible assumption) | assumption)
          obtain ⟨ad101, e101, hx101_0, hx101_1⟩ := at_T32 HR0.out x10_1 p101 q101
          cases e101
          replace hx101_0 := bcl HB hx101_0
          replace hx101_1 := bcl HB hx101_1
          replace p101 := eq_true p101
          replace q101 := eq_true q101
          go_wp2_with (first | ((with_reducible refine gate_dst (N := 7) rfl ?_); refine bx 7 #[.int .i64 0, .int .i64 0] 32 ?_; intro gb102 hg w15 hbox hb; have BK102 := AX (hbox); have GW102 := gwl (w := w) hg bw; have GE102 := GW102; replace HB := AX (below_step bw hb); clear hb hbox hg; obtain ⟨hcz16_0, hcz16_1⟩ := blkC2 (w := w15) BK102.out; obtain ⟨hfz16_0, hfz16_1⟩ := blkF2 BK102.out))
          repeat (go_quiet (first | ((with_reducible refine gate_dst (N := 7) rfl ?_); refine bx 7 #[.int .i64 0, .int .i64 0] 32 ?_; intro gb102 hg w15 hbox hb; have BK102 := AX (hbox); have GW102 := gwl (w := w) hg bw; have GE102 := GW102; replace HB := AX (below_step bw hb); clear hb hbox hg; obtain ⟨hcz16_0, hcz16_1⟩ := blkC2 (w := w15) BK102.out; obtain ⟨hfz16_0, hfz16_1⟩ := blkF2 BK102.out)); try go_wp2_with (first | ((with_reducible refine gate_dst (N := 7) rfl ?_); refine bx 7 #[.int .i64 0, .int .i64 0] 32 ?_; intro gb102 hg w15 hbox hb; have BK102 := AX (hbox); have GW102 := gwl (w := w) hg bw; have GE102 := GW102; replace HB := AX (below_step bw hb); clear hb hbox hg; obtain ⟨hcz16_0, hcz16_1⟩ := blkC2 (w := w15) BK102.out; obtain ⟨hfz16_0, hfz16_1⟩ := blkF2 BK102.out)))
          go_ret2
          exact ⟨by first | rfl | (simp [errW_none, errW_some] <;> rfl) | (simp [*, errW_none, errW_some] <;> rfl), bw⟩
         ·rw [if_neg c14] at H
          have c14b0 : decide (x5_1 < ((rd_T32 l0 x10_1).f1)) = false := decide_eq_false c14
          clear c14
          have H' := AX H
          clear H
          have p101 : 0 ≤ (x10_1 : Int) := of_decide_eq_true (by first | (with_reducible assumption) | assumption)
          have q101 : x10_1 < (l0.length : Int) := of_decide_eq_true (by first | (with_reducible assumption) | assumption)
          obtain ⟨ad101, e101, hx101_0, hx101_1⟩ := at_T32 HR0.out x10_1 p101 q101
          cases e101
          replace hx101_0 := bcl HB hx101_0
          replace hx101_1 := bcl HB hx101_1
          replace p101 := eq_true p101
          replace q101 := eq_true q101
          go_wp2_with (first | ((with_reducible refine gate_dst (N := 7) rfl ?_); refine bx 7 #[.int .i64 0, .int .i64 0] 32 ?_; intro gb102 hg w17 hbox hb; have BK102 := AX (hbox); have GW102 := gwl (w := w) hg bw; have GE102 := GW102; replace HB := AX (below_step bw hb); clear hb hbox hg; obtain ⟨hcz18_0, hcz18_1⟩ := blkC2 (w := w17) BK102.out; obtain ⟨hfz18_0, hfz18_1⟩ := blkF2 BK102.out))
          repeat (go_quiet (first | ((with_reducible refine gate_dst (N := 7) rfl ?_); refine bx 7 #[.int .i64 0, .int .i64 0] 32 ?_; intro gb102 hg w17 hbox hb; have BK102 := AX (hbox); have GW102 := gwl (w := w) hg bw; have GE102 := GW102; replace HB := AX (below_step bw hb); clear hb hbox hg; obtain ⟨hcz18_0, hcz18_1⟩ := blkC2 (w := w17) BK102.out; obtain ⟨hfz18_0, hfz18_1⟩ := blkF2 BK102.out)); try go_wp2_with (first | ((with_reducible refine gate_dst (N := 7) rfl ?_); refine bx 7 #[.int .i64 0, .int .i64 0] 32 ?_; intro gb102 hg w17 hbox hb; have BK102 := AX (hbox); have GW102 := gwl (w := w) hg bw; have GE102 := GW102; replace HB := AX (below_step bw hb); clear hb hbox hg; obtain ⟨hcz18_0, hcz18_1⟩ := blkC2 (w := w17) BK102.out; obtain ⟨hfz18_0, hfz18_1⟩ := blkF2 BK102.out)))
          go_roundg k1
          case measure => have := HK1.out; omega
          case rel => exact ⟨(wrap64 (x4_1 + ((rd_T32 l0 x10_1).f0))), ((rd_T32 l0 x10_1).f1), (wrap64 (x10_1 + 1)), (by first | rfl | (simp; done) | (simp [*]; done)), (by first | rfl | (simp; done) | (simp [*]; done)), (by first | rfl | (simp; done) | (simp [*]; done)), H', ⟨by have := HK1.out; omega⟩, ⟨bw⟩⟩
     ·rw [if_neg c4] at H
      exact absurd H (by simp)
    ·rw [if_neg c3] at H
     exact absurd H (by simp)
   ·rw [if_neg c2] at H
    have c2b0 : decide (x10_1 < (l0.length : Int)) = false := decide_eq_false c2
    clear c2
    simp only [Option.some.injEq, Prod.mk.injEq] at H
    obtain ⟨rfl, rfl⟩ := H
    go_wp2
    repeat (go_quiet (fail); try go_wp2)
    go_ret2
    exact ⟨by first | rfl | (simp [errW_none, errW_some] <;> rfl) | (simp [*, errW_none, errW_some] <;> rfl), bw⟩

/-! ### bank_Check: function 20 -/
def bank_Check.f (k : Nat) (l0 : List (S32)) : Option (Int) := (bank_sum.f k l0).bind fun bt103 => (if bt103.2 = true then (some 0) else (some 8))
theorem bank_Check.mono : ∀ a0 k, LeO (bank_Check.f k a0) (bank_Check.f (k + 1) a0) := by
 intro a0 k
 unfold bank_Check.f
 repeat' first
   | (with_reducible exact bank_sum.mono _ _)
   | (with_reducible exact LeO.refl _)
   | (with_reducible exact LeO.none _)
   | (with_reducible refine LeO.ite ?_ ?_)
   | (with_reducible refine LeO.bind ?_ (fun _ => ?_))
set_option maxHeartbeats 8000000 in
set_option maxRecDepth 100000 in
theorem bank_Check.calls (k : Nat) (A0 : Option Addr) (c0 : Nat) (l0 : List (S32)) (r : Int) (w : World) (hr0 : Kd.C k32 w A0 l0.length l0) (hc0 : l0.length ≤ c0) (h : bank_Check.f k l0 = some r) :
  Calls Try.prog 20 #[.slice A0 l0.length c0] w fun e w' => e = .returned (.int .i64 r) ∧ Below w.heap.size w w' := by
 have HR0 := AX hr0
 have HC0 := AX hc0
 clear hr0 hc0
 have HB := AX (Below.refl w.heap.size w)
 have H : ((bank_sum.f k l0).bind fun bt103 => (if bt103.2 = true then (some 0) else (some 8))) = some r := h
 clear h
 replace H := Option.bind_eq_some_iff.mp H
 obtain ⟨⟨t103, t104⟩, A20, H⟩ := H
 replace H : (if t104 = true then (some 0) else (some 8)) = some r := H
 have A2 := AX A20
 clear A20
 by_cases c3 : t104 = true
 ·subst c3
  have H1 : (some 0) = some r := by rw [if_pos rfl] at H; exact H
  clear H
  have H := H1
  clear H1
  obtain rfl := Option.some.inj H
  go_enter Try.func20, Try.ntmps20
  go_wp2_with (first | ((with_reducible refine gate_callee (f := 21) rfl ?_); refine gL (some 7) Try.func21 #[.slice A0 l0.length c0] ?_; (with_reducible refine (bank_sum.calls k _ _ l0 t103 true _ ?side1 ?side2 A2.out).mono ?_); (case side1 => repeat (first | exact HR0.out | (with_reducible refine Kd.C_alloc ?_ _) | (with_reducible refine Kd.C_drewN ?_ _) | (with_reducible refine Kd.C_drew ?_))); (case side2 => exact HC0.out); rintro e w4 ⟨rfl, hb⟩; refine ⟨_, rfl, ?_⟩; replace HB := AX (below_step bw hb); (try clear hb); (try clear hb2); (try clear hk); (try clear hi)))
  go_ret
  exact ⟨by first | rfl | (simp [errW_none, errW_some] <;> rfl) | (simp [*, errW_none, errW_some] <;> rfl), bw⟩
 ·replace c3 := Bool.eq_false_iff.mpr c3
  subst c3
  have H1 : (some 8) = some r := by rw [if_neg (show ¬ (false = true) by decide)] at H; exact H
  clear H
  have H := H1
  clear H1
  obtain rfl := Option.some.inj H
  go_enter Try.func20, Try.ntmps20
  go_wp2_with (first | ((with_reducible refine gate_callee (f := 21) rfl ?_); refine gL (some 7) Try.func21 #[.slice A0 l0.length c0] ?_; (with_reducible refine (bank_sum.calls k _ _ l0 t103 false _ ?side1 ?side2 A2.out).mono ?_); (case side1 => repeat (first | exact HR0.out | (with_reducible refine Kd.C_alloc ?_ _) | (with_reducible refine Kd.C_drewN ?_ _) | (with_reducible refine Kd.C_drew ?_))); (case side2 => exact HC0.out); rintro e w5 ⟨rfl, hb⟩; refine ⟨_, rfl, ?_⟩; replace HB := AX (below_step bw hb); (try clear hb); (try clear hb2); (try clear hk); (try clear hi)))
  go_ret
  exact ⟨by first | rfl | (simp [errW_none, errW_some] <;> rfl) | (simp [*, errW_none, errW_some] <;> rfl), bw⟩

/-! ### bank_Take: function 9 -/
def bank_Take.l0 : Nat → List (S32) → Int → Int → Option ((List (S32)) × Int × Int)
 | 0, _, _, _ => none
 | k + 1, x0, x1, x7 => if (x0.length : Int) > 0 then (if 0 < (x0.length : Int) then (if ((rd_T32 x0 0).f0) ≤ (wrap64 (x1 - x7)) then (if 1 ≤ (x0.length : Int) then (bank_Take.l0 k (x0.drop 1) x1 (wrap64 (x7 + ((rd_T32 x0 0).f0)))) else (none)) else (if ([] : List (S32)).length + x0.length < 8796093022208 then ((some (([] : List (S32)) ++ x0 : List (S32))).bind fun y113 => (if (y113.length : Int) > 0 then (if 0 < (y113.length : Int) then (some ((y113.set (0 : Int).toNat (⟨wrap64 (((rd_T32 y113 0).f0) - (wrap64 (x1 - x7))), (rd_T32 y113 0).f1⟩ : S32)), x1, 0)) else (none)) else (some (y113, x7, 0)))) else (none))) else (none)) else (if ([] : List (S32)).length + x0.length < 8796093022208 then ((some (([] : List (S32)) ++ x0 : List (S32))).bind fun y118 => (if (y118.length : Int) > 0 then (if 0 < (y118.length : Int) then (some ((y118.set (0 : Int).toNat (⟨wrap64 (((rd_T32 y118 0).f0) - (wrap64 (x1 - x7))), (rd_T32 y118 0).f1⟩ : S32)), x1, 0)) else (none)) else (some (y118, x7, 0)))) else (none))
def bank_Take.f (k : Nat) (l0 : List (S32)) (a1 : Int) : Option ((List (S32)) × Int × Int) := (bank_Check.f k l0).bind fun t105 => (if t105 = 0 then (if a1 < 0 then (some (([] : List (S32)), 0, 5)) else (bank_Take.l0 k l0 a1 0)) else (some (([] : List (S32)), 0, 8)))
theorem bank_Take.mono_l : ∀ k, (∀ y0 y1 y2, LeO (bank_Take.l0 k y0 y1 y2) (bank_Take.l0 (k + 1) y0 y1 y2))
 | 0 => fun _ _ _ r h => by simp [bank_Take.l0] at h
 | k + 1 => by
  have ih0 := bank_Take.mono_l k
  ·intro y0 y1 y2
   unfold bank_Take.l0
   repeat' first
   | (with_reducible exact ih0 _ _ _)
   | (with_reducible exact bank_Check.mono _ _)
   | (with_reducible exact LeO.refl _)
   | (with_reducible exact LeO.none _)
   | (with_reducible refine LeO.ite ?_ ?_)
   | (with_reducible refine LeO.bind ?_ (fun _ => ?_))
theorem bank_Take.mono : ∀ a0 a1 k, LeO (bank_Take.f k a0 a1) (bank_Take.f (k + 1) a0 a1) := by
 intro a0 a1 k
 have ih0 := bank_Take.mono_l k
 unfold bank_Take.f
 repeat' first
   | (with_reducible exact ih0 _ _ _)
   | (with_reducible exact bank_Check.mono _ _)
   | (with_reducible exact LeO.refl _)
   | (with_reducible exact LeO.none _)
   | (with_reducible refine LeO.ite ?_ ?_)
   | (with_reducible refine LeO.bind ?_ (fun _ => ?_))
set_option maxHeartbeats 8000000 in
set_option maxRecDepth 100000 in
theorem bank_Take.calls (k : Nat) (P0_ : Nat → Prop) (A0 : Option Addr) (c0 : Nat) (l0 : List (S32)) (a1 : Int) (r1 : List (S32)) (r2 : Int) (r3 : Int) (w : World) (hs0 : Kd.V k32 32 w w.heap.size (fun k_ => P0_ k_) (.slice A0 l0.length c0) l0) (h : bank_Take.f k l0 a1 = some (r1, r2, r3)) :
  Calls Try.prog 9 #[.slice A0 l0.length c0, .int .i64 a1] w fun e w' => ∃ v0_ : Value, e = .returned (.tuple #[v0_, .int .i64 r2, .int .i64 r3]) ∧ Kd.R k32 32 w' w.heap.size (fun k_ => (w.heap.size ≤ k_)) v0_ r1 ∧ Below w.heap.size w w' := by
 have HO0 := AX (show Kd.V k32 32 w w.heap.size (fun k_ => (P0_ k_ ∨ w.heap.size ≤ k_)) (.slice A0 l0.length c0) l0 from Kd.V_mono hs0 (fun k_ hk => .inl hk))
 have HB := AX (Below.refl w.heap.size w)
 have H : ((bank_Check.f k l0).bind fun t105 => (if t105 = 0 then (if a1 < 0 then (some (([] : List (S32)), 0, 5)) else (bank_Take.l0 k l0 a1 0)) else (some (([] : List (S32)), 0, 8)))) = some (r1, r2, r3) := h
 clear h
 replace H := Option.bind_eq_some_iff.mp H
 obtain ⟨t105, A30, H⟩ := H
 replace H : (if t105 = 0 then (if a1 < 0 then (some (([] : List (S32)), 0, 5)) else (bank_Take.l0 k l0 a1 0)) else (some (([] : List (S32)), 0, 8))) = some (r1, r2, r3) := H
 have A3 := AX A30
 clear A30
 by_cases c4 : t105 = 0
 ·rw [if_pos c4] at H
  have c4b0 : (t105 == 0) = true := beq_iff_eq.mpr c4
  have c4b1 : (t105 != 0) = false := bne_eq_false_iff_eq.mpr c4
  clear c4
  by_cases c5 : a1 < 0
  ·rw [if_pos c5] at H
   have c5b0 : decide (a1 < 0) = true := decide_eq_true c5
   clear c5
   simp only [Option.some.injEq, Prod.mk.injEq] at H
   obtain ⟨rfl, rfl, rfl⟩ := H
   go_enter Try.func9, Try.ntmps9
   go_wp2_with (first | ((with_reducible refine gate_callee (f := 20) rfl ?_); refine gL (some 11) Try.func20 #[.slice A0 l0.length c0] ?_; (with_reducible refine (bank_Check.calls k _ _ l0 t105 _ ?side1 ?side2 A3.out).mono ?_); (case side1 => repeat (first | exact (Kd.V_reads' HO0.out).2.2 | (with_reducible refine Kd.C_alloc ?_ _) | (with_reducible refine Kd.C_drewN ?_ _) | (with_reducible refine Kd.C_drew ?_))); (case side2 => exact (Kd.V_reads' HO0.out).2.1); rintro e w6 ⟨rfl, hb⟩; refine ⟨_, rfl, ?_⟩; replace HO0 := AX (Kd.V_below (by (with_reducible repeat (first | apply Kd.V_alloc | apply Kd.V_drewN | apply Kd.V_drew)); exact HO0.out) hb); replace HB := AX (below_step bw hb); (try clear hb); (try clear hb2); (try clear hk); (try clear hi)))
   go_ret3
   exact ⟨_, by first | rfl | (simp [errW_none, errW_some] <;> rfl) | (simp [*, errW_none, errW_some] <;> rfl), by first | exact Kd.R_nil _ _ _ _ _ | exact Kd.N_nil _ _ _ _ _ | exact Kd.V_nil _ _ _ _ _ | exact Kd.Q_nil _ _ _ _ _ | exact Kd.S_nil _ _ _ _ _, bw⟩
  ·rw [if_neg c5] at H
   have c5b0 : decide (a1 < 0) = false := decide_eq_false c5
   clear c5
   have H' := AX H
   clear H
   go_enter Try.func9, Try.ntmps9
   go_wp2_with (first | ((with_reducible refine gate_callee (f := 20) rfl ?_); refine gL (some 11) Try.func20 #[.slice A0 l0.length c0] ?_; (with_reducible refine (bank_Check.calls k _ _ l0 t105 _ ?side1 ?side2 A3.out).mono ?_); (case side1 => repeat (first | exact (Kd.V_reads' HO0.out).2.2 | (with_reducible refine Kd.C_alloc ?_ _) | (with_reducible refine Kd.C_drewN ?_ _) | (with_reducible refine Kd.C_drew ?_))); (case side2 => exact (Kd.V_reads' HO0.out).2.1); rintro e w7 ⟨rfl, hb⟩; refine ⟨_, rfl, ?_⟩; replace HO0 := AX (Kd.V_below (by (with_reducible repeat (first | apply Kd.V_alloc | apply Kd.V_drewN | apply Kd.V_drew)); exact HO0.out) hb); replace HB := AX (below_step bw hb); (try clear hb); (try clear hb2); (try clear hk); (try clear hi)))
   go_loopg [0, 7] k (fun kq v0 v7 w' => ∃ (x0_1 : List (S32)) (x7_1 : Int), v7 = .int .i64 x7_1 ∧ Aside0 (bank_Take.l0 kq x0_1 a1 x7_1 = some (r1, r2, r3)) ∧ Aside0 (kq ≤ k) ∧ Aside0 (Kd.V k32 32 w' w.heap.size (fun k_ => (P0_ k_ ∨ w.heap.size ≤ k_)) v0 x0_1) ∧ Aside0 (Below w.heap.size w w'))
   case atStart => exact ⟨(l0), (0), (by first | rfl | (simp; done) | (simp [*]; done)), H', ⟨Nat.le_refl _⟩, ⟨by (with_reducible repeat (first | apply Kd.V_alloc | apply Kd.V_drewN | apply Kd.V_drew)); exact HO0.out⟩, ⟨bw⟩⟩
   case round =>
    clear H'
    try clear c4b0 c4b1
    try clear c5b0
    obtain ⟨x0_1, x7_1, rfl, HA, HK1, HO_0, HB⟩ := hrel
    cases gk with
    | zero => exact absurd HA.out (by simp [bank_Take.l0])
    | succ k1 =>
     have H := HA.out
     clear HA
     simp only [bank_Take.l0] at H
     by_cases c8 : (x0_1.length : Int) > 0
     ·rw [if_pos c8] at H
      have c8b0 : decide (0 < (x0_1.length : Int)) = true := decide_eq_true c8
      have c8b1 : decide (0 < x0_1.length) = true := decide_eq_true (by omega)
      clear c8
      by_cases c9 : 0 < (x0_1.length : Int)
      ·rw [if_pos c9] at H
       have c9b0 : decide (0 < (x0_1.length : Int)) = true := decide_eq_true c9
       have c9b1 : decide (0 < x0_1.length) = true := decide_eq_true (by omega)
       clear c9
       by_cases c10 : ((rd_T32 x0_1 0).f0) ≤ (wrap64 (a1 - x7_1))
       ·rw [if_pos c10] at H
        have c10b0 : decide (((rd_T32 x0_1 0).f0) ≤ (wrap64 (a1 - x7_1))) = true := decide_eq_true c10
        clear c10
        by_cases c11 : 1 ≤ (x0_1.length : Int)
        ·rw [if_pos c11] at H
         have c11b0 := eq_true c11
         have c11b1 : decide (1 ≤ (x0_1.length : Int)) = true := decide_eq_true c11
         clear c11
         obtain ⟨y108, hy108⟩ : ∃ y_ : List (S32), y_ = (x0_1.drop 1) := ⟨_, rfl⟩
         replace H : (bank_Take.l0 k1 y108 a1 (wrap64 (x7_1 + ((rd_T32 x0_1 0).f0)))) = some (r1, r2, r3) := by first | (rw [hy108]; with_reducible exact H) | (have H2_ := (Option.bind_some _ _).symm.trans H; rw [hy108]; with_reducible exact H2_) | (have H2_ := (Option.bind_some _ _).symm.trans H; with_reducible exact H2_) | with_reducible exact H | (rw [hy108]; exact H) | exact H
         have Ny108 := AX hy108
         clear hy108
         have H' := AX H
         clear H
         obtain ⟨Ao12, co12, eo12⟩ := Kd.V_slice HO_0.out
         subst eo12
         have p106 : 0 ≤ (0 : Int) := (by omega)
         have q106 : 0 < (x0_1.length : Int) := of_decide_eq_true (by first | (with_reducible assumption) | assumption)
         obtain ⟨ad106, e106, hx106_0, hx106_1⟩ := at_T32 (Kd.V_reads' HO_0.out).2.2 0 p106 q106
         cases e106
         have qi106 : (0 < x0_1.length) = True := eq_true (by omega)
         (try rw [show ((0 : Int)).toNat = 0 from rfl] at hx106_0)
         (try rw [show 0 * 2 = 0 from rfl] at hx106_0)
         (try rw [Addr.add_zero'] at hx106_0)
         (try rw [show ((0 : Int)).toNat = 0 from rfl] at hx106_1)
         (try rw [show 0 * 2 = 0 from rfl] at hx106_1)
         (try rw [Addr.add_zero'] at hx106_1)
         replace p106 := eq_true p106
         replace q106 := eq_true q106
         have p107 : 0 ≤ (0 : Int) := (by omega)
         have q107 : 0 < (x0_1.length : Int) := of_decide_eq_true (by first | (with_reducible assumption) | assumption)
         obtain ⟨ad107, e107, hx107_0, hx107_1⟩ := at_T32 (Kd.V_reads' HO_0.out).2.2 0 p107 q107
         obtain rfl : ad106 = ad107 := (by injection e107)
         have qi107 : (0 < x0_1.length) = True := eq_true (by omega)
         (try rw [show ((0 : Int)).toNat = 0 from rfl] at hx107_0)
         (try rw [show 0 * 2 = 0 from rfl] at hx107_0)
         (try rw [Addr.add_zero'] at hx107_0)
         (try rw [show ((0 : Int)).toNat = 0 from rfl] at hx107_1)
         (try rw [show 0 * 2 = 0 from rfl] at hx107_1)
         (try rw [Addr.add_zero'] at hx107_1)
         replace p107 := eq_true p107
         replace q107 := eq_true q107
         have q13 : (1 : Int) ≤ ((x0_1.length : Int) : Int) := of_decide_eq_true (by first | (with_reducible assumption) | assumption)
         obtain ⟨i013, hi013, _, hsz13, _⟩ := info_parts info32
         have hroom13 : x0_1.length ≤ co12 := (Kd.V_reads' HO_0.out).2.1
         have hC13 : Kd.F k32 _ _ (some ad106) x0_1.length x0_1 := (Kd.V_at (base := w.heap.size) HO_0.out).2.2
         have hcut13 := cut_from (P := Try.prog) 22 32 .i64 Try.underlying22 hi013 2 hsz13 (some ad106) x0_1.length co12 1 (by omega) q13
         have hr13 := Kd.F_cut (m := (1 : Int).toNat) (c := co12) hC13 (by omega) hroom13
         obtain ⟨A13, hA13⟩ : ∃ A1, A1 = (if co12 = (1 : Int).toNat then (some ad106) else ((some ad106) : Option Addr).map (·.add ((1 : Int).toNat * 2))) := ⟨_, rfl⟩
         obtain ⟨c13, hc13⟩ : ∃ c1, c1 = co12 - (1 : Int).toNat := ⟨_, rfl⟩
         have hy13 : y108.length = x0_1.length - (1 : Int).toNat := (by rw [Ny108.out, List.length_drop] <;> omega)
         rw [show (x0_1).drop (1 : Int).toNat = y108 from Ny108.out.symm] at hr13
         replace hr13 : Kd.F k32 _ _ A13 y108.length y108 := (by rw [hA13]; exact hr13)
         rw [← hy13, ← hA13, ← hc13] at hcut13
         have HO112 := AX (show Kd.V k32 32 _ w.heap.size _ (.slice A13 y108.length c13) y108 from Kd.V_mk (by rw [hy13, hc13]; exact Nat.sub_le_sub_right hroom13 _) hr13)
         have HC112 := AX (show y108.length ≤ c13 from by rw [hy13, hc13]; exact Nat.sub_le_sub_right hroom13 _)
         clear hr13 hC13 hroom13 hi013 hsz13 hc13
         have KY13 := AX hy13
         have KA13 := AX hA13
         clear hy13 hA13
         replace q13 := eq_true q13
         go_wp2
         go_roundg k1
         case measure => have := HK1.out; omega
         case rel => exact ⟨(y108), (wrap64 (x7_1 + ((rd_T32 x0_1 0).f0))), (by first | rfl | (simp; done) | (simp [*]; done)), H', ⟨by have := HK1.out; omega⟩, ⟨by (with_reducible repeat (first | apply Kd.V_alloc | apply Kd.V_drewN | apply Kd.V_drew)); exact HO112.out⟩, ⟨bw⟩⟩
        ·rw [if_neg c11] at H
         exact absurd H (by simp)
       ·rw [if_neg c10] at H
        have c10b0 : decide (((rd_T32 x0_1 0).f0) ≤ (wrap64 (a1 - x7_1))) = false := decide_eq_false c10
        clear c10
        by_cases c14 : ([] : List (S32)).length + x0_1.length < 8796093022208
        ·rw [if_pos c14] at H
         have LMc14 := AX c14
         clear c14
         obtain ⟨y113, hy113⟩ : ∃ y_ : List (S32), y_ = (([] : List (S32)) ++ x0_1) := ⟨_, rfl⟩
         replace H : (if (y113.length : Int) > 0 then (if 0 < (y113.length : Int) then (some ((y113.set (0 : Int).toNat (⟨wrap64 (((rd_T32 y113 0).f0) - (wrap64 (a1 - x7_1))), (rd_T32 y113 0).f1⟩ : S32)), a1, 0)) else (none)) else (some (y113, x7_1, 0))) = some (r1, r2, r3) := by first | (rw [hy113]; with_reducible exact H) | (have H2_ := (Option.bind_some _ _).symm.trans H; rw [hy113]; with_reducible exact H2_) | (have H2_ := (Option.bind_some _ _).symm.trans H; with_reducible exact H2_) | with_reducible exact H | (rw [hy113]; exact H) | exact H
         have Ny113 := AX hy113
         clear hy113
         by_cases c15 : (y113.length : Int) > 0
         ·rw [if_pos c15] at H
          have c15b0 : decide (0 < (y113.length : Int)) = true := decide_eq_true c15
          have c15b1 : decide (0 < y113.length) = true := decide_eq_true (by omega)
          clear c15
          by_cases c16 : 0 < (y113.length : Int)
          ·rw [if_pos c16] at H
           have c16b0 : decide (0 < (y113.length : Int)) = true := decide_eq_true c16
           have c16b1 : decide (0 < y113.length) = true := decide_eq_true (by omega)
           clear c16
           obtain ⟨y117, hy117⟩ : ∃ y_ : List (S32), y_ = (y113.set (0 : Int).toNat (⟨wrap64 (((rd_T32 y113 0).f0) - (wrap64 (a1 - x7_1))), (rd_T32 y113 0).f1⟩ : S32)) := ⟨_, rfl⟩
           replace H : (some (y117, a1, 0)) = some (r1, r2, r3) := by first | (rw [hy117]; with_reducible exact H) | (have H2_ := (Option.bind_some _ _).symm.trans H; rw [hy117]; with_reducible exact H2_) | (have H2_ := (Option.bind_some _ _).symm.trans H; with_reducible exact H2_) | with_reducible exact H | (rw [hy117]; exact H) | exact H
           have Ny117 := AX hy117
           clear hy117
           simp only [Option.some.injEq, Prod.mk.injEq] at H
           obtain ⟨rfl, rfl, rfl⟩ := H
           obtain ⟨Ao18, co18, eo18⟩ := Kd.V_slice HO_0.out
           subst eo18
           have p106 : 0 ≤ (0 : Int) := (by omega)
           have q106 : 0 < (x0_1.length : Int) := of_decide_eq_true (by first | (with_reducible assumption) | assumption)
           obtain ⟨ad106, e106, hx106_0, hx106_1⟩ := at_T32 (Kd.V_reads' HO_0.out).2.2 0 p106 q106
           cases e106
           have qi106 : (0 < x0_1.length) = True := eq_true (by omega)
           (try rw [show ((0 : Int)).toNat = 0 from rfl] at hx106_0)
           (try rw [show 0 * 2 = 0 from rfl] at hx106_0)
           (try rw [Addr.add_zero'] at hx106_0)
           (try rw [show ((0 : Int)).toNat = 0 from rfl] at hx106_1)
           (try rw [show 0 * 2 = 0 from rfl] at hx106_1)
           (try rw [Addr.add_zero'] at hx106_1)
           replace p106 := eq_true p106
           replace q106 := eq_true q106
           go_wp2_with (first | ((with_reducible refine gate_builtin (b := .append) (xs := #[.const (.slice none 0 0), .tmp 37]) rfl ?_); at_builtin; refine Kd.R_append_rows k32 (w0 := w) w.heap.size rfl (.const (.slice none 0 0)) (.tmp 37) 22 32 (.agg #[(.int .i64 0), (.int .i64 0)]) 16 rfl Try.underlying22 info32 rfl (by decide) (by omega) (.slice none 0 0) ([] : List (S32)) x0_1 _ _ _ (fun k_ => (w.heap.size ≤ k_)) (fun _ => False) rfl rfl ?aO ?aR (fun _ _ h => h) (fun _ h => h.elim) ?aF ?aB ?aS ?aL ?_; (case aR => repeat (first | exact (Kd.V_reads' HO_0.out).2.2 | (with_reducible refine Kd.C_alloc ?_ _) | (with_reducible refine Kd.C_drewN ?_ _) | (with_reducible refine Kd.C_drew ?_))); (case aB => exact bw); (case aF => exact (fun k_ hk => (Nat.le_trans (below_size bw) hk))); (case aO => exact ((Kd.R_nil _ _ _ _ (fun k_ => (w.heap.size ≤ k_))))); (case aS => exact (below_size bw)); (case aL => have := LMc14.out; omega); intro v114 w19 ho hb hg hat; rw [← Ny113.out] at ho; have HO115 := AX (ho); replace HO_0 := AX (Kd.V_afterv (Kd.V_apart_nil (by (with_reducible repeat (first | apply Kd.V_alloc | apply Kd.V_drewN | apply Kd.V_drew)); exact HO_0.out)) hg hat); replace HB := AX (hb); clear ho hb hg hat; obtain ⟨Ao20, co20, eo20⟩ := Kd.R_slice HO115.out; subst eo20; have p116 : 0 ≤ (0 : Int) := (by omega); have q116 : 0 < (y113.length : Int) := of_decide_eq_true (by first | (with_reducible assumption) | assumption); obtain ⟨ad116, e116, hx116_0, hx116_1⟩ := at_T32 (Kd.R_reads' HO115.out).2.2 0 p116 q116; cases e116; have qi116 : (0 < y113.length) = True := eq_true (by omega); (try rw [show ((0 : Int)).toNat = 0 from rfl] at hx116_0); (try rw [show 0 * 2 = 0 from rfl] at hx116_0); (try rw [Addr.add_zero'] at hx116_0); (try rw [show ((0 : Int)).toNat = 0 from rfl] at hx116_1); (try rw [show 0 * 2 = 0 from rfl] at hx116_1); (try rw [Addr.add_zero'] at hx116_1); replace p116 := eq_true p116; replace q116 := eq_true q116; have p17 : 0 ≤ (0 : Int) := (by omega); have q17 : (0 : Int) < ((y113.length : Int) : Int) := of_decide_eq_true (by first | (with_reducible assumption) | assumption); have qi17 : (0 < y113.length) = True := eq_true (by omega); obtain ⟨go17, co17, eo17, gb17, gl17, cl17, HG17⟩ := Kd.R_form HO115.out (by omega); (first | cases eo17 | (injection eo17 with ea_ en_ ec_; (first | subst ea_ | (injection ea_ with ea_; subst ea_)); subst ec_; clear en_)); have GB17 := AX gb17; have GG17 := AX HG17; clear gb17 gl17 HG17; (first | simp only [add_plain] at hx116_0 | skip); (first | simp only [add_plain] at hx116_1 | skip); obtain ⟨ce17, hcl17, hM17, hcc17, hfr17⟩ := Kd.R_elem HO115.out z32 (0 : Int) p17 q17; obtain rfl := k32_openM hM17; have hx17_0 : w19.cell? ⟨go17, (0 : Int).toNat * 2, none⟩ = some (.int .i64 ((rd_T32 y113 0).f0)) := hcc17 0 _ rfl; have hx17_1 : w19.cell? ⟨go17, (0 : Int).toNat * 2 + 1, none⟩ = some (.int .i64 ((rd_T32 y113 0).f1)) := hcc17 1 _ rfl; have hf17_0 : w19.frozen? ⟨go17, (0 : Int).toNat * 2, none⟩ = false := hfr17 0; have hf17_1 : w19.frozen? ⟨go17, (0 : Int).toNat * 2 + 1, none⟩ = false := hfr17 1; clear hcl17 hcc17 hfr17 hM17; (try rw [show ((0 : Int)).toNat = 0 from rfl] at hx17_0); (try simp only [Nat.reduceMul, Nat.zero_mul, Nat.zero_add, Nat.reduceAdd] at hx17_0); (try rw [show ((0 : Int)).toNat = 0 from rfl] at hf17_0); (try simp only [Nat.reduceMul, Nat.zero_mul, Nat.zero_add, Nat.reduceAdd] at hf17_0); (try rw [show ((0 : Int)).toNat = 0 from rfl] at hx17_1); (try simp only [Nat.reduceMul, Nat.zero_mul, Nat.zero_add, Nat.reduceAdd] at hx17_1); (try rw [show ((0 : Int)).toNat = 0 from rfl] at hf17_1); (try simp only [Nat.reduceMul, Nat.zero_mul, Nat.zero_add, Nat.reduceAdd] at hf17_1); replace p17 := eq_true p17; replace q17 := eq_true q17; have HX21 := AX (show Kd.R k32 32 w19 w.heap.size (fun k_ => (w.heap.size ≤ k_)) (.slice (some ⟨go17, 0, none⟩) y113.length co20) y113 from (kr HO115)); obtain ⟨ce21, hcl21, hM21, hcc21, hfr21⟩ := Kd.R_elem HX21.out z32 (0 : Int) (by omega) (by have h_ : (0 : Int) < ((y113.length : Int) : Int) := of_decide_eq_true (by first | (with_reducible assumption) | assumption); first | exact h_ | (have e_ := (Kd.R_reads' HO115.out).1; omega) | simpa using h_); obtain rfl := k32_openM hM21; have HP21 := Kd.R_seg HX21.out (0 : Int) (by omega) (by have h_ : (0 : Int) < ((y113.length : Int) : Int) := of_decide_eq_true (by first | (with_reducible assumption) | assumption); first | exact h_ | (have e_ := (Kd.R_reads' HO115.out).1; omega) | simpa using h_) (seg := [.int .i64 (wrap64 (((rd_T32 y113 0).f0) - (wrap64 (a1 - x7_1))))]) (j := 0) hcl21 hcc21 (show 1 ≤ 2 from by decide) (x' := (⟨wrap64 (((rd_T32 y113 0).f0) - (wrap64 (a1 - x7_1))), (rd_T32 y113 0).f1⟩ : S32)) (k32_mkM _ _ _ (⟨wrap64 (((rd_T32 y113 0).f0) - (wrap64 (a1 - x7_1))), (rd_T32 y113 0).f1⟩ : S32) ) (fun _ hk => hk); have hx21_0 := hcc21 0 _ rfl; (try simp only [show (k32).sz = 2 from rfl, Nat.mul_one, Nat.add_zero] at hx21_0); (try rw [show ((0 : Int)).toNat = 0 from rfl] at hx21_0); (try simp only [Nat.reduceMul, Nat.zero_mul, Nat.zero_add, Nat.reduceAdd] at hx21_0); have hf21_0 := hfr21 0; (try simp only [show (k32).sz = 2 from rfl, Nat.mul_one, Nat.add_zero] at hf21_0); (try rw [show ((0 : Int)).toNat = 0 from rfl] at hf21_0); (try simp only [Nat.reduceMul, Nat.zero_mul, Nat.zero_add, Nat.reduceAdd] at hf21_0); clear hcl21 hcc21 hfr21 hM21) | ((with_reducible refine gate_store (t := 2) (p := 51) rfl ?_); refine store_event (t := 2) (p := 51) (v := ?vo_w22) (w1 := (w19.setCell ⟨go17, 0, none⟩ (.int .i64 (wrap64 (((rd_T32 y113 0).f0) - (wrap64 (a1 - x7_1))))))) ?hg ?ho ?hn ?hr ?_; (case ho => rfl); (case hg => rfl); (case hn => rfl); (case hr => first | (go_simp; done) | (go_simp; rfl)); intro w22 hw; have hg : w19.grownBy w22 (some go17) := (by rw [hw]; exact HP21.2); have hp_ : Kd.R k32 32 w22 w.heap.size (fun k_ => (w.heap.size ≤ k_)) (.slice (some ⟨go17, 0, none⟩) y113.length co20) y117 := (by rw [hw, Ny117.out]; exact HP21.1); clear HP21; replace HO_0 := AX (Kd.V_afterv (v := (.slice (some ⟨go17, 0, none⟩) y113.length co20)) (v1 := (.slice (some ⟨go17, 0, none⟩) y113.length co20)) (ok := (fun k_ => (P0_ k_ ∨ w.heap.size ≤ k_))) (by (with_reducible repeat (first | apply Kd.V_alloc | apply Kd.V_drewN | apply Kd.V_drew)); exact HO_0.out) hg (.inl rfl)); replace HO115 := AX (hp_); replace HB := AX ((by rw [hw]; exact below_set (HB.out) GB17.out : Below w.heap.size w w22)); clear hg hw hp_))
           go_ret3
           exact ⟨_, by first | rfl | (simp [errW_none, errW_some] <;> rfl) | (simp [*, errW_none, errW_some] <;> rfl), kr HO115, bw⟩
          ·rw [if_neg c16] at H
           exact absurd H (by simp)
         ·rw [if_neg c15] at H
          have c15b0 : decide (0 < (y113.length : Int)) = false := decide_eq_false c15
          have c15b1 : decide (0 < y113.length) = false := decide_eq_false (by omega)
          clear c15
          simp only [Option.some.injEq, Prod.mk.injEq] at H
          obtain ⟨rfl, rfl, rfl⟩ := H
          obtain ⟨Ao23, co23, eo23⟩ := Kd.V_slice HO_0.out
          subst eo23
          have p106 : 0 ≤ (0 : Int) := (by omega)
          have q106 : 0 < (x0_1.length : Int) := of_decide_eq_true (by first | (with_reducible assumption) | assumption)
          obtain ⟨ad106, e106, hx106_0, hx106_1⟩ := at_T32 (Kd.V_reads' HO_0.out).2.2 0 p106 q106
          cases e106
          have qi106 : (0 < x0_1.length) = True := eq_true (by omega)
          (try rw [show ((0 : Int)).toNat = 0 from rfl] at hx106_0)
          (try rw [show 0 * 2 = 0 from rfl] at hx106_0)
          (try rw [Addr.add_zero'] at hx106_0)
          (try rw [show ((0 : Int)).toNat = 0 from rfl] at hx106_1)
          (try rw [show 0 * 2 = 0 from rfl] at hx106_1)
          (try rw [Addr.add_zero'] at hx106_1)
          replace p106 := eq_true p106
          replace q106 := eq_true q106
          go_wp2_with (first | ((with_reducible refine gate_builtin (b := .append) (xs := #[.const (.slice none 0 0), .tmp 37]) rfl ?_); at_builtin; refine Kd.R_append_rows k32 (w0 := w) w.heap.size rfl (.const (.slice none 0 0)) (.tmp 37) 22 32 (.agg #[(.int .i64 0), (.int .i64 0)]) 16 rfl Try.underlying22 info32 rfl (by decide) (by omega) (.slice none 0 0) ([] : List (S32)) x0_1 _ _ _ (fun k_ => (w.heap.size ≤ k_)) (fun _ => False) rfl rfl ?aO ?aR (fun _ _ h => h) (fun _ h => h.elim) ?aF ?aB ?aS ?aL ?_; (case aR => repeat (first | exact (Kd.V_reads' HO_0.out).2.2 | (with_reducible refine Kd.C_alloc ?_ _) | (with_reducible refine Kd.C_drewN ?_ _) | (with_reducible refine Kd.C_drew ?_))); (case aB => exact bw); (case aF => exact (fun k_ hk => (Nat.le_trans (below_size bw) hk))); (case aO => exact ((Kd.R_nil _ _ _ _ (fun k_ => (w.heap.size ≤ k_))))); (case aS => exact (below_size bw)); (case aL => have := LMc14.out; omega); intro v114 w24 ho hb hg hat; rw [← Ny113.out] at ho; have HO115 := AX (ho); replace HO_0 := AX (Kd.V_afterv (Kd.V_apart_nil (by (with_reducible repeat (first | apply Kd.V_alloc | apply Kd.V_drewN | apply Kd.V_drew)); exact HO_0.out)) hg hat); replace HB := AX (hb); clear ho hb hg hat; obtain ⟨Ao25, co25, eo25⟩ := Kd.R_slice HO115.out; subst eo25))
          go_ret3
          exact ⟨_, by first | rfl | (simp [errW_none, errW_some] <;> rfl) | (simp [*, errW_none, errW_some] <;> rfl), kr HO115, bw⟩
        ·rw [if_neg c14] at H
         exact absurd H (by simp)
      ·rw [if_neg c9] at H
       exact absurd H (by simp)
     ·rw [if_neg c8] at H
      have c8b0 : decide (0 < (x0_1.length : Int)) = false := decide_eq_false c8
      have c8b1 : decide (0 < x0_1.length) = false := decide_eq_false (by omega)
      clear c8
      by_cases c26 : ([] : List (S32)).length + x0_1.length < 8796093022208
      ·rw [if_pos c26] at H
       have LMc26 := AX c26
       clear c26
       obtain ⟨y118, hy118⟩ : ∃ y_ : List (S32), y_ = (([] : List (S32)) ++ x0_1) := ⟨_, rfl⟩
       replace H : (if (y118.length : Int) > 0 then (if 0 < (y118.length : Int) then (some ((y118.set (0 : Int).toNat (⟨wrap64 (((rd_T32 y118 0).f0) - (wrap64 (a1 - x7_1))), (rd_T32 y118 0).f1⟩ : S32)), a1, 0)) else (none)) else (some (y118, x7_1, 0))) = some (r1, r2, r3) := by first | (rw [hy118]; with_reducible exact H) | (have H2_ := (Option.bind_some _ _).symm.trans H; rw [hy118]; with_reducible exact H2_) | (have H2_ := (Option.bind_some _ _).symm.trans H; with_reducible exact H2_) | with_reducible exact H | (rw [hy118]; exact H) | exact H
       have Ny118 := AX hy118
       clear hy118
       by_cases c27 : (y118.length : Int) > 0
       ·rw [if_pos c27] at H
        have c27b0 : decide (0 < (y118.length : Int)) = true := decide_eq_true c27
        have c27b1 : decide (0 < y118.length) = true := decide_eq_true (by omega)
        clear c27
        by_cases c28 : 0 < (y118.length : Int)
        ·rw [if_pos c28] at H
         have c28b0 : decide (0 < (y118.length : Int)) = true := decide_eq_true c28
         have c28b1 : decide (0 < y118.length) = true := decide_eq_true (by omega)
         clear c28
         obtain ⟨y122, hy122⟩ : ∃ y_ : List (S32), y_ = (y118.set (0 : Int).toNat (⟨wrap64 (((rd_T32 y118 0).f0) - (wrap64 (a1 - x7_1))), (rd_T32 y118 0).f1⟩ : S32)) := ⟨_, rfl⟩
         replace H : (some (y122, a1, 0)) = some (r1, r2, r3) := by first | (rw [hy122]; with_reducible exact H) | (have H2_ := (Option.bind_some _ _).symm.trans H; rw [hy122]; with_reducible exact H2_) | (have H2_ := (Option.bind_some _ _).symm.trans H; with_reducible exact H2_) | with_reducible exact H | (rw [hy122]; exact H) | exact H
         have Ny122 := AX hy122
         clear hy122
         simp only [Option.some.injEq, Prod.mk.injEq] at H
         obtain ⟨rfl, rfl, rfl⟩ := H
         obtain ⟨Ao30, co30, eo30⟩ := Kd.V_slice HO_0.out
         subst eo30
         go_wp2_with (first | ((with_reducible refine gate_builtin (b := .append) (xs := #[.const (.slice none 0 0), .tmp 37]) rfl ?_); at_builtin; refine Kd.R_append_rows k32 (w0 := w) w.heap.size rfl (.const (.slice none 0 0)) (.tmp 37) 22 32 (.agg #[(.int .i64 0), (.int .i64 0)]) 16 rfl Try.underlying22 info32 rfl (by decide) (by omega) (.slice none 0 0) ([] : List (S32)) x0_1 _ _ _ (fun k_ => (w.heap.size ≤ k_)) (fun _ => False) rfl rfl ?aO ?aR (fun _ _ h => h) (fun _ h => h.elim) ?aF ?aB ?aS ?aL ?_; (case aR => repeat (first | exact (Kd.V_reads' HO_0.out).2.2 | (with_reducible refine Kd.C_alloc ?_ _) | (with_reducible refine Kd.C_drewN ?_ _) | (with_reducible refine Kd.C_drew ?_))); (case aB => exact bw); (case aF => exact (fun k_ hk => (Nat.le_trans (below_size bw) hk))); (case aO => exact ((Kd.R_nil _ _ _ _ (fun k_ => (w.heap.size ≤ k_))))); (case aS => exact (below_size bw)); (case aL => have := LMc26.out; omega); intro v119 w31 ho hb hg hat; rw [← Ny118.out] at ho; have HO120 := AX (ho); replace HO_0 := AX (Kd.V_afterv (Kd.V_apart_nil (by (with_reducible repeat (first | apply Kd.V_alloc | apply Kd.V_drewN | apply Kd.V_drew)); exact HO_0.out)) hg hat); replace HB := AX (hb); clear ho hb hg hat; obtain ⟨Ao32, co32, eo32⟩ := Kd.R_slice HO120.out; subst eo32; have p121 : 0 ≤ (0 : Int) := (by omega); have q121 : 0 < (y118.length : Int) := of_decide_eq_true (by first | (with_reducible assumption) | assumption); obtain ⟨ad121, e121, hx121_0, hx121_1⟩ := at_T32 (Kd.R_reads' HO120.out).2.2 0 p121 q121; cases e121; have qi121 : (0 < y118.length) = True := eq_true (by omega); (try rw [show ((0 : Int)).toNat = 0 from rfl] at hx121_0); (try rw [show 0 * 2 = 0 from rfl] at hx121_0); (try rw [Addr.add_zero'] at hx121_0); (try rw [show ((0 : Int)).toNat = 0 from rfl] at hx121_1); (try rw [show 0 * 2 = 0 from rfl] at hx121_1); (try rw [Addr.add_zero'] at hx121_1); replace p121 := eq_true p121; replace q121 := eq_true q121; have p29 : 0 ≤ (0 : Int) := (by omega); have q29 : (0 : Int) < ((y118.length : Int) : Int) := of_decide_eq_true (by first | (with_reducible assumption) | assumption); have qi29 : (0 < y118.length) = True := eq_true (by omega); obtain ⟨go29, co29, eo29, gb29, gl29, cl29, HG29⟩ := Kd.R_form HO120.out (by omega); (first | cases eo29 | (injection eo29 with ea_ en_ ec_; (first | subst ea_ | (injection ea_ with ea_; subst ea_)); subst ec_; clear en_)); have GB29 := AX gb29; have GG29 := AX HG29; clear gb29 gl29 HG29; (first | simp only [add_plain] at hx121_0 | skip); (first | simp only [add_plain] at hx121_1 | skip); obtain ⟨ce29, hcl29, hM29, hcc29, hfr29⟩ := Kd.R_elem HO120.out z32 (0 : Int) p29 q29; obtain rfl := k32_openM hM29; have hx29_0 : w31.cell? ⟨go29, (0 : Int).toNat * 2, none⟩ = some (.int .i64 ((rd_T32 y118 0).f0)) := hcc29 0 _ rfl; have hx29_1 : w31.cell? ⟨go29, (0 : Int).toNat * 2 + 1, none⟩ = some (.int .i64 ((rd_T32 y118 0).f1)) := hcc29 1 _ rfl; have hf29_0 : w31.frozen? ⟨go29, (0 : Int).toNat * 2, none⟩ = false := hfr29 0; have hf29_1 : w31.frozen? ⟨go29, (0 : Int).toNat * 2 + 1, none⟩ = false := hfr29 1; clear hcl29 hcc29 hfr29 hM29; (try rw [show ((0 : Int)).toNat = 0 from rfl] at hx29_0); (try simp only [Nat.reduceMul, Nat.zero_mul, Nat.zero_add, Nat.reduceAdd] at hx29_0); (try rw [show ((0 : Int)).toNat = 0 from rfl] at hf29_0); (try simp only [Nat.reduceMul, Nat.zero_mul, Nat.zero_add, Nat.reduceAdd] at hf29_0); (try rw [show ((0 : Int)).toNat = 0 from rfl] at hx29_1); (try simp only [Nat.reduceMul, Nat.zero_mul, Nat.zero_add, Nat.reduceAdd] at hx29_1); (try rw [show ((0 : Int)).toNat = 0 from rfl] at hf29_1); (try simp only [Nat.reduceMul, Nat.zero_mul, Nat.zero_add, Nat.reduceAdd] at hf29_1); replace p29 := eq_true p29; replace q29 := eq_true q29; have HX33 := AX (show Kd.R k32 32 w31 w.heap.size (fun k_ => (w.heap.size ≤ k_)) (.slice (some ⟨go29, 0, none⟩) y118.length co32) y118 from (kr HO120)); obtain ⟨ce33, hcl33, hM33, hcc33, hfr33⟩ := Kd.R_elem HX33.out z32 (0 : Int) (by omega) (by have h_ : (0 : Int) < ((y118.length : Int) : Int) := of_decide_eq_true (by first | (with_reducible assumption) | assumption); first | exact h_ | (have e_ := (Kd.R_reads' HO120.out).1; omega) | simpa using h_); obtain rfl := k32_openM hM33; have HP33 := Kd.R_seg HX33.out (0 : Int) (by omega) (by have h_ : (0 : Int) < ((y118.length : Int) : Int) := of_decide_eq_true (by first | (with_reducible assumption) | assumption); first | exact h_ | (have e_ := (Kd.R_reads' HO120.out).1; omega) | simpa using h_) (seg := [.int .i64 (wrap64 (((rd_T32 y118 0).f0) - (wrap64 (a1 - x7_1))))]) (j := 0) hcl33 hcc33 (show 1 ≤ 2 from by decide) (x' := (⟨wrap64 (((rd_T32 y118 0).f0) - (wrap64 (a1 - x7_1))), (rd_T32 y118 0).f1⟩ : S32)) (k32_mkM _ _ _ (⟨wrap64 (((rd_T32 y118 0).f0) - (wrap64 (a1 - x7_1))), (rd_T32 y118 0).f1⟩ : S32) ) (fun _ hk => hk); have hx33_0 := hcc33 0 _ rfl; (try simp only [show (k32).sz = 2 from rfl, Nat.mul_one, Nat.add_zero] at hx33_0); (try rw [show ((0 : Int)).toNat = 0 from rfl] at hx33_0); (try simp only [Nat.reduceMul, Nat.zero_mul, Nat.zero_add, Nat.reduceAdd] at hx33_0); have hf33_0 := hfr33 0; (try simp only [show (k32).sz = 2 from rfl, Nat.mul_one, Nat.add_zero] at hf33_0); (try rw [show ((0 : Int)).toNat = 0 from rfl] at hf33_0); (try simp only [Nat.reduceMul, Nat.zero_mul, Nat.zero_add, Nat.reduceAdd] at hf33_0); clear hcl33 hcc33 hfr33 hM33) | ((with_reducible refine gate_store (t := 2) (p := 51) rfl ?_); refine store_event (t := 2) (p := 51) (v := ?vo_w34) (w1 := (w31.setCell ⟨go29, 0, none⟩ (.int .i64 (wrap64 (((rd_T32 y118 0).f0) - (wrap64 (a1 - x7_1))))))) ?hg ?ho ?hn ?hr ?_; (case ho => rfl); (case hg => rfl); (case hn => rfl); (case hr => first | (go_simp; done) | (go_simp; rfl)); intro w34 hw; have hg : w31.grownBy w34 (some go29) := (by rw [hw]; exact HP33.2); have hp_ : Kd.R k32 32 w34 w.heap.size (fun k_ => (w.heap.size ≤ k_)) (.slice (some ⟨go29, 0, none⟩) y118.length co32) y122 := (by rw [hw, Ny122.out]; exact HP33.1); clear HP33; replace HO_0 := AX (Kd.V_afterv (v := (.slice (some ⟨go29, 0, none⟩) y118.length co32)) (v1 := (.slice (some ⟨go29, 0, none⟩) y118.length co32)) (ok := (fun k_ => (P0_ k_ ∨ w.heap.size ≤ k_))) (by (with_reducible repeat (first | apply Kd.V_alloc | apply Kd.V_drewN | apply Kd.V_drew)); exact HO_0.out) hg (.inl rfl)); replace HO120 := AX (hp_); replace HB := AX ((by rw [hw]; exact below_set (HB.out) GB29.out : Below w.heap.size w w34)); clear hg hw hp_))
         go_ret3
         exact ⟨_, by first | rfl | (simp [errW_none, errW_some] <;> rfl) | (simp [*, errW_none, errW_some] <;> rfl), kr HO120, bw⟩
        ·rw [if_neg c28] at H
         exact absurd H (by simp)
       ·rw [if_neg c27] at H
        have c27b0 : decide (0 < (y118.length : Int)) = false := decide_eq_false c27
        have c27b1 : decide (0 < y118.length) = false := decide_eq_false (by omega)
        clear c27
        simp only [Option.some.injEq, Prod.mk.injEq] at H
        obtain ⟨rfl, rfl, rfl⟩ := H
        obtain ⟨Ao35, co35, eo35⟩ := Kd.V_slice HO_0.out
        subst eo35
        go_wp2_with (first | ((with_reducible refine gate_builtin (b := .append) (xs := #[.const (.slice none 0 0), .tmp 37]) rfl ?_); at_builtin; refine Kd.R_append_rows k32 (w0 := w) w.heap.size rfl (.const (.slice none 0 0)) (.tmp 37) 22 32 (.agg #[(.int .i64 0), (.int .i64 0)]) 16 rfl Try.underlying22 info32 rfl (by decide) (by omega) (.slice none 0 0) ([] : List (S32)) x0_1 _ _ _ (fun k_ => (w.heap.size ≤ k_)) (fun _ => False) rfl rfl ?aO ?aR (fun _ _ h => h) (fun _ h => h.elim) ?aF ?aB ?aS ?aL ?_; (case aR => repeat (first | exact (Kd.V_reads' HO_0.out).2.2 | (with_reducible refine Kd.C_alloc ?_ _) | (with_reducible refine Kd.C_drewN ?_ _) | (with_reducible refine Kd.C_drew ?_))); (case aB => exact bw); (case aF => exact (fun k_ hk => (Nat.le_trans (below_size bw) hk))); (case aO => exact ((Kd.R_nil _ _ _ _ (fun k_ => (w.heap.size ≤ k_))))); (case aS => exact (below_size bw)); (case aL => have := LMc26.out; omega); intro v119 w36 ho hb hg hat; rw [← Ny118.out] at ho; have HO120 := AX (ho); replace HO_0 := AX (Kd.V_afterv (Kd.V_apart_nil (by (with_reducible repeat (first | apply Kd.V_alloc | apply Kd.V_drewN | apply Kd.V_drew)); exact HO_0.out)) hg hat); replace HB := AX (hb); clear ho hb hg hat; obtain ⟨Ao37, co37, eo37⟩ := Kd.R_slice HO120.out; subst eo37))
        go_ret3
        exact ⟨_, by first | rfl | (simp [errW_none, errW_some] <;> rfl) | (simp [*, errW_none, errW_some] <;> rfl), kr HO120, bw⟩
      ·rw [if_neg c26] at H
       exact absurd H (by simp)
 ·rw [if_neg c4] at H
  have c4b0 : (t105 == 0) = false := beq_eq_false_iff_ne.mpr c4
  have c4b1 : (t105 != 0) = true := bne_iff_ne.mpr c4
  simp only [Option.some.injEq, Prod.mk.injEq] at H
  obtain ⟨rfl, rfl, rfl⟩ := H
  go_enter Try.func9, Try.ntmps9
  go_wp2_with (first | ((with_reducible refine gate_callee (f := 20) rfl ?_); refine gL (some 11) Try.func20 #[.slice A0 l0.length c0] ?_; (with_reducible refine (bank_Check.calls k _ _ l0 t105 _ ?side1 ?side2 A3.out).mono ?_); (case side1 => repeat (first | exact (Kd.V_reads' HO0.out).2.2 | (with_reducible refine Kd.C_alloc ?_ _) | (with_reducible refine Kd.C_drewN ?_ _) | (with_reducible refine Kd.C_drew ?_))); (case side2 => exact (Kd.V_reads' HO0.out).2.1); rintro e w38 ⟨rfl, hb⟩; refine ⟨_, rfl, ?_⟩; replace HO0 := AX (Kd.V_below (by (with_reducible repeat (first | apply Kd.V_alloc | apply Kd.V_drewN | apply Kd.V_drew)); exact HO0.out) hb); replace HB := AX (below_step bw hb); (try clear hb); (try clear hb2); (try clear hk); (try clear hi)))
  go_ret3
  exact ⟨_, by first | rfl | (simp [errW_none, errW_some] <;> rfl) | (simp [*, errW_none, errW_some] <;> rfl), by first | exact Kd.R_nil _ _ _ _ _ | exact Kd.N_nil _ _ _ _ _ | exact Kd.V_nil _ _ _ _ _ | exact Kd.Q_nil _ _ _ _ _ | exact Kd.S_nil _ _ _ _ _, bw⟩

end Go.Proofs.Ytpogcehbciacdaa.PX
