/- Functions of the program as plain Lean functions, each with a proof that the call in the machine answers just what the plain function says; condition: the plain function answers at all. -/
import Derived.Test.YtkggjjggcbcdiaaPXx0
import Derived.Test.YtkggjjggcbcdiaaPXx14
import Derived.Test.YtkggjjggcbcdiaaPXx15
namespace Go.Proofs.Ytkggjjggcbcdiaa.PX
open Go.RowKit Go.Proofs.YtkggjjggcbcdiaaW.PrintWords Go.Proofs.YtkggjjggcbcdiaaW.PrintLast Go.Proofs.YtkggjjggcbcdiaaW.PrintMore
attribute [local go_sem] max2_int min2_int max_two min_two max_three min_three max_four min_four   -- for this text's walks alone
set_option linter.unusedVariables false
set_option linter.unusedSimpArgs false

/-! ### pylonref03_Of: function 41 -/
mutual
def pylonref03_Of.j0 : Nat → Int → Bool → Option (Int × Int × Int × Int)
 | 0, _, _ => none
 | k + 1, x0, x14 => if x14 = true then (some (0, 0, 0, 5)) else (pylonref03_Of.l0 k (wrap64 (x0 + 719162)) (wrap64 ((wrap64 (Int.tdiv (wrap64 (x0 + 719162)) 366)) + 1)))
def pylonref03_Of.j2 : Nat → Int → Int → Option (Int × Int × Int × Int)
 | 0, _, _ => none
 | k + 1, x4, x5 => (pylonref03_ahead.f x5).bind fun t211 => (pylonref03_Of.l1 k (wrap64 (x4 - t211)) x5 1)
def pylonref03_Of.l1 : Nat → Int → Int → Int → Option (Int × Int × Int × Int)
 | 0, _, _, _ => none
 | k + 1, x4, x5, x6 => if x6 ≤ 12 then ((pylonref03_Length.f k x5 x6).bind fun bt212 => (if x4 < bt212.1 then (some (x5, x6, wrap64 (x4 + 1), 0)) else (pylonref03_Of.l1 k (wrap64 (x4 - bt212.1)) x5 (wrap64 (x6 + 1))))) else (some (0, 0, 0, 5))
def pylonref03_Of.l0 : Nat → Int → Int → Option (Int × Int × Int × Int)
 | 0, _, _ => none
 | k + 1, x4, x5 => if x5 < 9999 then ((pylonref03_ahead.f (wrap64 (x5 + 1))).bind fun t210 => (if t210 ≤ x4 then (pylonref03_Of.l0 k x4 (wrap64 (x5 + 1))) else (pylonref03_Of.j2 k x4 x5))) else (pylonref03_Of.j2 k x4 x5)
end
def pylonref03_Of.f (k : Nat) (a0 : Int) : Option (Int × Int × Int × Int) := if a0 < (-719162) then (pylonref03_Of.j0 k a0 true) else (pylonref03_Of.j0 k a0 (decide (a0 > 2932896)))
theorem pylonref03_Of.mono_l : ∀ k, (∀ y0 y1, LeO (pylonref03_Of.j0 k y0 y1) (pylonref03_Of.j0 (k + 1) y0 y1)) ∧ (∀ y0 y1, LeO (pylonref03_Of.j2 k y0 y1) (pylonref03_Of.j2 (k + 1) y0 y1)) ∧ (∀ y0 y1 y2, LeO (pylonref03_Of.l1 k y0 y1 y2) (pylonref03_Of.l1 (k + 1) y0 y1 y2)) ∧ (∀ y0 y1, LeO (pylonref03_Of.l0 k y0 y1) (pylonref03_Of.l0 (k + 1) y0 y1))
 | 0 => ⟨fun _ _ r h => by simp [pylonref03_Of.j0] at h, fun _ _ r h => by simp [pylonref03_Of.j2] at h, fun _ _ _ r h => by simp [pylonref03_Of.l1] at h, fun _ _ r h => by simp [pylonref03_Of.l0] at h⟩
 | k + 1 => by
  obtain ⟨ih0, ih1, ih2, ih3⟩ := pylonref03_Of.mono_l k
  refine ⟨?_, ?_, ?_, ?_⟩
  ·intro y0 y1
   unfold pylonref03_Of.j0
   repeat' first
   | (with_reducible exact ih0 _ _)
   | (with_reducible exact ih1 _ _)
   | (with_reducible exact ih2 _ _ _)
   | (with_reducible exact ih3 _ _)
   | (with_reducible exact pylonref03_Length.mono _ _ _)
   | (with_reducible exact LeO.refl _)
   | (with_reducible exact LeO.none _)
   | (with_reducible refine LeO.ite ?_ ?_)
   | (with_reducible refine LeO.bind ?_ (fun _ => ?_))
  ·intro y0 y1
   unfold pylonref03_Of.j2
   repeat' first
   | (with_reducible exact ih0 _ _)
   | (with_reducible exact ih1 _ _)
   | (with_reducible exact ih2 _ _ _)
   | (with_reducible exact ih3 _ _)
   | (with_reducible exact pylonref03_Length.mono _ _ _)
   | (with_reducible exact LeO.refl _)
   | (with_reducible exact LeO.none _)
   | (with_reducible refine LeO.ite ?_ ?_)
   | (with_reducible refine LeO.bind ?_ (fun _ => ?_))
  ·intro y0 y1 y2
   unfold pylonref03_Of.l1
   repeat' first
   | (with_reducible exact ih0 _ _)
   | (with_reducible exact ih1 _ _)
   | (with_reducible exact ih2 _ _ _)
   | (with_reducible exact ih3 _ _)
   | (with_reducible exact pylonref03_Length.mono _ _ _)
   | (with_reducible exact LeO.refl _)
   | (with_reducible exact LeO.none _)
   | (with_reducible refine LeO.ite ?_ ?_)
   | (with_reducible refine LeO.bind ?_ (fun _ => ?_))
  ·intro y0 y1
   unfold pylonref03_Of.l0
   repeat' first
   | (with_reducible exact ih0 _ _)
   | (with_reducible exact ih1 _ _)
   | (with_reducible exact ih2 _ _ _)
   | (with_reducible exact ih3 _ _)
   | (with_reducible exact pylonref03_Length.mono _ _ _)
   | (with_reducible exact LeO.refl _)
   | (with_reducible exact LeO.none _)
   | (with_reducible refine LeO.ite ?_ ?_)
   | (with_reducible refine LeO.bind ?_ (fun _ => ?_))
theorem pylonref03_Of.mono : ∀ a0 k, LeO (pylonref03_Of.f k a0) (pylonref03_Of.f (k + 1) a0) := by
 intro a0 k
 obtain ⟨ih0, ih1, ih2, ih3⟩ := pylonref03_Of.mono_l k
 unfold pylonref03_Of.f
 repeat' first
   | (with_reducible exact ih0 _ _)
   | (with_reducible exact ih1 _ _)
   | (with_reducible exact ih2 _ _ _)
   | (with_reducible exact ih3 _ _)
   | (with_reducible exact pylonref03_Length.mono _ _ _)
   | (with_reducible exact LeO.refl _)
   | (with_reducible exact LeO.none _)
   | (with_reducible refine LeO.ite ?_ ?_)
   | (with_reducible refine LeO.bind ?_ (fun _ => ?_))
set_option maxHeartbeats 8000000 in
set_option maxRecDepth 100000 in
theorem pylonref03_Of.calls (k : Nat) (a0 : Int) (r1 : Int) (r2 : Int) (r3 : Int) (r4 : Int) (w : World) (h : pylonref03_Of.f k a0 = some (r1, r2, r3, r4)) :
  Calls Try.prog 41 #[.int .i64 a0] w fun e w' => e = .returned (.tuple #[.agg #[.int .i64 r1, .int .i64 r2, .int .i64 r3], .int .i64 r4]) ∧ Below w.heap.size w w' := by
 have hu24 := Try.underlying24
 have HB := AX (Below.refl w.heap.size w)
 have H : (if a0 < (-719162) then (pylonref03_Of.j0 k a0 true) else (pylonref03_Of.j0 k a0 (decide (a0 > 2932896)))) = some (r1, r2, r3, r4) := h
 clear h
 have HC2 := AX H
 clear H
 go_enter Try.func41, Try.ntmps41
 go_upto_region 1 with (first | ((with_reducible refine gate_dst (N := 2) rfl ?_); refine bx 2 #[.int .i64 0, .int .i64 0, .int .i64 0] 24 ?_; intro gb209 hg w3 hbox hb; have BK209 := AX (hbox); have GW209 := gwl (w := w) hg bw; have GE209 := GW209; replace HB := AX (below_step bw hb); clear hb hbox hg))
 (try simp only [Act.put, List.setIfInBounds_toArray, List.set_cons_zero, List.set_cons_succ])
 go_cut [14] (fun v14 wc => ∃ (kq : Nat) (x14_1 : Bool), v14 = .bool x14_1 ∧ Aside0 (pylonref03_Of.j0 kq a0 x14_1 = some (r1, r2, r3, r4)) ∧ Aside0 (kq ≤ k) ∧ Aside0 (wc.heap[gb209]? = some (.cells #[.int .i64 0, .int .i64 0, .int .i64 0] 24 (0, 0))) ∧ Aside0 (Below w.heap.size w wc))
 case first =>
  have H := HC2.out
  clear HC2
  by_cases c4 : a0 < (-719162)
  ·rw [if_pos c4] at H
   have c4b0 : decide (a0 < (-719162)) = true := decide_eq_true c4
   clear c4
   (first | rw [c4b0] | (simp only [i64_w, i32_w]; rw [c4b0]) | skip)
   have H' := AX H
   clear H
   go_wp2
   go_meet
   case rel => exact ⟨_, (true), (by first | rfl | (simp; done) | (simp [*]; done)), H', ⟨by first | omega | exact Nat.le_refl _⟩, ⟨bkn BK209⟩, ⟨bw⟩⟩
  ·rw [if_neg c4] at H
   have c4b0 : decide (a0 < (-719162)) = false := decide_eq_false c4
   clear c4
   (first | rw [c4b0] | (simp only [i64_w, i32_w]; rw [c4b0]) | skip)
   have H' := AX H
   clear H
   go_wp2
   go_meet
   case rel => exact ⟨_, (decide (a0 > 2932896)), (by first | rfl | (simp; done) | (simp [*]; done)), H', ⟨by first | omega | exact Nat.le_refl _⟩, ⟨bkn BK209⟩, ⟨bw⟩⟩
 case rest =>
  clear HC2
  obtain ⟨kq, x14_1, rfl, HA, HJ1, BK209, HB⟩ := hcut
  cases kq with
  | zero => exact absurd HA.out (by simp [pylonref03_Of.j0])
  | succ kj1 =>
   have H := HA.out
   clear HA
   simp only [pylonref03_Of.j0] at H
   by_cases c5 : x14_1 = true
   ·subst c5
    have H1 : (some (0, 0, 0, 5)) = some (r1, r2, r3, r4) := by rw [if_pos rfl] at H; exact H
    clear H
    have H := H1
    clear H1
    simp only [Option.some.injEq, Prod.mk.injEq] at H
    obtain ⟨rfl, rfl, rfl, rfl⟩ := H
    obtain ⟨hcz6_0, hcz6_1, hcz6_2⟩ := blkC3 (w := wc) BK209.out
    obtain ⟨hfz6_0, hfz6_1, hfz6_2⟩ := blkF3 BK209.out
    go_wp2
    refine bodyPost_ret (results_ct rfl _ _ gb209 24 #[.int .i64 0, .int .i64 0, .int .i64 0] (0, 0) _ rfl (by (with_reducible repeat first|refine blk_drewN ?_ _|refine blk_drew ?_|refine blk_alloc ?_ _); refine blk_put (cs := #[.int .i64 0, .int .i64 0, .int .i64 0]) ?_ 2 _ rfl; (with_reducible repeat first|refine blk_drewN ?_ _|refine blk_drew ?_|refine blk_alloc ?_ _); refine blk_put (cs := #[.int .i64 0, .int .i64 0, .int .i64 0]) ?_ 1 _ rfl; (with_reducible repeat first|refine blk_drewN ?_ _|refine blk_drew ?_|refine blk_alloc ?_ _); refine blk_put (cs := #[.int .i64 0, .int .i64 0, .int .i64 0]) ?_ 0 _ rfl; (with_reducible repeat first|refine blk_drewN ?_ _|refine blk_drew ?_|refine blk_alloc ?_ _); exact BK209.out) Try.underlying24 rfl (by kernel_rfl)) rfl ?_
    exact ⟨by first | rfl | (simp [errW_none, errW_some] <;> rfl) | (simp [*, errW_none, errW_some] <;> rfl), bw⟩
   ·replace c5 := Bool.eq_false_iff.mpr c5
    subst c5
    have H1 : (pylonref03_Of.l0 kj1 (wrap64 (a0 + 719162)) (wrap64 ((wrap64 (Int.tdiv (wrap64 (a0 + 719162)) 366)) + 1))) = some (r1, r2, r3, r4) := by rw [if_neg (show ¬ (false = true) by decide)] at H; exact H
    clear H
    have H := H1
    clear H1
    have HC7 := AX H
    clear H
    go_upto_block 0 with (fail)
    go_cut [5] (fun v5 wc => ∃ (kq : Nat) (x5_6 : Int), v5 = .int .i64 x5_6 ∧ Aside0 (pylonref03_Of.j2 kq (wrap64 (a0 + 719162)) x5_6 = some (r1, r2, r3, r4)) ∧ Aside0 (kq ≤ kj1) ∧ Aside0 (wc.heap[gb209]? = some (.cells #[.int .i64 0, .int .i64 0, .int .i64 0] 24 (0, 0))) ∧ Aside0 (Below w.heap.size w wc))
    case first =>
     have H := HC7.out
     clear HC7
     have H' := AX H
     clear H
     go_wp2
     go_loopg [5] kj1 (fun kq v5 w' => ∃ (x5_2 : Int), v5 = .int .i64 x5_2 ∧ Aside0 (pylonref03_Of.l0 kq (wrap64 (a0 + 719162)) x5_2 = some (r1, r2, r3, r4)) ∧ Aside0 (kq ≤ kj1) ∧ Aside0 (w'.heap[gb209]? = some (.cells #[.int .i64 0, .int .i64 0, .int .i64 0] 24 (0, 0))) ∧ Aside0 (Below w.heap.size w w'))
     case atStart => exact ⟨(wrap64 ((wrap64 (Int.tdiv (wrap64 (a0 + 719162)) 366)) + 1)), (by first | rfl | (simp; done) | (simp [*]; done)), H', ⟨Nat.le_refl _⟩, ⟨bkn BK209⟩, ⟨bw⟩⟩
     case round =>
      clear H'
      try clear c5
      obtain ⟨x5_2, rfl, HA, HK2, BK209, HB⟩ := hrel
      cases gk with
      | zero => exact absurd HA.out (by simp [pylonref03_Of.l0])
      | succ k2 =>
       have H := HA.out
       clear HA
       simp only [pylonref03_Of.l0] at H
       by_cases c8 : x5_2 < 9999
       ·rw [if_pos c8] at H
        have c8b0 : decide (x5_2 < 9999) = true := decide_eq_true c8
        clear c8
        (first | rw [c8b0] | (simp only [i64_w, i32_w]; rw [c8b0]) | skip)
        replace H := Option.bind_eq_some_iff.mp H
        obtain ⟨t210, A90, H⟩ := H
        replace H : (if t210 ≤ (wrap64 (a0 + 719162)) then (pylonref03_Of.l0 k2 (wrap64 (a0 + 719162)) (wrap64 (x5_2 + 1))) else (pylonref03_Of.j2 k2 (wrap64 (a0 + 719162)) x5_2)) = some (r1, r2, r3, r4) := H
        have A9 := AX A90
        clear A90
        by_cases c10 : t210 ≤ (wrap64 (a0 + 719162))
        ·rw [if_pos c10] at H
         have c10b0 : decide (t210 ≤ (wrap64 (a0 + 719162))) = true := decide_eq_true c10
         clear c10
         have H' := AX H
         clear H
         go_wp2_with (first | (go_at_call 72; (with_reducible refine (pylonref03_ahead.calls (wrap64 (x5_2 + 1)) t210 _ A9.out).mono ?_); rintro e w' ⟨rfl, ⟨nd, rfl⟩⟩))
         go_roundg k2
         case measure => have := HJ1.out; have := HK2.out; omega
         case rel => exact ⟨(wrap64 (x5_2 + 1)), (by first | rfl | (simp; done) | (simp [*]; done)), H', ⟨by have := HJ1.out; have := HK2.out; omega⟩, ⟨bkn BK209⟩, ⟨bw⟩⟩
        ·rw [if_neg c10] at H
         have c10b0 : decide (t210 ≤ (wrap64 (a0 + 719162))) = false := decide_eq_false c10
         clear c10
         have H' := AX H
         clear H
         go_wp2_with (first | (go_at_call 72; (with_reducible refine (pylonref03_ahead.calls (wrap64 (x5_2 + 1)) t210 _ A9.out).mono ?_); rintro e w' ⟨rfl, ⟨nd, rfl⟩⟩))
         go_meet
         case rel => exact ⟨_, (x5_2), (by first | rfl | (simp; done) | (simp [*]; done)), H', ⟨by have := HJ1.out; have := HK2.out; first | omega | exact Nat.le_refl _⟩, ⟨bkn BK209⟩, ⟨bw⟩⟩
       ·rw [if_neg c8] at H
        have c8b0 : decide (x5_2 < 9999) = false := decide_eq_false c8
        clear c8
        (first | rw [c8b0] | (simp only [i64_w, i32_w]; rw [c8b0]) | skip)
        have H' := AX H
        clear H
        go_wp2
        go_meet
        case rel => exact ⟨_, (x5_2), (by first | rfl | (simp; done) | (simp [*]; done)), H', ⟨by have := HJ1.out; have := HK2.out; first | omega | exact Nat.le_refl _⟩, ⟨bkn BK209⟩, ⟨bw⟩⟩
    case rest =>
     clear HC7
     try clear c5
     obtain ⟨kq, x5_6, rfl, HA, HJ6, BK209, HB⟩ := hcut
     cases kq with
     | zero => exact absurd HA.out (by simp [pylonref03_Of.j2])
     | succ kj6 =>
      have H := HA.out
      clear HA
      simp only [pylonref03_Of.j2] at H
      replace H := Option.bind_eq_some_iff.mp H
      obtain ⟨t211, A110, H⟩ := H
      replace H : (pylonref03_Of.l1 kj6 (wrap64 ((wrap64 (a0 + 719162)) - t211)) x5_6 1) = some (r1, r2, r3, r4) := H
      have A11 := AX A110
      clear A110
      have H' := AX H
      clear H
      go_wp2_with (first | ((with_reducible refine gate_callee (f := 72) rfl ?_); refine gL (some 34) Try.func72 #[.int .i64 x5_6] ?_; (with_reducible refine (pylonref03_ahead.calls x5_6 t211 _ A11.out).mono ?_); rintro e w' ⟨rfl, ⟨nd, rfl⟩⟩; refine ⟨_, rfl, ?_⟩))
      go_loopg [4, 6] kj6 (fun kq v4 v6 w' => ∃ (x4_3 : Int) (x6_3 : Int) (x210000_3 : Int) (x210001_3 : Int) (x210002_3 : Int), v4 = .int .i64 x4_3 ∧ v6 = .int .i64 x6_3 ∧ Aside0 (pylonref03_Of.l1 kq x4_3 x5_6 x6_3 = some (r1, r2, r3, r4)) ∧ Aside0 (kq ≤ kj6) ∧ Aside0 (w'.heap[gb209]? = some (.cells #[.int .i64 x210000_3, .int .i64 x210001_3, .int .i64 x210002_3] 24 (0, 0))) ∧ Aside0 (Below w.heap.size w w'))
      case atStart => exact ⟨(wrap64 ((wrap64 (a0 + 719162)) - t211)), (1), (0), (0), (0), (by first | rfl | (simp; done) | (simp [*]; done)), (by first | rfl | (simp; done) | (simp [*]; done)), H', ⟨Nat.le_refl _⟩, ⟨bkn BK209⟩, ⟨bw⟩⟩
      case round =>
       clear H'
       obtain ⟨x4_3, x6_3, x210000_3, x210001_3, x210002_3, rfl, rfl, HA, HK3, BK209, HB⟩ := hrel
       cases gk with
       | zero => exact absurd HA.out (by simp [pylonref03_Of.l1])
       | succ k3 =>
        have H := HA.out
        clear HA
        simp only [pylonref03_Of.l1] at H
        by_cases c12 : x6_3 ≤ 12
        ·rw [if_pos c12] at H
         have c12b0 : decide (x6_3 ≤ 12) = true := decide_eq_true c12
         clear c12
         replace H := Option.bind_eq_some_iff.mp H
         obtain ⟨⟨t212, t213⟩, A130, H⟩ := H
         replace H : (if x4_3 < t212 then (some (x5_6, x6_3, wrap64 (x4_3 + 1), 0)) else (pylonref03_Of.l1 k3 (wrap64 (x4_3 - t212)) x5_6 (wrap64 (x6_3 + 1)))) = some (r1, r2, r3, r4) := H
         have A13 := AX A130
         clear A130
         by_cases c14 : x4_3 < t212
         ·rw [if_pos c14] at H
          have c14b0 : decide (x4_3 < t212) = true := decide_eq_true c14
          clear c14
          simp only [Option.some.injEq, Prod.mk.injEq] at H
          obtain ⟨rfl, rfl, rfl, rfl⟩ := H
          go_wp2_with (first | ((with_reducible refine gate_callee (f := 70) rfl ?_); refine gL (some 43) Try.func70 #[.int .i64 x5_6, .int .i64 x6_3] ?_; (with_reducible refine (pylonref03_Length.calls k3 x5_6 x6_3 t212 t213 _ A13.out).mono ?_); rintro e w' ⟨rfl, ⟨nd, rfl⟩⟩; refine ⟨_, rfl, ?_⟩; (try (rw [drewN_self wr]; generalize hq_ : World.drewN wr _ = wr; have n0_ : Aside0 (wr.heap[gb209]? = some (.cells #[.int .i64 x210000_3, .int .i64 x210001_3, .int .i64 x210002_3] 24 (0, 0))) := ⟨by rw [← hq_]; exact (bkn BK209)⟩; have n1_ : Aside0 (Below w.heap.size w wr) := ⟨by rw [← hq_]; exact bw⟩; clear BK209 HB hq_; have BK209 := n0_; have HB := n1_; clear n0_ n1_)); obtain ⟨hcz15_0, hcz15_1, hcz15_2⟩ := blkC3 (w := wr) BK209.out; obtain ⟨hfz15_0, hfz15_1, hfz15_2⟩ := blkF3 BK209.out))
          refine bodyPost_ret (results_ct rfl _ _ gb209 24 #[.int .i64 x5_6, .int .i64 x6_3, .int .i64 (wrap64 (x4_3 + 1))] (0, 0) _ rfl (by (with_reducible repeat first|refine blk_drewN ?_ _|refine blk_drew ?_|refine blk_alloc ?_ _); refine blk_put (cs := #[.int .i64 x5_6, .int .i64 x6_3, .int .i64 x210002_3]) ?_ 2 _ rfl; (with_reducible repeat first|refine blk_drewN ?_ _|refine blk_drew ?_|refine blk_alloc ?_ _); refine blk_put (cs := #[.int .i64 x5_6, .int .i64 x210001_3, .int .i64 x210002_3]) ?_ 1 _ rfl; (with_reducible repeat first|refine blk_drewN ?_ _|refine blk_drew ?_|refine blk_alloc ?_ _); refine blk_put (cs := #[.int .i64 x210000_3, .int .i64 x210001_3, .int .i64 x210002_3]) ?_ 0 _ rfl; (with_reducible repeat first|refine blk_drewN ?_ _|refine blk_drew ?_|refine blk_alloc ?_ _); exact BK209.out) Try.underlying24 rfl (by kernel_rfl)) rfl ?_
          exact ⟨by first | rfl | (simp [errW_none, errW_some] <;> rfl) | (simp [*, errW_none, errW_some] <;> rfl), bw⟩
         ·rw [if_neg c14] at H
          have c14b0 : decide (x4_3 < t212) = false := decide_eq_false c14
          clear c14
          have H' := AX H
          clear H
          go_wp2_with (first | ((with_reducible refine gate_callee (f := 70) rfl ?_); refine gL (some 43) Try.func70 #[.int .i64 x5_6, .int .i64 x6_3] ?_; (with_reducible refine (pylonref03_Length.calls k3 x5_6 x6_3 t212 t213 _ A13.out).mono ?_); rintro e w' ⟨rfl, ⟨nd, rfl⟩⟩; refine ⟨_, rfl, ?_⟩))
          go_roundg k3
          case measure => have := HJ1.out; have := HJ6.out; have := HK3.out; omega
          case rel => exact ⟨(wrap64 (x4_3 - t212)), (wrap64 (x6_3 + 1)), (x210000_3), (x210001_3), (x210002_3), (by first | rfl | (simp; done) | (simp [*]; done)), (by first | rfl | (simp; done) | (simp [*]; done)), H', ⟨by have := HJ1.out; have := HJ6.out; have := HK3.out; omega⟩, ⟨bkn BK209⟩, ⟨bw⟩⟩
        ·rw [if_neg c12] at H
         have c12b0 : decide (x6_3 ≤ 12) = false := decide_eq_false c12
         clear c12
         simp only [Option.some.injEq, Prod.mk.injEq] at H
         obtain ⟨rfl, rfl, rfl, rfl⟩ := H
         obtain ⟨hcz16_0, hcz16_1, hcz16_2⟩ := blkC3 (w := wr) BK209.out
         obtain ⟨hfz16_0, hfz16_1, hfz16_2⟩ := blkF3 BK209.out
         go_wp2
         refine bodyPost_ret (results_ct rfl _ _ gb209 24 #[.int .i64 0, .int .i64 0, .int .i64 0] (0, 0) _ rfl (by (with_reducible repeat first|refine blk_drewN ?_ _|refine blk_drew ?_|refine blk_alloc ?_ _); refine blk_put (cs := #[.int .i64 0, .int .i64 0, .int .i64 x210002_3]) ?_ 2 _ rfl; (with_reducible repeat first|refine blk_drewN ?_ _|refine blk_drew ?_|refine blk_alloc ?_ _); refine blk_put (cs := #[.int .i64 0, .int .i64 x210001_3, .int .i64 x210002_3]) ?_ 1 _ rfl; (with_reducible repeat first|refine blk_drewN ?_ _|refine blk_drew ?_|refine blk_alloc ?_ _); refine blk_put (cs := #[.int .i64 x210000_3, .int .i64 x210001_3, .int .i64 x210002_3]) ?_ 0 _ rfl; (with_reducible repeat first|refine blk_drewN ?_ _|refine blk_drew ?_|refine blk_alloc ?_ _); exact BK209.out) Try.underlying24 rfl (by kernel_rfl)) rfl ?_
         exact ⟨by first | rfl | (simp [errW_none, errW_some] <;> rfl) | (simp [*, errW_none, errW_some] <;> rfl), bw⟩

/-! ### pylonref03_Add: function 91 -/
def pylonref03_Add.f (k : Nat) (a0_0 : Int) (a0_1 : Int) (a0_2 : Int) (a1 : Int) : Option (Int × Int × Int × Int) := (pylonref03_Days.f k a0_0 a0_1 a0_2).bind fun bt216 => (if bt216.2 = 0 then (if a1 > 5000000 then (some (0, 0, 0, 5)) else (if a1 < (-5000000) then (some (0, 0, 0, 5)) else ((pylonref03_Of.f k (wrap64 (bt216.1 + a1))).bind fun bt218 => (some (bt218.1, bt218.2.1, bt218.2.2.1, bt218.2.2.2))))) else (some (0, 0, 0, 5)))
theorem pylonref03_Add.mono : ∀ a0 a1 a2 a3 k, LeO (pylonref03_Add.f k a0 a1 a2 a3) (pylonref03_Add.f (k + 1) a0 a1 a2 a3) := by
 intro a0 a1 a2 a3 k
 unfold pylonref03_Add.f
 repeat' first
   | (with_reducible exact pylonref03_Days.mono _ _ _ _)
   | (with_reducible exact pylonref03_Of.mono _ _)
   | (with_reducible exact LeO.refl _)
   | (with_reducible exact LeO.none _)
   | (with_reducible refine LeO.ite ?_ ?_)
   | (with_reducible refine LeO.bind ?_ (fun _ => ?_))
set_option maxHeartbeats 8000000 in
set_option maxRecDepth 100000 in
theorem pylonref03_Add.calls (k : Nat) (a0_0 : Int) (a0_1 : Int) (a0_2 : Int) (a1 : Int) (r1 : Int) (r2 : Int) (r3 : Int) (r4 : Int) (w : World) (h : pylonref03_Add.f k a0_0 a0_1 a0_2 a1 = some (r1, r2, r3, r4)) :
  Calls Try.prog 91 #[.agg #[.int .i64 a0_0, .int .i64 a0_1, .int .i64 a0_2], .int .i64 a1] w fun e w' => e = .returned (.tuple #[.agg #[.int .i64 r1, .int .i64 r2, .int .i64 r3], .int .i64 r4]) ∧ Below w.heap.size w w' := by
 have hu24 := Try.underlying24
 have HB := AX (Below.refl w.heap.size w)
 have H : ((pylonref03_Days.f k a0_0 a0_1 a0_2).bind fun bt216 => (if bt216.2 = 0 then (if a1 > 5000000 then (some (0, 0, 0, 5)) else (if a1 < (-5000000) then (some (0, 0, 0, 5)) else ((pylonref03_Of.f k (wrap64 (bt216.1 + a1))).bind fun bt218 => (some (bt218.1, bt218.2.1, bt218.2.2.1, bt218.2.2.2))))) else (some (0, 0, 0, 5)))) = some (r1, r2, r3, r4) := h
 clear h
 replace H := Option.bind_eq_some_iff.mp H
 obtain ⟨⟨t216, t217⟩, A30, H⟩ := H
 replace H : (if t217 = 0 then (if a1 > 5000000 then (some (0, 0, 0, 5)) else (if a1 < (-5000000) then (some (0, 0, 0, 5)) else ((pylonref03_Of.f k (wrap64 (t216 + a1))).bind fun bt218 => (some (bt218.1, bt218.2.1, bt218.2.2.1, bt218.2.2.2))))) else (some (0, 0, 0, 5))) = some (r1, r2, r3, r4) := H
 have A3 := AX A30
 clear A30
 by_cases c4 : t217 = 0
 ·rw [if_pos c4] at H
  have c4b0 : (t217 == 0) = true := beq_iff_eq.mpr c4
  have c4b1 : (t217 != 0) = false := bne_eq_false_iff_eq.mpr c4
  clear c4
  by_cases c5 : a1 > 5000000
  ·rw [if_pos c5] at H
   have c5b0 : decide (5000000 < a1) = true := decide_eq_true c5
   clear c5
   simp only [Option.some.injEq, Prod.mk.injEq] at H
   obtain ⟨rfl, rfl, rfl, rfl⟩ := H
   go_enter Try.func91, Try.ntmps91
   go_wp2_with (first | ((with_reducible refine gate_dst (N := 2) rfl ?_); refine bx 2 #[.int .i64 a0_0, .int .i64 a0_1, .int .i64 a0_2] 24 ?_; intro gb214 hg w6 hbox hb; have BK214 := AX (hbox); have GW214 := gwl (w := w) hg bw; have GE214 := GW214; replace HB := AX (below_step bw hb); clear hb hbox hg) | ((with_reducible refine gate_dst (N := 4) rfl ?_); refine bx 4 #[.int .i64 0, .int .i64 0, .int .i64 0] 24 ?_; intro gb215 hg w7 hbox hb; have BK215 := AX (hbox); have GW215 := gwl (w := w) hg bw; have GE215 := GW215; have NB214_215 := nbl hg (bkn BK214); have NB215_214 := nbg hg (bkn BK214); replace BK214 := AX (bkb BK214 hb); replace HB := AX (below_step bw hb); clear hb hbox hg; have hnb8 := NB214_215.out; have hnc8 := NB215_214.out; obtain ⟨hcz9_0, hcz9_1, hcz9_2⟩ := blkC3 (w := w7) BK214.out; obtain ⟨hfz9_0, hfz9_1, hfz9_2⟩ := blkF3 BK214.out) | ((with_reducible refine gate_callee (f := 40) rfl ?_); refine gL (some 10) Try.func40 #[.agg #[.int .i64 a0_0, .int .i64 a0_1, .int .i64 a0_2]] ?_; (with_reducible refine (pylonref03_Days.calls k a0_0 a0_1 a0_2 t216 t217 _ A3.out).mono ?_); rintro e w10 ⟨rfl, hb⟩; refine ⟨_, rfl, ?_⟩; replace BK214 := AX (bkb BK214 hb); replace BK215 := AX (bkb BK215 hb); replace HB := AX (below_step bw hb); (try clear hb); obtain ⟨hcz11_0, hcz11_1, hcz11_2⟩ := blkC3 (w := w10) BK215.out; obtain ⟨hfz11_0, hfz11_1, hfz11_2⟩ := blkF3 BK215.out))
   refine bodyPost_ret (results_ct rfl _ _ gb215 24 #[.int .i64 0, .int .i64 0, .int .i64 0] (0, 0) _ rfl (by (with_reducible repeat first|refine blk_drewN ?_ _|refine blk_drew ?_|refine blk_alloc ?_ _); refine blk_put (cs := #[.int .i64 0, .int .i64 0, .int .i64 0]) ?_ 2 _ rfl; (with_reducible repeat first|refine blk_drewN ?_ _|refine blk_drew ?_|refine blk_alloc ?_ _); refine blk_put (cs := #[.int .i64 0, .int .i64 0, .int .i64 0]) ?_ 1 _ rfl; (with_reducible repeat first|refine blk_drewN ?_ _|refine blk_drew ?_|refine blk_alloc ?_ _); refine blk_put (cs := #[.int .i64 0, .int .i64 0, .int .i64 0]) ?_ 0 _ rfl; (with_reducible repeat first|refine blk_drewN ?_ _|refine blk_drew ?_|refine blk_alloc ?_ _); exact BK215.out) Try.underlying24 rfl (by kernel_rfl)) rfl ?_
   exact ⟨by first | rfl | (simp [errW_none, errW_some] <;> rfl) | (simp [*, errW_none, errW_some] <;> rfl), bw⟩
  ·rw [if_neg c5] at H
   have c5b0 : decide (5000000 < a1) = false := decide_eq_false c5
   clear c5
   by_cases c12 : a1 < (-5000000)
   ·rw [if_pos c12] at H
    have c12b0 : decide (a1 < (-5000000)) = true := decide_eq_true c12
    clear c12
    simp only [Option.some.injEq, Prod.mk.injEq] at H
    obtain ⟨rfl, rfl, rfl, rfl⟩ := H
    go_enter Try.func91, Try.ntmps91
    go_wp2_with (first | ((with_reducible refine gate_dst (N := 2) rfl ?_); refine bx 2 #[.int .i64 a0_0, .int .i64 a0_1, .int .i64 a0_2] 24 ?_; intro gb214 hg w13 hbox hb; have BK214 := AX (hbox); have GW214 := gwl (w := w) hg bw; have GE214 := GW214; replace HB := AX (below_step bw hb); clear hb hbox hg) | ((with_reducible refine gate_dst (N := 4) rfl ?_); refine bx 4 #[.int .i64 0, .int .i64 0, .int .i64 0] 24 ?_; intro gb215 hg w14 hbox hb; have BK215 := AX (hbox); have GW215 := gwl (w := w) hg bw; have GE215 := GW215; have NB214_215 := nbl hg (bkn BK214); have NB215_214 := nbg hg (bkn BK214); replace BK214 := AX (bkb BK214 hb); replace HB := AX (below_step bw hb); clear hb hbox hg; have hnb15 := NB214_215.out; have hnc15 := NB215_214.out; obtain ⟨hcz16_0, hcz16_1, hcz16_2⟩ := blkC3 (w := w14) BK214.out; obtain ⟨hfz16_0, hfz16_1, hfz16_2⟩ := blkF3 BK214.out) | ((with_reducible refine gate_callee (f := 40) rfl ?_); refine gL (some 10) Try.func40 #[.agg #[.int .i64 a0_0, .int .i64 a0_1, .int .i64 a0_2]] ?_; (with_reducible refine (pylonref03_Days.calls k a0_0 a0_1 a0_2 t216 t217 _ A3.out).mono ?_); rintro e w17 ⟨rfl, hb⟩; refine ⟨_, rfl, ?_⟩; replace BK214 := AX (bkb BK214 hb); replace BK215 := AX (bkb BK215 hb); replace HB := AX (below_step bw hb); (try clear hb); obtain ⟨hcz18_0, hcz18_1, hcz18_2⟩ := blkC3 (w := w17) BK215.out; obtain ⟨hfz18_0, hfz18_1, hfz18_2⟩ := blkF3 BK215.out))
    refine bodyPost_ret (results_ct rfl _ _ gb215 24 #[.int .i64 0, .int .i64 0, .int .i64 0] (0, 0) _ rfl (by (with_reducible repeat first|refine blk_drewN ?_ _|refine blk_drew ?_|refine blk_alloc ?_ _); refine blk_put (cs := #[.int .i64 0, .int .i64 0, .int .i64 0]) ?_ 2 _ rfl; (with_reducible repeat first|refine blk_drewN ?_ _|refine blk_drew ?_|refine blk_alloc ?_ _); refine blk_put (cs := #[.int .i64 0, .int .i64 0, .int .i64 0]) ?_ 1 _ rfl; (with_reducible repeat first|refine blk_drewN ?_ _|refine blk_drew ?_|refine blk_alloc ?_ _); refine blk_put (cs := #[.int .i64 0, .int .i64 0, .int .i64 0]) ?_ 0 _ rfl; (with_reducible repeat first|refine blk_drewN ?_ _|refine blk_drew ?_|refine blk_alloc ?_ _); exact BK215.out) Try.underlying24 rfl (by kernel_rfl)) rfl ?_
    exact ⟨by first | rfl | (simp [errW_none, errW_some] <;> rfl) | (simp [*, errW_none, errW_some] <;> rfl), bw⟩
   ·rw [if_neg c12] at H
    have c12b0 : decide (a1 < (-5000000)) = false := decide_eq_false c12
    clear c12
    replace H := Option.bind_eq_some_iff.mp H
    obtain ⟨⟨t218, t219, t220, t221⟩, A190, H⟩ := H
    replace H : (some (t218, t219, t220, t221)) = some (r1, r2, r3, r4) := H
    have A19 := AX A190
    clear A190
    simp only [Option.some.injEq, Prod.mk.injEq] at H
    obtain ⟨rfl, rfl, rfl, rfl⟩ := H
    go_enter Try.func91, Try.ntmps91
    go_wp2_with (first | ((with_reducible refine gate_dst (N := 2) rfl ?_); refine bx 2 #[.int .i64 a0_0, .int .i64 a0_1, .int .i64 a0_2] 24 ?_; intro gb214 hg w20 hbox hb; have BK214 := AX (hbox); have GW214 := gwl (w := w) hg bw; have GE214 := GW214; replace HB := AX (below_step bw hb); clear hb hbox hg) | ((with_reducible refine gate_dst (N := 4) rfl ?_); refine bx 4 #[.int .i64 0, .int .i64 0, .int .i64 0] 24 ?_; intro gb215 hg w21 hbox hb; have BK215 := AX (hbox); have GW215 := gwl (w := w) hg bw; have GE215 := GW215; have NB214_215 := nbl hg (bkn BK214); have NB215_214 := nbg hg (bkn BK214); replace BK214 := AX (bkb BK214 hb); replace HB := AX (below_step bw hb); clear hb hbox hg; have hnb22 := NB214_215.out; have hnc22 := NB215_214.out; obtain ⟨hcz23_0, hcz23_1, hcz23_2⟩ := blkC3 (w := w21) BK214.out; obtain ⟨hfz23_0, hfz23_1, hfz23_2⟩ := blkF3 BK214.out) | ((with_reducible refine gate_callee (f := 40) rfl ?_); refine gL (some 10) Try.func40 #[.agg #[.int .i64 a0_0, .int .i64 a0_1, .int .i64 a0_2]] ?_; (with_reducible refine (pylonref03_Days.calls k a0_0 a0_1 a0_2 t216 t217 _ A3.out).mono ?_); rintro e w24 ⟨rfl, hb⟩; refine ⟨_, rfl, ?_⟩; replace BK214 := AX (bkb BK214 hb); replace BK215 := AX (bkb BK215 hb); replace HB := AX (below_step bw hb); (try clear hb)) | ((with_reducible refine gate_callee (f := 41) rfl ?_); refine gL (some 27) Try.func41 #[.int .i64 (wrap64 (t216 + a1))] ?_; (with_reducible refine (pylonref03_Of.calls k (wrap64 (t216 + a1)) t218 t219 t220 t221 _ A19.out).mono ?_); rintro e w25 ⟨rfl, hb⟩; refine ⟨_, rfl, ?_⟩; replace BK214 := AX (bkb BK214 hb); replace BK215 := AX (bkb BK215 hb); replace HB := AX (below_step bw hb); (try clear hb); obtain ⟨hcz26_0, hcz26_1, hcz26_2⟩ := blkC3 (w := w25) BK215.out; obtain ⟨hfz26_0, hfz26_1, hfz26_2⟩ := blkF3 BK215.out))
    refine bodyPost_ret (results_ct rfl _ _ gb215 24 #[.int .i64 t218, .int .i64 t219, .int .i64 t220] (0, 0) _ rfl (by (with_reducible repeat first|refine blk_drewN ?_ _|refine blk_drew ?_|refine blk_alloc ?_ _); refine blk_put (cs := #[.int .i64 t218, .int .i64 t219, .int .i64 0]) ?_ 2 _ rfl; (with_reducible repeat first|refine blk_drewN ?_ _|refine blk_drew ?_|refine blk_alloc ?_ _); refine blk_put (cs := #[.int .i64 t218, .int .i64 0, .int .i64 0]) ?_ 1 _ rfl; (with_reducible repeat first|refine blk_drewN ?_ _|refine blk_drew ?_|refine blk_alloc ?_ _); refine blk_put (cs := #[.int .i64 0, .int .i64 0, .int .i64 0]) ?_ 0 _ rfl; (with_reducible repeat first|refine blk_drewN ?_ _|refine blk_drew ?_|refine blk_alloc ?_ _); exact BK215.out) Try.underlying24 rfl (by kernel_rfl)) rfl ?_
    exact ⟨by first | rfl | (simp [errW_none, errW_some] <;> rfl) | (simp [*, errW_none, errW_some] <;> rfl), bw⟩
 ·rw [if_neg c4] at H
  have c4b0 : (t217 == 0) = false := beq_eq_false_iff_ne.mpr c4
  have c4b1 : (t217 != 0) = true := bne_iff_ne.mpr c4
  simp only [Option.some.injEq, Prod.mk.injEq] at H
  obtain ⟨rfl, rfl, rfl, rfl⟩ := H
  go_enter Try.func91, Try.ntmps91
  go_wp2_with (first | ((with_reducible refine gate_dst (N := 2) rfl ?_); refine bx 2 #[.int .i64 a0_0, .int .i64 a0_1, .int .i64 a0_2] 24 ?_; intro gb214 hg w27 hbox hb; have BK214 := AX (hbox); have GW214 := gwl (w := w) hg bw; have GE214 := GW214; replace HB := AX (below_step bw hb); clear hb hbox hg) | ((with_reducible refine gate_dst (N := 4) rfl ?_); refine bx 4 #[.int .i64 0, .int .i64 0, .int .i64 0] 24 ?_; intro gb215 hg w28 hbox hb; have BK215 := AX (hbox); have GW215 := gwl (w := w) hg bw; have GE215 := GW215; have NB214_215 := nbl hg (bkn BK214); have NB215_214 := nbg hg (bkn BK214); replace BK214 := AX (bkb BK214 hb); replace HB := AX (below_step bw hb); clear hb hbox hg; have hnb29 := NB214_215.out; have hnc29 := NB215_214.out; obtain ⟨hcz30_0, hcz30_1, hcz30_2⟩ := blkC3 (w := w28) BK214.out; obtain ⟨hfz30_0, hfz30_1, hfz30_2⟩ := blkF3 BK214.out) | ((with_reducible refine gate_callee (f := 40) rfl ?_); refine gL (some 10) Try.func40 #[.agg #[.int .i64 a0_0, .int .i64 a0_1, .int .i64 a0_2]] ?_; (with_reducible refine (pylonref03_Days.calls k a0_0 a0_1 a0_2 t216 t217 _ A3.out).mono ?_); rintro e w31 ⟨rfl, hb⟩; refine ⟨_, rfl, ?_⟩; replace BK214 := AX (bkb BK214 hb); replace BK215 := AX (bkb BK215 hb); replace HB := AX (below_step bw hb); (try clear hb); obtain ⟨hcz32_0, hcz32_1, hcz32_2⟩ := blkC3 (w := w31) BK215.out; obtain ⟨hfz32_0, hfz32_1, hfz32_2⟩ := blkF3 BK215.out))
  refine bodyPost_ret (results_ct rfl _ _ gb215 24 #[.int .i64 0, .int .i64 0, .int .i64 0] (0, 0) _ rfl (by (with_reducible repeat first|refine blk_drewN ?_ _|refine blk_drew ?_|refine blk_alloc ?_ _); refine blk_put (cs := #[.int .i64 0, .int .i64 0, .int .i64 0]) ?_ 2 _ rfl; (with_reducible repeat first|refine blk_drewN ?_ _|refine blk_drew ?_|refine blk_alloc ?_ _); refine blk_put (cs := #[.int .i64 0, .int .i64 0, .int .i64 0]) ?_ 1 _ rfl; (with_reducible repeat first|refine blk_drewN ?_ _|refine blk_drew ?_|refine blk_alloc ?_ _); refine blk_put (cs := #[.int .i64 0, .int .i64 0, .int .i64 0]) ?_ 0 _ rfl; (with_reducible repeat first|refine blk_drewN ?_ _|refine blk_drew ?_|refine blk_alloc ?_ _); exact BK215.out) Try.underlying24 rfl (by kernel_rfl)) rfl ?_
  exact ⟨by first | rfl | (simp [errW_none, errW_some] <;> rfl) | (simp [*, errW_none, errW_some] <;> rfl), bw⟩

end Go.Proofs.Ytkggjjggcbcdiaa.PX
