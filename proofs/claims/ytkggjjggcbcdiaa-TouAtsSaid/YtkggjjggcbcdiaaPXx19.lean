/- Functions of the program as plain Lean functions, each with a proof that the call in the machine answers just what the plain function says; condition: the plain function answers at all. -/
import Derived.Test.YtkggjjggcbcdiaaPXx0
import Derived.Test.YtkggjjggcbcdiaaPXx8
import Derived.Test.YtkggjjggcbcdiaaPXx15
import Derived.Test.YtkggjjggcbcdiaaPXx18
namespace Go.Proofs.Ytkggjjggcbcdiaa.PX
open Go.RowKit Go.Proofs.YtkggjjggcbcdiaaW.PrintWords Go.Proofs.YtkggjjggcbcdiaaW.PrintLast Go.Proofs.YtkggjjggcbcdiaaW.PrintMore
attribute [local go_sem] max2_int min2_int max_two min_two max_three min_three max_four min_four   -- for this text's walks alone
set_option linter.unusedVariables false
set_option linter.unusedSimpArgs false

/-! ### pylonref14_Season: function 22 -/
def pylonref14_Season.l0 : Nat → List (S58) → Int → Int → Int → Int → Int → Option (Int × Int)
 | 0, _, _, _, _, _, _ => none
 | k + 1, x0, x11, x12, x284000, x284001, x284002 => if x12 < x11 then (if 0 ≤ x12 then (if x12 < (x0.length : Int) then ((pylonref09_Holds.f k ((rd_T58 x0 x12).f0) ((rd_T58 x0 x12).f1) ((rd_T58 x0 x12).f2) (wrap64 ((wrap64 (100 * x284001)) + x284002))).bind fun t286 => (if t286 = true then (some (x12, 0)) else (pylonref14_Season.l0 k x0 x11 (wrap64 (x12 + 1)) x284000 x284001 x284002))) else (none)) else (none)) else (some (0, 7))
def pylonref14_Season.f (k : Nat) (l0 : List (S58)) (a1_0 : Int) (a1_1 : Int) (a1_2 : Int) : Option (Int × Int) := (pylonref03_Is.f k a1_0 a1_1 a1_2).bind fun t284 => (if t284 = true then (pylonref14_Season.l0 k l0 (l0.length : Int) 0 a1_0 a1_1 a1_2) else (some (0, 5)))
theorem pylonref14_Season.mono_l : ∀ k, (∀ y0 y1 y2 y3 y4 y5, LeO (pylonref14_Season.l0 k y0 y1 y2 y3 y4 y5) (pylonref14_Season.l0 (k + 1) y0 y1 y2 y3 y4 y5))
 | 0 => fun _ _ _ _ _ _ r h => by simp [pylonref14_Season.l0] at h
 | k + 1 => by
  have ih0 := pylonref14_Season.mono_l k
  ·intro y0 y1 y2 y3 y4 y5
   unfold pylonref14_Season.l0
   repeat' first
   | (with_reducible exact ih0 _ _ _ _ _ _)
   | (with_reducible exact pylonref03_Is.mono _ _ _ _)
   | (with_reducible exact pylonref09_Holds.mono _ _ _ _ _)
   | (with_reducible exact LeO.refl _)
   | (with_reducible exact LeO.none _)
   | (with_reducible refine LeO.ite ?_ ?_)
   | (with_reducible refine LeO.bind ?_ (fun _ => ?_))
theorem pylonref14_Season.mono : ∀ a0 a1 a2 a3 k, LeO (pylonref14_Season.f k a0 a1 a2 a3) (pylonref14_Season.f (k + 1) a0 a1 a2 a3) := by
 intro a0 a1 a2 a3 k
 have ih0 := pylonref14_Season.mono_l k
 unfold pylonref14_Season.f
 repeat' first
   | (with_reducible exact ih0 _ _ _ _ _ _)
   | (with_reducible exact pylonref03_Is.mono _ _ _ _)
   | (with_reducible exact pylonref09_Holds.mono _ _ _ _ _)
   | (with_reducible exact LeO.refl _)
   | (with_reducible exact LeO.none _)
   | (with_reducible refine LeO.ite ?_ ?_)
   | (with_reducible refine LeO.bind ?_ (fun _ => ?_))
def pylonref14_Season.T6 : Bool × List (List Nat × List Nat) := (true, [([], []), ([], []), ([0, 1], [0, 1]), ([2], [2]), ([], []), ([4], [4]), ([5], [5]), ([], []), ([7], [7]), ([6, 8], [6, 8]), ([3, 9], [3, 9])])
def pylonref14_Season.B6 : List Nat := [0, 0, 3, 7, 0, 16, 48, 0, 128, 496, 1023]
theorem pylonref14_Season.tab6 : rtab .any (opsOf Try.f22 6) = pylonref14_Season.T6 := by kernel_rfl
theorem pylonref14_Season.bits6 : waitsOk pylonref14_Season.T6.2 pylonref14_Season.B6 = true := by kernel_rfl
set_option maxHeartbeats 8000000 in
set_option maxRecDepth 100000 in
theorem pylonref14_Season.calls (k : Nat) (A0 : Option Addr) (c0 : Nat) (l0 : List (S58)) (a1_0 : Int) (a1_1 : Int) (a1_2 : Int) (r1 : Int) (r2 : Int) (w : World) (hr0 : Kd.C k58 w A0 l0.length l0) (hc0 : l0.length ≤ c0) (h : pylonref14_Season.f k l0 a1_0 a1_1 a1_2 = some (r1, r2)) :
  Calls Try.prog 22 #[.slice A0 l0.length c0, .agg #[.int .i64 a1_0, .int .i64 a1_1, .int .i64 a1_2]] w fun e w' => e = .returned (.tuple #[.int .i64 r1, .int .i64 r2]) ∧ Below w.heap.size w w' := by
 have hu24 := Try.underlying24
 have hu58 := Try.underlying58
 have HR0 := AX hr0
 have HC0 := AX hc0
 clear hr0 hc0
 have HB := AX (Below.refl w.heap.size w)
 have H : ((pylonref03_Is.f k a1_0 a1_1 a1_2).bind fun t284 => (if t284 = true then (pylonref14_Season.l0 k l0 (l0.length : Int) 0 a1_0 a1_1 a1_2) else (some (0, 5)))) = some (r1, r2) := h
 clear h
 replace H := Option.bind_eq_some_iff.mp H
 obtain ⟨t284, A30, H⟩ := H
 replace H : (if t284 = true then (pylonref14_Season.l0 k l0 (l0.length : Int) 0 a1_0 a1_1 a1_2) else (some (0, 5))) = some (r1, r2) := H
 have A3 := AX A30
 clear A30
 by_cases c4 : t284 = true
 ·subst c4
  have H1 : (pylonref14_Season.l0 k l0 (l0.length : Int) 0 a1_0 a1_1 a1_2) = some (r1, r2) := by rw [if_pos rfl] at H; exact H
  clear H
  have H := H1
  clear H1
  have H' := AX H
  clear H
  go_enter Try.func22, Try.ntmps22
  go_wp2_with (first | ((with_reducible refine gate_dst (N := 3) rfl ?_); refine bx 3 #[.int .i64 a1_0, .int .i64 a1_1, .int .i64 a1_2] 24 ?_; intro gb283 hg w5 hbox hb; have BK283 := AX (hbox); have GW283 := gwl (w := w) hg bw; have GE283 := GW283; replace HB := AX (below_step bw hb); clear hb hbox hg; obtain ⟨hcz6_0, hcz6_1, hcz6_2⟩ := blkC3 (w := w5) BK283.out; obtain ⟨hfz6_0, hfz6_1, hfz6_2⟩ := blkF3 BK283.out) | ((with_reducible refine gate_callee (f := 45) rfl ?_); refine gL (some 8) Try.func45 #[.agg #[.int .i64 a1_0, .int .i64 a1_1, .int .i64 a1_2]] ?_; (with_reducible refine (pylonref03_Is.calls k a1_0 a1_1 a1_2 true _ A3.out).mono ?_); rintro e w7 ⟨rfl, hb⟩; refine ⟨_, rfl, ?_⟩; replace BK283 := AX (bkb BK283 hb); replace HB := AX (below_step bw hb); (try clear hb)))
  go_loopg [12] k (fun kq v12 w' => ∃ (x12_1 : Int), v12 = .int .i64 x12_1 ∧ Aside0 (pylonref14_Season.l0 kq l0 (l0.length : Int) x12_1 a1_0 a1_1 a1_2 = some (r1, r2)) ∧ Aside0 (kq ≤ k) ∧ Aside0 (w'.heap[gb283]? = some (.cells #[.int .i64 a1_0, .int .i64 a1_1, .int .i64 a1_2] 24 (0, 0))) ∧ Aside0 (Below w.heap.size w w'))
  case atStart => exact ⟨(0), (by first | rfl | (simp; done) | (simp [*]; done)), H', ⟨Nat.le_refl _⟩, ⟨bkn BK283⟩, ⟨bw⟩⟩
  case round =>
   clear H'
   try clear c4
   try clear hcz6_0 hcz6_1 hcz6_2
   try clear hfz6_0 hfz6_1 hfz6_2
   obtain ⟨x12_1, rfl, HA, HK1, BK283, HB⟩ := hrel
   cases gk with
   | zero => exact absurd HA.out (by simp [pylonref14_Season.l0])
   | succ k1 =>
    have H := HA.out
    clear HA
    simp only [pylonref14_Season.l0] at H
    by_cases c8 : x12_1 < (l0.length : Int)
    ·rw [if_pos c8] at H
     have c8b0 : decide (x12_1 < (l0.length : Int)) = true := decide_eq_true c8
     clear c8
     by_cases c9 : 0 ≤ x12_1
     ·rw [if_pos c9] at H
      have c9b0 : decide (0 ≤ x12_1) = true := decide_eq_true c9
      clear c9
      by_cases c10 : x12_1 < (l0.length : Int)
      ·rw [if_pos c10] at H
       have c10b0 : decide (x12_1 < (l0.length : Int)) = true := decide_eq_true c10
       clear c10
       replace H := Option.bind_eq_some_iff.mp H
       obtain ⟨t286, A110, H⟩ := H
       replace H : (if t286 = true then (some (x12_1, 0)) else (pylonref14_Season.l0 k1 l0 (l0.length : Int) (wrap64 (x12_1 + 1)) a1_0 a1_1 a1_2)) = some (r1, r2) := H
       have A11 := AX A110
       clear A110
       by_cases c12 : t286 = true
       ·subst c12
        have H1 : (some (x12_1, 0)) = some (r1, r2) := by rw [if_pos rfl] at H; exact H
        clear H
        have H := H1
        clear H1
        simp only [Option.some.injEq, Prod.mk.injEq] at H
        obtain ⟨rfl, rfl⟩ := H
        try go_wp2
        have n0_ := AX (blk_drew BK283.out)
        have n1_ := AX (below_drew1 HB.out)
        clear BK283
        clear HB
        have BK283 := n0_
        have HB := n1_
        clear n0_ n1_
        have p285 : 0 ≤ (x12_1 : Int) := of_decide_eq_true (by first | (with_reducible assumption) | assumption)
        have q285 : x12_1 < (l0.length : Int) := of_decide_eq_true (by first | (with_reducible assumption) | assumption)
        obtain ⟨ad285, e285, hx285_0, hx285_1, hx285_2⟩ := at_T58 HR0.out x12_1 p285 q285
        have hw285_2 := hx285_2
        have hw285_1 := hx285_1
        have hw285_0 := hx285_0
        cases e285
        replace hx285_0 := bcl HB hx285_0
        replace hx285_1 := bcl HB hx285_1
        replace hx285_2 := bcl HB hx285_2
        replace p285 := eq_true p285
        replace q285 := eq_true q285
        refine start_ (n := 11) (S := fun w' => w'.cell? ⟨gb283, 0, none⟩ = some (.int .i64 a1_0) ∧ w'.cell? ⟨gb283, 1, none⟩ = some (.int .i64 a1_1) ∧ w'.cell? ⟨gb283, 2, none⟩ = some (.int .i64 a1_2) ∧ w'.cell? (ad285.add ((x12_1).toNat * 3)) = some (.string ((rd_T58 l0 x12_1).f0)) ∧ w'.cell? ⟨(ad285.add ((x12_1).toNat * 3)).block, (ad285.add ((x12_1).toNat * 3)).off + 1, none⟩ = some (.int .i64 ((rd_T58 l0 x12_1).f1)) ∧ w'.cell? ⟨(ad285.add ((x12_1).toNat * 3)).block, (ad285.add ((x12_1).toNat * 3)).off + 2, none⟩ = some (.int .i64 ((rd_T58 l0 x12_1).f2))) (ds := []) #[false, false, false, false, false, false, false, false, false, false, false] (by kernel_rfl) rfl rfl ⟨(blk_cell BK283.out 0).trans rfl, (blk_cell BK283.out 1).trans rfl, (blk_cell BK283.out 2).trans rfl, (bcl HB hw285_0), (bcl HB hw285_1), (bcl HB hw285_2)⟩ (fun hHeld => ?_); refine with_tabW pylonref14_Season.tab6 pylonref14_Season.bits6 (fun HT_ HW_ => ?_)
        generalize wr.drew = w13 at BK283 HB hx285_0 hx285_1 hx285_2 hHeld ⊢
        refine pure_ (i := 0) (N := some 15) (v := ?_) (a' := ?_) #[true, false, false, false, false, false, false, false, false, false, false] rfl rfl (any_of HT_.out (by kernel_rfl)) (fun _ _ _ h => h) (Or.inl ⟨by rfl, ?_⟩) ?_ ?_
        rotate_left
        ·intro w'
         go_simp
         with_reducible rfl
        rotate_left
        ·simp only [Act.put, List.setIfInBounds_toArray, List.set_cons_zero, List.set_cons_succ, i64_w, i32_w]
         rfl
        refine pure_ (i := 1) (N := some 16) (v := ?_) (a' := ?_) #[true, true, false, false, false, false, false, false, false, false, false] rfl rfl (any_of HT_.out (by kernel_rfl)) (fun _ _ _ h => h) (Or.inl ⟨by rfl, ?_⟩) ?_ ?_
        rotate_left
        ·intro w'
         go_simp
         with_reducible rfl
        rotate_left
        ·simp only [Act.put, List.setIfInBounds_toArray, List.set_cons_zero, List.set_cons_succ, i64_w, i32_w]
         rfl
        refine pure_ (i := 2) (N := some 17) (v := ?_) (a' := ?_) #[true, true, true, false, false, false, false, false, false, false, false] rfl rfl (any_of HT_.out (by kernel_rfl)) (fun _ _ _ h => h) (Or.inl ⟨by rfl, ?_⟩) ?_ ?_
        rotate_left
        ·intro w'
         go_simp
         with_reducible rfl
        rotate_left
        ·simp only [Act.put, List.setIfInBounds_toArray, List.set_cons_zero, List.set_cons_succ, i64_w, i32_w]
         rfl
        refine pure_ (i := 4) (N := some 19) (v := ?_) (a' := ?_) #[true, true, true, false, true, false, false, false, false, false, false] rfl rfl (any_of HT_.out (by kernel_rfl)) (fun _ _ _ h => h) (Or.inl ⟨by rfl, ?_⟩) ?_ ?_
        rotate_left
        ·intro w'
         go_simp
         with_reducible rfl
        rotate_left
        ·simp only [Act.put, List.setIfInBounds_toArray, List.set_cons_zero, List.set_cons_succ, i64_w, i32_w]
         rfl
        refine pure_ (i := 7) (N := some 22) (v := ?_) (a' := ?_) #[true, true, true, false, true, false, false, true, false, false, false] rfl rfl (any_of HT_.out (by kernel_rfl)) (fun _ _ _ h => h) (Or.inl ⟨by rfl, ?_⟩) ?_ ?_
        rotate_left
        ·intro w'
         go_simp
         with_reducible rfl
        rotate_left
        ·simp only [Act.put, List.setIfInBounds_toArray, List.set_cons_zero, List.set_cons_succ, i64_w, i32_w]
         rfl
        refine take_ (i := 3) (N := some 18) (v := ?_) (a' := ?_) #[true, true, true, true, true, false, false, true, false, false, false] rfl rfl (take_ofW HT_.out HW_.out (by kernel_rfl)) (fun _ _ _ h => h) (Or.inl ⟨by rfl, ?_⟩) hHeld ?_ ?_
        rotate_left
        ·rintro w' ⟨s0, s1, s2, s3, s4, s5⟩
         go_simp
         with_reducible rfl
        rotate_left
        ·simp only [Act.put, List.setIfInBounds_toArray, List.set_cons_zero, List.set_cons_succ, i64_w, i32_w]
         rfl
        refine take_ (i := 5) (N := some 20) (v := ?_) (a' := ?_) #[true, true, true, true, true, true, false, true, false, false, false] rfl rfl (take_ofW HT_.out HW_.out (by kernel_rfl)) (fun _ _ _ h => h) (Or.inl ⟨by rfl, ?_⟩) hHeld ?_ ?_
        rotate_left
        ·rintro w' ⟨s0, s1, s2, s3, s4, s5⟩
         go_simp
         with_reducible rfl
        rotate_left
        ·simp only [Act.put, List.setIfInBounds_toArray, List.set_cons_zero, List.set_cons_succ, i64_w, i32_w]
         rfl
        refine pure_ (i := 6) (N := some 21) (v := ?_) (a' := ?_) #[true, true, true, true, true, true, true, true, false, false, false] rfl rfl (any_of HT_.out (by kernel_rfl)) (fun _ _ _ h => h) (Or.inl ⟨by rfl, ?_⟩) ?_ ?_
        rotate_left
        ·intro w'
         go_simp
         with_reducible rfl
        rotate_left
        ·simp only [Act.put, List.setIfInBounds_toArray, List.set_cons_zero, List.set_cons_succ, i64_w, i32_w]
         rfl
        refine take_ (i := 8) (N := some 23) (v := ?_) (a' := ?_) #[true, true, true, true, true, true, true, true, true, false, false] rfl rfl (take_ofW HT_.out HW_.out (by kernel_rfl)) (fun _ _ _ h => h) (Or.inl ⟨by rfl, ?_⟩) hHeld ?_ ?_
        rotate_left
        ·rintro w' ⟨s0, s1, s2, s3, s4, s5⟩
         go_simp
         with_reducible rfl
        rotate_left
        ·simp only [Act.put, List.setIfInBounds_toArray, List.set_cons_zero, List.set_cons_succ, i64_w, i32_w]
         rfl
        refine pure_ (i := 9) (N := some 24) (v := ?_) (a' := ?_) #[true, true, true, true, true, true, true, true, true, true, false] rfl rfl (any_of HT_.out (by kernel_rfl)) (fun _ _ _ h => h) (Or.inl ⟨by rfl, ?_⟩) ?_ ?_
        rotate_left
        ·intro w'
         go_simp
         with_reducible rfl
        rotate_left
        ·simp only [Act.put, List.setIfInBounds_toArray, List.set_cons_zero, List.set_cons_succ, i64_w, i32_w]
         rfl
        refine one_ (i := 10) (N := some 25) #[true, true, true, true, true, true, true, true, true, true, true] rfl rfl (one_of HT_.out (by kernel_rfl)) (by decide) (fun K hK => ?_)
        refine goes_ Try.func47 (by kernel_rfl) rfl #[.agg #[.string ((rd_T58 l0 x12_1).f0), .int .i64 ((rd_T58 l0 x12_1).f1), .int .i64 ((rd_T58 l0 x12_1).f2)], .int .i64 (wrap64 ((wrap64 (100 * a1_1)) + a1_2))] (by rfl) rfl rfl (by (try simp only [List.map_toArray, List.map_cons, List.map_nil]); first | done | rfl | (simp only [List.length_drop, List.length_take]; rfl)) ?_
        with_reducible refine (pylonref09_Holds.calls k1 ((rd_T58 l0 x12_1).f0) ((rd_T58 l0 x12_1).f1) ((rd_T58 l0 x12_1).f2) (wrap64 ((wrap64 (100 * a1_1)) + a1_2)) true _ A11.out).mono ?_
        rintro e w14 ⟨rfl, hb⟩
        refine ⟨_, rfl, ?_⟩
        have n0_ := AX (bkb BK283 hb)
        have n1_ := AX (below_step bw hb)
        clear BK283
        clear HB
        have BK283 := n0_
        have HB := n1_
        clear n0_ n1_
        (try clear hb)
        (try clear hb2)
        (try clear hk)
        (try clear hi)
        refine hK.out _ _ ⟨(blk_cell BK283.out 0).trans rfl, (blk_cell BK283.out 1).trans rfl, (blk_cell BK283.out 2).trans rfl, (bcl HB hw285_0), (bcl HB hw285_1), (bcl HB hw285_2)⟩ (fun hHeld => ?_)
        clear hK K
        refine norm_ (a' := ?_) ?_ ?_
        rotate_left
        ·show Act.put _ (some 25) _ = _
         simp only [Act.put, List.setIfInBounds_toArray, List.set_cons_zero, List.set_cons_succ, i64_w, i32_w]
         rfl
        refine done_ (done_of HT_.out (by kernel_rfl)) ?_
        try go_wp2
        go_ret2
        exact ⟨by first | rfl | (simp [errW_none, errW_some] <;> rfl) | (simp [*, errW_none, errW_some] <;> rfl), bw⟩
       ·replace c12 := Bool.eq_false_iff.mpr c12
        subst c12
        have H1 : (pylonref14_Season.l0 k1 l0 (l0.length : Int) (wrap64 (x12_1 + 1)) a1_0 a1_1 a1_2) = some (r1, r2) := by rw [if_neg (show ¬ (false = true) by decide)] at H; exact H
        clear H
        have H := H1
        clear H1
        have H' := AX H
        clear H
        try go_wp2
        have n0_ := AX (blk_drew BK283.out)
        have n1_ := AX (below_drew1 HB.out)
        clear BK283
        clear HB
        have BK283 := n0_
        have HB := n1_
        clear n0_ n1_
        have p285 : 0 ≤ (x12_1 : Int) := of_decide_eq_true (by first | (with_reducible assumption) | assumption)
        have q285 : x12_1 < (l0.length : Int) := of_decide_eq_true (by first | (with_reducible assumption) | assumption)
        obtain ⟨ad285, e285, hx285_0, hx285_1, hx285_2⟩ := at_T58 HR0.out x12_1 p285 q285
        have hw285_2 := hx285_2
        have hw285_1 := hx285_1
        have hw285_0 := hx285_0
        cases e285
        replace hx285_0 := bcl HB hx285_0
        replace hx285_1 := bcl HB hx285_1
        replace hx285_2 := bcl HB hx285_2
        replace p285 := eq_true p285
        replace q285 := eq_true q285
        refine start_ (n := 11) (S := fun w' => w'.cell? ⟨gb283, 0, none⟩ = some (.int .i64 a1_0) ∧ w'.cell? ⟨gb283, 1, none⟩ = some (.int .i64 a1_1) ∧ w'.cell? ⟨gb283, 2, none⟩ = some (.int .i64 a1_2) ∧ w'.cell? (ad285.add ((x12_1).toNat * 3)) = some (.string ((rd_T58 l0 x12_1).f0)) ∧ w'.cell? ⟨(ad285.add ((x12_1).toNat * 3)).block, (ad285.add ((x12_1).toNat * 3)).off + 1, none⟩ = some (.int .i64 ((rd_T58 l0 x12_1).f1)) ∧ w'.cell? ⟨(ad285.add ((x12_1).toNat * 3)).block, (ad285.add ((x12_1).toNat * 3)).off + 2, none⟩ = some (.int .i64 ((rd_T58 l0 x12_1).f2))) (ds := []) #[false, false, false, false, false, false, false, false, false, false, false] (by kernel_rfl) rfl rfl ⟨(blk_cell BK283.out 0).trans rfl, (blk_cell BK283.out 1).trans rfl, (blk_cell BK283.out 2).trans rfl, (bcl HB hw285_0), (bcl HB hw285_1), (bcl HB hw285_2)⟩ (fun hHeld => ?_); refine with_tabW pylonref14_Season.tab6 pylonref14_Season.bits6 (fun HT_ HW_ => ?_)
        generalize wr.drew = w15 at BK283 HB hx285_0 hx285_1 hx285_2 hHeld ⊢
        refine pure_ (i := 0) (N := some 15) (v := ?_) (a' := ?_) #[true, false, false, false, false, false, false, false, false, false, false] rfl rfl (any_of HT_.out (by kernel_rfl)) (fun _ _ _ h => h) (Or.inl ⟨by rfl, ?_⟩) ?_ ?_
        rotate_left
        ·intro w'
         go_simp
         with_reducible rfl
        rotate_left
        ·simp only [Act.put, List.setIfInBounds_toArray, List.set_cons_zero, List.set_cons_succ, i64_w, i32_w]
         rfl
        refine pure_ (i := 1) (N := some 16) (v := ?_) (a' := ?_) #[true, true, false, false, false, false, false, false, false, false, false] rfl rfl (any_of HT_.out (by kernel_rfl)) (fun _ _ _ h => h) (Or.inl ⟨by rfl, ?_⟩) ?_ ?_
        rotate_left
        ·intro w'
         go_simp
         with_reducible rfl
        rotate_left
        ·simp only [Act.put, List.setIfInBounds_toArray, List.set_cons_zero, List.set_cons_succ, i64_w, i32_w]
         rfl
        refine pure_ (i := 2) (N := some 17) (v := ?_) (a' := ?_) #[true, true, true, false, false, false, false, false, false, false, false] rfl rfl (any_of HT_.out (by kernel_rfl)) (fun _ _ _ h => h) (Or.inl ⟨by rfl, ?_⟩) ?_ ?_
        rotate_left
        ·intro w'
         go_simp
         with_reducible rfl
        rotate_left
        ·simp only [Act.put, List.setIfInBounds_toArray, List.set_cons_zero, List.set_cons_succ, i64_w, i32_w]
         rfl
        refine pure_ (i := 4) (N := some 19) (v := ?_) (a' := ?_) #[true, true, true, false, true, false, false, false, false, false, false] rfl rfl (any_of HT_.out (by kernel_rfl)) (fun _ _ _ h => h) (Or.inl ⟨by rfl, ?_⟩) ?_ ?_
        rotate_left
        ·intro w'
         go_simp
         with_reducible rfl
        rotate_left
        ·simp only [Act.put, List.setIfInBounds_toArray, List.set_cons_zero, List.set_cons_succ, i64_w, i32_w]
         rfl
        refine pure_ (i := 7) (N := some 22) (v := ?_) (a' := ?_) #[true, true, true, false, true, false, false, true, false, false, false] rfl rfl (any_of HT_.out (by kernel_rfl)) (fun _ _ _ h => h) (Or.inl ⟨by rfl, ?_⟩) ?_ ?_
        rotate_left
        ·intro w'
         go_simp
         with_reducible rfl
        rotate_left
        ·simp only [Act.put, List.setIfInBounds_toArray, List.set_cons_zero, List.set_cons_succ, i64_w, i32_w]
         rfl
        refine take_ (i := 3) (N := some 18) (v := ?_) (a' := ?_) #[true, true, true, true, true, false, false, true, false, false, false] rfl rfl (take_ofW HT_.out HW_.out (by kernel_rfl)) (fun _ _ _ h => h) (Or.inl ⟨by rfl, ?_⟩) hHeld ?_ ?_
        rotate_left
        ·rintro w' ⟨s0, s1, s2, s3, s4, s5⟩
         go_simp
         with_reducible rfl
        rotate_left
        ·simp only [Act.put, List.setIfInBounds_toArray, List.set_cons_zero, List.set_cons_succ, i64_w, i32_w]
         rfl
        refine take_ (i := 5) (N := some 20) (v := ?_) (a' := ?_) #[true, true, true, true, true, true, false, true, false, false, false] rfl rfl (take_ofW HT_.out HW_.out (by kernel_rfl)) (fun _ _ _ h => h) (Or.inl ⟨by rfl, ?_⟩) hHeld ?_ ?_
        rotate_left
        ·rintro w' ⟨s0, s1, s2, s3, s4, s5⟩
         go_simp
         with_reducible rfl
        rotate_left
        ·simp only [Act.put, List.setIfInBounds_toArray, List.set_cons_zero, List.set_cons_succ, i64_w, i32_w]
         rfl
        refine pure_ (i := 6) (N := some 21) (v := ?_) (a' := ?_) #[true, true, true, true, true, true, true, true, false, false, false] rfl rfl (any_of HT_.out (by kernel_rfl)) (fun _ _ _ h => h) (Or.inl ⟨by rfl, ?_⟩) ?_ ?_
        rotate_left
        ·intro w'
         go_simp
         with_reducible rfl
        rotate_left
        ·simp only [Act.put, List.setIfInBounds_toArray, List.set_cons_zero, List.set_cons_succ, i64_w, i32_w]
         rfl
        refine take_ (i := 8) (N := some 23) (v := ?_) (a' := ?_) #[true, true, true, true, true, true, true, true, true, false, false] rfl rfl (take_ofW HT_.out HW_.out (by kernel_rfl)) (fun _ _ _ h => h) (Or.inl ⟨by rfl, ?_⟩) hHeld ?_ ?_
        rotate_left
        ·rintro w' ⟨s0, s1, s2, s3, s4, s5⟩
         go_simp
         with_reducible rfl
        rotate_left
        ·simp only [Act.put, List.setIfInBounds_toArray, List.set_cons_zero, List.set_cons_succ, i64_w, i32_w]
         rfl
        refine pure_ (i := 9) (N := some 24) (v := ?_) (a' := ?_) #[true, true, true, true, true, true, true, true, true, true, false] rfl rfl (any_of HT_.out (by kernel_rfl)) (fun _ _ _ h => h) (Or.inl ⟨by rfl, ?_⟩) ?_ ?_
        rotate_left
        ·intro w'
         go_simp
         with_reducible rfl
        rotate_left
        ·simp only [Act.put, List.setIfInBounds_toArray, List.set_cons_zero, List.set_cons_succ, i64_w, i32_w]
         rfl
        refine one_ (i := 10) (N := some 25) #[true, true, true, true, true, true, true, true, true, true, true] rfl rfl (one_of HT_.out (by kernel_rfl)) (by decide) (fun K hK => ?_)
        refine goes_ Try.func47 (by kernel_rfl) rfl #[.agg #[.string ((rd_T58 l0 x12_1).f0), .int .i64 ((rd_T58 l0 x12_1).f1), .int .i64 ((rd_T58 l0 x12_1).f2)], .int .i64 (wrap64 ((wrap64 (100 * a1_1)) + a1_2))] (by rfl) rfl rfl (by (try simp only [List.map_toArray, List.map_cons, List.map_nil]); first | done | rfl | (simp only [List.length_drop, List.length_take]; rfl)) ?_
        with_reducible refine (pylonref09_Holds.calls k1 ((rd_T58 l0 x12_1).f0) ((rd_T58 l0 x12_1).f1) ((rd_T58 l0 x12_1).f2) (wrap64 ((wrap64 (100 * a1_1)) + a1_2)) false _ A11.out).mono ?_
        rintro e w16 ⟨rfl, hb⟩
        refine ⟨_, rfl, ?_⟩
        have n0_ := AX (bkb BK283 hb)
        have n1_ := AX (below_step bw hb)
        clear BK283
        clear HB
        have BK283 := n0_
        have HB := n1_
        clear n0_ n1_
        (try clear hb)
        (try clear hb2)
        (try clear hk)
        (try clear hi)
        refine hK.out _ _ ⟨(blk_cell BK283.out 0).trans rfl, (blk_cell BK283.out 1).trans rfl, (blk_cell BK283.out 2).trans rfl, (bcl HB hw285_0), (bcl HB hw285_1), (bcl HB hw285_2)⟩ (fun hHeld => ?_)
        clear hK K
        refine norm_ (a' := ?_) ?_ ?_
        rotate_left
        ·show Act.put _ (some 25) _ = _
         simp only [Act.put, List.setIfInBounds_toArray, List.set_cons_zero, List.set_cons_succ, i64_w, i32_w]
         rfl
        refine done_ (done_of HT_.out (by kernel_rfl)) ?_
        try go_wp2
        go_roundg k1
        case measure => have := HK1.out; omega
        case rel => exact ⟨(wrap64 (x12_1 + 1)), (by first | rfl | (simp; done) | (simp [*]; done)), H', ⟨by have := HK1.out; omega⟩, ⟨bkn BK283⟩, ⟨bw⟩⟩
      ·rw [if_neg c10] at H
       exact absurd H (by simp)
     ·rw [if_neg c9] at H
      exact absurd H (by simp)
    ·rw [if_neg c8] at H
     have c8b0 : decide (x12_1 < (l0.length : Int)) = false := decide_eq_false c8
     clear c8
     simp only [Option.some.injEq, Prod.mk.injEq] at H
     obtain ⟨rfl, rfl⟩ := H
     go_wp2
     go_ret2
     exact ⟨by first | rfl | (simp [errW_none, errW_some] <;> rfl) | (simp [*, errW_none, errW_some] <;> rfl), bw⟩
 ·replace c4 := Bool.eq_false_iff.mpr c4
  subst c4
  have H1 : (some (0, 5)) = some (r1, r2) := by rw [if_neg (show ¬ (false = true) by decide)] at H; exact H
  clear H
  have H := H1
  clear H1
  simp only [Option.some.injEq, Prod.mk.injEq] at H
  obtain ⟨rfl, rfl⟩ := H
  go_enter Try.func22, Try.ntmps22
  go_wp2_with (first | ((with_reducible refine gate_dst (N := 3) rfl ?_); refine bx 3 #[.int .i64 a1_0, .int .i64 a1_1, .int .i64 a1_2] 24 ?_; intro gb283 hg w17 hbox hb; have BK283 := AX (hbox); have GW283 := gwl (w := w) hg bw; have GE283 := GW283; replace HB := AX (below_step bw hb); clear hb hbox hg; obtain ⟨hcz18_0, hcz18_1, hcz18_2⟩ := blkC3 (w := w17) BK283.out; obtain ⟨hfz18_0, hfz18_1, hfz18_2⟩ := blkF3 BK283.out) | ((with_reducible refine gate_callee (f := 45) rfl ?_); refine gL (some 8) Try.func45 #[.agg #[.int .i64 a1_0, .int .i64 a1_1, .int .i64 a1_2]] ?_; (with_reducible refine (pylonref03_Is.calls k a1_0 a1_1 a1_2 false _ A3.out).mono ?_); rintro e w19 ⟨rfl, hb⟩; refine ⟨_, rfl, ?_⟩; replace BK283 := AX (bkb BK283 hb); replace HB := AX (below_step bw hb); (try clear hb)))
  go_ret2
  exact ⟨by first | rfl | (simp [errW_none, errW_some] <;> rfl) | (simp [*, errW_none, errW_some] <;> rfl), bw⟩

/-! ### civil_YearDay: function 93 -/
def civil_YearDay.f (a0_0 : Int) (a0_1 : Int) (a0_2 : Int) : Option (Int × Int) := (civil_Days.f a0_0 a0_1 a0_2).bind fun bt288 => (if bt288.2 = 0 then ((civil_Days.f a0_0 1 1).bind fun bt290 => (some (wrap64 ((wrap64 (bt288.1 - bt290.1)) + 1), 0))) else (some (0, bt288.2)))
set_option maxHeartbeats 8000000 in
set_option maxRecDepth 100000 in
theorem civil_YearDay.calls (a0_0 : Int) (a0_1 : Int) (a0_2 : Int) (r1 : Int) (r2 : Int) (w : World) (h : civil_YearDay.f a0_0 a0_1 a0_2 = some (r1, r2)) :
  Calls Try.prog 93 #[.agg #[.int .i64 a0_0, .int .i64 a0_1, .int .i64 a0_2]] w fun e w' => e = .returned (.tuple #[.int .i64 r1, .int .i64 r2]) ∧ Below w.heap.size w w' := by
 have hu24 := Try.underlying24
 have HB := AX (Below.refl w.heap.size w)
 have H : ((civil_Days.f a0_0 a0_1 a0_2).bind fun bt288 => (if bt288.2 = 0 then ((civil_Days.f a0_0 1 1).bind fun bt290 => (some (wrap64 ((wrap64 (bt288.1 - bt290.1)) + 1), 0))) else (some (0, bt288.2)))) = some (r1, r2) := h
 clear h
 replace H := Option.bind_eq_some_iff.mp H
 obtain ⟨⟨t288, t289⟩, A20, H⟩ := H
 replace H : (if t289 = 0 then ((civil_Days.f a0_0 1 1).bind fun bt290 => (some (wrap64 ((wrap64 (t288 - bt290.1)) + 1), 0))) else (some (0, t289))) = some (r1, r2) := H
 have A2 := AX A20
 clear A20
 by_cases c3 : t289 = 0
 ·rw [if_pos c3] at H
  have c3b0 : (t289 == 0) = true := beq_iff_eq.mpr c3
  have c3b1 : (t289 != 0) = false := bne_eq_false_iff_eq.mpr c3
  clear c3
  replace H := Option.bind_eq_some_iff.mp H
  obtain ⟨⟨t290, t291⟩, A40, H⟩ := H
  replace H : (some (wrap64 ((wrap64 (t288 - t290)) + 1), 0)) = some (r1, r2) := H
  have A4 := AX A40
  clear A40
  simp only [Option.some.injEq, Prod.mk.injEq] at H
  obtain ⟨rfl, rfl⟩ := H
  go_enter Try.func93, Try.ntmps93
  go_wp2_with (first | ((with_reducible refine gate_dst (N := 1) rfl ?_); refine bx 1 #[.int .i64 a0_0, .int .i64 a0_1, .int .i64 a0_2] 24 ?_; intro gb287 hg w5 hbox hb; have BK287 := AX (hbox); have GW287 := gwl (w := w) hg bw; have GE287 := GW287; replace HB := AX (below_step bw hb); clear hb hbox hg; obtain ⟨hcz6_0, hcz6_1, hcz6_2⟩ := blkC3 (w := w5) BK287.out; obtain ⟨hfz6_0, hfz6_1, hfz6_2⟩ := blkF3 BK287.out) | ((with_reducible refine gate_callee (f := 48) rfl ?_); refine gL (some 10) Try.func48 #[.agg #[.int .i64 a0_0, .int .i64 a0_1, .int .i64 a0_2]] ?_; (with_reducible refine (civil_Days.calls a0_0 a0_1 a0_2 t288 t289 _ A2.out).mono ?_); rintro e w7 ⟨rfl, hb⟩; refine ⟨_, rfl, ?_⟩; replace BK287 := AX (bkb BK287 hb); replace HB := AX (below_step bw hb); (try clear hb); obtain ⟨hcz8_0, hcz8_1, hcz8_2⟩ := blkC3 (w := w7) BK287.out; obtain ⟨hfz8_0, hfz8_1, hfz8_2⟩ := blkF3 BK287.out) | ((with_reducible refine gate_callee (f := 48) rfl ?_); refine gL (some 20) Try.func48 #[.agg #[.int .i64 a0_0, .int .i64 1, .int .i64 1]] ?_; (with_reducible refine (civil_Days.calls a0_0 1 1 t290 t291 _ A4.out).mono ?_); rintro e w9 ⟨rfl, hb⟩; refine ⟨_, rfl, ?_⟩; replace BK287 := AX (bkb BK287 hb); replace HB := AX (below_step bw hb); (try clear hb)))
  go_ret2
  exact ⟨by first | rfl | (simp [errW_none, errW_some] <;> rfl) | (simp [*, errW_none, errW_some] <;> rfl), bw⟩
 ·rw [if_neg c3] at H
  have c3b0 : (t289 == 0) = false := beq_eq_false_iff_ne.mpr c3
  have c3b1 : (t289 != 0) = true := bne_iff_ne.mpr c3
  simp only [Option.some.injEq, Prod.mk.injEq] at H
  obtain ⟨rfl, rfl⟩ := H
  go_enter Try.func93, Try.ntmps93
  go_wp2_with (first | ((with_reducible refine gate_dst (N := 1) rfl ?_); refine bx 1 #[.int .i64 a0_0, .int .i64 a0_1, .int .i64 a0_2] 24 ?_; intro gb287 hg w10 hbox hb; have BK287 := AX (hbox); have GW287 := gwl (w := w) hg bw; have GE287 := GW287; replace HB := AX (below_step bw hb); clear hb hbox hg; obtain ⟨hcz11_0, hcz11_1, hcz11_2⟩ := blkC3 (w := w10) BK287.out; obtain ⟨hfz11_0, hfz11_1, hfz11_2⟩ := blkF3 BK287.out) | ((with_reducible refine gate_callee (f := 48) rfl ?_); refine gL (some 10) Try.func48 #[.agg #[.int .i64 a0_0, .int .i64 a0_1, .int .i64 a0_2]] ?_; (with_reducible refine (civil_Days.calls a0_0 a0_1 a0_2 t288 t289 _ A2.out).mono ?_); rintro e w12 ⟨rfl, hb⟩; refine ⟨_, rfl, ?_⟩; replace BK287 := AX (bkb BK287 hb); replace HB := AX (below_step bw hb); (try clear hb)))
  go_ret2
  exact ⟨by first | rfl | (simp [errW_none, errW_some] <;> rfl) | (simp [*, errW_none, errW_some] <;> rfl), bw⟩

/-! ### sound_Day: function 75 -/
def sound_Day.f (a0 : Int) : Option (Int × Int) := (civil_YearDay.f 2000 (wrap64 (Int.tdiv a0 100)) (Int.tmod a0 100)).bind fun bt292 => (if bt292.2 = 0 then (some (bt292.1, 0)) else (some (0, 8)))
set_option maxHeartbeats 8000000 in
set_option maxRecDepth 100000 in
theorem sound_Day.calls (a0 : Int) (r1 : Int) (r2 : Int) (w : World) (h : sound_Day.f a0 = some (r1, r2)) :
  Calls Try.prog 75 #[.int .i64 a0] w fun e w' => e = .returned (.tuple #[.int .i64 r1, .int .i64 r2]) ∧ Below w.heap.size w w' := by
 have hu24 := Try.underlying24
 have HB := AX (Below.refl w.heap.size w)
 have H : ((civil_YearDay.f 2000 (wrap64 (Int.tdiv a0 100)) (Int.tmod a0 100)).bind fun bt292 => (if bt292.2 = 0 then (some (bt292.1, 0)) else (some (0, 8)))) = some (r1, r2) := h
 clear h
 replace H := Option.bind_eq_some_iff.mp H
 obtain ⟨⟨t292, t293⟩, A20, H⟩ := H
 replace H : (if t293 = 0 then (some (t292, 0)) else (some (0, 8))) = some (r1, r2) := H
 have A2 := AX A20
 clear A20
 by_cases c3 : t293 = 0
 ·rw [if_pos c3] at H
  have c3b0 : (t293 == 0) = true := beq_iff_eq.mpr c3
  have c3b1 : (t293 != 0) = false := bne_eq_false_iff_eq.mpr c3
  clear c3
  simp only [Option.some.injEq, Prod.mk.injEq] at H
  obtain ⟨rfl, rfl⟩ := H
  go_enter Try.func75, Try.ntmps75
  go_wp2_with (first | ((with_reducible refine gate_callee (f := 93) rfl ?_); refine gL (some 12) Try.func93 #[.agg #[.int .i64 2000, .int .i64 (wrap64 (Int.tdiv a0 100)), .int .i64 (Int.tmod a0 100)]] ?_; (with_reducible refine (civil_YearDay.calls 2000 (wrap64 (Int.tdiv a0 100)) (Int.tmod a0 100) t292 t293 _ A2.out).mono ?_); rintro e w4 ⟨rfl, hb⟩; refine ⟨_, rfl, ?_⟩; replace HB := AX (below_step bw hb); (try clear hb)))
  go_ret2
  exact ⟨by first | rfl | (simp [errW_none, errW_some] <;> rfl) | (simp [*, errW_none, errW_some] <;> rfl), bw⟩
 ·rw [if_neg c3] at H
  have c3b0 : (t293 == 0) = false := beq_eq_false_iff_ne.mpr c3
  have c3b1 : (t293 != 0) = true := bne_iff_ne.mpr c3
  simp only [Option.some.injEq, Prod.mk.injEq] at H
  obtain ⟨rfl, rfl⟩ := H
  go_enter Try.func75, Try.ntmps75
  go_wp2_with (first | ((with_reducible refine gate_callee (f := 93) rfl ?_); refine gL (some 12) Try.func93 #[.agg #[.int .i64 2000, .int .i64 (wrap64 (Int.tdiv a0 100)), .int .i64 (Int.tmod a0 100)]] ?_; (with_reducible refine (civil_YearDay.calls 2000 (wrap64 (Int.tdiv a0 100)) (Int.tmod a0 100) t292 t293 _ A2.out).mono ?_); rintro e w5 ⟨rfl, hb⟩; refine ⟨_, rfl, ?_⟩; replace HB := AX (below_step bw hb); (try clear hb)))
  go_ret2
  exact ⟨by first | rfl | (simp [errW_none, errW_some] <;> rfl) | (simp [*, errW_none, errW_some] <;> rfl), bw⟩

/-! ### sound_Holds: function 49 -/
def sound_Holds.j0 : Nat → Int → Int → Int → Bool → Option (Bool)
 | 0, _, _, _, _ => none
 | k + 1, x5, x7, x9, x28 => if x28 = true then (some false) else (if x7 ≤ x9 then (if x7 ≤ x5 then (some (decide (x5 ≤ x9))) else (some false)) else (if x7 ≤ x5 then (some true) else (some (decide (x5 ≤ x9)))))
def sound_Holds.f (k : Nat) (a0_0 : ByteArray) (a0_1 : Int) (a0_2 : Int) (a1 : Int) : Option (Bool) := (sound_Day.f a1).bind fun bt295 => ((sound_Day.f a0_1).bind fun bt297 => ((sound_Day.f a0_2).bind fun bt299 => (if bt295.2 = 0 then (if bt297.2 = 0 then (sound_Holds.j0 k bt295.1 bt297.1 bt299.1 (bt299.2 != 0)) else (sound_Holds.j0 k bt295.1 bt297.1 bt299.1 true)) else (sound_Holds.j0 k bt295.1 bt297.1 bt299.1 true))))
theorem sound_Holds.mono_l : ∀ k, (∀ y0 y1 y2 y3, LeO (sound_Holds.j0 k y0 y1 y2 y3) (sound_Holds.j0 (k + 1) y0 y1 y2 y3))
 | 0 => fun _ _ _ _ r h => by simp [sound_Holds.j0] at h
 | k + 1 => by
  have ih0 := sound_Holds.mono_l k
  ·intro y0 y1 y2 y3
   unfold sound_Holds.j0
   repeat' first
   | (with_reducible exact ih0 _ _ _ _)
   | (with_reducible exact LeO.refl _)
   | (with_reducible exact LeO.none _)
   | (with_reducible refine LeO.ite ?_ ?_)
   | (with_reducible refine LeO.bind ?_ (fun _ => ?_))
theorem sound_Holds.mono : ∀ a0 a1 a2 a3 k, LeO (sound_Holds.f k a0 a1 a2 a3) (sound_Holds.f (k + 1) a0 a1 a2 a3) := by
 intro a0 a1 a2 a3 k
 have ih0 := sound_Holds.mono_l k
 unfold sound_Holds.f
 repeat' first
   | (with_reducible exact ih0 _ _ _ _)
   | (with_reducible exact LeO.refl _)
   | (with_reducible exact LeO.none _)
   | (with_reducible refine LeO.ite ?_ ?_)
   | (with_reducible refine LeO.bind ?_ (fun _ => ?_))
set_option maxHeartbeats 8000000 in
set_option maxRecDepth 100000 in
theorem sound_Holds.calls (k : Nat) (a0_0 : ByteArray) (a0_1 : Int) (a0_2 : Int) (a1 : Int) (r : Bool) (w : World) (h : sound_Holds.f k a0_0 a0_1 a0_2 a1 = some r) :
  Calls Try.prog 49 #[.agg #[.string a0_0, .int .i64 a0_1, .int .i64 a0_2], .int .i64 a1] w fun e w' => e = .returned (.bool r) ∧ Below w.heap.size w w' := by
 have hu58 := Try.underlying58
 have HB := AX (Below.refl w.heap.size w)
 have H : ((sound_Day.f a1).bind fun bt295 => ((sound_Day.f a0_1).bind fun bt297 => ((sound_Day.f a0_2).bind fun bt299 => (if bt295.2 = 0 then (if bt297.2 = 0 then (sound_Holds.j0 k bt295.1 bt297.1 bt299.1 (bt299.2 != 0)) else (sound_Holds.j0 k bt295.1 bt297.1 bt299.1 true)) else (sound_Holds.j0 k bt295.1 bt297.1 bt299.1 true))))) = some r := h
 clear h
 replace H := Option.bind_eq_some_iff.mp H
 obtain ⟨⟨t295, t296⟩, A30, H⟩ := H
 replace H : ((sound_Day.f a0_1).bind fun bt297 => ((sound_Day.f a0_2).bind fun bt299 => (if t296 = 0 then (if bt297.2 = 0 then (sound_Holds.j0 k t295 bt297.1 bt299.1 (bt299.2 != 0)) else (sound_Holds.j0 k t295 bt297.1 bt299.1 true)) else (sound_Holds.j0 k t295 bt297.1 bt299.1 true)))) = some r := H
 have A3 := AX A30
 clear A30
 replace H := Option.bind_eq_some_iff.mp H
 obtain ⟨⟨t297, t298⟩, A40, H⟩ := H
 replace H : ((sound_Day.f a0_2).bind fun bt299 => (if t296 = 0 then (if t298 = 0 then (sound_Holds.j0 k t295 t297 bt299.1 (bt299.2 != 0)) else (sound_Holds.j0 k t295 t297 bt299.1 true)) else (sound_Holds.j0 k t295 t297 bt299.1 true))) = some r := H
 have A4 := AX A40
 clear A40
 replace H := Option.bind_eq_some_iff.mp H
 obtain ⟨⟨t299, t300⟩, A50, H⟩ := H
 replace H : (if t296 = 0 then (if t298 = 0 then (sound_Holds.j0 k t295 t297 t299 (t300 != 0)) else (sound_Holds.j0 k t295 t297 t299 true)) else (sound_Holds.j0 k t295 t297 t299 true)) = some r := H
 have A5 := AX A50
 clear A50
 have HC6 := AX H
 clear H
 go_enter Try.func49, Try.ntmps49
 go_upto_region 4 with (first | ((with_reducible refine gate_dst (N := 2) rfl ?_); refine bx 2 #[.string a0_0, .int .i64 a0_1, .int .i64 a0_2] 58 ?_; intro gb294 hg w7 hbox hb; have BK294 := AX (hbox); have GW294 := gwl (w := w) hg bw; have GE294 := GW294; replace HB := AX (below_step bw hb); clear hb hbox hg) | ((with_reducible refine gate_callee (f := 75) rfl ?_); refine gL (some 13) Try.func75 #[.int .i64 a1] ?_; (with_reducible refine (sound_Day.calls a1 t295 t296 _ A3.out).mono ?_); rintro e w8 ⟨rfl, hb⟩; refine ⟨_, rfl, ?_⟩; replace BK294 := AX (bkb BK294 hb); replace HB := AX (below_step bw hb); (try clear hb); obtain ⟨hcz9_0, hcz9_1, hcz9_2⟩ := blkC3 (w := w8) BK294.out; obtain ⟨hfz9_0, hfz9_1, hfz9_2⟩ := blkF3 BK294.out) | ((with_reducible refine gate_callee (f := 75) rfl ?_); refine gL (some 19) Try.func75 #[.int .i64 a0_1] ?_; (with_reducible refine (sound_Day.calls a0_1 t297 t298 _ A4.out).mono ?_); rintro e w10 ⟨rfl, hb⟩; refine ⟨_, rfl, ?_⟩; replace BK294 := AX (bkb BK294 hb); replace HB := AX (below_step bw hb); (try clear hb); obtain ⟨hcz11_0, hcz11_1, hcz11_2⟩ := blkC3 (w := w10) BK294.out; obtain ⟨hfz11_0, hfz11_1, hfz11_2⟩ := blkF3 BK294.out) | ((with_reducible refine gate_callee (f := 75) rfl ?_); refine gL (some 25) Try.func75 #[.int .i64 a0_2] ?_; (with_reducible refine (sound_Day.calls a0_2 t299 t300 _ A5.out).mono ?_); rintro e w12 ⟨rfl, hb⟩; refine ⟨_, rfl, ?_⟩; replace BK294 := AX (bkb BK294 hb); replace HB := AX (below_step bw hb); (try clear hb)))
 (try simp only [Act.put, List.setIfInBounds_toArray, List.set_cons_zero, List.set_cons_succ])
 go_cut [28] (fun v28 wc => ∃ (kq : Nat) (x28_5 : Bool), v28 = .bool x28_5 ∧ Aside0 (sound_Holds.j0 kq t295 t297 t299 x28_5 = some r) ∧ Aside0 (kq ≤ k) ∧ Aside0 (wc.heap[gb294]? = some (.cells #[.string a0_0, .int .i64 a0_1, .int .i64 a0_2] 58 (0, 0))) ∧ Aside0 (Below w.heap.size w wc))
 case first =>
  have H := HC6.out
  clear HC6
  by_cases c13 : t296 = 0
  ·rw [if_pos c13] at H
   have c13b0 : (t296 == 0) = true := beq_iff_eq.mpr c13
   have c13b1 : (t296 != 0) = false := bne_eq_false_iff_eq.mpr c13
   clear c13
   (first | rw [c13b0] | (simp only [i64_w, i32_w]; rw [c13b0]) | skip)
   by_cases c14 : t298 = 0
   ·rw [if_pos c14] at H
    have c14b0 : (t298 == 0) = true := beq_iff_eq.mpr c14
    have c14b1 : (t298 != 0) = false := bne_eq_false_iff_eq.mpr c14
    clear c14
    have H' := AX H
    clear H
    go_wp2
    go_meet
    case rel => exact ⟨_, ((t300 != 0)), (by first | rfl | (simp; done) | (simp [*]; done)), H', ⟨by first | omega | exact Nat.le_refl _⟩, ⟨bkn BK294⟩, ⟨bw⟩⟩
   ·rw [if_neg c14] at H
    have c14b0 : (t298 == 0) = false := beq_eq_false_iff_ne.mpr c14
    have c14b1 : (t298 != 0) = true := bne_iff_ne.mpr c14
    have H' := AX H
    clear H
    go_wp2
    go_meet
    case rel => exact ⟨_, (true), (by first | rfl | (simp; done) | (simp [*]; done)), H', ⟨by first | omega | exact Nat.le_refl _⟩, ⟨bkn BK294⟩, ⟨bw⟩⟩
  ·rw [if_neg c13] at H
   have c13b0 : (t296 == 0) = false := beq_eq_false_iff_ne.mpr c13
   have c13b1 : (t296 != 0) = true := bne_iff_ne.mpr c13
   (first | rw [c13b0] | (simp only [i64_w, i32_w]; rw [c13b0]) | skip)
   have H' := AX H
   clear H
   go_wp2
   go_meet
   case rel => exact ⟨_, (true), (by first | rfl | (simp; done) | (simp [*]; done)), H', ⟨by first | omega | exact Nat.le_refl _⟩, ⟨bkn BK294⟩, ⟨bw⟩⟩
 case rest =>
  clear HC6
  try clear hcz11_0 hcz11_1 hcz11_2
  try clear hcz9_0 hcz9_1 hcz9_2
  try clear hfz11_0 hfz11_1 hfz11_2
  try clear hfz9_0 hfz9_1 hfz9_2
  obtain ⟨kq, x28_5, rfl, HA, HJ5, BK294, HB⟩ := hcut
  cases kq with
  | zero => exact absurd HA.out (by simp [sound_Holds.j0])
  | succ kj5 =>
   have H := HA.out
   clear HA
   simp only [sound_Holds.j0] at H
   by_cases c15 : x28_5 = true
   ·subst c15
    have H1 : (some false) = some r := by rw [if_pos rfl] at H; exact H
    clear H
    have H := H1
    clear H1
    obtain rfl := Option.some.inj H
    go_wp2
    go_ret
    exact ⟨by first | rfl | (simp [errW_none, errW_some] <;> rfl) | (simp [*, errW_none, errW_some] <;> rfl), bw⟩
   ·replace c15 := Bool.eq_false_iff.mpr c15
    subst c15
    have H1 : (if t297 ≤ t299 then (if t297 ≤ t295 then (some (decide (t295 ≤ t299))) else (some false)) else (if t297 ≤ t295 then (some true) else (some (decide (t295 ≤ t299))))) = some r := by rw [if_neg (show ¬ (false = true) by decide)] at H; exact H
    clear H
    have H := H1
    clear H1
    by_cases c16 : t297 ≤ t299
    ·rw [if_pos c16] at H
     have c16b0 : decide (t297 ≤ t299) = true := decide_eq_true c16
     clear c16
     by_cases c17 : t297 ≤ t295
     ·rw [if_pos c17] at H
      have c17b0 : decide (t297 ≤ t295) = true := decide_eq_true c17
      clear c17
      obtain rfl := Option.some.inj H
      go_wp2
      go_ret
      exact ⟨by first | rfl | (simp [errW_none, errW_some] <;> rfl) | (simp [*, errW_none, errW_some] <;> rfl), bw⟩
     ·rw [if_neg c17] at H
      have c17b0 : decide (t297 ≤ t295) = false := decide_eq_false c17
      clear c17
      obtain rfl := Option.some.inj H
      go_wp2
      go_ret
      exact ⟨by first | rfl | (simp [errW_none, errW_some] <;> rfl) | (simp [*, errW_none, errW_some] <;> rfl), bw⟩
    ·rw [if_neg c16] at H
     have c16b0 : decide (t297 ≤ t299) = false := decide_eq_false c16
     clear c16
     by_cases c18 : t297 ≤ t295
     ·rw [if_pos c18] at H
      have c18b0 : decide (t297 ≤ t295) = true := decide_eq_true c18
      clear c18
      obtain rfl := Option.some.inj H
      go_wp2
      go_ret
      exact ⟨by first | rfl | (simp [errW_none, errW_some] <;> rfl) | (simp [*, errW_none, errW_some] <;> rfl), bw⟩
     ·rw [if_neg c18] at H
      have c18b0 : decide (t297 ≤ t295) = false := decide_eq_false c18
      clear c18
      obtain rfl := Option.some.inj H
      go_wp2
      go_ret
      exact ⟨by first | rfl | (simp [errW_none, errW_some] <;> rfl) | (simp [*, errW_none, errW_some] <;> rfl), bw⟩

/-! ### tou_Season: function 23 -/
def tou_Season.l0 : Nat → List (S58) → Int → Int → Int → Int → Int → Option (Int × Int)
 | 0, _, _, _, _, _, _ => none
 | k + 1, x18, x19, x20, x302000, x302001, x302002 => if x20 < x19 then (if 0 ≤ x20 then (if x20 < (x18.length : Int) then ((sound_Holds.f k ((rd_T58 x18 x20).f0) ((rd_T58 x18 x20).f1) ((rd_T58 x18 x20).f2) (wrap64 ((wrap64 (100 * x302001)) + x302002))).bind fun t306 => (if t306 = true then (some (x20, 0)) else (tou_Season.l0 k x18 x19 (wrap64 (x20 + 1)) x302000 x302001 x302002))) else (none)) else (none)) else (some (0, 7))
def tou_Season.f (k : Nat) (l0 : List (S58)) (a1_0 : Int) (a1_1 : Int) (a1_2 : Int) : Option (Int × Int) := (civil_Days.f a1_0 a1_1 a1_2).bind fun bt302 => (if bt302.2 = 0 then (tou_Season.l0 k l0 (l0.length : Int) 0 a1_0 a1_1 a1_2) else (some (0, bt302.2)))
theorem tou_Season.mono_l : ∀ k, (∀ y0 y1 y2 y3 y4 y5, LeO (tou_Season.l0 k y0 y1 y2 y3 y4 y5) (tou_Season.l0 (k + 1) y0 y1 y2 y3 y4 y5))
 | 0 => fun _ _ _ _ _ _ r h => by simp [tou_Season.l0] at h
 | k + 1 => by
  have ih0 := tou_Season.mono_l k
  ·intro y0 y1 y2 y3 y4 y5
   unfold tou_Season.l0
   repeat' first
   | (with_reducible exact ih0 _ _ _ _ _ _)
   | (with_reducible exact sound_Holds.mono _ _ _ _ _)
   | (with_reducible exact LeO.refl _)
   | (with_reducible exact LeO.none _)
   | (with_reducible refine LeO.ite ?_ ?_)
   | (with_reducible refine LeO.bind ?_ (fun _ => ?_))
theorem tou_Season.mono : ∀ a0 a1 a2 a3 k, LeO (tou_Season.f k a0 a1 a2 a3) (tou_Season.f (k + 1) a0 a1 a2 a3) := by
 intro a0 a1 a2 a3 k
 have ih0 := tou_Season.mono_l k
 unfold tou_Season.f
 repeat' first
   | (with_reducible exact ih0 _ _ _ _ _ _)
   | (with_reducible exact sound_Holds.mono _ _ _ _ _)
   | (with_reducible exact LeO.refl _)
   | (with_reducible exact LeO.none _)
   | (with_reducible refine LeO.ite ?_ ?_)
   | (with_reducible refine LeO.bind ?_ (fun _ => ?_))
set_option maxHeartbeats 8000000 in
set_option maxRecDepth 100000 in
theorem tou_Season.calls (k : Nat) (A0 : Option Addr) (c0 : Nat) (l0 : List (S58)) (a1_0 : Int) (a1_1 : Int) (a1_2 : Int) (r1 : Int) (r2 : Int) (w : World) (hr0 : Kd.C k58 w A0 l0.length l0) (hc0 : l0.length ≤ c0) (h : tou_Season.f k l0 a1_0 a1_1 a1_2 = some (r1, r2)) :
  Calls Try.prog 23 #[.slice A0 l0.length c0, .agg #[.int .i64 a1_0, .int .i64 a1_1, .int .i64 a1_2]] w fun e w' => e = .returned (.tuple #[.int .i64 r1, .int .i64 r2]) ∧ Below w.heap.size w w' := by
 have hu24 := Try.underlying24
 have hu58 := Try.underlying58
 have HR0 := AX hr0
 have HC0 := AX hc0
 clear hr0 hc0
 have HB := AX (Below.refl w.heap.size w)
 have H : ((civil_Days.f a1_0 a1_1 a1_2).bind fun bt302 => (if bt302.2 = 0 then (tou_Season.l0 k l0 (l0.length : Int) 0 a1_0 a1_1 a1_2) else (some (0, bt302.2)))) = some (r1, r2) := h
 clear h
 replace H := Option.bind_eq_some_iff.mp H
 obtain ⟨⟨t302, t303⟩, A30, H⟩ := H
 replace H : (if t303 = 0 then (tou_Season.l0 k l0 (l0.length : Int) 0 a1_0 a1_1 a1_2) else (some (0, t303))) = some (r1, r2) := H
 have A3 := AX A30
 clear A30
 by_cases c4 : t303 = 0
 ·rw [if_pos c4] at H
  have c4b0 : (t303 == 0) = true := beq_iff_eq.mpr c4
  have c4b1 : (t303 != 0) = false := bne_eq_false_iff_eq.mpr c4
  clear c4
  have H' := AX H
  clear H
  go_enter Try.func23, Try.ntmps23
  go_wp2_with (first | ((with_reducible refine gate_dst (N := 3) rfl ?_); refine bx 3 #[.int .i64 a1_0, .int .i64 a1_1, .int .i64 a1_2] 24 ?_; intro gb301 hg w5 hbox hb; have BK301 := AX (hbox); have GW301 := gwl (w := w) hg bw; have GE301 := GW301; replace HB := AX (below_step bw hb); clear hb hbox hg; obtain ⟨hcz6_0, hcz6_1, hcz6_2⟩ := blkC3 (w := w5) BK301.out; obtain ⟨hfz6_0, hfz6_1, hfz6_2⟩ := blkF3 BK301.out) | ((with_reducible refine gate_callee (f := 48) rfl ?_); refine gL (some 12) Try.func48 #[.agg #[.int .i64 a1_0, .int .i64 a1_1, .int .i64 a1_2]] ?_; (with_reducible refine (civil_Days.calls a1_0 a1_1 a1_2 t302 t303 _ A3.out).mono ?_); rintro e w7 ⟨rfl, hb⟩; refine ⟨_, rfl, ?_⟩; replace BK301 := AX (bkb BK301 hb); replace HB := AX (below_step bw hb); (try clear hb)))
  go_loopg [20] k (fun kq v20 w' => ∃ (x20_1 : Int), v20 = .int .i64 x20_1 ∧ Aside0 (tou_Season.l0 kq l0 (l0.length : Int) x20_1 a1_0 a1_1 a1_2 = some (r1, r2)) ∧ Aside0 (kq ≤ k) ∧ Aside0 (w'.heap[gb301]? = some (.cells #[.int .i64 a1_0, .int .i64 a1_1, .int .i64 a1_2] 24 (0, 0))) ∧ Aside0 (Below w.heap.size w w'))
  case atStart => exact ⟨(0), (by first | rfl | (simp; done) | (simp [*]; done)), H', ⟨Nat.le_refl _⟩, ⟨bkn BK301⟩, ⟨bw⟩⟩
  case round =>
   clear H'
   try clear c4b0 c4b1
   try clear hcz6_0 hcz6_1 hcz6_2
   try clear hfz6_0 hfz6_1 hfz6_2
   obtain ⟨x20_1, rfl, HA, HK1, BK301, HB⟩ := hrel
   cases gk with
   | zero => exact absurd HA.out (by simp [tou_Season.l0])
   | succ k1 =>
    have H := HA.out
    clear HA
    simp only [tou_Season.l0] at H
    by_cases c8 : x20_1 < (l0.length : Int)
    ·rw [if_pos c8] at H
     have c8b0 : decide (x20_1 < (l0.length : Int)) = true := decide_eq_true c8
     clear c8
     by_cases c9 : 0 ≤ x20_1
     ·rw [if_pos c9] at H
      have c9b0 : decide (0 ≤ x20_1) = true := decide_eq_true c9
      clear c9
      by_cases c10 : x20_1 < (l0.length : Int)
      ·rw [if_pos c10] at H
       have c10b0 : decide (x20_1 < (l0.length : Int)) = true := decide_eq_true c10
       clear c10
       replace H := Option.bind_eq_some_iff.mp H
       obtain ⟨t306, A110, H⟩ := H
       replace H : (if t306 = true then (some (x20_1, 0)) else (tou_Season.l0 k1 l0 (l0.length : Int) (wrap64 (x20_1 + 1)) a1_0 a1_1 a1_2)) = some (r1, r2) := H
       have A11 := AX A110
       clear A110
       by_cases c12 : t306 = true
       ·subst c12
        have H1 : (some (x20_1, 0)) = some (r1, r2) := by rw [if_pos rfl] at H; exact H
        clear H
        have H := H1
        clear H1
        simp only [Option.some.injEq, Prod.mk.injEq] at H
        obtain ⟨rfl, rfl⟩ := H
        have p304 : 0 ≤ (x20_1 : Int) := of_decide_eq_true (by first | (with_reducible assumption) | assumption)
        have q304 : x20_1 < (l0.length : Int) := of_decide_eq_true (by first | (with_reducible assumption) | assumption)
        obtain ⟨ad304, e304, hx304_0, hx304_1, hx304_2⟩ := at_T58 HR0.out x20_1 p304 q304
        cases e304
        replace hx304_0 := bcl HB hx304_0
        replace hx304_1 := bcl HB hx304_1
        replace hx304_2 := bcl HB hx304_2
        replace p304 := eq_true p304
        replace q304 := eq_true q304
        go_wp2_with (first | ((with_reducible refine gate_dst (N := 9) rfl ?_); refine bx 9 #[.string (⟨#[]⟩ : ByteArray), .int .i64 0, .int .i64 0] 58 ?_; intro gb305 hg w13 hbox hb; have BK305 := AX (hbox); have GW305 := gwl (w := w) hg bw; have GE305 := GW305; have NB301_305 := nbl hg (bkn BK301); have NB305_301 := nbg hg (bkn BK301); replace BK301 := AX (bkb BK301 hb); replace HB := AX (below_step bw hb); clear hb hbox hg; have hnb14 := NB305_301.out; have hnc14 := NB301_305.out; obtain ⟨hcz15_0, hcz15_1, hcz15_2⟩ := blkC3 (w := w13) BK305.out; obtain ⟨hfz15_0, hfz15_1, hfz15_2⟩ := blkF3 BK305.out; obtain ⟨hcz16_0, hcz16_1, hcz16_2⟩ := blkC3 (w := w13) BK301.out; obtain ⟨hfz16_0, hfz16_1, hfz16_2⟩ := blkF3 BK301.out) | ((with_reducible refine gate_callee (f := 49) rfl ?_); refine gL (some 32) Try.func49 #[.agg #[.string ((rd_T58 l0 x20_1).f0), .int .i64 ((rd_T58 l0 x20_1).f1), .int .i64 ((rd_T58 l0 x20_1).f2)], .int .i64 (wrap64 ((wrap64 (100 * a1_1)) + a1_2))] ?_; (with_reducible refine (sound_Holds.calls k1 ((rd_T58 l0 x20_1).f0) ((rd_T58 l0 x20_1).f1) ((rd_T58 l0 x20_1).f2) (wrap64 ((wrap64 (100 * a1_1)) + a1_2)) true _ A11.out).mono ?_); rintro e w17 ⟨rfl, hb⟩; refine ⟨_, rfl, ?_⟩; replace BK301 := AX (blk_below (g := gb301) (o := .cells #[.int .i64 a1_0, .int .i64 a1_1, .int .i64 a1_2] 24 (0, 0)) (by (with_reducible repeat first|refine blk_drewN ?_ _|refine blk_drew ?_|refine blk_alloc ?_ _|refine blk_far ?_ NB301_305.out _); exact BK301.out) hb); replace BK305 := AX (blk_below (g := gb305) (o := .cells #[.string ((rd_T58 l0 x20_1).f0), .int .i64 ((rd_T58 l0 x20_1).f1), .int .i64 ((rd_T58 l0 x20_1).f2)] 58 (0, 0)) (by (with_reducible repeat first|refine blk_drewN ?_ _|refine blk_drew ?_|refine blk_alloc ?_ _); refine blk_put (cs := #[.string ((rd_T58 l0 x20_1).f0), .int .i64 ((rd_T58 l0 x20_1).f1), .int .i64 0]) ?_ 2 _ rfl; (with_reducible repeat first|refine blk_drewN ?_ _|refine blk_drew ?_|refine blk_alloc ?_ _); refine blk_put (cs := #[.string ((rd_T58 l0 x20_1).f0), .int .i64 0, .int .i64 0]) ?_ 1 _ rfl; (with_reducible repeat first|refine blk_drewN ?_ _|refine blk_drew ?_|refine blk_alloc ?_ _); refine blk_put (cs := #[.string (⟨#[]⟩ : ByteArray), .int .i64 0, .int .i64 0]) ?_ 0 _ rfl; (with_reducible repeat first|refine blk_drewN ?_ _|refine blk_drew ?_|refine blk_alloc ?_ _); exact BK305.out) hb); replace HB := AX (below_step bw hb); (try clear hb)))
        go_ret2
        exact ⟨by first | rfl | (simp [errW_none, errW_some] <;> rfl) | (simp [*, errW_none, errW_some] <;> rfl), bw⟩
       ·replace c12 := Bool.eq_false_iff.mpr c12
        subst c12
        have H1 : (tou_Season.l0 k1 l0 (l0.length : Int) (wrap64 (x20_1 + 1)) a1_0 a1_1 a1_2) = some (r1, r2) := by rw [if_neg (show ¬ (false = true) by decide)] at H; exact H
        clear H
        have H := H1
        clear H1
        have H' := AX H
        clear H
        have p304 : 0 ≤ (x20_1 : Int) := of_decide_eq_true (by first | (with_reducible assumption) | assumption)
        have q304 : x20_1 < (l0.length : Int) := of_decide_eq_true (by first | (with_reducible assumption) | assumption)
        obtain ⟨ad304, e304, hx304_0, hx304_1, hx304_2⟩ := at_T58 HR0.out x20_1 p304 q304
        cases e304
        replace hx304_0 := bcl HB hx304_0
        replace hx304_1 := bcl HB hx304_1
        replace hx304_2 := bcl HB hx304_2
        replace p304 := eq_true p304
        replace q304 := eq_true q304
        go_wp2_with (first | ((with_reducible refine gate_dst (N := 9) rfl ?_); refine bx 9 #[.string (⟨#[]⟩ : ByteArray), .int .i64 0, .int .i64 0] 58 ?_; intro gb305 hg w18 hbox hb; have BK305 := AX (hbox); have GW305 := gwl (w := w) hg bw; have GE305 := GW305; have NB301_305 := nbl hg (bkn BK301); have NB305_301 := nbg hg (bkn BK301); replace BK301 := AX (bkb BK301 hb); replace HB := AX (below_step bw hb); clear hb hbox hg; have hnb19 := NB305_301.out; have hnc19 := NB301_305.out; obtain ⟨hcz20_0, hcz20_1, hcz20_2⟩ := blkC3 (w := w18) BK305.out; obtain ⟨hfz20_0, hfz20_1, hfz20_2⟩ := blkF3 BK305.out; obtain ⟨hcz21_0, hcz21_1, hcz21_2⟩ := blkC3 (w := w18) BK301.out; obtain ⟨hfz21_0, hfz21_1, hfz21_2⟩ := blkF3 BK301.out) | ((with_reducible refine gate_callee (f := 49) rfl ?_); refine gL (some 32) Try.func49 #[.agg #[.string ((rd_T58 l0 x20_1).f0), .int .i64 ((rd_T58 l0 x20_1).f1), .int .i64 ((rd_T58 l0 x20_1).f2)], .int .i64 (wrap64 ((wrap64 (100 * a1_1)) + a1_2))] ?_; (with_reducible refine (sound_Holds.calls k1 ((rd_T58 l0 x20_1).f0) ((rd_T58 l0 x20_1).f1) ((rd_T58 l0 x20_1).f2) (wrap64 ((wrap64 (100 * a1_1)) + a1_2)) false _ A11.out).mono ?_); rintro e w22 ⟨rfl, hb⟩; refine ⟨_, rfl, ?_⟩; replace BK301 := AX (blk_below (g := gb301) (o := .cells #[.int .i64 a1_0, .int .i64 a1_1, .int .i64 a1_2] 24 (0, 0)) (by (with_reducible repeat first|refine blk_drewN ?_ _|refine blk_drew ?_|refine blk_alloc ?_ _|refine blk_far ?_ NB301_305.out _); exact BK301.out) hb); replace BK305 := AX (blk_below (g := gb305) (o := .cells #[.string ((rd_T58 l0 x20_1).f0), .int .i64 ((rd_T58 l0 x20_1).f1), .int .i64 ((rd_T58 l0 x20_1).f2)] 58 (0, 0)) (by (with_reducible repeat first|refine blk_drewN ?_ _|refine blk_drew ?_|refine blk_alloc ?_ _); refine blk_put (cs := #[.string ((rd_T58 l0 x20_1).f0), .int .i64 ((rd_T58 l0 x20_1).f1), .int .i64 0]) ?_ 2 _ rfl; (with_reducible repeat first|refine blk_drewN ?_ _|refine blk_drew ?_|refine blk_alloc ?_ _); refine blk_put (cs := #[.string ((rd_T58 l0 x20_1).f0), .int .i64 0, .int .i64 0]) ?_ 1 _ rfl; (with_reducible repeat first|refine blk_drewN ?_ _|refine blk_drew ?_|refine blk_alloc ?_ _); refine blk_put (cs := #[.string (⟨#[]⟩ : ByteArray), .int .i64 0, .int .i64 0]) ?_ 0 _ rfl; (with_reducible repeat first|refine blk_drewN ?_ _|refine blk_drew ?_|refine blk_alloc ?_ _); exact BK305.out) hb); replace HB := AX (below_step bw hb); (try clear hb)))
        go_roundg k1
        case measure => have := HK1.out; omega
        case rel => exact ⟨(wrap64 (x20_1 + 1)), (by first | rfl | (simp; done) | (simp [*]; done)), H', ⟨by have := HK1.out; omega⟩, ⟨bkn BK301⟩, ⟨bw⟩⟩
      ·rw [if_neg c10] at H
       exact absurd H (by simp)
     ·rw [if_neg c9] at H
      exact absurd H (by simp)
    ·rw [if_neg c8] at H
     have c8b0 : decide (x20_1 < (l0.length : Int)) = false := decide_eq_false c8
     clear c8
     simp only [Option.some.injEq, Prod.mk.injEq] at H
     obtain ⟨rfl, rfl⟩ := H
     go_wp2
     go_ret2
     exact ⟨by first | rfl | (simp [errW_none, errW_some] <;> rfl) | (simp [*, errW_none, errW_some] <;> rfl), bw⟩
 ·rw [if_neg c4] at H
  have c4b0 : (t303 == 0) = false := beq_eq_false_iff_ne.mpr c4
  have c4b1 : (t303 != 0) = true := bne_iff_ne.mpr c4
  simp only [Option.some.injEq, Prod.mk.injEq] at H
  obtain ⟨rfl, rfl⟩ := H
  go_enter Try.func23, Try.ntmps23
  go_wp2_with (first | ((with_reducible refine gate_dst (N := 3) rfl ?_); refine bx 3 #[.int .i64 a1_0, .int .i64 a1_1, .int .i64 a1_2] 24 ?_; intro gb301 hg w23 hbox hb; have BK301 := AX (hbox); have GW301 := gwl (w := w) hg bw; have GE301 := GW301; replace HB := AX (below_step bw hb); clear hb hbox hg; obtain ⟨hcz24_0, hcz24_1, hcz24_2⟩ := blkC3 (w := w23) BK301.out; obtain ⟨hfz24_0, hfz24_1, hfz24_2⟩ := blkF3 BK301.out) | ((with_reducible refine gate_callee (f := 48) rfl ?_); refine gL (some 12) Try.func48 #[.agg #[.int .i64 a1_0, .int .i64 a1_1, .int .i64 a1_2]] ?_; (with_reducible refine (civil_Days.calls a1_0 a1_1 a1_2 t302 t303 _ A3.out).mono ?_); rintro e w25 ⟨rfl, hb⟩; refine ⟨_, rfl, ?_⟩; replace BK301 := AX (bkb BK301 hb); replace HB := AX (below_step bw hb); (try clear hb)))
  go_ret2
  exact ⟨by first | rfl | (simp [errW_none, errW_some] <;> rfl) | (simp [*, errW_none, errW_some] <;> rfl), bw⟩

end Go.Proofs.Ytkggjjggcbcdiaa.PX
