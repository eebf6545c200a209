/- Functions of the program as plain Lean functions, each with a proof that the call in the machine answers just what the plain function says; condition: the plain function answers at all. -/
import Derived.Test.YtegedhnbmclbkaaPXx0
import Derived.Test.YtegedhnbmclbkaaPXx8
import Derived.Test.YtegedhnbmclbkaaPXx9
import Derived.Test.YtegedhnbmclbkaaPXx11
namespace Go.Proofs.Ytegedhnbmclbkaa.PX
open Go.RowKit Go.Proofs.YtegedhnbmclbkaaW.PrintWords Go.Proofs.YtegedhnbmclbkaaW.PrintLast Go.Proofs.YtegedhnbmclbkaaW.PrintMore
attribute [local go_sem] max2_int min2_int max_two min_two max_three min_three max_four min_four   -- for this text's walks alone
set_option linter.unusedVariables false
set_option linter.unusedSimpArgs false

/-! ### pylonref05_List: function 20 -/
mutual
def pylonref05_List.j0 : Nat → List (S25) → Int → Bool → Option ((List (S33)) × Int)
 | 0, _, _, _ => none
 | k + 1, x0, x1, x20 => if x20 = true then (some (([] : List (S33)), 5)) else (pylonref05_List.l0 k x0 x1 ([] : List (S33)) 1)
def pylonref05_List.l0 : Nat → List (S25) → Int → List (S33) → Int → Option ((List (S33)) × Int)
 | 0, _, _, _, _ => none
 | k + 1, x0, x1, x6, x7 => if x7 ≤ 12 then ((pylonref03_Length.f k x1 x7).bind fun bt299 => (pylonref05_List.l1 k x0 x1 x6 x7 bt299.1 1)) else (some (x6, 0))
def pylonref05_List.l1 : Nat → List (S25) → Int → List (S33) → Int → Int → Int → Option ((List (S33)) × Int)
 | 0, _, _, _, _, _, _ => none
 | k + 1, x0, x1, x6, x7, x8, x10 => if x10 ≤ x8 then ((pylonref05_falls.f k x0 x1 x7 x10).bind fun t302 => (if t302 = true then (if x6.length < 5864062014805 then (pylonref05_List.l1 k x0 x1 (x6 ++ [(⟨x1, x7, x10⟩ : S33)]) x7 x8 (wrap64 (x10 + 1))) else (none)) else (pylonref05_List.l1 k x0 x1 x6 x7 x8 (wrap64 (x10 + 1))))) else (pylonref05_List.l0 k x0 x1 x6 (wrap64 (x7 + 1)))
end
def pylonref05_List.f (k : Nat) (l0 : List (S25)) (a1 : Int) : Option ((List (S33)) × Int) := (pylonref05_all.f k l0).bind fun t298 => (if t298 = true then (if a1 < 1 then (pylonref05_List.j0 k l0 a1 true) else (pylonref05_List.j0 k l0 a1 (decide (a1 > 9999)))) else (some (([] : List (S33)), 8)))
theorem pylonref05_List.mono_l : ∀ k, (∀ y0 y1 y2, LeO (pylonref05_List.j0 k y0 y1 y2) (pylonref05_List.j0 (k + 1) y0 y1 y2)) ∧ (∀ y0 y1 y2 y3, LeO (pylonref05_List.l0 k y0 y1 y2 y3) (pylonref05_List.l0 (k + 1) y0 y1 y2 y3)) ∧ (∀ y0 y1 y2 y3 y4 y5, LeO (pylonref05_List.l1 k y0 y1 y2 y3 y4 y5) (pylonref05_List.l1 (k + 1) y0 y1 y2 y3 y4 y5))
 | 0 => ⟨fun _ _ _ r h => by simp [pylonref05_List.j0] at h, fun _ _ _ _ r h => by simp [pylonref05_List.l0] at h, fun _ _ _ _ _ _ r h => by simp [pylonref05_List.l1] at h⟩
 | k + 1 => by
  obtain ⟨ih0, ih1, ih2⟩ := pylonref05_List.mono_l k
  refine ⟨?_, ?_, ?_⟩
  ·intro y0 y1 y2
   unfold pylonref05_List.j0
   repeat' first
   | (with_reducible exact ih0 _ _ _)
   | (with_reducible exact ih1 _ _ _ _)
   | (with_reducible exact ih2 _ _ _ _ _ _)
   | (with_reducible exact pylonref03_Length.mono _ _ _)
   | (with_reducible exact pylonref05_all.mono _ _)
   | (with_reducible exact pylonref05_falls.mono _ _ _ _ _)
   | (with_reducible exact LeO.refl _)
   | (with_reducible exact LeO.none _)
   | (with_reducible refine LeO.ite ?_ ?_)
   | (with_reducible refine LeO.bind ?_ (fun _ => ?_))
  ·intro y0 y1 y2 y3
   unfold pylonref05_List.l0
   repeat' first
   | (with_reducible exact ih0 _ _ _)
   | (with_reducible exact ih1 _ _ _ _)
   | (with_reducible exact ih2 _ _ _ _ _ _)
   | (with_reducible exact pylonref03_Length.mono _ _ _)
   | (with_reducible exact pylonref05_all.mono _ _)
   | (with_reducible exact pylonref05_falls.mono _ _ _ _ _)
   | (with_reducible exact LeO.refl _)
   | (with_reducible exact LeO.none _)
   | (with_reducible refine LeO.ite ?_ ?_)
   | (with_reducible refine LeO.bind ?_ (fun _ => ?_))
  ·intro y0 y1 y2 y3 y4 y5
   unfold pylonref05_List.l1
   repeat' first
   | (with_reducible exact ih0 _ _ _)
   | (with_reducible exact ih1 _ _ _ _)
   | (with_reducible exact ih2 _ _ _ _ _ _)
   | (with_reducible exact pylonref03_Length.mono _ _ _)
   | (with_reducible exact pylonref05_all.mono _ _)
   | (with_reducible exact pylonref05_falls.mono _ _ _ _ _)
   | (with_reducible exact LeO.refl _)
   | (with_reducible exact LeO.none _)
   | (with_reducible refine LeO.ite ?_ ?_)
   | (with_reducible refine LeO.bind ?_ (fun _ => ?_))
theorem pylonref05_List.mono : ∀ a0 a1 k, LeO (pylonref05_List.f k a0 a1) (pylonref05_List.f (k + 1) a0 a1) := by
 intro a0 a1 k
 obtain ⟨ih0, ih1, ih2⟩ := pylonref05_List.mono_l k
 unfold pylonref05_List.f
 repeat' first
   | (with_reducible exact ih0 _ _ _)
   | (with_reducible exact ih1 _ _ _ _)
   | (with_reducible exact ih2 _ _ _ _ _ _)
   | (with_reducible exact pylonref03_Length.mono _ _ _)
   | (with_reducible exact pylonref05_all.mono _ _)
   | (with_reducible exact pylonref05_falls.mono _ _ _ _ _)
   | (with_reducible exact LeO.refl _)
   | (with_reducible exact LeO.none _)
   | (with_reducible refine LeO.ite ?_ ?_)
   | (with_reducible refine LeO.bind ?_ (fun _ => ?_))
set_option maxHeartbeats 8000000 in
set_option maxRecDepth 100000 in
theorem pylonref05_List.calls (k : Nat) (A0 : Option Addr) (c0 : Nat) (l0 : List (S25)) (a1 : Int) (r1 : List (S33)) (r2 : Int) (w : World) (hr0 : Kd.C k25 w A0 l0.length l0) (hc0 : l0.length ≤ c0) (h : pylonref05_List.f k l0 a1 = some (r1, r2)) :
  Calls Try.prog 20 #[.slice A0 l0.length c0, .int .i64 a1] w fun e w' => ∃ v0_ : Value, e = .returned (.tuple #[v0_, .int .i64 r2]) ∧ Kd.R k33 33 w' w.heap.size (fun _ => True) v0_ r1 ∧ Below w.heap.size w w' := by
 have hu33 := Try.underlying33
 have HR0 := AX hr0
 have HC0 := AX hc0
 clear hr0 hc0
 have HB := AX (Below.refl w.heap.size w)
 have H : ((pylonref05_all.f k l0).bind fun t298 => (if t298 = true then (if a1 < 1 then (pylonref05_List.j0 k l0 a1 true) else (pylonref05_List.j0 k l0 a1 (decide (a1 > 9999)))) else (some (([] : List (S33)), 8)))) = some (r1, r2) := h
 clear h
 replace H := Option.bind_eq_some_iff.mp H
 obtain ⟨t298, A30, H⟩ := H
 replace H : (if t298 = true then (if a1 < 1 then (pylonref05_List.j0 k l0 a1 true) else (pylonref05_List.j0 k l0 a1 (decide (a1 > 9999)))) else (some (([] : List (S33)), 8))) = some (r1, r2) := H
 have A3 := AX A30
 clear A30
 by_cases c4 : t298 = true
 ·subst c4
  have H1 : (if a1 < 1 then (pylonref05_List.j0 k l0 a1 true) else (pylonref05_List.j0 k l0 a1 (decide (a1 > 9999)))) = some (r1, r2) := by rw [if_pos rfl] at H; exact H
  clear H
  have H := H1
  clear H1
  have HC5 := AX H
  clear H
  go_enter Try.func20, Try.ntmps20
  go_upto_region 3 with (first | ((with_reducible refine gate_callee (f := 35) rfl ?_); refine gL (some 13) Try.func35 #[.slice A0 l0.length c0] ?_; (with_reducible refine (pylonref05_all.calls k _ _ l0 true _ ?side1 ?side2 A3.out).mono ?_); (case side1 => repeat (first | exact HR0.out | (with_reducible refine Kd.C_alloc ?_ _) | (with_reducible refine Kd.C_drewN ?_ _) | (with_reducible refine Kd.C_drew ?_))); (case side2 => exact HC0.out); rintro e w6 ⟨rfl, hb⟩; refine ⟨_, rfl, ?_⟩; replace HB := AX (below_step bw hb); (try clear hb); (try clear hb2); (try clear hk); (try clear hi)))
  (try simp only [Act.put, List.setIfInBounds_toArray, List.set_cons_zero, List.set_cons_succ])
  go_cut [20] (fun v20 wc => ∃ (kq : Nat) (x20_4 : Bool), v20 = .bool x20_4 ∧ Aside0 (pylonref05_List.j0 kq l0 a1 x20_4 = some (r1, r2)) ∧ Aside0 (kq ≤ k) ∧ Aside0 (Below w.heap.size w wc))
  case first =>
   have H := HC5.out
   clear HC5
   by_cases c7 : a1 < 1
   ·rw [if_pos c7] at H
    have c7b0 : decide (a1 < 1) = true := decide_eq_true c7
    clear c7
    (first | rw [c7b0] | (simp only [i64_w, i32_w]; rw [c7b0]) | skip)
    have H' := AX H
    clear H
    go_wp2
    go_meet
    case rel => exact ⟨_, (true), (by first | rfl | (simp; done) | (simp [*]; done)), H', ⟨by first | omega | exact Nat.le_refl _⟩, ⟨bw⟩⟩
   ·rw [if_neg c7] at H
    have c7b0 : decide (a1 < 1) = false := decide_eq_false c7
    clear c7
    (first | rw [c7b0] | (simp only [i64_w, i32_w]; rw [c7b0]) | skip)
    have H' := AX H
    clear H
    go_wp2
    go_meet
    case rel => exact ⟨_, (decide (a1 > 9999)), (by first | rfl | (simp; done) | (simp [*]; done)), H', ⟨by first | omega | exact Nat.le_refl _⟩, ⟨bw⟩⟩
  case rest =>
   clear HC5
   try clear c4
   obtain ⟨kq, x20_4, rfl, HA, HJ4, HB⟩ := hcut
   cases kq with
   | zero => exact absurd HA.out (by simp [pylonref05_List.j0])
   | succ kj4 =>
    have H := HA.out
    clear HA
    simp only [pylonref05_List.j0] at H
    by_cases c8 : x20_4 = true
    ·subst c8
     have H1 : (some (([] : List (S33)), 5)) = some (r1, r2) := by rw [if_pos rfl] at H; exact H
     clear H
     have H := H1
     clear H1
     simp only [Option.some.injEq, Prod.mk.injEq] at H
     obtain ⟨rfl, rfl⟩ := H
     go_wp2
     go_ret2
     exact ⟨_, by first | rfl | (simp [errW_none, errW_some] <;> rfl) | (simp [*, errW_none, errW_some] <;> rfl), by first | exact Kd.R_nil _ _ _ _ _ | exact Kd.N_nil _ _ _ _ _ | exact Kd.V_nil _ _ _ _ _ | exact Kd.Q_nil _ _ _ _ _ | exact Kd.S_nil _ _ _ _ _, bw⟩
    ·replace c8 := Bool.eq_false_iff.mpr c8
     subst c8
     have H1 : (pylonref05_List.l0 kj4 l0 a1 ([] : List (S33)) 1) = some (r1, r2) := by rw [if_neg (show ¬ (false = true) by decide)] at H; exact H
     clear H
     have H := H1
     clear H1
     have H' := AX H
     clear H
     go_wp2
     go_loopg [6, 7] kj4 (fun kq v6 v7 w' => ∃ (x6_2 : List (S33)) (x7_2 : Int), v7 = .int .i64 x7_2 ∧ Aside0 (pylonref05_List.l0 kq l0 a1 x6_2 x7_2 = some (r1, r2)) ∧ Aside0 (kq ≤ kj4) ∧ Aside0 (Kd.R k33 33 w' w.heap.size (fun _ => True) v6 x6_2) ∧ Aside0 (Below w.heap.size w w'))
     case atStart => exact ⟨(([] : List (S33))), (1), (by first | rfl | (simp; done) | (simp [*]; done)), H', ⟨Nat.le_refl _⟩, ⟨by first | exact Kd.R_nil _ _ _ _ _ | exact Kd.N_nil _ _ _ _ _ | exact Kd.V_nil _ _ _ _ _ | exact Kd.Q_nil _ _ _ _ _ | exact Kd.S_nil _ _ _ _ _⟩, ⟨bw⟩⟩
     case round =>
      clear H'
      try clear c8
      obtain ⟨x6_2, x7_2, rfl, HA, HK2, HO_6, HB⟩ := hrel
      cases gk with
      | zero => exact absurd HA.out (by simp [pylonref05_List.l0])
      | succ k2 =>
       have H := HA.out
       clear HA
       simp only [pylonref05_List.l0] at H
       by_cases c9 : x7_2 ≤ 12
       ·rw [if_pos c9] at H
        have c9b0 : decide (x7_2 ≤ 12) = true := decide_eq_true c9
        clear c9
        replace H := Option.bind_eq_some_iff.mp H
        obtain ⟨⟨t299, t300⟩, A100, H⟩ := H
        replace H : (pylonref05_List.l1 k2 l0 a1 x6_2 x7_2 t299 1) = some (r1, r2) := H
        have A10 := AX A100
        clear A100
        have H' := AX H
        clear H
        go_wp2_with (first | ((with_reducible refine gate_callee (f := 31) rfl ?_); refine gL (some 28) Try.func31 #[.int .i64 a1, .int .i64 x7_2] ?_; (with_reducible refine (pylonref03_Length.calls k2 a1 x7_2 t299 t300 _ A10.out).mono ?_); rintro e w' ⟨rfl, ⟨nd, rfl⟩⟩; refine ⟨_, rfl, ?_⟩))
        go_loopg [6, 10] k2 (fun kq v6 v10 w' => ∃ (x6_3 : List (S33)) (x10_3 : Int), v10 = .int .i64 x10_3 ∧ Aside0 (pylonref05_List.l1 kq l0 a1 x6_3 x7_2 t299 x10_3 = some (r1, r2)) ∧ Aside0 (kq ≤ k2) ∧ Aside0 (Kd.R k33 33 w' w.heap.size (fun _ => True) v6 x6_3) ∧ Aside0 (Below w.heap.size w w'))
        case atStart => exact ⟨(x6_2), (1), (by first | rfl | (simp; done) | (simp [*]; done)), H', ⟨Nat.le_refl _⟩, ⟨kr HO_6⟩, ⟨bw⟩⟩
        case round =>
         clear H'
         try clear c9b0
         obtain ⟨x6_3, x10_3, rfl, HA, HK3, HO_6, HB⟩ := hrel
         cases gk with
         | zero => exact absurd HA.out (by simp [pylonref05_List.l1])
         | succ k3 =>
          have H := HA.out
          clear HA
          simp only [pylonref05_List.l1] at H
          by_cases c11 : x10_3 ≤ t299
          ·rw [if_pos c11] at H
           have c11b0 : decide (x10_3 ≤ t299) = true := decide_eq_true c11
           clear c11
           replace H := Option.bind_eq_some_iff.mp H
           obtain ⟨t302, A120, H⟩ := H
           replace H : (if t302 = true then (if x6_3.length < 5864062014805 then (pylonref05_List.l1 k3 l0 a1 (x6_3 ++ [(⟨a1, x7_2, x10_3⟩ : S33)]) x7_2 t299 (wrap64 (x10_3 + 1))) else (none)) else (pylonref05_List.l1 k3 l0 a1 x6_3 x7_2 t299 (wrap64 (x10_3 + 1)))) = some (r1, r2) := H
           have A12 := AX A120
           clear A120
           by_cases c13 : t302 = true
           ·subst c13
            have H1 : (if x6_3.length < 5864062014805 then (pylonref05_List.l1 k3 l0 a1 (x6_3 ++ [(⟨a1, x7_2, x10_3⟩ : S33)]) x7_2 t299 (wrap64 (x10_3 + 1))) else (none)) = some (r1, r2) := by rw [if_pos rfl] at H; exact H
            clear H
            have H := H1
            clear H1
            by_cases c14 : x6_3.length < 5864062014805
            ·rw [if_pos c14] at H
             have LMc14 := AX c14
             clear c14
             obtain ⟨y303, hy303⟩ : ∃ y_ : List (S33), y_ = (x6_3 ++ [(⟨a1, x7_2, x10_3⟩ : S33)]) := ⟨_, rfl⟩
             replace H : (pylonref05_List.l1 k3 l0 a1 y303 x7_2 t299 (wrap64 (x10_3 + 1))) = some (r1, r2) := by first | (rw [hy303]; with_reducible exact H) | (have H2_ := (Option.bind_some _ _).symm.trans H; rw [hy303]; with_reducible exact H2_) | (have H2_ := (Option.bind_some _ _).symm.trans H; with_reducible exact H2_) | with_reducible exact H | (rw [hy303]; exact H) | exact H
             have Ny303 := AX hy303
             clear hy303
             have H' := AX H
             clear H
             go_wp2_with (first | ((with_reducible refine gate_dst (N := 11) rfl ?_); refine bx 11 #[.int .i64 0, .int .i64 0, .int .i64 0] 33 ?_; intro gb301 hg w15 hbox hb; have BK301 := AX (hbox); have GW301 := gwl (w := w) hg bw; have GE301 := GW301; replace HO_6 := AX (Kd.R_below (Kd.R_elderB (kr HO_6) gb301 (Nat.le_of_eq hg.symm)) hb); replace HB := AX (below_step bw hb); clear hb hbox hg; obtain ⟨hcz16_0, hcz16_1, hcz16_2⟩ := blkC3 (w := w15) BK301.out; obtain ⟨hfz16_0, hfz16_1, hfz16_2⟩ := blkF3 BK301.out) | ((with_reducible refine gate_callee (f := 36) rfl ?_); refine gL (some 42) Try.func36 #[.slice A0 l0.length c0, .agg #[.int .i64 a1, .int .i64 x7_2, .int .i64 x10_3]] ?_; (with_reducible refine (pylonref05_falls.calls k3 _ _ l0 a1 x7_2 x10_3 true _ ?side1 ?side2 A12.out).mono ?_); (case side1 => exact Kd.C_below HR0.out bw); (case side2 => exact HC0.out); rintro e w17 ⟨rfl, hb⟩; refine ⟨_, rfl, ?_⟩; replace HO_6 := AX (Kd.R_below (by (with_reducible repeat (first | apply Kd.R_alloc | apply Kd.R_drewN | apply Kd.R_drew)); exact (Kd.R_mono (Kd.R_far (p := ⟨gb301, 2, none⟩) (Kd.R_far (p := ⟨gb301, 1, none⟩) (Kd.R_far (p := ⟨gb301, 0, none⟩) (Kd.R_mono HO_6.out (fun k_ hk => (⟨hk, hk.2⟩ : _ ∧ k_ ≠ gb301))) (fun _ hk => hk.2) (.int .i64 a1)) (fun _ hk => hk.2) (.int .i64 x7_2)) (fun _ hk => hk.2) (.int .i64 x10_3)) (fun _ h_ => h_.1))) hb); replace BK301 := AX (blk_below (g := gb301) (o := .cells #[.int .i64 a1, .int .i64 x7_2, .int .i64 x10_3] 33 (0, 0)) (by (with_reducible repeat first|refine blk_drewN ?_ _|refine blk_drew ?_|refine blk_alloc ?_ _); refine blk_put (cs := #[.int .i64 a1, .int .i64 x7_2, .int .i64 0]) ?_ 2 _ rfl; (with_reducible repeat first|refine blk_drewN ?_ _|refine blk_drew ?_|refine blk_alloc ?_ _); refine blk_put (cs := #[.int .i64 a1, .int .i64 0, .int .i64 0]) ?_ 1 _ rfl; (with_reducible repeat first|refine blk_drewN ?_ _|refine blk_drew ?_|refine blk_alloc ?_ _); refine blk_put (cs := #[.int .i64 0, .int .i64 0, .int .i64 0]) ?_ 0 _ rfl; (with_reducible repeat first|refine blk_drewN ?_ _|refine blk_drew ?_|refine blk_alloc ?_ _); exact BK301.out) hb); replace HB := AX (below_step bw hb); (try clear hb); (try clear hb2); (try clear hk); (try clear hi); obtain ⟨hcz18_0, hcz18_1, hcz18_2⟩ := blkC3 (w := w17) BK301.out; obtain ⟨hfz18_0, hfz18_1, hfz18_2⟩ := blkF3 BK301.out) | ((with_reducible refine gate_builtin (b := .append) (xs := #[.tmp 43, .tmp 45]) rfl ?_); at_builtin; refine Kd.R_append k33 (w0 := w) w.heap.size rfl (.tmp 43) (.tmp 45) 26 33 (.agg #[(.int .i64 0), (.int .i64 0), (.int .i64 0)]) 24 rfl Try.underlying26 info33 rfl (by decide) (by omega) u6 x6_3 (⟨a1, x7_2, x10_3⟩ : S33) [.int .i64 a1, .int .i64 x7_2, .int .i64 x10_3] (fun k_ => k_ ≠ gb301) (fun _ => False) rfl rfl ?aP (fun _ hk => hk.elim) ?aF ?aO ?aB ?aS ?aL ?_; (case aP => exact k33_mkM _ _ _ (⟨a1, x7_2, x10_3⟩ : S33)); (case aB => exact bw); (case aF => exact (fun k_ hk => Kd.freshB (g := gb301) (o := .cells #[.int .i64 a1, .int .i64 x7_2, .int .i64 x10_3] 33 (0, 0)) (bkn BK301) k_ hk)); (case aO => exact (by (with_reducible repeat (first | apply Kd.R_alloc | apply Kd.R_drewN | apply Kd.R_drew)); exact Kd.R_mono HO_6.out (fun _ hk => hk.2))); (case aS => exact (below_size bw)); (case aL => have := LMc14.out; omega); intro v304 w19 ho hb hg hat; rw [← Ny303.out] at ho; have n0_ := AX (blk_grown (g := gb301) (o := .cells #[.int .i64 a1, .int .i64 x7_2, .int .i64 x10_3] 33 (0, 0)) (bkn BK301) hg (Kd.R_away HO_6.out (fun _ hk => hk.2))); have n1_ := AX (hb); have n2_ := AX (ho); clear BK301; clear HB; clear HO_6; have BK301 := n0_; have HB := n1_; have HO305 := n2_; clear n0_ n1_ n2_; clear ho hb hg hat))
             go_roundg k3
             case measure => have := HJ4.out; have := HK2.out; have := HK3.out; omega
             case rel => exact ⟨(y303), (wrap64 (x10_3 + 1)), (by first | rfl | (simp; done) | (simp [*]; done)), H', ⟨by have := HJ4.out; have := HK2.out; have := HK3.out; omega⟩, ⟨by (with_reducible repeat (first | apply Kd.R_alloc | apply Kd.R_drewN | apply Kd.R_drew)); exact Kd.R_mono HO305.out (fun _ hk => trivial)⟩, ⟨bw⟩⟩
            ·rw [if_neg c14] at H
             exact absurd H (by simp)
           ·replace c13 := Bool.eq_false_iff.mpr c13
            subst c13
            have H1 : (pylonref05_List.l1 k3 l0 a1 x6_3 x7_2 t299 (wrap64 (x10_3 + 1))) = some (r1, r2) := by rw [if_neg (show ¬ (false = true) by decide)] at H; exact H
            clear H
            have H := H1
            clear H1
            have H' := AX H
            clear H
            go_wp2_with (first | ((with_reducible refine gate_dst (N := 11) rfl ?_); refine bx 11 #[.int .i64 0, .int .i64 0, .int .i64 0] 33 ?_; intro gb301 hg w20 hbox hb; have BK301 := AX (hbox); have GW301 := gwl (w := w) hg bw; have GE301 := GW301; replace HO_6 := AX (Kd.R_below (Kd.R_elderB (kr HO_6) gb301 (Nat.le_of_eq hg.symm)) hb); replace HB := AX (below_step bw hb); clear hb hbox hg; obtain ⟨hcz21_0, hcz21_1, hcz21_2⟩ := blkC3 (w := w20) BK301.out; obtain ⟨hfz21_0, hfz21_1, hfz21_2⟩ := blkF3 BK301.out) | ((with_reducible refine gate_callee (f := 36) rfl ?_); refine gL (some 42) Try.func36 #[.slice A0 l0.length c0, .agg #[.int .i64 a1, .int .i64 x7_2, .int .i64 x10_3]] ?_; (with_reducible refine (pylonref05_falls.calls k3 _ _ l0 a1 x7_2 x10_3 false _ ?side1 ?side2 A12.out).mono ?_); (case side1 => exact Kd.C_below HR0.out bw); (case side2 => exact HC0.out); rintro e w22 ⟨rfl, hb⟩; refine ⟨_, rfl, ?_⟩; replace HO_6 := AX (Kd.R_below (by (with_reducible repeat (first | apply Kd.R_alloc | apply Kd.R_drewN | apply Kd.R_drew)); exact (Kd.R_mono (Kd.R_far (p := ⟨gb301, 2, none⟩) (Kd.R_far (p := ⟨gb301, 1, none⟩) (Kd.R_far (p := ⟨gb301, 0, none⟩) (Kd.R_mono HO_6.out (fun k_ hk => (⟨hk, hk.2⟩ : _ ∧ k_ ≠ gb301))) (fun _ hk => hk.2) (.int .i64 a1)) (fun _ hk => hk.2) (.int .i64 x7_2)) (fun _ hk => hk.2) (.int .i64 x10_3)) (fun _ h_ => h_.1))) hb); replace BK301 := AX (blk_below (g := gb301) (o := .cells #[.int .i64 a1, .int .i64 x7_2, .int .i64 x10_3] 33 (0, 0)) (by (with_reducible repeat first|refine blk_drewN ?_ _|refine blk_drew ?_|refine blk_alloc ?_ _); refine blk_put (cs := #[.int .i64 a1, .int .i64 x7_2, .int .i64 0]) ?_ 2 _ rfl; (with_reducible repeat first|refine blk_drewN ?_ _|refine blk_drew ?_|refine blk_alloc ?_ _); refine blk_put (cs := #[.int .i64 a1, .int .i64 0, .int .i64 0]) ?_ 1 _ rfl; (with_reducible repeat first|refine blk_drewN ?_ _|refine blk_drew ?_|refine blk_alloc ?_ _); refine blk_put (cs := #[.int .i64 0, .int .i64 0, .int .i64 0]) ?_ 0 _ rfl; (with_reducible repeat first|refine blk_drewN ?_ _|refine blk_drew ?_|refine blk_alloc ?_ _); exact BK301.out) hb); replace HB := AX (below_step bw hb); (try clear hb); (try clear hb2); (try clear hk); (try clear hi)))
            go_roundg k3
            case measure => have := HJ4.out; have := HK2.out; have := HK3.out; omega
            case rel => exact ⟨(x6_3), (wrap64 (x10_3 + 1)), (by first | rfl | (simp; done) | (simp [*]; done)), H', ⟨by have := HJ4.out; have := HK2.out; have := HK3.out; omega⟩, ⟨by (with_reducible repeat (first | apply Kd.R_alloc | apply Kd.R_drewN | apply Kd.R_drew)); exact Kd.R_mono HO_6.out (fun _ hk => trivial)⟩, ⟨bw⟩⟩
          ·rw [if_neg c11] at H
           have c11b0 : decide (x10_3 ≤ t299) = false := decide_eq_false c11
           clear c11
           have H' := AX H
           clear H
           go_wp2
           go_roundg k3
           case measure => have := HJ4.out; have := HK2.out; have := HK3.out; omega
           case rel => exact ⟨(x6_3), (wrap64 (x7_2 + 1)), (by first | rfl | (simp; done) | (simp [*]; done)), H', ⟨by have := HJ4.out; have := HK2.out; have := HK3.out; omega⟩, ⟨kr HO_6⟩, ⟨bw⟩⟩
       ·rw [if_neg c9] at H
        have c9b0 : decide (x7_2 ≤ 12) = false := decide_eq_false c9
        clear c9
        simp only [Option.some.injEq, Prod.mk.injEq] at H
        obtain ⟨rfl, rfl⟩ := H
        go_wp2
        go_ret2
        exact ⟨_, by first | rfl | (simp [errW_none, errW_some] <;> rfl) | (simp [*, errW_none, errW_some] <;> rfl), kr HO_6, bw⟩
 ·replace c4 := Bool.eq_false_iff.mpr c4
  subst c4
  have H1 : (some (([] : List (S33)), 8)) = some (r1, r2) := by rw [if_neg (show ¬ (false = true) by decide)] at H; exact H
  clear H
  have H := H1
  clear H1
  simp only [Option.some.injEq, Prod.mk.injEq] at H
  obtain ⟨rfl, rfl⟩ := H
  go_enter Try.func20, Try.ntmps20
  go_wp2_with (first | ((with_reducible refine gate_callee (f := 35) rfl ?_); refine gL (some 13) Try.func35 #[.slice A0 l0.length c0] ?_; (with_reducible refine (pylonref05_all.calls k _ _ l0 false _ ?side1 ?side2 A3.out).mono ?_); (case side1 => repeat (first | exact HR0.out | (with_reducible refine Kd.C_alloc ?_ _) | (with_reducible refine Kd.C_drewN ?_ _) | (with_reducible refine Kd.C_drew ?_))); (case side2 => exact HC0.out); rintro e w23 ⟨rfl, hb⟩; refine ⟨_, rfl, ?_⟩; replace HB := AX (below_step bw hb); (try clear hb); (try clear hb2); (try clear hk); (try clear hi)))
  go_ret2
  exact ⟨_, by first | rfl | (simp [errW_none, errW_some] <;> rfl) | (simp [*, errW_none, errW_some] <;> rfl), by first | exact Kd.R_nil _ _ _ _ _ | exact Kd.N_nil _ _ _ _ _ | exact Kd.V_nil _ _ _ _ _ | exact Kd.Q_nil _ _ _ _ _ | exact Kd.S_nil _ _ _ _ _, bw⟩

/-! ### pylonref05_Is: function 30 -/
def pylonref05_Is.f (k : Nat) (l0 : List (S25)) (a1_0 : Int) (a1_1 : Int) (a1_2 : Int) : Option (Bool × Int) := (pylonref05_all.f k l0).bind fun t307 => (if t307 = true then ((pylonref03_Is.f k a1_0 a1_1 a1_2).bind fun t308 => (if t308 = true then ((pylonref05_falls.f k l0 a1_0 a1_1 a1_2).bind fun t309 => (some (t309, 0))) else (some (false, 5)))) else (some (false, 8)))
theorem pylonref05_Is.mono : ∀ a0 a1 a2 a3 k, LeO (pylonref05_Is.f k a0 a1 a2 a3) (pylonref05_Is.f (k + 1) a0 a1 a2 a3) := by
 intro a0 a1 a2 a3 k
 unfold pylonref05_Is.f
 repeat' first
   | (with_reducible exact pylonref03_Is.mono _ _ _ _)
   | (with_reducible exact pylonref05_all.mono _ _)
   | (with_reducible exact pylonref05_falls.mono _ _ _ _ _)
   | (with_reducible exact LeO.refl _)
   | (with_reducible exact LeO.none _)
   | (with_reducible refine LeO.ite ?_ ?_)
   | (with_reducible refine LeO.bind ?_ (fun _ => ?_))
set_option maxHeartbeats 8000000 in
set_option maxRecDepth 100000 in
theorem pylonref05_Is.calls (k : Nat) (A0 : Option Addr) (c0 : Nat) (l0 : List (S25)) (a1_0 : Int) (a1_1 : Int) (a1_2 : Int) (r1 : Bool) (r2 : Int) (w : World) (hr0 : Kd.C k25 w A0 l0.length l0) (hc0 : l0.length ≤ c0) (h : pylonref05_Is.f k l0 a1_0 a1_1 a1_2 = some (r1, r2)) :
  Calls Try.prog 30 #[.slice A0 l0.length c0, .agg #[.int .i64 a1_0, .int .i64 a1_1, .int .i64 a1_2]] w fun e w' => e = .returned (.tuple #[.bool r1, .int .i64 r2]) ∧ Below w.heap.size w w' := by
 have hu33 := Try.underlying33
 have HR0 := AX hr0
 have HC0 := AX hc0
 clear hr0 hc0
 have HB := AX (Below.refl w.heap.size w)
 have H : ((pylonref05_all.f k l0).bind fun t307 => (if t307 = true then ((pylonref03_Is.f k a1_0 a1_1 a1_2).bind fun t308 => (if t308 = true then ((pylonref05_falls.f k l0 a1_0 a1_1 a1_2).bind fun t309 => (some (t309, 0))) else (some (false, 5)))) else (some (false, 8)))) = some (r1, r2) := h
 clear h
 replace H := Option.bind_eq_some_iff.mp H
 obtain ⟨t307, A30, H⟩ := H
 replace H : (if t307 = true then ((pylonref03_Is.f k a1_0 a1_1 a1_2).bind fun t308 => (if t308 = true then ((pylonref05_falls.f k l0 a1_0 a1_1 a1_2).bind fun t309 => (some (t309, 0))) else (some (false, 5)))) else (some (false, 8))) = some (r1, r2) := H
 have A3 := AX A30
 clear A30
 by_cases c4 : t307 = true
 ·subst c4
  have H1 : ((pylonref03_Is.f k a1_0 a1_1 a1_2).bind fun t308 => (if t308 = true then ((pylonref05_falls.f k l0 a1_0 a1_1 a1_2).bind fun t309 => (some (t309, 0))) else (some (false, 5)))) = some (r1, r2) := by rw [if_pos rfl] at H; exact H
  clear H
  have H := H1
  clear H1
  replace H := Option.bind_eq_some_iff.mp H
  obtain ⟨t308, A50, H⟩ := H
  replace H : (if t308 = true then ((pylonref05_falls.f k l0 a1_0 a1_1 a1_2).bind fun t309 => (some (t309, 0))) else (some (false, 5))) = some (r1, r2) := H
  have A5 := AX A50
  clear A50
  by_cases c6 : t308 = true
  ·subst c6
   have H1 : ((pylonref05_falls.f k l0 a1_0 a1_1 a1_2).bind fun t309 => (some (t309, 0))) = some (r1, r2) := by rw [if_pos rfl] at H; exact H
   clear H
   have H := H1
   clear H1
   replace H := Option.bind_eq_some_iff.mp H
   obtain ⟨t309, A70, H⟩ := H
   replace H : (some (t309, 0)) = some (r1, r2) := H
   have A7 := AX A70
   clear A70
   simp only [Option.some.injEq, Prod.mk.injEq] at H
   obtain ⟨rfl, rfl⟩ := H
   go_enter Try.func30, Try.ntmps30
   go_wp2_with (first | ((with_reducible refine gate_dst (N := 3) rfl ?_); refine bx 3 #[.int .i64 a1_0, .int .i64 a1_1, .int .i64 a1_2] 33 ?_; intro gb306 hg w8 hbox hb; have BK306 := AX (hbox); have GW306 := gwl (w := w) hg bw; have GE306 := GW306; replace HB := AX (below_step bw hb); clear hb hbox hg) | ((with_reducible refine gate_callee (f := 35) rfl ?_); refine gL (some 7) Try.func35 #[.slice A0 l0.length c0] ?_; (with_reducible refine (pylonref05_all.calls k _ _ l0 true _ ?side1 ?side2 A3.out).mono ?_); (case side1 => repeat (first | exact (Kd.C_below HR0.out HB.out) | (with_reducible refine Kd.C_alloc ?_ _) | (with_reducible refine Kd.C_drewN ?_ _) | (with_reducible refine Kd.C_drew ?_))); (case side2 => exact HC0.out); rintro e w9 ⟨rfl, hb⟩; refine ⟨_, rfl, ?_⟩; replace BK306 := AX (bkb BK306 hb); replace HB := AX (below_step bw hb); (try clear hb); (try clear hb2); (try clear hk); (try clear hi); obtain ⟨hcz10_0, hcz10_1, hcz10_2⟩ := blkC3 (w := w9) BK306.out; obtain ⟨hfz10_0, hfz10_1, hfz10_2⟩ := blkF3 BK306.out) | ((with_reducible refine gate_callee (f := 45) rfl ?_); refine gL (some 10) Try.func45 #[.agg #[.int .i64 a1_0, .int .i64 a1_1, .int .i64 a1_2]] ?_; (with_reducible refine (pylonref03_Is.calls k a1_0 a1_1 a1_2 true _ A5.out).mono ?_); rintro e w11 ⟨rfl, hb⟩; refine ⟨_, rfl, ?_⟩; replace BK306 := AX (bkb BK306 hb); replace HB := AX (below_step bw hb); (try clear hb); obtain ⟨hcz12_0, hcz12_1, hcz12_2⟩ := blkC3 (w := w11) BK306.out; obtain ⟨hfz12_0, hfz12_1, hfz12_2⟩ := blkF3 BK306.out) | ((with_reducible refine gate_callee (f := 36) rfl ?_); refine gL (some 14) Try.func36 #[.slice A0 l0.length c0, .agg #[.int .i64 a1_0, .int .i64 a1_1, .int .i64 a1_2]] ?_; (with_reducible refine (pylonref05_falls.calls k _ _ l0 a1_0 a1_1 a1_2 t309 _ ?side1 ?side2 A7.out).mono ?_); (case side1 => repeat (first | exact (Kd.C_below HR0.out HB.out) | (with_reducible refine Kd.C_alloc ?_ _) | (with_reducible refine Kd.C_drewN ?_ _) | (with_reducible refine Kd.C_drew ?_))); (case side2 => exact HC0.out); rintro e w13 ⟨rfl, hb⟩; refine ⟨_, rfl, ?_⟩; replace BK306 := AX (bkb BK306 hb); replace HB := AX (below_step bw hb); (try clear hb); (try clear hb2); (try clear hk); (try clear hi)))
   go_ret2
   exact ⟨by first | rfl | (simp [errW_none, errW_some] <;> rfl) | (simp [*, errW_none, errW_some] <;> rfl), bw⟩
  ·replace c6 := Bool.eq_false_iff.mpr c6
   subst c6
   have H1 : (some (false, 5)) = some (r1, r2) := by rw [if_neg (show ¬ (false = true) by decide)] at H; exact H
   clear H
   have H := H1
   clear H1
   simp only [Option.some.injEq, Prod.mk.injEq] at H
   obtain ⟨rfl, rfl⟩ := H
   go_enter Try.func30, Try.ntmps30
   go_wp2_with (first | ((with_reducible refine gate_dst (N := 3) rfl ?_); refine bx 3 #[.int .i64 a1_0, .int .i64 a1_1, .int .i64 a1_2] 33 ?_; intro gb306 hg w14 hbox hb; have BK306 := AX (hbox); have GW306 := gwl (w := w) hg bw; have GE306 := GW306; replace HB := AX (below_step bw hb); clear hb hbox hg) | ((with_reducible refine gate_callee (f := 35) rfl ?_); refine gL (some 7) Try.func35 #[.slice A0 l0.length c0] ?_; (with_reducible refine (pylonref05_all.calls k _ _ l0 true _ ?side1 ?side2 A3.out).mono ?_); (case side1 => repeat (first | exact (Kd.C_below HR0.out HB.out) | (with_reducible refine Kd.C_alloc ?_ _) | (with_reducible refine Kd.C_drewN ?_ _) | (with_reducible refine Kd.C_drew ?_))); (case side2 => exact HC0.out); rintro e w15 ⟨rfl, hb⟩; refine ⟨_, rfl, ?_⟩; replace BK306 := AX (bkb BK306 hb); replace HB := AX (below_step bw hb); (try clear hb); (try clear hb2); (try clear hk); (try clear hi); obtain ⟨hcz16_0, hcz16_1, hcz16_2⟩ := blkC3 (w := w15) BK306.out; obtain ⟨hfz16_0, hfz16_1, hfz16_2⟩ := blkF3 BK306.out) | ((with_reducible refine gate_callee (f := 45) rfl ?_); refine gL (some 10) Try.func45 #[.agg #[.int .i64 a1_0, .int .i64 a1_1, .int .i64 a1_2]] ?_; (with_reducible refine (pylonref03_Is.calls k a1_0 a1_1 a1_2 false _ A5.out).mono ?_); rintro e w17 ⟨rfl, hb⟩; refine ⟨_, rfl, ?_⟩; replace BK306 := AX (bkb BK306 hb); replace HB := AX (below_step bw hb); (try clear hb)))
   go_ret2
   exact ⟨by first | rfl | (simp [errW_none, errW_some] <;> rfl) | (simp [*, errW_none, errW_some] <;> rfl), bw⟩
 ·replace c4 := Bool.eq_false_iff.mpr c4
  subst c4
  have H1 : (some (false, 8)) = some (r1, r2) := by rw [if_neg (show ¬ (false = true) by decide)] at H; exact H
  clear H
  have H := H1
  clear H1
  simp only [Option.some.injEq, Prod.mk.injEq] at H
  obtain ⟨rfl, rfl⟩ := H
  go_enter Try.func30, Try.ntmps30
  go_wp2_with (first | ((with_reducible refine gate_dst (N := 3) rfl ?_); refine bx 3 #[.int .i64 a1_0, .int .i64 a1_1, .int .i64 a1_2] 33 ?_; intro gb306 hg w18 hbox hb; have BK306 := AX (hbox); have GW306 := gwl (w := w) hg bw; have GE306 := GW306; replace HB := AX (below_step bw hb); clear hb hbox hg) | ((with_reducible refine gate_callee (f := 35) rfl ?_); refine gL (some 7) Try.func35 #[.slice A0 l0.length c0] ?_; (with_reducible refine (pylonref05_all.calls k _ _ l0 false _ ?side1 ?side2 A3.out).mono ?_); (case side1 => repeat (first | exact (Kd.C_below HR0.out HB.out) | (with_reducible refine Kd.C_alloc ?_ _) | (with_reducible refine Kd.C_drewN ?_ _) | (with_reducible refine Kd.C_drew ?_))); (case side2 => exact HC0.out); rintro e w19 ⟨rfl, hb⟩; refine ⟨_, rfl, ?_⟩; replace BK306 := AX (bkb BK306 hb); replace HB := AX (below_step bw hb); (try clear hb); (try clear hb2); (try clear hk); (try clear hi)))
  go_ret2
  exact ⟨by first | rfl | (simp [errW_none, errW_some] <;> rfl) | (simp [*, errW_none, errW_some] <;> rfl), bw⟩

end Go.Proofs.Ytegedhnbmclbkaa.PX
