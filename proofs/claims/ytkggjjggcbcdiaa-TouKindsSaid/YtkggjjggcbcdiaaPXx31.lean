/- Functions of the program as plain Lean functions, each with a proof that the call in the machine answers just what the plain function says; condition: the plain function answers at all. -/
import Derived.Test.YtkggjjggcbcdiaaPXx0
import Derived.Test.YtkggjjggcbcdiaaPXx7
import Derived.Test.YtkggjjggcbcdiaaPXx9
import Derived.Test.YtkggjjggcbcdiaaPXx11
import Derived.Test.YtkggjjggcbcdiaaPXx14
namespace Go.Proofs.Ytkggjjggcbcdiaa.PX
open Go.RowKit Go.Proofs.YtkggjjggcbcdiaaW.PrintWords Go.Proofs.YtkggjjggcbcdiaaW.PrintLast Go.Proofs.YtkggjjggcbcdiaaW.PrintMore
attribute [local go_sem] max2_int min2_int max_two min_two max_three min_three max_four min_four   -- for this text's walks alone
set_option linter.unusedVariables false
set_option linter.unusedSimpArgs false

/-! ### pylonlaw14_TouKinds: function 3 -/
def pylonlaw14_TouKinds.j0 : Nat → List (S65) → Int → Int → Bool → Int → Int → Int → Option (Bool)
 | 0, _, _, _, _, _, _, _ => none
 | k + 1, x0, x7, x8, x34, x258000, x258001, x258002 => if x34 = true then (some false) else (if x8 = 0 then ((pylonref05_Is.f k x0 x258000 x258001 x258002).bind fun bt263 => ((pylonref03_Weekday.f k x258000 x258001 x258002).bind fun bt265 => (if ((x7 == 3) == bt263.1) = true then (if bt263.1 = true then (some true) else (if ((x7 == 2) == (bt265.1 == 6)) = true then (some ((x7 == 1) == (bt265.1 == 5))) else (some false))) else (some false)))) else (some (x7 == 0)))
def pylonlaw14_TouKinds.f (k : Nat) (l0 : List (S65)) (a1_0 : Int) (a1_1 : Int) (a1_2 : Int) : Option (Bool) := (pylonlaw14_awake.f k).bind fun t258 => (if t258 = true then ((pylonref14_Kind.f k l0 a1_0 a1_1 a1_2).bind fun bt259 => ((tou_Kind.f k l0 a1_0 a1_1 a1_2).bind fun bt261 => (if bt261.1 = bt259.1 then (pylonlaw14_TouKinds.j0 k l0 bt261.1 bt261.2 (bt261.2 != bt259.2) a1_0 a1_1 a1_2) else (pylonlaw14_TouKinds.j0 k l0 bt261.1 bt261.2 true a1_0 a1_1 a1_2)))) else (some false))
theorem pylonlaw14_TouKinds.mono_l : ∀ k, (∀ y0 y1 y2 y3 y4 y5 y6, LeO (pylonlaw14_TouKinds.j0 k y0 y1 y2 y3 y4 y5 y6) (pylonlaw14_TouKinds.j0 (k + 1) y0 y1 y2 y3 y4 y5 y6))
 | 0 => fun _ _ _ _ _ _ _ r h => by simp [pylonlaw14_TouKinds.j0] at h
 | k + 1 => by
  have ih0 := pylonlaw14_TouKinds.mono_l k
  ·intro y0 y1 y2 y3 y4 y5 y6
   unfold pylonlaw14_TouKinds.j0
   repeat' first
   | (with_reducible exact ih0 _ _ _ _ _ _ _)
   | (with_reducible exact pylonlaw14_awake.mono _)
   | (with_reducible exact pylonref03_Weekday.mono _ _ _ _)
   | (with_reducible exact pylonref05_Is.mono _ _ _ _ _)
   | (with_reducible exact pylonref14_Kind.mono _ _ _ _ _)
   | (with_reducible exact tou_Kind.mono _ _ _ _ _)
   | (with_reducible exact LeO.refl _)
   | (with_reducible exact LeO.none _)
   | (with_reducible refine LeO.ite ?_ ?_)
   | (with_reducible refine LeO.bind ?_ (fun _ => ?_))
   | exact ih0 _ _ _ _ _ _ _
   | exact pylonlaw14_awake.mono _
   | exact pylonref03_Weekday.mono _ _ _ _
   | exact pylonref05_Is.mono _ _ _ _ _
   | exact pylonref14_Kind.mono _ _ _ _ _
   | exact tou_Kind.mono _ _ _ _ _
   | exact LeO.none _
   | refine LeO.ite ?_ ?_
   | refine LeO.bind ?_ (fun _ => ?_)
theorem pylonlaw14_TouKinds.mono : ∀ a0 a1 a2 a3 k, LeO (pylonlaw14_TouKinds.f k a0 a1 a2 a3) (pylonlaw14_TouKinds.f (k + 1) a0 a1 a2 a3) := by
 intro a0 a1 a2 a3 k
 have ih0 := pylonlaw14_TouKinds.mono_l k
 unfold pylonlaw14_TouKinds.f
 repeat' first
   | (with_reducible exact ih0 _ _ _ _ _ _ _)
   | (with_reducible exact pylonlaw14_awake.mono _)
   | (with_reducible exact pylonref03_Weekday.mono _ _ _ _)
   | (with_reducible exact pylonref05_Is.mono _ _ _ _ _)
   | (with_reducible exact pylonref14_Kind.mono _ _ _ _ _)
   | (with_reducible exact tou_Kind.mono _ _ _ _ _)
   | (with_reducible exact LeO.refl _)
   | (with_reducible exact LeO.none _)
   | (with_reducible refine LeO.ite ?_ ?_)
   | (with_reducible refine LeO.bind ?_ (fun _ => ?_))
   | exact ih0 _ _ _ _ _ _ _
   | exact pylonlaw14_awake.mono _
   | exact pylonref03_Weekday.mono _ _ _ _
   | exact pylonref05_Is.mono _ _ _ _ _
   | exact pylonref14_Kind.mono _ _ _ _ _
   | exact tou_Kind.mono _ _ _ _ _
   | exact LeO.none _
   | refine LeO.ite ?_ ?_
   | refine LeO.bind ?_ (fun _ => ?_)
set_option maxHeartbeats 8000000 in
set_option maxRecDepth 100000 in
theorem pylonlaw14_TouKinds.calls (k : Nat) (A0 : Option Addr) (c0 : Nat) (l0 : List (S65)) (a1_0 : Int) (a1_1 : Int) (a1_2 : Int) (r : Bool) (w : World) (hr0 : Kd.C k65 w A0 l0.length l0) (hc0 : l0.length ≤ c0) (h : pylonlaw14_TouKinds.f k l0 a1_0 a1_1 a1_2 = some r) :
  Calls Try.prog 3 #[.slice A0 l0.length c0, .agg #[.int .i64 a1_0, .int .i64 a1_1, .int .i64 a1_2]] w fun e w' => e = .returned (.bool r) ∧ Below w.heap.size w w' := by
 have hu24 := Try.underlying24
 have HR0 := AX hr0
 have HC0 := AX hc0
 clear hr0 hc0
 have HB := AX (Below.refl w.heap.size w)
 have H : ((pylonlaw14_awake.f k).bind fun t258 => (if t258 = true then ((pylonref14_Kind.f k l0 a1_0 a1_1 a1_2).bind fun bt259 => ((tou_Kind.f k l0 a1_0 a1_1 a1_2).bind fun bt261 => (if bt261.1 = bt259.1 then (pylonlaw14_TouKinds.j0 k l0 bt261.1 bt261.2 (bt261.2 != bt259.2) a1_0 a1_1 a1_2) else (pylonlaw14_TouKinds.j0 k l0 bt261.1 bt261.2 true a1_0 a1_1 a1_2)))) else (some false))) = some r := h
 clear h
 replace H := Option.bind_eq_some_iff.mp H
 obtain ⟨t258, A30, H⟩ := H
 replace H : (if t258 = true then ((pylonref14_Kind.f k l0 a1_0 a1_1 a1_2).bind fun bt259 => ((tou_Kind.f k l0 a1_0 a1_1 a1_2).bind fun bt261 => (if bt261.1 = bt259.1 then (pylonlaw14_TouKinds.j0 k l0 bt261.1 bt261.2 (bt261.2 != bt259.2) a1_0 a1_1 a1_2) else (pylonlaw14_TouKinds.j0 k l0 bt261.1 bt261.2 true a1_0 a1_1 a1_2)))) else (some false)) = some r := H
 have A3 := AX A30
 clear A30
 by_cases c4 : t258 = true
 ·subst c4
  have H1 : ((pylonref14_Kind.f k l0 a1_0 a1_1 a1_2).bind fun bt259 => ((tou_Kind.f k l0 a1_0 a1_1 a1_2).bind fun bt261 => (if bt261.1 = bt259.1 then (pylonlaw14_TouKinds.j0 k l0 bt261.1 bt261.2 (bt261.2 != bt259.2) a1_0 a1_1 a1_2) else (pylonlaw14_TouKinds.j0 k l0 bt261.1 bt261.2 true a1_0 a1_1 a1_2)))) = some r := by rw [if_pos rfl] at H; exact H
  clear H
  have H := H1
  clear H1
  replace H := Option.bind_eq_some_iff.mp H
  obtain ⟨⟨t259, t260⟩, A50, H⟩ := H
  replace H : ((tou_Kind.f k l0 a1_0 a1_1 a1_2).bind fun bt261 => (if bt261.1 = t259 then (pylonlaw14_TouKinds.j0 k l0 bt261.1 bt261.2 (bt261.2 != t260) a1_0 a1_1 a1_2) else (pylonlaw14_TouKinds.j0 k l0 bt261.1 bt261.2 true a1_0 a1_1 a1_2))) = some r := H
  have A5 := AX A50
  clear A50
  replace H := Option.bind_eq_some_iff.mp H
  obtain ⟨⟨t261, t262⟩, A60, H⟩ := H
  replace H : (if t261 = t259 then (pylonlaw14_TouKinds.j0 k l0 t261 t262 (t262 != t260) a1_0 a1_1 a1_2) else (pylonlaw14_TouKinds.j0 k l0 t261 t262 true a1_0 a1_1 a1_2)) = some r := H
  have A6 := AX A60
  clear A60
  have HC7 := AX H
  clear H
  go_enter Try.func3, Try.ntmps3
  go_upto_region 5 with (first | ((with_reducible refine gate_dst (N := 3) rfl ?_); refine box_event ?hg (N := 3) ?hd (cs := #[.int .i64 a1_0, .int .i64 a1_1, .int .i64 a1_2]) (t := 24) ?hr ?_; (case hd => rfl); (case hg => rfl); (case hr => first | (go_simp; done) | (go_simp; rfl)); intro gb257 hg w8 hbox hb; have n0_ := AX (below_step bw hb); have n1_ := AX (hbox); have n2_ := AX ((by rw [hg]; exact (below_size bw) : w.heap.size ≤ gb257)); have n3_ := AX ((by rw [hg]; exact (below_size bw) : w.heap.size ≤ gb257)); clear HB; have HB := n0_; have BK257 := n1_; have GW257 := n2_; have GE257 := n3_; clear n0_ n1_ n2_ n3_; clear hb hbox hg) | ((with_reducible refine gate_callee (f := 15) rfl ?_); refine goesL_ (some 13) rfl rfl Try.func15 (by kernel_rfl) rfl #[] rfl (by (try simp only [List.map_toArray, List.map_cons, List.map_nil]); first | done | rfl | (simp only [List.length_drop, List.length_take]; rfl)) ?_; (with_reducible refine (pylonlaw14_awake.calls k  true _ A3.out).mono ?_); rintro e w9 ⟨rfl, hb⟩; refine ⟨_, rfl, ?_⟩; have n0_ := AX (bkb BK257 hb); have n1_ := AX (below_step bw hb); clear BK257; clear HB; have BK257 := n0_; have HB := n1_; clear n0_ n1_; (try clear hb); obtain ⟨hcz10_0, hcz10_1, hcz10_2⟩ := blkC3 (w := w9) BK257.out; obtain ⟨hfz10_0, hfz10_1, hfz10_2⟩ := blkF3 BK257.out) | ((with_reducible refine gate_callee (f := 16) rfl ?_); refine goesL_ (some 18) rfl rfl Try.func16 (by kernel_rfl) rfl #[.slice A0 l0.length c0, .agg #[.int .i64 a1_0, .int .i64 a1_1, .int .i64 a1_2]] rfl (by (try simp only [List.map_toArray, List.map_cons, List.map_nil]); first | done | rfl | (simp only [List.length_drop, List.length_take]; rfl)) ?_; (with_reducible refine (pylonref14_Kind.calls k _ _ l0 a1_0 a1_1 a1_2 t259 t260 _ ?side1 ?side2 A5.out).mono ?_); (case side1 => repeat (first | exact (Kd.C_below HR0.out HB.out) | (with_reducible refine Kd.C_alloc ?_ _) | (with_reducible refine Kd.C_drewN ?_ _) | (with_reducible refine Kd.C_drew ?_))); (case side2 => exact HC0.out); rintro e w11 ⟨rfl, hb⟩; refine ⟨_, rfl, ?_⟩; have n0_ := AX (bkb BK257 hb); have n1_ := AX (below_step bw hb); clear BK257; clear HB; have BK257 := n0_; have HB := n1_; clear n0_ n1_; (try clear hb); (try clear hb2); (try clear hk); (try clear hi); obtain ⟨hcz12_0, hcz12_1, hcz12_2⟩ := blkC3 (w := w11) BK257.out; obtain ⟨hfz12_0, hfz12_1, hfz12_2⟩ := blkF3 BK257.out) | ((with_reducible refine gate_callee (f := 17) rfl ?_); refine goesL_ (some 24) rfl rfl Try.func17 (by kernel_rfl) rfl #[.slice A0 l0.length c0, .agg #[.int .i64 a1_0, .int .i64 a1_1, .int .i64 a1_2]] rfl (by (try simp only [List.map_toArray, List.map_cons, List.map_nil]); first | done | rfl | (simp only [List.length_drop, List.length_take]; rfl)) ?_; (with_reducible refine (tou_Kind.calls k _ _ l0 a1_0 a1_1 a1_2 t261 t262 _ ?side1 ?side2 A6.out).mono ?_); (case side1 => repeat (first | exact (Kd.C_below HR0.out HB.out) | (with_reducible refine Kd.C_alloc ?_ _) | (with_reducible refine Kd.C_drewN ?_ _) | (with_reducible refine Kd.C_drew ?_))); (case side2 => exact HC0.out); rintro e w13 ⟨rfl, hb⟩; refine ⟨_, rfl, ?_⟩; have n0_ := AX (bkb BK257 hb); have n1_ := AX (below_step bw hb); clear BK257; clear HB; have BK257 := n0_; have HB := n1_; clear n0_ n1_; (try clear hb); (try clear hb2); (try clear hk); (try clear hi)))
  (try simp only [Act.put, List.setIfInBounds_toArray, List.set_cons_zero, List.set_cons_succ])
  go_cut [34] (fun v34 wc => ∃ (kq : Nat) (x34_6 : Bool), v34 = .bool x34_6 ∧ Aside0 (pylonlaw14_TouKinds.j0 kq l0 t261 t262 x34_6 a1_0 a1_1 a1_2 = some r) ∧ Aside0 (kq ≤ k) ∧ Aside0 (wc.heap[gb257]? = some (.cells #[.int .i64 a1_0, .int .i64 a1_1, .int .i64 a1_2] 24 (0, 0))) ∧ Aside0 (Below w.heap.size w wc))
  case first =>
   have H := HC7.out
   clear HC7
   by_cases c14 : t261 = t259
   ·rw [if_pos c14] at H
    have c14b0 : (t261 == t259) = true := beq_iff_eq.mpr c14
    have c14b1 : (t261 != t259) = false := bne_eq_false_iff_eq.mpr c14
    clear c14
    (first | rw [c14b0] | (simp only [i64_w, i32_w]; rw [c14b0]) | skip)
    have H' := AX H
    clear H
    go_wp2
    go_meet
    case rel => exact ⟨_, ((t262 != t260)), (by first | rfl | (simp; done) | (simp [*]; done)), H', ⟨by first | omega | exact Nat.le_refl _⟩, ⟨bkn BK257⟩, ⟨bw⟩⟩
   ·rw [if_neg c14] at H
    have c14b0 : (t261 == t259) = false := beq_eq_false_iff_ne.mpr c14
    have c14b1 : (t261 != t259) = true := bne_iff_ne.mpr c14
    (first | rw [c14b0] | (simp only [i64_w, i32_w]; rw [c14b0]) | skip)
    have H' := AX H
    clear H
    go_wp2
    go_meet
    case rel => exact ⟨_, (true), (by first | rfl | (simp; done) | (simp [*]; done)), H', ⟨by first | omega | exact Nat.le_refl _⟩, ⟨bkn BK257⟩, ⟨bw⟩⟩
  case rest =>
   clear HC7
   try clear c4
   try clear hcz10_0
   try clear hcz10_1
   try clear hcz10_2
   try clear hcz12_0
   try clear hcz12_1
   try clear hcz12_2
   try clear hfz10_0
   try clear hfz10_1
   try clear hfz10_2
   try clear hfz12_0
   try clear hfz12_1
   try clear hfz12_2
   obtain ⟨kq, x34_6, rfl, HA, HJ6, BK257, HB⟩ := hcut
   cases kq with
   | zero => exact absurd HA.out (by simp [pylonlaw14_TouKinds.j0])
   | succ kj6 =>
    have H := HA.out
    clear HA
    simp only [pylonlaw14_TouKinds.j0] at H
    by_cases c15 : x34_6 = true
    ·subst c15
     have H1 : (some false) = some r := by rw [if_pos rfl] at H; exact H
     clear H
     have H := H1
     clear H1
     obtain rfl := Option.some.inj H
     go_wp2
     go_ret
     exact ⟨by first | rfl | (simp [errW_none, errW_some] <;> rfl) | (simp [*, errW_none, errW_some] <;> rfl), bw⟩
    ·replace c15 := Bool.eq_false_iff.mpr c15
     subst c15
     have H1 : (if t262 = 0 then ((pylonref05_Is.f kj6 l0 a1_0 a1_1 a1_2).bind fun bt263 => ((pylonref03_Weekday.f kj6 a1_0 a1_1 a1_2).bind fun bt265 => (if ((t261 == 3) == bt263.1) = true then (if bt263.1 = true then (some true) else (if ((t261 == 2) == (bt265.1 == 6)) = true then (some ((t261 == 1) == (bt265.1 == 5))) else (some false))) else (some false)))) else (some (t261 == 0))) = some r := by rw [if_neg (show ¬ (false = true) by decide)] at H; exact H
     clear H
     have H := H1
     clear H1
     by_cases c16 : t262 = 0
     ·rw [if_pos c16] at H
      have c16b0 : (t262 == 0) = true := beq_iff_eq.mpr c16
      have c16b1 : (t262 != 0) = false := bne_eq_false_iff_eq.mpr c16
      clear c16
      replace H := Option.bind_eq_some_iff.mp H
      obtain ⟨⟨t263, t264⟩, A170, H⟩ := H
      replace H : ((pylonref03_Weekday.f kj6 a1_0 a1_1 a1_2).bind fun bt265 => (if ((t261 == 3) == t263) = true then (if t263 = true then (some true) else (if ((t261 == 2) == (bt265.1 == 6)) = true then (some ((t261 == 1) == (bt265.1 == 5))) else (some false))) else (some false))) = some r := H
      have A17 := AX A170
      clear A170
      replace H := Option.bind_eq_some_iff.mp H
      obtain ⟨⟨t265, t266⟩, A180, H⟩ := H
      replace H : (if ((t261 == 3) == t263) = true then (if t263 = true then (some true) else (if ((t261 == 2) == (t265 == 6)) = true then (some ((t261 == 1) == (t265 == 5))) else (some false))) else (some false)) = some r := H
      have A18 := AX A180
      clear A180
      by_cases c19 : ((t261 == 3) == t263) = true
      ·rw [if_pos c19] at H
       have c19b0 : ((t261 == 3) == t263) = true := c19
       (try (have c19b1 : decide ((t261 == 3) = t263) = true := by simpa using c19))
       (try (have c19b2 : ((t261 == 3) == t263) = true := by simpa using c19))
       clear c19
       by_cases c20 : t263 = true
       ·subst c20
        have H1 : (some true) = some r := by rw [if_pos rfl] at H; exact H
        clear H
        have H := H1
        clear H1
        obtain rfl := Option.some.inj H
        obtain ⟨hcz21_0, hcz21_1, hcz21_2⟩ := blkC3 (w := wc) BK257.out
        obtain ⟨hfz21_0, hfz21_1, hfz21_2⟩ := blkF3 BK257.out
        go_wp2_with (first | ((with_reducible refine gate_callee (f := 18) rfl ?_); refine goesL_ (some 42) rfl rfl Try.func18 (by kernel_rfl) rfl #[.slice A0 l0.length c0, .agg #[.int .i64 a1_0, .int .i64 a1_1, .int .i64 a1_2]] rfl (by (try simp only [List.map_toArray, List.map_cons, List.map_nil]); first | done | rfl | (simp only [List.length_drop, List.length_take]; rfl)) ?_; (with_reducible refine (pylonref05_Is.calls kj6 _ _ l0 a1_0 a1_1 a1_2 true t264 _ ?side1 ?side2 A17.out).mono ?_); (case side1 => repeat (first | exact (Kd.C_below HR0.out HB.out) | (with_reducible refine Kd.C_alloc ?_ _) | (with_reducible refine Kd.C_drewN ?_ _) | (with_reducible refine Kd.C_drew ?_))); (case side2 => exact HC0.out); rintro e w22 ⟨rfl, hb⟩; refine ⟨_, rfl, ?_⟩; have n0_ := AX (bkb BK257 hb); have n1_ := AX (below_step bw hb); clear BK257; clear HB; have BK257 := n0_; have HB := n1_; clear n0_ n1_; (try clear hb); (try clear hb2); (try clear hk); (try clear hi); obtain ⟨hcz23_0, hcz23_1, hcz23_2⟩ := blkC3 (w := w22) BK257.out; obtain ⟨hfz23_0, hfz23_1, hfz23_2⟩ := blkF3 BK257.out) | ((with_reducible refine gate_callee (f := 19) rfl ?_); refine goesL_ (some 47) rfl rfl Try.func19 (by kernel_rfl) rfl #[.agg #[.int .i64 a1_0, .int .i64 a1_1, .int .i64 a1_2]] rfl (by (try simp only [List.map_toArray, List.map_cons, List.map_nil]); first | done | rfl | (simp only [List.length_drop, List.length_take]; rfl)) ?_; (with_reducible refine (pylonref03_Weekday.calls kj6 a1_0 a1_1 a1_2 t265 t266 _ A18.out).mono ?_); rintro e w24 ⟨rfl, hb⟩; refine ⟨_, rfl, ?_⟩; have n0_ := AX (bkb BK257 hb); have n1_ := AX (below_step bw hb); clear BK257; clear HB; have BK257 := n0_; have HB := n1_; clear n0_ n1_; (try clear hb)))
        go_ret
        exact ⟨by first | rfl | (simp [errW_none, errW_some] <;> rfl) | (simp [*, errW_none, errW_some] <;> rfl), bw⟩
       ·replace c20 := Bool.eq_false_iff.mpr c20
        subst c20
        have H1 : (if ((t261 == 2) == (t265 == 6)) = true then (some ((t261 == 1) == (t265 == 5))) else (some false)) = some r := by rw [if_neg (show ¬ (false = true) by decide)] at H; exact H
        clear H
        have H := H1
        clear H1
        by_cases c25 : ((t261 == 2) == (t265 == 6)) = true
        ·rw [if_pos c25] at H
         have c25b0 : ((t261 == 2) == (t265 == 6)) = true := c25
         (try (have c25b1 : decide ((t261 == 2) = (t265 == 6)) = true := by simpa using c25))
         (try (have c25b2 : ((t261 == 2) == (t265 == 6)) = true := by simpa using c25))
         clear c25
         obtain rfl := Option.some.inj H
         obtain ⟨hcz26_0, hcz26_1, hcz26_2⟩ := blkC3 (w := wc) BK257.out
         obtain ⟨hfz26_0, hfz26_1, hfz26_2⟩ := blkF3 BK257.out
         go_wp2_with (first | ((with_reducible refine gate_callee (f := 18) rfl ?_); refine goesL_ (some 42) rfl rfl Try.func18 (by kernel_rfl) rfl #[.slice A0 l0.length c0, .agg #[.int .i64 a1_0, .int .i64 a1_1, .int .i64 a1_2]] rfl (by (try simp only [List.map_toArray, List.map_cons, List.map_nil]); first | done | rfl | (simp only [List.length_drop, List.length_take]; rfl)) ?_; (with_reducible refine (pylonref05_Is.calls kj6 _ _ l0 a1_0 a1_1 a1_2 false t264 _ ?side1 ?side2 A17.out).mono ?_); (case side1 => repeat (first | exact (Kd.C_below HR0.out HB.out) | (with_reducible refine Kd.C_alloc ?_ _) | (with_reducible refine Kd.C_drewN ?_ _) | (with_reducible refine Kd.C_drew ?_))); (case side2 => exact HC0.out); rintro e w27 ⟨rfl, hb⟩; refine ⟨_, rfl, ?_⟩; have n0_ := AX (bkb BK257 hb); have n1_ := AX (below_step bw hb); clear BK257; clear HB; have BK257 := n0_; have HB := n1_; clear n0_ n1_; (try clear hb); (try clear hb2); (try clear hk); (try clear hi); obtain ⟨hcz28_0, hcz28_1, hcz28_2⟩ := blkC3 (w := w27) BK257.out; obtain ⟨hfz28_0, hfz28_1, hfz28_2⟩ := blkF3 BK257.out) | ((with_reducible refine gate_callee (f := 19) rfl ?_); refine goesL_ (some 47) rfl rfl Try.func19 (by kernel_rfl) rfl #[.agg #[.int .i64 a1_0, .int .i64 a1_1, .int .i64 a1_2]] rfl (by (try simp only [List.map_toArray, List.map_cons, List.map_nil]); first | done | rfl | (simp only [List.length_drop, List.length_take]; rfl)) ?_; (with_reducible refine (pylonref03_Weekday.calls kj6 a1_0 a1_1 a1_2 t265 t266 _ A18.out).mono ?_); rintro e w29 ⟨rfl, hb⟩; refine ⟨_, rfl, ?_⟩; have n0_ := AX (bkb BK257 hb); have n1_ := AX (below_step bw hb); clear BK257; clear HB; have BK257 := n0_; have HB := n1_; clear n0_ n1_; (try clear hb)))
         go_ret
         exact ⟨by first | rfl | (simp [errW_none, errW_some] <;> rfl) | (simp [*, errW_none, errW_some] <;> rfl), bw⟩
        ·rw [if_neg c25] at H
         have c25b0 : ((t261 == 2) == (t265 == 6)) = false := by simpa using c25
         (try (have c25b1 : decide ((t261 == 2) = (t265 == 6)) = false := by simpa using c25))
         (try (have c25b2 : ((t261 == 2) == (t265 == 6)) = false := by simpa using c25))
         (try (have c25b3 : ¬ ((t261 == 2) = (t265 == 6)) := by simpa using c25))
         clear c25
         obtain rfl := Option.some.inj H
         obtain ⟨hcz30_0, hcz30_1, hcz30_2⟩ := blkC3 (w := wc) BK257.out
         obtain ⟨hfz30_0, hfz30_1, hfz30_2⟩ := blkF3 BK257.out
         go_wp2_with (first | ((with_reducible refine gate_callee (f := 18) rfl ?_); refine goesL_ (some 42) rfl rfl Try.func18 (by kernel_rfl) rfl #[.slice A0 l0.length c0, .agg #[.int .i64 a1_0, .int .i64 a1_1, .int .i64 a1_2]] rfl (by (try simp only [List.map_toArray, List.map_cons, List.map_nil]); first | done | rfl | (simp only [List.length_drop, List.length_take]; rfl)) ?_; (with_reducible refine (pylonref05_Is.calls kj6 _ _ l0 a1_0 a1_1 a1_2 false t264 _ ?side1 ?side2 A17.out).mono ?_); (case side1 => repeat (first | exact (Kd.C_below HR0.out HB.out) | (with_reducible refine Kd.C_alloc ?_ _) | (with_reducible refine Kd.C_drewN ?_ _) | (with_reducible refine Kd.C_drew ?_))); (case side2 => exact HC0.out); rintro e w31 ⟨rfl, hb⟩; refine ⟨_, rfl, ?_⟩; have n0_ := AX (bkb BK257 hb); have n1_ := AX (below_step bw hb); clear BK257; clear HB; have BK257 := n0_; have HB := n1_; clear n0_ n1_; (try clear hb); (try clear hb2); (try clear hk); (try clear hi); obtain ⟨hcz32_0, hcz32_1, hcz32_2⟩ := blkC3 (w := w31) BK257.out; obtain ⟨hfz32_0, hfz32_1, hfz32_2⟩ := blkF3 BK257.out) | ((with_reducible refine gate_callee (f := 19) rfl ?_); refine goesL_ (some 47) rfl rfl Try.func19 (by kernel_rfl) rfl #[.agg #[.int .i64 a1_0, .int .i64 a1_1, .int .i64 a1_2]] rfl (by (try simp only [List.map_toArray, List.map_cons, List.map_nil]); first | done | rfl | (simp only [List.length_drop, List.length_take]; rfl)) ?_; (with_reducible refine (pylonref03_Weekday.calls kj6 a1_0 a1_1 a1_2 t265 t266 _ A18.out).mono ?_); rintro e w33 ⟨rfl, hb⟩; refine ⟨_, rfl, ?_⟩; have n0_ := AX (bkb BK257 hb); have n1_ := AX (below_step bw hb); clear BK257; clear HB; have BK257 := n0_; have HB := n1_; clear n0_ n1_; (try clear hb)))
         go_ret
         exact ⟨by first | rfl | (simp [errW_none, errW_some] <;> rfl) | (simp [*, errW_none, errW_some] <;> rfl), bw⟩
      ·rw [if_neg c19] at H
       have c19b0 : ((t261 == 3) == t263) = false := by simpa using c19
       (try (have c19b1 : decide ((t261 == 3) = t263) = false := by simpa using c19))
       (try (have c19b2 : ((t261 == 3) == t263) = false := by simpa using c19))
       (try (have c19b3 : ¬ ((t261 == 3) = t263) := by simpa using c19))
       clear c19
       obtain rfl := Option.some.inj H
       obtain ⟨hcz34_0, hcz34_1, hcz34_2⟩ := blkC3 (w := wc) BK257.out
       obtain ⟨hfz34_0, hfz34_1, hfz34_2⟩ := blkF3 BK257.out
       go_wp2_with (first | ((with_reducible refine gate_callee (f := 18) rfl ?_); refine goesL_ (some 42) rfl rfl Try.func18 (by kernel_rfl) rfl #[.slice A0 l0.length c0, .agg #[.int .i64 a1_0, .int .i64 a1_1, .int .i64 a1_2]] rfl (by (try simp only [List.map_toArray, List.map_cons, List.map_nil]); first | done | rfl | (simp only [List.length_drop, List.length_take]; rfl)) ?_; (with_reducible refine (pylonref05_Is.calls kj6 _ _ l0 a1_0 a1_1 a1_2 t263 t264 _ ?side1 ?side2 A17.out).mono ?_); (case side1 => repeat (first | exact (Kd.C_below HR0.out HB.out) | (with_reducible refine Kd.C_alloc ?_ _) | (with_reducible refine Kd.C_drewN ?_ _) | (with_reducible refine Kd.C_drew ?_))); (case side2 => exact HC0.out); rintro e w35 ⟨rfl, hb⟩; refine ⟨_, rfl, ?_⟩; have n0_ := AX (bkb BK257 hb); have n1_ := AX (below_step bw hb); clear BK257; clear HB; have BK257 := n0_; have HB := n1_; clear n0_ n1_; (try clear hb); (try clear hb2); (try clear hk); (try clear hi); obtain ⟨hcz36_0, hcz36_1, hcz36_2⟩ := blkC3 (w := w35) BK257.out; obtain ⟨hfz36_0, hfz36_1, hfz36_2⟩ := blkF3 BK257.out) | ((with_reducible refine gate_callee (f := 19) rfl ?_); refine goesL_ (some 47) rfl rfl Try.func19 (by kernel_rfl) rfl #[.agg #[.int .i64 a1_0, .int .i64 a1_1, .int .i64 a1_2]] rfl (by (try simp only [List.map_toArray, List.map_cons, List.map_nil]); first | done | rfl | (simp only [List.length_drop, List.length_take]; rfl)) ?_; (with_reducible refine (pylonref03_Weekday.calls kj6 a1_0 a1_1 a1_2 t265 t266 _ A18.out).mono ?_); rintro e w37 ⟨rfl, hb⟩; refine ⟨_, rfl, ?_⟩; have n0_ := AX (bkb BK257 hb); have n1_ := AX (below_step bw hb); clear BK257; clear HB; have BK257 := n0_; have HB := n1_; clear n0_ n1_; (try clear hb)))
       go_ret
       exact ⟨by first | rfl | (simp [errW_none, errW_some] <;> rfl) | (simp [*, errW_none, errW_some] <;> rfl), bw⟩
     ·rw [if_neg c16] at H
      have c16b0 : (t262 == 0) = false := beq_eq_false_iff_ne.mpr c16
      have c16b1 : (t262 != 0) = true := bne_iff_ne.mpr c16
      obtain rfl := Option.some.inj H
      go_wp2
      go_ret
      exact ⟨by first | rfl | (simp [errW_none, errW_some] <;> rfl) | (simp [*, errW_none, errW_some] <;> rfl), bw⟩
 ·replace c4 := Bool.eq_false_iff.mpr c4
  subst c4
  have H1 : (some false) = some r := by rw [if_neg (show ¬ (false = true) by decide)] at H; exact H
  clear H
  have H := H1
  clear H1
  obtain rfl := Option.some.inj H
  go_enter Try.func3, Try.ntmps3
  go_wp2_with (first | ((with_reducible refine gate_dst (N := 3) rfl ?_); refine box_event ?hg (N := 3) ?hd (cs := #[.int .i64 a1_0, .int .i64 a1_1, .int .i64 a1_2]) (t := 24) ?hr ?_; (case hd => rfl); (case hg => rfl); (case hr => first | (go_simp; done) | (go_simp; rfl)); intro gb257 hg w38 hbox hb; have n0_ := AX (below_step bw hb); have n1_ := AX (hbox); have n2_ := AX ((by rw [hg]; exact (below_size bw) : w.heap.size ≤ gb257)); have n3_ := AX ((by rw [hg]; exact (below_size bw) : w.heap.size ≤ gb257)); clear HB; have HB := n0_; have BK257 := n1_; have GW257 := n2_; have GE257 := n3_; clear n0_ n1_ n2_ n3_; clear hb hbox hg) | ((with_reducible refine gate_callee (f := 15) rfl ?_); refine goesL_ (some 13) rfl rfl Try.func15 (by kernel_rfl) rfl #[] rfl (by (try simp only [List.map_toArray, List.map_cons, List.map_nil]); first | done | rfl | (simp only [List.length_drop, List.length_take]; rfl)) ?_; (with_reducible refine (pylonlaw14_awake.calls k  false _ A3.out).mono ?_); rintro e w39 ⟨rfl, hb⟩; refine ⟨_, rfl, ?_⟩; have n0_ := AX (bkb BK257 hb); have n1_ := AX (below_step bw hb); clear BK257; clear HB; have BK257 := n0_; have HB := n1_; clear n0_ n1_; (try clear hb)))
  go_ret
  exact ⟨by first | rfl | (simp [errW_none, errW_some] <;> rfl) | (simp [*, errW_none, errW_some] <;> rfl), bw⟩

end Go.Proofs.Ytkggjjggcbcdiaa.PX
