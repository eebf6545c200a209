/- Functions of the program as plain Lean functions, each with a proof that the call in the machine answers just what the plain function says; condition: the plain function answers at all. -/
import Derived.Test.YtegedhnbmclbkaaPXx0
import Derived.Test.YtegedhnbmclbkaaPXx1
import Derived.Test.YtegedhnbmclbkaaPXx9
import Derived.Test.YtegedhnbmclbkaaPXx11
import Derived.Test.YtegedhnbmclbkaaPXx12
namespace Go.Proofs.Ytegedhnbmclbkaa.PX
open Go.RowKit Go.Proofs.YtegedhnbmclbkaaW.PrintWords Go.Proofs.YtegedhnbmclbkaaW.PrintLast Go.Proofs.YtegedhnbmclbkaaW.PrintMore
attribute [local go_sem] max2_int min2_int max_two min_two max_three min_three max_four min_four   -- for this text's walks alone
set_option linter.unusedVariables false
set_option linter.unusedSimpArgs false

attribute [local go_sem high] eqA33
/-! ### pylonlaw05_wants: function 14 -/
def pylonlaw05_wants.f (k : Nat) (a0_0 : Int) (a0_1 : Int) (a0_2 : Int) (a0_3 : Int) (a0_4 : Int) (l0_5 : List (S25)) (a0_6 : Int) (a0_7 : Int) (a0_8 : Int) (a0_9 : Int) : Option (Int × Int × Int × (List (S33)) × Bool × Int) := if a0_0 = 1 then ((pylonref05_Check.f k a0_1 a0_2 a0_3 a0_4).bind fun t313 => (some (0, 0, 0, ([] : List (S33)), false, t313))) else (if a0_0 = 2 then ((pylonref05_Easter.f a0_6).bind fun bt314 => (some (bt314.1, bt314.2.1, bt314.2.2.1, ([] : List (S33)), false, bt314.2.2.2))) else (if a0_0 = 3 then ((pylonref05_On.f k a0_1 a0_2 a0_3 a0_4 a0_6).bind fun bt318 => (some (bt318.1, bt318.2.1, bt318.2.2.1, ([] : List (S33)), false, bt318.2.2.2))) else (if a0_0 = 4 then ((pylonref05_List.f k l0_5 a0_6).bind fun bt322 => (some (0, 0, 0, bt322.1, false, bt322.2))) else (if a0_0 = 5 then ((pylonref05_Is.f k l0_5 a0_7 a0_8 a0_9).bind fun bt326 => (some (0, 0, 0, ([] : List (S33)), bt326.1, bt326.2))) else (some (0, 0, 0, ([] : List (S33)), false, 0))))))
theorem pylonlaw05_wants.mono : ∀ a0 a1 a2 a3 a4 a5 a6 a7 a8 a9 k, LeO (pylonlaw05_wants.f k a0 a1 a2 a3 a4 a5 a6 a7 a8 a9) (pylonlaw05_wants.f (k + 1) a0 a1 a2 a3 a4 a5 a6 a7 a8 a9) := by
 intro a0 a1 a2 a3 a4 a5 a6 a7 a8 a9 k
 unfold pylonlaw05_wants.f
 repeat' first
   | (with_reducible exact pylonref05_Check.mono _ _ _ _ _)
   | (with_reducible exact pylonref05_Is.mono _ _ _ _ _)
   | (with_reducible exact pylonref05_List.mono _ _ _)
   | (with_reducible exact pylonref05_On.mono _ _ _ _ _ _)
   | (with_reducible exact LeO.refl _)
   | (with_reducible exact LeO.none _)
   | (with_reducible refine LeO.ite ?_ ?_)
   | (with_reducible refine LeO.bind ?_ (fun _ => ?_))
set_option maxHeartbeats 8000000 in
set_option maxRecDepth 100000 in
theorem pylonlaw05_wants.calls (k : Nat) (a0_0 : Int) (a0_1 : Int) (a0_2 : Int) (a0_3 : Int) (a0_4 : Int) (A0_5 : Option Addr) (c0_5 : Nat) (l0_5 : List (S25)) (a0_6 : Int) (a0_7 : Int) (a0_8 : Int) (a0_9 : Int) (r1 : Int) (r2 : Int) (r3 : Int) (r4 : List (S33)) (r5 : Bool) (r6 : Int) (w : World) (hr0_5 : Kd.C k25 w A0_5 l0_5.length l0_5) (hc0_5 : l0_5.length ≤ c0_5) (h : pylonlaw05_wants.f k a0_0 a0_1 a0_2 a0_3 a0_4 l0_5 a0_6 a0_7 a0_8 a0_9 = some (r1, r2, r3, r4, r5, r6)) :
  Calls Try.prog 14 #[.agg #[.int .i64 a0_0, .int .i64 a0_1, .int .i64 a0_2, .int .i64 a0_3, .int .i64 a0_4, .slice A0_5 l0_5.length c0_5, .int .i64 a0_6, .int .i64 a0_7, .int .i64 a0_8, .int .i64 a0_9]] w fun e w' => ∃ v3_ : Value, e = .returned (.agg #[.int .i64 r1, .int .i64 r2, .int .i64 r3, v3_, .bool r5, .int .i64 r6]) ∧ Kd.R k33 33 w' w.heap.size (fun _ => True) v3_ r4 ∧ Below w.heap.size w w' := by
 have hu43 := Try.underlying43
 have hu40 := Try.underlying40
 have hu25 := Try.underlying25
 have hu33 := Try.underlying33
 have HR0_5 := AX hr0_5
 have HC0_5 := AX hc0_5
 clear hr0_5 hc0_5
 have HB := AX (Below.refl w.heap.size w)
 have H : (if a0_0 = 1 then ((pylonref05_Check.f k a0_1 a0_2 a0_3 a0_4).bind fun t313 => (some (0, 0, 0, ([] : List (S33)), false, t313))) else (if a0_0 = 2 then ((pylonref05_Easter.f a0_6).bind fun bt314 => (some (bt314.1, bt314.2.1, bt314.2.2.1, ([] : List (S33)), false, bt314.2.2.2))) else (if a0_0 = 3 then ((pylonref05_On.f k a0_1 a0_2 a0_3 a0_4 a0_6).bind fun bt318 => (some (bt318.1, bt318.2.1, bt318.2.2.1, ([] : List (S33)), false, bt318.2.2.2))) else (if a0_0 = 4 then ((pylonref05_List.f k l0_5 a0_6).bind fun bt322 => (some (0, 0, 0, bt322.1, false, bt322.2))) else (if a0_0 = 5 then ((pylonref05_Is.f k l0_5 a0_7 a0_8 a0_9).bind fun bt326 => (some (0, 0, 0, ([] : List (S33)), bt326.1, bt326.2))) else (some (0, 0, 0, ([] : List (S33)), false, 0))))))) = some (r1, r2, r3, r4, r5, r6) := h
 clear h
 by_cases c2 : a0_0 = 1
 ·rw [if_pos c2] at H
  have c2b0 : (a0_0 == 1) = true := beq_iff_eq.mpr c2
  have c2b1 : (a0_0 != 1) = false := bne_eq_false_iff_eq.mpr c2
  clear c2
  replace H := Option.bind_eq_some_iff.mp H
  obtain ⟨t313, A30, H⟩ := H
  replace H : (some (0, 0, 0, ([] : List (S33)), false, t313)) = some (r1, r2, r3, r4, r5, r6) := H
  have A3 := AX A30
  clear A30
  simp only [Option.some.injEq, Prod.mk.injEq] at H
  obtain ⟨rfl, rfl, rfl, rfl, rfl, rfl⟩ := H
  go_enter Try.func14, Try.ntmps14
  go_wp2_with (first | ((with_reducible refine gate_dst (N := 1) rfl ?_); refine bx 1 #[.int .i64 a0_0, .int .i64 a0_1, .int .i64 a0_2, .int .i64 a0_3, .int .i64 a0_4, .slice A0_5 l0_5.length c0_5, .int .i64 a0_6, .int .i64 a0_7, .int .i64 a0_8, .int .i64 a0_9] 43 ?_; intro gb310 hg w4 hbox hb; have BK310 := AX (hbox); have GW310 := gwl (w := w) hg bw; have GE310 := GW310; replace HB := AX (below_step bw hb); clear hb hbox hg) | ((with_reducible refine gate_dst (N := 2) rfl ?_); refine bx 2 #[.int .i64 0, .int .i64 0, .int .i64 0, .slice none 0 0, .bool false, .int .i64 0] 40 ?_; intro gb311 hg w5 hbox hb; have BK311 := AX (hbox); have GW311 := gwl (w := w) hg bw; have GE311 := GW311; have NB310_311 := nbl hg (bkn BK310); have NB311_310 := nbg hg (bkn BK310); replace BK310 := AX (bkb BK310 hb); replace HB := AX (below_step bw hb); clear hb hbox hg) | ((with_reducible refine gate_dst (N := 3) rfl ?_); refine bx 3 #[.int .i64 0, .int .i64 0, .int .i64 0, .slice none 0 0, .bool false, .int .i64 0] 40 ?_; intro gb312 hg w6 hbox hb; have BK312 := AX (hbox); have GW312 := gwl (w := w) hg bw; have GE312 := GW312; have NB310_312 := nbl hg (bkn BK310); have NB312_310 := nbg hg (bkn BK310); have NB311_312 := nbl hg (bkn BK311); have NB312_311 := nbg hg (bkn BK311); replace BK310 := AX (bkb BK310 hb); replace BK311 := AX (bkb BK311 hb); replace HB := AX (below_step bw hb); clear hb hbox hg; have hnb7 := NB310_311.out; have hnc7 := NB311_310.out; have hnb8 := NB310_312.out; have hnc8 := NB312_310.out; obtain ⟨hcz9_0, hcz9_1, hcz9_2, hcz9_3, hcz9_4, hcz9_5, hcz9_6, hcz9_7, hcz9_8, hcz9_9⟩ := blkC10 (w := w6) BK310.out; obtain ⟨hfz9_0, hfz9_1, hfz9_2, hfz9_3, hfz9_4, hfz9_5, hfz9_6, hfz9_7, hfz9_8, hfz9_9⟩ := blkF10 BK310.out) | ((with_reducible refine gate_callee (f := 15) rfl ?_); refine gL (some 10) Try.func15 #[.agg #[.int .i64 a0_1, .int .i64 a0_2, .int .i64 a0_3, .int .i64 a0_4]] ?_; (with_reducible refine (pylonref05_Check.calls k a0_1 a0_2 a0_3 a0_4 t313 _ A3.out).mono ?_); rintro e w10 ⟨rfl, hb⟩; refine ⟨_, rfl, ?_⟩; replace BK310 := AX (bkb BK310 hb); replace BK311 := AX (bkb BK311 hb); replace BK312 := AX (bkb BK312 hb); replace HB := AX (below_step bw hb); (try clear hb); have hnb11 := NB312_311.out; have hnc11 := NB311_312.out; obtain ⟨hcz12_0, hcz12_1, hcz12_2, hcz12_3, hcz12_4, hcz12_5⟩ := blkC6 (w := w10) BK312.out; obtain ⟨hfz12_0, hfz12_1, hfz12_2, hfz12_3, hfz12_4, hfz12_5⟩ := blkF6 BK312.out; obtain ⟨hcz13_0, hcz13_1, hcz13_2, hcz13_3, hcz13_4, hcz13_5⟩ := blkC6 (w := w10) BK311.out; obtain ⟨hfz13_0, hfz13_1, hfz13_2, hfz13_3, hfz13_4, hfz13_5⟩ := blkF6 BK311.out))
  refine bodyPost_ret (results_cell_row rfl _ _ gb311 40 #[.int .i64 0, .int .i64 0, .int .i64 0, .slice none 0 0, .bool false, .int .i64 t313] (0, 0) _ rfl (by (with_reducible repeat first|refine blk_drewN ?_ _|refine blk_drew ?_|refine blk_alloc ?_ _); refine blk_put (cs := #[.int .i64 0, .int .i64 0, .int .i64 0, .slice none 0 0, .bool false, .int .i64 0]) ?_ 5 _ rfl; (with_reducible repeat first|refine blk_drewN ?_ _|refine blk_drew ?_|refine blk_alloc ?_ _); refine blk_put (cs := #[.int .i64 0, .int .i64 0, .int .i64 0, .slice none 0 0, .bool false, .int .i64 0]) ?_ 4 _ rfl; (with_reducible repeat first|refine blk_drewN ?_ _|refine blk_drew ?_|refine blk_alloc ?_ _); refine blk_put (cs := #[.int .i64 0, .int .i64 0, .int .i64 0, .slice none 0 0, .bool false, .int .i64 0]) ?_ 3 _ rfl; (with_reducible repeat first|refine blk_drewN ?_ _|refine blk_drew ?_|refine blk_alloc ?_ _); refine blk_put (cs := #[.int .i64 0, .int .i64 0, .int .i64 0, .slice none 0 0, .bool false, .int .i64 0]) ?_ 2 _ rfl; (with_reducible repeat first|refine blk_drewN ?_ _|refine blk_drew ?_|refine blk_alloc ?_ _); refine blk_put (cs := #[.int .i64 0, .int .i64 0, .int .i64 0, .slice none 0 0, .bool false, .int .i64 0]) ?_ 1 _ rfl; (with_reducible repeat first|refine blk_drewN ?_ _|refine blk_drew ?_|refine blk_alloc ?_ _); refine blk_put (cs := #[.int .i64 0, .int .i64 0, .int .i64 0, .slice none 0 0, .bool false, .int .i64 0]) ?_ 0 _ rfl; (with_reducible repeat first|refine blk_drewN ?_ _|refine blk_drew ?_|refine blk_alloc ?_ _); refine blk_far ?_ NB311_312.out _; (with_reducible repeat first|refine blk_drewN ?_ _|refine blk_drew ?_|refine blk_alloc ?_ _); exact BK311.out) Try.underlying40 rfl (by kernel_rfl)) rfl ?_
  exact ⟨_, by first | rfl | (simp [errW_none, errW_some] <;> rfl) | (simp [*, errW_none, errW_some] <;> rfl), by first | exact Kd.R_nil _ _ _ _ _ | exact Kd.N_nil _ _ _ _ _ | exact Kd.V_nil _ _ _ _ _ | exact Kd.Q_nil _ _ _ _ _ | exact Kd.S_nil _ _ _ _ _, bw⟩
 ·rw [if_neg c2] at H
  have c2b0 : (a0_0 == 1) = false := beq_eq_false_iff_ne.mpr c2
  have c2b1 : (a0_0 != 1) = true := bne_iff_ne.mpr c2
  by_cases c14 : a0_0 = 2
  ·rw [if_pos c14] at H
   have c14b0 : (a0_0 == 2) = true := beq_iff_eq.mpr c14
   have c14b1 : (a0_0 != 2) = false := bne_eq_false_iff_eq.mpr c14
   clear c14
   replace H := Option.bind_eq_some_iff.mp H
   obtain ⟨⟨t314, t315, t316, t317⟩, A150, H⟩ := H
   replace H : (some (t314, t315, t316, ([] : List (S33)), false, t317)) = some (r1, r2, r3, r4, r5, r6) := H
   have A15 := AX A150
   clear A150
   simp only [Option.some.injEq, Prod.mk.injEq] at H
   obtain ⟨rfl, rfl, rfl, rfl, rfl, rfl⟩ := H
   go_enter Try.func14, Try.ntmps14
   go_wp2_with (first | ((with_reducible refine gate_dst (N := 1) rfl ?_); refine bx 1 #[.int .i64 a0_0, .int .i64 a0_1, .int .i64 a0_2, .int .i64 a0_3, .int .i64 a0_4, .slice A0_5 l0_5.length c0_5, .int .i64 a0_6, .int .i64 a0_7, .int .i64 a0_8, .int .i64 a0_9] 43 ?_; intro gb310 hg w16 hbox hb; have BK310 := AX (hbox); have GW310 := gwl (w := w) hg bw; have GE310 := GW310; replace HB := AX (below_step bw hb); clear hb hbox hg) | ((with_reducible refine gate_dst (N := 2) rfl ?_); refine bx 2 #[.int .i64 0, .int .i64 0, .int .i64 0, .slice none 0 0, .bool false, .int .i64 0] 40 ?_; intro gb311 hg w17 hbox hb; have BK311 := AX (hbox); have GW311 := gwl (w := w) hg bw; have GE311 := GW311; have NB310_311 := nbl hg (bkn BK310); have NB311_310 := nbg hg (bkn BK310); replace BK310 := AX (bkb BK310 hb); replace HB := AX (below_step bw hb); clear hb hbox hg) | ((with_reducible refine gate_dst (N := 3) rfl ?_); refine bx 3 #[.int .i64 0, .int .i64 0, .int .i64 0, .slice none 0 0, .bool false, .int .i64 0] 40 ?_; intro gb312 hg w18 hbox hb; have BK312 := AX (hbox); have GW312 := gwl (w := w) hg bw; have GE312 := GW312; have NB310_312 := nbl hg (bkn BK310); have NB312_310 := nbg hg (bkn BK310); have NB311_312 := nbl hg (bkn BK311); have NB312_311 := nbg hg (bkn BK311); replace BK310 := AX (bkb BK310 hb); replace BK311 := AX (bkb BK311 hb); replace HB := AX (below_step bw hb); clear hb hbox hg; have hnb19 := NB310_311.out; have hnc19 := NB311_310.out; have hnb20 := NB310_312.out; have hnc20 := NB312_310.out; obtain ⟨hcz21_0, hcz21_1, hcz21_2, hcz21_3, hcz21_4, hcz21_5, hcz21_6, hcz21_7, hcz21_8, hcz21_9⟩ := blkC10 (w := w18) BK310.out; obtain ⟨hfz21_0, hfz21_1, hfz21_2, hfz21_3, hfz21_4, hfz21_5, hfz21_6, hfz21_7, hfz21_8, hfz21_9⟩ := blkF10 BK310.out) | ((with_reducible refine gate_callee (f := 28) rfl ?_); refine gL (some 17) Try.func28 #[.int .i64 a0_6] ?_; (with_reducible refine (pylonref05_Easter.calls a0_6 t314 t315 t316 t317 _ A15.out).mono ?_); rintro e w22 ⟨rfl, hb⟩; refine ⟨_, rfl, ?_⟩; replace BK310 := AX (bkb BK310 hb); replace BK311 := AX (bkb BK311 hb); replace BK312 := AX (bkb BK312 hb); replace HB := AX (below_step bw hb); (try clear hb); have hnb23 := NB312_311.out; have hnc23 := NB311_312.out; obtain ⟨hcz24_0, hcz24_1, hcz24_2, hcz24_3, hcz24_4, hcz24_5⟩ := blkC6 (w := w22) BK312.out; obtain ⟨hfz24_0, hfz24_1, hfz24_2, hfz24_3, hfz24_4, hfz24_5⟩ := blkF6 BK312.out; obtain ⟨hcz25_0, hcz25_1, hcz25_2, hcz25_3, hcz25_4, hcz25_5⟩ := blkC6 (w := w22) BK311.out; obtain ⟨hfz25_0, hfz25_1, hfz25_2, hfz25_3, hfz25_4, hfz25_5⟩ := blkF6 BK311.out))
   refine bodyPost_ret (results_cell_row rfl _ _ gb311 40 #[.int .i64 t314, .int .i64 t315, .int .i64 t316, .slice none 0 0, .bool false, .int .i64 t317] (0, 0) _ rfl (by (with_reducible repeat first|refine blk_drewN ?_ _|refine blk_drew ?_|refine blk_alloc ?_ _); refine blk_put (cs := #[.int .i64 t314, .int .i64 t315, .int .i64 t316, .slice none 0 0, .bool false, .int .i64 0]) ?_ 5 _ rfl; (with_reducible repeat first|refine blk_drewN ?_ _|refine blk_drew ?_|refine blk_alloc ?_ _); refine blk_put (cs := #[.int .i64 t314, .int .i64 t315, .int .i64 t316, .slice none 0 0, .bool false, .int .i64 0]) ?_ 4 _ rfl; (with_reducible repeat first|refine blk_drewN ?_ _|refine blk_drew ?_|refine blk_alloc ?_ _); refine blk_put (cs := #[.int .i64 t314, .int .i64 t315, .int .i64 t316, .slice none 0 0, .bool false, .int .i64 0]) ?_ 3 _ rfl; (with_reducible repeat first|refine blk_drewN ?_ _|refine blk_drew ?_|refine blk_alloc ?_ _); refine blk_put (cs := #[.int .i64 t314, .int .i64 t315, .int .i64 0, .slice none 0 0, .bool false, .int .i64 0]) ?_ 2 _ rfl; (with_reducible repeat first|refine blk_drewN ?_ _|refine blk_drew ?_|refine blk_alloc ?_ _); refine blk_put (cs := #[.int .i64 t314, .int .i64 0, .int .i64 0, .slice none 0 0, .bool false, .int .i64 0]) ?_ 1 _ rfl; (with_reducible repeat first|refine blk_drewN ?_ _|refine blk_drew ?_|refine blk_alloc ?_ _); refine blk_put (cs := #[.int .i64 0, .int .i64 0, .int .i64 0, .slice none 0 0, .bool false, .int .i64 0]) ?_ 0 _ rfl; (with_reducible repeat first|refine blk_drewN ?_ _|refine blk_drew ?_|refine blk_alloc ?_ _); refine blk_far ?_ NB311_312.out _; (with_reducible repeat first|refine blk_drewN ?_ _|refine blk_drew ?_|refine blk_alloc ?_ _); refine blk_far ?_ NB311_312.out _; (with_reducible repeat first|refine blk_drewN ?_ _|refine blk_drew ?_|refine blk_alloc ?_ _); refine blk_far ?_ NB311_312.out _; (with_reducible repeat first|refine blk_drewN ?_ _|refine blk_drew ?_|refine blk_alloc ?_ _); refine blk_far ?_ NB311_312.out _; (with_reducible repeat first|refine blk_drewN ?_ _|refine blk_drew ?_|refine blk_alloc ?_ _); exact BK311.out) Try.underlying40 rfl (by kernel_rfl)) rfl ?_
   exact ⟨_, by first | rfl | (simp [errW_none, errW_some] <;> rfl) | (simp [*, errW_none, errW_some] <;> rfl), by first | exact Kd.R_nil _ _ _ _ _ | exact Kd.N_nil _ _ _ _ _ | exact Kd.V_nil _ _ _ _ _ | exact Kd.Q_nil _ _ _ _ _ | exact Kd.S_nil _ _ _ _ _, bw⟩
  ·rw [if_neg c14] at H
   have c14b0 : (a0_0 == 2) = false := beq_eq_false_iff_ne.mpr c14
   have c14b1 : (a0_0 != 2) = true := bne_iff_ne.mpr c14
   by_cases c26 : a0_0 = 3
   ·rw [if_pos c26] at H
    have c26b0 : (a0_0 == 3) = true := beq_iff_eq.mpr c26
    have c26b1 : (a0_0 != 3) = false := bne_eq_false_iff_eq.mpr c26
    clear c26
    replace H := Option.bind_eq_some_iff.mp H
    obtain ⟨⟨t318, t319, t320, t321⟩, A270, H⟩ := H
    replace H : (some (t318, t319, t320, ([] : List (S33)), false, t321)) = some (r1, r2, r3, r4, r5, r6) := H
    have A27 := AX A270
    clear A270
    simp only [Option.some.injEq, Prod.mk.injEq] at H
    obtain ⟨rfl, rfl, rfl, rfl, rfl, rfl⟩ := H
    go_enter Try.func14, Try.ntmps14
    go_wp2_with (first | ((with_reducible refine gate_dst (N := 1) rfl ?_); refine bx 1 #[.int .i64 a0_0, .int .i64 a0_1, .int .i64 a0_2, .int .i64 a0_3, .int .i64 a0_4, .slice A0_5 l0_5.length c0_5, .int .i64 a0_6, .int .i64 a0_7, .int .i64 a0_8, .int .i64 a0_9] 43 ?_; intro gb310 hg w28 hbox hb; have BK310 := AX (hbox); have GW310 := gwl (w := w) hg bw; have GE310 := GW310; replace HB := AX (below_step bw hb); clear hb hbox hg) | ((with_reducible refine gate_dst (N := 2) rfl ?_); refine bx 2 #[.int .i64 0, .int .i64 0, .int .i64 0, .slice none 0 0, .bool false, .int .i64 0] 40 ?_; intro gb311 hg w29 hbox hb; have BK311 := AX (hbox); have GW311 := gwl (w := w) hg bw; have GE311 := GW311; have NB310_311 := nbl hg (bkn BK310); have NB311_310 := nbg hg (bkn BK310); replace BK310 := AX (bkb BK310 hb); replace HB := AX (below_step bw hb); clear hb hbox hg) | ((with_reducible refine gate_dst (N := 3) rfl ?_); refine bx 3 #[.int .i64 0, .int .i64 0, .int .i64 0, .slice none 0 0, .bool false, .int .i64 0] 40 ?_; intro gb312 hg w30 hbox hb; have BK312 := AX (hbox); have GW312 := gwl (w := w) hg bw; have GE312 := GW312; have NB310_312 := nbl hg (bkn BK310); have NB312_310 := nbg hg (bkn BK310); have NB311_312 := nbl hg (bkn BK311); have NB312_311 := nbg hg (bkn BK311); replace BK310 := AX (bkb BK310 hb); replace BK311 := AX (bkb BK311 hb); replace HB := AX (below_step bw hb); clear hb hbox hg; have hnb31 := NB310_311.out; have hnc31 := NB311_310.out; have hnb32 := NB310_312.out; have hnc32 := NB312_310.out; obtain ⟨hcz33_0, hcz33_1, hcz33_2, hcz33_3, hcz33_4, hcz33_5, hcz33_6, hcz33_7, hcz33_8, hcz33_9⟩ := blkC10 (w := w30) BK310.out; obtain ⟨hfz33_0, hfz33_1, hfz33_2, hfz33_3, hfz33_4, hfz33_5, hfz33_6, hfz33_7, hfz33_8, hfz33_9⟩ := blkF10 BK310.out) | ((with_reducible refine gate_callee (f := 29) rfl ?_); refine gL (some 29) Try.func29 #[.agg #[.int .i64 a0_1, .int .i64 a0_2, .int .i64 a0_3, .int .i64 a0_4], .int .i64 a0_6] ?_; (with_reducible refine (pylonref05_On.calls k a0_1 a0_2 a0_3 a0_4 a0_6 t318 t319 t320 t321 _ A27.out).mono ?_); rintro e w34 ⟨rfl, hb⟩; refine ⟨_, rfl, ?_⟩; replace BK310 := AX (bkb BK310 hb); replace BK311 := AX (bkb BK311 hb); replace BK312 := AX (bkb BK312 hb); replace HB := AX (below_step bw hb); (try clear hb); have hnb35 := NB312_311.out; have hnc35 := NB311_312.out; obtain ⟨hcz36_0, hcz36_1, hcz36_2, hcz36_3, hcz36_4, hcz36_5⟩ := blkC6 (w := w34) BK312.out; obtain ⟨hfz36_0, hfz36_1, hfz36_2, hfz36_3, hfz36_4, hfz36_5⟩ := blkF6 BK312.out; obtain ⟨hcz37_0, hcz37_1, hcz37_2, hcz37_3, hcz37_4, hcz37_5⟩ := blkC6 (w := w34) BK311.out; obtain ⟨hfz37_0, hfz37_1, hfz37_2, hfz37_3, hfz37_4, hfz37_5⟩ := blkF6 BK311.out))
    refine bodyPost_ret (results_cell_row rfl _ _ gb311 40 #[.int .i64 t318, .int .i64 t319, .int .i64 t320, .slice none 0 0, .bool false, .int .i64 t321] (0, 0) _ rfl (by (with_reducible repeat first|refine blk_drewN ?_ _|refine blk_drew ?_|refine blk_alloc ?_ _); refine blk_put (cs := #[.int .i64 t318, .int .i64 t319, .int .i64 t320, .slice none 0 0, .bool false, .int .i64 0]) ?_ 5 _ rfl; (with_reducible repeat first|refine blk_drewN ?_ _|refine blk_drew ?_|refine blk_alloc ?_ _); refine blk_put (cs := #[.int .i64 t318, .int .i64 t319, .int .i64 t320, .slice none 0 0, .bool false, .int .i64 0]) ?_ 4 _ rfl; (with_reducible repeat first|refine blk_drewN ?_ _|refine blk_drew ?_|refine blk_alloc ?_ _); refine blk_put (cs := #[.int .i64 t318, .int .i64 t319, .int .i64 t320, .slice none 0 0, .bool false, .int .i64 0]) ?_ 3 _ rfl; (with_reducible repeat first|refine blk_drewN ?_ _|refine blk_drew ?_|refine blk_alloc ?_ _); refine blk_put (cs := #[.int .i64 t318, .int .i64 t319, .int .i64 0, .slice none 0 0, .bool false, .int .i64 0]) ?_ 2 _ rfl; (with_reducible repeat first|refine blk_drewN ?_ _|refine blk_drew ?_|refine blk_alloc ?_ _); refine blk_put (cs := #[.int .i64 t318, .int .i64 0, .int .i64 0, .slice none 0 0, .bool false, .int .i64 0]) ?_ 1 _ rfl; (with_reducible repeat first|refine blk_drewN ?_ _|refine blk_drew ?_|refine blk_alloc ?_ _); refine blk_put (cs := #[.int .i64 0, .int .i64 0, .int .i64 0, .slice none 0 0, .bool false, .int .i64 0]) ?_ 0 _ rfl; (with_reducible repeat first|refine blk_drewN ?_ _|refine blk_drew ?_|refine blk_alloc ?_ _); refine blk_far ?_ NB311_312.out _; (with_reducible repeat first|refine blk_drewN ?_ _|refine blk_drew ?_|refine blk_alloc ?_ _); refine blk_far ?_ NB311_312.out _; (with_reducible repeat first|refine blk_drewN ?_ _|refine blk_drew ?_|refine blk_alloc ?_ _); refine blk_far ?_ NB311_312.out _; (with_reducible repeat first|refine blk_drewN ?_ _|refine blk_drew ?_|refine blk_alloc ?_ _); refine blk_far ?_ NB311_312.out _; (with_reducible repeat first|refine blk_drewN ?_ _|refine blk_drew ?_|refine blk_alloc ?_ _); exact BK311.out) Try.underlying40 rfl (by kernel_rfl)) rfl ?_
    exact ⟨_, by first | rfl | (simp [errW_none, errW_some] <;> rfl) | (simp [*, errW_none, errW_some] <;> rfl), by first | exact Kd.R_nil _ _ _ _ _ | exact Kd.N_nil _ _ _ _ _ | exact Kd.V_nil _ _ _ _ _ | exact Kd.Q_nil _ _ _ _ _ | exact Kd.S_nil _ _ _ _ _, bw⟩
   ·rw [if_neg c26] at H
    have c26b0 : (a0_0 == 3) = false := beq_eq_false_iff_ne.mpr c26
    have c26b1 : (a0_0 != 3) = true := bne_iff_ne.mpr c26
    by_cases c38 : a0_0 = 4
    ·rw [if_pos c38] at H
     have c38b0 : (a0_0 == 4) = true := beq_iff_eq.mpr c38
     have c38b1 : (a0_0 != 4) = false := bne_eq_false_iff_eq.mpr c38
     clear c38
     replace H := Option.bind_eq_some_iff.mp H
     obtain ⟨⟨t322, t323⟩, A390, H⟩ := H
     replace H : (some (0, 0, 0, t322, false, t323)) = some (r1, r2, r3, r4, r5, r6) := H
     have A39 := AX A390
     clear A390
     simp only [Option.some.injEq, Prod.mk.injEq] at H
     obtain ⟨rfl, rfl, rfl, rfl, rfl, rfl⟩ := H
     go_enter Try.func14, Try.ntmps14
     go_wp2_with (first | ((with_reducible refine gate_dst (N := 1) rfl ?_); refine bx 1 #[.int .i64 a0_0, .int .i64 a0_1, .int .i64 a0_2, .int .i64 a0_3, .int .i64 a0_4, .slice A0_5 l0_5.length c0_5, .int .i64 a0_6, .int .i64 a0_7, .int .i64 a0_8, .int .i64 a0_9] 43 ?_; intro gb310 hg w40 hbox hb; have BK310 := AX (hbox); have GW310 := gwl (w := w) hg bw; have GE310 := GW310; replace HB := AX (below_step bw hb); clear hb hbox hg) | ((with_reducible refine gate_dst (N := 2) rfl ?_); refine bx 2 #[.int .i64 0, .int .i64 0, .int .i64 0, .slice none 0 0, .bool false, .int .i64 0] 40 ?_; intro gb311 hg w41 hbox hb; have BK311 := AX (hbox); have GW311 := gwl (w := w) hg bw; have GE311 := GW311; have NB310_311 := nbl hg (bkn BK310); have NB311_310 := nbg hg (bkn BK310); replace BK310 := AX (bkb BK310 hb); replace HB := AX (below_step bw hb); clear hb hbox hg) | ((with_reducible refine gate_dst (N := 3) rfl ?_); refine bx 3 #[.int .i64 0, .int .i64 0, .int .i64 0, .slice none 0 0, .bool false, .int .i64 0] 40 ?_; intro gb312 hg w42 hbox hb; have BK312 := AX (hbox); have GW312 := gwl (w := w) hg bw; have GE312 := GW312; have NB310_312 := nbl hg (bkn BK310); have NB312_310 := nbg hg (bkn BK310); have NB311_312 := nbl hg (bkn BK311); have NB312_311 := nbg hg (bkn BK311); replace BK310 := AX (bkb BK310 hb); replace BK311 := AX (bkb BK311 hb); replace HB := AX (below_step bw hb); clear hb hbox hg; have hnb43 := NB310_311.out; have hnc43 := NB311_310.out; have hnb44 := NB310_312.out; have hnc44 := NB312_310.out; obtain ⟨hcz45_0, hcz45_1, hcz45_2, hcz45_3, hcz45_4, hcz45_5, hcz45_6, hcz45_7, hcz45_8, hcz45_9⟩ := blkC10 (w := w42) BK310.out; obtain ⟨hfz45_0, hfz45_1, hfz45_2, hfz45_3, hfz45_4, hfz45_5, hfz45_6, hfz45_7, hfz45_8, hfz45_9⟩ := blkF10 BK310.out) | ((with_reducible refine gate_callee (f := 20) rfl ?_); refine gL (some 41) Try.func20 #[.slice A0_5 l0_5.length c0_5, .int .i64 a0_6] ?_; (with_reducible refine (pylonref05_List.calls k _ _ l0_5 a0_6 t322 t323 _ ?side1 ?side2 A39.out).mono ?_); (case side1 => repeat (first | exact (Kd.C_below HR0_5.out HB.out) | (with_reducible refine Kd.C_alloc ?_ _) | (with_reducible refine Kd.C_drewN ?_ _) | (with_reducible refine Kd.C_drew ?_))); (case side2 => exact HC0_5.out); rintro e w46 ⟨v324, rfl, ho0, hb⟩; refine ⟨_, rfl, ?_⟩; have HO325 := AX (Kd.R_lower ho0 (below_size bw)); replace BK310 := AX (bkb BK310 hb); replace BK311 := AX (bkb BK311 hb); replace BK312 := AX (bkb BK312 hb); replace HB := AX (below_step bw hb); (try clear hb); (try clear hb2); (try clear hk); (try clear hi); (try clear ho0); obtain ⟨Ao47, co47, eo47⟩ := Kd.R_slice HO325.out; subst eo47; have hnb48 := NB312_311.out; have hnc48 := NB311_312.out; obtain ⟨hcz49_0, hcz49_1, hcz49_2, hcz49_3, hcz49_4, hcz49_5⟩ := blkC6 (w := w46) BK312.out; obtain ⟨hfz49_0, hfz49_1, hfz49_2, hfz49_3, hfz49_4, hfz49_5⟩ := blkF6 BK312.out; obtain ⟨hcz50_0, hcz50_1, hcz50_2, hcz50_3, hcz50_4, hcz50_5⟩ := blkC6 (w := w46) BK311.out; obtain ⟨hfz50_0, hfz50_1, hfz50_2, hfz50_3, hfz50_4, hfz50_5⟩ := blkF6 BK311.out))
     refine bodyPost_ret (results_cell_row rfl _ _ gb311 40 #[.int .i64 0, .int .i64 0, .int .i64 0, .slice Ao47 t322.length co47, .bool false, .int .i64 t323] (0, 0) _ rfl (by (with_reducible repeat first|refine blk_drewN ?_ _|refine blk_drew ?_|refine blk_alloc ?_ _); refine blk_put (cs := #[.int .i64 0, .int .i64 0, .int .i64 0, .slice Ao47 t322.length co47, .bool false, .int .i64 0]) ?_ 5 _ rfl; (with_reducible repeat first|refine blk_drewN ?_ _|refine blk_drew ?_|refine blk_alloc ?_ _); refine blk_put (cs := #[.int .i64 0, .int .i64 0, .int .i64 0, .slice Ao47 t322.length co47, .bool false, .int .i64 0]) ?_ 4 _ rfl; (with_reducible repeat first|refine blk_drewN ?_ _|refine blk_drew ?_|refine blk_alloc ?_ _); refine blk_put (cs := #[.int .i64 0, .int .i64 0, .int .i64 0, .slice none 0 0, .bool false, .int .i64 0]) ?_ 3 _ rfl; (with_reducible repeat first|refine blk_drewN ?_ _|refine blk_drew ?_|refine blk_alloc ?_ _); refine blk_put (cs := #[.int .i64 0, .int .i64 0, .int .i64 0, .slice none 0 0, .bool false, .int .i64 0]) ?_ 2 _ rfl; (with_reducible repeat first|refine blk_drewN ?_ _|refine blk_drew ?_|refine blk_alloc ?_ _); refine blk_put (cs := #[.int .i64 0, .int .i64 0, .int .i64 0, .slice none 0 0, .bool false, .int .i64 0]) ?_ 1 _ rfl; (with_reducible repeat first|refine blk_drewN ?_ _|refine blk_drew ?_|refine blk_alloc ?_ _); refine blk_put (cs := #[.int .i64 0, .int .i64 0, .int .i64 0, .slice none 0 0, .bool false, .int .i64 0]) ?_ 0 _ rfl; (with_reducible repeat first|refine blk_drewN ?_ _|refine blk_drew ?_|refine blk_alloc ?_ _); refine blk_far ?_ NB311_312.out _; (with_reducible repeat first|refine blk_drewN ?_ _|refine blk_drew ?_|refine blk_alloc ?_ _); refine blk_far ?_ NB311_312.out _; (with_reducible repeat first|refine blk_drewN ?_ _|refine blk_drew ?_|refine blk_alloc ?_ _); exact BK311.out) Try.underlying40 rfl (by kernel_rfl)) rfl ?_
     exact ⟨_, by first | rfl | (simp [errW_none, errW_some] <;> rfl) | (simp [*, errW_none, errW_some] <;> rfl), by (with_reducible repeat (first | apply Kd.R_alloc | apply Kd.R_drewN | apply Kd.R_drew)); exact Kd.R_mono (Kd.R_far (p := ⟨gb311, 5, none⟩) (Kd.R_far (p := ⟨gb311, 4, none⟩) (Kd.R_far (p := ⟨gb311, 3, none⟩) (Kd.R_far (p := ⟨gb311, 2, none⟩) (Kd.R_far (p := ⟨gb311, 1, none⟩) (Kd.R_far (p := ⟨gb311, 0, none⟩) (Kd.R_far (p := ⟨gb312, 5, none⟩) (Kd.R_far (p := ⟨gb312, 3, none⟩) (Kd.R_types (Kd.R_types HO325.out BK312.out (by decide)) BK311.out (by decide)) (fun _ hk => hk.1.2) (.slice Ao47 t322.length co47)) (fun _ hk => hk.1.2) (.int .i64 t323)) (fun _ hk => hk.2) (.int .i64 0)) (fun _ hk => hk.2) (.int .i64 0)) (fun _ hk => hk.2) (.int .i64 0)) (fun _ hk => hk.2) (.slice Ao47 t322.length co47)) (fun _ hk => hk.2) (.bool false)) (fun _ hk => hk.2) (.int .i64 t323)) (fun _ hk => trivial), bw⟩
    ·rw [if_neg c38] at H
     have c38b0 : (a0_0 == 4) = false := beq_eq_false_iff_ne.mpr c38
     have c38b1 : (a0_0 != 4) = true := bne_iff_ne.mpr c38
     by_cases c51 : a0_0 = 5
     ·rw [if_pos c51] at H
      have c51b0 : (a0_0 == 5) = true := beq_iff_eq.mpr c51
      have c51b1 : (a0_0 != 5) = false := bne_eq_false_iff_eq.mpr c51
      clear c51
      replace H := Option.bind_eq_some_iff.mp H
      obtain ⟨⟨t326, t327⟩, A520, H⟩ := H
      replace H : (some (0, 0, 0, ([] : List (S33)), t326, t327)) = some (r1, r2, r3, r4, r5, r6) := H
      have A52 := AX A520
      clear A520
      simp only [Option.some.injEq, Prod.mk.injEq] at H
      obtain ⟨rfl, rfl, rfl, rfl, rfl, rfl⟩ := H
      go_enter Try.func14, Try.ntmps14
      go_wp2_with (first | ((with_reducible refine gate_dst (N := 1) rfl ?_); refine bx 1 #[.int .i64 a0_0, .int .i64 a0_1, .int .i64 a0_2, .int .i64 a0_3, .int .i64 a0_4, .slice A0_5 l0_5.length c0_5, .int .i64 a0_6, .int .i64 a0_7, .int .i64 a0_8, .int .i64 a0_9] 43 ?_; intro gb310 hg w53 hbox hb; have BK310 := AX (hbox); have GW310 := gwl (w := w) hg bw; have GE310 := GW310; replace HB := AX (below_step bw hb); clear hb hbox hg) | ((with_reducible refine gate_dst (N := 2) rfl ?_); refine bx 2 #[.int .i64 0, .int .i64 0, .int .i64 0, .slice none 0 0, .bool false, .int .i64 0] 40 ?_; intro gb311 hg w54 hbox hb; have BK311 := AX (hbox); have GW311 := gwl (w := w) hg bw; have GE311 := GW311; have NB310_311 := nbl hg (bkn BK310); have NB311_310 := nbg hg (bkn BK310); replace BK310 := AX (bkb BK310 hb); replace HB := AX (below_step bw hb); clear hb hbox hg) | ((with_reducible refine gate_dst (N := 3) rfl ?_); refine bx 3 #[.int .i64 0, .int .i64 0, .int .i64 0, .slice none 0 0, .bool false, .int .i64 0] 40 ?_; intro gb312 hg w55 hbox hb; have BK312 := AX (hbox); have GW312 := gwl (w := w) hg bw; have GE312 := GW312; have NB310_312 := nbl hg (bkn BK310); have NB312_310 := nbg hg (bkn BK310); have NB311_312 := nbl hg (bkn BK311); have NB312_311 := nbg hg (bkn BK311); replace BK310 := AX (bkb BK310 hb); replace BK311 := AX (bkb BK311 hb); replace HB := AX (below_step bw hb); clear hb hbox hg; have hnb56 := NB310_311.out; have hnc56 := NB311_310.out; have hnb57 := NB310_312.out; have hnc57 := NB312_310.out; obtain ⟨hcz58_0, hcz58_1, hcz58_2, hcz58_3, hcz58_4, hcz58_5, hcz58_6, hcz58_7, hcz58_8, hcz58_9⟩ := blkC10 (w := w55) BK310.out; obtain ⟨hfz58_0, hfz58_1, hfz58_2, hfz58_3, hfz58_4, hfz58_5, hfz58_6, hfz58_7, hfz58_8, hfz58_9⟩ := blkF10 BK310.out) | ((with_reducible refine gate_callee (f := 30) rfl ?_); refine gL (some 53) Try.func30 #[.slice A0_5 l0_5.length c0_5, .agg #[.int .i64 a0_7, .int .i64 a0_8, .int .i64 a0_9]] ?_; (with_reducible refine (pylonref05_Is.calls k _ _ l0_5 a0_7 a0_8 a0_9 t326 t327 _ ?side1 ?side2 A52.out).mono ?_); (case side1 => repeat (first | exact (Kd.C_below HR0_5.out HB.out) | (with_reducible refine Kd.C_alloc ?_ _) | (with_reducible refine Kd.C_drewN ?_ _) | (with_reducible refine Kd.C_drew ?_))); (case side2 => exact HC0_5.out); rintro e w59 ⟨rfl, hb⟩; refine ⟨_, rfl, ?_⟩; replace BK310 := AX (bkb BK310 hb); replace BK311 := AX (bkb BK311 hb); replace BK312 := AX (bkb BK312 hb); replace HB := AX (below_step bw hb); (try clear hb); (try clear hb2); (try clear hk); (try clear hi); have hnb60 := NB312_311.out; have hnc60 := NB311_312.out; obtain ⟨hcz61_0, hcz61_1, hcz61_2, hcz61_3, hcz61_4, hcz61_5⟩ := blkC6 (w := w59) BK312.out; obtain ⟨hfz61_0, hfz61_1, hfz61_2, hfz61_3, hfz61_4, hfz61_5⟩ := blkF6 BK312.out; obtain ⟨hcz62_0, hcz62_1, hcz62_2, hcz62_3, hcz62_4, hcz62_5⟩ := blkC6 (w := w59) BK311.out; obtain ⟨hfz62_0, hfz62_1, hfz62_2, hfz62_3, hfz62_4, hfz62_5⟩ := blkF6 BK311.out))
      refine bodyPost_ret (results_cell_row rfl _ _ gb311 40 #[.int .i64 0, .int .i64 0, .int .i64 0, .slice none 0 0, .bool t326, .int .i64 t327] (0, 0) _ rfl (by (with_reducible repeat first|refine blk_drewN ?_ _|refine blk_drew ?_|refine blk_alloc ?_ _); refine blk_put (cs := #[.int .i64 0, .int .i64 0, .int .i64 0, .slice none 0 0, .bool t326, .int .i64 0]) ?_ 5 _ rfl; (with_reducible repeat first|refine blk_drewN ?_ _|refine blk_drew ?_|refine blk_alloc ?_ _); refine blk_put (cs := #[.int .i64 0, .int .i64 0, .int .i64 0, .slice none 0 0, .bool false, .int .i64 0]) ?_ 4 _ rfl; (with_reducible repeat first|refine blk_drewN ?_ _|refine blk_drew ?_|refine blk_alloc ?_ _); refine blk_put (cs := #[.int .i64 0, .int .i64 0, .int .i64 0, .slice none 0 0, .bool false, .int .i64 0]) ?_ 3 _ rfl; (with_reducible repeat first|refine blk_drewN ?_ _|refine blk_drew ?_|refine blk_alloc ?_ _); refine blk_put (cs := #[.int .i64 0, .int .i64 0, .int .i64 0, .slice none 0 0, .bool false, .int .i64 0]) ?_ 2 _ rfl; (with_reducible repeat first|refine blk_drewN ?_ _|refine blk_drew ?_|refine blk_alloc ?_ _); refine blk_put (cs := #[.int .i64 0, .int .i64 0, .int .i64 0, .slice none 0 0, .bool false, .int .i64 0]) ?_ 1 _ rfl; (with_reducible repeat first|refine blk_drewN ?_ _|refine blk_drew ?_|refine blk_alloc ?_ _); refine blk_put (cs := #[.int .i64 0, .int .i64 0, .int .i64 0, .slice none 0 0, .bool false, .int .i64 0]) ?_ 0 _ rfl; (with_reducible repeat first|refine blk_drewN ?_ _|refine blk_drew ?_|refine blk_alloc ?_ _); refine blk_far ?_ NB311_312.out _; (with_reducible repeat first|refine blk_drewN ?_ _|refine blk_drew ?_|refine blk_alloc ?_ _); refine blk_far ?_ NB311_312.out _; (with_reducible repeat first|refine blk_drewN ?_ _|refine blk_drew ?_|refine blk_alloc ?_ _); exact BK311.out) Try.underlying40 rfl (by kernel_rfl)) rfl ?_
      exact ⟨_, by first | rfl | (simp [errW_none, errW_some] <;> rfl) | (simp [*, errW_none, errW_some] <;> rfl), by first | exact Kd.R_nil _ _ _ _ _ | exact Kd.N_nil _ _ _ _ _ | exact Kd.V_nil _ _ _ _ _ | exact Kd.Q_nil _ _ _ _ _ | exact Kd.S_nil _ _ _ _ _, bw⟩
     ·rw [if_neg c51] at H
      have c51b0 : (a0_0 == 5) = false := beq_eq_false_iff_ne.mpr c51
      have c51b1 : (a0_0 != 5) = true := bne_iff_ne.mpr c51
      simp only [Option.some.injEq, Prod.mk.injEq] at H
      obtain ⟨rfl, rfl, rfl, rfl, rfl, rfl⟩ := H
      go_enter Try.func14, Try.ntmps14
      go_wp2_with (first | ((with_reducible refine gate_dst (N := 1) rfl ?_); refine bx 1 #[.int .i64 a0_0, .int .i64 a0_1, .int .i64 a0_2, .int .i64 a0_3, .int .i64 a0_4, .slice A0_5 l0_5.length c0_5, .int .i64 a0_6, .int .i64 a0_7, .int .i64 a0_8, .int .i64 a0_9] 43 ?_; intro gb310 hg w63 hbox hb; have BK310 := AX (hbox); have GW310 := gwl (w := w) hg bw; have GE310 := GW310; replace HB := AX (below_step bw hb); clear hb hbox hg) | ((with_reducible refine gate_dst (N := 2) rfl ?_); refine bx 2 #[.int .i64 0, .int .i64 0, .int .i64 0, .slice none 0 0, .bool false, .int .i64 0] 40 ?_; intro gb311 hg w64 hbox hb; have BK311 := AX (hbox); have GW311 := gwl (w := w) hg bw; have GE311 := GW311; have NB310_311 := nbl hg (bkn BK310); have NB311_310 := nbg hg (bkn BK310); replace BK310 := AX (bkb BK310 hb); replace HB := AX (below_step bw hb); clear hb hbox hg) | ((with_reducible refine gate_dst (N := 3) rfl ?_); refine bx 3 #[.int .i64 0, .int .i64 0, .int .i64 0, .slice none 0 0, .bool false, .int .i64 0] 40 ?_; intro gb312 hg w65 hbox hb; have BK312 := AX (hbox); have GW312 := gwl (w := w) hg bw; have GE312 := GW312; have NB310_312 := nbl hg (bkn BK310); have NB312_310 := nbg hg (bkn BK310); have NB311_312 := nbl hg (bkn BK311); have NB312_311 := nbg hg (bkn BK311); replace BK310 := AX (bkb BK310 hb); replace BK311 := AX (bkb BK311 hb); replace HB := AX (below_step bw hb); clear hb hbox hg; have hnb66 := NB310_311.out; have hnc66 := NB311_310.out; have hnb67 := NB310_312.out; have hnc67 := NB312_310.out; obtain ⟨hcz68_0, hcz68_1, hcz68_2, hcz68_3, hcz68_4, hcz68_5, hcz68_6, hcz68_7, hcz68_8, hcz68_9⟩ := blkC10 (w := w65) BK310.out; obtain ⟨hfz68_0, hfz68_1, hfz68_2, hfz68_3, hfz68_4, hfz68_5, hfz68_6, hfz68_7, hfz68_8, hfz68_9⟩ := blkF10 BK310.out; have hnb69 := NB312_311.out; have hnc69 := NB311_312.out; obtain ⟨hcz70_0, hcz70_1, hcz70_2, hcz70_3, hcz70_4, hcz70_5⟩ := blkC6 (w := w65) BK312.out; obtain ⟨hfz70_0, hfz70_1, hfz70_2, hfz70_3, hfz70_4, hfz70_5⟩ := blkF6 BK312.out; obtain ⟨hcz71_0, hcz71_1, hcz71_2, hcz71_3, hcz71_4, hcz71_5⟩ := blkC6 (w := w65) BK311.out; obtain ⟨hfz71_0, hfz71_1, hfz71_2, hfz71_3, hfz71_4, hfz71_5⟩ := blkF6 BK311.out))
      refine bodyPost_ret (results_cell_row rfl _ _ gb311 40 #[.int .i64 0, .int .i64 0, .int .i64 0, .slice none 0 0, .bool false, .int .i64 0] (0, 0) _ rfl (by (with_reducible repeat first|refine blk_drewN ?_ _|refine blk_drew ?_|refine blk_alloc ?_ _); refine blk_put (cs := #[.int .i64 0, .int .i64 0, .int .i64 0, .slice none 0 0, .bool false, .int .i64 0]) ?_ 5 _ rfl; (with_reducible repeat first|refine blk_drewN ?_ _|refine blk_drew ?_|refine blk_alloc ?_ _); refine blk_put (cs := #[.int .i64 0, .int .i64 0, .int .i64 0, .slice none 0 0, .bool false, .int .i64 0]) ?_ 4 _ rfl; (with_reducible repeat first|refine blk_drewN ?_ _|refine blk_drew ?_|refine blk_alloc ?_ _); refine blk_put (cs := #[.int .i64 0, .int .i64 0, .int .i64 0, .slice none 0 0, .bool false, .int .i64 0]) ?_ 3 _ rfl; (with_reducible repeat first|refine blk_drewN ?_ _|refine blk_drew ?_|refine blk_alloc ?_ _); refine blk_put (cs := #[.int .i64 0, .int .i64 0, .int .i64 0, .slice none 0 0, .bool false, .int .i64 0]) ?_ 2 _ rfl; (with_reducible repeat first|refine blk_drewN ?_ _|refine blk_drew ?_|refine blk_alloc ?_ _); refine blk_put (cs := #[.int .i64 0, .int .i64 0, .int .i64 0, .slice none 0 0, .bool false, .int .i64 0]) ?_ 1 _ rfl; (with_reducible repeat first|refine blk_drewN ?_ _|refine blk_drew ?_|refine blk_alloc ?_ _); refine blk_put (cs := #[.int .i64 0, .int .i64 0, .int .i64 0, .slice none 0 0, .bool false, .int .i64 0]) ?_ 0 _ rfl; (with_reducible repeat first|refine blk_drewN ?_ _|refine blk_drew ?_|refine blk_alloc ?_ _); exact BK311.out) Try.underlying40 rfl (by kernel_rfl)) rfl ?_
      exact ⟨_, by first | rfl | (simp [errW_none, errW_some] <;> rfl) | (simp [*, errW_none, errW_some] <;> rfl), by first | exact Kd.R_nil _ _ _ _ _ | exact Kd.N_nil _ _ _ _ _ | exact Kd.V_nil _ _ _ _ _ | exact Kd.Q_nil _ _ _ _ _ | exact Kd.S_nil _ _ _ _ _, bw⟩

/-! ### pylonref03_Compare: function 16 -/
def pylonref03_Compare.f (a0_0 : Int) (a0_1 : Int) (a0_2 : Int) (a1_0 : Int) (a1_1 : Int) (a1_2 : Int) : Option (Int) := some (Civ.cmp a0_0 a0_1 a0_2 a1_0 a1_1 a1_2)
set_option maxRecDepth 100000 in
theorem pylonref03_Compare.lt0 (a0_0 a0_1 a0_2 a1_0 a1_1 a1_2 : Int) (w : World) (p0 : a0_0 < a1_0) :
    Calls Try.prog 16 #[.agg #[.int .i64 a0_0, .int .i64 a0_1, .int .i64 a0_2], .agg #[.int .i64 a1_0, .int .i64 a1_1, .int .i64 a1_2]] w fun e w' => e = .returned (.int .i64 (-1)) ∧ Below w.heap.size w w' := by
  go_enter Try.func16, Try.ntmps16
  go_wp2
  refine wp_loop_rounds 4 ?_
  rw [rounds_succ]
  go_wp2
  go_quiet (fail)
  go_wp2
  go_ret
  exact ⟨rfl, by repeat (first | exact Below.refl _ _ | apply below_alloc | apply pw_below_drewN | apply below_drew)⟩
set_option maxRecDepth 100000 in
theorem pylonref03_Compare.gt0 (a0_0 a0_1 a0_2 a1_0 a1_1 a1_2 : Int) (w : World) (p0 : ¬ a0_0 < a1_0) (q0 : a1_0 < a0_0) :
    Calls Try.prog 16 #[.agg #[.int .i64 a0_0, .int .i64 a0_1, .int .i64 a0_2], .agg #[.int .i64 a1_0, .int .i64 a1_1, .int .i64 a1_2]] w fun e w' => e = .returned (.int .i64 (1)) ∧ Below w.heap.size w w' := by
  go_enter Try.func16, Try.ntmps16
  go_wp2
  refine wp_loop_rounds 4 ?_
  rw [rounds_succ]
  go_wp2
  go_quiet (fail)
  go_wp2
  go_quiet (fail)
  go_wp2
  go_ret
  exact ⟨rfl, by repeat (first | exact Below.refl _ _ | apply below_alloc | apply pw_below_drewN | apply below_drew)⟩
set_option maxRecDepth 100000 in
theorem pylonref03_Compare.lt1 (a0_0 a0_1 a0_2 a1_0 a1_1 a1_2 : Int) (w : World) (p0 : ¬ a0_0 < a1_0) (q0 : ¬ a1_0 < a0_0) (p1 : a0_1 < a1_1) :
    Calls Try.prog 16 #[.agg #[.int .i64 a0_0, .int .i64 a0_1, .int .i64 a0_2], .agg #[.int .i64 a1_0, .int .i64 a1_1, .int .i64 a1_2]] w fun e w' => e = .returned (.int .i64 (-1)) ∧ Below w.heap.size w w' := by
  go_enter Try.func16, Try.ntmps16
  go_wp2
  refine wp_loop_rounds 4 ?_
  rw [rounds_succ]
  go_wp2
  go_quiet (fail)
  go_wp2
  go_quiet (fail)
  go_wp2
  rw [rounds_succ]
  go_wp2
  go_quiet (fail)
  go_wp2
  go_ret
  exact ⟨rfl, by repeat (first | exact Below.refl _ _ | apply below_alloc | apply pw_below_drewN | apply below_drew)⟩
set_option maxRecDepth 100000 in
theorem pylonref03_Compare.gt1 (a0_0 a0_1 a0_2 a1_0 a1_1 a1_2 : Int) (w : World) (p0 : ¬ a0_0 < a1_0) (q0 : ¬ a1_0 < a0_0) (p1 : ¬ a0_1 < a1_1) (q1 : a1_1 < a0_1) :
    Calls Try.prog 16 #[.agg #[.int .i64 a0_0, .int .i64 a0_1, .int .i64 a0_2], .agg #[.int .i64 a1_0, .int .i64 a1_1, .int .i64 a1_2]] w fun e w' => e = .returned (.int .i64 (1)) ∧ Below w.heap.size w w' := by
  go_enter Try.func16, Try.ntmps16
  go_wp2
  refine wp_loop_rounds 4 ?_
  rw [rounds_succ]
  go_wp2
  go_quiet (fail)
  go_wp2
  go_quiet (fail)
  go_wp2
  rw [rounds_succ]
  go_wp2
  go_quiet (fail)
  go_wp2
  go_quiet (fail)
  go_wp2
  go_ret
  exact ⟨rfl, by repeat (first | exact Below.refl _ _ | apply below_alloc | apply pw_below_drewN | apply below_drew)⟩
set_option maxRecDepth 100000 in
theorem pylonref03_Compare.lt2 (a0_0 a0_1 a0_2 a1_0 a1_1 a1_2 : Int) (w : World) (p0 : ¬ a0_0 < a1_0) (q0 : ¬ a1_0 < a0_0) (p1 : ¬ a0_1 < a1_1) (q1 : ¬ a1_1 < a0_1) (p2 : a0_2 < a1_2) :
    Calls Try.prog 16 #[.agg #[.int .i64 a0_0, .int .i64 a0_1, .int .i64 a0_2], .agg #[.int .i64 a1_0, .int .i64 a1_1, .int .i64 a1_2]] w fun e w' => e = .returned (.int .i64 (-1)) ∧ Below w.heap.size w w' := by
  go_enter Try.func16, Try.ntmps16
  go_wp2
  refine wp_loop_rounds 4 ?_
  rw [rounds_succ]
  go_wp2
  go_quiet (fail)
  go_wp2
  go_quiet (fail)
  go_wp2
  rw [rounds_succ]
  go_wp2
  go_quiet (fail)
  go_wp2
  go_quiet (fail)
  go_wp2
  rw [rounds_succ]
  go_wp2
  go_quiet (fail)
  go_wp2
  go_ret
  exact ⟨rfl, by repeat (first | exact Below.refl _ _ | apply below_alloc | apply pw_below_drewN | apply below_drew)⟩
set_option maxRecDepth 100000 in
theorem pylonref03_Compare.gt2 (a0_0 a0_1 a0_2 a1_0 a1_1 a1_2 : Int) (w : World) (p0 : ¬ a0_0 < a1_0) (q0 : ¬ a1_0 < a0_0) (p1 : ¬ a0_1 < a1_1) (q1 : ¬ a1_1 < a0_1) (p2 : ¬ a0_2 < a1_2) (q2 : a1_2 < a0_2) :
    Calls Try.prog 16 #[.agg #[.int .i64 a0_0, .int .i64 a0_1, .int .i64 a0_2], .agg #[.int .i64 a1_0, .int .i64 a1_1, .int .i64 a1_2]] w fun e w' => e = .returned (.int .i64 (1)) ∧ Below w.heap.size w w' := by
  go_enter Try.func16, Try.ntmps16
  go_wp2
  refine wp_loop_rounds 4 ?_
  rw [rounds_succ]
  go_wp2
  go_quiet (fail)
  go_wp2
  go_quiet (fail)
  go_wp2
  rw [rounds_succ]
  go_wp2
  go_quiet (fail)
  go_wp2
  go_quiet (fail)
  go_wp2
  rw [rounds_succ]
  go_wp2
  go_quiet (fail)
  go_wp2
  go_quiet (fail)
  go_wp2
  go_ret
  exact ⟨rfl, by repeat (first | exact Below.refl _ _ | apply below_alloc | apply pw_below_drewN | apply below_drew)⟩
set_option maxRecDepth 100000 in
theorem pylonref03_Compare.eq3 (a0_0 a0_1 a0_2 a1_0 a1_1 a1_2 : Int) (w : World) (p0 : ¬ a0_0 < a1_0) (q0 : ¬ a1_0 < a0_0) (p1 : ¬ a0_1 < a1_1) (q1 : ¬ a1_1 < a0_1) (p2 : ¬ a0_2 < a1_2) (q2 : ¬ a1_2 < a0_2) :
    Calls Try.prog 16 #[.agg #[.int .i64 a0_0, .int .i64 a0_1, .int .i64 a0_2], .agg #[.int .i64 a1_0, .int .i64 a1_1, .int .i64 a1_2]] w fun e w' => e = .returned (.int .i64 (0)) ∧ Below w.heap.size w w' := by
  go_enter Try.func16, Try.ntmps16
  go_wp2
  refine wp_loop_rounds 4 ?_
  rw [rounds_succ]
  go_wp2
  go_quiet (fail)
  go_wp2
  go_quiet (fail)
  go_wp2
  rw [rounds_succ]
  go_wp2
  go_quiet (fail)
  go_wp2
  go_quiet (fail)
  go_wp2
  rw [rounds_succ]
  go_wp2
  go_quiet (fail)
  go_wp2
  go_quiet (fail)
  go_wp2
  rw [rounds_succ]
  go_wp2
  go_ret
  exact ⟨rfl, by repeat (first | exact Below.refl _ _ | apply below_alloc | apply pw_below_drewN | apply below_drew)⟩
theorem pylonref03_Compare.calls (a0_0 : Int) (a0_1 : Int) (a0_2 : Int) (a1_0 : Int) (a1_1 : Int) (a1_2 : Int) (r : Int) (w : World) (h : pylonref03_Compare.f a0_0 a0_1 a0_2 a1_0 a1_1 a1_2 = some r) :
    Calls Try.prog 16 #[.agg #[.int .i64 a0_0, .int .i64 a0_1, .int .i64 a0_2], .agg #[.int .i64 a1_0, .int .i64 a1_1, .int .i64 a1_2]] w fun e w' => e = .returned (.int .i64 r) ∧ Below w.heap.size w w' := by
  unfold pylonref03_Compare.f Civ.cmp at h
  injection h with h
  by_cases p0 : a0_0 < a1_0
  · rw [if_pos p0] at h; subst h; exact pylonref03_Compare.lt0 _ _ _ _ _ _ w p0
  · rw [if_neg p0] at h
    by_cases q0 : a1_0 < a0_0
    · rw [if_pos q0] at h; subst h; exact pylonref03_Compare.gt0 _ _ _ _ _ _ w p0 q0
    · rw [if_neg q0] at h
      by_cases p1 : a0_1 < a1_1
      · rw [if_pos p1] at h; subst h; exact pylonref03_Compare.lt1 _ _ _ _ _ _ w p0 q0 p1
      · rw [if_neg p1] at h
        by_cases q1 : a1_1 < a0_1
        · rw [if_pos q1] at h; subst h; exact pylonref03_Compare.gt1 _ _ _ _ _ _ w p0 q0 p1 q1
        · rw [if_neg q1] at h
          by_cases p2 : a0_2 < a1_2
          · rw [if_pos p2] at h; subst h; exact pylonref03_Compare.lt2 _ _ _ _ _ _ w p0 q0 p1 q1 p2
          · rw [if_neg p2] at h
            by_cases q2 : a1_2 < a0_2
            · rw [if_pos q2] at h; subst h; exact pylonref03_Compare.gt2 _ _ _ _ _ _ w p0 q0 p1 q1 p2 q2
            · rw [if_neg q2] at h
              subst h; exact pylonref03_Compare.eq3 _ _ _ _ _ _ w p0 q0 p1 q1 p2 q2

end Go.Proofs.Ytegedhnbmclbkaa.PX
