/- Functions of the program as plain Lean functions, each with a proof that the call in the machine answers just what the plain function says; condition: the plain function answers at all. -/
import Derived.Test.YtegedhnbmclbkaaPXx0
import Derived.Test.YtegedhnbmclbkaaPXx2
import Derived.Test.YtegedhnbmclbkaaPXx3
import Derived.Test.YtegedhnbmclbkaaPXx4
import Derived.Test.YtegedhnbmclbkaaPXx5
import Derived.Test.YtegedhnbmclbkaaPXx7
namespace Go.Proofs.Ytegedhnbmclbkaa.PX
open Go.RowKit Go.Proofs.YtegedhnbmclbkaaW.PrintWords Go.Proofs.YtegedhnbmclbkaaW.PrintLast Go.Proofs.YtegedhnbmclbkaaW.PrintMore
attribute [local go_sem] max2_int min2_int max_two min_two max_three min_three max_four min_four   -- for this text's walks alone
set_option linter.unusedVariables false
set_option linter.unusedSimpArgs false

/-! ### pylonlaw05_plays: function 13 -/
def pylonlaw05_plays.f (k : Nat) (a0_0 : Int) (a0_1 : Int) (a0_2 : Int) (a0_3 : Int) (a0_4 : Int) (l0_5 : List (S25)) (a0_6 : Int) (a0_7 : Int) (a0_8 : Int) (a0_9 : Int) : Option (Int × Int × Int × (List (S33)) × Bool × Int) := if a0_0 = 1 then ((holiday_Check.f k a0_1 a0_2 a0_3 a0_4).bind fun t219 => (some (0, 0, 0, ([] : List (S33)), false, t219))) else (if a0_0 = 2 then ((holiday_Easter.f a0_6).bind fun bt220 => (some (bt220.1, bt220.2.1, bt220.2.2.1, ([] : List (S33)), false, bt220.2.2.2))) else (if a0_0 = 3 then ((holiday_On.f k a0_1 a0_2 a0_3 a0_4 a0_6).bind fun bt224 => (some (bt224.1, bt224.2.1, bt224.2.2.1, ([] : List (S33)), false, bt224.2.2.2))) else (if a0_0 = 4 then ((holiday_List.f k l0_5 a0_6).bind fun bt228 => (some (0, 0, 0, bt228.1, false, bt228.2))) else (if a0_0 = 5 then ((holiday_Is.f k l0_5 a0_7 a0_8 a0_9).bind fun bt232 => (some (0, 0, 0, ([] : List (S33)), bt232.1, bt232.2))) else (some (0, 0, 0, ([] : List (S33)), false, 0))))))
theorem pylonlaw05_plays.mono : ∀ a0 a1 a2 a3 a4 a5 a6 a7 a8 a9 k, LeO (pylonlaw05_plays.f k a0 a1 a2 a3 a4 a5 a6 a7 a8 a9) (pylonlaw05_plays.f (k + 1) a0 a1 a2 a3 a4 a5 a6 a7 a8 a9) := by
 intro a0 a1 a2 a3 a4 a5 a6 a7 a8 a9 k
 unfold pylonlaw05_plays.f
 repeat' first
   | (with_reducible exact holiday_Check.mono _ _ _ _ _)
   | (with_reducible exact holiday_Is.mono _ _ _ _ _)
   | (with_reducible exact holiday_List.mono _ _ _)
   | (with_reducible exact holiday_On.mono _ _ _ _ _ _)
   | (with_reducible exact LeO.refl _)
   | (with_reducible exact LeO.none _)
   | (with_reducible refine LeO.ite ?_ ?_)
   | (with_reducible refine LeO.bind ?_ (fun _ => ?_))
set_option maxHeartbeats 8000000 in
set_option maxRecDepth 100000 in
theorem pylonlaw05_plays.calls (k : Nat) (a0_0 : Int) (a0_1 : Int) (a0_2 : Int) (a0_3 : Int) (a0_4 : Int) (A0_5 : Option Addr) (c0_5 : Nat) (l0_5 : List (S25)) (a0_6 : Int) (a0_7 : Int) (a0_8 : Int) (a0_9 : Int) (r1 : Int) (r2 : Int) (r3 : Int) (r4 : List (S33)) (r5 : Bool) (r6 : Int) (w : World) (hr0_5 : Kd.C k25 w A0_5 l0_5.length l0_5) (hc0_5 : l0_5.length ≤ c0_5) (h : pylonlaw05_plays.f k a0_0 a0_1 a0_2 a0_3 a0_4 l0_5 a0_6 a0_7 a0_8 a0_9 = some (r1, r2, r3, r4, r5, r6)) :
  Calls Try.prog 13 #[.agg #[.int .i64 a0_0, .int .i64 a0_1, .int .i64 a0_2, .int .i64 a0_3, .int .i64 a0_4, .slice A0_5 l0_5.length c0_5, .int .i64 a0_6, .int .i64 a0_7, .int .i64 a0_8, .int .i64 a0_9]] w fun e w' => ∃ v3_ : Value, e = .returned (.agg #[.int .i64 r1, .int .i64 r2, .int .i64 r3, v3_, .bool r5, .int .i64 r6]) ∧ Kd.R k33 33 w' w.heap.size (fun _ => True) v3_ r4 ∧ Below w.heap.size w w' := by
 have hu43 := Try.underlying43
 have hu40 := Try.underlying40
 have hu25 := Try.underlying25
 have hu33 := Try.underlying33
 have HR0_5 := AX hr0_5
 have HC0_5 := AX hc0_5
 clear hr0_5 hc0_5
 have HB := AX (Below.refl w.heap.size w)
 have H : (if a0_0 = 1 then ((holiday_Check.f k a0_1 a0_2 a0_3 a0_4).bind fun t219 => (some (0, 0, 0, ([] : List (S33)), false, t219))) else (if a0_0 = 2 then ((holiday_Easter.f a0_6).bind fun bt220 => (some (bt220.1, bt220.2.1, bt220.2.2.1, ([] : List (S33)), false, bt220.2.2.2))) else (if a0_0 = 3 then ((holiday_On.f k a0_1 a0_2 a0_3 a0_4 a0_6).bind fun bt224 => (some (bt224.1, bt224.2.1, bt224.2.2.1, ([] : List (S33)), false, bt224.2.2.2))) else (if a0_0 = 4 then ((holiday_List.f k l0_5 a0_6).bind fun bt228 => (some (0, 0, 0, bt228.1, false, bt228.2))) else (if a0_0 = 5 then ((holiday_Is.f k l0_5 a0_7 a0_8 a0_9).bind fun bt232 => (some (0, 0, 0, ([] : List (S33)), bt232.1, bt232.2))) else (some (0, 0, 0, ([] : List (S33)), false, 0))))))) = some (r1, r2, r3, r4, r5, r6) := h
 clear h
 by_cases c2 : a0_0 = 1
 ·rw [if_pos c2] at H
  have c2b0 : (a0_0 == 1) = true := beq_iff_eq.mpr c2
  have c2b1 : (a0_0 != 1) = false := bne_eq_false_iff_eq.mpr c2
  clear c2
  replace H := Option.bind_eq_some_iff.mp H
  obtain ⟨t219, A30, H⟩ := H
  replace H : (some (0, 0, 0, ([] : List (S33)), false, t219)) = some (r1, r2, r3, r4, r5, r6) := H
  have A3 := AX A30
  clear A30
  simp only [Option.some.injEq, Prod.mk.injEq] at H
  obtain ⟨rfl, rfl, rfl, rfl, rfl, rfl⟩ := H
  go_enter Try.func13, Try.ntmps13
  go_wp2_with (first | ((with_reducible refine gate_dst (N := 1) rfl ?_); refine bx 1 #[.int .i64 a0_0, .int .i64 a0_1, .int .i64 a0_2, .int .i64 a0_3, .int .i64 a0_4, .slice A0_5 l0_5.length c0_5, .int .i64 a0_6, .int .i64 a0_7, .int .i64 a0_8, .int .i64 a0_9] 43 ?_; intro gb216 hg w4 hbox hb; have BK216 := AX (hbox); have GW216 := gwl (w := w) hg bw; have GE216 := GW216; replace HB := AX (below_step bw hb); clear hb hbox hg) | ((with_reducible refine gate_dst (N := 2) rfl ?_); refine bx 2 #[.int .i64 0, .int .i64 0, .int .i64 0, .slice none 0 0, .bool false, .int .i64 0] 40 ?_; intro gb217 hg w5 hbox hb; have BK217 := AX (hbox); have GW217 := gwl (w := w) hg bw; have GE217 := GW217; have NB216_217 := nbl hg (bkn BK216); have NB217_216 := nbg hg (bkn BK216); replace BK216 := AX (bkb BK216 hb); replace HB := AX (below_step bw hb); clear hb hbox hg) | ((with_reducible refine gate_dst (N := 3) rfl ?_); refine bx 3 #[.int .i64 0, .int .i64 0, .int .i64 0, .slice none 0 0, .bool false, .int .i64 0] 40 ?_; intro gb218 hg w6 hbox hb; have BK218 := AX (hbox); have GW218 := gwl (w := w) hg bw; have GE218 := GW218; have NB216_218 := nbl hg (bkn BK216); have NB218_216 := nbg hg (bkn BK216); have NB217_218 := nbl hg (bkn BK217); have NB218_217 := nbg hg (bkn BK217); replace BK216 := AX (bkb BK216 hb); replace BK217 := AX (bkb BK217 hb); replace HB := AX (below_step bw hb); clear hb hbox hg; have hnb7 := NB216_217.out; have hnc7 := NB217_216.out; have hnb8 := NB216_218.out; have hnc8 := NB218_216.out; obtain ⟨hcz9_0, hcz9_1, hcz9_2, hcz9_3, hcz9_4, hcz9_5, hcz9_6, hcz9_7, hcz9_8, hcz9_9⟩ := blkC10 (w := w6) BK216.out; obtain ⟨hfz9_0, hfz9_1, hfz9_2, hfz9_3, hfz9_4, hfz9_5, hfz9_6, hfz9_7, hfz9_8, hfz9_9⟩ := blkF10 BK216.out) | ((with_reducible refine gate_callee (f := 12) rfl ?_); refine gL (some 10) Try.func12 #[.agg #[.int .i64 a0_1, .int .i64 a0_2, .int .i64 a0_3, .int .i64 a0_4]] ?_; (with_reducible refine (holiday_Check.calls k a0_1 a0_2 a0_3 a0_4 t219 _ A3.out).mono ?_); rintro e w10 ⟨rfl, hb⟩; refine ⟨_, rfl, ?_⟩; replace BK216 := AX (bkb BK216 hb); replace BK217 := AX (bkb BK217 hb); replace BK218 := AX (bkb BK218 hb); replace HB := AX (below_step bw hb); (try clear hb); have hnb11 := NB218_217.out; have hnc11 := NB217_218.out; obtain ⟨hcz12_0, hcz12_1, hcz12_2, hcz12_3, hcz12_4, hcz12_5⟩ := blkC6 (w := w10) BK218.out; obtain ⟨hfz12_0, hfz12_1, hfz12_2, hfz12_3, hfz12_4, hfz12_5⟩ := blkF6 BK218.out; obtain ⟨hcz13_0, hcz13_1, hcz13_2, hcz13_3, hcz13_4, hcz13_5⟩ := blkC6 (w := w10) BK217.out; obtain ⟨hfz13_0, hfz13_1, hfz13_2, hfz13_3, hfz13_4, hfz13_5⟩ := blkF6 BK217.out))
  refine bodyPost_ret (results_cell_row rfl _ _ gb217 40 #[.int .i64 0, .int .i64 0, .int .i64 0, .slice none 0 0, .bool false, .int .i64 t219] (0, 0) _ rfl (by (with_reducible repeat first|refine blk_drewN ?_ _|refine blk_drew ?_|refine blk_alloc ?_ _); refine blk_put (cs := #[.int .i64 0, .int .i64 0, .int .i64 0, .slice none 0 0, .bool false, .int .i64 0]) ?_ 5 _ rfl; (with_reducible repeat first|refine blk_drewN ?_ _|refine blk_drew ?_|refine blk_alloc ?_ _); refine blk_put (cs := #[.int .i64 0, .int .i64 0, .int .i64 0, .slice none 0 0, .bool false, .int .i64 0]) ?_ 4 _ rfl; (with_reducible repeat first|refine blk_drewN ?_ _|refine blk_drew ?_|refine blk_alloc ?_ _); refine blk_put (cs := #[.int .i64 0, .int .i64 0, .int .i64 0, .slice none 0 0, .bool false, .int .i64 0]) ?_ 3 _ rfl; (with_reducible repeat first|refine blk_drewN ?_ _|refine blk_drew ?_|refine blk_alloc ?_ _); refine blk_put (cs := #[.int .i64 0, .int .i64 0, .int .i64 0, .slice none 0 0, .bool false, .int .i64 0]) ?_ 2 _ rfl; (with_reducible repeat first|refine blk_drewN ?_ _|refine blk_drew ?_|refine blk_alloc ?_ _); refine blk_put (cs := #[.int .i64 0, .int .i64 0, .int .i64 0, .slice none 0 0, .bool false, .int .i64 0]) ?_ 1 _ rfl; (with_reducible repeat first|refine blk_drewN ?_ _|refine blk_drew ?_|refine blk_alloc ?_ _); refine blk_put (cs := #[.int .i64 0, .int .i64 0, .int .i64 0, .slice none 0 0, .bool false, .int .i64 0]) ?_ 0 _ rfl; (with_reducible repeat first|refine blk_drewN ?_ _|refine blk_drew ?_|refine blk_alloc ?_ _); refine blk_far ?_ NB217_218.out _; (with_reducible repeat first|refine blk_drewN ?_ _|refine blk_drew ?_|refine blk_alloc ?_ _); exact BK217.out) Try.underlying40 rfl (by kernel_rfl)) rfl ?_
  exact ⟨_, by first | rfl | (simp [errW_none, errW_some] <;> rfl) | (simp [*, errW_none, errW_some] <;> rfl), by first | exact Kd.R_nil _ _ _ _ _ | exact Kd.N_nil _ _ _ _ _ | exact Kd.V_nil _ _ _ _ _ | exact Kd.Q_nil _ _ _ _ _ | exact Kd.S_nil _ _ _ _ _, bw⟩
 ·rw [if_neg c2] at H
  have c2b0 : (a0_0 == 1) = false := beq_eq_false_iff_ne.mpr c2
  have c2b1 : (a0_0 != 1) = true := bne_iff_ne.mpr c2
  by_cases c14 : a0_0 = 2
  ·rw [if_pos c14] at H
   have c14b0 : (a0_0 == 2) = true := beq_iff_eq.mpr c14
   have c14b1 : (a0_0 != 2) = false := bne_eq_false_iff_eq.mpr c14
   clear c14
   replace H := Option.bind_eq_some_iff.mp H
   obtain ⟨⟨t220, t221, t222, t223⟩, A150, H⟩ := H
   replace H : (some (t220, t221, t222, ([] : List (S33)), false, t223)) = some (r1, r2, r3, r4, r5, r6) := H
   have A15 := AX A150
   clear A150
   simp only [Option.some.injEq, Prod.mk.injEq] at H
   obtain ⟨rfl, rfl, rfl, rfl, rfl, rfl⟩ := H
   go_enter Try.func13, Try.ntmps13
   go_wp2_with (first | ((with_reducible refine gate_dst (N := 1) rfl ?_); refine bx 1 #[.int .i64 a0_0, .int .i64 a0_1, .int .i64 a0_2, .int .i64 a0_3, .int .i64 a0_4, .slice A0_5 l0_5.length c0_5, .int .i64 a0_6, .int .i64 a0_7, .int .i64 a0_8, .int .i64 a0_9] 43 ?_; intro gb216 hg w16 hbox hb; have BK216 := AX (hbox); have GW216 := gwl (w := w) hg bw; have GE216 := GW216; replace HB := AX (below_step bw hb); clear hb hbox hg) | ((with_reducible refine gate_dst (N := 2) rfl ?_); refine bx 2 #[.int .i64 0, .int .i64 0, .int .i64 0, .slice none 0 0, .bool false, .int .i64 0] 40 ?_; intro gb217 hg w17 hbox hb; have BK217 := AX (hbox); have GW217 := gwl (w := w) hg bw; have GE217 := GW217; have NB216_217 := nbl hg (bkn BK216); have NB217_216 := nbg hg (bkn BK216); replace BK216 := AX (bkb BK216 hb); replace HB := AX (below_step bw hb); clear hb hbox hg) | ((with_reducible refine gate_dst (N := 3) rfl ?_); refine bx 3 #[.int .i64 0, .int .i64 0, .int .i64 0, .slice none 0 0, .bool false, .int .i64 0] 40 ?_; intro gb218 hg w18 hbox hb; have BK218 := AX (hbox); have GW218 := gwl (w := w) hg bw; have GE218 := GW218; have NB216_218 := nbl hg (bkn BK216); have NB218_216 := nbg hg (bkn BK216); have NB217_218 := nbl hg (bkn BK217); have NB218_217 := nbg hg (bkn BK217); replace BK216 := AX (bkb BK216 hb); replace BK217 := AX (bkb BK217 hb); replace HB := AX (below_step bw hb); clear hb hbox hg; have hnb19 := NB216_217.out; have hnc19 := NB217_216.out; have hnb20 := NB216_218.out; have hnc20 := NB218_216.out; obtain ⟨hcz21_0, hcz21_1, hcz21_2, hcz21_3, hcz21_4, hcz21_5, hcz21_6, hcz21_7, hcz21_8, hcz21_9⟩ := blkC10 (w := w18) BK216.out; obtain ⟨hfz21_0, hfz21_1, hfz21_2, hfz21_3, hfz21_4, hfz21_5, hfz21_6, hfz21_7, hfz21_8, hfz21_9⟩ := blkF10 BK216.out) | ((with_reducible refine gate_callee (f := 21) rfl ?_); refine gL (some 17) Try.func21 #[.int .i64 a0_6] ?_; (with_reducible refine (holiday_Easter.calls a0_6 t220 t221 t222 t223 _ A15.out).mono ?_); rintro e w22 ⟨rfl, hb⟩; refine ⟨_, rfl, ?_⟩; replace BK216 := AX (bkb BK216 hb); replace BK217 := AX (bkb BK217 hb); replace BK218 := AX (bkb BK218 hb); replace HB := AX (below_step bw hb); (try clear hb); have hnb23 := NB218_217.out; have hnc23 := NB217_218.out; obtain ⟨hcz24_0, hcz24_1, hcz24_2, hcz24_3, hcz24_4, hcz24_5⟩ := blkC6 (w := w22) BK218.out; obtain ⟨hfz24_0, hfz24_1, hfz24_2, hfz24_3, hfz24_4, hfz24_5⟩ := blkF6 BK218.out; obtain ⟨hcz25_0, hcz25_1, hcz25_2, hcz25_3, hcz25_4, hcz25_5⟩ := blkC6 (w := w22) BK217.out; obtain ⟨hfz25_0, hfz25_1, hfz25_2, hfz25_3, hfz25_4, hfz25_5⟩ := blkF6 BK217.out))
   refine bodyPost_ret (results_cell_row rfl _ _ gb217 40 #[.int .i64 t220, .int .i64 t221, .int .i64 t222, .slice none 0 0, .bool false, .int .i64 t223] (0, 0) _ rfl (by (with_reducible repeat first|refine blk_drewN ?_ _|refine blk_drew ?_|refine blk_alloc ?_ _); refine blk_put (cs := #[.int .i64 t220, .int .i64 t221, .int .i64 t222, .slice none 0 0, .bool false, .int .i64 0]) ?_ 5 _ rfl; (with_reducible repeat first|refine blk_drewN ?_ _|refine blk_drew ?_|refine blk_alloc ?_ _); refine blk_put (cs := #[.int .i64 t220, .int .i64 t221, .int .i64 t222, .slice none 0 0, .bool false, .int .i64 0]) ?_ 4 _ rfl; (with_reducible repeat first|refine blk_drewN ?_ _|refine blk_drew ?_|refine blk_alloc ?_ _); refine blk_put (cs := #[.int .i64 t220, .int .i64 t221, .int .i64 t222, .slice none 0 0, .bool false, .int .i64 0]) ?_ 3 _ rfl; (with_reducible repeat first|refine blk_drewN ?_ _|refine blk_drew ?_|refine blk_alloc ?_ _); refine blk_put (cs := #[.int .i64 t220, .int .i64 t221, .int .i64 0, .slice none 0 0, .bool false, .int .i64 0]) ?_ 2 _ rfl; (with_reducible repeat first|refine blk_drewN ?_ _|refine blk_drew ?_|refine blk_alloc ?_ _); refine blk_put (cs := #[.int .i64 t220, .int .i64 0, .int .i64 0, .slice none 0 0, .bool false, .int .i64 0]) ?_ 1 _ rfl; (with_reducible repeat first|refine blk_drewN ?_ _|refine blk_drew ?_|refine blk_alloc ?_ _); refine blk_put (cs := #[.int .i64 0, .int .i64 0, .int .i64 0, .slice none 0 0, .bool false, .int .i64 0]) ?_ 0 _ rfl; (with_reducible repeat first|refine blk_drewN ?_ _|refine blk_drew ?_|refine blk_alloc ?_ _); refine blk_far ?_ NB217_218.out _; (with_reducible repeat first|refine blk_drewN ?_ _|refine blk_drew ?_|refine blk_alloc ?_ _); refine blk_far ?_ NB217_218.out _; (with_reducible repeat first|refine blk_drewN ?_ _|refine blk_drew ?_|refine blk_alloc ?_ _); refine blk_far ?_ NB217_218.out _; (with_reducible repeat first|refine blk_drewN ?_ _|refine blk_drew ?_|refine blk_alloc ?_ _); refine blk_far ?_ NB217_218.out _; (with_reducible repeat first|refine blk_drewN ?_ _|refine blk_drew ?_|refine blk_alloc ?_ _); exact BK217.out) Try.underlying40 rfl (by kernel_rfl)) rfl ?_
   exact ⟨_, by first | rfl | (simp [errW_none, errW_some] <;> rfl) | (simp [*, errW_none, errW_some] <;> rfl), by first | exact Kd.R_nil _ _ _ _ _ | exact Kd.N_nil _ _ _ _ _ | exact Kd.V_nil _ _ _ _ _ | exact Kd.Q_nil _ _ _ _ _ | exact Kd.S_nil _ _ _ _ _, bw⟩
  ·rw [if_neg c14] at H
   have c14b0 : (a0_0 == 2) = false := beq_eq_false_iff_ne.mpr c14
   have c14b1 : (a0_0 != 2) = true := bne_iff_ne.mpr c14
   by_cases c26 : a0_0 = 3
   ·rw [if_pos c26] at H
    have c26b0 : (a0_0 == 3) = true := beq_iff_eq.mpr c26
    have c26b1 : (a0_0 != 3) = false := bne_eq_false_iff_eq.mpr c26
    clear c26
    replace H := Option.bind_eq_some_iff.mp H
    obtain ⟨⟨t224, t225, t226, t227⟩, A270, H⟩ := H
    replace H : (some (t224, t225, t226, ([] : List (S33)), false, t227)) = some (r1, r2, r3, r4, r5, r6) := H
    have A27 := AX A270
    clear A270
    simp only [Option.some.injEq, Prod.mk.injEq] at H
    obtain ⟨rfl, rfl, rfl, rfl, rfl, rfl⟩ := H
    go_enter Try.func13, Try.ntmps13
    go_wp2_with (first | ((with_reducible refine gate_dst (N := 1) rfl ?_); refine bx 1 #[.int .i64 a0_0, .int .i64 a0_1, .int .i64 a0_2, .int .i64 a0_3, .int .i64 a0_4, .slice A0_5 l0_5.length c0_5, .int .i64 a0_6, .int .i64 a0_7, .int .i64 a0_8, .int .i64 a0_9] 43 ?_; intro gb216 hg w28 hbox hb; have BK216 := AX (hbox); have GW216 := gwl (w := w) hg bw; have GE216 := GW216; replace HB := AX (below_step bw hb); clear hb hbox hg) | ((with_reducible refine gate_dst (N := 2) rfl ?_); refine bx 2 #[.int .i64 0, .int .i64 0, .int .i64 0, .slice none 0 0, .bool false, .int .i64 0] 40 ?_; intro gb217 hg w29 hbox hb; have BK217 := AX (hbox); have GW217 := gwl (w := w) hg bw; have GE217 := GW217; have NB216_217 := nbl hg (bkn BK216); have NB217_216 := nbg hg (bkn BK216); replace BK216 := AX (bkb BK216 hb); replace HB := AX (below_step bw hb); clear hb hbox hg) | ((with_reducible refine gate_dst (N := 3) rfl ?_); refine bx 3 #[.int .i64 0, .int .i64 0, .int .i64 0, .slice none 0 0, .bool false, .int .i64 0] 40 ?_; intro gb218 hg w30 hbox hb; have BK218 := AX (hbox); have GW218 := gwl (w := w) hg bw; have GE218 := GW218; have NB216_218 := nbl hg (bkn BK216); have NB218_216 := nbg hg (bkn BK216); have NB217_218 := nbl hg (bkn BK217); have NB218_217 := nbg hg (bkn BK217); replace BK216 := AX (bkb BK216 hb); replace BK217 := AX (bkb BK217 hb); replace HB := AX (below_step bw hb); clear hb hbox hg; have hnb31 := NB216_217.out; have hnc31 := NB217_216.out; have hnb32 := NB216_218.out; have hnc32 := NB218_216.out; obtain ⟨hcz33_0, hcz33_1, hcz33_2, hcz33_3, hcz33_4, hcz33_5, hcz33_6, hcz33_7, hcz33_8, hcz33_9⟩ := blkC10 (w := w30) BK216.out; obtain ⟨hfz33_0, hfz33_1, hfz33_2, hfz33_3, hfz33_4, hfz33_5, hfz33_6, hfz33_7, hfz33_8, hfz33_9⟩ := blkF10 BK216.out) | ((with_reducible refine gate_callee (f := 11) rfl ?_); refine gL (some 29) Try.func11 #[.agg #[.int .i64 a0_1, .int .i64 a0_2, .int .i64 a0_3, .int .i64 a0_4], .int .i64 a0_6] ?_; (with_reducible refine (holiday_On.calls k a0_1 a0_2 a0_3 a0_4 a0_6 t224 t225 t226 t227 _ A27.out).mono ?_); rintro e w34 ⟨rfl, hb⟩; refine ⟨_, rfl, ?_⟩; replace BK216 := AX (bkb BK216 hb); replace BK217 := AX (bkb BK217 hb); replace BK218 := AX (bkb BK218 hb); replace HB := AX (below_step bw hb); (try clear hb); have hnb35 := NB218_217.out; have hnc35 := NB217_218.out; obtain ⟨hcz36_0, hcz36_1, hcz36_2, hcz36_3, hcz36_4, hcz36_5⟩ := blkC6 (w := w34) BK218.out; obtain ⟨hfz36_0, hfz36_1, hfz36_2, hfz36_3, hfz36_4, hfz36_5⟩ := blkF6 BK218.out; obtain ⟨hcz37_0, hcz37_1, hcz37_2, hcz37_3, hcz37_4, hcz37_5⟩ := blkC6 (w := w34) BK217.out; obtain ⟨hfz37_0, hfz37_1, hfz37_2, hfz37_3, hfz37_4, hfz37_5⟩ := blkF6 BK217.out))
    refine bodyPost_ret (results_cell_row rfl _ _ gb217 40 #[.int .i64 t224, .int .i64 t225, .int .i64 t226, .slice none 0 0, .bool false, .int .i64 t227] (0, 0) _ rfl (by (with_reducible repeat first|refine blk_drewN ?_ _|refine blk_drew ?_|refine blk_alloc ?_ _); refine blk_put (cs := #[.int .i64 t224, .int .i64 t225, .int .i64 t226, .slice none 0 0, .bool false, .int .i64 0]) ?_ 5 _ rfl; (with_reducible repeat first|refine blk_drewN ?_ _|refine blk_drew ?_|refine blk_alloc ?_ _); refine blk_put (cs := #[.int .i64 t224, .int .i64 t225, .int .i64 t226, .slice none 0 0, .bool false, .int .i64 0]) ?_ 4 _ rfl; (with_reducible repeat first|refine blk_drewN ?_ _|refine blk_drew ?_|refine blk_alloc ?_ _); refine blk_put (cs := #[.int .i64 t224, .int .i64 t225, .int .i64 t226, .slice none 0 0, .bool false, .int .i64 0]) ?_ 3 _ rfl; (with_reducible repeat first|refine blk_drewN ?_ _|refine blk_drew ?_|refine blk_alloc ?_ _); refine blk_put (cs := #[.int .i64 t224, .int .i64 t225, .int .i64 0, .slice none 0 0, .bool false, .int .i64 0]) ?_ 2 _ rfl; (with_reducible repeat first|refine blk_drewN ?_ _|refine blk_drew ?_|refine blk_alloc ?_ _); refine blk_put (cs := #[.int .i64 t224, .int .i64 0, .int .i64 0, .slice none 0 0, .bool false, .int .i64 0]) ?_ 1 _ rfl; (with_reducible repeat first|refine blk_drewN ?_ _|refine blk_drew ?_|refine blk_alloc ?_ _); refine blk_put (cs := #[.int .i64 0, .int .i64 0, .int .i64 0, .slice none 0 0, .bool false, .int .i64 0]) ?_ 0 _ rfl; (with_reducible repeat first|refine blk_drewN ?_ _|refine blk_drew ?_|refine blk_alloc ?_ _); refine blk_far ?_ NB217_218.out _; (with_reducible repeat first|refine blk_drewN ?_ _|refine blk_drew ?_|refine blk_alloc ?_ _); refine blk_far ?_ NB217_218.out _; (with_reducible repeat first|refine blk_drewN ?_ _|refine blk_drew ?_|refine blk_alloc ?_ _); refine blk_far ?_ NB217_218.out _; (with_reducible repeat first|refine blk_drewN ?_ _|refine blk_drew ?_|refine blk_alloc ?_ _); refine blk_far ?_ NB217_218.out _; (with_reducible repeat first|refine blk_drewN ?_ _|refine blk_drew ?_|refine blk_alloc ?_ _); exact BK217.out) Try.underlying40 rfl (by kernel_rfl)) rfl ?_
    exact ⟨_, by first | rfl | (simp [errW_none, errW_some] <;> rfl) | (simp [*, errW_none, errW_some] <;> rfl), by first | exact Kd.R_nil _ _ _ _ _ | exact Kd.N_nil _ _ _ _ _ | exact Kd.V_nil _ _ _ _ _ | exact Kd.Q_nil _ _ _ _ _ | exact Kd.S_nil _ _ _ _ _, bw⟩
   ·rw [if_neg c26] at H
    have c26b0 : (a0_0 == 3) = false := beq_eq_false_iff_ne.mpr c26
    have c26b1 : (a0_0 != 3) = true := bne_iff_ne.mpr c26
    by_cases c38 : a0_0 = 4
    ·rw [if_pos c38] at H
     have c38b0 : (a0_0 == 4) = true := beq_iff_eq.mpr c38
     have c38b1 : (a0_0 != 4) = false := bne_eq_false_iff_eq.mpr c38
     clear c38
     replace H := Option.bind_eq_some_iff.mp H
     obtain ⟨⟨t228, t229⟩, A390, H⟩ := H
     replace H : (some (0, 0, 0, t228, false, t229)) = some (r1, r2, r3, r4, r5, r6) := H
     have A39 := AX A390
     clear A390
     simp only [Option.some.injEq, Prod.mk.injEq] at H
     obtain ⟨rfl, rfl, rfl, rfl, rfl, rfl⟩ := H
     go_enter Try.func13, Try.ntmps13
     go_wp2_with (first | ((with_reducible refine gate_dst (N := 1) rfl ?_); refine bx 1 #[.int .i64 a0_0, .int .i64 a0_1, .int .i64 a0_2, .int .i64 a0_3, .int .i64 a0_4, .slice A0_5 l0_5.length c0_5, .int .i64 a0_6, .int .i64 a0_7, .int .i64 a0_8, .int .i64 a0_9] 43 ?_; intro gb216 hg w40 hbox hb; have BK216 := AX (hbox); have GW216 := gwl (w := w) hg bw; have GE216 := GW216; replace HB := AX (below_step bw hb); clear hb hbox hg) | ((with_reducible refine gate_dst (N := 2) rfl ?_); refine bx 2 #[.int .i64 0, .int .i64 0, .int .i64 0, .slice none 0 0, .bool false, .int .i64 0] 40 ?_; intro gb217 hg w41 hbox hb; have BK217 := AX (hbox); have GW217 := gwl (w := w) hg bw; have GE217 := GW217; have NB216_217 := nbl hg (bkn BK216); have NB217_216 := nbg hg (bkn BK216); replace BK216 := AX (bkb BK216 hb); replace HB := AX (below_step bw hb); clear hb hbox hg) | ((with_reducible refine gate_dst (N := 3) rfl ?_); refine bx 3 #[.int .i64 0, .int .i64 0, .int .i64 0, .slice none 0 0, .bool false, .int .i64 0] 40 ?_; intro gb218 hg w42 hbox hb; have BK218 := AX (hbox); have GW218 := gwl (w := w) hg bw; have GE218 := GW218; have NB216_218 := nbl hg (bkn BK216); have NB218_216 := nbg hg (bkn BK216); have NB217_218 := nbl hg (bkn BK217); have NB218_217 := nbg hg (bkn BK217); replace BK216 := AX (bkb BK216 hb); replace BK217 := AX (bkb BK217 hb); replace HB := AX (below_step bw hb); clear hb hbox hg; have hnb43 := NB216_217.out; have hnc43 := NB217_216.out; have hnb44 := NB216_218.out; have hnc44 := NB218_216.out; obtain ⟨hcz45_0, hcz45_1, hcz45_2, hcz45_3, hcz45_4, hcz45_5, hcz45_6, hcz45_7, hcz45_8, hcz45_9⟩ := blkC10 (w := w42) BK216.out; obtain ⟨hfz45_0, hfz45_1, hfz45_2, hfz45_3, hfz45_4, hfz45_5, hfz45_6, hfz45_7, hfz45_8, hfz45_9⟩ := blkF10 BK216.out) | ((with_reducible refine gate_callee (f := 9) rfl ?_); refine gL (some 41) Try.func9 #[.slice A0_5 l0_5.length c0_5, .int .i64 a0_6] ?_; (with_reducible refine (holiday_List.calls k _ _ l0_5 a0_6 t228 t229 _ ?side1 ?side2 A39.out).mono ?_); (case side1 => repeat (first | exact (Kd.C_below HR0_5.out HB.out) | (with_reducible refine Kd.C_alloc ?_ _) | (with_reducible refine Kd.C_drewN ?_ _) | (with_reducible refine Kd.C_drew ?_))); (case side2 => exact HC0_5.out); rintro e w46 ⟨v230, rfl, ho0, hb⟩; refine ⟨_, rfl, ?_⟩; have HO231 := AX (Kd.R_lower ho0 (below_size bw)); replace BK216 := AX (bkb BK216 hb); replace BK217 := AX (bkb BK217 hb); replace BK218 := AX (bkb BK218 hb); replace HB := AX (below_step bw hb); (try clear hb); (try clear hb2); (try clear hk); (try clear hi); (try clear ho0); obtain ⟨Ao47, co47, eo47⟩ := Kd.R_slice HO231.out; subst eo47; have hnb48 := NB218_217.out; have hnc48 := NB217_218.out; obtain ⟨hcz49_0, hcz49_1, hcz49_2, hcz49_3, hcz49_4, hcz49_5⟩ := blkC6 (w := w46) BK218.out; obtain ⟨hfz49_0, hfz49_1, hfz49_2, hfz49_3, hfz49_4, hfz49_5⟩ := blkF6 BK218.out; obtain ⟨hcz50_0, hcz50_1, hcz50_2, hcz50_3, hcz50_4, hcz50_5⟩ := blkC6 (w := w46) BK217.out; obtain ⟨hfz50_0, hfz50_1, hfz50_2, hfz50_3, hfz50_4, hfz50_5⟩ := blkF6 BK217.out))
     refine bodyPost_ret (results_cell_row rfl _ _ gb217 40 #[.int .i64 0, .int .i64 0, .int .i64 0, .slice Ao47 t228.length co47, .bool false, .int .i64 t229] (0, 0) _ rfl (by (with_reducible repeat first|refine blk_drewN ?_ _|refine blk_drew ?_|refine blk_alloc ?_ _); refine blk_put (cs := #[.int .i64 0, .int .i64 0, .int .i64 0, .slice Ao47 t228.length co47, .bool false, .int .i64 0]) ?_ 5 _ rfl; (with_reducible repeat first|refine blk_drewN ?_ _|refine blk_drew ?_|refine blk_alloc ?_ _); refine blk_put (cs := #[.int .i64 0, .int .i64 0, .int .i64 0, .slice Ao47 t228.length co47, .bool false, .int .i64 0]) ?_ 4 _ rfl; (with_reducible repeat first|refine blk_drewN ?_ _|refine blk_drew ?_|refine blk_alloc ?_ _); refine blk_put (cs := #[.int .i64 0, .int .i64 0, .int .i64 0, .slice none 0 0, .bool false, .int .i64 0]) ?_ 3 _ rfl; (with_reducible repeat first|refine blk_drewN ?_ _|refine blk_drew ?_|refine blk_alloc ?_ _); refine blk_put (cs := #[.int .i64 0, .int .i64 0, .int .i64 0, .slice none 0 0, .bool false, .int .i64 0]) ?_ 2 _ rfl; (with_reducible repeat first|refine blk_drewN ?_ _|refine blk_drew ?_|refine blk_alloc ?_ _); refine blk_put (cs := #[.int .i64 0, .int .i64 0, .int .i64 0, .slice none 0 0, .bool false, .int .i64 0]) ?_ 1 _ rfl; (with_reducible repeat first|refine blk_drewN ?_ _|refine blk_drew ?_|refine blk_alloc ?_ _); refine blk_put (cs := #[.int .i64 0, .int .i64 0, .int .i64 0, .slice none 0 0, .bool false, .int .i64 0]) ?_ 0 _ rfl; (with_reducible repeat first|refine blk_drewN ?_ _|refine blk_drew ?_|refine blk_alloc ?_ _); refine blk_far ?_ NB217_218.out _; (with_reducible repeat first|refine blk_drewN ?_ _|refine blk_drew ?_|refine blk_alloc ?_ _); refine blk_far ?_ NB217_218.out _; (with_reducible repeat first|refine blk_drewN ?_ _|refine blk_drew ?_|refine blk_alloc ?_ _); exact BK217.out) Try.underlying40 rfl (by kernel_rfl)) rfl ?_
     exact ⟨_, by first | rfl | (simp [errW_none, errW_some] <;> rfl) | (simp [*, errW_none, errW_some] <;> rfl), by (with_reducible repeat (first | apply Kd.R_alloc | apply Kd.R_drewN | apply Kd.R_drew)); exact Kd.R_mono (Kd.R_far (p := ⟨gb217, 5, none⟩) (Kd.R_far (p := ⟨gb217, 4, none⟩) (Kd.R_far (p := ⟨gb217, 3, none⟩) (Kd.R_far (p := ⟨gb217, 2, none⟩) (Kd.R_far (p := ⟨gb217, 1, none⟩) (Kd.R_far (p := ⟨gb217, 0, none⟩) (Kd.R_far (p := ⟨gb218, 5, none⟩) (Kd.R_far (p := ⟨gb218, 3, none⟩) (Kd.R_types (Kd.R_types HO231.out BK218.out (by decide)) BK217.out (by decide)) (fun _ hk => hk.1.2) (.slice Ao47 t228.length co47)) (fun _ hk => hk.1.2) (.int .i64 t229)) (fun _ hk => hk.2) (.int .i64 0)) (fun _ hk => hk.2) (.int .i64 0)) (fun _ hk => hk.2) (.int .i64 0)) (fun _ hk => hk.2) (.slice Ao47 t228.length co47)) (fun _ hk => hk.2) (.bool false)) (fun _ hk => hk.2) (.int .i64 t229)) (fun _ hk => trivial), bw⟩
    ·rw [if_neg c38] at H
     have c38b0 : (a0_0 == 4) = false := beq_eq_false_iff_ne.mpr c38
     have c38b1 : (a0_0 != 4) = true := bne_iff_ne.mpr c38
     by_cases c51 : a0_0 = 5
     ·rw [if_pos c51] at H
      have c51b0 : (a0_0 == 5) = true := beq_iff_eq.mpr c51
      have c51b1 : (a0_0 != 5) = false := bne_eq_false_iff_eq.mpr c51
      clear c51
      replace H := Option.bind_eq_some_iff.mp H
      obtain ⟨⟨t232, t233⟩, A520, H⟩ := H
      replace H : (some (0, 0, 0, ([] : List (S33)), t232, t233)) = some (r1, r2, r3, r4, r5, r6) := H
      have A52 := AX A520
      clear A520
      simp only [Option.some.injEq, Prod.mk.injEq] at H
      obtain ⟨rfl, rfl, rfl, rfl, rfl, rfl⟩ := H
      go_enter Try.func13, Try.ntmps13
      go_wp2_with (first | ((with_reducible refine gate_dst (N := 1) rfl ?_); refine bx 1 #[.int .i64 a0_0, .int .i64 a0_1, .int .i64 a0_2, .int .i64 a0_3, .int .i64 a0_4, .slice A0_5 l0_5.length c0_5, .int .i64 a0_6, .int .i64 a0_7, .int .i64 a0_8, .int .i64 a0_9] 43 ?_; intro gb216 hg w53 hbox hb; have BK216 := AX (hbox); have GW216 := gwl (w := w) hg bw; have GE216 := GW216; replace HB := AX (below_step bw hb); clear hb hbox hg) | ((with_reducible refine gate_dst (N := 2) rfl ?_); refine bx 2 #[.int .i64 0, .int .i64 0, .int .i64 0, .slice none 0 0, .bool false, .int .i64 0] 40 ?_; intro gb217 hg w54 hbox hb; have BK217 := AX (hbox); have GW217 := gwl (w := w) hg bw; have GE217 := GW217; have NB216_217 := nbl hg (bkn BK216); have NB217_216 := nbg hg (bkn BK216); replace BK216 := AX (bkb BK216 hb); replace HB := AX (below_step bw hb); clear hb hbox hg) | ((with_reducible refine gate_dst (N := 3) rfl ?_); refine bx 3 #[.int .i64 0, .int .i64 0, .int .i64 0, .slice none 0 0, .bool false, .int .i64 0] 40 ?_; intro gb218 hg w55 hbox hb; have BK218 := AX (hbox); have GW218 := gwl (w := w) hg bw; have GE218 := GW218; have NB216_218 := nbl hg (bkn BK216); have NB218_216 := nbg hg (bkn BK216); have NB217_218 := nbl hg (bkn BK217); have NB218_217 := nbg hg (bkn BK217); replace BK216 := AX (bkb BK216 hb); replace BK217 := AX (bkb BK217 hb); replace HB := AX (below_step bw hb); clear hb hbox hg; have hnb56 := NB216_217.out; have hnc56 := NB217_216.out; have hnb57 := NB216_218.out; have hnc57 := NB218_216.out; obtain ⟨hcz58_0, hcz58_1, hcz58_2, hcz58_3, hcz58_4, hcz58_5, hcz58_6, hcz58_7, hcz58_8, hcz58_9⟩ := blkC10 (w := w55) BK216.out; obtain ⟨hfz58_0, hfz58_1, hfz58_2, hfz58_3, hfz58_4, hfz58_5, hfz58_6, hfz58_7, hfz58_8, hfz58_9⟩ := blkF10 BK216.out) | ((with_reducible refine gate_callee (f := 17) rfl ?_); refine gL (some 53) Try.func17 #[.slice A0_5 l0_5.length c0_5, .agg #[.int .i64 a0_7, .int .i64 a0_8, .int .i64 a0_9]] ?_; (with_reducible refine (holiday_Is.calls k _ _ l0_5 a0_7 a0_8 a0_9 t232 t233 _ ?side1 ?side2 A52.out).mono ?_); (case side1 => repeat (first | exact (Kd.C_below HR0_5.out HB.out) | (with_reducible refine Kd.C_alloc ?_ _) | (with_reducible refine Kd.C_drewN ?_ _) | (with_reducible refine Kd.C_drew ?_))); (case side2 => exact HC0_5.out); rintro e w59 ⟨rfl, hb⟩; refine ⟨_, rfl, ?_⟩; replace BK216 := AX (bkb BK216 hb); replace BK217 := AX (bkb BK217 hb); replace BK218 := AX (bkb BK218 hb); replace HB := AX (below_step bw hb); (try clear hb); (try clear hb2); (try clear hk); (try clear hi); have hnb60 := NB218_217.out; have hnc60 := NB217_218.out; obtain ⟨hcz61_0, hcz61_1, hcz61_2, hcz61_3, hcz61_4, hcz61_5⟩ := blkC6 (w := w59) BK218.out; obtain ⟨hfz61_0, hfz61_1, hfz61_2, hfz61_3, hfz61_4, hfz61_5⟩ := blkF6 BK218.out; obtain ⟨hcz62_0, hcz62_1, hcz62_2, hcz62_3, hcz62_4, hcz62_5⟩ := blkC6 (w := w59) BK217.out; obtain ⟨hfz62_0, hfz62_1, hfz62_2, hfz62_3, hfz62_4, hfz62_5⟩ := blkF6 BK217.out))
      refine bodyPost_ret (results_cell_row rfl _ _ gb217 40 #[.int .i64 0, .int .i64 0, .int .i64 0, .slice none 0 0, .bool t232, .int .i64 t233] (0, 0) _ rfl (by (with_reducible repeat first|refine blk_drewN ?_ _|refine blk_drew ?_|refine blk_alloc ?_ _); refine blk_put (cs := #[.int .i64 0, .int .i64 0, .int .i64 0, .slice none 0 0, .bool t232, .int .i64 0]) ?_ 5 _ rfl; (with_reducible repeat first|refine blk_drewN ?_ _|refine blk_drew ?_|refine blk_alloc ?_ _); refine blk_put (cs := #[.int .i64 0, .int .i64 0, .int .i64 0, .slice none 0 0, .bool false, .int .i64 0]) ?_ 4 _ rfl; (with_reducible repeat first|refine blk_drewN ?_ _|refine blk_drew ?_|refine blk_alloc ?_ _); refine blk_put (cs := #[.int .i64 0, .int .i64 0, .int .i64 0, .slice none 0 0, .bool false, .int .i64 0]) ?_ 3 _ rfl; (with_reducible repeat first|refine blk_drewN ?_ _|refine blk_drew ?_|refine blk_alloc ?_ _); refine blk_put (cs := #[.int .i64 0, .int .i64 0, .int .i64 0, .slice none 0 0, .bool false, .int .i64 0]) ?_ 2 _ rfl; (with_reducible repeat first|refine blk_drewN ?_ _|refine blk_drew ?_|refine blk_alloc ?_ _); refine blk_put (cs := #[.int .i64 0, .int .i64 0, .int .i64 0, .slice none 0 0, .bool false, .int .i64 0]) ?_ 1 _ rfl; (with_reducible repeat first|refine blk_drewN ?_ _|refine blk_drew ?_|refine blk_alloc ?_ _); refine blk_put (cs := #[.int .i64 0, .int .i64 0, .int .i64 0, .slice none 0 0, .bool false, .int .i64 0]) ?_ 0 _ rfl; (with_reducible repeat first|refine blk_drewN ?_ _|refine blk_drew ?_|refine blk_alloc ?_ _); refine blk_far ?_ NB217_218.out _; (with_reducible repeat first|refine blk_drewN ?_ _|refine blk_drew ?_|refine blk_alloc ?_ _); refine blk_far ?_ NB217_218.out _; (with_reducible repeat first|refine blk_drewN ?_ _|refine blk_drew ?_|refine blk_alloc ?_ _); exact BK217.out) Try.underlying40 rfl (by kernel_rfl)) rfl ?_
      exact ⟨_, by first | rfl | (simp [errW_none, errW_some] <;> rfl) | (simp [*, errW_none, errW_some] <;> rfl), by first | exact Kd.R_nil _ _ _ _ _ | exact Kd.N_nil _ _ _ _ _ | exact Kd.V_nil _ _ _ _ _ | exact Kd.Q_nil _ _ _ _ _ | exact Kd.S_nil _ _ _ _ _, bw⟩
     ·rw [if_neg c51] at H
      have c51b0 : (a0_0 == 5) = false := beq_eq_false_iff_ne.mpr c51
      have c51b1 : (a0_0 != 5) = true := bne_iff_ne.mpr c51
      simp only [Option.some.injEq, Prod.mk.injEq] at H
      obtain ⟨rfl, rfl, rfl, rfl, rfl, rfl⟩ := H
      go_enter Try.func13, Try.ntmps13
      go_wp2_with (first | ((with_reducible refine gate_dst (N := 1) rfl ?_); refine bx 1 #[.int .i64 a0_0, .int .i64 a0_1, .int .i64 a0_2, .int .i64 a0_3, .int .i64 a0_4, .slice A0_5 l0_5.length c0_5, .int .i64 a0_6, .int .i64 a0_7, .int .i64 a0_8, .int .i64 a0_9] 43 ?_; intro gb216 hg w63 hbox hb; have BK216 := AX (hbox); have GW216 := gwl (w := w) hg bw; have GE216 := GW216; replace HB := AX (below_step bw hb); clear hb hbox hg) | ((with_reducible refine gate_dst (N := 2) rfl ?_); refine bx 2 #[.int .i64 0, .int .i64 0, .int .i64 0, .slice none 0 0, .bool false, .int .i64 0] 40 ?_; intro gb217 hg w64 hbox hb; have BK217 := AX (hbox); have GW217 := gwl (w := w) hg bw; have GE217 := GW217; have NB216_217 := nbl hg (bkn BK216); have NB217_216 := nbg hg (bkn BK216); replace BK216 := AX (bkb BK216 hb); replace HB := AX (below_step bw hb); clear hb hbox hg) | ((with_reducible refine gate_dst (N := 3) rfl ?_); refine bx 3 #[.int .i64 0, .int .i64 0, .int .i64 0, .slice none 0 0, .bool false, .int .i64 0] 40 ?_; intro gb218 hg w65 hbox hb; have BK218 := AX (hbox); have GW218 := gwl (w := w) hg bw; have GE218 := GW218; have NB216_218 := nbl hg (bkn BK216); have NB218_216 := nbg hg (bkn BK216); have NB217_218 := nbl hg (bkn BK217); have NB218_217 := nbg hg (bkn BK217); replace BK216 := AX (bkb BK216 hb); replace BK217 := AX (bkb BK217 hb); replace HB := AX (below_step bw hb); clear hb hbox hg; have hnb66 := NB216_217.out; have hnc66 := NB217_216.out; have hnb67 := NB216_218.out; have hnc67 := NB218_216.out; obtain ⟨hcz68_0, hcz68_1, hcz68_2, hcz68_3, hcz68_4, hcz68_5, hcz68_6, hcz68_7, hcz68_8, hcz68_9⟩ := blkC10 (w := w65) BK216.out; obtain ⟨hfz68_0, hfz68_1, hfz68_2, hfz68_3, hfz68_4, hfz68_5, hfz68_6, hfz68_7, hfz68_8, hfz68_9⟩ := blkF10 BK216.out; have hnb69 := NB218_217.out; have hnc69 := NB217_218.out; obtain ⟨hcz70_0, hcz70_1, hcz70_2, hcz70_3, hcz70_4, hcz70_5⟩ := blkC6 (w := w65) BK218.out; obtain ⟨hfz70_0, hfz70_1, hfz70_2, hfz70_3, hfz70_4, hfz70_5⟩ := blkF6 BK218.out; obtain ⟨hcz71_0, hcz71_1, hcz71_2, hcz71_3, hcz71_4, hcz71_5⟩ := blkC6 (w := w65) BK217.out; obtain ⟨hfz71_0, hfz71_1, hfz71_2, hfz71_3, hfz71_4, hfz71_5⟩ := blkF6 BK217.out))
      refine bodyPost_ret (results_cell_row rfl _ _ gb217 40 #[.int .i64 0, .int .i64 0, .int .i64 0, .slice none 0 0, .bool false, .int .i64 0] (0, 0) _ rfl (by (with_reducible repeat first|refine blk_drewN ?_ _|refine blk_drew ?_|refine blk_alloc ?_ _); refine blk_put (cs := #[.int .i64 0, .int .i64 0, .int .i64 0, .slice none 0 0, .bool false, .int .i64 0]) ?_ 5 _ rfl; (with_reducible repeat first|refine blk_drewN ?_ _|refine blk_drew ?_|refine blk_alloc ?_ _); refine blk_put (cs := #[.int .i64 0, .int .i64 0, .int .i64 0, .slice none 0 0, .bool false, .int .i64 0]) ?_ 4 _ rfl; (with_reducible repeat first|refine blk_drewN ?_ _|refine blk_drew ?_|refine blk_alloc ?_ _); refine blk_put (cs := #[.int .i64 0, .int .i64 0, .int .i64 0, .slice none 0 0, .bool false, .int .i64 0]) ?_ 3 _ rfl; (with_reducible repeat first|refine blk_drewN ?_ _|refine blk_drew ?_|refine blk_alloc ?_ _); refine blk_put (cs := #[.int .i64 0, .int .i64 0, .int .i64 0, .slice none 0 0, .bool false, .int .i64 0]) ?_ 2 _ rfl; (with_reducible repeat first|refine blk_drewN ?_ _|refine blk_drew ?_|refine blk_alloc ?_ _); refine blk_put (cs := #[.int .i64 0, .int .i64 0, .int .i64 0, .slice none 0 0, .bool false, .int .i64 0]) ?_ 1 _ rfl; (with_reducible repeat first|refine blk_drewN ?_ _|refine blk_drew ?_|refine blk_alloc ?_ _); refine blk_put (cs := #[.int .i64 0, .int .i64 0, .int .i64 0, .slice none 0 0, .bool false, .int .i64 0]) ?_ 0 _ rfl; (with_reducible repeat first|refine blk_drewN ?_ _|refine blk_drew ?_|refine blk_alloc ?_ _); exact BK217.out) Try.underlying40 rfl (by kernel_rfl)) rfl ?_
      exact ⟨_, by first | rfl | (simp [errW_none, errW_some] <;> rfl) | (simp [*, errW_none, errW_some] <;> rfl), by first | exact Kd.R_nil _ _ _ _ _ | exact Kd.N_nil _ _ _ _ _ | exact Kd.V_nil _ _ _ _ _ | exact Kd.Q_nil _ _ _ _ _ | exact Kd.S_nil _ _ _ _ _, bw⟩

/-! ### pylonref03_leap: function 48 -/
def pylonref03_leap.f (a0 : Int) : Option (Bool) := if (Int.tmod a0 4) = 0 then (if (Int.tmod a0 100) = 0 then (some ((Int.tmod a0 400) == 0)) else (some true)) else (some false)
set_option maxHeartbeats 8000000 in
set_option maxRecDepth 100000 in
theorem pylonref03_leap.calls (a0 : Int) (r : Bool) (w : World) (h : pylonref03_leap.f a0 = some r) :
  Calls Try.prog 48 #[.int .i64 a0] w fun e w' => e = .returned (.bool r) ∧ Drawn0 w w' := by
 have H : (if (Int.tmod a0 4) = 0 then (if (Int.tmod a0 100) = 0 then (some ((Int.tmod a0 400) == 0)) else (some true)) else (some false)) = some r := h
 clear h
 by_cases c2 : (Int.tmod a0 4) = 0
 ·rw [if_pos c2] at H
  have c2b0 : ((Int.tmod a0 4) == 0) = true := beq_iff_eq.mpr c2
  have c2b1 : ((Int.tmod a0 4) != 0) = false := bne_eq_false_iff_eq.mpr c2
  clear c2
  by_cases c3 : (Int.tmod a0 100) = 0
  ·rw [if_pos c3] at H
   have c3b0 : ((Int.tmod a0 100) == 0) = true := beq_iff_eq.mpr c3
   have c3b1 : ((Int.tmod a0 100) != 0) = false := bne_eq_false_iff_eq.mpr c3
   clear c3
   obtain rfl := Option.some.inj H
   go_enter Try.func48, Try.ntmps48
   go_wp2
   go_ret
   exact ⟨by first | rfl | (simp; done) | (simp [*]; done), by repeat (first | exact Drawn0.refl _ | apply Drawn0.step)⟩
  ·rw [if_neg c3] at H
   have c3b0 : ((Int.tmod a0 100) == 0) = false := beq_eq_false_iff_ne.mpr c3
   have c3b1 : ((Int.tmod a0 100) != 0) = true := bne_iff_ne.mpr c3
   obtain rfl := Option.some.inj H
   go_enter Try.func48, Try.ntmps48
   go_wp2
   go_ret
   exact ⟨by first | rfl | (simp; done) | (simp [*]; done), by repeat (first | exact Drawn0.refl _ | apply Drawn0.step)⟩
 ·rw [if_neg c2] at H
  have c2b0 : ((Int.tmod a0 4) == 0) = false := beq_eq_false_iff_ne.mpr c2
  have c2b1 : ((Int.tmod a0 4) != 0) = true := bne_iff_ne.mpr c2
  obtain rfl := Option.some.inj H
  go_enter Try.func48, Try.ntmps48
  go_wp2
  go_ret
  exact ⟨by first | rfl | (simp; done) | (simp [*]; done), by repeat (first | exact Drawn0.refl _ | apply Drawn0.step)⟩

/-! ### pylonref03_Length: function 31 -/
mutual
def pylonref03_Length.j0 : Nat → Int → Int → Bool → Option (Int × Int)
 | 0, _, _, _ => none
 | k + 1, x0, x1, x19 => if x19 = true then (some (0, 5)) else (if x1 = 4 then (pylonref03_Length.j1 k x0 x1 (x1 == 4)) else (if x1 = 6 then (pylonref03_Length.j1 k x0 x1 (x1 == 6)) else (if x1 = 9 then (pylonref03_Length.j1 k x0 x1 (x1 == 9)) else (pylonref03_Length.j1 k x0 x1 (x1 == 11)))))
def pylonref03_Length.j1 : Nat → Int → Int → Bool → Option (Int × Int)
 | 0, _, _, _ => none
 | k + 1, x0, x20, x21 => if x21 = true then (some (30, 0)) else (if x20 = 2 then ((pylonref03_leap.f x0).bind fun t234 => (if t234 = true then (some (29, 0)) else (some (28, 0)))) else (some (31, 0)))
end
def pylonref03_Length.f (k : Nat) (a0 : Int) (a1 : Int) : Option (Int × Int) := if a0 < 1 then (pylonref03_Length.j0 k a0 a1 true) else (if a0 > 9999 then (pylonref03_Length.j0 k a0 a1 true) else (if a1 < 1 then (pylonref03_Length.j0 k a0 a1 true) else (pylonref03_Length.j0 k a0 a1 (decide (a1 > 12)))))
theorem pylonref03_Length.mono_l : ∀ k, (∀ y0 y1 y2, LeO (pylonref03_Length.j0 k y0 y1 y2) (pylonref03_Length.j0 (k + 1) y0 y1 y2)) ∧ (∀ y0 y1 y2, LeO (pylonref03_Length.j1 k y0 y1 y2) (pylonref03_Length.j1 (k + 1) y0 y1 y2))
 | 0 => ⟨fun _ _ _ r h => by simp [pylonref03_Length.j0] at h, fun _ _ _ r h => by simp [pylonref03_Length.j1] at h⟩
 | k + 1 => by
  obtain ⟨ih0, ih1⟩ := pylonref03_Length.mono_l k
  refine ⟨?_, ?_⟩
  ·intro y0 y1 y2
   unfold pylonref03_Length.j0
   repeat' first
   | (with_reducible exact ih0 _ _ _)
   | (with_reducible exact ih1 _ _ _)
   | (with_reducible exact LeO.refl _)
   | (with_reducible exact LeO.none _)
   | (with_reducible refine LeO.ite ?_ ?_)
   | (with_reducible refine LeO.bind ?_ (fun _ => ?_))
  ·intro y0 y1 y2
   unfold pylonref03_Length.j1
   repeat' first
   | (with_reducible exact ih0 _ _ _)
   | (with_reducible exact ih1 _ _ _)
   | (with_reducible exact LeO.refl _)
   | (with_reducible exact LeO.none _)
   | (with_reducible refine LeO.ite ?_ ?_)
   | (with_reducible refine LeO.bind ?_ (fun _ => ?_))
theorem pylonref03_Length.mono : ∀ a0 a1 k, LeO (pylonref03_Length.f k a0 a1) (pylonref03_Length.f (k + 1) a0 a1) := by
 intro a0 a1 k
 obtain ⟨ih0, ih1⟩ := pylonref03_Length.mono_l k
 unfold pylonref03_Length.f
 repeat' first
   | (with_reducible exact ih0 _ _ _)
   | (with_reducible exact ih1 _ _ _)
   | (with_reducible exact LeO.refl _)
   | (with_reducible exact LeO.none _)
   | (with_reducible refine LeO.ite ?_ ?_)
   | (with_reducible refine LeO.bind ?_ (fun _ => ?_))
set_option maxHeartbeats 8000000 in
set_option maxRecDepth 100000 in
theorem pylonref03_Length.calls (k : Nat) (a0 : Int) (a1 : Int) (r1 : Int) (r2 : Int) (w : World) (h : pylonref03_Length.f k a0 a1 = some (r1, r2)) :
  Calls Try.prog 31 #[.int .i64 a0, .int .i64 a1] w fun e w' => e = .returned (.tuple #[.int .i64 r1, .int .i64 r2]) ∧ Drawn0 w w' := by
 have H : (if a0 < 1 then (pylonref03_Length.j0 k a0 a1 true) else (if a0 > 9999 then (pylonref03_Length.j0 k a0 a1 true) else (if a1 < 1 then (pylonref03_Length.j0 k a0 a1 true) else (pylonref03_Length.j0 k a0 a1 (decide (a1 > 12)))))) = some (r1, r2) := h
 clear h
 have HC3 := AX H
 clear H
 go_enter Try.func31, Try.ntmps31
 go_upto_region 1 with (fail)
 go_cut [19] (fun v19 wc => ∃ (kq : Nat) (x19_2 : Bool), v19 = .bool x19_2 ∧ Aside0 (pylonref03_Length.j0 kq a0 a1 x19_2 = some (r1, r2)) ∧ Aside0 (kq ≤ k) ∧ Drawn0 w wc)
 case first =>
  have H := HC3.out
  clear HC3
  by_cases c4 : a0 < 1
  ·rw [if_pos c4] at H
   have c4b0 : decide (a0 < 1) = true := decide_eq_true c4
   clear c4
   (first | rw [c4b0] | (simp only [i64_w, i32_w]; rw [c4b0]) | skip)
   have H' := AX H
   clear H
   go_wp2
   go_meet
   case rel => exact ⟨_, (true), (by first | rfl | (simp; done) | (simp [*]; done)), H', ⟨by first | omega | exact Nat.le_refl _⟩, by repeat (first | exact Drawn0.refl _ | apply Drawn0.step)⟩
  ·rw [if_neg c4] at H
   have c4b0 : decide (a0 < 1) = false := decide_eq_false c4
   clear c4
   (first | rw [c4b0] | (simp only [i64_w, i32_w]; rw [c4b0]) | skip)
   by_cases c5 : a0 > 9999
   ·rw [if_pos c5] at H
    have c5b0 : decide (9999 < a0) = true := decide_eq_true c5
    clear c5
    have H' := AX H
    clear H
    go_wp2
    go_meet
    case rel => exact ⟨_, (true), (by first | rfl | (simp; done) | (simp [*]; done)), H', ⟨by first | omega | exact Nat.le_refl _⟩, by repeat (first | exact Drawn0.refl _ | apply Drawn0.step)⟩
   ·rw [if_neg c5] at H
    have c5b0 : decide (9999 < a0) = false := decide_eq_false c5
    clear c5
    by_cases c6 : a1 < 1
    ·rw [if_pos c6] at H
     have c6b0 : decide (a1 < 1) = true := decide_eq_true c6
     clear c6
     have H' := AX H
     clear H
     go_wp2
     go_meet
     case rel => exact ⟨_, (true), (by first | rfl | (simp; done) | (simp [*]; done)), H', ⟨by first | omega | exact Nat.le_refl _⟩, by repeat (first | exact Drawn0.refl _ | apply Drawn0.step)⟩
    ·rw [if_neg c6] at H
     have c6b0 : decide (a1 < 1) = false := decide_eq_false c6
     clear c6
     have H' := AX H
     clear H
     go_wp2
     go_meet
     case rel => exact ⟨_, (decide (a1 > 12)), (by first | rfl | (simp; done) | (simp [*]; done)), H', ⟨by first | omega | exact Nat.le_refl _⟩, by repeat (first | exact Drawn0.refl _ | apply Drawn0.step)⟩
 case rest =>
  clear HC3
  obtain ⟨kq, x19_2, rfl, HA, HJ2, ⟨mc2, rfl⟩⟩ := hcut
  cases kq with
  | zero => exact absurd HA.out (by simp [pylonref03_Length.j0])
  | succ kj2 =>
   have H := HA.out
   clear HA
   simp only [pylonref03_Length.j0] at H
   by_cases c7 : x19_2 = true
   ·subst c7
    have H1 : (some (0, 5)) = some (r1, r2) := by rw [if_pos rfl] at H; exact H
    clear H
    have H := H1
    clear H1
    simp only [Option.some.injEq, Prod.mk.injEq] at H
    obtain ⟨rfl, rfl⟩ := H
    go_wp2
    go_ret2
    exact ⟨by first | rfl | (simp; done) | (simp [*]; done), by repeat (first | exact Drawn0.refl _ | apply Drawn0.step)⟩
   ·replace c7 := Bool.eq_false_iff.mpr c7
    subst c7
    have H1 : (if a1 = 4 then (pylonref03_Length.j1 kj2 a0 a1 (a1 == 4)) else (if a1 = 6 then (pylonref03_Length.j1 kj2 a0 a1 (a1 == 6)) else (if a1 = 9 then (pylonref03_Length.j1 kj2 a0 a1 (a1 == 9)) else (pylonref03_Length.j1 kj2 a0 a1 (a1 == 11))))) = some (r1, r2) := by rw [if_neg (show ¬ (false = true) by decide)] at H; exact H
    clear H
    have H := H1
    clear H1
    have HC8 := AX H
    clear H
    go_upto_if 21 with (fail)
    go_cut [21] (fun v21 wc => ∃ (kq : Nat) (x21_7 : Bool), v21 = .bool x21_7 ∧ Aside0 (pylonref03_Length.j1 kq a0 a1 x21_7 = some (r1, r2)) ∧ Aside0 (kq ≤ kj2) ∧ Drawn0 w wc)
    case first =>
     have H := HC8.out
     clear HC8
     by_cases c9 : a1 = 4
     ·rw [if_pos c9] at H
      have c9b0 : (a1 == 4) = true := beq_iff_eq.mpr c9
      have c9b1 : (a1 != 4) = false := bne_eq_false_iff_eq.mpr c9
      clear c9
      (first | rw [c9b0] | (simp only [i64_w, i32_w]; rw [c9b0]) | skip)
      have H' := AX H
      clear H
      go_wp2
      go_meet
      case rel => exact ⟨_, ((a1 == 4)), (by first | rfl | (simp; done) | (simp [*]; done)), H', ⟨by have := HJ2.out; first | omega | exact Nat.le_refl _⟩, by repeat (first | exact Drawn0.refl _ | apply Drawn0.step)⟩
     ·rw [if_neg c9] at H
      have c9b0 : (a1 == 4) = false := beq_eq_false_iff_ne.mpr c9
      have c9b1 : (a1 != 4) = true := bne_iff_ne.mpr c9
      (first | rw [c9b0] | (simp only [i64_w, i32_w]; rw [c9b0]) | skip)
      by_cases c10 : a1 = 6
      ·rw [if_pos c10] at H
       have c10b0 : (a1 == 6) = true := beq_iff_eq.mpr c10
       have c10b1 : (a1 != 6) = false := bne_eq_false_iff_eq.mpr c10
       clear c10
       have H' := AX H
       clear H
       go_wp2
       go_meet
       case rel => exact ⟨_, ((a1 == 6)), (by first | rfl | (simp; done) | (simp [*]; done)), H', ⟨by have := HJ2.out; first | omega | exact Nat.le_refl _⟩, by repeat (first | exact Drawn0.refl _ | apply Drawn0.step)⟩
      ·rw [if_neg c10] at H
       have c10b0 : (a1 == 6) = false := beq_eq_false_iff_ne.mpr c10
       have c10b1 : (a1 != 6) = true := bne_iff_ne.mpr c10
       by_cases c11 : a1 = 9
       ·rw [if_pos c11] at H
        have c11b0 : (a1 == 9) = true := beq_iff_eq.mpr c11
        have c11b1 : (a1 != 9) = false := bne_eq_false_iff_eq.mpr c11
        clear c11
        have H' := AX H
        clear H
        go_wp2
        go_meet
        case rel => exact ⟨_, ((a1 == 9)), (by first | rfl | (simp; done) | (simp [*]; done)), H', ⟨by have := HJ2.out; first | omega | exact Nat.le_refl _⟩, by repeat (first | exact Drawn0.refl _ | apply Drawn0.step)⟩
       ·rw [if_neg c11] at H
        have c11b0 : (a1 == 9) = false := beq_eq_false_iff_ne.mpr c11
        have c11b1 : (a1 != 9) = true := bne_iff_ne.mpr c11
        have H' := AX H
        clear H
        go_wp2
        go_meet
        case rel => exact ⟨_, ((a1 == 11)), (by first | rfl | (simp; done) | (simp [*]; done)), H', ⟨by have := HJ2.out; first | omega | exact Nat.le_refl _⟩, by repeat (first | exact Drawn0.refl _ | apply Drawn0.step)⟩
    case rest =>
     clear HC8
     try clear c7
     obtain ⟨kq, x21_7, rfl, HA, HJ7, ⟨mc7, rfl⟩⟩ := hcut
     cases kq with
     | zero => exact absurd HA.out (by simp [pylonref03_Length.j1])
     | succ kj7 =>
      have H := HA.out
      clear HA
      simp only [pylonref03_Length.j1] at H
      by_cases c12 : x21_7 = true
      ·subst c12
       have H1 : (some (30, 0)) = some (r1, r2) := by rw [if_pos rfl] at H; exact H
       clear H
       have H := H1
       clear H1
       simp only [Option.some.injEq, Prod.mk.injEq] at H
       obtain ⟨rfl, rfl⟩ := H
       go_wp2
       go_ret2
       exact ⟨by first | rfl | (simp; done) | (simp [*]; done), by repeat (first | exact Drawn0.refl _ | apply Drawn0.step)⟩
      ·replace c12 := Bool.eq_false_iff.mpr c12
       subst c12
       have H1 : (if a1 = 2 then ((pylonref03_leap.f a0).bind fun t234 => (if t234 = true then (some (29, 0)) else (some (28, 0)))) else (some (31, 0))) = some (r1, r2) := by rw [if_neg (show ¬ (false = true) by decide)] at H; exact H
       clear H
       have H := H1
       clear H1
       by_cases c13 : a1 = 2
       ·rw [if_pos c13] at H
        have c13b0 : (a1 == 2) = true := beq_iff_eq.mpr c13
        have c13b1 : (a1 != 2) = false := bne_eq_false_iff_eq.mpr c13
        clear c13
        replace H := Option.bind_eq_some_iff.mp H
        obtain ⟨t234, A140, H⟩ := H
        replace H : (if t234 = true then (some (29, 0)) else (some (28, 0))) = some (r1, r2) := H
        have A14 := AX A140
        clear A140
        by_cases c15 : t234 = true
        ·subst c15
         have H1 : (some (29, 0)) = some (r1, r2) := by rw [if_pos rfl] at H; exact H
         clear H
         have H := H1
         clear H1
         simp only [Option.some.injEq, Prod.mk.injEq] at H
         obtain ⟨rfl, rfl⟩ := H
         go_wp2_with (first | ((with_reducible refine gate_callee (f := 48) rfl ?_); refine gL (some 29) Try.func48 #[.int .i64 a0] ?_; (with_reducible refine (pylonref03_leap.calls a0 true _ A14.out).mono ?_); rintro e w' ⟨rfl, ⟨nd, rfl⟩⟩; refine ⟨_, rfl, ?_⟩))
         go_ret2
         exact ⟨by first | rfl | (simp; done) | (simp [*]; done), by repeat (first | exact Drawn0.refl _ | apply Drawn0.step)⟩
        ·replace c15 := Bool.eq_false_iff.mpr c15
         subst c15
         have H1 : (some (28, 0)) = some (r1, r2) := by rw [if_neg (show ¬ (false = true) by decide)] at H; exact H
         clear H
         have H := H1
         clear H1
         simp only [Option.some.injEq, Prod.mk.injEq] at H
         obtain ⟨rfl, rfl⟩ := H
         go_wp2_with (first | ((with_reducible refine gate_callee (f := 48) rfl ?_); refine gL (some 29) Try.func48 #[.int .i64 a0] ?_; (with_reducible refine (pylonref03_leap.calls a0 false _ A14.out).mono ?_); rintro e w' ⟨rfl, ⟨nd, rfl⟩⟩; refine ⟨_, rfl, ?_⟩))
         go_ret2
         exact ⟨by first | rfl | (simp; done) | (simp [*]; done), by repeat (first | exact Drawn0.refl _ | apply Drawn0.step)⟩
       ·rw [if_neg c13] at H
        have c13b0 : (a1 == 2) = false := beq_eq_false_iff_ne.mpr c13
        have c13b1 : (a1 != 2) = true := bne_iff_ne.mpr c13
        simp only [Option.some.injEq, Prod.mk.injEq] at H
        obtain ⟨rfl, rfl⟩ := H
        go_wp2
        go_ret2
        exact ⟨by first | rfl | (simp; done) | (simp [*]; done), by repeat (first | exact Drawn0.refl _ | apply Drawn0.step)⟩

end Go.Proofs.Ytegedhnbmclbkaa.PX
