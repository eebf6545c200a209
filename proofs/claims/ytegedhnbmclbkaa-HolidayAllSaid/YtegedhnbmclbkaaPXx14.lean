/- Functions of the program as plain Lean functions, each with a proof that the call in the machine answers just what the plain function says; condition: the plain function answers at all. -/
import Derived.Test.YtegedhnbmclbkaaPXx0
import Derived.Test.YtegedhnbmclbkaaPXx2
import Derived.Test.YtegedhnbmclbkaaPXx5
import Derived.Test.YtegedhnbmclbkaaPXx6
namespace Go.Proofs.Ytegedhnbmclbkaa.PX
open Go.RowKit Go.Proofs.YtegedhnbmclbkaaW.PrintWords Go.Proofs.YtegedhnbmclbkaaW.PrintLast Go.Proofs.YtegedhnbmclbkaaW.PrintMore
attribute [local go_sem] max2_int min2_int max_two min_two max_three min_three max_four min_four   -- for this text's walks alone
set_option linter.unusedVariables false
set_option linter.unusedSimpArgs false

/-! ### pylonlaw05_HolidayOrder: function 3 -/
def pylonlaw05_HolidayOrder.l0 : Nat → List (S25) → Int → List (S25) → Int → Option (Bool)
 | 0, _, _, _, _ => none
 | k + 1, x0, x1, x5, x6 => if x6 ≥ 0 then (if 0 ≤ x6 then (if x6 < (x0.length : Int) then (if x5.length < 4398046511104 then (pylonlaw05_HolidayOrder.l0 k x0 x1 (x5 ++ [(⟨(rd_T25 x0 x6).f0, (rd_T25 x0 x6).f1, (rd_T25 x0 x6).f2, (rd_T25 x0 x6).f3⟩ : S25)]) (wrap64 (x6 - 1))) else (none)) else (none)) else (none)) else ((holiday_List.f k x0 x1).bind fun bt167 => ((holiday_List.f k x5 x1).bind fun bt171 => (if bt167.2 = bt171.2 then ((pylonref13_SameDates.f k bt167.1 bt171.1).bind fun t175 => (some t175)) else (some false))))
def pylonlaw05_HolidayOrder.f (k : Nat) (l0 : List (S25)) (a1 : Int) : Option (Bool) := (pylonlaw05_awake.f).bind fun t156 => (if t156 = true then ((some (([] : List (S25)) : List (S25))).bind fun y157 => (if y157.length + l0.length < 4398046511104 then (pylonlaw05_HolidayOrder.l0 k l0 a1 (y157 ++ l0) (wrap64 ((l0.length : Int) - 1))) else (none))) else (some false))
theorem pylonlaw05_HolidayOrder.mono_l : ∀ k, (∀ y0 y1 y2 y3, LeO (pylonlaw05_HolidayOrder.l0 k y0 y1 y2 y3) (pylonlaw05_HolidayOrder.l0 (k + 1) y0 y1 y2 y3))
 | 0 => fun _ _ _ _ r h => by simp [pylonlaw05_HolidayOrder.l0] at h
 | k + 1 => by
  have ih0 := pylonlaw05_HolidayOrder.mono_l k
  ·intro y0 y1 y2 y3
   unfold pylonlaw05_HolidayOrder.l0
   repeat' first
   | (with_reducible exact ih0 _ _ _ _)
   | (with_reducible exact holiday_List.mono _ _ _)
   | (with_reducible exact pylonref13_SameDates.mono _ _ _)
   | (with_reducible exact LeO.refl _)
   | (with_reducible exact LeO.none _)
   | (with_reducible refine LeO.ite ?_ ?_)
   | (with_reducible refine LeO.bind ?_ (fun _ => ?_))
theorem pylonlaw05_HolidayOrder.mono : ∀ a0 a1 k, LeO (pylonlaw05_HolidayOrder.f k a0 a1) (pylonlaw05_HolidayOrder.f (k + 1) a0 a1) := by
 intro a0 a1 k
 have ih0 := pylonlaw05_HolidayOrder.mono_l k
 unfold pylonlaw05_HolidayOrder.f
 repeat' first
   | (with_reducible exact ih0 _ _ _ _)
   | (with_reducible exact holiday_List.mono _ _ _)
   | (with_reducible exact pylonref13_SameDates.mono _ _ _)
   | (with_reducible exact LeO.refl _)
   | (with_reducible exact LeO.none _)
   | (with_reducible refine LeO.ite ?_ ?_)
   | (with_reducible refine LeO.bind ?_ (fun _ => ?_))
set_option maxHeartbeats 8000000 in
set_option maxRecDepth 100000 in
theorem pylonlaw05_HolidayOrder.calls (k : Nat) (A0 : Option Addr) (c0 : Nat) (l0 : List (S25)) (a1 : Int) (r : Bool) (w : World) (hr0 : Kd.C k25 w A0 l0.length l0) (hc0 : l0.length ≤ c0) (h : pylonlaw05_HolidayOrder.f k l0 a1 = some r) :
  Calls Try.prog 3 #[.slice A0 l0.length c0, .int .i64 a1] w fun e w' => e = .returned (.bool r) ∧ Below w.heap.size w w' := by
 have hu25 := Try.underlying25
 have HR0 := AX hr0
 have HC0 := AX hc0
 clear hr0 hc0
 have HB := AX (Below.refl w.heap.size w)
 have H : ((pylonlaw05_awake.f).bind fun t156 => (if t156 = true then ((some (([] : List (S25)) : List (S25))).bind fun y157 => (if y157.length + l0.length < 4398046511104 then (pylonlaw05_HolidayOrder.l0 k l0 a1 (y157 ++ l0) (wrap64 ((l0.length : Int) - 1))) else (none))) else (some false))) = some r := h
 clear h
 replace H := Option.bind_eq_some_iff.mp H
 obtain ⟨t156, A30, H⟩ := H
 replace H : (if t156 = true then ((some (([] : List (S25)) : List (S25))).bind fun y157 => (if y157.length + l0.length < 4398046511104 then (pylonlaw05_HolidayOrder.l0 k l0 a1 (y157 ++ l0) (wrap64 ((l0.length : Int) - 1))) else (none))) else (some false)) = some r := H
 have A3 := AX A30
 clear A30
 by_cases c4 : t156 = true
 ·subst c4
  have H1 : ((some (([] : List (S25)) : List (S25))).bind fun y157 => (if y157.length + l0.length < 4398046511104 then (pylonlaw05_HolidayOrder.l0 k l0 a1 (y157 ++ l0) (wrap64 ((l0.length : Int) - 1))) else (none))) = some r := by rw [if_pos rfl] at H; exact H
  clear H
  have H := H1
  clear H1
  obtain ⟨y157, hy157⟩ : ∃ y_ : List (S25), y_ = (([] : List (S25))) := ⟨_, rfl⟩
  replace H : (if y157.length + l0.length < 4398046511104 then (pylonlaw05_HolidayOrder.l0 k l0 a1 (y157 ++ l0) (wrap64 ((l0.length : Int) - 1))) else (none)) = some r := by first | (rw [hy157]; with_reducible exact H) | (have H2_ := (Option.bind_some _ _).symm.trans H; rw [hy157]; with_reducible exact H2_) | (have H2_ := (Option.bind_some _ _).symm.trans H; with_reducible exact H2_) | with_reducible exact H | (rw [hy157]; exact H) | exact H
  have Ny157 := AX hy157
  clear hy157
  by_cases c5 : y157.length + l0.length < 4398046511104
  ·rw [if_pos c5] at H
   have LMc5 := AX c5
   clear c5
   obtain ⟨y160, hy160⟩ : ∃ y_ : List (S25), y_ = (y157 ++ l0) := ⟨_, rfl⟩
   replace H : (pylonlaw05_HolidayOrder.l0 k l0 a1 y160 (wrap64 ((l0.length : Int) - 1))) = some r := by first | (rw [hy160]; with_reducible exact H) | (have H2_ := (Option.bind_some _ _).symm.trans H; rw [hy160]; with_reducible exact H2_) | (have H2_ := (Option.bind_some _ _).symm.trans H; with_reducible exact H2_) | with_reducible exact H | (rw [hy160]; exact H) | exact H
   have Ny160 := AX hy160
   clear hy160
   have H' := AX H
   clear H
   go_enter Try.func3, Try.ntmps3
   go_wp2_with (first | ((with_reducible refine gate_callee (f := 8) rfl ?_); refine gL (some 11) Try.func8 #[] ?_; (with_reducible refine (pylonlaw05_awake.calls  true _ A3.out).mono ?_); rintro e w6 ⟨rfl, hb⟩; refine ⟨_, rfl, ?_⟩; replace HB := AX (below_step bw hb); (try clear hb)) | ((with_reducible refine gate_dst (N := 13) rfl ?_); refine Kd.R_lit k25 _ 25 ?hg (N := 13) ?hd (xs := ([] : List (S25))) (inner := []) (ok := fun _ => True) (okp := fun _ => True) ?hr ?hp (fun _ hk => hk) trivial (Below.refl _ _) (Nat.le_refl _) (by simp) ?_; (case hd => rfl); (case hg => rfl); (case hr => first | (go_simp; done) | (go_simp; rfl)); (case hp => exact (Reps.none _ _)); intro v158 w7 ho8 hb hg_ hnew_; clear hg_ hnew_; (first | rw [← Ny157.out] at ho8 | (simp only [Int.reduceToNat] at ho8; rw [← Ny157.out] at ho8)); have HO159 := AX (Kd.R_lower ho8 (below_size bw)); replace HB := AX (below_step bw hb); clear hb ho8) | ((with_reducible refine gate_builtin (b := .append) (xs := #[.tmp 13, .tmp 14]) rfl ?_); at_builtin; refine Kd.R_append_rows k25 (w0 := w) w.heap.size rfl (.tmp 13) (.tmp 14) 22 25 (.agg #[(.int .i64 0), (.int .i64 0), (.int .i64 0), (.int .i64 0)]) 32 rfl Try.underlying22 info25 rfl (by decide) (by omega) v158 y157 l0 _ _ _ (fun _ => True) (fun _ => False) rfl rfl ?aO ?aR (fun _ _ h => h) (fun _ h => h.elim) ?aF ?aB ?aS ?aL ?_; (case aR => repeat (first | exact (Kd.C_below HR0.out HB.out) | (with_reducible refine Kd.C_alloc ?_ _) | (with_reducible refine Kd.C_drewN ?_ _) | (with_reducible refine Kd.C_drew ?_))); (case aB => exact bw); (case aF => exact (fun _ _ => trivial)); (case aO => exact (kr HO159)); (case aS => exact (below_size bw)); (case aL => have := LMc5.out; omega); intro v161 w9 ho hb hg hat; rw [← Ny160.out] at ho; have n0_ := AX (hb); have n1_ := AX (ho); clear HB; clear HO159; have HB := n0_; have HO162 := n1_; clear n0_ n1_; clear ho hb hg hat))
   go_loopg [5, 6] k (fun kq v5 v6 w' => ∃ (x5_1 : List (S25)) (x6_1 : Int), v6 = .int .i64 x6_1 ∧ Aside0 (pylonlaw05_HolidayOrder.l0 kq l0 a1 x5_1 x6_1 = some r) ∧ Aside0 (kq ≤ k) ∧ Aside0 (Kd.R k25 25 w' w.heap.size (fun _ => True) v5 x5_1) ∧ Aside0 (Below w.heap.size w w'))
   case atStart => exact ⟨(y160), (wrap64 ((l0.length : Int) - 1)), (by first | rfl | (simp; done) | (simp [*]; done)), H', ⟨Nat.le_refl _⟩, ⟨kr HO162⟩, ⟨bw⟩⟩
   case round =>
    clear H'
    try clear c4
    obtain ⟨x5_1, x6_1, rfl, HA, HK1, HO_5, HB⟩ := hrel
    cases gk with
    | zero => exact absurd HA.out (by simp [pylonlaw05_HolidayOrder.l0])
    | succ k1 =>
     have H := HA.out
     clear HA
     simp only [pylonlaw05_HolidayOrder.l0] at H
     by_cases c10 : x6_1 ≥ 0
     ·rw [if_pos c10] at H
      have c10b0 : decide (0 ≤ x6_1) = true := decide_eq_true c10
      clear c10
      by_cases c11 : 0 ≤ x6_1
      ·rw [if_pos c11] at H
       have c11b0 : decide (0 ≤ x6_1) = true := decide_eq_true c11
       clear c11
       by_cases c12 : x6_1 < (l0.length : Int)
       ·rw [if_pos c12] at H
        have c12b0 : decide (x6_1 < (l0.length : Int)) = true := decide_eq_true c12
        clear c12
        by_cases c13 : x5_1.length < 4398046511104
        ·rw [if_pos c13] at H
         have LMc13 := AX c13
         clear c13
         obtain ⟨y164, hy164⟩ : ∃ y_ : List (S25), y_ = (x5_1 ++ [(⟨(rd_T25 l0 x6_1).f0, (rd_T25 l0 x6_1).f1, (rd_T25 l0 x6_1).f2, (rd_T25 l0 x6_1).f3⟩ : S25)]) := ⟨_, rfl⟩
         replace H : (pylonlaw05_HolidayOrder.l0 k1 l0 a1 y164 (wrap64 (x6_1 - 1))) = some r := by first | (rw [hy164]; with_reducible exact H) | (have H2_ := (Option.bind_some _ _).symm.trans H; rw [hy164]; with_reducible exact H2_) | (have H2_ := (Option.bind_some _ _).symm.trans H; with_reducible exact H2_) | with_reducible exact H | (rw [hy164]; exact H) | exact H
         have Ny164 := AX hy164
         clear hy164
         have H' := AX H
         clear H
         have p163 : 0 ≤ (x6_1 : Int) := of_decide_eq_true (by first | (with_reducible assumption) | assumption)
         have q163 : x6_1 < (l0.length : Int) := of_decide_eq_true (by first | (with_reducible assumption) | assumption)
         obtain ⟨ad163, e163, hx163_0, hx163_1, hx163_2, hx163_3⟩ := at_T25 HR0.out x6_1 p163 q163
         cases e163
         replace hx163_0 := bcl HB hx163_0
         replace hx163_1 := bcl HB hx163_1
         replace hx163_2 := bcl HB hx163_2
         replace hx163_3 := bcl HB hx163_3
         replace p163 := eq_true p163
         replace q163 := eq_true q163
         go_wp2_with (first | ((with_reducible refine gate_builtin (b := .append) (xs := #[.tmp 23, .tmp 28]) rfl ?_); at_builtin; refine Kd.R_append k25 (w0 := w) w.heap.size rfl (.tmp 23) (.tmp 28) 22 25 (.agg #[(.int .i64 0), (.int .i64 0), (.int .i64 0), (.int .i64 0)]) 32 rfl Try.underlying22 info25 rfl (by decide) (by omega) u5 x5_1 (⟨(rd_T25 l0 x6_1).f0, (rd_T25 l0 x6_1).f1, (rd_T25 l0 x6_1).f2, (rd_T25 l0 x6_1).f3⟩ : S25) [.int .i64 ((rd_T25 l0 x6_1).f0), .int .i64 ((rd_T25 l0 x6_1).f1), .int .i64 ((rd_T25 l0 x6_1).f2), .int .i64 ((rd_T25 l0 x6_1).f3)] (fun _ => True) (fun _ => False) rfl rfl ?aP (fun _ hk => hk.elim) ?aF ?aO ?aB ?aS ?aL ?_; (case aP => exact k25_mkM _ _ _ (⟨(rd_T25 l0 x6_1).f0, (rd_T25 l0 x6_1).f1, (rd_T25 l0 x6_1).f2, (rd_T25 l0 x6_1).f3⟩ : S25)); (case aB => exact bw); (case aF => exact (fun _ _ => trivial)); (case aO => exact (kr HO_5)); (case aS => exact (below_size bw)); (case aL => have := LMc13.out; omega); intro v165 w14 ho hb hg hat; rw [← Ny164.out] at ho; have n0_ := AX (hb); have n1_ := AX (ho); clear HB; clear HO_5; have HB := n0_; have HO166 := n1_; clear n0_ n1_; clear ho hb hg hat))
         go_roundg k1
         case measure => have := HK1.out; omega
         case rel => exact ⟨(y164), (wrap64 (x6_1 - 1)), (by first | rfl | (simp; done) | (simp [*]; done)), H', ⟨by have := HK1.out; omega⟩, ⟨kr HO166⟩, ⟨bw⟩⟩
        ·rw [if_neg c13] at H
         exact absurd H (by simp)
       ·rw [if_neg c12] at H
        exact absurd H (by simp)
      ·rw [if_neg c11] at H
       exact absurd H (by simp)
     ·rw [if_neg c10] at H
      have c10b0 : decide (0 ≤ x6_1) = false := decide_eq_false c10
      clear c10
      replace H := Option.bind_eq_some_iff.mp H
      obtain ⟨⟨t167, t168⟩, A150, H⟩ := H
      replace H : ((holiday_List.f k1 x5_1 a1).bind fun bt171 => (if t168 = bt171.2 then ((pylonref13_SameDates.f k1 t167 bt171.1).bind fun t175 => (some t175)) else (some false))) = some r := H
      have A15 := AX A150
      clear A150
      replace H := Option.bind_eq_some_iff.mp H
      obtain ⟨⟨t171, t172⟩, A160, H⟩ := H
      replace H : (if t168 = t172 then ((pylonref13_SameDates.f k1 t167 t171).bind fun t175 => (some t175)) else (some false)) = some r := H
      have A16 := AX A160
      clear A160
      by_cases c17 : t168 = t172
      ·rw [if_pos c17] at H
       have c17b0 : (t168 == t172) = true := beq_iff_eq.mpr c17
       have c17b1 : (t168 != t172) = false := bne_eq_false_iff_eq.mpr c17
       clear c17
       replace H := Option.bind_eq_some_iff.mp H
       obtain ⟨t175, A180, H⟩ := H
       replace H : (some t175) = some r := H
       have A18 := AX A180
       clear A180
       obtain rfl := Option.some.inj H
       go_wp2_with (first | ((with_reducible refine gate_callee (f := 9) rfl ?_); refine gL (some 33) Try.func9 #[.slice A0 l0.length c0, .int .i64 a1] ?_; (with_reducible refine (holiday_List.calls k1 _ _ l0 a1 t167 t168 _ ?side1 ?side2 A15.out).mono ?_); (case side1 => repeat (first | exact (Kd.C_below HR0.out HB.out) | (with_reducible refine Kd.C_alloc ?_ _) | (with_reducible refine Kd.C_drewN ?_ _) | (with_reducible refine Kd.C_drew ?_))); (case side2 => exact HC0.out); rintro e w19 ⟨v169, rfl, ho0, hb⟩; refine ⟨_, rfl, ?_⟩; have HO170 := AX (Kd.R_lower ho0 (below_size bw)); replace HO_5 := AX (Kd.R_below (kr HO_5) hb); replace HB := AX (below_step bw hb); (try clear hb); (try clear hb2); (try clear hk); (try clear hi); (try clear ho0); obtain ⟨Ao20, co20, eo20⟩ := Kd.R_slice HO_5.out; subst eo20) | ((with_reducible refine gate_callee (f := 9) rfl ?_); refine gL (some 39) Try.func9 #[.slice Ao20 x5_1.length co20, .int .i64 a1] ?_; (with_reducible refine (holiday_List.calls k1 _ _ x5_1 a1 t171 t172 _ ?side1 ?side2 A16.out).mono ?_); (case side1 => repeat (first | exact (Kd.R_reads' HO_5.out).2.2 | (with_reducible refine Kd.C_alloc ?_ _) | (with_reducible refine Kd.C_drewN ?_ _) | (with_reducible refine Kd.C_drew ?_))); (case side2 => exact (Kd.R_reads' HO_5.out).2.1); rintro e w21 ⟨v173, rfl, ho0, hb⟩; refine ⟨_, rfl, ?_⟩; have HO174 := AX (Kd.R_lower (Kd.R_new' ho0 (Kd.R_lt (kr HO170))) (below_size bw)); replace HO_5 := AX (Kd.R_below (kr HO_5) hb); replace HO170 := AX (Kd.R_elder' (kr HO170) (Kd.R_base ho0) hb); replace HB := AX (below_step bw hb); (try clear hb); (try clear hb2); (try clear hk); (try clear hi); (try clear ho0); obtain ⟨Ao22, co22, eo22⟩ := Kd.R_slice HO170.out; subst eo22; obtain ⟨Ao23, co23, eo23⟩ := Kd.R_slice HO174.out; subst eo23) | (go_at_call 10; (with_reducible refine (pylonref13_SameDates.calls k1 _ _ t167 _ _ t171 t175 _ ?side1 ?side2 ?side3 ?side4 A18.out).mono ?_); (case side1 => repeat (first | exact (Kd.R_reads' HO170.out).2.2 | (with_reducible refine Kd.C_alloc ?_ _) | (with_reducible refine Kd.C_drewN ?_ _) | (with_reducible refine Kd.C_drew ?_))); (case side2 => exact (Kd.R_reads' HO170.out).2.1); (case side3 => repeat (first | exact (Kd.R_reads' HO174.out).2.2 | (with_reducible refine Kd.C_alloc ?_ _) | (with_reducible refine Kd.C_drewN ?_ _) | (with_reducible refine Kd.C_drew ?_))); (case side4 => exact (Kd.R_reads' HO174.out).2.1); rintro e w' ⟨rfl, ⟨nd, rfl⟩⟩))
       go_ret
       exact ⟨by first | rfl | (simp [errW_none, errW_some] <;> rfl) | (simp [*, errW_none, errW_some] <;> rfl), bw⟩
      ·rw [if_neg c17] at H
       have c17b0 : (t168 == t172) = false := beq_eq_false_iff_ne.mpr c17
       have c17b1 : (t168 != t172) = true := bne_iff_ne.mpr c17
       obtain rfl := Option.some.inj H
       go_wp2_with (first | ((with_reducible refine gate_callee (f := 9) rfl ?_); refine gL (some 33) Try.func9 #[.slice A0 l0.length c0, .int .i64 a1] ?_; (with_reducible refine (holiday_List.calls k1 _ _ l0 a1 t167 t168 _ ?side1 ?side2 A15.out).mono ?_); (case side1 => repeat (first | exact (Kd.C_below HR0.out HB.out) | (with_reducible refine Kd.C_alloc ?_ _) | (with_reducible refine Kd.C_drewN ?_ _) | (with_reducible refine Kd.C_drew ?_))); (case side2 => exact HC0.out); rintro e w24 ⟨v169, rfl, ho0, hb⟩; refine ⟨_, rfl, ?_⟩; have HO170 := AX (Kd.R_lower ho0 (below_size bw)); replace HO_5 := AX (Kd.R_below (kr HO_5) hb); replace HB := AX (below_step bw hb); (try clear hb); (try clear hb2); (try clear hk); (try clear hi); (try clear ho0); obtain ⟨Ao25, co25, eo25⟩ := Kd.R_slice HO_5.out; subst eo25) | ((with_reducible refine gate_callee (f := 9) rfl ?_); refine gL (some 39) Try.func9 #[.slice Ao25 x5_1.length co25, .int .i64 a1] ?_; (with_reducible refine (holiday_List.calls k1 _ _ x5_1 a1 t171 t172 _ ?side1 ?side2 A16.out).mono ?_); (case side1 => repeat (first | exact (Kd.R_reads' HO_5.out).2.2 | (with_reducible refine Kd.C_alloc ?_ _) | (with_reducible refine Kd.C_drewN ?_ _) | (with_reducible refine Kd.C_drew ?_))); (case side2 => exact (Kd.R_reads' HO_5.out).2.1); rintro e w26 ⟨v173, rfl, ho0, hb⟩; refine ⟨_, rfl, ?_⟩; have HO174 := AX (Kd.R_lower (Kd.R_new' ho0 (Kd.R_lt (kr HO170))) (below_size bw)); replace HO_5 := AX (Kd.R_below (kr HO_5) hb); replace HO170 := AX (Kd.R_elder' (kr HO170) (Kd.R_base ho0) hb); replace HB := AX (below_step bw hb); (try clear hb); (try clear hb2); (try clear hk); (try clear hi); (try clear ho0)))
       go_ret
       exact ⟨by first | rfl | (simp [errW_none, errW_some] <;> rfl) | (simp [*, errW_none, errW_some] <;> rfl), bw⟩
  ·rw [if_neg c5] at H
   exact absurd H (by simp)
 ·replace c4 := Bool.eq_false_iff.mpr c4
  subst c4
  have H1 : (some false) = some r := by rw [if_neg (show ¬ (false = true) by decide)] at H; exact H
  clear H
  have H := H1
  clear H1
  obtain rfl := Option.some.inj H
  go_enter Try.func3, Try.ntmps3
  go_wp2_with (first | ((with_reducible refine gate_callee (f := 8) rfl ?_); refine gL (some 11) Try.func8 #[] ?_; (with_reducible refine (pylonlaw05_awake.calls  false _ A3.out).mono ?_); rintro e w27 ⟨rfl, hb⟩; refine ⟨_, rfl, ?_⟩; replace HB := AX (below_step bw hb); (try clear hb)))
  go_ret
  exact ⟨by first | rfl | (simp [errW_none, errW_some] <;> rfl) | (simp [*, errW_none, errW_some] <;> rfl), bw⟩

end Go.Proofs.Ytegedhnbmclbkaa.PX
