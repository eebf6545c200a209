/- Functions of the program as plain Lean functions, each with a proof that the call in the machine answers just what the plain function says; condition: the plain function answers at all. -/
import Derived.Test.YtkggjjggcbcdiaaPXx0
import Derived.Test.YtkggjjggcbcdiaaPXx8
import Derived.Test.YtkggjjggcbcdiaaPXx9
import Derived.Test.YtkggjjggcbcdiaaPXx15
namespace Go.Proofs.Ytkggjjggcbcdiaa.PX
open Go.RowKit Go.Proofs.YtkggjjggcbcdiaaW.PrintWords Go.Proofs.YtkggjjggcbcdiaaW.PrintLast Go.Proofs.YtkggjjggcbcdiaaW.PrintMore
attribute [local go_sem] max2_int min2_int max_two min_two max_three min_three max_four min_four   -- for this text's walks alone
set_option linter.unusedVariables false
set_option linter.unusedSimpArgs false

/-! ### pylonlaw14_TouWindows: function 4 -/
def pylonlaw14_TouWindows.f (k : Nat) (l0 : List (S60)) (a1 : ByteArray) (a2 : Int) (a3 : Int) : Option (Bool) := (pylonlaw14_awake.f k).bind fun t269 => (if t269 = true then ((pylonref14_Window.f k l0 a1 a2 a3).bind fun bt270 => ((tou_Window.f l0 a1 a2 a3).bind fun bt272 => (if bt272.1 = bt270.1 then (some (bt272.2 == bt270.2)) else (some false)))) else (some false))
theorem pylonlaw14_TouWindows.mono : ∀ a0 a1 a2 a3 k, LeO (pylonlaw14_TouWindows.f k a0 a1 a2 a3) (pylonlaw14_TouWindows.f (k + 1) a0 a1 a2 a3) := by
 intro a0 a1 a2 a3 k
 unfold pylonlaw14_TouWindows.f
 repeat' first
   | (with_reducible exact pylonlaw14_awake.mono _)
   | (with_reducible exact pylonref14_Window.mono _ _ _ _ _)
   | (with_reducible exact LeO.refl _)
   | (with_reducible exact LeO.none _)
   | (with_reducible refine LeO.ite ?_ ?_)
   | (with_reducible refine LeO.bind ?_ (fun _ => ?_))
   | exact pylonlaw14_awake.mono _
   | exact pylonref14_Window.mono _ _ _ _ _
   | exact LeO.none _
   | refine LeO.ite ?_ ?_
   | refine LeO.bind ?_ (fun _ => ?_)
set_option maxHeartbeats 8000000 in
set_option maxRecDepth 100000 in
theorem pylonlaw14_TouWindows.calls (k : Nat) (A0 : Option Addr) (c0 : Nat) (l0 : List (S60)) (a1 : ByteArray) (a2 : Int) (a3 : Int) (r : Bool) (w : World) (hr0 : Kd.C k60 w A0 l0.length l0) (hc0 : l0.length ≤ c0) (h : pylonlaw14_TouWindows.f k l0 a1 a2 a3 = some r) :
  Calls Try.prog 4 #[.slice A0 l0.length c0, .string a1, .int .i64 a2, .int .i64 a3] w fun e w' => e = .returned (.bool r) ∧ Below w.heap.size w w' := by
 have HR0 := AX hr0
 have HC0 := AX hc0
 clear hr0 hc0
 have HB := AX (Below.refl w.heap.size w)
 have H : ((pylonlaw14_awake.f k).bind fun t269 => (if t269 = true then ((pylonref14_Window.f k l0 a1 a2 a3).bind fun bt270 => ((tou_Window.f l0 a1 a2 a3).bind fun bt272 => (if bt272.1 = bt270.1 then (some (bt272.2 == bt270.2)) else (some false)))) else (some false))) = some r := h
 clear h
 replace H := Option.bind_eq_some_iff.mp H
 obtain ⟨t269, A50, H⟩ := H
 replace H : (if t269 = true then ((pylonref14_Window.f k l0 a1 a2 a3).bind fun bt270 => ((tou_Window.f l0 a1 a2 a3).bind fun bt272 => (if bt272.1 = bt270.1 then (some (bt272.2 == bt270.2)) else (some false)))) else (some false)) = some r := H
 have A5 := AX A50
 clear A50
 by_cases c6 : t269 = true
 ·subst c6
  have H1 : ((pylonref14_Window.f k l0 a1 a2 a3).bind fun bt270 => ((tou_Window.f l0 a1 a2 a3).bind fun bt272 => (if bt272.1 = bt270.1 then (some (bt272.2 == bt270.2)) else (some false)))) = some r := by rw [if_pos rfl] at H; exact H
  clear H
  have H := H1
  clear H1
  replace H := Option.bind_eq_some_iff.mp H
  obtain ⟨⟨t270, t271⟩, A70, H⟩ := H
  replace H : ((tou_Window.f l0 a1 a2 a3).bind fun bt272 => (if bt272.1 = t270 then (some (bt272.2 == t271)) else (some false))) = some r := H
  have A7 := AX A70
  clear A70
  replace H := Option.bind_eq_some_iff.mp H
  obtain ⟨⟨t272, t273⟩, A80, H⟩ := H
  replace H : (if t272 = t270 then (some (t273 == t271)) else (some false)) = some r := H
  have A8 := AX A80
  clear A80
  by_cases c9 : t272 = t270
  ·rw [if_pos c9] at H
   have c9b0 : (t272 == t270) = true := beq_iff_eq.mpr c9
   have c9b1 : (t272 != t270) = false := bne_eq_false_iff_eq.mpr c9
   clear c9
   obtain rfl := Option.some.inj H
   go_enter Try.func4, Try.ntmps4
   go_wp2_with (first | ((with_reducible refine gate_callee (f := 15) rfl ?_); refine goesL_ (some 13) rfl rfl Try.func15 (by kernel_rfl) rfl #[] rfl (by (try simp only [List.map_toArray, List.map_cons, List.map_nil]); first | done | rfl | (simp only [List.length_drop, List.length_take]; rfl)) ?_; (with_reducible refine (pylonlaw14_awake.calls k  true _ A5.out).mono ?_); rintro e w10 ⟨rfl, hb⟩; refine ⟨_, rfl, ?_⟩; have n0_ := AX (below_step bw hb); clear HB; have HB := n0_; clear n0_; (try clear hb)) | ((with_reducible refine gate_callee (f := 20) rfl ?_); refine goesL_ (some 20) rfl rfl Try.func20 (by kernel_rfl) rfl #[.slice A0 l0.length c0, .string a1, .int .i64 a2, .int .i64 a3] rfl (by (try simp only [List.map_toArray, List.map_cons, List.map_nil]); first | done | rfl | (simp only [List.length_drop, List.length_take]; rfl)) ?_; (with_reducible refine (pylonref14_Window.calls k _ _ l0 a1 a2 a3 t270 t271 _ ?side1 ?side2 A7.out).mono ?_); (case side1 => repeat (first | exact (Kd.C_below HR0.out HB.out) | (with_reducible refine Kd.C_alloc ?_ _) | (with_reducible refine Kd.C_drewN ?_ _) | (with_reducible refine Kd.C_drew ?_))); (case side2 => exact HC0.out); rintro e w11 ⟨rfl, hb⟩; refine ⟨_, rfl, ?_⟩; have n0_ := AX (below_step bw hb); clear HB; have HB := n0_; clear n0_; (try clear hb); (try clear hb2); (try clear hk); (try clear hi)) | ((with_reducible refine gate_callee (f := 21) rfl ?_); refine goesL_ (some 28) rfl rfl Try.func21 (by kernel_rfl) rfl #[.slice A0 l0.length c0, .string a1, .int .i64 a2, .int .i64 a3] rfl (by (try simp only [List.map_toArray, List.map_cons, List.map_nil]); first | done | rfl | (simp only [List.length_drop, List.length_take]; rfl)) ?_; (with_reducible refine (tou_Window.calls _ _ l0 a1 a2 a3 t272 t273 _ ?side1 ?side2 A8.out).mono ?_); (case side1 => repeat (first | exact (Kd.C_below HR0.out HB.out) | (with_reducible refine Kd.C_alloc ?_ _) | (with_reducible refine Kd.C_drewN ?_ _) | (with_reducible refine Kd.C_drew ?_))); (case side2 => exact HC0.out); rintro e w12 ⟨rfl, hb⟩; refine ⟨_, rfl, ?_⟩; have n0_ := AX (below_step bw hb); clear HB; have HB := n0_; clear n0_; (try clear hb); (try clear hb2); (try clear hk); (try clear hi)))
   go_ret
   exact ⟨by first | rfl | (simp [errW_none, errW_some] <;> rfl) | (simp [*, errW_none, errW_some] <;> rfl), bw⟩
  ·rw [if_neg c9] at H
   have c9b0 : (t272 == t270) = false := beq_eq_false_iff_ne.mpr c9
   have c9b1 : (t272 != t270) = true := bne_iff_ne.mpr c9
   obtain rfl := Option.some.inj H
   go_enter Try.func4, Try.ntmps4
   go_wp2_with (first | ((with_reducible refine gate_callee (f := 15) rfl ?_); refine goesL_ (some 13) rfl rfl Try.func15 (by kernel_rfl) rfl #[] rfl (by (try simp only [List.map_toArray, List.map_cons, List.map_nil]); first | done | rfl | (simp only [List.length_drop, List.length_take]; rfl)) ?_; (with_reducible refine (pylonlaw14_awake.calls k  true _ A5.out).mono ?_); rintro e w13 ⟨rfl, hb⟩; refine ⟨_, rfl, ?_⟩; have n0_ := AX (below_step bw hb); clear HB; have HB := n0_; clear n0_; (try clear hb)) | ((with_reducible refine gate_callee (f := 20) rfl ?_); refine goesL_ (some 20) rfl rfl Try.func20 (by kernel_rfl) rfl #[.slice A0 l0.length c0, .string a1, .int .i64 a2, .int .i64 a3] rfl (by (try simp only [List.map_toArray, List.map_cons, List.map_nil]); first | done | rfl | (simp only [List.length_drop, List.length_take]; rfl)) ?_; (with_reducible refine (pylonref14_Window.calls k _ _ l0 a1 a2 a3 t270 t271 _ ?side1 ?side2 A7.out).mono ?_); (case side1 => repeat (first | exact (Kd.C_below HR0.out HB.out) | (with_reducible refine Kd.C_alloc ?_ _) | (with_reducible refine Kd.C_drewN ?_ _) | (with_reducible refine Kd.C_drew ?_))); (case side2 => exact HC0.out); rintro e w14 ⟨rfl, hb⟩; refine ⟨_, rfl, ?_⟩; have n0_ := AX (below_step bw hb); clear HB; have HB := n0_; clear n0_; (try clear hb); (try clear hb2); (try clear hk); (try clear hi)) | ((with_reducible refine gate_callee (f := 21) rfl ?_); refine goesL_ (some 28) rfl rfl Try.func21 (by kernel_rfl) rfl #[.slice A0 l0.length c0, .string a1, .int .i64 a2, .int .i64 a3] rfl (by (try simp only [List.map_toArray, List.map_cons, List.map_nil]); first | done | rfl | (simp only [List.length_drop, List.length_take]; rfl)) ?_; (with_reducible refine (tou_Window.calls _ _ l0 a1 a2 a3 t272 t273 _ ?side1 ?side2 A8.out).mono ?_); (case side1 => repeat (first | exact (Kd.C_below HR0.out HB.out) | (with_reducible refine Kd.C_alloc ?_ _) | (with_reducible refine Kd.C_drewN ?_ _) | (with_reducible refine Kd.C_drew ?_))); (case side2 => exact HC0.out); rintro e w15 ⟨rfl, hb⟩; refine ⟨_, rfl, ?_⟩; have n0_ := AX (below_step bw hb); clear HB; have HB := n0_; clear n0_; (try clear hb); (try clear hb2); (try clear hk); (try clear hi)))
   go_ret
   exact ⟨by first | rfl | (simp [errW_none, errW_some] <;> rfl) | (simp [*, errW_none, errW_some] <;> rfl), bw⟩
 ·replace c6 := Bool.eq_false_iff.mpr c6
  subst c6
  have H1 : (some false) = some r := by rw [if_neg (show ¬ (false = true) by decide)] at H; exact H
  clear H
  have H := H1
  clear H1
  obtain rfl := Option.some.inj H
  go_enter Try.func4, Try.ntmps4
  go_wp2_with (first | ((with_reducible refine gate_callee (f := 15) rfl ?_); refine goesL_ (some 13) rfl rfl Try.func15 (by kernel_rfl) rfl #[] rfl (by (try simp only [List.map_toArray, List.map_cons, List.map_nil]); first | done | rfl | (simp only [List.length_drop, List.length_take]; rfl)) ?_; (with_reducible refine (pylonlaw14_awake.calls k  false _ A5.out).mono ?_); rintro e w16 ⟨rfl, hb⟩; refine ⟨_, rfl, ?_⟩; have n0_ := AX (below_step bw hb); clear HB; have HB := n0_; clear n0_; (try clear hb)))
  go_ret
  exact ⟨by first | rfl | (simp [errW_none, errW_some] <;> rfl) | (simp [*, errW_none, errW_some] <;> rfl), bw⟩

end Go.Proofs.Ytkggjjggcbcdiaa.PX
