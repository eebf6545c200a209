/- Functions of the program as plain Lean functions, each with a proof that the call in the machine answers just what the plain function says; condition: the plain function answers at all. -/
import Derived.Test.YtkggjjggcbcdiaaPXx0
import Derived.Test.YtkggjjggcbcdiaaPXx6
import Derived.Test.YtkggjjggcbcdiaaPXx7
namespace Go.Proofs.Ytkggjjggcbcdiaa.PX
open Go.RowKit Go.Proofs.YtkggjjggcbcdiaaW.PrintWords Go.Proofs.YtkggjjggcbcdiaaW.PrintLast Go.Proofs.YtkggjjggcbcdiaaW.PrintMore
attribute [local go_sem] max2_int min2_int max_two min_two max_three min_three max_four min_four   -- for this text's walks alone
set_option linter.unusedVariables false
set_option linter.unusedSimpArgs false

/-! ### pylonlaw14_awake: function 15 -/
def pylonlaw14_awake.f (k : Nat)  : Option (Bool) := (tou_Kind.f k ([] : List (S65)) 2026 11 15).bind fun bt177 => ((tou_Window.f (([(⟨(⟨#[]⟩ : ByteArray), 0, 0, 0, (⟨#[]⟩ : ByteArray)⟩ : S60), (⟨(⟨#[115]⟩ : ByteArray), 0, 0, 60, (⟨#[]⟩ : ByteArray)⟩ : S60)] : List (S60))) (⟨#[115]⟩ : ByteArray) 0 59).bind fun bt182 => (if bt177.1 = 2 then (if bt177.2 = 0 then (if bt182.1 = 1 then (some (bt182.2 == 0)) else (some false)) else (some false)) else (some false)))
theorem pylonlaw14_awake.mono : ∀ k, LeO (pylonlaw14_awake.f k ) (pylonlaw14_awake.f (k + 1) ) := by
 intro  k
 unfold pylonlaw14_awake.f
 repeat' first
   | (with_reducible exact tou_Kind.mono _ _ _ _ _)
   | (with_reducible exact LeO.refl _)
   | (with_reducible exact LeO.none _)
   | (with_reducible refine LeO.ite ?_ ?_)
   | (with_reducible refine LeO.bind ?_ (fun _ => ?_))
set_option maxHeartbeats 8000000 in
set_option maxRecDepth 100000 in
theorem pylonlaw14_awake.calls (k : Nat)  (r : Bool) (w : World) (h : pylonlaw14_awake.f k  = some r) :
  Calls Try.prog 15 #[] w fun e w' => e = .returned (.bool r) ∧ Below w.heap.size w w' := by
 have hu24 := Try.underlying24
 have hu60 := Try.underlying60
 have HB := AX (Below.refl w.heap.size w)
 have H : ((tou_Kind.f k ([] : List (S65)) 2026 11 15).bind fun bt177 => ((tou_Window.f (([(⟨(⟨#[]⟩ : ByteArray), 0, 0, 0, (⟨#[]⟩ : ByteArray)⟩ : S60), (⟨(⟨#[115]⟩ : ByteArray), 0, 0, 60, (⟨#[]⟩ : ByteArray)⟩ : S60)] : List (S60))) (⟨#[115]⟩ : ByteArray) 0 59).bind fun bt182 => (if bt177.1 = 2 then (if bt177.2 = 0 then (if bt182.1 = 1 then (some (bt182.2 == 0)) else (some false)) else (some false)) else (some false)))) = some r := h
 clear h
 replace H := Option.bind_eq_some_iff.mp H
 obtain ⟨⟨t177, t178⟩, A10, H⟩ := H
 replace H : ((tou_Window.f (([(⟨(⟨#[]⟩ : ByteArray), 0, 0, 0, (⟨#[]⟩ : ByteArray)⟩ : S60), (⟨(⟨#[115]⟩ : ByteArray), 0, 0, 60, (⟨#[]⟩ : ByteArray)⟩ : S60)] : List (S60))) (⟨#[115]⟩ : ByteArray) 0 59).bind fun bt182 => (if t177 = 2 then (if t178 = 0 then (if bt182.1 = 1 then (some (bt182.2 == 0)) else (some false)) else (some false)) else (some false))) = some r := H
 have A1 := AX A10
 clear A10
 obtain ⟨y179, hy179⟩ : ∃ y_ : List (S60), y_ = (([(⟨(⟨#[]⟩ : ByteArray), 0, 0, 0, (⟨#[]⟩ : ByteArray)⟩ : S60), (⟨(⟨#[115]⟩ : ByteArray), 0, 0, 60, (⟨#[]⟩ : ByteArray)⟩ : S60)] : List (S60))) := ⟨_, rfl⟩
 replace H : ((tou_Window.f y179 (⟨#[115]⟩ : ByteArray) 0 59).bind fun bt182 => (if t177 = 2 then (if t178 = 0 then (if bt182.1 = 1 then (some (bt182.2 == 0)) else (some false)) else (some false)) else (some false))) = some r := by first | (rw [hy179]; with_reducible exact H) | (have H2_ := (Option.bind_some _ _).symm.trans H; rw [hy179]; with_reducible exact H2_) | (have H2_ := (Option.bind_some _ _).symm.trans H; with_reducible exact H2_) | with_reducible exact H | (rw [hy179]; exact H) | exact H
 have Ny179 := AX hy179
 clear hy179
 replace H := Option.bind_eq_some_iff.mp H
 obtain ⟨⟨t182, t183⟩, A20, H⟩ := H
 replace H : (if t177 = 2 then (if t178 = 0 then (if t182 = 1 then (some (t183 == 0)) else (some false)) else (some false)) else (some false)) = some r := H
 have A2 := AX A20
 clear A20
 by_cases c3 : t177 = 2
 ·rw [if_pos c3] at H
  have c3b0 : (t177 == 2) = true := beq_iff_eq.mpr c3
  have c3b1 : (t177 != 2) = false := bne_eq_false_iff_eq.mpr c3
  clear c3
  by_cases c4 : t178 = 0
  ·rw [if_pos c4] at H
   have c4b0 : (t178 == 0) = true := beq_iff_eq.mpr c4
   have c4b1 : (t178 != 0) = false := bne_eq_false_iff_eq.mpr c4
   clear c4
   by_cases c5 : t182 = 1
   ·rw [if_pos c5] at H
    have c5b0 : (t182 == 1) = true := beq_iff_eq.mpr c5
    have c5b1 : (t182 != 1) = false := bne_eq_false_iff_eq.mpr c5
    clear c5
    obtain rfl := Option.some.inj H
    go_enter Try.func15, Try.ntmps15
    go_wp2_with (first | ((with_reducible refine gate_callee (f := 17) rfl ?_); refine gL (some 7) Try.func17 #[.slice none 0 0, .agg #[.int .i64 2026, .int .i64 11, .int .i64 15]] ?_; (refine (tou_Kind.calls k _ _ ([] : List (S65)) 2026 11 15 t177 t178 _ ?side1 ?side2 A1.out).mono ?_); (case side1 => exact Kd.C_nil _ _); (case side2 => exact Nat.le_refl _); rintro e w6 ⟨rfl, hb⟩; refine ⟨_, rfl, ?_⟩; replace HB := AX (below_step bw hb); (try clear hb)) | ((with_reducible refine gate_dst (N := 13) rfl ?_); refine Kd.R_lit k60 _ 60 ?hg (N := 13) ?hd (xs := ([(⟨(⟨#[]⟩ : ByteArray), 0, 0, 0, (⟨#[]⟩ : ByteArray)⟩ : S60), (⟨(⟨#[115]⟩ : ByteArray), 0, 0, 60, (⟨#[]⟩ : ByteArray)⟩ : S60)] : List (S60))) (inner := [.string (⟨#[]⟩ : ByteArray), .int .i64 0, .int .i64 0, .int .i64 0, .string (⟨#[]⟩ : ByteArray), .string (⟨#[115]⟩ : ByteArray), .int .i64 0, .int .i64 0, .int .i64 60, .string (⟨#[]⟩ : ByteArray)]) (ok := fun _ => True) (okp := fun _ => True) ?hr ?hp (fun _ hk => hk) trivial (Below.refl _ _) (Nat.le_refl _) (by simp) ?_; (case hd => rfl); (case hg => rfl); (case hr => first | (go_simp; done) | (go_simp; rfl)); (case hp => exact (Reps.c5 (show Kd.M k60 _ _ _ (⟨(⟨#[]⟩ : ByteArray), 0, 0, 0, (⟨#[]⟩ : ByteArray)⟩ : S60) [.string (⟨#[]⟩ : ByteArray), .int .i64 0, .int .i64 0, .int .i64 0, .string (⟨#[]⟩ : ByteArray)] from (k60_mkM _ _ _ (⟨(⟨#[]⟩ : ByteArray), 0, 0, 0, (⟨#[]⟩ : ByteArray)⟩ : S60) )) (Reps.c5 (show Kd.M k60 _ _ _ (⟨(⟨#[115]⟩ : ByteArray), 0, 0, 60, (⟨#[]⟩ : ByteArray)⟩ : S60) [.string (⟨#[115]⟩ : ByteArray), .int .i64 0, .int .i64 0, .int .i64 60, .string (⟨#[]⟩ : ByteArray)] from (k60_mkM _ _ _ (⟨(⟨#[115]⟩ : ByteArray), 0, 0, 60, (⟨#[]⟩ : ByteArray)⟩ : S60) )) (Reps.none _ _)))); intro v180 w7 ho8 hb hg_ hnew_; clear hg_ hnew_; (first | rw [← Ny179.out] at ho8 | (simp only [Int.reduceToNat] at ho8; rw [← Ny179.out] at ho8)); have HO181 := AX (Kd.R_lower ho8 (below_size bw)); replace HB := AX (below_step bw hb); clear hb ho8; obtain ⟨Ao9, co9, eo9⟩ := Kd.R_slice HO181.out; subst eo9) | ((with_reducible refine gate_callee (f := 21) rfl ?_); refine gL (some 14) Try.func21 #[.slice Ao9 y179.length co9, .string (⟨#[115]⟩ : ByteArray), .int .i64 0, .int .i64 59] ?_; (with_reducible refine (tou_Window.calls _ _ y179 (⟨#[115]⟩ : ByteArray) 0 59 t182 t183 _ ?side1 ?side2 A2.out).mono ?_); (case side1 => repeat (first | exact (Kd.R_reads' HO181.out).2.2 | (with_reducible refine Kd.C_alloc ?_ _) | (with_reducible refine Kd.C_drewN ?_ _) | (with_reducible refine Kd.C_drew ?_))); (case side2 => exact (Kd.R_reads' HO181.out).2.1); rintro e w10 ⟨rfl, hb⟩; refine ⟨_, rfl, ?_⟩; replace HO181 := AX (Kd.R_below (kr HO181) hb); replace HB := AX (below_step bw hb); (try clear hb); (try clear hb2); (try clear hk); (try clear hi)))
    go_ret
    exact ⟨by first | rfl | (simp [errW_none, errW_some] <;> rfl) | (simp [*, errW_none, errW_some] <;> rfl), bw⟩
   ·rw [if_neg c5] at H
    have c5b0 : (t182 == 1) = false := beq_eq_false_iff_ne.mpr c5
    have c5b1 : (t182 != 1) = true := bne_iff_ne.mpr c5
    obtain rfl := Option.some.inj H
    go_enter Try.func15, Try.ntmps15
    go_wp2_with (first | ((with_reducible refine gate_callee (f := 17) rfl ?_); refine gL (some 7) Try.func17 #[.slice none 0 0, .agg #[.int .i64 2026, .int .i64 11, .int .i64 15]] ?_; (refine (tou_Kind.calls k _ _ ([] : List (S65)) 2026 11 15 t177 t178 _ ?side1 ?side2 A1.out).mono ?_); (case side1 => exact Kd.C_nil _ _); (case side2 => exact Nat.le_refl _); rintro e w11 ⟨rfl, hb⟩; refine ⟨_, rfl, ?_⟩; replace HB := AX (below_step bw hb); (try clear hb)) | ((with_reducible refine gate_dst (N := 13) rfl ?_); refine Kd.R_lit k60 _ 60 ?hg (N := 13) ?hd (xs := ([(⟨(⟨#[]⟩ : ByteArray), 0, 0, 0, (⟨#[]⟩ : ByteArray)⟩ : S60), (⟨(⟨#[115]⟩ : ByteArray), 0, 0, 60, (⟨#[]⟩ : ByteArray)⟩ : S60)] : List (S60))) (inner := [.string (⟨#[]⟩ : ByteArray), .int .i64 0, .int .i64 0, .int .i64 0, .string (⟨#[]⟩ : ByteArray), .string (⟨#[115]⟩ : ByteArray), .int .i64 0, .int .i64 0, .int .i64 60, .string (⟨#[]⟩ : ByteArray)]) (ok := fun _ => True) (okp := fun _ => True) ?hr ?hp (fun _ hk => hk) trivial (Below.refl _ _) (Nat.le_refl _) (by simp) ?_; (case hd => rfl); (case hg => rfl); (case hr => first | (go_simp; done) | (go_simp; rfl)); (case hp => exact (Reps.c5 (show Kd.M k60 _ _ _ (⟨(⟨#[]⟩ : ByteArray), 0, 0, 0, (⟨#[]⟩ : ByteArray)⟩ : S60) [.string (⟨#[]⟩ : ByteArray), .int .i64 0, .int .i64 0, .int .i64 0, .string (⟨#[]⟩ : ByteArray)] from (k60_mkM _ _ _ (⟨(⟨#[]⟩ : ByteArray), 0, 0, 0, (⟨#[]⟩ : ByteArray)⟩ : S60) )) (Reps.c5 (show Kd.M k60 _ _ _ (⟨(⟨#[115]⟩ : ByteArray), 0, 0, 60, (⟨#[]⟩ : ByteArray)⟩ : S60) [.string (⟨#[115]⟩ : ByteArray), .int .i64 0, .int .i64 0, .int .i64 60, .string (⟨#[]⟩ : ByteArray)] from (k60_mkM _ _ _ (⟨(⟨#[115]⟩ : ByteArray), 0, 0, 60, (⟨#[]⟩ : ByteArray)⟩ : S60) )) (Reps.none _ _)))); intro v180 w12 ho13 hb hg_ hnew_; clear hg_ hnew_; (first | rw [← Ny179.out] at ho13 | (simp only [Int.reduceToNat] at ho13; rw [← Ny179.out] at ho13)); have HO181 := AX (Kd.R_lower ho13 (below_size bw)); replace HB := AX (below_step bw hb); clear hb ho13; obtain ⟨Ao14, co14, eo14⟩ := Kd.R_slice HO181.out; subst eo14) | ((with_reducible refine gate_callee (f := 21) rfl ?_); refine gL (some 14) Try.func21 #[.slice Ao14 y179.length co14, .string (⟨#[115]⟩ : ByteArray), .int .i64 0, .int .i64 59] ?_; (with_reducible refine (tou_Window.calls _ _ y179 (⟨#[115]⟩ : ByteArray) 0 59 t182 t183 _ ?side1 ?side2 A2.out).mono ?_); (case side1 => repeat (first | exact (Kd.R_reads' HO181.out).2.2 | (with_reducible refine Kd.C_alloc ?_ _) | (with_reducible refine Kd.C_drewN ?_ _) | (with_reducible refine Kd.C_drew ?_))); (case side2 => exact (Kd.R_reads' HO181.out).2.1); rintro e w15 ⟨rfl, hb⟩; refine ⟨_, rfl, ?_⟩; replace HO181 := AX (Kd.R_below (kr HO181) hb); replace HB := AX (below_step bw hb); (try clear hb); (try clear hb2); (try clear hk); (try clear hi)))
    go_ret
    exact ⟨by first | rfl | (simp [errW_none, errW_some] <;> rfl) | (simp [*, errW_none, errW_some] <;> rfl), bw⟩
  ·rw [if_neg c4] at H
   have c4b0 : (t178 == 0) = false := beq_eq_false_iff_ne.mpr c4
   have c4b1 : (t178 != 0) = true := bne_iff_ne.mpr c4
   obtain rfl := Option.some.inj H
   go_enter Try.func15, Try.ntmps15
   go_wp2_with (first | ((with_reducible refine gate_callee (f := 17) rfl ?_); refine gL (some 7) Try.func17 #[.slice none 0 0, .agg #[.int .i64 2026, .int .i64 11, .int .i64 15]] ?_; (refine (tou_Kind.calls k _ _ ([] : List (S65)) 2026 11 15 t177 t178 _ ?side1 ?side2 A1.out).mono ?_); (case side1 => exact Kd.C_nil _ _); (case side2 => exact Nat.le_refl _); rintro e w16 ⟨rfl, hb⟩; refine ⟨_, rfl, ?_⟩; replace HB := AX (below_step bw hb); (try clear hb)) | ((with_reducible refine gate_dst (N := 13) rfl ?_); refine Kd.R_lit k60 _ 60 ?hg (N := 13) ?hd (xs := ([(⟨(⟨#[]⟩ : ByteArray), 0, 0, 0, (⟨#[]⟩ : ByteArray)⟩ : S60), (⟨(⟨#[115]⟩ : ByteArray), 0, 0, 60, (⟨#[]⟩ : ByteArray)⟩ : S60)] : List (S60))) (inner := [.string (⟨#[]⟩ : ByteArray), .int .i64 0, .int .i64 0, .int .i64 0, .string (⟨#[]⟩ : ByteArray), .string (⟨#[115]⟩ : ByteArray), .int .i64 0, .int .i64 0, .int .i64 60, .string (⟨#[]⟩ : ByteArray)]) (ok := fun _ => True) (okp := fun _ => True) ?hr ?hp (fun _ hk => hk) trivial (Below.refl _ _) (Nat.le_refl _) (by simp) ?_; (case hd => rfl); (case hg => rfl); (case hr => first | (go_simp; done) | (go_simp; rfl)); (case hp => exact (Reps.c5 (show Kd.M k60 _ _ _ (⟨(⟨#[]⟩ : ByteArray), 0, 0, 0, (⟨#[]⟩ : ByteArray)⟩ : S60) [.string (⟨#[]⟩ : ByteArray), .int .i64 0, .int .i64 0, .int .i64 0, .string (⟨#[]⟩ : ByteArray)] from (k60_mkM _ _ _ (⟨(⟨#[]⟩ : ByteArray), 0, 0, 0, (⟨#[]⟩ : ByteArray)⟩ : S60) )) (Reps.c5 (show Kd.M k60 _ _ _ (⟨(⟨#[115]⟩ : ByteArray), 0, 0, 60, (⟨#[]⟩ : ByteArray)⟩ : S60) [.string (⟨#[115]⟩ : ByteArray), .int .i64 0, .int .i64 0, .int .i64 60, .string (⟨#[]⟩ : ByteArray)] from (k60_mkM _ _ _ (⟨(⟨#[115]⟩ : ByteArray), 0, 0, 60, (⟨#[]⟩ : ByteArray)⟩ : S60) )) (Reps.none _ _)))); intro v180 w17 ho18 hb hg_ hnew_; clear hg_ hnew_; (first | rw [← Ny179.out] at ho18 | (simp only [Int.reduceToNat] at ho18; rw [← Ny179.out] at ho18)); have HO181 := AX (Kd.R_lower ho18 (below_size bw)); replace HB := AX (below_step bw hb); clear hb ho18; obtain ⟨Ao19, co19, eo19⟩ := Kd.R_slice HO181.out; subst eo19) | ((with_reducible refine gate_callee (f := 21) rfl ?_); refine gL (some 14) Try.func21 #[.slice Ao19 y179.length co19, .string (⟨#[115]⟩ : ByteArray), .int .i64 0, .int .i64 59] ?_; (with_reducible refine (tou_Window.calls _ _ y179 (⟨#[115]⟩ : ByteArray) 0 59 t182 t183 _ ?side1 ?side2 A2.out).mono ?_); (case side1 => repeat (first | exact (Kd.R_reads' HO181.out).2.2 | (with_reducible refine Kd.C_alloc ?_ _) | (with_reducible refine Kd.C_drewN ?_ _) | (with_reducible refine Kd.C_drew ?_))); (case side2 => exact (Kd.R_reads' HO181.out).2.1); rintro e w20 ⟨rfl, hb⟩; refine ⟨_, rfl, ?_⟩; replace HO181 := AX (Kd.R_below (kr HO181) hb); replace HB := AX (below_step bw hb); (try clear hb); (try clear hb2); (try clear hk); (try clear hi)))
   go_ret
   exact ⟨by first | rfl | (simp [errW_none, errW_some] <;> rfl) | (simp [*, errW_none, errW_some] <;> rfl), bw⟩
 ·rw [if_neg c3] at H
  have c3b0 : (t177 == 2) = false := beq_eq_false_iff_ne.mpr c3
  have c3b1 : (t177 != 2) = true := bne_iff_ne.mpr c3
  obtain rfl := Option.some.inj H
  go_enter Try.func15, Try.ntmps15
  go_wp2_with (first | ((with_reducible refine gate_callee (f := 17) rfl ?_); refine gL (some 7) Try.func17 #[.slice none 0 0, .agg #[.int .i64 2026, .int .i64 11, .int .i64 15]] ?_; (refine (tou_Kind.calls k _ _ ([] : List (S65)) 2026 11 15 t177 t178 _ ?side1 ?side2 A1.out).mono ?_); (case side1 => exact Kd.C_nil _ _); (case side2 => exact Nat.le_refl _); rintro e w21 ⟨rfl, hb⟩; refine ⟨_, rfl, ?_⟩; replace HB := AX (below_step bw hb); (try clear hb)) | ((with_reducible refine gate_dst (N := 13) rfl ?_); refine Kd.R_lit k60 _ 60 ?hg (N := 13) ?hd (xs := ([(⟨(⟨#[]⟩ : ByteArray), 0, 0, 0, (⟨#[]⟩ : ByteArray)⟩ : S60), (⟨(⟨#[115]⟩ : ByteArray), 0, 0, 60, (⟨#[]⟩ : ByteArray)⟩ : S60)] : List (S60))) (inner := [.string (⟨#[]⟩ : ByteArray), .int .i64 0, .int .i64 0, .int .i64 0, .string (⟨#[]⟩ : ByteArray), .string (⟨#[115]⟩ : ByteArray), .int .i64 0, .int .i64 0, .int .i64 60, .string (⟨#[]⟩ : ByteArray)]) (ok := fun _ => True) (okp := fun _ => True) ?hr ?hp (fun _ hk => hk) trivial (Below.refl _ _) (Nat.le_refl _) (by simp) ?_; (case hd => rfl); (case hg => rfl); (case hr => first | (go_simp; done) | (go_simp; rfl)); (case hp => exact (Reps.c5 (show Kd.M k60 _ _ _ (⟨(⟨#[]⟩ : ByteArray), 0, 0, 0, (⟨#[]⟩ : ByteArray)⟩ : S60) [.string (⟨#[]⟩ : ByteArray), .int .i64 0, .int .i64 0, .int .i64 0, .string (⟨#[]⟩ : ByteArray)] from (k60_mkM _ _ _ (⟨(⟨#[]⟩ : ByteArray), 0, 0, 0, (⟨#[]⟩ : ByteArray)⟩ : S60) )) (Reps.c5 (show Kd.M k60 _ _ _ (⟨(⟨#[115]⟩ : ByteArray), 0, 0, 60, (⟨#[]⟩ : ByteArray)⟩ : S60) [.string (⟨#[115]⟩ : ByteArray), .int .i64 0, .int .i64 0, .int .i64 60, .string (⟨#[]⟩ : ByteArray)] from (k60_mkM _ _ _ (⟨(⟨#[115]⟩ : ByteArray), 0, 0, 60, (⟨#[]⟩ : ByteArray)⟩ : S60) )) (Reps.none _ _)))); intro v180 w22 ho23 hb hg_ hnew_; clear hg_ hnew_; (first | rw [← Ny179.out] at ho23 | (simp only [Int.reduceToNat] at ho23; rw [← Ny179.out] at ho23)); have HO181 := AX (Kd.R_lower ho23 (below_size bw)); replace HB := AX (below_step bw hb); clear hb ho23; obtain ⟨Ao24, co24, eo24⟩ := Kd.R_slice HO181.out; subst eo24) | ((with_reducible refine gate_callee (f := 21) rfl ?_); refine gL (some 14) Try.func21 #[.slice Ao24 y179.length co24, .string (⟨#[115]⟩ : ByteArray), .int .i64 0, .int .i64 59] ?_; (with_reducible refine (tou_Window.calls _ _ y179 (⟨#[115]⟩ : ByteArray) 0 59 t182 t183 _ ?side1 ?side2 A2.out).mono ?_); (case side1 => repeat (first | exact (Kd.R_reads' HO181.out).2.2 | (with_reducible refine Kd.C_alloc ?_ _) | (with_reducible refine Kd.C_drewN ?_ _) | (with_reducible refine Kd.C_drew ?_))); (case side2 => exact (Kd.R_reads' HO181.out).2.1); rintro e w25 ⟨rfl, hb⟩; refine ⟨_, rfl, ?_⟩; replace HO181 := AX (Kd.R_below (kr HO181) hb); replace HB := AX (below_step bw hb); (try clear hb); (try clear hb2); (try clear hk); (try clear hi)))
  go_ret
  exact ⟨by first | rfl | (simp [errW_none, errW_some] <;> rfl) | (simp [*, errW_none, errW_some] <;> rfl), bw⟩

/-! ### pylonref06_Of: function 79 -/
def pylonref06_Of.l0 : Nat → ByteArray → Int → Int → Option (Bool)
 | 0, _, _, _ => none
 | k + 1, x0, x1, x5 => if x5 < (x0.size : Int) then (if 0 ≤ x5 then (if (bt x0 x5) ≥ 97 then (if (bt x0 x5) ≤ 122 then (pylonref06_Of.l0 k x0 x1 (wrap64 (x5 + 1))) else (if (bt x0 x5) ≥ 48 then (if (bt x0 x5) ≤ 57 then (pylonref06_Of.l0 k x0 x1 (wrap64 (x5 + 1))) else (if (bt x0 x5) = 95 then (pylonref06_Of.l0 k x0 x1 (wrap64 (x5 + 1))) else (if ((bt x0 x5) = 45) then (pylonref06_Of.l0 k x0 x1 (wrap64 (x5 + 1))) else (some false)))) else (if (bt x0 x5) = 95 then (pylonref06_Of.l0 k x0 x1 (wrap64 (x5 + 1))) else (if ((bt x0 x5) = 45) then (pylonref06_Of.l0 k x0 x1 (wrap64 (x5 + 1))) else (some false))))) else (if (bt x0 x5) ≥ 48 then (if (bt x0 x5) ≤ 57 then (pylonref06_Of.l0 k x0 x1 (wrap64 (x5 + 1))) else (if (bt x0 x5) = 95 then (pylonref06_Of.l0 k x0 x1 (wrap64 (x5 + 1))) else (if ((bt x0 x5) = 45) then (pylonref06_Of.l0 k x0 x1 (wrap64 (x5 + 1))) else (some false)))) else (if (bt x0 x5) = 95 then (pylonref06_Of.l0 k x0 x1 (wrap64 (x5 + 1))) else (if ((bt x0 x5) = 45) then (pylonref06_Of.l0 k x0 x1 (wrap64 (x5 + 1))) else (some false))))) else (none)) else (if (x0.size : Int) ≥ 1 then (some (decide ((x0.size : Int) ≤ x1))) else (some false))
def pylonref06_Of.f (k : Nat) (a0 : ByteArray) (a1 : Int) : Option (Bool) := pylonref06_Of.l0 k a0 a1 0
theorem pylonref06_Of.mono_l : ∀ k, (∀ y0 y1 y2, LeO (pylonref06_Of.l0 k y0 y1 y2) (pylonref06_Of.l0 (k + 1) y0 y1 y2))
 | 0 => fun _ _ _ r h => by simp [pylonref06_Of.l0] at h
 | k + 1 => by
  have ih0 := pylonref06_Of.mono_l k
  ·intro y0 y1 y2
   unfold pylonref06_Of.l0
   repeat' first
   | (with_reducible exact ih0 _ _ _)
   | (with_reducible exact LeO.refl _)
   | (with_reducible exact LeO.none _)
   | (with_reducible refine LeO.ite ?_ ?_)
   | (with_reducible refine LeO.bind ?_ (fun _ => ?_))
theorem pylonref06_Of.mono : ∀ a0 a1 k, LeO (pylonref06_Of.f k a0 a1) (pylonref06_Of.f (k + 1) a0 a1) := by
 intro a0 a1 k
 have ih0 := pylonref06_Of.mono_l k
 unfold pylonref06_Of.f
 repeat' first
   | (with_reducible exact ih0 _ _ _)
   | (with_reducible exact LeO.refl _)
   | (with_reducible exact LeO.none _)
   | (with_reducible refine LeO.ite ?_ ?_)
   | (with_reducible refine LeO.bind ?_ (fun _ => ?_))
set_option maxHeartbeats 8000000 in
set_option maxRecDepth 100000 in
theorem pylonref06_Of.calls (k : Nat) (a0 : ByteArray) (a1 : Int) (r : Bool) (w : World) (h : pylonref06_Of.f k a0 a1 = some r) :
  Calls Try.prog 79 #[.string a0, .int .i64 a1] w fun e w' => e = .returned (.bool r) ∧ Drawn0 w w' := by
 have H : (pylonref06_Of.l0 k a0 a1 0) = some r := h
 clear h
 have H' := AX H
 clear H
 go_enter Try.func79, Try.ntmps79
 go_wp2
 go_loopg [5] k (fun kq v5 w' => ∃ (x5_1 : Int), v5 = .int .i64 x5_1 ∧ Aside0 (pylonref06_Of.l0 kq a0 a1 x5_1 = some r) ∧ Aside0 (kq ≤ k) ∧ Drawn0 w w')
 case atStart => exact ⟨(0), (by first | rfl | (simp; done) | (simp [*]; done)), H', ⟨Nat.le_refl _⟩, by repeat (first | exact Drawn0.refl _ | apply Drawn0.step)⟩
 case round =>
  clear H'
  obtain ⟨x5_1, rfl, HA, HK1, ⟨m1, rfl⟩⟩ := hrel
  cases gk with
  | zero => exact absurd HA.out (by simp [pylonref06_Of.l0])
  | succ k1 =>
   have H := HA.out
   clear HA
   simp only [pylonref06_Of.l0] at H
   by_cases c3 : x5_1 < (a0.size : Int)
   ·rw [if_pos c3] at H
    have c3b0 : decide (x5_1 < (a0.size : Int)) = true := decide_eq_true c3
    clear c3
    by_cases c4 : 0 ≤ x5_1
    ·rw [if_pos c4] at H
     have c4b0 : decide (0 ≤ x5_1) = true := decide_eq_true c4
     clear c4
     by_cases c6 : (bt a0 x5_1) ≥ 97
     ·rw [if_pos c6] at H
      have c6b0 : decide (97 ≤ (bt a0 x5_1)) = true := decide_eq_true c6
      clear c6
      by_cases c7 : (bt a0 x5_1) ≤ 122
      ·rw [if_pos c7] at H
       have c7b0 : decide ((bt a0 x5_1) ≤ 122) = true := decide_eq_true c7
       clear c7
       have H' := AX H
       clear H
       have p5 : 0 ≤ (x5_1 : Int) := of_decide_eq_true (by first | (with_reducible assumption) | assumption)
       have q5 : x5_1 < (a0.size : Int) := of_decide_eq_true (by first | (with_reducible assumption) | assumption)
       have hx5 := bt_at a0 x5_1
       replace p5 := eq_true p5
       replace q5 := eq_true q5
       go_wp2
       go_roundg k1
       case measure => have := HK1.out; omega
       case rel => exact ⟨(wrap64 (x5_1 + 1)), (by first | rfl | (simp; done) | (simp [*]; done)), H', ⟨by have := HK1.out; omega⟩, by repeat (first | exact Drawn0.refl _ | apply Drawn0.step)⟩
      ·rw [if_neg c7] at H
       have c7b0 : decide ((bt a0 x5_1) ≤ 122) = false := decide_eq_false c7
       clear c7
       by_cases c8 : (bt a0 x5_1) ≥ 48
       ·rw [if_pos c8] at H
        have c8b0 : decide (48 ≤ (bt a0 x5_1)) = true := decide_eq_true c8
        clear c8
        by_cases c9 : (bt a0 x5_1) ≤ 57
        ·rw [if_pos c9] at H
         have c9b0 : decide ((bt a0 x5_1) ≤ 57) = true := decide_eq_true c9
         clear c9
         have H' := AX H
         clear H
         have p5 : 0 ≤ (x5_1 : Int) := of_decide_eq_true (by first | (with_reducible assumption) | assumption)
         have q5 : x5_1 < (a0.size : Int) := of_decide_eq_true (by first | (with_reducible assumption) | assumption)
         have hx5 := bt_at a0 x5_1
         replace p5 := eq_true p5
         replace q5 := eq_true q5
         go_wp2
         go_roundg k1
         case measure => have := HK1.out; omega
         case rel => exact ⟨(wrap64 (x5_1 + 1)), (by first | rfl | (simp; done) | (simp [*]; done)), H', ⟨by have := HK1.out; omega⟩, by repeat (first | exact Drawn0.refl _ | apply Drawn0.step)⟩
        ·rw [if_neg c9] at H
         have c9b0 : decide ((bt a0 x5_1) ≤ 57) = false := decide_eq_false c9
         clear c9
         by_cases c10 : (bt a0 x5_1) = 95
         ·rw [if_pos c10] at H
          have c10b0 : ((bt a0 x5_1) == 95) = true := beq_iff_eq.mpr c10
          have c10b1 : ((bt a0 x5_1) != 95) = false := bne_eq_false_iff_eq.mpr c10
          clear c10
          have H' := AX H
          clear H
          have p5 : 0 ≤ (x5_1 : Int) := of_decide_eq_true (by first | (with_reducible assumption) | assumption)
          have q5 : x5_1 < (a0.size : Int) := of_decide_eq_true (by first | (with_reducible assumption) | assumption)
          have hx5 := bt_at a0 x5_1
          replace p5 := eq_true p5
          replace q5 := eq_true q5
          go_wp2
          go_roundg k1
          case measure => have := HK1.out; omega
          case rel => exact ⟨(wrap64 (x5_1 + 1)), (by first | rfl | (simp; done) | (simp [*]; done)), H', ⟨by have := HK1.out; omega⟩, by repeat (first | exact Drawn0.refl _ | apply Drawn0.step)⟩
         ·rw [if_neg c10] at H
          have c10b0 : ((bt a0 x5_1) == 95) = false := beq_eq_false_iff_ne.mpr c10
          have c10b1 : ((bt a0 x5_1) != 95) = true := bne_iff_ne.mpr c10
          by_cases c11 : ((bt a0 x5_1) = 45)
          ·rw [if_pos c11] at H
           have c11b0 : ((bt a0 x5_1) == 45) = true := beq_iff_eq.mpr c11
           have c11b1 : ((bt a0 x5_1) != 45) = false := bne_eq_false_iff_eq.mpr c11
           clear c11
           have H' := AX H
           clear H
           have p5 : 0 ≤ (x5_1 : Int) := of_decide_eq_true (by first | (with_reducible assumption) | assumption)
           have q5 : x5_1 < (a0.size : Int) := of_decide_eq_true (by first | (with_reducible assumption) | assumption)
           have hx5 := bt_at a0 x5_1
           replace p5 := eq_true p5
           replace q5 := eq_true q5
           go_wp2
           go_roundg k1
           case measure => have := HK1.out; omega
           case rel => exact ⟨(wrap64 (x5_1 + 1)), (by first | rfl | (simp; done) | (simp [*]; done)), H', ⟨by have := HK1.out; omega⟩, by repeat (first | exact Drawn0.refl _ | apply Drawn0.step)⟩
          ·rw [if_neg c11] at H
           have c11b0 : ((bt a0 x5_1) == 45) = false := beq_eq_false_iff_ne.mpr c11
           have c11b1 : ((bt a0 x5_1) != 45) = true := bne_iff_ne.mpr c11
           obtain rfl := Option.some.inj H
           have p5 : 0 ≤ (x5_1 : Int) := of_decide_eq_true (by first | (with_reducible assumption) | assumption)
           have q5 : x5_1 < (a0.size : Int) := of_decide_eq_true (by first | (with_reducible assumption) | assumption)
           have hx5 := bt_at a0 x5_1
           replace p5 := eq_true p5
           replace q5 := eq_true q5
           go_wp2
           go_ret
           exact ⟨by first | rfl | (simp; done) | (simp [*]; done), by repeat (first | exact Drawn0.refl _ | apply Drawn0.step)⟩
       ·rw [if_neg c8] at H
        have c8b0 : decide (48 ≤ (bt a0 x5_1)) = false := decide_eq_false c8
        clear c8
        by_cases c12 : (bt a0 x5_1) = 95
        ·rw [if_pos c12] at H
         have c12b0 : ((bt a0 x5_1) == 95) = true := beq_iff_eq.mpr c12
         have c12b1 : ((bt a0 x5_1) != 95) = false := bne_eq_false_iff_eq.mpr c12
         clear c12
         have H' := AX H
         clear H
         have p5 : 0 ≤ (x5_1 : Int) := of_decide_eq_true (by first | (with_reducible assumption) | assumption)
         have q5 : x5_1 < (a0.size : Int) := of_decide_eq_true (by first | (with_reducible assumption) | assumption)
         have hx5 := bt_at a0 x5_1
         replace p5 := eq_true p5
         replace q5 := eq_true q5
         go_wp2
         go_roundg k1
         case measure => have := HK1.out; omega
         case rel => exact ⟨(wrap64 (x5_1 + 1)), (by first | rfl | (simp; done) | (simp [*]; done)), H', ⟨by have := HK1.out; omega⟩, by repeat (first | exact Drawn0.refl _ | apply Drawn0.step)⟩
        ·rw [if_neg c12] at H
         have c12b0 : ((bt a0 x5_1) == 95) = false := beq_eq_false_iff_ne.mpr c12
         have c12b1 : ((bt a0 x5_1) != 95) = true := bne_iff_ne.mpr c12
         by_cases c13 : ((bt a0 x5_1) = 45)
         ·rw [if_pos c13] at H
          have c13b0 : ((bt a0 x5_1) == 45) = true := beq_iff_eq.mpr c13
          have c13b1 : ((bt a0 x5_1) != 45) = false := bne_eq_false_iff_eq.mpr c13
          clear c13
          have H' := AX H
          clear H
          have p5 : 0 ≤ (x5_1 : Int) := of_decide_eq_true (by first | (with_reducible assumption) | assumption)
          have q5 : x5_1 < (a0.size : Int) := of_decide_eq_true (by first | (with_reducible assumption) | assumption)
          have hx5 := bt_at a0 x5_1
          replace p5 := eq_true p5
          replace q5 := eq_true q5
          go_wp2
          go_roundg k1
          case measure => have := HK1.out; omega
          case rel => exact ⟨(wrap64 (x5_1 + 1)), (by first | rfl | (simp; done) | (simp [*]; done)), H', ⟨by have := HK1.out; omega⟩, by repeat (first | exact Drawn0.refl _ | apply Drawn0.step)⟩
         ·rw [if_neg c13] at H
          have c13b0 : ((bt a0 x5_1) == 45) = false := beq_eq_false_iff_ne.mpr c13
          have c13b1 : ((bt a0 x5_1) != 45) = true := bne_iff_ne.mpr c13
          obtain rfl := Option.some.inj H
          have p5 : 0 ≤ (x5_1 : Int) := of_decide_eq_true (by first | (with_reducible assumption) | assumption)
          have q5 : x5_1 < (a0.size : Int) := of_decide_eq_true (by first | (with_reducible assumption) | assumption)
          have hx5 := bt_at a0 x5_1
          replace p5 := eq_true p5
          replace q5 := eq_true q5
          go_wp2
          go_ret
          exact ⟨by first | rfl | (simp; done) | (simp [*]; done), by repeat (first | exact Drawn0.refl _ | apply Drawn0.step)⟩
     ·rw [if_neg c6] at H
      have c6b0 : decide (97 ≤ (bt a0 x5_1)) = false := decide_eq_false c6
      clear c6
      by_cases c14 : (bt a0 x5_1) ≥ 48
      ·rw [if_pos c14] at H
       have c14b0 : decide (48 ≤ (bt a0 x5_1)) = true := decide_eq_true c14
       clear c14
       by_cases c15 : (bt a0 x5_1) ≤ 57
       ·rw [if_pos c15] at H
        have c15b0 : decide ((bt a0 x5_1) ≤ 57) = true := decide_eq_true c15
        clear c15
        have H' := AX H
        clear H
        have p5 : 0 ≤ (x5_1 : Int) := of_decide_eq_true (by first | (with_reducible assumption) | assumption)
        have q5 : x5_1 < (a0.size : Int) := of_decide_eq_true (by first | (with_reducible assumption) | assumption)
        have hx5 := bt_at a0 x5_1
        replace p5 := eq_true p5
        replace q5 := eq_true q5
        go_wp2
        go_roundg k1
        case measure => have := HK1.out; omega
        case rel => exact ⟨(wrap64 (x5_1 + 1)), (by first | rfl | (simp; done) | (simp [*]; done)), H', ⟨by have := HK1.out; omega⟩, by repeat (first | exact Drawn0.refl _ | apply Drawn0.step)⟩
       ·rw [if_neg c15] at H
        have c15b0 : decide ((bt a0 x5_1) ≤ 57) = false := decide_eq_false c15
        clear c15
        by_cases c16 : (bt a0 x5_1) = 95
        ·rw [if_pos c16] at H
         have c16b0 : ((bt a0 x5_1) == 95) = true := beq_iff_eq.mpr c16
         have c16b1 : ((bt a0 x5_1) != 95) = false := bne_eq_false_iff_eq.mpr c16
         clear c16
         have H' := AX H
         clear H
         have p5 : 0 ≤ (x5_1 : Int) := of_decide_eq_true (by first | (with_reducible assumption) | assumption)
         have q5 : x5_1 < (a0.size : Int) := of_decide_eq_true (by first | (with_reducible assumption) | assumption)
         have hx5 := bt_at a0 x5_1
         replace p5 := eq_true p5
         replace q5 := eq_true q5
         go_wp2
         go_roundg k1
         case measure => have := HK1.out; omega
         case rel => exact ⟨(wrap64 (x5_1 + 1)), (by first | rfl | (simp; done) | (simp [*]; done)), H', ⟨by have := HK1.out; omega⟩, by repeat (first | exact Drawn0.refl _ | apply Drawn0.step)⟩
        ·rw [if_neg c16] at H
         have c16b0 : ((bt a0 x5_1) == 95) = false := beq_eq_false_iff_ne.mpr c16
         have c16b1 : ((bt a0 x5_1) != 95) = true := bne_iff_ne.mpr c16
         by_cases c17 : ((bt a0 x5_1) = 45)
         ·rw [if_pos c17] at H
          have c17b0 : ((bt a0 x5_1) == 45) = true := beq_iff_eq.mpr c17
          have c17b1 : ((bt a0 x5_1) != 45) = false := bne_eq_false_iff_eq.mpr c17
          clear c17
          have H' := AX H
          clear H
          have p5 : 0 ≤ (x5_1 : Int) := of_decide_eq_true (by first | (with_reducible assumption) | assumption)
          have q5 : x5_1 < (a0.size : Int) := of_decide_eq_true (by first | (with_reducible assumption) | assumption)
          have hx5 := bt_at a0 x5_1
          replace p5 := eq_true p5
          replace q5 := eq_true q5
          go_wp2
          go_roundg k1
          case measure => have := HK1.out; omega
          case rel => exact ⟨(wrap64 (x5_1 + 1)), (by first | rfl | (simp; done) | (simp [*]; done)), H', ⟨by have := HK1.out; omega⟩, by repeat (first | exact Drawn0.refl _ | apply Drawn0.step)⟩
         ·rw [if_neg c17] at H
          have c17b0 : ((bt a0 x5_1) == 45) = false := beq_eq_false_iff_ne.mpr c17
          have c17b1 : ((bt a0 x5_1) != 45) = true := bne_iff_ne.mpr c17
          obtain rfl := Option.some.inj H
          have p5 : 0 ≤ (x5_1 : Int) := of_decide_eq_true (by first | (with_reducible assumption) | assumption)
          have q5 : x5_1 < (a0.size : Int) := of_decide_eq_true (by first | (with_reducible assumption) | assumption)
          have hx5 := bt_at a0 x5_1
          replace p5 := eq_true p5
          replace q5 := eq_true q5
          go_wp2
          go_ret
          exact ⟨by first | rfl | (simp; done) | (simp [*]; done), by repeat (first | exact Drawn0.refl _ | apply Drawn0.step)⟩
      ·rw [if_neg c14] at H
       have c14b0 : decide (48 ≤ (bt a0 x5_1)) = false := decide_eq_false c14
       clear c14
       by_cases c18 : (bt a0 x5_1) = 95
       ·rw [if_pos c18] at H
        have c18b0 : ((bt a0 x5_1) == 95) = true := beq_iff_eq.mpr c18
        have c18b1 : ((bt a0 x5_1) != 95) = false := bne_eq_false_iff_eq.mpr c18
        clear c18
        have H' := AX H
        clear H
        have p5 : 0 ≤ (x5_1 : Int) := of_decide_eq_true (by first | (with_reducible assumption) | assumption)
        have q5 : x5_1 < (a0.size : Int) := of_decide_eq_true (by first | (with_reducible assumption) | assumption)
        have hx5 := bt_at a0 x5_1
        replace p5 := eq_true p5
        replace q5 := eq_true q5
        go_wp2
        go_roundg k1
        case measure => have := HK1.out; omega
        case rel => exact ⟨(wrap64 (x5_1 + 1)), (by first | rfl | (simp; done) | (simp [*]; done)), H', ⟨by have := HK1.out; omega⟩, by repeat (first | exact Drawn0.refl _ | apply Drawn0.step)⟩
       ·rw [if_neg c18] at H
        have c18b0 : ((bt a0 x5_1) == 95) = false := beq_eq_false_iff_ne.mpr c18
        have c18b1 : ((bt a0 x5_1) != 95) = true := bne_iff_ne.mpr c18
        by_cases c19 : ((bt a0 x5_1) = 45)
        ·rw [if_pos c19] at H
         have c19b0 : ((bt a0 x5_1) == 45) = true := beq_iff_eq.mpr c19
         have c19b1 : ((bt a0 x5_1) != 45) = false := bne_eq_false_iff_eq.mpr c19
         clear c19
         have H' := AX H
         clear H
         have p5 : 0 ≤ (x5_1 : Int) := of_decide_eq_true (by first | (with_reducible assumption) | assumption)
         have q5 : x5_1 < (a0.size : Int) := of_decide_eq_true (by first | (with_reducible assumption) | assumption)
         have hx5 := bt_at a0 x5_1
         replace p5 := eq_true p5
         replace q5 := eq_true q5
         go_wp2
         go_roundg k1
         case measure => have := HK1.out; omega
         case rel => exact ⟨(wrap64 (x5_1 + 1)), (by first | rfl | (simp; done) | (simp [*]; done)), H', ⟨by have := HK1.out; omega⟩, by repeat (first | exact Drawn0.refl _ | apply Drawn0.step)⟩
        ·rw [if_neg c19] at H
         have c19b0 : ((bt a0 x5_1) == 45) = false := beq_eq_false_iff_ne.mpr c19
         have c19b1 : ((bt a0 x5_1) != 45) = true := bne_iff_ne.mpr c19
         obtain rfl := Option.some.inj H
         have p5 : 0 ≤ (x5_1 : Int) := of_decide_eq_true (by first | (with_reducible assumption) | assumption)
         have q5 : x5_1 < (a0.size : Int) := of_decide_eq_true (by first | (with_reducible assumption) | assumption)
         have hx5 := bt_at a0 x5_1
         replace p5 := eq_true p5
         replace q5 := eq_true q5
         go_wp2
         go_ret
         exact ⟨by first | rfl | (simp; done) | (simp [*]; done), by repeat (first | exact Drawn0.refl _ | apply Drawn0.step)⟩
    ·rw [if_neg c4] at H
     exact absurd H (by simp)
   ·rw [if_neg c3] at H
    have c3b0 : decide (x5_1 < (a0.size : Int)) = false := decide_eq_false c3
    clear c3
    by_cases c20 : (a0.size : Int) ≥ 1
    ·rw [if_pos c20] at H
     have c20b0 : decide (1 ≤ (a0.size : Int)) = true := decide_eq_true c20
     have c20b1 : decide (1 ≤ a0.size) = true := decide_eq_true (by omega)
     clear c20
     obtain rfl := Option.some.inj H
     go_wp2
     go_ret
     exact ⟨by first | rfl | (simp; done) | (simp [*]; done), by repeat (first | exact Drawn0.refl _ | apply Drawn0.step)⟩
    ·rw [if_neg c20] at H
     have c20b0 : decide (1 ≤ (a0.size : Int)) = false := decide_eq_false c20
     have c20b1 : decide (1 ≤ a0.size) = false := decide_eq_false (by omega)
     clear c20
     obtain rfl := Option.some.inj H
     go_wp2
     go_ret
     exact ⟨by first | rfl | (simp; done) | (simp [*]; done), by repeat (first | exact Drawn0.refl _ | apply Drawn0.step)⟩

/-! ### pylonref06_Name: function 51 -/
def pylonref06_Name.f (k : Nat) (a0 : ByteArray) : Option (Bool) := (pylonref06_Of.f k a0 24).bind fun t184 => (if t184 = true then (if 0 < (a0.size : Int) then (if (bt a0 0) ≥ 97 then (some (decide ((bt a0 0) ≤ 122))) else (some false)) else (none)) else (some false))
theorem pylonref06_Name.mono : ∀ a0 k, LeO (pylonref06_Name.f k a0) (pylonref06_Name.f (k + 1) a0) := by
 intro a0 k
 unfold pylonref06_Name.f
 repeat' first
   | (with_reducible exact pylonref06_Of.mono _ _ _)
   | (with_reducible exact LeO.refl _)
   | (with_reducible exact LeO.none _)
   | (with_reducible refine LeO.ite ?_ ?_)
   | (with_reducible refine LeO.bind ?_ (fun _ => ?_))
set_option maxHeartbeats 8000000 in
set_option maxRecDepth 100000 in
theorem pylonref06_Name.calls (k : Nat) (a0 : ByteArray) (r : Bool) (w : World) (h : pylonref06_Name.f k a0 = some r) :
  Calls Try.prog 51 #[.string a0] w fun e w' => e = .returned (.bool r) ∧ Drawn0 w w' := by
 have H : ((pylonref06_Of.f k a0 24).bind fun t184 => (if t184 = true then (if 0 < (a0.size : Int) then (if (bt a0 0) ≥ 97 then (some (decide ((bt a0 0) ≤ 122))) else (some false)) else (none)) else (some false))) = some r := h
 clear h
 replace H := Option.bind_eq_some_iff.mp H
 obtain ⟨t184, A20, H⟩ := H
 replace H : (if t184 = true then (if 0 < (a0.size : Int) then (if (bt a0 0) ≥ 97 then (some (decide ((bt a0 0) ≤ 122))) else (some false)) else (none)) else (some false)) = some r := H
 have A2 := AX A20
 clear A20
 by_cases c3 : t184 = true
 ·subst c3
  have H1 : (if 0 < (a0.size : Int) then (if (bt a0 0) ≥ 97 then (some (decide ((bt a0 0) ≤ 122))) else (some false)) else (none)) = some r := by rw [if_pos rfl] at H; exact H
  clear H
  have H := H1
  clear H1
  by_cases c4 : 0 < (a0.size : Int)
  ·rw [if_pos c4] at H
   have c4b0 : decide (0 < (a0.size : Int)) = true := decide_eq_true c4
   have c4b1 : decide (0 < a0.size) = true := decide_eq_true (by omega)
   clear c4
   by_cases c6 : (bt a0 0) ≥ 97
   ·rw [if_pos c6] at H
    have c6b0 : decide (97 ≤ (bt a0 0)) = true := decide_eq_true c6
    clear c6
    obtain rfl := Option.some.inj H
    go_enter Try.func51, Try.ntmps51
    go_wp2_with (first | ((with_reducible refine gate_callee (f := 79) rfl ?_); refine gL (some 4) Try.func79 #[.string a0, .int .i64 24] ?_; (with_reducible refine (pylonref06_Of.calls k a0 24 true _ A2.out).mono ?_); rintro e w' ⟨rfl, ⟨nd, rfl⟩⟩; refine ⟨_, rfl, ?_⟩; have p5 : 0 ≤ (0 : Int) := (by omega); have q5 : 0 < a0.size := (by have : (0 : Int) < (a0.size : Int) := of_decide_eq_true (by first | (with_reducible assumption) | assumption); omega); have hx5 : ∀ h : 0 < a0.size, ((a0[0]'h).toNat : Int) = bt a0 0 := bt_at a0 0; clear p5; have qi5 : (0 < (a0.size : Int)) = True := eq_true (of_decide_eq_true (by first | (with_reducible assumption) | assumption)); replace q5 := eq_true q5; have p7 : 0 ≤ (0 : Int) := (by omega); have q7 : 0 < a0.size := (by have : (0 : Int) < (a0.size : Int) := of_decide_eq_true (by first | (with_reducible assumption) | assumption); omega); have hx7 : ∀ h : 0 < a0.size, ((a0[0]'h).toNat : Int) = bt a0 0 := bt_at a0 0; clear p7; have qi7 : (0 < (a0.size : Int)) = True := eq_true (of_decide_eq_true (by first | (with_reducible assumption) | assumption)); replace q7 := eq_true q7))
    go_ret
    exact ⟨by first | rfl | (simp; done) | (simp [*]; done), by repeat (first | exact Drawn0.refl _ | apply Drawn0.step)⟩
   ·rw [if_neg c6] at H
    have c6b0 : decide (97 ≤ (bt a0 0)) = false := decide_eq_false c6
    clear c6
    obtain rfl := Option.some.inj H
    go_enter Try.func51, Try.ntmps51
    go_wp2_with (first | ((with_reducible refine gate_callee (f := 79) rfl ?_); refine gL (some 4) Try.func79 #[.string a0, .int .i64 24] ?_; (with_reducible refine (pylonref06_Of.calls k a0 24 true _ A2.out).mono ?_); rintro e w' ⟨rfl, ⟨nd, rfl⟩⟩; refine ⟨_, rfl, ?_⟩; have p5 : 0 ≤ (0 : Int) := (by omega); have q5 : 0 < a0.size := (by have : (0 : Int) < (a0.size : Int) := of_decide_eq_true (by first | (with_reducible assumption) | assumption); omega); have hx5 : ∀ h : 0 < a0.size, ((a0[0]'h).toNat : Int) = bt a0 0 := bt_at a0 0; clear p5; have qi5 : (0 < (a0.size : Int)) = True := eq_true (of_decide_eq_true (by first | (with_reducible assumption) | assumption)); replace q5 := eq_true q5))
    go_ret
    exact ⟨by first | rfl | (simp; done) | (simp [*]; done), by repeat (first | exact Drawn0.refl _ | apply Drawn0.step)⟩
  ·rw [if_neg c4] at H
   exact absurd H (by simp)
 ·replace c3 := Bool.eq_false_iff.mpr c3
  subst c3
  have H1 : (some false) = some r := by rw [if_neg (show ¬ (false = true) by decide)] at H; exact H
  clear H
  have H := H1
  clear H1
  obtain rfl := Option.some.inj H
  go_enter Try.func51, Try.ntmps51
  go_wp2_with (first | ((with_reducible refine gate_callee (f := 79) rfl ?_); refine gL (some 4) Try.func79 #[.string a0, .int .i64 24] ?_; (with_reducible refine (pylonref06_Of.calls k a0 24 false _ A2.out).mono ?_); rintro e w' ⟨rfl, ⟨nd, rfl⟩⟩; refine ⟨_, rfl, ?_⟩))
  go_ret
  exact ⟨by first | rfl | (simp; done) | (simp [*]; done), by repeat (first | exact Drawn0.refl _ | apply Drawn0.step)⟩

/-! ### pylonref04_good: function 80 -/
def pylonref04_good.f (a0_0 : Int) (a0_1 : Int) (a0_2 : Int) (a0_3 : Int) : Option (Bool) := if a0_0 ≥ 1 then (if a0_0 ≤ 12 then (if a0_1 ≥ 1 then (if a0_1 ≤ 5 then (if a0_2 ≥ 0 then (if a0_2 ≤ 6 then (if a0_3 ≥ 60 then (some (decide (a0_3 ≤ 1380))) else (some false)) else (some false)) else (some false)) else (some false)) else (some false)) else (some false)) else (some false)
set_option maxHeartbeats 8000000 in
set_option maxRecDepth 100000 in
theorem pylonref04_good.calls (a0_0 : Int) (a0_1 : Int) (a0_2 : Int) (a0_3 : Int) (r : Bool) (w : World) (h : pylonref04_good.f a0_0 a0_1 a0_2 a0_3 = some r) :
  Calls Try.prog 80 #[.agg #[.int .i64 a0_0, .int .i64 a0_1, .int .i64 a0_2, .int .i64 a0_3]] w fun e w' => e = .returned (.bool r) ∧ Below w.heap.size w w' := by
 have hu40 := Try.underlying40
 have HB := AX (Below.refl w.heap.size w)
 have H : (if a0_0 ≥ 1 then (if a0_0 ≤ 12 then (if a0_1 ≥ 1 then (if a0_1 ≤ 5 then (if a0_2 ≥ 0 then (if a0_2 ≤ 6 then (if a0_3 ≥ 60 then (some (decide (a0_3 ≤ 1380))) else (some false)) else (some false)) else (some false)) else (some false)) else (some false)) else (some false)) else (some false)) = some r := h
 clear h
 by_cases c2 : a0_0 ≥ 1
 ·rw [if_pos c2] at H
  have c2b0 : decide (1 ≤ a0_0) = true := decide_eq_true c2
  clear c2
  by_cases c3 : a0_0 ≤ 12
  ·rw [if_pos c3] at H
   have c3b0 : decide (a0_0 ≤ 12) = true := decide_eq_true c3
   clear c3
   by_cases c4 : a0_1 ≥ 1
   ·rw [if_pos c4] at H
    have c4b0 : decide (1 ≤ a0_1) = true := decide_eq_true c4
    clear c4
    by_cases c5 : a0_1 ≤ 5
    ·rw [if_pos c5] at H
     have c5b0 : decide (a0_1 ≤ 5) = true := decide_eq_true c5
     clear c5
     by_cases c6 : a0_2 ≥ 0
     ·rw [if_pos c6] at H
      have c6b0 : decide (0 ≤ a0_2) = true := decide_eq_true c6
      clear c6
      by_cases c7 : a0_2 ≤ 6
      ·rw [if_pos c7] at H
       have c7b0 : decide (a0_2 ≤ 6) = true := decide_eq_true c7
       clear c7
       by_cases c8 : a0_3 ≥ 60
       ·rw [if_pos c8] at H
        have c8b0 : decide (60 ≤ a0_3) = true := decide_eq_true c8
        clear c8
        obtain rfl := Option.some.inj H
        go_enter Try.func80, Try.ntmps80
        go_wp2_with (first | ((with_reducible refine gate_dst (N := 1) rfl ?_); refine bx 1 #[.int .i64 a0_0, .int .i64 a0_1, .int .i64 a0_2, .int .i64 a0_3] 40 ?_; intro gb185 hg w9 hbox hb; have BK185 := AX (hbox); have GW185 := gwl (w := w) hg bw; have GE185 := GW185; replace HB := AX (below_step bw hb); clear hb hbox hg; obtain ⟨hcz10_0, hcz10_1, hcz10_2, hcz10_3⟩ := blkC4 (w := w9) BK185.out; obtain ⟨hfz10_0, hfz10_1, hfz10_2, hfz10_3⟩ := blkF4 BK185.out))
        go_ret
        exact ⟨by first | rfl | (simp [errW_none, errW_some] <;> rfl) | (simp [*, errW_none, errW_some] <;> rfl), bw⟩
       ·rw [if_neg c8] at H
        have c8b0 : decide (60 ≤ a0_3) = false := decide_eq_false c8
        clear c8
        obtain rfl := Option.some.inj H
        go_enter Try.func80, Try.ntmps80
        go_wp2_with (first | ((with_reducible refine gate_dst (N := 1) rfl ?_); refine bx 1 #[.int .i64 a0_0, .int .i64 a0_1, .int .i64 a0_2, .int .i64 a0_3] 40 ?_; intro gb185 hg w11 hbox hb; have BK185 := AX (hbox); have GW185 := gwl (w := w) hg bw; have GE185 := GW185; replace HB := AX (below_step bw hb); clear hb hbox hg; obtain ⟨hcz12_0, hcz12_1, hcz12_2, hcz12_3⟩ := blkC4 (w := w11) BK185.out; obtain ⟨hfz12_0, hfz12_1, hfz12_2, hfz12_3⟩ := blkF4 BK185.out))
        go_ret
        exact ⟨by first | rfl | (simp [errW_none, errW_some] <;> rfl) | (simp [*, errW_none, errW_some] <;> rfl), bw⟩
      ·rw [if_neg c7] at H
       have c7b0 : decide (a0_2 ≤ 6) = false := decide_eq_false c7
       clear c7
       obtain rfl := Option.some.inj H
       go_enter Try.func80, Try.ntmps80
       go_wp2_with (first | ((with_reducible refine gate_dst (N := 1) rfl ?_); refine bx 1 #[.int .i64 a0_0, .int .i64 a0_1, .int .i64 a0_2, .int .i64 a0_3] 40 ?_; intro gb185 hg w13 hbox hb; have BK185 := AX (hbox); have GW185 := gwl (w := w) hg bw; have GE185 := GW185; replace HB := AX (below_step bw hb); clear hb hbox hg; obtain ⟨hcz14_0, hcz14_1, hcz14_2, hcz14_3⟩ := blkC4 (w := w13) BK185.out; obtain ⟨hfz14_0, hfz14_1, hfz14_2, hfz14_3⟩ := blkF4 BK185.out))
       go_ret
       exact ⟨by first | rfl | (simp [errW_none, errW_some] <;> rfl) | (simp [*, errW_none, errW_some] <;> rfl), bw⟩
     ·rw [if_neg c6] at H
      have c6b0 : decide (0 ≤ a0_2) = false := decide_eq_false c6
      clear c6
      obtain rfl := Option.some.inj H
      go_enter Try.func80, Try.ntmps80
      go_wp2_with (first | ((with_reducible refine gate_dst (N := 1) rfl ?_); refine bx 1 #[.int .i64 a0_0, .int .i64 a0_1, .int .i64 a0_2, .int .i64 a0_3] 40 ?_; intro gb185 hg w15 hbox hb; have BK185 := AX (hbox); have GW185 := gwl (w := w) hg bw; have GE185 := GW185; replace HB := AX (below_step bw hb); clear hb hbox hg; obtain ⟨hcz16_0, hcz16_1, hcz16_2, hcz16_3⟩ := blkC4 (w := w15) BK185.out; obtain ⟨hfz16_0, hfz16_1, hfz16_2, hfz16_3⟩ := blkF4 BK185.out))
      go_ret
      exact ⟨by first | rfl | (simp [errW_none, errW_some] <;> rfl) | (simp [*, errW_none, errW_some] <;> rfl), bw⟩
    ·rw [if_neg c5] at H
     have c5b0 : decide (a0_1 ≤ 5) = false := decide_eq_false c5
     clear c5
     obtain rfl := Option.some.inj H
     go_enter Try.func80, Try.ntmps80
     go_wp2_with (first | ((with_reducible refine gate_dst (N := 1) rfl ?_); refine bx 1 #[.int .i64 a0_0, .int .i64 a0_1, .int .i64 a0_2, .int .i64 a0_3] 40 ?_; intro gb185 hg w17 hbox hb; have BK185 := AX (hbox); have GW185 := gwl (w := w) hg bw; have GE185 := GW185; replace HB := AX (below_step bw hb); clear hb hbox hg; obtain ⟨hcz18_0, hcz18_1, hcz18_2, hcz18_3⟩ := blkC4 (w := w17) BK185.out; obtain ⟨hfz18_0, hfz18_1, hfz18_2, hfz18_3⟩ := blkF4 BK185.out))
     go_ret
     exact ⟨by first | rfl | (simp [errW_none, errW_some] <;> rfl) | (simp [*, errW_none, errW_some] <;> rfl), bw⟩
   ·rw [if_neg c4] at H
    have c4b0 : decide (1 ≤ a0_1) = false := decide_eq_false c4
    clear c4
    obtain rfl := Option.some.inj H
    go_enter Try.func80, Try.ntmps80
    go_wp2_with (first | ((with_reducible refine gate_dst (N := 1) rfl ?_); refine bx 1 #[.int .i64 a0_0, .int .i64 a0_1, .int .i64 a0_2, .int .i64 a0_3] 40 ?_; intro gb185 hg w19 hbox hb; have BK185 := AX (hbox); have GW185 := gwl (w := w) hg bw; have GE185 := GW185; replace HB := AX (below_step bw hb); clear hb hbox hg; obtain ⟨hcz20_0, hcz20_1, hcz20_2, hcz20_3⟩ := blkC4 (w := w19) BK185.out; obtain ⟨hfz20_0, hfz20_1, hfz20_2, hfz20_3⟩ := blkF4 BK185.out))
    go_ret
    exact ⟨by first | rfl | (simp [errW_none, errW_some] <;> rfl) | (simp [*, errW_none, errW_some] <;> rfl), bw⟩
  ·rw [if_neg c3] at H
   have c3b0 : decide (a0_0 ≤ 12) = false := decide_eq_false c3
   clear c3
   obtain rfl := Option.some.inj H
   go_enter Try.func80, Try.ntmps80
   go_wp2_with (first | ((with_reducible refine gate_dst (N := 1) rfl ?_); refine bx 1 #[.int .i64 a0_0, .int .i64 a0_1, .int .i64 a0_2, .int .i64 a0_3] 40 ?_; intro gb185 hg w21 hbox hb; have BK185 := AX (hbox); have GW185 := gwl (w := w) hg bw; have GE185 := GW185; replace HB := AX (below_step bw hb); clear hb hbox hg; obtain ⟨hcz22_0, hcz22_1, hcz22_2, hcz22_3⟩ := blkC4 (w := w21) BK185.out; obtain ⟨hfz22_0, hfz22_1, hfz22_2, hfz22_3⟩ := blkF4 BK185.out))
   go_ret
   exact ⟨by first | rfl | (simp [errW_none, errW_some] <;> rfl) | (simp [*, errW_none, errW_some] <;> rfl), bw⟩
 ·rw [if_neg c2] at H
  have c2b0 : decide (1 ≤ a0_0) = false := decide_eq_false c2
  clear c2
  obtain rfl := Option.some.inj H
  go_enter Try.func80, Try.ntmps80
  go_wp2_with (first | ((with_reducible refine gate_dst (N := 1) rfl ?_); refine bx 1 #[.int .i64 a0_0, .int .i64 a0_1, .int .i64 a0_2, .int .i64 a0_3] 40 ?_; intro gb185 hg w23 hbox hb; have BK185 := AX (hbox); have GW185 := gwl (w := w) hg bw; have GE185 := GW185; replace HB := AX (below_step bw hb); clear hb hbox hg; obtain ⟨hcz24_0, hcz24_1, hcz24_2, hcz24_3⟩ := blkC4 (w := w23) BK185.out; obtain ⟨hfz24_0, hfz24_1, hfz24_2, hfz24_3⟩ := blkF4 BK185.out))
  go_ret
  exact ⟨by first | rfl | (simp [errW_none, errW_some] <;> rfl) | (simp [*, errW_none, errW_some] <;> rfl), bw⟩

end Go.Proofs.Ytkggjjggcbcdiaa.PX
