/- Functions of the program as plain Lean functions, each with a proof that the call in the machine answers just what the plain function says; condition: the plain function answers at all. -/
import Derived.Test.YtkggjjggcbcdiaaPXx0
import Derived.Test.YtkggjjggcbcdiaaPXx12
import Derived.Test.YtkggjjggcbcdiaaPXx13
namespace Go.Proofs.Ytkggjjggcbcdiaa.PX
open Go.RowKit Go.Proofs.YtkggjjggcbcdiaaW.PrintWords Go.Proofs.YtkggjjggcbcdiaaW.PrintLast Go.Proofs.YtkggjjggcbcdiaaW.PrintMore
attribute [local go_sem] max2_int min2_int max_two min_two max_three min_three max_four min_four   -- for this text's walks alone
set_option linter.unusedVariables false
set_option linter.unusedSimpArgs false

/-! ### pylonlaw14_awake: function 15 -/
def pylonlaw14_awake.f (k : Nat)  : Option (Bool) := (tou_Kind.f k ([] : List (S65)) 2026 11 15).bind fun bt177 => ((tou_Window.f (([(⟨(⟨#[]⟩ : ByteArray), 0, 0, 0, (⟨#[]⟩ : ByteArray)⟩ : S60), (⟨(⟨#[115]⟩ : ByteArray), 0, 0, 60, (⟨#[]⟩ : ByteArray)⟩ : S60)] : List (S60))) (⟨#[115]⟩ : ByteArray) 0 59).bind fun bt182 => (if bt177.1 = 2 then (if bt177.2 = 0 then (if bt182.1 = 1 then (some (bt182.2 == 0)) else (some false)) else (some false)) else (some false)))
theorem pylonlaw14_awake.mono : ∀ k, LeO (pylonlaw14_awake.f k ) (pylonlaw14_awake.f (k + 1) ) := by
 intro  k
 unfold pylonlaw14_awake.f
 repeat' first
   | (with_reducible exact tou_Kind.mono _ _ _ _ _)
   | (with_reducible exact LeO.refl _)
   | (with_reducible exact LeO.none _)
   | (with_reducible refine LeO.ite ?_ ?_)
   | (with_reducible refine LeO.bind ?_ (fun _ => ?_))
set_option maxHeartbeats 8000000 in
set_option maxRecDepth 100000 in
theorem pylonlaw14_awake.calls (k : Nat)  (r : Bool) (w : World) (h : pylonlaw14_awake.f k  = some r) :
  Calls Try.prog 15 #[] w fun e w' => e = .returned (.bool r) ∧ Below w.heap.size w w' := by
 have hu24 := Try.underlying24
 have hu60 := Try.underlying60
 have HB := AX (Below.refl w.heap.size w)
 have H : ((tou_Kind.f k ([] : List (S65)) 2026 11 15).bind fun bt177 => ((tou_Window.f (([(⟨(⟨#[]⟩ : ByteArray), 0, 0, 0, (⟨#[]⟩ : ByteArray)⟩ : S60), (⟨(⟨#[115]⟩ : ByteArray), 0, 0, 60, (⟨#[]⟩ : ByteArray)⟩ : S60)] : List (S60))) (⟨#[115]⟩ : ByteArray) 0 59).bind fun bt182 => (if bt177.1 = 2 then (if bt177.2 = 0 then (if bt182.1 = 1 then (some (bt182.2 == 0)) else (some false)) else (some false)) else (some false)))) = some r := h
 clear h
 replace H := Option.bind_eq_some_iff.mp H
 obtain ⟨⟨t177, t178⟩, A10, H⟩ := H
 replace H : ((tou_Window.f (([(⟨(⟨#[]⟩ : ByteArray), 0, 0, 0, (⟨#[]⟩ : ByteArray)⟩ : S60), (⟨(⟨#[115]⟩ : ByteArray), 0, 0, 60, (⟨#[]⟩ : ByteArray)⟩ : S60)] : List (S60))) (⟨#[115]⟩ : ByteArray) 0 59).bind fun bt182 => (if t177 = 2 then (if t178 = 0 then (if bt182.1 = 1 then (some (bt182.2 == 0)) else (some false)) else (some false)) else (some false))) = some r := H
 have A1 := AX A10
 clear A10
 obtain ⟨y179, hy179⟩ : ∃ y_ : List (S60), y_ = (([(⟨(⟨#[]⟩ : ByteArray), 0, 0, 0, (⟨#[]⟩ : ByteArray)⟩ : S60), (⟨(⟨#[115]⟩ : ByteArray), 0, 0, 60, (⟨#[]⟩ : ByteArray)⟩ : S60)] : List (S60))) := ⟨_, rfl⟩
 replace H : ((tou_Window.f y179 (⟨#[115]⟩ : ByteArray) 0 59).bind fun bt182 => (if t177 = 2 then (if t178 = 0 then (if bt182.1 = 1 then (some (bt182.2 == 0)) else (some false)) else (some false)) else (some false))) = some r := by first | (rw [hy179]; with_reducible exact H) | (have H2_ := (Option.bind_some _ _).symm.trans H; rw [hy179]; with_reducible exact H2_) | (have H2_ := (Option.bind_some _ _).symm.trans H; with_reducible exact H2_) | with_reducible exact H | (rw [hy179]; exact H) | exact H
 have Ny179 := AX hy179
 clear hy179
 replace H := Option.bind_eq_some_iff.mp H
 obtain ⟨⟨t182, t183⟩, A20, H⟩ := H
 replace H : (if t177 = 2 then (if t178 = 0 then (if t182 = 1 then (some (t183 == 0)) else (some false)) else (some false)) else (some false)) = some r := H
 have A2 := AX A20
 clear A20
 by_cases c3 : t177 = 2
 ·rw [if_pos c3] at H
  have c3b0 : (t177 == 2) = true := beq_iff_eq.mpr c3
  have c3b1 : (t177 != 2) = false := bne_eq_false_iff_eq.mpr c3
  clear c3
  by_cases c4 : t178 = 0
  ·rw [if_pos c4] at H
   have c4b0 : (t178 == 0) = true := beq_iff_eq.mpr c4
   have c4b1 : (t178 != 0) = false := bne_eq_false_iff_eq.mpr c4
   clear c4
   by_cases c5 : t182 = 1
   ·rw [if_pos c5] at H
    have c5b0 : (t182 == 1) = true := beq_iff_eq.mpr c5
    have c5b1 : (t182 != 1) = false := bne_eq_false_iff_eq.mpr c5
    clear c5
    obtain rfl := Option.some.inj H
    go_enter Try.func15, Try.ntmps15
    go_wp2_with (first | ((with_reducible refine gate_callee (f := 17) rfl ?_); refine gL (some 7) Try.func17 #[.slice none 0 0, .agg #[.int .i64 2026, .int .i64 11, .int .i64 15]] ?_; (refine (tou_Kind.calls k _ _ ([] : List (S65)) 2026 11 15 t177 t178 _ ?side1 ?side2 A1.out).mono ?_); (case side1 => exact Kd.C_nil _ _); (case side2 => exact Nat.le_refl _); rintro e w6 ⟨rfl, hb⟩; refine ⟨_, rfl, ?_⟩; replace HB := AX (below_step bw hb); (try clear hb)) | ((with_reducible refine gate_dst (N := 13) rfl ?_); refine Kd.R_lit k60 _ 60 ?hg (N := 13) ?hd (xs := ([(⟨(⟨#[]⟩ : ByteArray), 0, 0, 0, (⟨#[]⟩ : ByteArray)⟩ : S60), (⟨(⟨#[115]⟩ : ByteArray), 0, 0, 60, (⟨#[]⟩ : ByteArray)⟩ : S60)] : List (S60))) (inner := [.string (⟨#[]⟩ : ByteArray), .int .i64 0, .int .i64 0, .int .i64 0, .string (⟨#[]⟩ : ByteArray), .string (⟨#[115]⟩ : ByteArray), .int .i64 0, .int .i64 0, .int .i64 60, .string (⟨#[]⟩ : ByteArray)]) (ok := fun _ => True) (okp := fun _ => True) ?hr ?hp (fun _ hk => hk) trivial (Below.refl _ _) (Nat.le_refl _) (by simp) ?_; (case hd => rfl); (case hg => rfl); (case hr => first | (go_simp; done) | (go_simp; rfl)); (case hp => exact (Reps.c5 (show Kd.M k60 _ _ _ (⟨(⟨#[]⟩ : ByteArray), 0, 0, 0, (⟨#[]⟩ : ByteArray)⟩ : S60) [.string (⟨#[]⟩ : ByteArray), .int .i64 0, .int .i64 0, .int .i64 0, .string (⟨#[]⟩ : ByteArray)] from (k60_mkM _ _ _ (⟨(⟨#[]⟩ : ByteArray), 0, 0, 0, (⟨#[]⟩ : ByteArray)⟩ : S60) )) (Reps.c5 (show Kd.M k60 _ _ _ (⟨(⟨#[115]⟩ : ByteArray), 0, 0, 60, (⟨#[]⟩ : ByteArray)⟩ : S60) [.string (⟨#[115]⟩ : ByteArray), .int .i64 0, .int .i64 0, .int .i64 60, .string (⟨#[]⟩ : ByteArray)] from (k60_mkM _ _ _ (⟨(⟨#[115]⟩ : ByteArray), 0, 0, 60, (⟨#[]⟩ : ByteArray)⟩ : S60) )) (Reps.none _ _)))); intro v180 w7 ho8 hb hg_ hnew_; clear hg_ hnew_; (first | rw [← Ny179.out] at ho8 | (simp only [Int.reduceToNat] at ho8; rw [← Ny179.out] at ho8)); have HO181 := AX (Kd.R_lower ho8 (below_size bw)); replace HB := AX (below_step bw hb); clear hb ho8; obtain ⟨Ao9, co9, eo9⟩ := Kd.R_slice HO181.out; subst eo9) | ((with_reducible refine gate_callee (f := 21) rfl ?_); refine gL (some 14) Try.func21 #[.slice Ao9 y179.length co9, .string (⟨#[115]⟩ : ByteArray), .int .i64 0, .int .i64 59] ?_; (with_reducible refine (tou_Window.calls _ _ y179 (⟨#[115]⟩ : ByteArray) 0 59 t182 t183 _ ?side1 ?side2 A2.out).mono ?_); (case side1 => repeat (first | exact (Kd.R_reads' HO181.out).2.2 | (with_reducible refine Kd.C_alloc ?_ _) | (with_reducible refine Kd.C_drewN ?_ _) | (with_reducible refine Kd.C_drew ?_))); (case side2 => exact (Kd.R_reads' HO181.out).2.1); rintro e w10 ⟨rfl, hb⟩; refine ⟨_, rfl, ?_⟩; replace HO181 := AX (Kd.R_below (kr HO181) hb); replace HB := AX (below_step bw hb); (try clear hb); (try clear hb2); (try clear hk); (try clear hi)))
    go_ret
    exact ⟨by first | rfl | (simp [errW_none, errW_some] <;> rfl) | (simp [*, errW_none, errW_some] <;> rfl), bw⟩
   ·rw [if_neg c5] at H
    have c5b0 : (t182 == 1) = false := beq_eq_false_iff_ne.mpr c5
    have c5b1 : (t182 != 1) = true := bne_iff_ne.mpr c5
    obtain rfl := Option.some.inj H
    go_enter Try.func15, Try.ntmps15
    go_wp2_with (first | ((with_reducible refine gate_callee (f := 17) rfl ?_); refine gL (some 7) Try.func17 #[.slice none 0 0, .agg #[.int .i64 2026, .int .i64 11, .int .i64 15]] ?_; (refine (tou_Kind.calls k _ _ ([] : List (S65)) 2026 11 15 t177 t178 _ ?side1 ?side2 A1.out).mono ?_); (case side1 => exact Kd.C_nil _ _); (case side2 => exact Nat.le_refl _); rintro e w11 ⟨rfl, hb⟩; refine ⟨_, rfl, ?_⟩; replace HB := AX (below_step bw hb); (try clear hb)) | ((with_reducible refine gate_dst (N := 13) rfl ?_); refine Kd.R_lit k60 _ 60 ?hg (N := 13) ?hd (xs := ([(⟨(⟨#[]⟩ : ByteArray), 0, 0, 0, (⟨#[]⟩ : ByteArray)⟩ : S60), (⟨(⟨#[115]⟩ : ByteArray), 0, 0, 60, (⟨#[]⟩ : ByteArray)⟩ : S60)] : List (S60))) (inner := [.string (⟨#[]⟩ : ByteArray), .int .i64 0, .int .i64 0, .int .i64 0, .string (⟨#[]⟩ : ByteArray), .string (⟨#[115]⟩ : ByteArray), .int .i64 0, .int .i64 0, .int .i64 60, .string (⟨#[]⟩ : ByteArray)]) (ok := fun _ => True) (okp := fun _ => True) ?hr ?hp (fun _ hk => hk) trivial (Below.refl _ _) (Nat.le_refl _) (by simp) ?_; (case hd => rfl); (case hg => rfl); (case hr => first | (go_simp; done) | (go_simp; rfl)); (case hp => exact (Reps.c5 (show Kd.M k60 _ _ _ (⟨(⟨#[]⟩ : ByteArray), 0, 0, 0, (⟨#[]⟩ : ByteArray)⟩ : S60) [.string (⟨#[]⟩ : ByteArray), .int .i64 0, .int .i64 0, .int .i64 0, .string (⟨#[]⟩ : ByteArray)] from (k60_mkM _ _ _ (⟨(⟨#[]⟩ : ByteArray), 0, 0, 0, (⟨#[]⟩ : ByteArray)⟩ : S60) )) (Reps.c5 (show Kd.M k60 _ _ _ (⟨(⟨#[115]⟩ : ByteArray), 0, 0, 60, (⟨#[]⟩ : ByteArray)⟩ : S60) [.string (⟨#[115]⟩ : ByteArray), .int .i64 0, .int .i64 0, .int .i64 60, .string (⟨#[]⟩ : ByteArray)] from (k60_mkM _ _ _ (⟨(⟨#[115]⟩ : ByteArray), 0, 0, 60, (⟨#[]⟩ : ByteArray)⟩ : S60) )) (Reps.none _ _)))); intro v180 w12 ho13 hb hg_ hnew_; clear hg_ hnew_; (first | rw [← Ny179.out] at ho13 | (simp only [Int.reduceToNat] at ho13; rw [← Ny179.out] at ho13)); have HO181 := AX (Kd.R_lower ho13 (below_size bw)); replace HB := AX (below_step bw hb); clear hb ho13; obtain ⟨Ao14, co14, eo14⟩ := Kd.R_slice HO181.out; subst eo14) | ((with_reducible refine gate_callee (f := 21) rfl ?_); refine gL (some 14) Try.func21 #[.slice Ao14 y179.length co14, .string (⟨#[115]⟩ : ByteArray), .int .i64 0, .int .i64 59] ?_; (with_reducible refine (tou_Window.calls _ _ y179 (⟨#[115]⟩ : ByteArray) 0 59 t182 t183 _ ?side1 ?side2 A2.out).mono ?_); (case side1 => repeat (first | exact (Kd.R_reads' HO181.out).2.2 | (with_reducible refine Kd.C_alloc ?_ _) | (with_reducible refine Kd.C_drewN ?_ _) | (with_reducible refine Kd.C_drew ?_))); (case side2 => exact (Kd.R_reads' HO181.out).2.1); rintro e w15 ⟨rfl, hb⟩; refine ⟨_, rfl, ?_⟩; replace HO181 := AX (Kd.R_below (kr HO181) hb); replace HB := AX (below_step bw hb); (try clear hb); (try clear hb2); (try clear hk); (try clear hi)))
    go_ret
    exact ⟨by first | rfl | (simp [errW_none, errW_some] <;> rfl) | (simp [*, errW_none, errW_some] <;> rfl), bw⟩
  ·rw [if_neg c4] at H
   have c4b0 : (t178 == 0) = false := beq_eq_false_iff_ne.mpr c4
   have c4b1 : (t178 != 0) = true := bne_iff_ne.mpr c4
   obtain rfl := Option.some.inj H
   go_enter Try.func15, Try.ntmps15
   go_wp2_with (first | ((with_reducible refine gate_callee (f := 17) rfl ?_); refine gL (some 7) Try.func17 #[.slice none 0 0, .agg #[.int .i64 2026, .int .i64 11, .int .i64 15]] ?_; (refine (tou_Kind.calls k _ _ ([] : List (S65)) 2026 11 15 t177 t178 _ ?side1 ?side2 A1.out).mono ?_); (case side1 => exact Kd.C_nil _ _); (case side2 => exact Nat.le_refl _); rintro e w16 ⟨rfl, hb⟩; refine ⟨_, rfl, ?_⟩; replace HB := AX (below_step bw hb); (try clear hb)) | ((with_reducible refine gate_dst (N := 13) rfl ?_); refine Kd.R_lit k60 _ 60 ?hg (N := 13) ?hd (xs := ([(⟨(⟨#[]⟩ : ByteArray), 0, 0, 0, (⟨#[]⟩ : ByteArray)⟩ : S60), (⟨(⟨#[115]⟩ : ByteArray), 0, 0, 60, (⟨#[]⟩ : ByteArray)⟩ : S60)] : List (S60))) (inner := [.string (⟨#[]⟩ : ByteArray), .int .i64 0, .int .i64 0, .int .i64 0, .string (⟨#[]⟩ : ByteArray), .string (⟨#[115]⟩ : ByteArray), .int .i64 0, .int .i64 0, .int .i64 60, .string (⟨#[]⟩ : ByteArray)]) (ok := fun _ => True) (okp := fun _ => True) ?hr ?hp (fun _ hk => hk) trivial (Below.refl _ _) (Nat.le_refl _) (by simp) ?_; (case hd => rfl); (case hg => rfl); (case hr => first | (go_simp; done) | (go_simp; rfl)); (case hp => exact (Reps.c5 (show Kd.M k60 _ _ _ (⟨(⟨#[]⟩ : ByteArray), 0, 0, 0, (⟨#[]⟩ : ByteArray)⟩ : S60) [.string (⟨#[]⟩ : ByteArray), .int .i64 0, .int .i64 0, .int .i64 0, .string (⟨#[]⟩ : ByteArray)] from (k60_mkM _ _ _ (⟨(⟨#[]⟩ : ByteArray), 0, 0, 0, (⟨#[]⟩ : ByteArray)⟩ : S60) )) (Reps.c5 (show Kd.M k60 _ _ _ (⟨(⟨#[115]⟩ : ByteArray), 0, 0, 60, (⟨#[]⟩ : ByteArray)⟩ : S60) [.string (⟨#[115]⟩ : ByteArray), .int .i64 0, .int .i64 0, .int .i64 60, .string (⟨#[]⟩ : ByteArray)] from (k60_mkM _ _ _ (⟨(⟨#[115]⟩ : ByteArray), 0, 0, 60, (⟨#[]⟩ : ByteArray)⟩ : S60) )) (Reps.none _ _)))); intro v180 w17 ho18 hb hg_ hnew_; clear hg_ hnew_; (first | rw [← Ny179.out] at ho18 | (simp only [Int.reduceToNat] at ho18; rw [← Ny179.out] at ho18)); have HO181 := AX (Kd.R_lower ho18 (below_size bw)); replace HB := AX (below_step bw hb); clear hb ho18; obtain ⟨Ao19, co19, eo19⟩ := Kd.R_slice HO181.out; subst eo19) | ((with_reducible refine gate_callee (f := 21) rfl ?_); refine gL (some 14) Try.func21 #[.slice Ao19 y179.length co19, .string (⟨#[115]⟩ : ByteArray), .int .i64 0, .int .i64 59] ?_; (with_reducible refine (tou_Window.calls _ _ y179 (⟨#[115]⟩ : ByteArray) 0 59 t182 t183 _ ?side1 ?side2 A2.out).mono ?_); (case side1 => repeat (first | exact (Kd.R_reads' HO181.out).2.2 | (with_reducible refine Kd.C_alloc ?_ _) | (with_reducible refine Kd.C_drewN ?_ _) | (with_reducible refine Kd.C_drew ?_))); (case side2 => exact (Kd.R_reads' HO181.out).2.1); rintro e w20 ⟨rfl, hb⟩; refine ⟨_, rfl, ?_⟩; replace HO181 := AX (Kd.R_below (kr HO181) hb); replace HB := AX (below_step bw hb); (try clear hb); (try clear hb2); (try clear hk); (try clear hi)))
   go_ret
   exact ⟨by first | rfl | (simp [errW_none, errW_some] <;> rfl) | (simp [*, errW_none, errW_some] <;> rfl), bw⟩
 ·rw [if_neg c3] at H
  have c3b0 : (t177 == 2) = false := beq_eq_false_iff_ne.mpr c3
  have c3b1 : (t177 != 2) = true := bne_iff_ne.mpr c3
  obtain rfl := Option.some.inj H
  go_enter Try.func15, Try.ntmps15
  go_wp2_with (first | ((with_reducible refine gate_callee (f := 17) rfl ?_); refine gL (some 7) Try.func17 #[.slice none 0 0, .agg #[.int .i64 2026, .int .i64 11, .int .i64 15]] ?_; (refine (tou_Kind.calls k _ _ ([] : List (S65)) 2026 11 15 t177 t178 _ ?side1 ?side2 A1.out).mono ?_); (case side1 => exact Kd.C_nil _ _); (case side2 => exact Nat.le_refl _); rintro e w21 ⟨rfl, hb⟩; refine ⟨_, rfl, ?_⟩; replace HB := AX (below_step bw hb); (try clear hb)) | ((with_reducible refine gate_dst (N := 13) rfl ?_); refine Kd.R_lit k60 _ 60 ?hg (N := 13) ?hd (xs := ([(⟨(⟨#[]⟩ : ByteArray), 0, 0, 0, (⟨#[]⟩ : ByteArray)⟩ : S60), (⟨(⟨#[115]⟩ : ByteArray), 0, 0, 60, (⟨#[]⟩ : ByteArray)⟩ : S60)] : List (S60))) (inner := [.string (⟨#[]⟩ : ByteArray), .int .i64 0, .int .i64 0, .int .i64 0, .string (⟨#[]⟩ : ByteArray), .string (⟨#[115]⟩ : ByteArray), .int .i64 0, .int .i64 0, .int .i64 60, .string (⟨#[]⟩ : ByteArray)]) (ok := fun _ => True) (okp := fun _ => True) ?hr ?hp (fun _ hk => hk) trivial (Below.refl _ _) (Nat.le_refl _) (by simp) ?_; (case hd => rfl); (case hg => rfl); (case hr => first | (go_simp; done) | (go_simp; rfl)); (case hp => exact (Reps.c5 (show Kd.M k60 _ _ _ (⟨(⟨#[]⟩ : ByteArray), 0, 0, 0, (⟨#[]⟩ : ByteArray)⟩ : S60) [.string (⟨#[]⟩ : ByteArray), .int .i64 0, .int .i64 0, .int .i64 0, .string (⟨#[]⟩ : ByteArray)] from (k60_mkM _ _ _ (⟨(⟨#[]⟩ : ByteArray), 0, 0, 0, (⟨#[]⟩ : ByteArray)⟩ : S60) )) (Reps.c5 (show Kd.M k60 _ _ _ (⟨(⟨#[115]⟩ : ByteArray), 0, 0, 60, (⟨#[]⟩ : ByteArray)⟩ : S60) [.string (⟨#[115]⟩ : ByteArray), .int .i64 0, .int .i64 0, .int .i64 60, .string (⟨#[]⟩ : ByteArray)] from (k60_mkM _ _ _ (⟨(⟨#[115]⟩ : ByteArray), 0, 0, 60, (⟨#[]⟩ : ByteArray)⟩ : S60) )) (Reps.none _ _)))); intro v180 w22 ho23 hb hg_ hnew_; clear hg_ hnew_; (first | rw [← Ny179.out] at ho23 | (simp only [Int.reduceToNat] at ho23; rw [← Ny179.out] at ho23)); have HO181 := AX (Kd.R_lower ho23 (below_size bw)); replace HB := AX (below_step bw hb); clear hb ho23; obtain ⟨Ao24, co24, eo24⟩ := Kd.R_slice HO181.out; subst eo24) | ((with_reducible refine gate_callee (f := 21) rfl ?_); refine gL (some 14) Try.func21 #[.slice Ao24 y179.length co24, .string (⟨#[115]⟩ : ByteArray), .int .i64 0, .int .i64 59] ?_; (with_reducible refine (tou_Window.calls _ _ y179 (⟨#[115]⟩ : ByteArray) 0 59 t182 t183 _ ?side1 ?side2 A2.out).mono ?_); (case side1 => repeat (first | exact (Kd.R_reads' HO181.out).2.2 | (with_reducible refine Kd.C_alloc ?_ _) | (with_reducible refine Kd.C_drewN ?_ _) | (with_reducible refine Kd.C_drew ?_))); (case side2 => exact (Kd.R_reads' HO181.out).2.1); rintro e w25 ⟨rfl, hb⟩; refine ⟨_, rfl, ?_⟩; replace HO181 := AX (Kd.R_below (kr HO181) hb); replace HB := AX (below_step bw hb); (try clear hb); (try clear hb2); (try clear hk); (try clear hi)))
  go_ret
  exact ⟨by first | rfl | (simp [errW_none, errW_some] <;> rfl) | (simp [*, errW_none, errW_some] <;> rfl), bw⟩

/-! ### pylonref03_leap: function 92 -/
def pylonref03_leap.f (a0 : Int) : Option (Bool) := if (Int.tmod a0 4) = 0 then (if (Int.tmod a0 100) = 0 then (some ((Int.tmod a0 400) == 0)) else (some true)) else (some false)
set_option maxHeartbeats 8000000 in
set_option maxRecDepth 100000 in
theorem pylonref03_leap.calls (a0 : Int) (r : Bool) (w : World) (h : pylonref03_leap.f a0 = some r) :
  Calls Try.prog 92 #[.int .i64 a0] w fun e w' => e = .returned (.bool r) ∧ Drawn0 w w' := by
 have H : (if (Int.tmod a0 4) = 0 then (if (Int.tmod a0 100) = 0 then (some ((Int.tmod a0 400) == 0)) else (some true)) else (some false)) = some r := h
 clear h
 by_cases c2 : (Int.tmod a0 4) = 0
 ·rw [if_pos c2] at H
  have c2b0 : ((Int.tmod a0 4) == 0) = true := beq_iff_eq.mpr c2
  have c2b1 : ((Int.tmod a0 4) != 0) = false := bne_eq_false_iff_eq.mpr c2
  clear c2
  by_cases c3 : (Int.tmod a0 100) = 0
  ·rw [if_pos c3] at H
   have c3b0 : ((Int.tmod a0 100) == 0) = true := beq_iff_eq.mpr c3
   have c3b1 : ((Int.tmod a0 100) != 0) = false := bne_eq_false_iff_eq.mpr c3
   clear c3
   obtain rfl := Option.some.inj H
   go_enter Try.func92, Try.ntmps92
   go_wp2
   go_ret
   exact ⟨by first | rfl | (simp; done) | (simp [*]; done), by repeat (first | exact Drawn0.refl _ | apply Drawn0.step)⟩
  ·rw [if_neg c3] at H
   have c3b0 : ((Int.tmod a0 100) == 0) = false := beq_eq_false_iff_ne.mpr c3
   have c3b1 : ((Int.tmod a0 100) != 0) = true := bne_iff_ne.mpr c3
   obtain rfl := Option.some.inj H
   go_enter Try.func92, Try.ntmps92
   go_wp2
   go_ret
   exact ⟨by first | rfl | (simp; done) | (simp [*]; done), by repeat (first | exact Drawn0.refl _ | apply Drawn0.step)⟩
 ·rw [if_neg c2] at H
  have c2b0 : ((Int.tmod a0 4) == 0) = false := beq_eq_false_iff_ne.mpr c2
  have c2b1 : ((Int.tmod a0 4) != 0) = true := bne_iff_ne.mpr c2
  obtain rfl := Option.some.inj H
  go_enter Try.func92, Try.ntmps92
  go_wp2
  go_ret
  exact ⟨by first | rfl | (simp; done) | (simp [*]; done), by repeat (first | exact Drawn0.refl _ | apply Drawn0.step)⟩

/-! ### pylonref03_Length: function 70 -/
mutual
def pylonref03_Length.j0 : Nat → Int → Int → Bool → Option (Int × Int)
 | 0, _, _, _ => none
 | k + 1, x0, x1, x19 => if x19 = true then (some (0, 5)) else (if x1 = 4 then (pylonref03_Length.j1 k x0 x1 (x1 == 4)) else (if x1 = 6 then (pylonref03_Length.j1 k x0 x1 (x1 == 6)) else (if x1 = 9 then (pylonref03_Length.j1 k x0 x1 (x1 == 9)) else (pylonref03_Length.j1 k x0 x1 (x1 == 11)))))
def pylonref03_Length.j1 : Nat → Int → Int → Bool → Option (Int × Int)
 | 0, _, _, _ => none
 | k + 1, x0, x20, x21 => if x21 = true then (some (30, 0)) else (if x20 = 2 then ((pylonref03_leap.f x0).bind fun t184 => (if t184 = true then (some (29, 0)) else (some (28, 0)))) else (some (31, 0)))
end
def pylonref03_Length.f (k : Nat) (a0 : Int) (a1 : Int) : Option (Int × Int) := if a0 < 1 then (pylonref03_Length.j0 k a0 a1 true) else (if a0 > 9999 then (pylonref03_Length.j0 k a0 a1 true) else (if a1 < 1 then (pylonref03_Length.j0 k a0 a1 true) else (pylonref03_Length.j0 k a0 a1 (decide (a1 > 12)))))
theorem pylonref03_Length.mono_l : ∀ k, (∀ y0 y1 y2, LeO (pylonref03_Length.j0 k y0 y1 y2) (pylonref03_Length.j0 (k + 1) y0 y1 y2)) ∧ (∀ y0 y1 y2, LeO (pylonref03_Length.j1 k y0 y1 y2) (pylonref03_Length.j1 (k + 1) y0 y1 y2))
 | 0 => ⟨fun _ _ _ r h => by simp [pylonref03_Length.j0] at h, fun _ _ _ r h => by simp [pylonref03_Length.j1] at h⟩
 | k + 1 => by
  obtain ⟨ih0, ih1⟩ := pylonref03_Length.mono_l k
  refine ⟨?_, ?_⟩
  ·intro y0 y1 y2
   unfold pylonref03_Length.j0
   repeat' first
   | (with_reducible exact ih0 _ _ _)
   | (with_reducible exact ih1 _ _ _)
   | (with_reducible exact LeO.refl _)
   | (with_reducible exact LeO.none _)
   | (with_reducible refine LeO.ite ?_ ?_)
   | (with_reducible refine LeO.bind ?_ (fun _ => ?_))
  ·intro y0 y1 y2
   unfold pylonref03_Length.j1
   repeat' first
   | (with_reducible exact ih0 _ _ _)
   | (with_reducible exact ih1 _ _ _)
   | (with_reducible exact LeO.refl _)
   | (with_reducible exact LeO.none _)
   | (with_reducible refine LeO.ite ?_ ?_)
   | (with_reducible refine LeO.bind ?_ (fun _ => ?_))
theorem pylonref03_Length.mono : ∀ a0 a1 k, LeO (pylonref03_Length.f k a0 a1) (pylonref03_Length.f (k + 1) a0 a1) := by
 intro a0 a1 k
 obtain ⟨ih0, ih1⟩ := pylonref03_Length.mono_l k
 unfold pylonref03_Length.f
 repeat' first
   | (with_reducible exact ih0 _ _ _)
   | (with_reducible exact ih1 _ _ _)
   | (with_reducible exact LeO.refl _)
   | (with_reducible exact LeO.none _)
   | (with_reducible refine LeO.ite ?_ ?_)
   | (with_reducible refine LeO.bind ?_ (fun _ => ?_))
set_option maxHeartbeats 8000000 in
set_option maxRecDepth 100000 in
theorem pylonref03_Length.calls (k : Nat) (a0 : Int) (a1 : Int) (r1 : Int) (r2 : Int) (w : World) (h : pylonref03_Length.f k a0 a1 = some (r1, r2)) :
  Calls Try.prog 70 #[.int .i64 a0, .int .i64 a1] w fun e w' => e = .returned (.tuple #[.int .i64 r1, .int .i64 r2]) ∧ Drawn0 w w' := by
 have H : (if a0 < 1 then (pylonref03_Length.j0 k a0 a1 true) else (if a0 > 9999 then (pylonref03_Length.j0 k a0 a1 true) else (if a1 < 1 then (pylonref03_Length.j0 k a0 a1 true) else (pylonref03_Length.j0 k a0 a1 (decide (a1 > 12)))))) = some (r1, r2) := h
 clear h
 have HC3 := AX H
 clear H
 go_enter Try.func70, Try.ntmps70
 go_upto_region 1 with (fail)
 go_cut [19] (fun v19 wc => ∃ (kq : Nat) (x19_2 : Bool), v19 = .bool x19_2 ∧ Aside0 (pylonref03_Length.j0 kq a0 a1 x19_2 = some (r1, r2)) ∧ Aside0 (kq ≤ k) ∧ Drawn0 w wc)
 case first =>
  have H := HC3.out
  clear HC3
  by_cases c4 : a0 < 1
  ·rw [if_pos c4] at H
   have c4b0 : decide (a0 < 1) = true := decide_eq_true c4
   clear c4
   (first | rw [c4b0] | (simp only [i64_w, i32_w]; rw [c4b0]) | skip)
   have H' := AX H
   clear H
   go_wp2
   go_meet
   case rel => exact ⟨_, (true), (by first | rfl | (simp; done) | (simp [*]; done)), H', ⟨by first | omega | exact Nat.le_refl _⟩, by repeat (first | exact Drawn0.refl _ | apply Drawn0.step)⟩
  ·rw [if_neg c4] at H
   have c4b0 : decide (a0 < 1) = false := decide_eq_false c4
   clear c4
   (first | rw [c4b0] | (simp only [i64_w, i32_w]; rw [c4b0]) | skip)
   by_cases c5 : a0 > 9999
   ·rw [if_pos c5] at H
    have c5b0 : decide (9999 < a0) = true := decide_eq_true c5
    clear c5
    have H' := AX H
    clear H
    go_wp2
    go_meet
    case rel => exact ⟨_, (true), (by first | rfl | (simp; done) | (simp [*]; done)), H', ⟨by first | omega | exact Nat.le_refl _⟩, by repeat (first | exact Drawn0.refl _ | apply Drawn0.step)⟩
   ·rw [if_neg c5] at H
    have c5b0 : decide (9999 < a0) = false := decide_eq_false c5
    clear c5
    by_cases c6 : a1 < 1
    ·rw [if_pos c6] at H
     have c6b0 : decide (a1 < 1) = true := decide_eq_true c6
     clear c6
     have H' := AX H
     clear H
     go_wp2
     go_meet
     case rel => exact ⟨_, (true), (by first | rfl | (simp; done) | (simp [*]; done)), H', ⟨by first | omega | exact Nat.le_refl _⟩, by repeat (first | exact Drawn0.refl _ | apply Drawn0.step)⟩
    ·rw [if_neg c6] at H
     have c6b0 : decide (a1 < 1) = false := decide_eq_false c6
     clear c6
     have H' := AX H
     clear H
     go_wp2
     go_meet
     case rel => exact ⟨_, (decide (a1 > 12)), (by first | rfl | (simp; done) | (simp [*]; done)), H', ⟨by first | omega | exact Nat.le_refl _⟩, by repeat (first | exact Drawn0.refl _ | apply Drawn0.step)⟩
 case rest =>
  clear HC3
  obtain ⟨kq, x19_2, rfl, HA, HJ2, ⟨mc2, rfl⟩⟩ := hcut
  cases kq with
  | zero => exact absurd HA.out (by simp [pylonref03_Length.j0])
  | succ kj2 =>
   have H := HA.out
   clear HA
   simp only [pylonref03_Length.j0] at H
   by_cases c7 : x19_2 = true
   ·subst c7
    have H1 : (some (0, 5)) = some (r1, r2) := by rw [if_pos rfl] at H; exact H
    clear H
    have H := H1
    clear H1
    simp only [Option.some.injEq, Prod.mk.injEq] at H
    obtain ⟨rfl, rfl⟩ := H
    go_wp2
    go_ret2
    exact ⟨by first | rfl | (simp; done) | (simp [*]; done), by repeat (first | exact Drawn0.refl _ | apply Drawn0.step)⟩
   ·replace c7 := Bool.eq_false_iff.mpr c7
    subst c7
    have H1 : (if a1 = 4 then (pylonref03_Length.j1 kj2 a0 a1 (a1 == 4)) else (if a1 = 6 then (pylonref03_Length.j1 kj2 a0 a1 (a1 == 6)) else (if a1 = 9 then (pylonref03_Length.j1 kj2 a0 a1 (a1 == 9)) else (pylonref03_Length.j1 kj2 a0 a1 (a1 == 11))))) = some (r1, r2) := by rw [if_neg (show ¬ (false = true) by decide)] at H; exact H
    clear H
    have H := H1
    clear H1
    have HC8 := AX H
    clear H
    go_upto_if 21 with (fail)
    go_cut [21] (fun v21 wc => ∃ (kq : Nat) (x21_7 : Bool), v21 = .bool x21_7 ∧ Aside0 (pylonref03_Length.j1 kq a0 a1 x21_7 = some (r1, r2)) ∧ Aside0 (kq ≤ kj2) ∧ Drawn0 w wc)
    case first =>
     have H := HC8.out
     clear HC8
     by_cases c9 : a1 = 4
     ·rw [if_pos c9] at H
      have c9b0 : (a1 == 4) = true := beq_iff_eq.mpr c9
      have c9b1 : (a1 != 4) = false := bne_eq_false_iff_eq.mpr c9
      clear c9
      (first | rw [c9b0] | (simp only [i64_w, i32_w]; rw [c9b0]) | skip)
      have H' := AX H
      clear H
      go_wp2
      go_meet
      case rel => exact ⟨_, ((a1 == 4)), (by first | rfl | (simp; done) | (simp [*]; done)), H', ⟨by have := HJ2.out; first | omega | exact Nat.le_refl _⟩, by repeat (first | exact Drawn0.refl _ | apply Drawn0.step)⟩
     ·rw [if_neg c9] at H
      have c9b0 : (a1 == 4) = false := beq_eq_false_iff_ne.mpr c9
      have c9b1 : (a1 != 4) = true := bne_iff_ne.mpr c9
      (first | rw [c9b0] | (simp only [i64_w, i32_w]; rw [c9b0]) | skip)
      by_cases c10 : a1 = 6
      ·rw [if_pos c10] at H
       have c10b0 : (a1 == 6) = true := beq_iff_eq.mpr c10
       have c10b1 : (a1 != 6) = false := bne_eq_false_iff_eq.mpr c10
       clear c10
       have H' := AX H
       clear H
       go_wp2
       go_meet
       case rel => exact ⟨_, ((a1 == 6)), (by first | rfl | (simp; done) | (simp [*]; done)), H', ⟨by have := HJ2.out; first | omega | exact Nat.le_refl _⟩, by repeat (first | exact Drawn0.refl _ | apply Drawn0.step)⟩
      ·rw [if_neg c10] at H
       have c10b0 : (a1 == 6) = false := beq_eq_false_iff_ne.mpr c10
       have c10b1 : (a1 != 6) = true := bne_iff_ne.mpr c10
       by_cases c11 : a1 = 9
       ·rw [if_pos c11] at H
        have c11b0 : (a1 == 9) = true := beq_iff_eq.mpr c11
        have c11b1 : (a1 != 9) = false := bne_eq_false_iff_eq.mpr c11
        clear c11
        have H' := AX H
        clear H
        go_wp2
        go_meet
        case rel => exact ⟨_, ((a1 == 9)), (by first | rfl | (simp; done) | (simp [*]; done)), H', ⟨by have := HJ2.out; first | omega | exact Nat.le_refl _⟩, by repeat (first | exact Drawn0.refl _ | apply Drawn0.step)⟩
       ·rw [if_neg c11] at H
        have c11b0 : (a1 == 9) = false := beq_eq_false_iff_ne.mpr c11
        have c11b1 : (a1 != 9) = true := bne_iff_ne.mpr c11
        have H' := AX H
        clear H
        go_wp2
        go_meet
        case rel => exact ⟨_, ((a1 == 11)), (by first | rfl | (simp; done) | (simp [*]; done)), H', ⟨by have := HJ2.out; first | omega | exact Nat.le_refl _⟩, by repeat (first | exact Drawn0.refl _ | apply Drawn0.step)⟩
    case rest =>
     clear HC8
     try clear c7
     obtain ⟨kq, x21_7, rfl, HA, HJ7, ⟨mc7, rfl⟩⟩ := hcut
     cases kq with
     | zero => exact absurd HA.out (by simp [pylonref03_Length.j1])
     | succ kj7 =>
      have H := HA.out
      clear HA
      simp only [pylonref03_Length.j1] at H
      by_cases c12 : x21_7 = true
      ·subst c12
       have H1 : (some (30, 0)) = some (r1, r2) := by rw [if_pos rfl] at H; exact H
       clear H
       have H := H1
       clear H1
       simp only [Option.some.injEq, Prod.mk.injEq] at H
       obtain ⟨rfl, rfl⟩ := H
       go_wp2
       go_ret2
       exact ⟨by first | rfl | (simp; done) | (simp [*]; done), by repeat (first | exact Drawn0.refl _ | apply Drawn0.step)⟩
      ·replace c12 := Bool.eq_false_iff.mpr c12
       subst c12
       have H1 : (if a1 = 2 then ((pylonref03_leap.f a0).bind fun t184 => (if t184 = true then (some (29, 0)) else (some (28, 0)))) else (some (31, 0))) = some (r1, r2) := by rw [if_neg (show ¬ (false = true) by decide)] at H; exact H
       clear H
       have H := H1
       clear H1
       by_cases c13 : a1 = 2
       ·rw [if_pos c13] at H
        have c13b0 : (a1 == 2) = true := beq_iff_eq.mpr c13
        have c13b1 : (a1 != 2) = false := bne_eq_false_iff_eq.mpr c13
        clear c13
        replace H := Option.bind_eq_some_iff.mp H
        obtain ⟨t184, A140, H⟩ := H
        replace H : (if t184 = true then (some (29, 0)) else (some (28, 0))) = some (r1, r2) := H
        have A14 := AX A140
        clear A140
        by_cases c15 : t184 = true
        ·subst c15
         have H1 : (some (29, 0)) = some (r1, r2) := by rw [if_pos rfl] at H; exact H
         clear H
         have H := H1
         clear H1
         simp only [Option.some.injEq, Prod.mk.injEq] at H
         obtain ⟨rfl, rfl⟩ := H
         go_wp2_with (first | ((with_reducible refine gate_callee (f := 92) rfl ?_); refine gL (some 29) Try.func92 #[.int .i64 a0] ?_; (with_reducible refine (pylonref03_leap.calls a0 true _ A14.out).mono ?_); rintro e w' ⟨rfl, ⟨nd, rfl⟩⟩; refine ⟨_, rfl, ?_⟩))
         go_ret2
         exact ⟨by first | rfl | (simp; done) | (simp [*]; done), by repeat (first | exact Drawn0.refl _ | apply Drawn0.step)⟩
        ·replace c15 := Bool.eq_false_iff.mpr c15
         subst c15
         have H1 : (some (28, 0)) = some (r1, r2) := by rw [if_neg (show ¬ (false = true) by decide)] at H; exact H
         clear H
         have H := H1
         clear H1
         simp only [Option.some.injEq, Prod.mk.injEq] at H
         obtain ⟨rfl, rfl⟩ := H
         go_wp2_with (first | ((with_reducible refine gate_callee (f := 92) rfl ?_); refine gL (some 29) Try.func92 #[.int .i64 a0] ?_; (with_reducible refine (pylonref03_leap.calls a0 false _ A14.out).mono ?_); rintro e w' ⟨rfl, ⟨nd, rfl⟩⟩; refine ⟨_, rfl, ?_⟩))
         go_ret2
         exact ⟨by first | rfl | (simp; done) | (simp [*]; done), by repeat (first | exact Drawn0.refl _ | apply Drawn0.step)⟩
       ·rw [if_neg c13] at H
        have c13b0 : (a1 == 2) = false := beq_eq_false_iff_ne.mpr c13
        have c13b1 : (a1 != 2) = true := bne_iff_ne.mpr c13
        simp only [Option.some.injEq, Prod.mk.injEq] at H
        obtain ⟨rfl, rfl⟩ := H
        go_wp2
        go_ret2
        exact ⟨by first | rfl | (simp; done) | (simp [*]; done), by repeat (first | exact Drawn0.refl _ | apply Drawn0.step)⟩

/-! ### pylonref05_Check: function 37 -/
def pylonref05_Check.f (k : Nat) (a0_0 : Int) (a0_1 : Int) (a0_2 : Int) (a0_3 : Int) : Option (Int) := if a0_0 = 1 then ((pylonref03_Length.f k 2000 a0_1).bind fun bt186 => (if bt186.2 = 0 then (if a0_2 ≥ 1 then (if a0_2 ≤ bt186.1 then (if a0_3 = 0 then (some 0) else (some 8)) else (some 8)) else (some 8)) else (some 8))) else (if a0_0 = 2 then (if a0_1 ≥ 1 then (if a0_1 ≤ 12 then (if a0_2 ≥ 1 then (if a0_2 ≤ 5 then (if a0_3 ≥ 0 then (if a0_3 ≤ 6 then (some 0) else (some 8)) else (some 8)) else (some 8)) else (some 8)) else (some 8)) else (some 8)) else (if a0_0 = 3 then (if a0_1 ≥ (-100) then (if a0_1 ≤ 100 then (if a0_2 = 0 then (if a0_3 = 0 then (some 0) else (some 8)) else (some 8)) else (some 8)) else (some 8)) else (some 8)))
theorem pylonref05_Check.mono : ∀ a0 a1 a2 a3 k, LeO (pylonref05_Check.f k a0 a1 a2 a3) (pylonref05_Check.f (k + 1) a0 a1 a2 a3) := by
 intro a0 a1 a2 a3 k
 unfold pylonref05_Check.f
 repeat' first
   | (with_reducible exact pylonref03_Length.mono _ _ _)
   | (with_reducible exact LeO.refl _)
   | (with_reducible exact LeO.none _)
   | (with_reducible refine LeO.ite ?_ ?_)
   | (with_reducible refine LeO.bind ?_ (fun _ => ?_))
set_option maxHeartbeats 8000000 in
set_option maxRecDepth 100000 in
theorem pylonref05_Check.calls (k : Nat) (a0_0 : Int) (a0_1 : Int) (a0_2 : Int) (a0_3 : Int) (r : Int) (w : World) (h : pylonref05_Check.f k a0_0 a0_1 a0_2 a0_3 = some r) :
  Calls Try.prog 37 #[.agg #[.int .i64 a0_0, .int .i64 a0_1, .int .i64 a0_2, .int .i64 a0_3]] w fun e w' => e = .returned (.int .i64 r) ∧ Below w.heap.size w w' := by
 have hu65 := Try.underlying65
 have HB := AX (Below.refl w.heap.size w)
 have H : (if a0_0 = 1 then ((pylonref03_Length.f k 2000 a0_1).bind fun bt186 => (if bt186.2 = 0 then (if a0_2 ≥ 1 then (if a0_2 ≤ bt186.1 then (if a0_3 = 0 then (some 0) else (some 8)) else (some 8)) else (some 8)) else (some 8))) else (if a0_0 = 2 then (if a0_1 ≥ 1 then (if a0_1 ≤ 12 then (if a0_2 ≥ 1 then (if a0_2 ≤ 5 then (if a0_3 ≥ 0 then (if a0_3 ≤ 6 then (some 0) else (some 8)) else (some 8)) else (some 8)) else (some 8)) else (some 8)) else (some 8)) else (if a0_0 = 3 then (if a0_1 ≥ (-100) then (if a0_1 ≤ 100 then (if a0_2 = 0 then (if a0_3 = 0 then (some 0) else (some 8)) else (some 8)) else (some 8)) else (some 8)) else (some 8)))) = some r := h
 clear h
 by_cases c2 : a0_0 = 1
 ·rw [if_pos c2] at H
  have c2b0 : (a0_0 == 1) = true := beq_iff_eq.mpr c2
  have c2b1 : (a0_0 != 1) = false := bne_eq_false_iff_eq.mpr c2
  clear c2
  replace H := Option.bind_eq_some_iff.mp H
  obtain ⟨⟨t186, t187⟩, A30, H⟩ := H
  replace H : (if t187 = 0 then (if a0_2 ≥ 1 then (if a0_2 ≤ t186 then (if a0_3 = 0 then (some 0) else (some 8)) else (some 8)) else (some 8)) else (some 8)) = some r := H
  have A3 := AX A30
  clear A30
  by_cases c4 : t187 = 0
  ·rw [if_pos c4] at H
   have c4b0 : (t187 == 0) = true := beq_iff_eq.mpr c4
   have c4b1 : (t187 != 0) = false := bne_eq_false_iff_eq.mpr c4
   clear c4
   by_cases c5 : a0_2 ≥ 1
   ·rw [if_pos c5] at H
    have c5b0 : decide (1 ≤ a0_2) = true := decide_eq_true c5
    clear c5
    by_cases c6 : a0_2 ≤ t186
    ·rw [if_pos c6] at H
     have c6b0 : decide (a0_2 ≤ t186) = true := decide_eq_true c6
     clear c6
     by_cases c7 : a0_3 = 0
     ·rw [if_pos c7] at H
      have c7b0 : (a0_3 == 0) = true := beq_iff_eq.mpr c7
      have c7b1 : (a0_3 != 0) = false := bne_eq_false_iff_eq.mpr c7
      clear c7
      obtain rfl := Option.some.inj H
      go_enter Try.func37, Try.ntmps37
      go_wp2_with (first | ((with_reducible refine gate_dst (N := 1) rfl ?_); refine bx 1 #[.int .i64 a0_0, .int .i64 a0_1, .int .i64 a0_2, .int .i64 a0_3] 65 ?_; intro gb185 hg w8 hbox hb; have BK185 := AX (hbox); have GW185 := gwl (w := w) hg bw; have GE185 := GW185; replace HB := AX (below_step bw hb); clear hb hbox hg; obtain ⟨hcz9_0, hcz9_1, hcz9_2, hcz9_3⟩ := blkC4 (w := w8) BK185.out; obtain ⟨hfz9_0, hfz9_1, hfz9_2, hfz9_3⟩ := blkF4 BK185.out) | ((with_reducible refine gate_callee (f := 70) rfl ?_); refine gL (some 13) Try.func70 #[.int .i64 2000, .int .i64 a0_1] ?_; (with_reducible refine (pylonref03_Length.calls k 2000 a0_1 t186 t187 _ A3.out).mono ?_); rintro e w' ⟨rfl, ⟨nd, rfl⟩⟩; refine ⟨_, rfl, ?_⟩))
      go_ret
      exact ⟨by first | rfl | (simp [errW_none, errW_some] <;> rfl) | (simp [*, errW_none, errW_some] <;> rfl), bw⟩
     ·rw [if_neg c7] at H
      have c7b0 : (a0_3 == 0) = false := beq_eq_false_iff_ne.mpr c7
      have c7b1 : (a0_3 != 0) = true := bne_iff_ne.mpr c7
      obtain rfl := Option.some.inj H
      go_enter Try.func37, Try.ntmps37
      go_wp2_with (first | ((with_reducible refine gate_dst (N := 1) rfl ?_); refine bx 1 #[.int .i64 a0_0, .int .i64 a0_1, .int .i64 a0_2, .int .i64 a0_3] 65 ?_; intro gb185 hg w10 hbox hb; have BK185 := AX (hbox); have GW185 := gwl (w := w) hg bw; have GE185 := GW185; replace HB := AX (below_step bw hb); clear hb hbox hg; obtain ⟨hcz11_0, hcz11_1, hcz11_2, hcz11_3⟩ := blkC4 (w := w10) BK185.out; obtain ⟨hfz11_0, hfz11_1, hfz11_2, hfz11_3⟩ := blkF4 BK185.out) | ((with_reducible refine gate_callee (f := 70) rfl ?_); refine gL (some 13) Try.func70 #[.int .i64 2000, .int .i64 a0_1] ?_; (with_reducible refine (pylonref03_Length.calls k 2000 a0_1 t186 t187 _ A3.out).mono ?_); rintro e w' ⟨rfl, ⟨nd, rfl⟩⟩; refine ⟨_, rfl, ?_⟩))
      go_ret
      exact ⟨by first | rfl | (simp [errW_none, errW_some] <;> rfl) | (simp [*, errW_none, errW_some] <;> rfl), bw⟩
    ·rw [if_neg c6] at H
     have c6b0 : decide (a0_2 ≤ t186) = false := decide_eq_false c6
     clear c6
     obtain rfl := Option.some.inj H
     go_enter Try.func37, Try.ntmps37
     go_wp2_with (first | ((with_reducible refine gate_dst (N := 1) rfl ?_); refine bx 1 #[.int .i64 a0_0, .int .i64 a0_1, .int .i64 a0_2, .int .i64 a0_3] 65 ?_; intro gb185 hg w12 hbox hb; have BK185 := AX (hbox); have GW185 := gwl (w := w) hg bw; have GE185 := GW185; replace HB := AX (below_step bw hb); clear hb hbox hg; obtain ⟨hcz13_0, hcz13_1, hcz13_2, hcz13_3⟩ := blkC4 (w := w12) BK185.out; obtain ⟨hfz13_0, hfz13_1, hfz13_2, hfz13_3⟩ := blkF4 BK185.out) | ((with_reducible refine gate_callee (f := 70) rfl ?_); refine gL (some 13) Try.func70 #[.int .i64 2000, .int .i64 a0_1] ?_; (with_reducible refine (pylonref03_Length.calls k 2000 a0_1 t186 t187 _ A3.out).mono ?_); rintro e w' ⟨rfl, ⟨nd, rfl⟩⟩; refine ⟨_, rfl, ?_⟩))
     go_ret
     exact ⟨by first | rfl | (simp [errW_none, errW_some] <;> rfl) | (simp [*, errW_none, errW_some] <;> rfl), bw⟩
   ·rw [if_neg c5] at H
    have c5b0 : decide (1 ≤ a0_2) = false := decide_eq_false c5
    clear c5
    obtain rfl := Option.some.inj H
    go_enter Try.func37, Try.ntmps37
    go_wp2_with (first | ((with_reducible refine gate_dst (N := 1) rfl ?_); refine bx 1 #[.int .i64 a0_0, .int .i64 a0_1, .int .i64 a0_2, .int .i64 a0_3] 65 ?_; intro gb185 hg w14 hbox hb; have BK185 := AX (hbox); have GW185 := gwl (w := w) hg bw; have GE185 := GW185; replace HB := AX (below_step bw hb); clear hb hbox hg; obtain ⟨hcz15_0, hcz15_1, hcz15_2, hcz15_3⟩ := blkC4 (w := w14) BK185.out; obtain ⟨hfz15_0, hfz15_1, hfz15_2, hfz15_3⟩ := blkF4 BK185.out) | ((with_reducible refine gate_callee (f := 70) rfl ?_); refine gL (some 13) Try.func70 #[.int .i64 2000, .int .i64 a0_1] ?_; (with_reducible refine (pylonref03_Length.calls k 2000 a0_1 t186 t187 _ A3.out).mono ?_); rintro e w' ⟨rfl, ⟨nd, rfl⟩⟩; refine ⟨_, rfl, ?_⟩))
    go_ret
    exact ⟨by first | rfl | (simp [errW_none, errW_some] <;> rfl) | (simp [*, errW_none, errW_some] <;> rfl), bw⟩
  ·rw [if_neg c4] at H
   have c4b0 : (t187 == 0) = false := beq_eq_false_iff_ne.mpr c4
   have c4b1 : (t187 != 0) = true := bne_iff_ne.mpr c4
   obtain rfl := Option.some.inj H
   go_enter Try.func37, Try.ntmps37
   go_wp2_with (first | ((with_reducible refine gate_dst (N := 1) rfl ?_); refine bx 1 #[.int .i64 a0_0, .int .i64 a0_1, .int .i64 a0_2, .int .i64 a0_3] 65 ?_; intro gb185 hg w16 hbox hb; have BK185 := AX (hbox); have GW185 := gwl (w := w) hg bw; have GE185 := GW185; replace HB := AX (below_step bw hb); clear hb hbox hg; obtain ⟨hcz17_0, hcz17_1, hcz17_2, hcz17_3⟩ := blkC4 (w := w16) BK185.out; obtain ⟨hfz17_0, hfz17_1, hfz17_2, hfz17_3⟩ := blkF4 BK185.out) | ((with_reducible refine gate_callee (f := 70) rfl ?_); refine gL (some 13) Try.func70 #[.int .i64 2000, .int .i64 a0_1] ?_; (with_reducible refine (pylonref03_Length.calls k 2000 a0_1 t186 t187 _ A3.out).mono ?_); rintro e w' ⟨rfl, ⟨nd, rfl⟩⟩; refine ⟨_, rfl, ?_⟩))
   go_ret
   exact ⟨by first | rfl | (simp [errW_none, errW_some] <;> rfl) | (simp [*, errW_none, errW_some] <;> rfl), bw⟩
 ·rw [if_neg c2] at H
  have c2b0 : (a0_0 == 1) = false := beq_eq_false_iff_ne.mpr c2
  have c2b1 : (a0_0 != 1) = true := bne_iff_ne.mpr c2
  by_cases c18 : a0_0 = 2
  ·rw [if_pos c18] at H
   have c18b0 : (a0_0 == 2) = true := beq_iff_eq.mpr c18
   have c18b1 : (a0_0 != 2) = false := bne_eq_false_iff_eq.mpr c18
   clear c18
   by_cases c19 : a0_1 ≥ 1
   ·rw [if_pos c19] at H
    have c19b0 : decide (1 ≤ a0_1) = true := decide_eq_true c19
    clear c19
    by_cases c20 : a0_1 ≤ 12
    ·rw [if_pos c20] at H
     have c20b0 : decide (a0_1 ≤ 12) = true := decide_eq_true c20
     clear c20
     by_cases c21 : a0_2 ≥ 1
     ·rw [if_pos c21] at H
      have c21b0 : decide (1 ≤ a0_2) = true := decide_eq_true c21
      clear c21
      by_cases c22 : a0_2 ≤ 5
      ·rw [if_pos c22] at H
       have c22b0 : decide (a0_2 ≤ 5) = true := decide_eq_true c22
       clear c22
       by_cases c23 : a0_3 ≥ 0
       ·rw [if_pos c23] at H
        have c23b0 : decide (0 ≤ a0_3) = true := decide_eq_true c23
        clear c23
        by_cases c24 : a0_3 ≤ 6
        ·rw [if_pos c24] at H
         have c24b0 : decide (a0_3 ≤ 6) = true := decide_eq_true c24
         clear c24
         obtain rfl := Option.some.inj H
         go_enter Try.func37, Try.ntmps37
         go_wp2_with (first | ((with_reducible refine gate_dst (N := 1) rfl ?_); refine bx 1 #[.int .i64 a0_0, .int .i64 a0_1, .int .i64 a0_2, .int .i64 a0_3] 65 ?_; intro gb185 hg w25 hbox hb; have BK185 := AX (hbox); have GW185 := gwl (w := w) hg bw; have GE185 := GW185; replace HB := AX (below_step bw hb); clear hb hbox hg; obtain ⟨hcz26_0, hcz26_1, hcz26_2, hcz26_3⟩ := blkC4 (w := w25) BK185.out; obtain ⟨hfz26_0, hfz26_1, hfz26_2, hfz26_3⟩ := blkF4 BK185.out))
         go_ret
         exact ⟨by first | rfl | (simp [errW_none, errW_some] <;> rfl) | (simp [*, errW_none, errW_some] <;> rfl), bw⟩
        ·rw [if_neg c24] at H
         have c24b0 : decide (a0_3 ≤ 6) = false := decide_eq_false c24
         clear c24
         obtain rfl := Option.some.inj H
         go_enter Try.func37, Try.ntmps37
         go_wp2_with (first | ((with_reducible refine gate_dst (N := 1) rfl ?_); refine bx 1 #[.int .i64 a0_0, .int .i64 a0_1, .int .i64 a0_2, .int .i64 a0_3] 65 ?_; intro gb185 hg w27 hbox hb; have BK185 := AX (hbox); have GW185 := gwl (w := w) hg bw; have GE185 := GW185; replace HB := AX (below_step bw hb); clear hb hbox hg; obtain ⟨hcz28_0, hcz28_1, hcz28_2, hcz28_3⟩ := blkC4 (w := w27) BK185.out; obtain ⟨hfz28_0, hfz28_1, hfz28_2, hfz28_3⟩ := blkF4 BK185.out))
         go_ret
         exact ⟨by first | rfl | (simp [errW_none, errW_some] <;> rfl) | (simp [*, errW_none, errW_some] <;> rfl), bw⟩
       ·rw [if_neg c23] at H
        have c23b0 : decide (0 ≤ a0_3) = false := decide_eq_false c23
        clear c23
        obtain rfl := Option.some.inj H
        go_enter Try.func37, Try.ntmps37
        go_wp2_with (first | ((with_reducible refine gate_dst (N := 1) rfl ?_); refine bx 1 #[.int .i64 a0_0, .int .i64 a0_1, .int .i64 a0_2, .int .i64 a0_3] 65 ?_; intro gb185 hg w29 hbox hb; have BK185 := AX (hbox); have GW185 := gwl (w := w) hg bw; have GE185 := GW185; replace HB := AX (below_step bw hb); clear hb hbox hg; obtain ⟨hcz30_0, hcz30_1, hcz30_2, hcz30_3⟩ := blkC4 (w := w29) BK185.out; obtain ⟨hfz30_0, hfz30_1, hfz30_2, hfz30_3⟩ := blkF4 BK185.out))
        go_ret
        exact ⟨by first | rfl | (simp [errW_none, errW_some] <;> rfl) | (simp [*, errW_none, errW_some] <;> rfl), bw⟩
      ·rw [if_neg c22] at H
       have c22b0 : decide (a0_2 ≤ 5) = false := decide_eq_false c22
       clear c22
       obtain rfl := Option.some.inj H
       go_enter Try.func37, Try.ntmps37
       go_wp2_with (first | ((with_reducible refine gate_dst (N := 1) rfl ?_); refine bx 1 #[.int .i64 a0_0, .int .i64 a0_1, .int .i64 a0_2, .int .i64 a0_3] 65 ?_; intro gb185 hg w31 hbox hb; have BK185 := AX (hbox); have GW185 := gwl (w := w) hg bw; have GE185 := GW185; replace HB := AX (below_step bw hb); clear hb hbox hg; obtain ⟨hcz32_0, hcz32_1, hcz32_2, hcz32_3⟩ := blkC4 (w := w31) BK185.out; obtain ⟨hfz32_0, hfz32_1, hfz32_2, hfz32_3⟩ := blkF4 BK185.out))
       go_ret
       exact ⟨by first | rfl | (simp [errW_none, errW_some] <;> rfl) | (simp [*, errW_none, errW_some] <;> rfl), bw⟩
     ·rw [if_neg c21] at H
      have c21b0 : decide (1 ≤ a0_2) = false := decide_eq_false c21
      clear c21
      obtain rfl := Option.some.inj H
      go_enter Try.func37, Try.ntmps37
      go_wp2_with (first | ((with_reducible refine gate_dst (N := 1) rfl ?_); refine bx 1 #[.int .i64 a0_0, .int .i64 a0_1, .int .i64 a0_2, .int .i64 a0_3] 65 ?_; intro gb185 hg w33 hbox hb; have BK185 := AX (hbox); have GW185 := gwl (w := w) hg bw; have GE185 := GW185; replace HB := AX (below_step bw hb); clear hb hbox hg; obtain ⟨hcz34_0, hcz34_1, hcz34_2, hcz34_3⟩ := blkC4 (w := w33) BK185.out; obtain ⟨hfz34_0, hfz34_1, hfz34_2, hfz34_3⟩ := blkF4 BK185.out))
      go_ret
      exact ⟨by first | rfl | (simp [errW_none, errW_some] <;> rfl) | (simp [*, errW_none, errW_some] <;> rfl), bw⟩
    ·rw [if_neg c20] at H
     have c20b0 : decide (a0_1 ≤ 12) = false := decide_eq_false c20
     clear c20
     obtain rfl := Option.some.inj H
     go_enter Try.func37, Try.ntmps37
     go_wp2_with (first | ((with_reducible refine gate_dst (N := 1) rfl ?_); refine bx 1 #[.int .i64 a0_0, .int .i64 a0_1, .int .i64 a0_2, .int .i64 a0_3] 65 ?_; intro gb185 hg w35 hbox hb; have BK185 := AX (hbox); have GW185 := gwl (w := w) hg bw; have GE185 := GW185; replace HB := AX (below_step bw hb); clear hb hbox hg; obtain ⟨hcz36_0, hcz36_1, hcz36_2, hcz36_3⟩ := blkC4 (w := w35) BK185.out; obtain ⟨hfz36_0, hfz36_1, hfz36_2, hfz36_3⟩ := blkF4 BK185.out))
     go_ret
     exact ⟨by first | rfl | (simp [errW_none, errW_some] <;> rfl) | (simp [*, errW_none, errW_some] <;> rfl), bw⟩
   ·rw [if_neg c19] at H
    have c19b0 : decide (1 ≤ a0_1) = false := decide_eq_false c19
    clear c19
    obtain rfl := Option.some.inj H
    go_enter Try.func37, Try.ntmps37
    go_wp2_with (first | ((with_reducible refine gate_dst (N := 1) rfl ?_); refine bx 1 #[.int .i64 a0_0, .int .i64 a0_1, .int .i64 a0_2, .int .i64 a0_3] 65 ?_; intro gb185 hg w37 hbox hb; have BK185 := AX (hbox); have GW185 := gwl (w := w) hg bw; have GE185 := GW185; replace HB := AX (below_step bw hb); clear hb hbox hg; obtain ⟨hcz38_0, hcz38_1, hcz38_2, hcz38_3⟩ := blkC4 (w := w37) BK185.out; obtain ⟨hfz38_0, hfz38_1, hfz38_2, hfz38_3⟩ := blkF4 BK185.out))
    go_ret
    exact ⟨by first | rfl | (simp [errW_none, errW_some] <;> rfl) | (simp [*, errW_none, errW_some] <;> rfl), bw⟩
  ·rw [if_neg c18] at H
   have c18b0 : (a0_0 == 2) = false := beq_eq_false_iff_ne.mpr c18
   have c18b1 : (a0_0 != 2) = true := bne_iff_ne.mpr c18
   by_cases c39 : a0_0 = 3
   ·rw [if_pos c39] at H
    have c39b0 : (a0_0 == 3) = true := beq_iff_eq.mpr c39
    have c39b1 : (a0_0 != 3) = false := bne_eq_false_iff_eq.mpr c39
    clear c39
    by_cases c40 : a0_1 ≥ (-100)
    ·rw [if_pos c40] at H
     have c40b0 : decide ((-100) ≤ a0_1) = true := decide_eq_true c40
     clear c40
     by_cases c41 : a0_1 ≤ 100
     ·rw [if_pos c41] at H
      have c41b0 : decide (a0_1 ≤ 100) = true := decide_eq_true c41
      clear c41
      by_cases c42 : a0_2 = 0
      ·rw [if_pos c42] at H
       have c42b0 : (a0_2 == 0) = true := beq_iff_eq.mpr c42
       have c42b1 : (a0_2 != 0) = false := bne_eq_false_iff_eq.mpr c42
       clear c42
       by_cases c43 : a0_3 = 0
       ·rw [if_pos c43] at H
        have c43b0 : (a0_3 == 0) = true := beq_iff_eq.mpr c43
        have c43b1 : (a0_3 != 0) = false := bne_eq_false_iff_eq.mpr c43
        clear c43
        obtain rfl := Option.some.inj H
        go_enter Try.func37, Try.ntmps37
        go_wp2_with (first | ((with_reducible refine gate_dst (N := 1) rfl ?_); refine bx 1 #[.int .i64 a0_0, .int .i64 a0_1, .int .i64 a0_2, .int .i64 a0_3] 65 ?_; intro gb185 hg w44 hbox hb; have BK185 := AX (hbox); have GW185 := gwl (w := w) hg bw; have GE185 := GW185; replace HB := AX (below_step bw hb); clear hb hbox hg; obtain ⟨hcz45_0, hcz45_1, hcz45_2, hcz45_3⟩ := blkC4 (w := w44) BK185.out; obtain ⟨hfz45_0, hfz45_1, hfz45_2, hfz45_3⟩ := blkF4 BK185.out))
        go_ret
        exact ⟨by first | rfl | (simp [errW_none, errW_some] <;> rfl) | (simp [*, errW_none, errW_some] <;> rfl), bw⟩
       ·rw [if_neg c43] at H
        have c43b0 : (a0_3 == 0) = false := beq_eq_false_iff_ne.mpr c43
        have c43b1 : (a0_3 != 0) = true := bne_iff_ne.mpr c43
        obtain rfl := Option.some.inj H
        go_enter Try.func37, Try.ntmps37
        go_wp2_with (first | ((with_reducible refine gate_dst (N := 1) rfl ?_); refine bx 1 #[.int .i64 a0_0, .int .i64 a0_1, .int .i64 a0_2, .int .i64 a0_3] 65 ?_; intro gb185 hg w46 hbox hb; have BK185 := AX (hbox); have GW185 := gwl (w := w) hg bw; have GE185 := GW185; replace HB := AX (below_step bw hb); clear hb hbox hg; obtain ⟨hcz47_0, hcz47_1, hcz47_2, hcz47_3⟩ := blkC4 (w := w46) BK185.out; obtain ⟨hfz47_0, hfz47_1, hfz47_2, hfz47_3⟩ := blkF4 BK185.out))
        go_ret
        exact ⟨by first | rfl | (simp [errW_none, errW_some] <;> rfl) | (simp [*, errW_none, errW_some] <;> rfl), bw⟩
      ·rw [if_neg c42] at H
       have c42b0 : (a0_2 == 0) = false := beq_eq_false_iff_ne.mpr c42
       have c42b1 : (a0_2 != 0) = true := bne_iff_ne.mpr c42
       obtain rfl := Option.some.inj H
       go_enter Try.func37, Try.ntmps37
       go_wp2_with (first | ((with_reducible refine gate_dst (N := 1) rfl ?_); refine bx 1 #[.int .i64 a0_0, .int .i64 a0_1, .int .i64 a0_2, .int .i64 a0_3] 65 ?_; intro gb185 hg w48 hbox hb; have BK185 := AX (hbox); have GW185 := gwl (w := w) hg bw; have GE185 := GW185; replace HB := AX (below_step bw hb); clear hb hbox hg; obtain ⟨hcz49_0, hcz49_1, hcz49_2, hcz49_3⟩ := blkC4 (w := w48) BK185.out; obtain ⟨hfz49_0, hfz49_1, hfz49_2, hfz49_3⟩ := blkF4 BK185.out))
       go_ret
       exact ⟨by first | rfl | (simp [errW_none, errW_some] <;> rfl) | (simp [*, errW_none, errW_some] <;> rfl), bw⟩
     ·rw [if_neg c41] at H
      have c41b0 : decide (a0_1 ≤ 100) = false := decide_eq_false c41
      clear c41
      obtain rfl := Option.some.inj H
      go_enter Try.func37, Try.ntmps37
      go_wp2_with (first | ((with_reducible refine gate_dst (N := 1) rfl ?_); refine bx 1 #[.int .i64 a0_0, .int .i64 a0_1, .int .i64 a0_2, .int .i64 a0_3] 65 ?_; intro gb185 hg w50 hbox hb; have BK185 := AX (hbox); have GW185 := gwl (w := w) hg bw; have GE185 := GW185; replace HB := AX (below_step bw hb); clear hb hbox hg; obtain ⟨hcz51_0, hcz51_1, hcz51_2, hcz51_3⟩ := blkC4 (w := w50) BK185.out; obtain ⟨hfz51_0, hfz51_1, hfz51_2, hfz51_3⟩ := blkF4 BK185.out))
      go_ret
      exact ⟨by first | rfl | (simp [errW_none, errW_some] <;> rfl) | (simp [*, errW_none, errW_some] <;> rfl), bw⟩
    ·rw [if_neg c40] at H
     have c40b0 : decide ((-100) ≤ a0_1) = false := decide_eq_false c40
     clear c40
     obtain rfl := Option.some.inj H
     go_enter Try.func37, Try.ntmps37
     go_wp2_with (first | ((with_reducible refine gate_dst (N := 1) rfl ?_); refine bx 1 #[.int .i64 a0_0, .int .i64 a0_1, .int .i64 a0_2, .int .i64 a0_3] 65 ?_; intro gb185 hg w52 hbox hb; have BK185 := AX (hbox); have GW185 := gwl (w := w) hg bw; have GE185 := GW185; replace HB := AX (below_step bw hb); clear hb hbox hg; obtain ⟨hcz53_0, hcz53_1, hcz53_2, hcz53_3⟩ := blkC4 (w := w52) BK185.out; obtain ⟨hfz53_0, hfz53_1, hfz53_2, hfz53_3⟩ := blkF4 BK185.out))
     go_ret
     exact ⟨by first | rfl | (simp [errW_none, errW_some] <;> rfl) | (simp [*, errW_none, errW_some] <;> rfl), bw⟩
   ·rw [if_neg c39] at H
    have c39b0 : (a0_0 == 3) = false := beq_eq_false_iff_ne.mpr c39
    have c39b1 : (a0_0 != 3) = true := bne_iff_ne.mpr c39
    obtain rfl := Option.some.inj H
    go_enter Try.func37, Try.ntmps37
    go_wp2_with (first | ((with_reducible refine gate_dst (N := 1) rfl ?_); refine bx 1 #[.int .i64 a0_0, .int .i64 a0_1, .int .i64 a0_2, .int .i64 a0_3] 65 ?_; intro gb185 hg w54 hbox hb; have BK185 := AX (hbox); have GW185 := gwl (w := w) hg bw; have GE185 := GW185; replace HB := AX (below_step bw hb); clear hb hbox hg; obtain ⟨hcz55_0, hcz55_1, hcz55_2, hcz55_3⟩ := blkC4 (w := w54) BK185.out; obtain ⟨hfz55_0, hfz55_1, hfz55_2, hfz55_3⟩ := blkF4 BK185.out))
    go_ret
    exact ⟨by first | rfl | (simp [errW_none, errW_some] <;> rfl) | (simp [*, errW_none, errW_some] <;> rfl), bw⟩

/-! ### pylonref05_all: function 44 -/
def pylonref05_all.l0 : Nat → List (S65) → Int → Int → Option (Bool)
 | 0, _, _, _ => none
 | k + 1, x0, x5, x6 => if x6 < x5 then (if 0 ≤ x6 then (if x6 < (x0.length : Int) then ((pylonref05_Check.f k ((rd_T65 x0 x6).f0) ((rd_T65 x0 x6).f1) ((rd_T65 x0 x6).f2) ((rd_T65 x0 x6).f3)).bind fun t189 => (if t189 = 0 then (pylonref05_all.l0 k x0 x5 (wrap64 (x6 + 1))) else (some false))) else (none)) else (none)) else (some true)
def pylonref05_all.f (k : Nat) (l0 : List (S65)) : Option (Bool) := pylonref05_all.l0 k l0 (l0.length : Int) 0
theorem pylonref05_all.mono_l : ∀ k, (∀ y0 y1 y2, LeO (pylonref05_all.l0 k y0 y1 y2) (pylonref05_all.l0 (k + 1) y0 y1 y2))
 | 0 => fun _ _ _ r h => by simp [pylonref05_all.l0] at h
 | k + 1 => by
  have ih0 := pylonref05_all.mono_l k
  ·intro y0 y1 y2
   unfold pylonref05_all.l0
   repeat' first
   | (with_reducible exact ih0 _ _ _)
   | (with_reducible exact pylonref05_Check.mono _ _ _ _ _)
   | (with_reducible exact LeO.refl _)
   | (with_reducible exact LeO.none _)
   | (with_reducible refine LeO.ite ?_ ?_)
   | (with_reducible refine LeO.bind ?_ (fun _ => ?_))
theorem pylonref05_all.mono : ∀ a0 k, LeO (pylonref05_all.f k a0) (pylonref05_all.f (k + 1) a0) := by
 intro a0 k
 have ih0 := pylonref05_all.mono_l k
 unfold pylonref05_all.f
 repeat' first
   | (with_reducible exact ih0 _ _ _)
   | (with_reducible exact pylonref05_Check.mono _ _ _ _ _)
   | (with_reducible exact LeO.refl _)
   | (with_reducible exact LeO.none _)
   | (with_reducible refine LeO.ite ?_ ?_)
   | (with_reducible refine LeO.bind ?_ (fun _ => ?_))
set_option maxHeartbeats 8000000 in
set_option maxRecDepth 100000 in
theorem pylonref05_all.calls (k : Nat) (A0 : Option Addr) (c0 : Nat) (l0 : List (S65)) (r : Bool) (w : World) (hr0 : Kd.C k65 w A0 l0.length l0) (hc0 : l0.length ≤ c0) (h : pylonref05_all.f k l0 = some r) :
  Calls Try.prog 44 #[.slice A0 l0.length c0] w fun e w' => e = .returned (.bool r) ∧ Below w.heap.size w w' := by
 have hu65 := Try.underlying65
 have HR0 := AX hr0
 have HC0 := AX hc0
 clear hr0 hc0
 have HB := AX (Below.refl w.heap.size w)
 have H : (pylonref05_all.l0 k l0 (l0.length : Int) 0) = some r := h
 clear h
 have H' := AX H
 clear H
 go_enter Try.func44, Try.ntmps44
 go_wp2
 go_loopg [6] k (fun kq v6 w' => ∃ (x6_1 : Int), v6 = .int .i64 x6_1 ∧ Aside0 (pylonref05_all.l0 kq l0 (l0.length : Int) x6_1 = some r) ∧ Aside0 (kq ≤ k) ∧ Aside0 (Below w.heap.size w w'))
 case atStart => exact ⟨(0), (by first | rfl | (simp; done) | (simp [*]; done)), H', ⟨Nat.le_refl _⟩, ⟨bw⟩⟩
 case round =>
  clear H'
  obtain ⟨x6_1, rfl, HA, HK1, HB⟩ := hrel
  cases gk with
  | zero => exact absurd HA.out (by simp [pylonref05_all.l0])
  | succ k1 =>
   have H := HA.out
   clear HA
   simp only [pylonref05_all.l0] at H
   by_cases c2 : x6_1 < (l0.length : Int)
   ·rw [if_pos c2] at H
    have c2b0 : decide (x6_1 < (l0.length : Int)) = true := decide_eq_true c2
    clear c2
    by_cases c3 : 0 ≤ x6_1
    ·rw [if_pos c3] at H
     have c3b0 : decide (0 ≤ x6_1) = true := decide_eq_true c3
     clear c3
     by_cases c4 : x6_1 < (l0.length : Int)
     ·rw [if_pos c4] at H
      have c4b0 : decide (x6_1 < (l0.length : Int)) = true := decide_eq_true c4
      clear c4
      replace H := Option.bind_eq_some_iff.mp H
      obtain ⟨t189, A50, H⟩ := H
      replace H : (if t189 = 0 then (pylonref05_all.l0 k1 l0 (l0.length : Int) (wrap64 (x6_1 + 1))) else (some false)) = some r := H
      have A5 := AX A50
      clear A50
      by_cases c6 : t189 = 0
      ·rw [if_pos c6] at H
       have c6b0 : (t189 == 0) = true := beq_iff_eq.mpr c6
       have c6b1 : (t189 != 0) = false := bne_eq_false_iff_eq.mpr c6
       clear c6
       have H' := AX H
       clear H
       have p188 : 0 ≤ (x6_1 : Int) := of_decide_eq_true (by first | (with_reducible assumption) | assumption)
       have q188 : x6_1 < (l0.length : Int) := of_decide_eq_true (by first | (with_reducible assumption) | assumption)
       obtain ⟨ad188, e188, hx188_0, hx188_1, hx188_2, hx188_3⟩ := at_T65 HR0.out x6_1 p188 q188
       cases e188
       replace hx188_0 := bcl HB hx188_0
       replace hx188_1 := bcl HB hx188_1
       replace hx188_2 := bcl HB hx188_2
       replace hx188_3 := bcl HB hx188_3
       replace p188 := eq_true p188
       replace q188 := eq_true q188
       go_wp2_with (first | ((with_reducible refine gate_callee (f := 37) rfl ?_); refine gL (some 13) Try.func37 #[.agg #[.int .i64 ((rd_T65 l0 x6_1).f0), .int .i64 ((rd_T65 l0 x6_1).f1), .int .i64 ((rd_T65 l0 x6_1).f2), .int .i64 ((rd_T65 l0 x6_1).f3)]] ?_; (with_reducible refine (pylonref05_Check.calls k1 ((rd_T65 l0 x6_1).f0) ((rd_T65 l0 x6_1).f1) ((rd_T65 l0 x6_1).f2) ((rd_T65 l0 x6_1).f3) t189 _ A5.out).mono ?_); rintro e w7 ⟨rfl, hb⟩; refine ⟨_, rfl, ?_⟩; replace HB := AX (below_step bw hb); (try clear hb)))
       go_roundg k1
       case measure => have := HK1.out; omega
       case rel => exact ⟨(wrap64 (x6_1 + 1)), (by first | rfl | (simp; done) | (simp [*]; done)), H', ⟨by have := HK1.out; omega⟩, ⟨bw⟩⟩
      ·rw [if_neg c6] at H
       have c6b0 : (t189 == 0) = false := beq_eq_false_iff_ne.mpr c6
       have c6b1 : (t189 != 0) = true := bne_iff_ne.mpr c6
       obtain rfl := Option.some.inj H
       have p188 : 0 ≤ (x6_1 : Int) := of_decide_eq_true (by first | (with_reducible assumption) | assumption)
       have q188 : x6_1 < (l0.length : Int) := of_decide_eq_true (by first | (with_reducible assumption) | assumption)
       obtain ⟨ad188, e188, hx188_0, hx188_1, hx188_2, hx188_3⟩ := at_T65 HR0.out x6_1 p188 q188
       cases e188
       replace hx188_0 := bcl HB hx188_0
       replace hx188_1 := bcl HB hx188_1
       replace hx188_2 := bcl HB hx188_2
       replace hx188_3 := bcl HB hx188_3
       replace p188 := eq_true p188
       replace q188 := eq_true q188
       go_wp2_with (first | ((with_reducible refine gate_callee (f := 37) rfl ?_); refine gL (some 13) Try.func37 #[.agg #[.int .i64 ((rd_T65 l0 x6_1).f0), .int .i64 ((rd_T65 l0 x6_1).f1), .int .i64 ((rd_T65 l0 x6_1).f2), .int .i64 ((rd_T65 l0 x6_1).f3)]] ?_; (with_reducible refine (pylonref05_Check.calls k1 ((rd_T65 l0 x6_1).f0) ((rd_T65 l0 x6_1).f1) ((rd_T65 l0 x6_1).f2) ((rd_T65 l0 x6_1).f3) t189 _ A5.out).mono ?_); rintro e w8 ⟨rfl, hb⟩; refine ⟨_, rfl, ?_⟩; replace HB := AX (below_step bw hb); (try clear hb)))
       go_ret
       exact ⟨by first | rfl | (simp [errW_none, errW_some] <;> rfl) | (simp [*, errW_none, errW_some] <;> rfl), bw⟩
     ·rw [if_neg c4] at H
      exact absurd H (by simp)
    ·rw [if_neg c3] at H
     exact absurd H (by simp)
   ·rw [if_neg c2] at H
    have c2b0 : decide (x6_1 < (l0.length : Int)) = false := decide_eq_false c2
    clear c2
    obtain rfl := Option.some.inj H
    go_wp2
    go_ret
    exact ⟨by first | rfl | (simp [errW_none, errW_some] <;> rfl) | (simp [*, errW_none, errW_some] <;> rfl), bw⟩

end Go.Proofs.Ytkggjjggcbcdiaa.PX
