/- Functions of the program as plain Lean functions, each with a proof that the call in the machine answers just what the plain function says; condition: the plain function answers at all. -/
import Derived.Test.YtkggjjggcbcdiaaPXx0
import Derived.Test.YtkggjjggcbcdiaaPXx7
import Derived.Test.YtkggjjggcbcdiaaPXx8
namespace Go.Proofs.Ytkggjjggcbcdiaa.PX
open Go.RowKit Go.Proofs.YtkggjjggcbcdiaaW.PrintWords Go.Proofs.YtkggjjggcbcdiaaW.PrintLast Go.Proofs.YtkggjjggcbcdiaaW.PrintMore
attribute [local go_sem] max2_int min2_int max_two min_two max_three min_three max_four min_four   -- for this text's walks alone
set_option linter.unusedVariables false
set_option linter.unusedSimpArgs false

/-! ### pylonlaw14_awake: function 15 -/
def pylonlaw14_awake.f (k : Nat)  : Option (Bool) := (tou_Kind.f k ([] : List (S65)) 2026 11 15).bind fun bt177 => ((tou_Window.f (([(⟨(⟨#[]⟩ : ByteArray), 0, 0, 0, (⟨#[]⟩ : ByteArray)⟩ : S60), (⟨(⟨#[115]⟩ : ByteArray), 0, 0, 60, (⟨#[]⟩ : ByteArray)⟩ : S60)] : List (S60))) (⟨#[115]⟩ : ByteArray) 0 59).bind fun bt182 => (if bt177.1 = 2 then (if bt177.2 = 0 then (if bt182.1 = 1 then (some (bt182.2 == 0)) else (some false)) else (some false)) else (some false)))
theorem pylonlaw14_awake.mono : ∀ k, LeO (pylonlaw14_awake.f k ) (pylonlaw14_awake.f (k + 1) ) := by
 intro  k
 unfold pylonlaw14_awake.f
 repeat' first
   | (with_reducible exact tou_Kind.mono _ _ _ _ _)
   | (with_reducible exact LeO.refl _)
   | (with_reducible exact LeO.none _)
   | (with_reducible refine LeO.ite ?_ ?_)
   | (with_reducible refine LeO.bind ?_ (fun _ => ?_))
set_option maxHeartbeats 8000000 in
set_option maxRecDepth 100000 in
theorem pylonlaw14_awake.calls (k : Nat)  (r : Bool) (w : World) (h : pylonlaw14_awake.f k  = some r) :
  Calls Try.prog 15 #[] w fun e w' => e = .returned (.bool r) ∧ Below w.heap.size w w' := by
 have hu24 := Try.underlying24
 have hu60 := Try.underlying60
 have HB := AX (Below.refl w.heap.size w)
 have H : ((tou_Kind.f k ([] : List (S65)) 2026 11 15).bind fun bt177 => ((tou_Window.f (([(⟨(⟨#[]⟩ : ByteArray), 0, 0, 0, (⟨#[]⟩ : ByteArray)⟩ : S60), (⟨(⟨#[115]⟩ : ByteArray), 0, 0, 60, (⟨#[]⟩ : ByteArray)⟩ : S60)] : List (S60))) (⟨#[115]⟩ : ByteArray) 0 59).bind fun bt182 => (if bt177.1 = 2 then (if bt177.2 = 0 then (if bt182.1 = 1 then (some (bt182.2 == 0)) else (some false)) else (some false)) else (some false)))) = some r := h
 clear h
 replace H := Option.bind_eq_some_iff.mp H
 obtain ⟨⟨t177, t178⟩, A10, H⟩ := H
 replace H : ((tou_Window.f (([(⟨(⟨#[]⟩ : ByteArray), 0, 0, 0, (⟨#[]⟩ : ByteArray)⟩ : S60), (⟨(⟨#[115]⟩ : ByteArray), 0, 0, 60, (⟨#[]⟩ : ByteArray)⟩ : S60)] : List (S60))) (⟨#[115]⟩ : ByteArray) 0 59).bind fun bt182 => (if t177 = 2 then (if t178 = 0 then (if bt182.1 = 1 then (some (bt182.2 == 0)) else (some false)) else (some false)) else (some false))) = some r := H
 have A1 := AX A10
 clear A10
 obtain ⟨y179, hy179⟩ : ∃ y_ : List (S60), y_ = (([(⟨(⟨#[]⟩ : ByteArray), 0, 0, 0, (⟨#[]⟩ : ByteArray)⟩ : S60), (⟨(⟨#[115]⟩ : ByteArray), 0, 0, 60, (⟨#[]⟩ : ByteArray)⟩ : S60)] : List (S60))) := ⟨_, rfl⟩
 replace H : ((tou_Window.f y179 (⟨#[115]⟩ : ByteArray) 0 59).bind fun bt182 => (if t177 = 2 then (if t178 = 0 then (if bt182.1 = 1 then (some (bt182.2 == 0)) else (some false)) else (some false)) else (some false))) = some r := by first | (rw [hy179]; with_reducible exact H) | (have H2_ := (Option.bind_some _ _).symm.trans H; rw [hy179]; with_reducible exact H2_) | (have H2_ := (Option.bind_some _ _).symm.trans H; with_reducible exact H2_) | with_reducible exact H | (rw [hy179]; exact H) | exact H
 have Ny179 := AX hy179
 clear hy179
 replace H := Option.bind_eq_some_iff.mp H
 obtain ⟨⟨t182, t183⟩, A20, H⟩ := H
 replace H : (if t177 = 2 then (if t178 = 0 then (if t182 = 1 then (some (t183 == 0)) else (some false)) else (some false)) else (some false)) = some r := H
 have A2 := AX A20
 clear A20
 by_cases c3 : t177 = 2
 ·rw [if_pos c3] at H
  have c3b0 : (t177 == 2) = true := beq_iff_eq.mpr c3
  have c3b1 : (t177 != 2) = false := bne_eq_false_iff_eq.mpr c3
  clear c3
  by_cases c4 : t178 = 0
  ·rw [if_pos c4] at H
   have c4b0 : (t178 == 0) = true := beq_iff_eq.mpr c4
   have c4b1 : (t178 != 0) = false := bne_eq_false_iff_eq.mpr c4
   clear c4
   by_cases c5 : t182 = 1
   ·rw [if_pos c5] at H
    have c5b0 : (t182 == 1) = true := beq_iff_eq.mpr c5
    have c5b1 : (t182 != 1) = false := bne_eq_false_iff_eq.mpr c5
    clear c5
    obtain rfl := Option.some.inj H
    go_enter Try.func15, Try.ntmps15
    go_wp2_with (first | ((with_reducible refine gate_callee (f := 17) rfl ?_); refine gL (some 7) Try.func17 #[.slice none 0 0, .agg #[.int .i64 2026, .int .i64 11, .int .i64 15]] ?_; (refine (tou_Kind.calls k _ _ ([] : List (S65)) 2026 11 15 t177 t178 _ ?side1 ?side2 A1.out).mono ?_); (case side1 => exact Kd.C_nil _ _); (case side2 => exact Nat.le_refl _); rintro e w6 ⟨rfl, hb⟩; refine ⟨_, rfl, ?_⟩; replace HB := AX (below_step bw hb); (try clear hb)) | ((with_reducible refine gate_dst (N := 13) rfl ?_); refine Kd.R_lit k60 _ 60 ?hg (N := 13) ?hd (xs := ([(⟨(⟨#[]⟩ : ByteArray), 0, 0, 0, (⟨#[]⟩ : ByteArray)⟩ : S60), (⟨(⟨#[115]⟩ : ByteArray), 0, 0, 60, (⟨#[]⟩ : ByteArray)⟩ : S60)] : List (S60))) (inner := [.string (⟨#[]⟩ : ByteArray), .int .i64 0, .int .i64 0, .int .i64 0, .string (⟨#[]⟩ : ByteArray), .string (⟨#[115]⟩ : ByteArray), .int .i64 0, .int .i64 0, .int .i64 60, .string (⟨#[]⟩ : ByteArray)]) (ok := fun _ => True) (okp := fun _ => True) ?hr ?hp (fun _ hk => hk) trivial (Below.refl _ _) (Nat.le_refl _) (by simp) ?_; (case hd => rfl); (case hg => rfl); (case hr => first | (go_simp; done) | (go_simp; rfl)); (case hp => exact (Reps.c5 (show Kd.M k60 _ _ _ (⟨(⟨#[]⟩ : ByteArray), 0, 0, 0, (⟨#[]⟩ : ByteArray)⟩ : S60) [.string (⟨#[]⟩ : ByteArray), .int .i64 0, .int .i64 0, .int .i64 0, .string (⟨#[]⟩ : ByteArray)] from (k60_mkM _ _ _ (⟨(⟨#[]⟩ : ByteArray), 0, 0, 0, (⟨#[]⟩ : ByteArray)⟩ : S60) )) (Reps.c5 (show Kd.M k60 _ _ _ (⟨(⟨#[115]⟩ : ByteArray), 0, 0, 60, (⟨#[]⟩ : ByteArray)⟩ : S60) [.string (⟨#[115]⟩ : ByteArray), .int .i64 0, .int .i64 0, .int .i64 60, .string (⟨#[]⟩ : ByteArray)] from (k60_mkM _ _ _ (⟨(⟨#[115]⟩ : ByteArray), 0, 0, 60, (⟨#[]⟩ : ByteArray)⟩ : S60) )) (Reps.none _ _)))); intro v180 w7 ho8 hb hg_ hnew_; clear hg_ hnew_; (first | rw [← Ny179.out] at ho8 | (simp only [Int.reduceToNat] at ho8; rw [← Ny179.out] at ho8)); have HO181 := AX (Kd.R_lower ho8 (below_size bw)); replace HB := AX (below_step bw hb); clear hb ho8; obtain ⟨Ao9, co9, eo9⟩ := Kd.R_slice HO181.out; subst eo9) | ((with_reducible refine gate_callee (f := 21) rfl ?_); refine gL (some 14) Try.func21 #[.slice Ao9 y179.length co9, .string (⟨#[115]⟩ : ByteArray), .int .i64 0, .int .i64 59] ?_; (with_reducible refine (tou_Window.calls _ _ y179 (⟨#[115]⟩ : ByteArray) 0 59 t182 t183 _ ?side1 ?side2 A2.out).mono ?_); (case side1 => repeat (first | exact (Kd.R_reads' HO181.out).2.2 | (with_reducible refine Kd.C_alloc ?_ _) | (with_reducible refine Kd.C_drewN ?_ _) | (with_reducible refine Kd.C_drew ?_))); (case side2 => exact (Kd.R_reads' HO181.out).2.1); rintro e w10 ⟨rfl, hb⟩; refine ⟨_, rfl, ?_⟩; replace HO181 := AX (Kd.R_below (kr HO181) hb); replace HB := AX (below_step bw hb); (try clear hb); (try clear hb2); (try clear hk); (try clear hi)))
    go_ret
    exact ⟨by first | rfl | (simp [errW_none, errW_some] <;> rfl) | (simp [*, errW_none, errW_some] <;> rfl), bw⟩
   ·rw [if_neg c5] at H
    have c5b0 : (t182 == 1) = false := beq_eq_false_iff_ne.mpr c5
    have c5b1 : (t182 != 1) = true := bne_iff_ne.mpr c5
    obtain rfl := Option.some.inj H
    go_enter Try.func15, Try.ntmps15
    go_wp2_with (first | ((with_reducible refine gate_callee (f := 17) rfl ?_); refine gL (some 7) Try.func17 #[.slice none 0 0, .agg #[.int .i64 2026, .int .i64 11, .int .i64 15]] ?_; (refine (tou_Kind.calls k _ _ ([] : List (S65)) 2026 11 15 t177 t178 _ ?side1 ?side2 A1.out).mono ?_); (case side1 => exact Kd.C_nil _ _); (case side2 => exact Nat.le_refl _); rintro e w11 ⟨rfl, hb⟩; refine ⟨_, rfl, ?_⟩; replace HB := AX (below_step bw hb); (try clear hb)) | ((with_reducible refine gate_dst (N := 13) rfl ?_); refine Kd.R_lit k60 _ 60 ?hg (N := 13) ?hd (xs := ([(⟨(⟨#[]⟩ : ByteArray), 0, 0, 0, (⟨#[]⟩ : ByteArray)⟩ : S60), (⟨(⟨#[115]⟩ : ByteArray), 0, 0, 60, (⟨#[]⟩ : ByteArray)⟩ : S60)] : List (S60))) (inner := [.string (⟨#[]⟩ : ByteArray), .int .i64 0, .int .i64 0, .int .i64 0, .string (⟨#[]⟩ : ByteArray), .string (⟨#[115]⟩ : ByteArray), .int .i64 0, .int .i64 0, .int .i64 60, .string (⟨#[]⟩ : ByteArray)]) (ok := fun _ => True) (okp := fun _ => True) ?hr ?hp (fun _ hk => hk) trivial (Below.refl _ _) (Nat.le_refl _) (by simp) ?_; (case hd => rfl); (case hg => rfl); (case hr => first | (go_simp; done) | (go_simp; rfl)); (case hp => exact (Reps.c5 (show Kd.M k60 _ _ _ (⟨(⟨#[]⟩ : ByteArray), 0, 0, 0, (⟨#[]⟩ : ByteArray)⟩ : S60) [.string (⟨#[]⟩ : ByteArray), .int .i64 0, .int .i64 0, .int .i64 0, .string (⟨#[]⟩ : ByteArray)] from (k60_mkM _ _ _ (⟨(⟨#[]⟩ : ByteArray), 0, 0, 0, (⟨#[]⟩ : ByteArray)⟩ : S60) )) (Reps.c5 (show Kd.M k60 _ _ _ (⟨(⟨#[115]⟩ : ByteArray), 0, 0, 60, (⟨#[]⟩ : ByteArray)⟩ : S60) [.string (⟨#[115]⟩ : ByteArray), .int .i64 0, .int .i64 0, .int .i64 60, .string (⟨#[]⟩ : ByteArray)] from (k60_mkM _ _ _ (⟨(⟨#[115]⟩ : ByteArray), 0, 0, 60, (⟨#[]⟩ : ByteArray)⟩ : S60) )) (Reps.none _ _)))); intro v180 w12 ho13 hb hg_ hnew_; clear hg_ hnew_; (first | rw [← Ny179.out] at ho13 | (simp only [Int.reduceToNat] at ho13; rw [← Ny179.out] at ho13)); have HO181 := AX (Kd.R_lower ho13 (below_size bw)); replace HB := AX (below_step bw hb); clear hb ho13; obtain ⟨Ao14, co14, eo14⟩ := Kd.R_slice HO181.out; subst eo14) | ((with_reducible refine gate_callee (f := 21) rfl ?_); refine gL (some 14) Try.func21 #[.slice Ao14 y179.length co14, .string (⟨#[115]⟩ : ByteArray), .int .i64 0, .int .i64 59] ?_; (with_reducible refine (tou_Window.calls _ _ y179 (⟨#[115]⟩ : ByteArray) 0 59 t182 t183 _ ?side1 ?side2 A2.out).mono ?_); (case side1 => repeat (first | exact (Kd.R_reads' HO181.out).2.2 | (with_reducible refine Kd.C_alloc ?_ _) | (with_reducible refine Kd.C_drewN ?_ _) | (with_reducible refine Kd.C_drew ?_))); (case side2 => exact (Kd.R_reads' HO181.out).2.1); rintro e w15 ⟨rfl, hb⟩; refine ⟨_, rfl, ?_⟩; replace HO181 := AX (Kd.R_below (kr HO181) hb); replace HB := AX (below_step bw hb); (try clear hb); (try clear hb2); (try clear hk); (try clear hi)))
    go_ret
    exact ⟨by first | rfl | (simp [errW_none, errW_some] <;> rfl) | (simp [*, errW_none, errW_some] <;> rfl), bw⟩
  ·rw [if_neg c4] at H
   have c4b0 : (t178 == 0) = false := beq_eq_false_iff_ne.mpr c4
   have c4b1 : (t178 != 0) = true := bne_iff_ne.mpr c4
   obtain rfl := Option.some.inj H
   go_enter Try.func15, Try.ntmps15
   go_wp2_with (first | ((with_reducible refine gate_callee (f := 17) rfl ?_); refine gL (some 7) Try.func17 #[.slice none 0 0, .agg #[.int .i64 2026, .int .i64 11, .int .i64 15]] ?_; (refine (tou_Kind.calls k _ _ ([] : List (S65)) 2026 11 15 t177 t178 _ ?side1 ?side2 A1.out).mono ?_); (case side1 => exact Kd.C_nil _ _); (case side2 => exact Nat.le_refl _); rintro e w16 ⟨rfl, hb⟩; refine ⟨_, rfl, ?_⟩; replace HB := AX (below_step bw hb); (try clear hb)) | ((with_reducible refine gate_dst (N := 13) rfl ?_); refine Kd.R_lit k60 _ 60 ?hg (N := 13) ?hd (xs := ([(⟨(⟨#[]⟩ : ByteArray), 0, 0, 0, (⟨#[]⟩ : ByteArray)⟩ : S60), (⟨(⟨#[115]⟩ : ByteArray), 0, 0, 60, (⟨#[]⟩ : ByteArray)⟩ : S60)] : List (S60))) (inner := [.string (⟨#[]⟩ : ByteArray), .int .i64 0, .int .i64 0, .int .i64 0, .string (⟨#[]⟩ : ByteArray), .string (⟨#[115]⟩ : ByteArray), .int .i64 0, .int .i64 0, .int .i64 60, .string (⟨#[]⟩ : ByteArray)]) (ok := fun _ => True) (okp := fun _ => True) ?hr ?hp (fun _ hk => hk) trivial (Below.refl _ _) (Nat.le_refl _) (by simp) ?_; (case hd => rfl); (case hg => rfl); (case hr => first | (go_simp; done) | (go_simp; rfl)); (case hp => exact (Reps.c5 (show Kd.M k60 _ _ _ (⟨(⟨#[]⟩ : ByteArray), 0, 0, 0, (⟨#[]⟩ : ByteArray)⟩ : S60) [.string (⟨#[]⟩ : ByteArray), .int .i64 0, .int .i64 0, .int .i64 0, .string (⟨#[]⟩ : ByteArray)] from (k60_mkM _ _ _ (⟨(⟨#[]⟩ : ByteArray), 0, 0, 0, (⟨#[]⟩ : ByteArray)⟩ : S60) )) (Reps.c5 (show Kd.M k60 _ _ _ (⟨(⟨#[115]⟩ : ByteArray), 0, 0, 60, (⟨#[]⟩ : ByteArray)⟩ : S60) [.string (⟨#[115]⟩ : ByteArray), .int .i64 0, .int .i64 0, .int .i64 60, .string (⟨#[]⟩ : ByteArray)] from (k60_mkM _ _ _ (⟨(⟨#[115]⟩ : ByteArray), 0, 0, 60, (⟨#[]⟩ : ByteArray)⟩ : S60) )) (Reps.none _ _)))); intro v180 w17 ho18 hb hg_ hnew_; clear hg_ hnew_; (first | rw [← Ny179.out] at ho18 | (simp only [Int.reduceToNat] at ho18; rw [← Ny179.out] at ho18)); have HO181 := AX (Kd.R_lower ho18 (below_size bw)); replace HB := AX (below_step bw hb); clear hb ho18; obtain ⟨Ao19, co19, eo19⟩ := Kd.R_slice HO181.out; subst eo19) | ((with_reducible refine gate_callee (f := 21) rfl ?_); refine gL (some 14) Try.func21 #[.slice Ao19 y179.length co19, .string (⟨#[115]⟩ : ByteArray), .int .i64 0, .int .i64 59] ?_; (with_reducible refine (tou_Window.calls _ _ y179 (⟨#[115]⟩ : ByteArray) 0 59 t182 t183 _ ?side1 ?side2 A2.out).mono ?_); (case side1 => repeat (first | exact (Kd.R_reads' HO181.out).2.2 | (with_reducible refine Kd.C_alloc ?_ _) | (with_reducible refine Kd.C_drewN ?_ _) | (with_reducible refine Kd.C_drew ?_))); (case side2 => exact (Kd.R_reads' HO181.out).2.1); rintro e w20 ⟨rfl, hb⟩; refine ⟨_, rfl, ?_⟩; replace HO181 := AX (Kd.R_below (kr HO181) hb); replace HB := AX (below_step bw hb); (try clear hb); (try clear hb2); (try clear hk); (try clear hi)))
   go_ret
   exact ⟨by first | rfl | (simp [errW_none, errW_some] <;> rfl) | (simp [*, errW_none, errW_some] <;> rfl), bw⟩
 ·rw [if_neg c3] at H
  have c3b0 : (t177 == 2) = false := beq_eq_false_iff_ne.mpr c3
  have c3b1 : (t177 != 2) = true := bne_iff_ne.mpr c3
  obtain rfl := Option.some.inj H
  go_enter Try.func15, Try.ntmps15
  go_wp2_with (first | ((with_reducible refine gate_callee (f := 17) rfl ?_); refine gL (some 7) Try.func17 #[.slice none 0 0, .agg #[.int .i64 2026, .int .i64 11, .int .i64 15]] ?_; (refine (tou_Kind.calls k _ _ ([] : List (S65)) 2026 11 15 t177 t178 _ ?side1 ?side2 A1.out).mono ?_); (case side1 => exact Kd.C_nil _ _); (case side2 => exact Nat.le_refl _); rintro e w21 ⟨rfl, hb⟩; refine ⟨_, rfl, ?_⟩; replace HB := AX (below_step bw hb); (try clear hb)) | ((with_reducible refine gate_dst (N := 13) rfl ?_); refine Kd.R_lit k60 _ 60 ?hg (N := 13) ?hd (xs := ([(⟨(⟨#[]⟩ : ByteArray), 0, 0, 0, (⟨#[]⟩ : ByteArray)⟩ : S60), (⟨(⟨#[115]⟩ : ByteArray), 0, 0, 60, (⟨#[]⟩ : ByteArray)⟩ : S60)] : List (S60))) (inner := [.string (⟨#[]⟩ : ByteArray), .int .i64 0, .int .i64 0, .int .i64 0, .string (⟨#[]⟩ : ByteArray), .string (⟨#[115]⟩ : ByteArray), .int .i64 0, .int .i64 0, .int .i64 60, .string (⟨#[]⟩ : ByteArray)]) (ok := fun _ => True) (okp := fun _ => True) ?hr ?hp (fun _ hk => hk) trivial (Below.refl _ _) (Nat.le_refl _) (by simp) ?_; (case hd => rfl); (case hg => rfl); (case hr => first | (go_simp; done) | (go_simp; rfl)); (case hp => exact (Reps.c5 (show Kd.M k60 _ _ _ (⟨(⟨#[]⟩ : ByteArray), 0, 0, 0, (⟨#[]⟩ : ByteArray)⟩ : S60) [.string (⟨#[]⟩ : ByteArray), .int .i64 0, .int .i64 0, .int .i64 0, .string (⟨#[]⟩ : ByteArray)] from (k60_mkM _ _ _ (⟨(⟨#[]⟩ : ByteArray), 0, 0, 0, (⟨#[]⟩ : ByteArray)⟩ : S60) )) (Reps.c5 (show Kd.M k60 _ _ _ (⟨(⟨#[115]⟩ : ByteArray), 0, 0, 60, (⟨#[]⟩ : ByteArray)⟩ : S60) [.string (⟨#[115]⟩ : ByteArray), .int .i64 0, .int .i64 0, .int .i64 60, .string (⟨#[]⟩ : ByteArray)] from (k60_mkM _ _ _ (⟨(⟨#[115]⟩ : ByteArray), 0, 0, 60, (⟨#[]⟩ : ByteArray)⟩ : S60) )) (Reps.none _ _)))); intro v180 w22 ho23 hb hg_ hnew_; clear hg_ hnew_; (first | rw [← Ny179.out] at ho23 | (simp only [Int.reduceToNat] at ho23; rw [← Ny179.out] at ho23)); have HO181 := AX (Kd.R_lower ho23 (below_size bw)); replace HB := AX (below_step bw hb); clear hb ho23; obtain ⟨Ao24, co24, eo24⟩ := Kd.R_slice HO181.out; subst eo24) | ((with_reducible refine gate_callee (f := 21) rfl ?_); refine gL (some 14) Try.func21 #[.slice Ao24 y179.length co24, .string (⟨#[115]⟩ : ByteArray), .int .i64 0, .int .i64 59] ?_; (with_reducible refine (tou_Window.calls _ _ y179 (⟨#[115]⟩ : ByteArray) 0 59 t182 t183 _ ?side1 ?side2 A2.out).mono ?_); (case side1 => repeat (first | exact (Kd.R_reads' HO181.out).2.2 | (with_reducible refine Kd.C_alloc ?_ _) | (with_reducible refine Kd.C_drewN ?_ _) | (with_reducible refine Kd.C_drew ?_))); (case side2 => exact (Kd.R_reads' HO181.out).2.1); rintro e w25 ⟨rfl, hb⟩; refine ⟨_, rfl, ?_⟩; replace HO181 := AX (Kd.R_below (kr HO181) hb); replace HB := AX (below_step bw hb); (try clear hb); (try clear hb2); (try clear hk); (try clear hi)))
  go_ret
  exact ⟨by first | rfl | (simp [errW_none, errW_some] <;> rfl) | (simp [*, errW_none, errW_some] <;> rfl), bw⟩

end Go.Proofs.Ytkggjjggcbcdiaa.PX
