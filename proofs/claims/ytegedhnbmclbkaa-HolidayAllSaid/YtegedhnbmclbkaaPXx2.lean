/- Functions of the program as plain Lean functions, each with a proof that the call in the machine answers just what the plain function says; condition: the plain function answers at all. -/
import Derived.Test.YtegedhnbmclbkaaPXx0
import Derived.Test.YtegedhnbmclbkaaPXx1
namespace Go.Proofs.Ytegedhnbmclbkaa.PX
open Go.RowKit Go.Proofs.YtegedhnbmclbkaaW.PrintWords Go.Proofs.YtegedhnbmclbkaaW.PrintLast Go.Proofs.YtegedhnbmclbkaaW.PrintMore
attribute [local go_sem] max2_int min2_int max_two min_two max_three min_three max_four min_four   -- for this text's walks alone
set_option linter.unusedVariables false
set_option linter.unusedSimpArgs false

attribute [local go_sem high] eqA33
/-! ### holiday_Easter: function 21 -/
def holiday_Easter.f (a0 : Int) : Option (Int × Int × Int × Int) := if 1 ≤ a0 ∧ a0 ≤ 9999 then some (a0, Civ.eNum a0 / 31, Civ.eNum a0 % 31 + 1, 0) else some (0, 0, 0, 5)
theorem holiday_Easter.out (y : Int) (w : World) (h : y < 1 ∨ 9999 < y) :
    Calls Try.prog 21 #[.int .i64 y] w fun e w' => e = .returned (.tuple #[.agg #[.int .i64 0, .int .i64 0, .int .i64 0], .int .i64 5]) ∧ Below w.heap.size w w' := by
  by_cases h1 : y < 1
  · clear h
    go_enter Try.func21, Try.ntmps21
    go_wp2
    exact bodyPost_ret (v := .tuple #[.agg #[.int .i64 0, .int .i64 0, .int .i64 0], .int .i64 5]) (by simp [results, Try.results21, go_sem]) rfl ⟨rfl, by repeat (first | exact Below.refl _ _ | apply below_alloc)⟩
  · have h2 : 9999 < y := by omega
    clear h
    go_enter Try.func21, Try.ntmps21
    go_wp2
    exact bodyPost_ret (v := .tuple #[.agg #[.int .i64 0, .int .i64 0, .int .i64 0], .int .i64 5]) (by simp [results, Try.results21, go_sem]) rfl ⟨rfl, by repeat (first | exact Below.refl _ _ | apply below_alloc)⟩
set_option maxRecDepth 100000 in
theorem holiday_Easter.inn (y : Int) (w : World) (h1 : 1 ≤ y) (h2 : y ≤ 9999) :
    Calls Try.prog 21 #[.int .i64 y] w fun e w' => e = .returned (.tuple #[.agg #[.int .i64 y, .int .i64 (Civ.eNum y / 31), .int .i64 (Civ.eNum y % 31 + 1)], .int .i64 0]) ∧ Below w.heap.size w w' := by
  obtain ⟨⟨g1, g2⟩, ⟨g3, g4⟩, ⟨g5, g6⟩, ⟨g7, g8⟩, ⟨g9, g10⟩, ⟨g11, g12⟩⟩ := Civ.e_bd h1 h2
  obtain ⟨n1, n2, -, -⟩ := Civ.easter_at h1 h2
  go_enter Try.func21, Try.ntmps21
  go_upto_region 3 with (fail)
  go_cut [4] (fun v4 wc => v4 = .int .i64 (Civ.eGold y) ∧ wc = w.alloc (.cells #[.int .i64 0, .int .i64 0, .int .i64 0] 33))
  case first =>
    go_wp2
    go_meet
    case rel => exact ⟨rfl, rfl⟩
  case rest =>
   obtain ⟨rfl, rfl⟩ := hcut
   go_upto_region 4 with (fail)
   go_cut [5, 6] (fun v5 v6 wc => v5 = .int .i64 (Civ.eCent y) ∧ v6 = .int .i64 (Civ.eOf y) ∧ wc = w.alloc (.cells #[.int .i64 0, .int .i64 0, .int .i64 0] 33))
   case first =>
     go_wp2
     go_meet
     case rel => exact ⟨rfl, rfl, rfl⟩
   case rest =>
    obtain ⟨rfl, rfl, rfl⟩ := hcut
    go_upto_region 5 with (fail)
    go_cut [7] (fun v7 wc => v7 = .int .i64 (Civ.eLeaps y) ∧ wc = w.alloc (.cells #[.int .i64 0, .int .i64 0, .int .i64 0] 33))
    case first =>
      go_wp2
      go_meet
      case rel => exact ⟨rfl, rfl⟩
    case rest =>
     obtain ⟨rfl, rfl⟩ := hcut
     go_upto_region 6 with (fail)
     go_cut [8] (fun v8 wc => v8 = .int .i64 (Civ.eMoon y) ∧ wc = w.alloc (.cells #[.int .i64 0, .int .i64 0, .int .i64 0] 33))
     case first =>
       go_wp2
       go_meet
       case rel => exact ⟨rfl, rfl⟩
     case rest =>
      obtain ⟨rfl, rfl⟩ := hcut
      go_upto_region 7 with (fail)
      go_cut [9] (fun v9 wc => v9 = .int .i64 (Civ.eSun y) ∧ wc = w.alloc (.cells #[.int .i64 0, .int .i64 0, .int .i64 0] 33))
      case first =>
        go_wp2
        go_meet
        case rel => exact ⟨rfl, rfl⟩
      case rest =>
       obtain ⟨rfl, rfl⟩ := hcut
       go_upto_region 8 with (fail)
       go_cut [10] (fun v10 wc => v10 = .int .i64 (Civ.eNum y) ∧ wc = w.alloc (.cells #[.int .i64 0, .int .i64 0, .int .i64 0] 33))
       case first =>
         go_wp2
         go_meet
         case rel => exact ⟨rfl, rfl⟩
       case rest =>
        obtain ⟨rfl, rfl⟩ := hcut
        go_wp2
        exact bodyPost_ret (v := .tuple #[.agg #[.int .i64 y, .int .i64 (Civ.eNum y / 31), .int .i64 (Civ.eNum y % 31 + 1)], .int .i64 0]) (by simp [results, Try.results21, go_sem]) rfl ⟨rfl, by repeat (first | exact Below.refl _ _ | apply below_alloc)⟩
theorem holiday_Easter.calls (a0 : Int) (r1 : Int) (r2 : Int) (r3 : Int) (r4 : Int) (w : World) (h : holiday_Easter.f a0 = some (r1, r2, r3, r4)) :
    Calls Try.prog 21 #[.int .i64 a0] w fun e w' => e = .returned (.tuple #[.agg #[.int .i64 r1, .int .i64 r2, .int .i64 r3], .int .i64 r4]) ∧ Below w.heap.size w w' := by
  unfold holiday_Easter.f at h
  by_cases c : 1 ≤ a0 ∧ a0 ≤ 9999
  · rw [if_pos c] at h
    simp only [Option.some.injEq, Prod.mk.injEq] at h
    obtain ⟨rfl, rfl, rfl, rfl⟩ := h
    exact holiday_Easter.inn a0 w c.1 c.2
  · rw [if_neg c] at h
    simp only [Option.some.injEq, Prod.mk.injEq] at h
    obtain ⟨rfl, rfl, rfl, rfl⟩ := h
    exact holiday_Easter.out a0 w (by omega)

/-! ### pylonlaw05_awake: function 8 -/
def pylonlaw05_awake.f  : Option (Bool) := (holiday_Easter.f 2026).bind fun bt101 => (if bt101.2.2.2 = 0 then (some (bt101.1 == 2026 && (bt101.2.1 == 4 && (bt101.2.2.1 == 5)))) else (some false))
set_option maxHeartbeats 8000000 in
set_option maxRecDepth 100000 in
theorem pylonlaw05_awake.calls  (r : Bool) (w : World) (h : pylonlaw05_awake.f  = some r) :
  Calls Try.prog 8 #[] w fun e w' => e = .returned (.bool r) ∧ Below w.heap.size w w' := by
 have hu33 := Try.underlying33
 have HB := AX (Below.refl w.heap.size w)
 have H : ((holiday_Easter.f 2026).bind fun bt101 => (if bt101.2.2.2 = 0 then (some (bt101.1 == 2026 && (bt101.2.1 == 4 && (bt101.2.2.1 == 5)))) else (some false))) = some r := h
 clear h
 replace H := Option.bind_eq_some_iff.mp H
 obtain ⟨⟨t101, t102, t103, t104⟩, A10, H⟩ := H
 replace H : (if t104 = 0 then (some (t101 == 2026 && (t102 == 4 && (t103 == 5)))) else (some false)) = some r := H
 have A1 := AX A10
 clear A10
 by_cases c2 : t104 = 0
 ·rw [if_pos c2] at H
  have c2b0 : (t104 == 0) = true := beq_iff_eq.mpr c2
  have c2b1 : (t104 != 0) = false := bne_eq_false_iff_eq.mpr c2
  clear c2
  obtain rfl := Option.some.inj H
  go_enter Try.func8, Try.ntmps8
  go_wp2_with (first | ((with_reducible refine gate_callee (f := 21) rfl ?_); refine gL (some 4) Try.func21 #[.int .i64 2026] ?_; (with_reducible refine (holiday_Easter.calls 2026 t101 t102 t103 t104 _ A1.out).mono ?_); rintro e w3 ⟨rfl, hb⟩; refine ⟨_, rfl, ?_⟩; replace HB := AX (below_step bw hb); (try clear hb)) | ((with_reducible refine gate_dst (N := 1) rfl ?_); refine bx 1 #[.int .i64 0, .int .i64 0, .int .i64 0] 33 ?_; intro gb105 hg w4 hbox hb; have BK105 := AX (hbox); have GW105 := gwl (w := w) hg bw; have GE105 := GW105; replace HB := AX (below_step bw hb); clear hb hbox hg; obtain ⟨hcz5_0, hcz5_1, hcz5_2⟩ := blkC3 (w := w4) BK105.out; obtain ⟨hfz5_0, hfz5_1, hfz5_2⟩ := blkF3 BK105.out))
  go_ret
  exact ⟨by first | rfl | (simp [errW_none, errW_some] <;> rfl) | (simp [*, errW_none, errW_some] <;> rfl), bw⟩
 ·rw [if_neg c2] at H
  have c2b0 : (t104 == 0) = false := beq_eq_false_iff_ne.mpr c2
  have c2b1 : (t104 != 0) = true := bne_iff_ne.mpr c2
  obtain rfl := Option.some.inj H
  go_enter Try.func8, Try.ntmps8
  go_wp2_with (first | ((with_reducible refine gate_callee (f := 21) rfl ?_); refine gL (some 4) Try.func21 #[.int .i64 2026] ?_; (with_reducible refine (holiday_Easter.calls 2026 t101 t102 t103 t104 _ A1.out).mono ?_); rintro e w6 ⟨rfl, hb⟩; refine ⟨_, rfl, ?_⟩; replace HB := AX (below_step bw hb); (try clear hb)) | ((with_reducible refine gate_dst (N := 1) rfl ?_); refine bx 1 #[.int .i64 0, .int .i64 0, .int .i64 0] 33 ?_; intro gb105 hg w7 hbox hb; have BK105 := AX (hbox); have GW105 := gwl (w := w) hg bw; have GE105 := GW105; replace HB := AX (below_step bw hb); clear hb hbox hg; obtain ⟨hcz8_0, hcz8_1, hcz8_2⟩ := blkC3 (w := w7) BK105.out; obtain ⟨hfz8_0, hfz8_1, hfz8_2⟩ := blkF3 BK105.out))
  go_ret
  exact ⟨by first | rfl | (simp [errW_none, errW_some] <;> rfl) | (simp [*, errW_none, errW_some] <;> rfl), bw⟩

/-! ### civil_leap: function 42 -/
def civil_leap.f (a0 : Int) : Option (Bool) := if (Int.tmod a0 4) = 0 then (if (Int.tmod a0 100) = 0 then (some ((Int.tmod a0 400) == 0)) else (some true)) else (some ((Int.tmod a0 400) == 0))
set_option maxHeartbeats 8000000 in
set_option maxRecDepth 100000 in
theorem civil_leap.calls (a0 : Int) (r : Bool) (w : World) (h : civil_leap.f a0 = some r) :
  Calls Try.prog 42 #[.int .i64 a0] w fun e w' => e = .returned (.bool r) ∧ Drawn0 w w' := by
 have H : (if (Int.tmod a0 4) = 0 then (if (Int.tmod a0 100) = 0 then (some ((Int.tmod a0 400) == 0)) else (some true)) else (some ((Int.tmod a0 400) == 0))) = some r := h
 clear h
 by_cases c2 : (Int.tmod a0 4) = 0
 ·rw [if_pos c2] at H
  have c2b0 : ((Int.tmod a0 4) == 0) = true := beq_iff_eq.mpr c2
  have c2b1 : ((Int.tmod a0 4) != 0) = false := bne_eq_false_iff_eq.mpr c2
  clear c2
  by_cases c3 : (Int.tmod a0 100) = 0
  ·rw [if_pos c3] at H
   have c3b0 : ((Int.tmod a0 100) == 0) = true := beq_iff_eq.mpr c3
   have c3b1 : ((Int.tmod a0 100) != 0) = false := bne_eq_false_iff_eq.mpr c3
   clear c3
   obtain rfl := Option.some.inj H
   go_enter Try.func42, Try.ntmps42
   go_wp2
   go_ret
   exact ⟨by first | rfl | (simp; done) | (simp [*]; done), by repeat (first | exact Drawn0.refl _ | apply Drawn0.step)⟩
  ·rw [if_neg c3] at H
   have c3b0 : ((Int.tmod a0 100) == 0) = false := beq_eq_false_iff_ne.mpr c3
   have c3b1 : ((Int.tmod a0 100) != 0) = true := bne_iff_ne.mpr c3
   obtain rfl := Option.some.inj H
   go_enter Try.func42, Try.ntmps42
   go_wp2
   go_ret
   exact ⟨by first | rfl | (simp; done) | (simp [*]; done), by repeat (first | exact Drawn0.refl _ | apply Drawn0.step)⟩
 ·rw [if_neg c2] at H
  have c2b0 : ((Int.tmod a0 4) == 0) = false := beq_eq_false_iff_ne.mpr c2
  have c2b1 : ((Int.tmod a0 4) != 0) = true := bne_iff_ne.mpr c2
  obtain rfl := Option.some.inj H
  go_enter Try.func42, Try.ntmps42
  go_wp2
  go_ret
  exact ⟨by first | rfl | (simp; done) | (simp [*]; done), by repeat (first | exact Drawn0.refl _ | apply Drawn0.step)⟩

/-! ### civil_Length: function 25 -/
def civil_Length.f (a0 : Int) (a1 : Int) : Option (Int × Int) := some (Civ.lenE a0 a1)
/-- what civil.Length's table says of month i + 1 -/
def civil_Length.tab : List Int := [31, 28, 31, 30, 31, 30, 31, 31, 30, 31, 30, 31]
theorem civil_Length.out (a0 a1 : Int) (w : World) (h : a0 < 1 ∨ 9999 < a0 ∨ a1 < 1 ∨ 12 < a1) :
    Calls Try.prog 25 #[.int .i64 a0, .int .i64 a1] w fun e w' => e = .returned (.tuple #[.int .i64 0, .int .i64 5]) ∧ Below w.heap.size w w' := by
  by_cases h1 : a0 < 1
  · clear h
    go_enter Try.func25, Try.ntmps25
    go_wp2
    go_ret2
    exact ⟨rfl, Below.refl _ _⟩
  · by_cases h2 : 9999 < a0
    · clear h
      go_enter Try.func25, Try.ntmps25
      go_wp2
      go_ret2
      exact ⟨rfl, Below.refl _ _⟩
    · by_cases h3 : a1 < 1
      · clear h
        go_enter Try.func25, Try.ntmps25
        go_wp2
        go_ret2
        exact ⟨rfl, Below.refl _ _⟩
      · have h4 : 12 < a1 := by omega
        clear h
        go_enter Try.func25, Try.ntmps25
        go_wp2
        go_ret2
        exact ⟨rfl, Below.refl _ _⟩
theorem civil_Length.leaps (a0 : Int) (h1 : 1 ≤ a0) : civil_leap.f a0 = some (decide (Civ.lp a0 = 1)) := by
  unfold civil_leap.f Civ.lp
  rw [Int.tmod_eq_emod_of_nonneg (by omega), Int.tmod_eq_emod_of_nonneg (by omega), Int.tmod_eq_emod_of_nonneg (by omega)]
  by_cases h4 : a0 % 4 = 0
  · by_cases h100 : a0 % 100 = 0
    · by_cases h400 : a0 % 400 = 0
      · simp [h4, h100, h400]
      · simp [h4, h100, h400]
    · simp [h4, h100]
  · have h400 : ¬ a0 % 400 = 0 := by omega
    simp [h4, h400]
set_option maxRecDepth 100000 in
theorem civil_Length.m1 (a0 : Int) (w : World) (h1 : 1 ≤ a0) (h2 : a0 ≤ 9999) : 
    Calls Try.prog 25 #[.int .i64 a0, .int .i64 1] w fun e w' => e = .returned (.tuple #[.int .i64 31, .int .i64 0]) ∧ Below w.heap.size w w' := by
  have ix : ∀ w, (Instr.index 79 (.agg #[.int .i64 31, .int .i64 28, .int .i64 31, .int .i64 30, .int .i64 31, .int .i64 30, .int .i64 31, .int .i64 31, .int .i64 30, .int .i64 31, .int .i64 30, .int .i64 31]) (.int .i64 0)).run Try.prog w = .ok (.int .i64 31) w := fun _ => by kernel_rfl
  go_enter Try.func25, Try.ntmps25
  go_wp2
  go_ret2
  exact ⟨rfl, Below.refl _ _⟩
set_option maxRecDepth 100000 in
theorem civil_Length.m3 (a0 : Int) (w : World) (h1 : 1 ≤ a0) (h2 : a0 ≤ 9999) : 
    Calls Try.prog 25 #[.int .i64 a0, .int .i64 3] w fun e w' => e = .returned (.tuple #[.int .i64 31, .int .i64 0]) ∧ Below w.heap.size w w' := by
  have ix : ∀ w, (Instr.index 79 (.agg #[.int .i64 31, .int .i64 28, .int .i64 31, .int .i64 30, .int .i64 31, .int .i64 30, .int .i64 31, .int .i64 31, .int .i64 30, .int .i64 31, .int .i64 30, .int .i64 31]) (.int .i64 2)).run Try.prog w = .ok (.int .i64 31) w := fun _ => by kernel_rfl
  go_enter Try.func25, Try.ntmps25
  go_wp2
  go_ret2
  exact ⟨rfl, Below.refl _ _⟩
set_option maxRecDepth 100000 in
theorem civil_Length.m4 (a0 : Int) (w : World) (h1 : 1 ≤ a0) (h2 : a0 ≤ 9999) : 
    Calls Try.prog 25 #[.int .i64 a0, .int .i64 4] w fun e w' => e = .returned (.tuple #[.int .i64 30, .int .i64 0]) ∧ Below w.heap.size w w' := by
  have ix : ∀ w, (Instr.index 79 (.agg #[.int .i64 31, .int .i64 28, .int .i64 31, .int .i64 30, .int .i64 31, .int .i64 30, .int .i64 31, .int .i64 31, .int .i64 30, .int .i64 31, .int .i64 30, .int .i64 31]) (.int .i64 3)).run Try.prog w = .ok (.int .i64 30) w := fun _ => by kernel_rfl
  go_enter Try.func25, Try.ntmps25
  go_wp2
  go_ret2
  exact ⟨rfl, Below.refl _ _⟩
set_option maxRecDepth 100000 in
theorem civil_Length.m5 (a0 : Int) (w : World) (h1 : 1 ≤ a0) (h2 : a0 ≤ 9999) : 
    Calls Try.prog 25 #[.int .i64 a0, .int .i64 5] w fun e w' => e = .returned (.tuple #[.int .i64 31, .int .i64 0]) ∧ Below w.heap.size w w' := by
  have ix : ∀ w, (Instr.index 79 (.agg #[.int .i64 31, .int .i64 28, .int .i64 31, .int .i64 30, .int .i64 31, .int .i64 30, .int .i64 31, .int .i64 31, .int .i64 30, .int .i64 31, .int .i64 30, .int .i64 31]) (.int .i64 4)).run Try.prog w = .ok (.int .i64 31) w := fun _ => by kernel_rfl
  go_enter Try.func25, Try.ntmps25
  go_wp2
  go_ret2
  exact ⟨rfl, Below.refl _ _⟩
set_option maxRecDepth 100000 in
theorem civil_Length.m6 (a0 : Int) (w : World) (h1 : 1 ≤ a0) (h2 : a0 ≤ 9999) : 
    Calls Try.prog 25 #[.int .i64 a0, .int .i64 6] w fun e w' => e = .returned (.tuple #[.int .i64 30, .int .i64 0]) ∧ Below w.heap.size w w' := by
  have ix : ∀ w, (Instr.index 79 (.agg #[.int .i64 31, .int .i64 28, .int .i64 31, .int .i64 30, .int .i64 31, .int .i64 30, .int .i64 31, .int .i64 31, .int .i64 30, .int .i64 31, .int .i64 30, .int .i64 31]) (.int .i64 5)).run Try.prog w = .ok (.int .i64 30) w := fun _ => by kernel_rfl
  go_enter Try.func25, Try.ntmps25
  go_wp2
  go_ret2
  exact ⟨rfl, Below.refl _ _⟩
set_option maxRecDepth 100000 in
theorem civil_Length.m7 (a0 : Int) (w : World) (h1 : 1 ≤ a0) (h2 : a0 ≤ 9999) : 
    Calls Try.prog 25 #[.int .i64 a0, .int .i64 7] w fun e w' => e = .returned (.tuple #[.int .i64 31, .int .i64 0]) ∧ Below w.heap.size w w' := by
  have ix : ∀ w, (Instr.index 79 (.agg #[.int .i64 31, .int .i64 28, .int .i64 31, .int .i64 30, .int .i64 31, .int .i64 30, .int .i64 31, .int .i64 31, .int .i64 30, .int .i64 31, .int .i64 30, .int .i64 31]) (.int .i64 6)).run Try.prog w = .ok (.int .i64 31) w := fun _ => by kernel_rfl
  go_enter Try.func25, Try.ntmps25
  go_wp2
  go_ret2
  exact ⟨rfl, Below.refl _ _⟩
set_option maxRecDepth 100000 in
theorem civil_Length.m8 (a0 : Int) (w : World) (h1 : 1 ≤ a0) (h2 : a0 ≤ 9999) : 
    Calls Try.prog 25 #[.int .i64 a0, .int .i64 8] w fun e w' => e = .returned (.tuple #[.int .i64 31, .int .i64 0]) ∧ Below w.heap.size w w' := by
  have ix : ∀ w, (Instr.index 79 (.agg #[.int .i64 31, .int .i64 28, .int .i64 31, .int .i64 30, .int .i64 31, .int .i64 30, .int .i64 31, .int .i64 31, .int .i64 30, .int .i64 31, .int .i64 30, .int .i64 31]) (.int .i64 7)).run Try.prog w = .ok (.int .i64 31) w := fun _ => by kernel_rfl
  go_enter Try.func25, Try.ntmps25
  go_wp2
  go_ret2
  exact ⟨rfl, Below.refl _ _⟩
set_option maxRecDepth 100000 in
theorem civil_Length.m9 (a0 : Int) (w : World) (h1 : 1 ≤ a0) (h2 : a0 ≤ 9999) : 
    Calls Try.prog 25 #[.int .i64 a0, .int .i64 9] w fun e w' => e = .returned (.tuple #[.int .i64 30, .int .i64 0]) ∧ Below w.heap.size w w' := by
  have ix : ∀ w, (Instr.index 79 (.agg #[.int .i64 31, .int .i64 28, .int .i64 31, .int .i64 30, .int .i64 31, .int .i64 30, .int .i64 31, .int .i64 31, .int .i64 30, .int .i64 31, .int .i64 30, .int .i64 31]) (.int .i64 8)).run Try.prog w = .ok (.int .i64 30) w := fun _ => by kernel_rfl
  go_enter Try.func25, Try.ntmps25
  go_wp2
  go_ret2
  exact ⟨rfl, Below.refl _ _⟩
set_option maxRecDepth 100000 in
theorem civil_Length.m10 (a0 : Int) (w : World) (h1 : 1 ≤ a0) (h2 : a0 ≤ 9999) : 
    Calls Try.prog 25 #[.int .i64 a0, .int .i64 10] w fun e w' => e = .returned (.tuple #[.int .i64 31, .int .i64 0]) ∧ Below w.heap.size w w' := by
  have ix : ∀ w, (Instr.index 79 (.agg #[.int .i64 31, .int .i64 28, .int .i64 31, .int .i64 30, .int .i64 31, .int .i64 30, .int .i64 31, .int .i64 31, .int .i64 30, .int .i64 31, .int .i64 30, .int .i64 31]) (.int .i64 9)).run Try.prog w = .ok (.int .i64 31) w := fun _ => by kernel_rfl
  go_enter Try.func25, Try.ntmps25
  go_wp2
  go_ret2
  exact ⟨rfl, Below.refl _ _⟩
set_option maxRecDepth 100000 in
theorem civil_Length.m11 (a0 : Int) (w : World) (h1 : 1 ≤ a0) (h2 : a0 ≤ 9999) : 
    Calls Try.prog 25 #[.int .i64 a0, .int .i64 11] w fun e w' => e = .returned (.tuple #[.int .i64 30, .int .i64 0]) ∧ Below w.heap.size w w' := by
  have ix : ∀ w, (Instr.index 79 (.agg #[.int .i64 31, .int .i64 28, .int .i64 31, .int .i64 30, .int .i64 31, .int .i64 30, .int .i64 31, .int .i64 31, .int .i64 30, .int .i64 31, .int .i64 30, .int .i64 31]) (.int .i64 10)).run Try.prog w = .ok (.int .i64 30) w := fun _ => by kernel_rfl
  go_enter Try.func25, Try.ntmps25
  go_wp2
  go_ret2
  exact ⟨rfl, Below.refl _ _⟩
set_option maxRecDepth 100000 in
theorem civil_Length.m12 (a0 : Int) (w : World) (h1 : 1 ≤ a0) (h2 : a0 ≤ 9999) : 
    Calls Try.prog 25 #[.int .i64 a0, .int .i64 12] w fun e w' => e = .returned (.tuple #[.int .i64 31, .int .i64 0]) ∧ Below w.heap.size w w' := by
  have ix : ∀ w, (Instr.index 79 (.agg #[.int .i64 31, .int .i64 28, .int .i64 31, .int .i64 30, .int .i64 31, .int .i64 30, .int .i64 31, .int .i64 31, .int .i64 30, .int .i64 31, .int .i64 30, .int .i64 31]) (.int .i64 11)).run Try.prog w = .ok (.int .i64 31) w := fun _ => by kernel_rfl
  go_enter Try.func25, Try.ntmps25
  go_wp2
  go_ret2
  exact ⟨rfl, Below.refl _ _⟩
set_option maxRecDepth 100000 in
theorem civil_Length.m2true (a0 : Int) (w : World) (h1 : 1 ≤ a0) (h2 : a0 ≤ 9999) (h3 : civil_leap.f a0 = some true) : 
    Calls Try.prog 25 #[.int .i64 a0, .int .i64 2] w fun e w' => e = .returned (.tuple #[.int .i64 29, .int .i64 0]) ∧ Below w.heap.size w w' := by
  have ix : ∀ w, (Instr.index 79 (.agg #[.int .i64 31, .int .i64 28, .int .i64 31, .int .i64 30, .int .i64 31, .int .i64 30, .int .i64 31, .int .i64 31, .int .i64 30, .int .i64 31, .int .i64 30, .int .i64 31]) (.int .i64 1)).run Try.prog w = .ok (.int .i64 28) w := fun _ => by kernel_rfl
  have H3 := Aside0.mk h3
  clear h3
  go_enter Try.func25, Try.ntmps25
  go_wp2_with (go_at_call 42; refine (civil_leap.calls _ _ _ H3.out).mono ?_; rintro e w' ⟨rfl, hd⟩; obtain ⟨nd, rfl⟩ := hd.out)
  go_ret2
  exact ⟨rfl, pw_below_drewN (Below.refl _ _) _⟩
set_option maxRecDepth 100000 in
theorem civil_Length.m2false (a0 : Int) (w : World) (h1 : 1 ≤ a0) (h2 : a0 ≤ 9999) (h3 : civil_leap.f a0 = some false) : 
    Calls Try.prog 25 #[.int .i64 a0, .int .i64 2] w fun e w' => e = .returned (.tuple #[.int .i64 28, .int .i64 0]) ∧ Below w.heap.size w w' := by
  have ix : ∀ w, (Instr.index 79 (.agg #[.int .i64 31, .int .i64 28, .int .i64 31, .int .i64 30, .int .i64 31, .int .i64 30, .int .i64 31, .int .i64 31, .int .i64 30, .int .i64 31, .int .i64 30, .int .i64 31]) (.int .i64 1)).run Try.prog w = .ok (.int .i64 28) w := fun _ => by kernel_rfl
  have H3 := Aside0.mk h3
  clear h3
  go_enter Try.func25, Try.ntmps25
  go_wp2_with (go_at_call 42; refine (civil_leap.calls _ _ _ H3.out).mono ?_; rintro e w' ⟨rfl, hd⟩; obtain ⟨nd, rfl⟩ := hd.out)
  go_ret2
  exact ⟨rfl, pw_below_drewN (Below.refl _ _) _⟩
theorem civil_Length.calls (a0 : Int) (a1 : Int) (r1 : Int) (r2 : Int) (w : World) (h : civil_Length.f a0 a1 = some (r1, r2)) :
    Calls Try.prog 25 #[.int .i64 a0, .int .i64 a1] w fun e w' => e = .returned (.tuple #[.int .i64 r1, .int .i64 r2]) ∧ Below w.heap.size w w' := by
  unfold civil_Length.f Civ.lenE at h
  injection h with h
  by_cases c : 1 ≤ a0 ∧ a0 ≤ 9999 ∧ 1 ≤ a1 ∧ a1 ≤ 12
  · rw [if_pos c, Prod.mk.injEq] at h
    obtain ⟨rfl, rfl⟩ := h
    obtain ⟨c1, c2, c3, c4⟩ := c
    have hm : a1 = 1 ∨ a1 = 2 ∨ a1 = 3 ∨ a1 = 4 ∨ a1 = 5 ∨ a1 = 6 ∨ a1 = 7 ∨ a1 = 8 ∨ a1 = 9 ∨ a1 = 10 ∨ a1 = 11 ∨ a1 = 12 := by omega
    rcases hm with rfl | rfl | rfl | rfl | rfl | rfl | rfl | rfl | rfl | rfl | rfl | rfl
    · exact civil_Length.m1 a0 w c1 c2
    · have hl := civil_Length.leaps a0 c1
      have h01 := Civ.lp_01 a0
      by_cases e : Civ.lp a0 = 1
      · rw [show Civ.len a0 2 = 29 by simp [Civ.len, e]]
        exact civil_Length.m2true a0 w c1 c2 (by rw [hl, e]; rfl)
      · rw [show Civ.len a0 2 = 28 by simp [Civ.len]; omega]
        exact civil_Length.m2false a0 w c1 c2 (by rw [hl]; simp [e])
    · exact civil_Length.m3 a0 w c1 c2
    · exact civil_Length.m4 a0 w c1 c2
    · exact civil_Length.m5 a0 w c1 c2
    · exact civil_Length.m6 a0 w c1 c2
    · exact civil_Length.m7 a0 w c1 c2
    · exact civil_Length.m8 a0 w c1 c2
    · exact civil_Length.m9 a0 w c1 c2
    · exact civil_Length.m10 a0 w c1 c2
    · exact civil_Length.m11 a0 w c1 c2
    · exact civil_Length.m12 a0 w c1 c2
  · rw [if_neg c, Prod.mk.injEq] at h
    obtain ⟨rfl, rfl⟩ := h
    exact civil_Length.out a0 a1 w (by omega)

/-! ### civil_good: function 49 -/
def civil_good.f (a0_0 : Int) (a0_1 : Int) (a0_2 : Int) : Option (Bool) := (civil_Length.f a0_0 a0_1).bind fun bt107 => (if bt107.2 = 0 then (if a0_2 ≥ 1 then (some (decide (a0_2 ≤ bt107.1))) else (some false)) else (some false))
set_option maxHeartbeats 8000000 in
set_option maxRecDepth 100000 in
theorem civil_good.calls (a0_0 : Int) (a0_1 : Int) (a0_2 : Int) (r : Bool) (w : World) (h : civil_good.f a0_0 a0_1 a0_2 = some r) :
  Calls Try.prog 49 #[.agg #[.int .i64 a0_0, .int .i64 a0_1, .int .i64 a0_2]] w fun e w' => e = .returned (.bool r) ∧ Below w.heap.size w w' := by
 have hu33 := Try.underlying33
 have HB := AX (Below.refl w.heap.size w)
 have H : ((civil_Length.f a0_0 a0_1).bind fun bt107 => (if bt107.2 = 0 then (if a0_2 ≥ 1 then (some (decide (a0_2 ≤ bt107.1))) else (some false)) else (some false))) = some r := h
 clear h
 replace H := Option.bind_eq_some_iff.mp H
 obtain ⟨⟨t107, t108⟩, A20, H⟩ := H
 replace H : (if t108 = 0 then (if a0_2 ≥ 1 then (some (decide (a0_2 ≤ t107))) else (some false)) else (some false)) = some r := H
 have A2 := AX A20
 clear A20
 by_cases c3 : t108 = 0
 ·rw [if_pos c3] at H
  have c3b0 : (t108 == 0) = true := beq_iff_eq.mpr c3
  have c3b1 : (t108 != 0) = false := bne_eq_false_iff_eq.mpr c3
  clear c3
  by_cases c4 : a0_2 ≥ 1
  ·rw [if_pos c4] at H
   have c4b0 : decide (1 ≤ a0_2) = true := decide_eq_true c4
   clear c4
   obtain rfl := Option.some.inj H
   go_enter Try.func49, Try.ntmps49
   go_wp2_with (first | ((with_reducible refine gate_dst (N := 1) rfl ?_); refine bx 1 #[.int .i64 a0_0, .int .i64 a0_1, .int .i64 a0_2] 33 ?_; intro gb106 hg w5 hbox hb; have BK106 := AX (hbox); have GW106 := gwl (w := w) hg bw; have GE106 := GW106; replace HB := AX (below_step bw hb); clear hb hbox hg; obtain ⟨hcz6_0, hcz6_1, hcz6_2⟩ := blkC3 (w := w5) BK106.out; obtain ⟨hfz6_0, hfz6_1, hfz6_2⟩ := blkF3 BK106.out) | ((with_reducible refine gate_callee (f := 25) rfl ?_); refine gL (some 10) Try.func25 #[.int .i64 a0_0, .int .i64 a0_1] ?_; (with_reducible refine (civil_Length.calls a0_0 a0_1 t107 t108 _ A2.out).mono ?_); rintro e w7 ⟨rfl, hb⟩; refine ⟨_, rfl, ?_⟩; replace BK106 := AX (bkb BK106 hb); replace HB := AX (below_step bw hb); (try clear hb); obtain ⟨hcz8_0, hcz8_1, hcz8_2⟩ := blkC3 (w := w7) BK106.out; obtain ⟨hfz8_0, hfz8_1, hfz8_2⟩ := blkF3 BK106.out))
   go_ret
   exact ⟨by first | rfl | (simp [errW_none, errW_some] <;> rfl) | (simp [*, errW_none, errW_some] <;> rfl), bw⟩
  ·rw [if_neg c4] at H
   have c4b0 : decide (1 ≤ a0_2) = false := decide_eq_false c4
   clear c4
   obtain rfl := Option.some.inj H
   go_enter Try.func49, Try.ntmps49
   go_wp2_with (first | ((with_reducible refine gate_dst (N := 1) rfl ?_); refine bx 1 #[.int .i64 a0_0, .int .i64 a0_1, .int .i64 a0_2] 33 ?_; intro gb106 hg w9 hbox hb; have BK106 := AX (hbox); have GW106 := gwl (w := w) hg bw; have GE106 := GW106; replace HB := AX (below_step bw hb); clear hb hbox hg; obtain ⟨hcz10_0, hcz10_1, hcz10_2⟩ := blkC3 (w := w9) BK106.out; obtain ⟨hfz10_0, hfz10_1, hfz10_2⟩ := blkF3 BK106.out) | ((with_reducible refine gate_callee (f := 25) rfl ?_); refine gL (some 10) Try.func25 #[.int .i64 a0_0, .int .i64 a0_1] ?_; (with_reducible refine (civil_Length.calls a0_0 a0_1 t107 t108 _ A2.out).mono ?_); rintro e w11 ⟨rfl, hb⟩; refine ⟨_, rfl, ?_⟩; replace BK106 := AX (bkb BK106 hb); replace HB := AX (below_step bw hb); (try clear hb); obtain ⟨hcz12_0, hcz12_1, hcz12_2⟩ := blkC3 (w := w11) BK106.out; obtain ⟨hfz12_0, hfz12_1, hfz12_2⟩ := blkF3 BK106.out))
   go_ret
   exact ⟨by first | rfl | (simp [errW_none, errW_some] <;> rfl) | (simp [*, errW_none, errW_some] <;> rfl), bw⟩
 ·rw [if_neg c3] at H
  have c3b0 : (t108 == 0) = false := beq_eq_false_iff_ne.mpr c3
  have c3b1 : (t108 != 0) = true := bne_iff_ne.mpr c3
  obtain rfl := Option.some.inj H
  go_enter Try.func49, Try.ntmps49
  go_wp2_with (first | ((with_reducible refine gate_dst (N := 1) rfl ?_); refine bx 1 #[.int .i64 a0_0, .int .i64 a0_1, .int .i64 a0_2] 33 ?_; intro gb106 hg w13 hbox hb; have BK106 := AX (hbox); have GW106 := gwl (w := w) hg bw; have GE106 := GW106; replace HB := AX (below_step bw hb); clear hb hbox hg; obtain ⟨hcz14_0, hcz14_1, hcz14_2⟩ := blkC3 (w := w13) BK106.out; obtain ⟨hfz14_0, hfz14_1, hfz14_2⟩ := blkF3 BK106.out) | ((with_reducible refine gate_callee (f := 25) rfl ?_); refine gL (some 10) Try.func25 #[.int .i64 a0_0, .int .i64 a0_1] ?_; (with_reducible refine (civil_Length.calls a0_0 a0_1 t107 t108 _ A2.out).mono ?_); rintro e w15 ⟨rfl, hb⟩; refine ⟨_, rfl, ?_⟩; replace BK106 := AX (bkb BK106 hb); replace HB := AX (below_step bw hb); (try clear hb)))
  go_ret
  exact ⟨by first | rfl | (simp [errW_none, errW_some] <;> rfl) | (simp [*, errW_none, errW_some] <;> rfl), bw⟩

/-! ### civil_Days: function 32 -/
def civil_Days.f (a0_0 : Int) (a0_1 : Int) (a0_2 : Int) : Option (Int × Int) := (civil_good.f a0_0 a0_1 a0_2).bind fun t110 => (if t110 = true then (if (wrap64 (a0_1 - 3)) < 0 then (some (wrap64 ((wrap64 ((wrap64 ((wrap64 ((wrap64 ((wrap64 ((wrap64 ((wrap64 ((wrap64 (Int.tdiv (wrap64 (a0_0 - 1)) 400)) * 146097)) + (wrap64 ((Int.tmod (wrap64 (a0_0 - 1)) 400) * 365)))) + (wrap64 (Int.tdiv (Int.tmod (wrap64 (a0_0 - 1)) 400) 4)))) - (wrap64 (Int.tdiv (Int.tmod (wrap64 (a0_0 - 1)) 400) 100)))) + (wrap64 (Int.tdiv (wrap64 ((wrap64 (153 * (wrap64 ((wrap64 (a0_1 - 3)) + 12)))) + 2)) 5)))) + a0_2)) - 1)) - 719468), 0)) else (some (wrap64 ((wrap64 ((wrap64 ((wrap64 ((wrap64 ((wrap64 ((wrap64 ((wrap64 ((wrap64 (Int.tdiv a0_0 400)) * 146097)) + (wrap64 ((Int.tmod a0_0 400) * 365)))) + (wrap64 (Int.tdiv (Int.tmod a0_0 400) 4)))) - (wrap64 (Int.tdiv (Int.tmod a0_0 400) 100)))) + (wrap64 (Int.tdiv (wrap64 ((wrap64 (153 * (wrap64 (a0_1 - 3)))) + 2)) 5)))) + a0_2)) - 1)) - 719468), 0))) else (some (0, 5)))
set_option maxHeartbeats 8000000 in
set_option maxRecDepth 100000 in
theorem civil_Days.calls (a0_0 : Int) (a0_1 : Int) (a0_2 : Int) (r1 : Int) (r2 : Int) (w : World) (h : civil_Days.f a0_0 a0_1 a0_2 = some (r1, r2)) :
  Calls Try.prog 32 #[.agg #[.int .i64 a0_0, .int .i64 a0_1, .int .i64 a0_2]] w fun e w' => e = .returned (.tuple #[.int .i64 r1, .int .i64 r2]) ∧ Below w.heap.size w w' := by
 have hu33 := Try.underlying33
 have HB := AX (Below.refl w.heap.size w)
 have H : ((civil_good.f a0_0 a0_1 a0_2).bind fun t110 => (if t110 = true then (if (wrap64 (a0_1 - 3)) < 0 then (some (wrap64 ((wrap64 ((wrap64 ((wrap64 ((wrap64 ((wrap64 ((wrap64 ((wrap64 ((wrap64 (Int.tdiv (wrap64 (a0_0 - 1)) 400)) * 146097)) + (wrap64 ((Int.tmod (wrap64 (a0_0 - 1)) 400) * 365)))) + (wrap64 (Int.tdiv (Int.tmod (wrap64 (a0_0 - 1)) 400) 4)))) - (wrap64 (Int.tdiv (Int.tmod (wrap64 (a0_0 - 1)) 400) 100)))) + (wrap64 (Int.tdiv (wrap64 ((wrap64 (153 * (wrap64 ((wrap64 (a0_1 - 3)) + 12)))) + 2)) 5)))) + a0_2)) - 1)) - 719468), 0)) else (some (wrap64 ((wrap64 ((wrap64 ((wrap64 ((wrap64 ((wrap64 ((wrap64 ((wrap64 ((wrap64 (Int.tdiv a0_0 400)) * 146097)) + (wrap64 ((Int.tmod a0_0 400) * 365)))) + (wrap64 (Int.tdiv (Int.tmod a0_0 400) 4)))) - (wrap64 (Int.tdiv (Int.tmod a0_0 400) 100)))) + (wrap64 (Int.tdiv (wrap64 ((wrap64 (153 * (wrap64 (a0_1 - 3)))) + 2)) 5)))) + a0_2)) - 1)) - 719468), 0))) else (some (0, 5)))) = some (r1, r2) := h
 clear h
 replace H := Option.bind_eq_some_iff.mp H
 obtain ⟨t110, A20, H⟩ := H
 replace H : (if t110 = true then (if (wrap64 (a0_1 - 3)) < 0 then (some (wrap64 ((wrap64 ((wrap64 ((wrap64 ((wrap64 ((wrap64 ((wrap64 ((wrap64 ((wrap64 (Int.tdiv (wrap64 (a0_0 - 1)) 400)) * 146097)) + (wrap64 ((Int.tmod (wrap64 (a0_0 - 1)) 400) * 365)))) + (wrap64 (Int.tdiv (Int.tmod (wrap64 (a0_0 - 1)) 400) 4)))) - (wrap64 (Int.tdiv (Int.tmod (wrap64 (a0_0 - 1)) 400) 100)))) + (wrap64 (Int.tdiv (wrap64 ((wrap64 (153 * (wrap64 ((wrap64 (a0_1 - 3)) + 12)))) + 2)) 5)))) + a0_2)) - 1)) - 719468), 0)) else (some (wrap64 ((wrap64 ((wrap64 ((wrap64 ((wrap64 ((wrap64 ((wrap64 ((wrap64 ((wrap64 (Int.tdiv a0_0 400)) * 146097)) + (wrap64 ((Int.tmod a0_0 400) * 365)))) + (wrap64 (Int.tdiv (Int.tmod a0_0 400) 4)))) - (wrap64 (Int.tdiv (Int.tmod a0_0 400) 100)))) + (wrap64 (Int.tdiv (wrap64 ((wrap64 (153 * (wrap64 (a0_1 - 3)))) + 2)) 5)))) + a0_2)) - 1)) - 719468), 0))) else (some (0, 5))) = some (r1, r2) := H
 have A2 := AX A20
 clear A20
 by_cases c3 : t110 = true
 ·subst c3
  have H1 : (if (wrap64 (a0_1 - 3)) < 0 then (some (wrap64 ((wrap64 ((wrap64 ((wrap64 ((wrap64 ((wrap64 ((wrap64 ((wrap64 ((wrap64 (Int.tdiv (wrap64 (a0_0 - 1)) 400)) * 146097)) + (wrap64 ((Int.tmod (wrap64 (a0_0 - 1)) 400) * 365)))) + (wrap64 (Int.tdiv (Int.tmod (wrap64 (a0_0 - 1)) 400) 4)))) - (wrap64 (Int.tdiv (Int.tmod (wrap64 (a0_0 - 1)) 400) 100)))) + (wrap64 (Int.tdiv (wrap64 ((wrap64 (153 * (wrap64 ((wrap64 (a0_1 - 3)) + 12)))) + 2)) 5)))) + a0_2)) - 1)) - 719468), 0)) else (some (wrap64 ((wrap64 ((wrap64 ((wrap64 ((wrap64 ((wrap64 ((wrap64 ((wrap64 ((wrap64 (Int.tdiv a0_0 400)) * 146097)) + (wrap64 ((Int.tmod a0_0 400) * 365)))) + (wrap64 (Int.tdiv (Int.tmod a0_0 400) 4)))) - (wrap64 (Int.tdiv (Int.tmod a0_0 400) 100)))) + (wrap64 (Int.tdiv (wrap64 ((wrap64 (153 * (wrap64 (a0_1 - 3)))) + 2)) 5)))) + a0_2)) - 1)) - 719468), 0))) = some (r1, r2) := by rw [if_pos rfl] at H; exact H
  clear H
  have H := H1
  clear H1
  by_cases c4 : (wrap64 (a0_1 - 3)) < 0
  ·rw [if_pos c4] at H
   have c4b0 : decide ((wrap64 (a0_1 - 3)) < 0) = true := decide_eq_true c4
   clear c4
   simp only [Option.some.injEq, Prod.mk.injEq] at H
   obtain ⟨rfl, rfl⟩ := H
   go_enter Try.func32, Try.ntmps32
   go_wp2_with (first | ((with_reducible refine gate_dst (N := 1) rfl ?_); refine bx 1 #[.int .i64 a0_0, .int .i64 a0_1, .int .i64 a0_2] 33 ?_; intro gb109 hg w5 hbox hb; have BK109 := AX (hbox); have GW109 := gwl (w := w) hg bw; have GE109 := GW109; replace HB := AX (below_step bw hb); clear hb hbox hg; obtain ⟨hcz6_0, hcz6_1, hcz6_2⟩ := blkC3 (w := w5) BK109.out; obtain ⟨hfz6_0, hfz6_1, hfz6_2⟩ := blkF3 BK109.out) | (go_at_call 49; (with_reducible refine (civil_good.calls a0_0 a0_1 a0_2 true _ A2.out).mono ?_); rintro e w7 ⟨rfl, hb⟩; replace BK109 := AX (bkb BK109 hb); replace HB := AX (below_step bw hb); (try clear hb); obtain ⟨hcz8_0, hcz8_1, hcz8_2⟩ := blkC3 (w := w7) BK109.out; obtain ⟨hfz8_0, hfz8_1, hfz8_2⟩ := blkF3 BK109.out))
   repeat (go_quiet (first | ((with_reducible refine gate_dst (N := 1) rfl ?_); refine bx 1 #[.int .i64 a0_0, .int .i64 a0_1, .int .i64 a0_2] 33 ?_; intro gb109 hg w5 hbox hb; have BK109 := AX (hbox); have GW109 := gwl (w := w) hg bw; have GE109 := GW109; replace HB := AX (below_step bw hb); clear hb hbox hg; obtain ⟨hcz6_0, hcz6_1, hcz6_2⟩ := blkC3 (w := w5) BK109.out; obtain ⟨hfz6_0, hfz6_1, hfz6_2⟩ := blkF3 BK109.out) | (go_at_call 49; (with_reducible refine (civil_good.calls a0_0 a0_1 a0_2 true _ A2.out).mono ?_); rintro e w7 ⟨rfl, hb⟩; replace BK109 := AX (bkb BK109 hb); replace HB := AX (below_step bw hb); (try clear hb); obtain ⟨hcz8_0, hcz8_1, hcz8_2⟩ := blkC3 (w := w7) BK109.out; obtain ⟨hfz8_0, hfz8_1, hfz8_2⟩ := blkF3 BK109.out)); try go_wp2_with (first | ((with_reducible refine gate_dst (N := 1) rfl ?_); refine bx 1 #[.int .i64 a0_0, .int .i64 a0_1, .int .i64 a0_2] 33 ?_; intro gb109 hg w5 hbox hb; have BK109 := AX (hbox); have GW109 := gwl (w := w) hg bw; have GE109 := GW109; replace HB := AX (below_step bw hb); clear hb hbox hg; obtain ⟨hcz6_0, hcz6_1, hcz6_2⟩ := blkC3 (w := w5) BK109.out; obtain ⟨hfz6_0, hfz6_1, hfz6_2⟩ := blkF3 BK109.out) | (go_at_call 49; (with_reducible refine (civil_good.calls a0_0 a0_1 a0_2 true _ A2.out).mono ?_); rintro e w7 ⟨rfl, hb⟩; replace BK109 := AX (bkb BK109 hb); replace HB := AX (below_step bw hb); (try clear hb); obtain ⟨hcz8_0, hcz8_1, hcz8_2⟩ := blkC3 (w := w7) BK109.out; obtain ⟨hfz8_0, hfz8_1, hfz8_2⟩ := blkF3 BK109.out)))
   go_ret2
   exact ⟨by first | rfl | (simp [errW_none, errW_some] <;> rfl) | (simp [*, errW_none, errW_some] <;> rfl), bw⟩
  ·rw [if_neg c4] at H
   have c4b0 : decide ((wrap64 (a0_1 - 3)) < 0) = false := decide_eq_false c4
   clear c4
   simp only [Option.some.injEq, Prod.mk.injEq] at H
   obtain ⟨rfl, rfl⟩ := H
   go_enter Try.func32, Try.ntmps32
   go_wp2_with (first | ((with_reducible refine gate_dst (N := 1) rfl ?_); refine bx 1 #[.int .i64 a0_0, .int .i64 a0_1, .int .i64 a0_2] 33 ?_; intro gb109 hg w9 hbox hb; have BK109 := AX (hbox); have GW109 := gwl (w := w) hg bw; have GE109 := GW109; replace HB := AX (below_step bw hb); clear hb hbox hg; obtain ⟨hcz10_0, hcz10_1, hcz10_2⟩ := blkC3 (w := w9) BK109.out; obtain ⟨hfz10_0, hfz10_1, hfz10_2⟩ := blkF3 BK109.out) | (go_at_call 49; (with_reducible refine (civil_good.calls a0_0 a0_1 a0_2 true _ A2.out).mono ?_); rintro e w11 ⟨rfl, hb⟩; replace BK109 := AX (bkb BK109 hb); replace HB := AX (below_step bw hb); (try clear hb); obtain ⟨hcz12_0, hcz12_1, hcz12_2⟩ := blkC3 (w := w11) BK109.out; obtain ⟨hfz12_0, hfz12_1, hfz12_2⟩ := blkF3 BK109.out))
   repeat (go_quiet (first | ((with_reducible refine gate_dst (N := 1) rfl ?_); refine bx 1 #[.int .i64 a0_0, .int .i64 a0_1, .int .i64 a0_2] 33 ?_; intro gb109 hg w9 hbox hb; have BK109 := AX (hbox); have GW109 := gwl (w := w) hg bw; have GE109 := GW109; replace HB := AX (below_step bw hb); clear hb hbox hg; obtain ⟨hcz10_0, hcz10_1, hcz10_2⟩ := blkC3 (w := w9) BK109.out; obtain ⟨hfz10_0, hfz10_1, hfz10_2⟩ := blkF3 BK109.out) | (go_at_call 49; (with_reducible refine (civil_good.calls a0_0 a0_1 a0_2 true _ A2.out).mono ?_); rintro e w11 ⟨rfl, hb⟩; replace BK109 := AX (bkb BK109 hb); replace HB := AX (below_step bw hb); (try clear hb); obtain ⟨hcz12_0, hcz12_1, hcz12_2⟩ := blkC3 (w := w11) BK109.out; obtain ⟨hfz12_0, hfz12_1, hfz12_2⟩ := blkF3 BK109.out)); try go_wp2_with (first | ((with_reducible refine gate_dst (N := 1) rfl ?_); refine bx 1 #[.int .i64 a0_0, .int .i64 a0_1, .int .i64 a0_2] 33 ?_; intro gb109 hg w9 hbox hb; have BK109 := AX (hbox); have GW109 := gwl (w := w) hg bw; have GE109 := GW109; replace HB := AX (below_step bw hb); clear hb hbox hg; obtain ⟨hcz10_0, hcz10_1, hcz10_2⟩ := blkC3 (w := w9) BK109.out; obtain ⟨hfz10_0, hfz10_1, hfz10_2⟩ := blkF3 BK109.out) | (go_at_call 49; (with_reducible refine (civil_good.calls a0_0 a0_1 a0_2 true _ A2.out).mono ?_); rintro e w11 ⟨rfl, hb⟩; replace BK109 := AX (bkb BK109 hb); replace HB := AX (below_step bw hb); (try clear hb); obtain ⟨hcz12_0, hcz12_1, hcz12_2⟩ := blkC3 (w := w11) BK109.out; obtain ⟨hfz12_0, hfz12_1, hfz12_2⟩ := blkF3 BK109.out)))
   go_ret2
   exact ⟨by first | rfl | (simp [errW_none, errW_some] <;> rfl) | (simp [*, errW_none, errW_some] <;> rfl), bw⟩
 ·replace c3 := Bool.eq_false_iff.mpr c3
  subst c3
  have H1 : (some (0, 5)) = some (r1, r2) := by rw [if_neg (show ¬ (false = true) by decide)] at H; exact H
  clear H
  have H := H1
  clear H1
  simp only [Option.some.injEq, Prod.mk.injEq] at H
  obtain ⟨rfl, rfl⟩ := H
  go_enter Try.func32, Try.ntmps32
  go_wp2_with (first | ((with_reducible refine gate_dst (N := 1) rfl ?_); refine bx 1 #[.int .i64 a0_0, .int .i64 a0_1, .int .i64 a0_2] 33 ?_; intro gb109 hg w13 hbox hb; have BK109 := AX (hbox); have GW109 := gwl (w := w) hg bw; have GE109 := GW109; replace HB := AX (below_step bw hb); clear hb hbox hg; obtain ⟨hcz14_0, hcz14_1, hcz14_2⟩ := blkC3 (w := w13) BK109.out; obtain ⟨hfz14_0, hfz14_1, hfz14_2⟩ := blkF3 BK109.out) | (go_at_call 49; (with_reducible refine (civil_good.calls a0_0 a0_1 a0_2 false _ A2.out).mono ?_); rintro e w15 ⟨rfl, hb⟩; replace BK109 := AX (bkb BK109 hb); replace HB := AX (below_step bw hb); (try clear hb)))
  repeat (go_quiet (first | ((with_reducible refine gate_dst (N := 1) rfl ?_); refine bx 1 #[.int .i64 a0_0, .int .i64 a0_1, .int .i64 a0_2] 33 ?_; intro gb109 hg w13 hbox hb; have BK109 := AX (hbox); have GW109 := gwl (w := w) hg bw; have GE109 := GW109; replace HB := AX (below_step bw hb); clear hb hbox hg; obtain ⟨hcz14_0, hcz14_1, hcz14_2⟩ := blkC3 (w := w13) BK109.out; obtain ⟨hfz14_0, hfz14_1, hfz14_2⟩ := blkF3 BK109.out) | (go_at_call 49; (with_reducible refine (civil_good.calls a0_0 a0_1 a0_2 false _ A2.out).mono ?_); rintro e w15 ⟨rfl, hb⟩; replace BK109 := AX (bkb BK109 hb); replace HB := AX (below_step bw hb); (try clear hb))); try go_wp2_with (first | ((with_reducible refine gate_dst (N := 1) rfl ?_); refine bx 1 #[.int .i64 a0_0, .int .i64 a0_1, .int .i64 a0_2] 33 ?_; intro gb109 hg w13 hbox hb; have BK109 := AX (hbox); have GW109 := gwl (w := w) hg bw; have GE109 := GW109; replace HB := AX (below_step bw hb); clear hb hbox hg; obtain ⟨hcz14_0, hcz14_1, hcz14_2⟩ := blkC3 (w := w13) BK109.out; obtain ⟨hfz14_0, hfz14_1, hfz14_2⟩ := blkF3 BK109.out) | (go_at_call 49; (with_reducible refine (civil_good.calls a0_0 a0_1 a0_2 false _ A2.out).mono ?_); rintro e w15 ⟨rfl, hb⟩; replace BK109 := AX (bkb BK109 hb); replace HB := AX (below_step bw hb); (try clear hb))))
  go_ret2
  exact ⟨by first | rfl | (simp [errW_none, errW_some] <;> rfl) | (simp [*, errW_none, errW_some] <;> rfl), bw⟩

/-! ### civil_Weekday: function 43 -/
def civil_Weekday.f (a0_0 : Int) (a0_1 : Int) (a0_2 : Int) : Option (Int × Int) := (civil_Days.f a0_0 a0_1 a0_2).bind fun bt112 => (if bt112.2 = 0 then (some (Int.tmod (wrap64 ((Int.tmod (wrap64 (bt112.1 + 3)) 7) + 7)) 7, 0)) else (some (0, bt112.2)))
set_option maxHeartbeats 8000000 in
set_option maxRecDepth 100000 in
theorem civil_Weekday.calls (a0_0 : Int) (a0_1 : Int) (a0_2 : Int) (r1 : Int) (r2 : Int) (w : World) (h : civil_Weekday.f a0_0 a0_1 a0_2 = some (r1, r2)) :
  Calls Try.prog 43 #[.agg #[.int .i64 a0_0, .int .i64 a0_1, .int .i64 a0_2]] w fun e w' => e = .returned (.tuple #[.int .i64 r1, .int .i64 r2]) ∧ Below w.heap.size w w' := by
 have hu33 := Try.underlying33
 have HB := AX (Below.refl w.heap.size w)
 have H : ((civil_Days.f a0_0 a0_1 a0_2).bind fun bt112 => (if bt112.2 = 0 then (some (Int.tmod (wrap64 ((Int.tmod (wrap64 (bt112.1 + 3)) 7) + 7)) 7, 0)) else (some (0, bt112.2)))) = some (r1, r2) := h
 clear h
 replace H := Option.bind_eq_some_iff.mp H
 obtain ⟨⟨t112, t113⟩, A20, H⟩ := H
 replace H : (if t113 = 0 then (some (Int.tmod (wrap64 ((Int.tmod (wrap64 (t112 + 3)) 7) + 7)) 7, 0)) else (some (0, t113))) = some (r1, r2) := H
 have A2 := AX A20
 clear A20
 by_cases c3 : t113 = 0
 ·rw [if_pos c3] at H
  have c3b0 : (t113 == 0) = true := beq_iff_eq.mpr c3
  have c3b1 : (t113 != 0) = false := bne_eq_false_iff_eq.mpr c3
  clear c3
  simp only [Option.some.injEq, Prod.mk.injEq] at H
  obtain ⟨rfl, rfl⟩ := H
  go_enter Try.func43, Try.ntmps43
  go_wp2_with (first | ((with_reducible refine gate_dst (N := 1) rfl ?_); refine bx 1 #[.int .i64 a0_0, .int .i64 a0_1, .int .i64 a0_2] 33 ?_; intro gb111 hg w4 hbox hb; have BK111 := AX (hbox); have GW111 := gwl (w := w) hg bw; have GE111 := GW111; replace HB := AX (below_step bw hb); clear hb hbox hg; obtain ⟨hcz5_0, hcz5_1, hcz5_2⟩ := blkC3 (w := w4) BK111.out; obtain ⟨hfz5_0, hfz5_1, hfz5_2⟩ := blkF3 BK111.out) | ((with_reducible refine gate_callee (f := 32) rfl ?_); refine gL (some 8) Try.func32 #[.agg #[.int .i64 a0_0, .int .i64 a0_1, .int .i64 a0_2]] ?_; (with_reducible refine (civil_Days.calls a0_0 a0_1 a0_2 t112 t113 _ A2.out).mono ?_); rintro e w6 ⟨rfl, hb⟩; refine ⟨_, rfl, ?_⟩; replace BK111 := AX (bkb BK111 hb); replace HB := AX (below_step bw hb); (try clear hb)))
  go_ret2
  exact ⟨by first | rfl | (simp [errW_none, errW_some] <;> rfl) | (simp [*, errW_none, errW_some] <;> rfl), bw⟩
 ·rw [if_neg c3] at H
  have c3b0 : (t113 == 0) = false := beq_eq_false_iff_ne.mpr c3
  have c3b1 : (t113 != 0) = true := bne_iff_ne.mpr c3
  simp only [Option.some.injEq, Prod.mk.injEq] at H
  obtain ⟨rfl, rfl⟩ := H
  go_enter Try.func43, Try.ntmps43
  go_wp2_with (first | ((with_reducible refine gate_dst (N := 1) rfl ?_); refine bx 1 #[.int .i64 a0_0, .int .i64 a0_1, .int .i64 a0_2] 33 ?_; intro gb111 hg w7 hbox hb; have BK111 := AX (hbox); have GW111 := gwl (w := w) hg bw; have GE111 := GW111; replace HB := AX (below_step bw hb); clear hb hbox hg; obtain ⟨hcz8_0, hcz8_1, hcz8_2⟩ := blkC3 (w := w7) BK111.out; obtain ⟨hfz8_0, hfz8_1, hfz8_2⟩ := blkF3 BK111.out) | ((with_reducible refine gate_callee (f := 32) rfl ?_); refine gL (some 8) Try.func32 #[.agg #[.int .i64 a0_0, .int .i64 a0_1, .int .i64 a0_2]] ?_; (with_reducible refine (civil_Days.calls a0_0 a0_1 a0_2 t112 t113 _ A2.out).mono ?_); rintro e w9 ⟨rfl, hb⟩; refine ⟨_, rfl, ?_⟩; replace BK111 := AX (bkb BK111 hb); replace HB := AX (below_step bw hb); (try clear hb)))
  go_ret2
  exact ⟨by first | rfl | (simp [errW_none, errW_some] <;> rfl) | (simp [*, errW_none, errW_some] <;> rfl), bw⟩

/-! ### civil_Nth: function 26 -/
def civil_Nth.j0 : Nat → Int → Int → Int → Int → Int → Bool → Option (Int × Int × Int × Int)
 | 0, _, _, _, _, _, _ => none
 | k + 1, x0, x1, x2, x3, x10, x38 => if x38 = true then (some (0, 0, 0, 8)) else ((civil_Weekday.f x0 x1 1).bind fun bt117 => (if (wrap64 ((wrap64 (1 + (Int.tmod (wrap64 ((wrap64 (x3 - bt117.1)) + 7)) 7))) + (wrap64 (7 * (wrap64 (x2 - 1)))))) > x10 then (some (x0, x1, wrap64 ((wrap64 ((wrap64 (1 + (Int.tmod (wrap64 ((wrap64 (x3 - bt117.1)) + 7)) 7))) + (wrap64 (7 * (wrap64 (x2 - 1)))))) - 7), 0)) else (some (x0, x1, wrap64 ((wrap64 (1 + (Int.tmod (wrap64 ((wrap64 (x3 - bt117.1)) + 7)) 7))) + (wrap64 (7 * (wrap64 (x2 - 1))))), 0))))
def civil_Nth.f (k : Nat) (a0 : Int) (a1 : Int) (a2 : Int) (a3 : Int) : Option (Int × Int × Int × Int) := (civil_Length.f a0 a1).bind fun bt115 => (if bt115.2 = 0 then (if a2 < 1 then (civil_Nth.j0 k a0 a1 a2 a3 bt115.1 true) else (if a2 > 5 then (civil_Nth.j0 k a0 a1 a2 a3 bt115.1 true) else (if a3 < 0 then (civil_Nth.j0 k a0 a1 a2 a3 bt115.1 true) else (civil_Nth.j0 k a0 a1 a2 a3 bt115.1 (decide (a3 > 6)))))) else (some (0, 0, 0, bt115.2)))
theorem civil_Nth.mono_l : ∀ k, (∀ y0 y1 y2 y3 y4 y5, LeO (civil_Nth.j0 k y0 y1 y2 y3 y4 y5) (civil_Nth.j0 (k + 1) y0 y1 y2 y3 y4 y5))
 | 0 => fun _ _ _ _ _ _ r h => by simp [civil_Nth.j0] at h
 | k + 1 => by
  have ih0 := civil_Nth.mono_l k
  ·intro y0 y1 y2 y3 y4 y5
   unfold civil_Nth.j0
   repeat' first
   | (with_reducible exact ih0 _ _ _ _ _ _)
   | (with_reducible exact LeO.refl _)
   | (with_reducible exact LeO.none _)
   | (with_reducible refine LeO.ite ?_ ?_)
   | (with_reducible refine LeO.bind ?_ (fun _ => ?_))
theorem civil_Nth.mono : ∀ a0 a1 a2 a3 k, LeO (civil_Nth.f k a0 a1 a2 a3) (civil_Nth.f (k + 1) a0 a1 a2 a3) := by
 intro a0 a1 a2 a3 k
 have ih0 := civil_Nth.mono_l k
 unfold civil_Nth.f
 repeat' first
   | (with_reducible exact ih0 _ _ _ _ _ _)
   | (with_reducible exact LeO.refl _)
   | (with_reducible exact LeO.none _)
   | (with_reducible refine LeO.ite ?_ ?_)
   | (with_reducible refine LeO.bind ?_ (fun _ => ?_))
set_option maxHeartbeats 8000000 in
set_option maxRecDepth 100000 in
theorem civil_Nth.calls (k : Nat) (a0 : Int) (a1 : Int) (a2 : Int) (a3 : Int) (r1 : Int) (r2 : Int) (r3 : Int) (r4 : Int) (w : World) (h : civil_Nth.f k a0 a1 a2 a3 = some (r1, r2, r3, r4)) :
  Calls Try.prog 26 #[.int .i64 a0, .int .i64 a1, .int .i64 a2, .int .i64 a3] w fun e w' => e = .returned (.tuple #[.agg #[.int .i64 r1, .int .i64 r2, .int .i64 r3], .int .i64 r4]) ∧ Below w.heap.size w w' := by
 have hu33 := Try.underlying33
 have HB := AX (Below.refl w.heap.size w)
 have H : ((civil_Length.f a0 a1).bind fun bt115 => (if bt115.2 = 0 then (if a2 < 1 then (civil_Nth.j0 k a0 a1 a2 a3 bt115.1 true) else (if a2 > 5 then (civil_Nth.j0 k a0 a1 a2 a3 bt115.1 true) else (if a3 < 0 then (civil_Nth.j0 k a0 a1 a2 a3 bt115.1 true) else (civil_Nth.j0 k a0 a1 a2 a3 bt115.1 (decide (a3 > 6)))))) else (some (0, 0, 0, bt115.2)))) = some (r1, r2, r3, r4) := h
 clear h
 replace H := Option.bind_eq_some_iff.mp H
 obtain ⟨⟨t115, t116⟩, A50, H⟩ := H
 replace H : (if t116 = 0 then (if a2 < 1 then (civil_Nth.j0 k a0 a1 a2 a3 t115 true) else (if a2 > 5 then (civil_Nth.j0 k a0 a1 a2 a3 t115 true) else (if a3 < 0 then (civil_Nth.j0 k a0 a1 a2 a3 t115 true) else (civil_Nth.j0 k a0 a1 a2 a3 t115 (decide (a3 > 6)))))) else (some (0, 0, 0, t116))) = some (r1, r2, r3, r4) := H
 have A5 := AX A50
 clear A50
 by_cases c6 : t116 = 0
 ·rw [if_pos c6] at H
  have c6b0 : (t116 == 0) = true := beq_iff_eq.mpr c6
  have c6b1 : (t116 != 0) = false := bne_eq_false_iff_eq.mpr c6
  clear c6
  have HC7 := AX H
  clear H
  go_enter Try.func26, Try.ntmps26
  go_upto_region 4 with (first | ((with_reducible refine gate_dst (N := 8) rfl ?_); refine bx 8 #[.int .i64 0, .int .i64 0, .int .i64 0] 33 ?_; intro gb114 hg w8 hbox hb; have BK114 := AX (hbox); have GW114 := gwl (w := w) hg bw; have GE114 := GW114; replace HB := AX (below_step bw hb); clear hb hbox hg) | ((with_reducible refine gate_callee (f := 25) rfl ?_); refine gL (some 18) Try.func25 #[.int .i64 a0, .int .i64 a1] ?_; (with_reducible refine (civil_Length.calls a0 a1 t115 t116 _ A5.out).mono ?_); rintro e w9 ⟨rfl, hb⟩; refine ⟨_, rfl, ?_⟩; replace BK114 := AX (bkb BK114 hb); replace HB := AX (below_step bw hb); (try clear hb)))
  (try simp only [Act.put, List.setIfInBounds_toArray, List.set_cons_zero, List.set_cons_succ])
  go_cut [38] (fun v38 wc => ∃ (kq : Nat) (x38_6 : Bool), v38 = .bool x38_6 ∧ Aside0 (civil_Nth.j0 kq a0 a1 a2 a3 t115 x38_6 = some (r1, r2, r3, r4)) ∧ Aside0 (kq ≤ k) ∧ Aside0 (wc.heap[gb114]? = some (.cells #[.int .i64 0, .int .i64 0, .int .i64 0] 33 (0, 0))) ∧ Aside0 (Below w.heap.size w wc))
  case first =>
   have H := HC7.out
   clear HC7
   by_cases c10 : a2 < 1
   ·rw [if_pos c10] at H
    have c10b0 : decide (a2 < 1) = true := decide_eq_true c10
    clear c10
    (first | rw [c10b0] | (simp only [i64_w, i32_w]; rw [c10b0]) | skip)
    have H' := AX H
    clear H
    go_wp2
    go_meet
    case rel => exact ⟨_, (true), (by first | rfl | (simp; done) | (simp [*]; done)), H', ⟨by first | omega | exact Nat.le_refl _⟩, ⟨bkn BK114⟩, ⟨bw⟩⟩
   ·rw [if_neg c10] at H
    have c10b0 : decide (a2 < 1) = false := decide_eq_false c10
    clear c10
    (first | rw [c10b0] | (simp only [i64_w, i32_w]; rw [c10b0]) | skip)
    by_cases c11 : a2 > 5
    ·rw [if_pos c11] at H
     have c11b0 : decide (5 < a2) = true := decide_eq_true c11
     clear c11
     have H' := AX H
     clear H
     go_wp2
     go_meet
     case rel => exact ⟨_, (true), (by first | rfl | (simp; done) | (simp [*]; done)), H', ⟨by first | omega | exact Nat.le_refl _⟩, ⟨bkn BK114⟩, ⟨bw⟩⟩
    ·rw [if_neg c11] at H
     have c11b0 : decide (5 < a2) = false := decide_eq_false c11
     clear c11
     by_cases c12 : a3 < 0
     ·rw [if_pos c12] at H
      have c12b0 : decide (a3 < 0) = true := decide_eq_true c12
      clear c12
      have H' := AX H
      clear H
      go_wp2
      go_meet
      case rel => exact ⟨_, (true), (by first | rfl | (simp; done) | (simp [*]; done)), H', ⟨by first | omega | exact Nat.le_refl _⟩, ⟨bkn BK114⟩, ⟨bw⟩⟩
     ·rw [if_neg c12] at H
      have c12b0 : decide (a3 < 0) = false := decide_eq_false c12
      clear c12
      have H' := AX H
      clear H
      go_wp2
      go_meet
      case rel => exact ⟨_, (decide (a3 > 6)), (by first | rfl | (simp; done) | (simp [*]; done)), H', ⟨by first | omega | exact Nat.le_refl _⟩, ⟨bkn BK114⟩, ⟨bw⟩⟩
  case rest =>
   clear HC7
   try clear c6b0 c6b1
   obtain ⟨kq, x38_6, rfl, HA, HJ6, BK114, HB⟩ := hcut
   cases kq with
   | zero => exact absurd HA.out (by simp [civil_Nth.j0])
   | succ kj6 =>
    have H := HA.out
    clear HA
    simp only [civil_Nth.j0] at H
    by_cases c13 : x38_6 = true
    ·subst c13
     have H1 : (some (0, 0, 0, 8)) = some (r1, r2, r3, r4) := by rw [if_pos rfl] at H; exact H
     clear H
     have H := H1
     clear H1
     simp only [Option.some.injEq, Prod.mk.injEq] at H
     obtain ⟨rfl, rfl, rfl, rfl⟩ := H
     obtain ⟨hcz14_0, hcz14_1, hcz14_2⟩ := blkC3 (w := wc) BK114.out
     obtain ⟨hfz14_0, hfz14_1, hfz14_2⟩ := blkF3 BK114.out
     go_wp2
     refine bodyPost_ret (results_ct rfl _ _ gb114 33 #[.int .i64 0, .int .i64 0, .int .i64 0] (0, 0) _ rfl (by (with_reducible repeat first|refine blk_drewN ?_ _|refine blk_drew ?_|refine blk_alloc ?_ _); refine blk_put (cs := #[.int .i64 0, .int .i64 0, .int .i64 0]) ?_ 2 _ rfl; (with_reducible repeat first|refine blk_drewN ?_ _|refine blk_drew ?_|refine blk_alloc ?_ _); refine blk_put (cs := #[.int .i64 0, .int .i64 0, .int .i64 0]) ?_ 1 _ rfl; (with_reducible repeat first|refine blk_drewN ?_ _|refine blk_drew ?_|refine blk_alloc ?_ _); refine blk_put (cs := #[.int .i64 0, .int .i64 0, .int .i64 0]) ?_ 0 _ rfl; (with_reducible repeat first|refine blk_drewN ?_ _|refine blk_drew ?_|refine blk_alloc ?_ _); exact BK114.out) Try.underlying33 rfl (by kernel_rfl)) rfl ?_
     exact ⟨by first | rfl | (simp [errW_none, errW_some] <;> rfl) | (simp [*, errW_none, errW_some] <;> rfl), bw⟩
    ·replace c13 := Bool.eq_false_iff.mpr c13
     subst c13
     have H1 : ((civil_Weekday.f a0 a1 1).bind fun bt117 => (if (wrap64 ((wrap64 (1 + (Int.tmod (wrap64 ((wrap64 (a3 - bt117.1)) + 7)) 7))) + (wrap64 (7 * (wrap64 (a2 - 1)))))) > t115 then (some (a0, a1, wrap64 ((wrap64 ((wrap64 (1 + (Int.tmod (wrap64 ((wrap64 (a3 - bt117.1)) + 7)) 7))) + (wrap64 (7 * (wrap64 (a2 - 1)))))) - 7), 0)) else (some (a0, a1, wrap64 ((wrap64 (1 + (Int.tmod (wrap64 ((wrap64 (a3 - bt117.1)) + 7)) 7))) + (wrap64 (7 * (wrap64 (a2 - 1))))), 0)))) = some (r1, r2, r3, r4) := by rw [if_neg (show ¬ (false = true) by decide)] at H; exact H
     clear H
     have H := H1
     clear H1
     replace H := Option.bind_eq_some_iff.mp H
     obtain ⟨⟨t117, t118⟩, A150, H⟩ := H
     replace H : (if (wrap64 ((wrap64 (1 + (Int.tmod (wrap64 ((wrap64 (a3 - t117)) + 7)) 7))) + (wrap64 (7 * (wrap64 (a2 - 1)))))) > t115 then (some (a0, a1, wrap64 ((wrap64 ((wrap64 (1 + (Int.tmod (wrap64 ((wrap64 (a3 - t117)) + 7)) 7))) + (wrap64 (7 * (wrap64 (a2 - 1)))))) - 7), 0)) else (some (a0, a1, wrap64 ((wrap64 (1 + (Int.tmod (wrap64 ((wrap64 (a3 - t117)) + 7)) 7))) + (wrap64 (7 * (wrap64 (a2 - 1))))), 0))) = some (r1, r2, r3, r4) := H
     have A15 := AX A150
     clear A150
     by_cases c16 : (wrap64 ((wrap64 (1 + (Int.tmod (wrap64 ((wrap64 (a3 - t117)) + 7)) 7))) + (wrap64 (7 * (wrap64 (a2 - 1)))))) > t115
     ·rw [if_pos c16] at H
      have c16b0 : decide (t115 < (wrap64 ((wrap64 (1 + (Int.tmod (wrap64 ((wrap64 (a3 - t117)) + 7)) 7))) + (wrap64 (7 * (wrap64 (a2 - 1))))))) = true := decide_eq_true c16
      clear c16
      simp only [Option.some.injEq, Prod.mk.injEq] at H
      obtain ⟨rfl, rfl, rfl, rfl⟩ := H
      go_wp2_with (first | ((with_reducible refine gate_callee (f := 43) rfl ?_); refine gL (some 44) Try.func43 #[.agg #[.int .i64 a0, .int .i64 a1, .int .i64 1]] ?_; (with_reducible refine (civil_Weekday.calls a0 a1 1 t117 t118 _ A15.out).mono ?_); rintro e w17 ⟨rfl, hb⟩; refine ⟨_, rfl, ?_⟩; replace BK114 := AX (bkb BK114 hb); replace HB := AX (below_step bw hb); (try clear hb); obtain ⟨hcz18_0, hcz18_1, hcz18_2⟩ := blkC3 (w := w17) BK114.out; obtain ⟨hfz18_0, hfz18_1, hfz18_2⟩ := blkF3 BK114.out))
      refine bodyPost_ret (results_ct rfl _ _ gb114 33 #[.int .i64 a0, .int .i64 a1, .int .i64 (wrap64 ((wrap64 ((wrap64 (1 + (Int.tmod (wrap64 ((wrap64 (a3 - t117)) + 7)) 7))) + (wrap64 (7 * (wrap64 (a2 - 1)))))) - 7))] (0, 0) _ rfl (by (with_reducible repeat first|refine blk_drewN ?_ _|refine blk_drew ?_|refine blk_alloc ?_ _); refine blk_put (cs := #[.int .i64 a0, .int .i64 a1, .int .i64 0]) ?_ 2 _ rfl; (with_reducible repeat first|refine blk_drewN ?_ _|refine blk_drew ?_|refine blk_alloc ?_ _); refine blk_put (cs := #[.int .i64 a0, .int .i64 0, .int .i64 0]) ?_ 1 _ rfl; (with_reducible repeat first|refine blk_drewN ?_ _|refine blk_drew ?_|refine blk_alloc ?_ _); refine blk_put (cs := #[.int .i64 0, .int .i64 0, .int .i64 0]) ?_ 0 _ rfl; (with_reducible repeat first|refine blk_drewN ?_ _|refine blk_drew ?_|refine blk_alloc ?_ _); exact BK114.out) Try.underlying33 rfl (by kernel_rfl)) rfl ?_
      exact ⟨by first | rfl | (simp [errW_none, errW_some] <;> rfl) | (simp [*, errW_none, errW_some] <;> rfl), bw⟩
     ·rw [if_neg c16] at H
      have c16b0 : decide (t115 < (wrap64 ((wrap64 (1 + (Int.tmod (wrap64 ((wrap64 (a3 - t117)) + 7)) 7))) + (wrap64 (7 * (wrap64 (a2 - 1))))))) = false := decide_eq_false c16
      clear c16
      simp only [Option.some.injEq, Prod.mk.injEq] at H
      obtain ⟨rfl, rfl, rfl, rfl⟩ := H
      go_wp2_with (first | ((with_reducible refine gate_callee (f := 43) rfl ?_); refine gL (some 44) Try.func43 #[.agg #[.int .i64 a0, .int .i64 a1, .int .i64 1]] ?_; (with_reducible refine (civil_Weekday.calls a0 a1 1 t117 t118 _ A15.out).mono ?_); rintro e w19 ⟨rfl, hb⟩; refine ⟨_, rfl, ?_⟩; replace BK114 := AX (bkb BK114 hb); replace HB := AX (below_step bw hb); (try clear hb); obtain ⟨hcz20_0, hcz20_1, hcz20_2⟩ := blkC3 (w := w19) BK114.out; obtain ⟨hfz20_0, hfz20_1, hfz20_2⟩ := blkF3 BK114.out))
      refine bodyPost_ret (results_ct rfl _ _ gb114 33 #[.int .i64 a0, .int .i64 a1, .int .i64 (wrap64 ((wrap64 (1 + (Int.tmod (wrap64 ((wrap64 (a3 - t117)) + 7)) 7))) + (wrap64 (7 * (wrap64 (a2 - 1))))))] (0, 0) _ rfl (by (with_reducible repeat first|refine blk_drewN ?_ _|refine blk_drew ?_|refine blk_alloc ?_ _); refine blk_put (cs := #[.int .i64 a0, .int .i64 a1, .int .i64 0]) ?_ 2 _ rfl; (with_reducible repeat first|refine blk_drewN ?_ _|refine blk_drew ?_|refine blk_alloc ?_ _); refine blk_put (cs := #[.int .i64 a0, .int .i64 0, .int .i64 0]) ?_ 1 _ rfl; (with_reducible repeat first|refine blk_drewN ?_ _|refine blk_drew ?_|refine blk_alloc ?_ _); refine blk_put (cs := #[.int .i64 0, .int .i64 0, .int .i64 0]) ?_ 0 _ rfl; (with_reducible repeat first|refine blk_drewN ?_ _|refine blk_drew ?_|refine blk_alloc ?_ _); exact BK114.out) Try.underlying33 rfl (by kernel_rfl)) rfl ?_
      exact ⟨by first | rfl | (simp [errW_none, errW_some] <;> rfl) | (simp [*, errW_none, errW_some] <;> rfl), bw⟩
 ·rw [if_neg c6] at H
  have c6b0 : (t116 == 0) = false := beq_eq_false_iff_ne.mpr c6
  have c6b1 : (t116 != 0) = true := bne_iff_ne.mpr c6
  simp only [Option.some.injEq, Prod.mk.injEq] at H
  obtain ⟨rfl, rfl, rfl, rfl⟩ := H
  go_enter Try.func26, Try.ntmps26
  go_wp2_with (first | ((with_reducible refine gate_dst (N := 8) rfl ?_); refine bx 8 #[.int .i64 0, .int .i64 0, .int .i64 0] 33 ?_; intro gb114 hg w21 hbox hb; have BK114 := AX (hbox); have GW114 := gwl (w := w) hg bw; have GE114 := GW114; replace HB := AX (below_step bw hb); clear hb hbox hg) | ((with_reducible refine gate_callee (f := 25) rfl ?_); refine gL (some 18) Try.func25 #[.int .i64 a0, .int .i64 a1] ?_; (with_reducible refine (civil_Length.calls a0 a1 t115 t116 _ A5.out).mono ?_); rintro e w22 ⟨rfl, hb⟩; refine ⟨_, rfl, ?_⟩; replace BK114 := AX (bkb BK114 hb); replace HB := AX (below_step bw hb); (try clear hb); obtain ⟨hcz23_0, hcz23_1, hcz23_2⟩ := blkC3 (w := w22) BK114.out; obtain ⟨hfz23_0, hfz23_1, hfz23_2⟩ := blkF3 BK114.out))
  refine bodyPost_ret (results_ct rfl _ _ gb114 33 #[.int .i64 0, .int .i64 0, .int .i64 0] (0, 0) _ rfl (by (with_reducible repeat first|refine blk_drewN ?_ _|refine blk_drew ?_|refine blk_alloc ?_ _); refine blk_put (cs := #[.int .i64 0, .int .i64 0, .int .i64 0]) ?_ 2 _ rfl; (with_reducible repeat first|refine blk_drewN ?_ _|refine blk_drew ?_|refine blk_alloc ?_ _); refine blk_put (cs := #[.int .i64 0, .int .i64 0, .int .i64 0]) ?_ 1 _ rfl; (with_reducible repeat first|refine blk_drewN ?_ _|refine blk_drew ?_|refine blk_alloc ?_ _); refine blk_put (cs := #[.int .i64 0, .int .i64 0, .int .i64 0]) ?_ 0 _ rfl; (with_reducible repeat first|refine blk_drewN ?_ _|refine blk_drew ?_|refine blk_alloc ?_ _); exact BK114.out) Try.underlying33 rfl (by kernel_rfl)) rfl ?_
  exact ⟨by first | rfl | (simp [errW_none, errW_some] <;> rfl) | (simp [*, errW_none, errW_some] <;> rfl), bw⟩

end Go.Proofs.Ytegedhnbmclbkaa.PX
