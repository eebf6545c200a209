/- Functions of the program as plain Lean functions, each with a proof that the call in the machine answers just what the plain function says; condition: the plain function answers at all. -/
import Derived.Test.YtpogcehbciacdaaPXx0
import Derived.Test.YtpogcehbciacdaaPXx1
import Derived.Test.YtpogcehbciacdaaPXx3
import Derived.Test.YtpogcehbciacdaaPXx4
namespace Go.Proofs.Ytpogcehbciacdaa.PX
open Go.RowKit Go.Proofs.YtpogcehbciacdaaW.PrintWords Go.Proofs.YtpogcehbciacdaaW.PrintLast Go.Proofs.YtpogcehbciacdaaW.PrintMore
attribute [local go_sem] max2_int min2_int max_two min_two max_three min_three max_four min_four   -- for this text's walks alone
set_option linter.unusedVariables false
set_option linter.unusedSimpArgs false

attribute [local go_sem high] eqA32
/-! ### pylonlaw19_BankOldest: function 3 -/
mutual
def pylonlaw19_BankOldest.j0 : Nat → List (S32) → List (S32) → Bool → Option (Bool)
 | 0, _, _, _ => none
 | k + 1, x0, x7, x114 => if x114 = true then (some false) else (pylonlaw19_BankOldest.l0 k x0 x7 1)
def pylonlaw19_BankOldest.l0 : Nat → List (S32) → List (S32) → Int → Option (Bool)
 | 0, _, _, _ => none
 | k + 1, x0, x7, x16 => if x16 < (x7.length : Int) then (if 0 ≤ x16 then (if 0 ≤ (wrap64 ((wrap64 ((x0.length : Int) - (x7.length : Int))) + x16)) then (if (wrap64 ((wrap64 ((x0.length : Int) - (x7.length : Int))) + x16)) < (x0.length : Int) then (if (!(((rd_T32 x7 x16).f0) == ((rd_T32 x0 (wrap64 ((wrap64 ((x0.length : Int) - (x7.length : Int))) + x16))).f0)) || (!(((rd_T32 x7 x16).f1) == ((rd_T32 x0 (wrap64 ((wrap64 ((x0.length : Int) - (x7.length : Int))) + x16))).f1)))) = true then (some false) else (pylonlaw19_BankOldest.l0 k x0 x7 (wrap64 (x16 + 1)))) else (none)) else (none)) else (none)) else (if (x7.length : Int) = 0 then (some true) else (if 0 < (x7.length : Int) then (if 0 ≤ (wrap64 ((x0.length : Int) - (x7.length : Int))) then (if (wrap64 ((x0.length : Int) - (x7.length : Int))) < (x0.length : Int) then (if ((rd_T32 x7 0).f1) = ((rd_T32 x0 (wrap64 ((x0.length : Int) - (x7.length : Int)))).f1) then (if ((rd_T32 x7 0).f0) ≥ 1 then (some (decide (((rd_T32 x7 0).f0) ≤ ((rd_T32 x0 (wrap64 ((x0.length : Int) - (x7.length : Int)))).f0)))) else (some false)) else (some false)) else (none)) else (none)) else (none)))
end
def pylonlaw19_BankOldest.f (k : Nat) (l0 : List (S32)) (a1 : Int) (a2 : Int) : Option (Bool) := (pylonlaw19_awake.f k).bind fun t146 => (if t146 = true then ((pylonlaw19_copyLots.f l0).bind fun t147 => ((bank_Take.f k t147 (wrap64 (Int.tmod (IntKind.u64.wrap (a1)) 1000000000000000))).bind fun bt150 => ((pylonref19_Check.f k l0).bind fun t155 => (if t155 = 0 then ((pylonlaw19_copyLots.f bt150.1).bind fun t156 => ((bank_Take.f k t156 (wrap64 (Int.tmod (IntKind.u64.wrap (a2)) 1000000000000000))).bind fun bt159 => ((pylonlaw19_copyLots.f l0).bind fun t164 => ((bank_Take.f k t164 (wrap64 ((wrap64 (Int.tmod (IntKind.u64.wrap (a1)) 1000000000000000)) + (wrap64 (Int.tmod (IntKind.u64.wrap (a2)) 1000000000000000))))).bind fun bt167 => (if bt150.2.2 = 0 then (if bt159.2.2 = 0 then (if bt167.2.2 = 0 then (if bt150.2.1 < 0 then (pylonlaw19_BankOldest.j0 k l0 bt150.1 true) else (if bt159.2.1 < 0 then (pylonlaw19_BankOldest.j0 k l0 bt150.1 true) else (if bt150.2.1 > (wrap64 (Int.tmod (IntKind.u64.wrap (a1)) 1000000000000000)) then (pylonlaw19_BankOldest.j0 k l0 bt150.1 true) else (if bt159.2.1 > (wrap64 (Int.tmod (IntKind.u64.wrap (a2)) 1000000000000000)) then (pylonlaw19_BankOldest.j0 k l0 bt150.1 true) else (if bt167.2.1 = (wrap64 (bt150.2.1 + bt159.2.1)) then ((pylonref19_SameLots.f k bt159.1 bt167.1).bind fun t172 => (if t172 = true then (pylonlaw19_BankOldest.j0 k l0 bt150.1 (decide ((bt150.1.length : Int) > (l0.length : Int)))) else (pylonlaw19_BankOldest.j0 k l0 bt150.1 true))) else (pylonlaw19_BankOldest.j0 k l0 bt150.1 true)))))) else (pylonlaw19_BankOldest.j0 k l0 bt150.1 true)) else (pylonlaw19_BankOldest.j0 k l0 bt150.1 true)) else (pylonlaw19_BankOldest.j0 k l0 bt150.1 true)))))) else (if bt150.2.2 = 8 then (if bt150.2.1 = 0 then (some ((bt150.1.length : Int) == 0)) else (some false)) else (some false)))))) else (some false))
theorem pylonlaw19_BankOldest.mono_l : ∀ k, (∀ y0 y1 y2, LeO (pylonlaw19_BankOldest.j0 k y0 y1 y2) (pylonlaw19_BankOldest.j0 (k + 1) y0 y1 y2)) ∧ (∀ y0 y1 y2, LeO (pylonlaw19_BankOldest.l0 k y0 y1 y2) (pylonlaw19_BankOldest.l0 (k + 1) y0 y1 y2))
 | 0 => ⟨fun _ _ _ r h => by simp [pylonlaw19_BankOldest.j0] at h, fun _ _ _ r h => by simp [pylonlaw19_BankOldest.l0] at h⟩
 | k + 1 => by
  obtain ⟨ih0, ih1⟩ := pylonlaw19_BankOldest.mono_l k
  refine ⟨?_, ?_⟩
  ·intro y0 y1 y2
   unfold pylonlaw19_BankOldest.j0
   repeat' first
   | (with_reducible exact ih0 _ _ _)
   | (with_reducible exact ih1 _ _ _)
   | (with_reducible exact bank_Take.mono _ _ _)
   | (with_reducible exact pylonlaw19_awake.mono _)
   | (with_reducible exact pylonref19_Check.mono _ _)
   | (with_reducible exact pylonref19_SameLots.mono _ _ _)
   | (with_reducible exact LeO.refl _)
   | (with_reducible exact LeO.none _)
   | (with_reducible refine LeO.ite ?_ ?_)
   | (with_reducible refine LeO.bind ?_ (fun _ => ?_))
   | exact ih0 _ _ _
   | exact ih1 _ _ _
   | exact bank_Take.mono _ _ _
   | exact pylonlaw19_awake.mono _
   | exact pylonref19_Check.mono _ _
   | exact pylonref19_SameLots.mono _ _ _
   | exact LeO.none _
   | refine LeO.ite ?_ ?_
   | refine LeO.bind ?_ (fun _ => ?_)
  ·intro y0 y1 y2
   unfold pylonlaw19_BankOldest.l0
   repeat' first
   | (with_reducible exact ih0 _ _ _)
   | (with_reducible exact ih1 _ _ _)
   | (with_reducible exact bank_Take.mono _ _ _)
   | (with_reducible exact pylonlaw19_awake.mono _)
   | (with_reducible exact pylonref19_Check.mono _ _)
   | (with_reducible exact pylonref19_SameLots.mono _ _ _)
   | (with_reducible exact LeO.refl _)
   | (with_reducible exact LeO.none _)
   | (with_reducible refine LeO.ite ?_ ?_)
   | (with_reducible refine LeO.bind ?_ (fun _ => ?_))
   | exact ih0 _ _ _
   | exact ih1 _ _ _
   | exact bank_Take.mono _ _ _
   | exact pylonlaw19_awake.mono _
   | exact pylonref19_Check.mono _ _
   | exact pylonref19_SameLots.mono _ _ _
   | exact LeO.none _
   | refine LeO.ite ?_ ?_
   | refine LeO.bind ?_ (fun _ => ?_)
theorem pylonlaw19_BankOldest.mono : ∀ a0 a1 a2 k, LeO (pylonlaw19_BankOldest.f k a0 a1 a2) (pylonlaw19_BankOldest.f (k + 1) a0 a1 a2) := by
 intro a0 a1 a2 k
 obtain ⟨ih0, ih1⟩ := pylonlaw19_BankOldest.mono_l k
 unfold pylonlaw19_BankOldest.f
 repeat' first
   | (with_reducible exact ih0 _ _ _)
   | (with_reducible exact ih1 _ _ _)
   | (with_reducible exact bank_Take.mono _ _ _)
   | (with_reducible exact pylonlaw19_awake.mono _)
   | (with_reducible exact pylonref19_Check.mono _ _)
   | (with_reducible exact pylonref19_SameLots.mono _ _ _)
   | (with_reducible exact LeO.refl _)
   | (with_reducible exact LeO.none _)
   | (with_reducible refine LeO.ite ?_ ?_)
   | (with_reducible refine LeO.bind ?_ (fun _ => ?_))
   | exact ih0 _ _ _
   | exact ih1 _ _ _
   | exact bank_Take.mono _ _ _
   | exact pylonlaw19_awake.mono _
   | exact pylonref19_Check.mono _ _
   | exact pylonref19_SameLots.mono _ _ _
   | exact LeO.none _
   | refine LeO.ite ?_ ?_
   | refine LeO.bind ?_ (fun _ => ?_)
set_option maxHeartbeats 8000000 in
set_option maxRecDepth 100000 in
theorem pylonlaw19_BankOldest.calls (k : Nat) (A0 : Option Addr) (c0 : Nat) (l0 : List (S32)) (a1 : Int) (a2 : Int) (r : Bool) (w : World) (hr0 : Kd.C k32 w A0 l0.length l0) (hc0 : l0.length ≤ c0) (h : pylonlaw19_BankOldest.f k l0 a1 a2 = some r) :
  Calls Try.prog 3 #[.slice A0 l0.length c0, .int .i64 a1, .int .i64 a2] w fun e w' => e = .returned (.bool r) ∧ Below w.heap.size w w' := by
 have hu32 := Try.underlying32
 have HR0 := Aside0.mk hr0
 have HC0 := Aside0.mk hc0
 clear hr0 hc0
 have HB := Aside0.mk (Below.refl w.heap.size w)
 have H : ((pylonlaw19_awake.f k).bind fun t146 => (if t146 = true then ((pylonlaw19_copyLots.f l0).bind fun t147 => ((bank_Take.f k t147 (wrap64 (Int.tmod (IntKind.u64.wrap (a1)) 1000000000000000))).bind fun bt150 => ((pylonref19_Check.f k l0).bind fun t155 => (if t155 = 0 then ((pylonlaw19_copyLots.f bt150.1).bind fun t156 => ((bank_Take.f k t156 (wrap64 (Int.tmod (IntKind.u64.wrap (a2)) 1000000000000000))).bind fun bt159 => ((pylonlaw19_copyLots.f l0).bind fun t164 => ((bank_Take.f k t164 (wrap64 ((wrap64 (Int.tmod (IntKind.u64.wrap (a1)) 1000000000000000)) + (wrap64 (Int.tmod (IntKind.u64.wrap (a2)) 1000000000000000))))).bind fun bt167 => (if bt150.2.2 = 0 then (if bt159.2.2 = 0 then (if bt167.2.2 = 0 then (if bt150.2.1 < 0 then (pylonlaw19_BankOldest.j0 k l0 bt150.1 true) else (if bt159.2.1 < 0 then (pylonlaw19_BankOldest.j0 k l0 bt150.1 true) else (if bt150.2.1 > (wrap64 (Int.tmod (IntKind.u64.wrap (a1)) 1000000000000000)) then (pylonlaw19_BankOldest.j0 k l0 bt150.1 true) else (if bt159.2.1 > (wrap64 (Int.tmod (IntKind.u64.wrap (a2)) 1000000000000000)) then (pylonlaw19_BankOldest.j0 k l0 bt150.1 true) else (if bt167.2.1 = (wrap64 (bt150.2.1 + bt159.2.1)) then ((pylonref19_SameLots.f k bt159.1 bt167.1).bind fun t172 => (if t172 = true then (pylonlaw19_BankOldest.j0 k l0 bt150.1 (decide ((bt150.1.length : Int) > (l0.length : Int)))) else (pylonlaw19_BankOldest.j0 k l0 bt150.1 true))) else (pylonlaw19_BankOldest.j0 k l0 bt150.1 true)))))) else (pylonlaw19_BankOldest.j0 k l0 bt150.1 true)) else (pylonlaw19_BankOldest.j0 k l0 bt150.1 true)) else (pylonlaw19_BankOldest.j0 k l0 bt150.1 true)))))) else (if bt150.2.2 = 8 then (if bt150.2.1 = 0 then (some ((bt150.1.length : Int) == 0)) else (some false)) else (some false)))))) else (some false))) = some r := h
 clear h
 replace H := Option.bind_eq_some_iff.mp H
 obtain ⟨t146, A40, H⟩ := H
 replace H : (if t146 = true then ((pylonlaw19_copyLots.f l0).bind fun t147 => ((bank_Take.f k t147 (wrap64 (Int.tmod (IntKind.u64.wrap (a1)) 1000000000000000))).bind fun bt150 => ((pylonref19_Check.f k l0).bind fun t155 => (if t155 = 0 then ((pylonlaw19_copyLots.f bt150.1).bind fun t156 => ((bank_Take.f k t156 (wrap64 (Int.tmod (IntKind.u64.wrap (a2)) 1000000000000000))).bind fun bt159 => ((pylonlaw19_copyLots.f l0).bind fun t164 => ((bank_Take.f k t164 (wrap64 ((wrap64 (Int.tmod (IntKind.u64.wrap (a1)) 1000000000000000)) + (wrap64 (Int.tmod (IntKind.u64.wrap (a2)) 1000000000000000))))).bind fun bt167 => (if bt150.2.2 = 0 then (if bt159.2.2 = 0 then (if bt167.2.2 = 0 then (if bt150.2.1 < 0 then (pylonlaw19_BankOldest.j0 k l0 bt150.1 true) else (if bt159.2.1 < 0 then (pylonlaw19_BankOldest.j0 k l0 bt150.1 true) else (if bt150.2.1 > (wrap64 (Int.tmod (IntKind.u64.wrap (a1)) 1000000000000000)) then (pylonlaw19_BankOldest.j0 k l0 bt150.1 true) else (if bt159.2.1 > (wrap64 (Int.tmod (IntKind.u64.wrap (a2)) 1000000000000000)) then (pylonlaw19_BankOldest.j0 k l0 bt150.1 true) else (if bt167.2.1 = (wrap64 (bt150.2.1 + bt159.2.1)) then ((pylonref19_SameLots.f k bt159.1 bt167.1).bind fun t172 => (if t172 = true then (pylonlaw19_BankOldest.j0 k l0 bt150.1 (decide ((bt150.1.length : Int) > (l0.length : Int)))) else (pylonlaw19_BankOldest.j0 k l0 bt150.1 true))) else (pylonlaw19_BankOldest.j0 k l0 bt150.1 true)))))) else (pylonlaw19_BankOldest.j0 k l0 bt150.1 true)) else (pylonlaw19_BankOldest.j0 k l0 bt150.1 true)) else (pylonlaw19_BankOldest.j0 k l0 bt150.1 true)))))) else (if bt150.2.2 = 8 then (if bt150.2.1 = 0 then (some ((bt150.1.length : Int) == 0)) else (some false)) else (some false)))))) else (some false)) = some r := H
 have A4 := Aside0.mk A40
 clear A40
 by_cases c5 : t146 = true
 ·subst c5
  have H1 : ((pylonlaw19_copyLots.f l0).bind fun t147 => ((bank_Take.f k t147 (wrap64 (Int.tmod (IntKind.u64.wrap (a1)) 1000000000000000))).bind fun bt150 => ((pylonref19_Check.f k l0).bind fun t155 => (if t155 = 0 then ((pylonlaw19_copyLots.f bt150.1).bind fun t156 => ((bank_Take.f k t156 (wrap64 (Int.tmod (IntKind.u64.wrap (a2)) 1000000000000000))).bind fun bt159 => ((pylonlaw19_copyLots.f l0).bind fun t164 => ((bank_Take.f k t164 (wrap64 ((wrap64 (Int.tmod (IntKind.u64.wrap (a1)) 1000000000000000)) + (wrap64 (Int.tmod (IntKind.u64.wrap (a2)) 1000000000000000))))).bind fun bt167 => (if bt150.2.2 = 0 then (if bt159.2.2 = 0 then (if bt167.2.2 = 0 then (if bt150.2.1 < 0 then (pylonlaw19_BankOldest.j0 k l0 bt150.1 true) else (if bt159.2.1 < 0 then (pylonlaw19_BankOldest.j0 k l0 bt150.1 true) else (if bt150.2.1 > (wrap64 (Int.tmod (IntKind.u64.wrap (a1)) 1000000000000000)) then (pylonlaw19_BankOldest.j0 k l0 bt150.1 true) else (if bt159.2.1 > (wrap64 (Int.tmod (IntKind.u64.wrap (a2)) 1000000000000000)) then (pylonlaw19_BankOldest.j0 k l0 bt150.1 true) else (if bt167.2.1 = (wrap64 (bt150.2.1 + bt159.2.1)) then ((pylonref19_SameLots.f k bt159.1 bt167.1).bind fun t172 => (if t172 = true then (pylonlaw19_BankOldest.j0 k l0 bt150.1 (decide ((bt150.1.length : Int) > (l0.length : Int)))) else (pylonlaw19_BankOldest.j0 k l0 bt150.1 true))) else (pylonlaw19_BankOldest.j0 k l0 bt150.1 true)))))) else (pylonlaw19_BankOldest.j0 k l0 bt150.1 true)) else (pylonlaw19_BankOldest.j0 k l0 bt150.1 true)) else (pylonlaw19_BankOldest.j0 k l0 bt150.1 true)))))) else (if bt150.2.2 = 8 then (if bt150.2.1 = 0 then (some ((bt150.1.length : Int) == 0)) else (some false)) else (some false)))))) = some r := by rw [if_pos rfl] at H; exact H
  clear H
  have H := H1
  clear H1
  replace H := Option.bind_eq_some_iff.mp H
  obtain ⟨t147, A60, H⟩ := H
  replace H : ((bank_Take.f k t147 (wrap64 (Int.tmod (IntKind.u64.wrap (a1)) 1000000000000000))).bind fun bt150 => ((pylonref19_Check.f k l0).bind fun t155 => (if t155 = 0 then ((pylonlaw19_copyLots.f bt150.1).bind fun t156 => ((bank_Take.f k t156 (wrap64 (Int.tmod (IntKind.u64.wrap (a2)) 1000000000000000))).bind fun bt159 => ((pylonlaw19_copyLots.f l0).bind fun t164 => ((bank_Take.f k t164 (wrap64 ((wrap64 (Int.tmod (IntKind.u64.wrap (a1)) 1000000000000000)) + (wrap64 (Int.tmod (IntKind.u64.wrap (a2)) 1000000000000000))))).bind fun bt167 => (if bt150.2.2 = 0 then (if bt159.2.2 = 0 then (if bt167.2.2 = 0 then (if bt150.2.1 < 0 then (pylonlaw19_BankOldest.j0 k l0 bt150.1 true) else (if bt159.2.1 < 0 then (pylonlaw19_BankOldest.j0 k l0 bt150.1 true) else (if bt150.2.1 > (wrap64 (Int.tmod (IntKind.u64.wrap (a1)) 1000000000000000)) then (pylonlaw19_BankOldest.j0 k l0 bt150.1 true) else (if bt159.2.1 > (wrap64 (Int.tmod (IntKind.u64.wrap (a2)) 1000000000000000)) then (pylonlaw19_BankOldest.j0 k l0 bt150.1 true) else (if bt167.2.1 = (wrap64 (bt150.2.1 + bt159.2.1)) then ((pylonref19_SameLots.f k bt159.1 bt167.1).bind fun t172 => (if t172 = true then (pylonlaw19_BankOldest.j0 k l0 bt150.1 (decide ((bt150.1.length : Int) > (l0.length : Int)))) else (pylonlaw19_BankOldest.j0 k l0 bt150.1 true))) else (pylonlaw19_BankOldest.j0 k l0 bt150.1 true)))))) else (pylonlaw19_BankOldest.j0 k l0 bt150.1 true)) else (pylonlaw19_BankOldest.j0 k l0 bt150.1 true)) else (pylonlaw19_BankOldest.j0 k l0 bt150.1 true)))))) else (if bt150.2.2 = 8 then (if bt150.2.1 = 0 then (some ((bt150.1.length : Int) == 0)) else (some false)) else (some false))))) = some r := H
  have A6 := Aside0.mk A60
  have tqA6 := True.intro
  clear A60
  replace H := Option.bind_eq_some_iff.mp H
  obtain ⟨⟨t150, t153, t154⟩, A70, H⟩ := H
  replace H : ((pylonref19_Check.f k l0).bind fun t155 => (if t155 = 0 then ((pylonlaw19_copyLots.f t150).bind fun t156 => ((bank_Take.f k t156 (wrap64 (Int.tmod (IntKind.u64.wrap (a2)) 1000000000000000))).bind fun bt159 => ((pylonlaw19_copyLots.f l0).bind fun t164 => ((bank_Take.f k t164 (wrap64 ((wrap64 (Int.tmod (IntKind.u64.wrap (a1)) 1000000000000000)) + (wrap64 (Int.tmod (IntKind.u64.wrap (a2)) 1000000000000000))))).bind fun bt167 => (if t154 = 0 then (if bt159.2.2 = 0 then (if bt167.2.2 = 0 then (if t153 < 0 then (pylonlaw19_BankOldest.j0 k l0 t150 true) else (if bt159.2.1 < 0 then (pylonlaw19_BankOldest.j0 k l0 t150 true) else (if t153 > (wrap64 (Int.tmod (IntKind.u64.wrap (a1)) 1000000000000000)) then (pylonlaw19_BankOldest.j0 k l0 t150 true) else (if bt159.2.1 > (wrap64 (Int.tmod (IntKind.u64.wrap (a2)) 1000000000000000)) then (pylonlaw19_BankOldest.j0 k l0 t150 true) else (if bt167.2.1 = (wrap64 (t153 + bt159.2.1)) then ((pylonref19_SameLots.f k bt159.1 bt167.1).bind fun t172 => (if t172 = true then (pylonlaw19_BankOldest.j0 k l0 t150 (decide ((t150.length : Int) > (l0.length : Int)))) else (pylonlaw19_BankOldest.j0 k l0 t150 true))) else (pylonlaw19_BankOldest.j0 k l0 t150 true)))))) else (pylonlaw19_BankOldest.j0 k l0 t150 true)) else (pylonlaw19_BankOldest.j0 k l0 t150 true)) else (pylonlaw19_BankOldest.j0 k l0 t150 true)))))) else (if t154 = 8 then (if t153 = 0 then (some ((t150.length : Int) == 0)) else (some false)) else (some false)))) = some r := H
  have A7 := Aside0.mk A70
  clear A70
  replace H := Option.bind_eq_some_iff.mp H
  obtain ⟨t155, A80, H⟩ := H
  replace H : (if t155 = 0 then ((pylonlaw19_copyLots.f t150).bind fun t156 => ((bank_Take.f k t156 (wrap64 (Int.tmod (IntKind.u64.wrap (a2)) 1000000000000000))).bind fun bt159 => ((pylonlaw19_copyLots.f l0).bind fun t164 => ((bank_Take.f k t164 (wrap64 ((wrap64 (Int.tmod (IntKind.u64.wrap (a1)) 1000000000000000)) + (wrap64 (Int.tmod (IntKind.u64.wrap (a2)) 1000000000000000))))).bind fun bt167 => (if t154 = 0 then (if bt159.2.2 = 0 then (if bt167.2.2 = 0 then (if t153 < 0 then (pylonlaw19_BankOldest.j0 k l0 t150 true) else (if bt159.2.1 < 0 then (pylonlaw19_BankOldest.j0 k l0 t150 true) else (if t153 > (wrap64 (Int.tmod (IntKind.u64.wrap (a1)) 1000000000000000)) then (pylonlaw19_BankOldest.j0 k l0 t150 true) else (if bt159.2.1 > (wrap64 (Int.tmod (IntKind.u64.wrap (a2)) 1000000000000000)) then (pylonlaw19_BankOldest.j0 k l0 t150 true) else (if bt167.2.1 = (wrap64 (t153 + bt159.2.1)) then ((pylonref19_SameLots.f k bt159.1 bt167.1).bind fun t172 => (if t172 = true then (pylonlaw19_BankOldest.j0 k l0 t150 (decide ((t150.length : Int) > (l0.length : Int)))) else (pylonlaw19_BankOldest.j0 k l0 t150 true))) else (pylonlaw19_BankOldest.j0 k l0 t150 true)))))) else (pylonlaw19_BankOldest.j0 k l0 t150 true)) else (pylonlaw19_BankOldest.j0 k l0 t150 true)) else (pylonlaw19_BankOldest.j0 k l0 t150 true)))))) else (if t154 = 8 then (if t153 = 0 then (some ((t150.length : Int) == 0)) else (some false)) else (some false))) = some r := H
  have A8 := Aside0.mk A80
  clear A80
  by_cases c9 : t155 = 0
  ·rw [if_pos c9] at H
   have c9b0 : (t155 == 0) = true := beq_iff_eq.mpr c9
   have c9b1 : (t155 != 0) = false := bne_eq_false_iff_eq.mpr c9
   clear c9
   replace H := Option.bind_eq_some_iff.mp H
   obtain ⟨t156, A100, H⟩ := H
   replace H : ((bank_Take.f k t156 (wrap64 (Int.tmod (IntKind.u64.wrap (a2)) 1000000000000000))).bind fun bt159 => ((pylonlaw19_copyLots.f l0).bind fun t164 => ((bank_Take.f k t164 (wrap64 ((wrap64 (Int.tmod (IntKind.u64.wrap (a1)) 1000000000000000)) + (wrap64 (Int.tmod (IntKind.u64.wrap (a2)) 1000000000000000))))).bind fun bt167 => (if t154 = 0 then (if bt159.2.2 = 0 then (if bt167.2.2 = 0 then (if t153 < 0 then (pylonlaw19_BankOldest.j0 k l0 t150 true) else (if bt159.2.1 < 0 then (pylonlaw19_BankOldest.j0 k l0 t150 true) else (if t153 > (wrap64 (Int.tmod (IntKind.u64.wrap (a1)) 1000000000000000)) then (pylonlaw19_BankOldest.j0 k l0 t150 true) else (if bt159.2.1 > (wrap64 (Int.tmod (IntKind.u64.wrap (a2)) 1000000000000000)) then (pylonlaw19_BankOldest.j0 k l0 t150 true) else (if bt167.2.1 = (wrap64 (t153 + bt159.2.1)) then ((pylonref19_SameLots.f k bt159.1 bt167.1).bind fun t172 => (if t172 = true then (pylonlaw19_BankOldest.j0 k l0 t150 (decide ((t150.length : Int) > (l0.length : Int)))) else (pylonlaw19_BankOldest.j0 k l0 t150 true))) else (pylonlaw19_BankOldest.j0 k l0 t150 true)))))) else (pylonlaw19_BankOldest.j0 k l0 t150 true)) else (pylonlaw19_BankOldest.j0 k l0 t150 true)) else (pylonlaw19_BankOldest.j0 k l0 t150 true))))) = some r := H
   have A10 := Aside0.mk A100
   clear A100
   replace H := Option.bind_eq_some_iff.mp H
   obtain ⟨⟨t159, t162, t163⟩, A110, H⟩ := H
   replace H : ((pylonlaw19_copyLots.f l0).bind fun t164 => ((bank_Take.f k t164 (wrap64 ((wrap64 (Int.tmod (IntKind.u64.wrap (a1)) 1000000000000000)) + (wrap64 (Int.tmod (IntKind.u64.wrap (a2)) 1000000000000000))))).bind fun bt167 => (if t154 = 0 then (if t163 = 0 then (if bt167.2.2 = 0 then (if t153 < 0 then (pylonlaw19_BankOldest.j0 k l0 t150 true) else (if t162 < 0 then (pylonlaw19_BankOldest.j0 k l0 t150 true) else (if t153 > (wrap64 (Int.tmod (IntKind.u64.wrap (a1)) 1000000000000000)) then (pylonlaw19_BankOldest.j0 k l0 t150 true) else (if t162 > (wrap64 (Int.tmod (IntKind.u64.wrap (a2)) 1000000000000000)) then (pylonlaw19_BankOldest.j0 k l0 t150 true) else (if bt167.2.1 = (wrap64 (t153 + t162)) then ((pylonref19_SameLots.f k t159 bt167.1).bind fun t172 => (if t172 = true then (pylonlaw19_BankOldest.j0 k l0 t150 (decide ((t150.length : Int) > (l0.length : Int)))) else (pylonlaw19_BankOldest.j0 k l0 t150 true))) else (pylonlaw19_BankOldest.j0 k l0 t150 true)))))) else (pylonlaw19_BankOldest.j0 k l0 t150 true)) else (pylonlaw19_BankOldest.j0 k l0 t150 true)) else (pylonlaw19_BankOldest.j0 k l0 t150 true)))) = some r := H
   have A11 := Aside0.mk A110
   clear A110
   replace H := Option.bind_eq_some_iff.mp H
   obtain ⟨t164, A120, H⟩ := H
   replace H : ((bank_Take.f k t164 (wrap64 ((wrap64 (Int.tmod (IntKind.u64.wrap (a1)) 1000000000000000)) + (wrap64 (Int.tmod (IntKind.u64.wrap (a2)) 1000000000000000))))).bind fun bt167 => (if t154 = 0 then (if t163 = 0 then (if bt167.2.2 = 0 then (if t153 < 0 then (pylonlaw19_BankOldest.j0 k l0 t150 true) else (if t162 < 0 then (pylonlaw19_BankOldest.j0 k l0 t150 true) else (if t153 > (wrap64 (Int.tmod (IntKind.u64.wrap (a1)) 1000000000000000)) then (pylonlaw19_BankOldest.j0 k l0 t150 true) else (if t162 > (wrap64 (Int.tmod (IntKind.u64.wrap (a2)) 1000000000000000)) then (pylonlaw19_BankOldest.j0 k l0 t150 true) else (if bt167.2.1 = (wrap64 (t153 + t162)) then ((pylonref19_SameLots.f k t159 bt167.1).bind fun t172 => (if t172 = true then (pylonlaw19_BankOldest.j0 k l0 t150 (decide ((t150.length : Int) > (l0.length : Int)))) else (pylonlaw19_BankOldest.j0 k l0 t150 true))) else (pylonlaw19_BankOldest.j0 k l0 t150 true)))))) else (pylonlaw19_BankOldest.j0 k l0 t150 true)) else (pylonlaw19_BankOldest.j0 k l0 t150 true)) else (pylonlaw19_BankOldest.j0 k l0 t150 true))) = some r := H
   have A12 := Aside0.mk A120
   have tqA12 := True.intro
   clear A120
   replace H := Option.bind_eq_some_iff.mp H
   obtain ⟨⟨t167, t170, t171⟩, A130, H⟩ := H
   replace H : (if t154 = 0 then (if t163 = 0 then (if t171 = 0 then (if t153 < 0 then (pylonlaw19_BankOldest.j0 k l0 t150 true) else (if t162 < 0 then (pylonlaw19_BankOldest.j0 k l0 t150 true) else (if t153 > (wrap64 (Int.tmod (IntKind.u64.wrap (a1)) 1000000000000000)) then (pylonlaw19_BankOldest.j0 k l0 t150 true) else (if t162 > (wrap64 (Int.tmod (IntKind.u64.wrap (a2)) 1000000000000000)) then (pylonlaw19_BankOldest.j0 k l0 t150 true) else (if t170 = (wrap64 (t153 + t162)) then ((pylonref19_SameLots.f k t159 t167).bind fun t172 => (if t172 = true then (pylonlaw19_BankOldest.j0 k l0 t150 (decide ((t150.length : Int) > (l0.length : Int)))) else (pylonlaw19_BankOldest.j0 k l0 t150 true))) else (pylonlaw19_BankOldest.j0 k l0 t150 true)))))) else (pylonlaw19_BankOldest.j0 k l0 t150 true)) else (pylonlaw19_BankOldest.j0 k l0 t150 true)) else (pylonlaw19_BankOldest.j0 k l0 t150 true)) = some r := H
   have A13 := Aside0.mk A130
   clear A130
   have HC14 := Aside0.mk H
   clear H
   go_enter Try.func3, Try.ntmps3
   go_upto_region 9 with (first | (go_at_call 8; (with_reducible refine (pylonlaw19_awake.calls k  true _ A4.out).mono ?_); rintro e w15 ⟨rfl, hb⟩; have n0_ := Aside0.mk (below_step (by repeat (first | (with_reducible first | exact HB.out | apply below_alloc | apply pw_below_drewN | apply below_drew1) | exact HB.out)) hb); clear HB; have HB := n0_; clear n0_; (try clear hb); (try clear hb2); (try clear hk); (try clear hi)) | (go_at_call 10; have _t := tqA6; clear _t tqA6; (with_reducible refine (pylonlaw19_copyLots.calls _ _ l0 t147 _ ?side1 ?side2 A6.out).mono ?_); (case side1 => repeat (first | exact (Kd.C_below HR0.out HB.out) | (with_reducible refine Kd.C_alloc ?_ _) | (with_reducible refine Kd.C_drewN ?_ _) | (with_reducible refine Kd.C_drew ?_))); (case side2 => exact HC0.out); rintro e w16 ⟨v148, rfl, ho0, hb⟩; have n0_ := Aside0.mk (Kd.R_lower ho0 (below_size (by repeat (first | (with_reducible first | exact HB.out | apply below_alloc | apply pw_below_drewN | apply below_drew1) | exact HB.out)))); have n1_ := Aside0.mk (below_step (by repeat (first | (with_reducible first | exact HB.out | apply below_alloc | apply pw_below_drewN | apply below_drew1) | exact HB.out)) hb); clear HB; have HO149 := n0_; have HB := n1_; clear n0_ n1_; (try clear hb); (try clear hb2); (try clear hk); (try clear hi); (try clear ho0); obtain ⟨Ao17, co17, eo17⟩ := Kd.R_slice HO149.out; subst eo17) | (go_at_call 9; (with_reducible refine (bank_Take.calls k (fun k_ => some k_ = (.slice Ao17 t147.length co17 : Value).ownBlock) _ _ t147 (wrap64 (Int.tmod (IntKind.u64.wrap (a1)) 1000000000000000)) t150 t153 t154 _ ?side1 A7.out).mono ?_); (case side1 => exact Kd.R_V (Kd.R_tight rfl (HO149.out))); rintro e w18 ⟨v151, rfl, ho0, hb⟩; have n0_ := Aside0.mk (Kd.R_elder' (by (with_reducible repeat (first | apply Kd.R_alloc | apply Kd.R_drewN | apply Kd.R_drew)); exact HO149.out) (Kd.R_base ho0) hb); have n1_ := Aside0.mk (Kd.R_lower (Kd.R_new' (Kd.R_mono (ok' := fun k_ => True) ho0 (fun _ hk_ => trivial)) (Kd.R_lt (by (with_reducible repeat (first | apply Kd.R_alloc | apply Kd.R_drewN | apply Kd.R_drew)); exact HO149.out))) (below_size (by repeat (first | (with_reducible first | exact HB.out | apply below_alloc | apply pw_below_drewN | apply below_drew1) | exact HB.out)))); have n2_ := Aside0.mk (below_step (by repeat (first | (with_reducible first | exact HB.out | apply below_alloc | apply pw_below_drewN | apply below_drew1) | exact HB.out)) hb); clear HO149; clear HB; have HO149 := n0_; have HO152 := n1_; have HB := n2_; clear n0_ n1_ n2_; (try clear hb); (try clear hb2); (try clear hk); (try clear hi); (try clear ho0)) | (go_at_call 11; (with_reducible refine (pylonref19_Check.calls k _ _ l0 t155 _ ?side1 ?side2 A8.out).mono ?_); (case side1 => repeat (first | exact (Kd.C_below HR0.out HB.out) | (with_reducible refine Kd.C_alloc ?_ _) | (with_reducible refine Kd.C_drewN ?_ _) | (with_reducible refine Kd.C_drew ?_))); (case side2 => exact HC0.out); rintro e w19 ⟨rfl, hb⟩; have n0_ := Aside0.mk (Kd.R_below (by (with_reducible repeat (first | apply Kd.R_alloc | apply Kd.R_drewN | apply Kd.R_drew)); exact HO149.out) hb); have n1_ := Aside0.mk (Kd.R_below (by (with_reducible repeat (first | apply Kd.R_alloc | apply Kd.R_drewN | apply Kd.R_drew)); exact HO152.out) hb); have n2_ := Aside0.mk (below_step (by repeat (first | (with_reducible first | exact HB.out | apply below_alloc | apply pw_below_drewN | apply below_drew1) | exact HB.out)) hb); clear HO149; clear HO152; clear HB; have HO149 := n0_; have HO152 := n1_; have HB := n2_; clear n0_ n1_ n2_; (try clear hb); (try clear hb2); (try clear hk); (try clear hi); obtain ⟨Ao20, co20, eo20⟩ := Kd.R_slice HO152.out; subst eo20) | (go_at_call 10; (with_reducible refine (pylonlaw19_copyLots.calls _ _ t150 t156 _ ?side1 ?side2 A10.out).mono ?_); (case side1 => repeat (first | exact (Kd.R_reads' HO152.out).2.2 | (with_reducible refine Kd.C_alloc ?_ _) | (with_reducible refine Kd.C_drewN ?_ _) | (with_reducible refine Kd.C_drew ?_))); (case side2 => exact (Kd.R_reads' HO152.out).2.1); rintro e w21 ⟨v157, rfl, ho0, hb⟩; have n0_ := Aside0.mk (Kd.R_elder' (by (with_reducible repeat (first | apply Kd.R_alloc | apply Kd.R_drewN | apply Kd.R_drew)); exact HO149.out) (Kd.R_base ho0) hb); have n1_ := Aside0.mk (Kd.R_elder' (by (with_reducible repeat (first | apply Kd.R_alloc | apply Kd.R_drewN | apply Kd.R_drew)); exact HO152.out) (Kd.R_base ho0) hb); have n2_ := Aside0.mk (Kd.R_lower (Kd.R_new' (Kd.R_new' ho0 (Kd.R_lt (by (with_reducible repeat (first | apply Kd.R_alloc | apply Kd.R_drewN | apply Kd.R_drew)); exact HO149.out))) (Kd.R_lt (by (with_reducible repeat (first | apply Kd.R_alloc | apply Kd.R_drewN | apply Kd.R_drew)); exact HO152.out))) (below_size (by repeat (first | (with_reducible first | exact HB.out | apply below_alloc | apply pw_below_drewN | apply below_drew1) | exact HB.out)))); have n3_ := Aside0.mk (below_step (by repeat (first | (with_reducible first | exact HB.out | apply below_alloc | apply pw_below_drewN | apply below_drew1) | exact HB.out)) hb); clear HO149; clear HO152; clear HB; have HO149 := n0_; have HO152 := n1_; have HO158 := n2_; have HB := n3_; clear n0_ n1_ n2_ n3_; (try clear hb); (try clear hb2); (try clear hk); (try clear hi); (try clear ho0); obtain ⟨Ao22, co22, eo22⟩ := Kd.R_slice HO158.out; subst eo22) | (go_at_call 9; (with_reducible refine (bank_Take.calls k (fun k_ => some k_ = (.slice Ao22 t156.length co22 : Value).ownBlock) _ _ t156 (wrap64 (Int.tmod (IntKind.u64.wrap (a2)) 1000000000000000)) t159 t162 t163 _ ?side1 A11.out).mono ?_); (case side1 => exact Kd.R_V (Kd.R_tight rfl (HO158.out))); rintro e w23 ⟨v160, rfl, ho0, hb⟩; have n0_ := Aside0.mk (Kd.R_elder' (by (with_reducible repeat (first | apply Kd.R_alloc | apply Kd.R_drewN | apply Kd.R_drew)); exact HO149.out) (Kd.R_base ho0) hb); have n1_ := Aside0.mk (Kd.R_elder' (by (with_reducible repeat (first | apply Kd.R_alloc | apply Kd.R_drewN | apply Kd.R_drew)); exact HO152.out) (Kd.R_base ho0) hb); have n2_ := Aside0.mk (Kd.R_elder' (by (with_reducible repeat (first | apply Kd.R_alloc | apply Kd.R_drewN | apply Kd.R_drew)); exact HO158.out) (Kd.R_base ho0) hb); have n3_ := Aside0.mk (Kd.R_lower (Kd.R_new' (Kd.R_new' (Kd.R_new' (Kd.R_mono (ok' := fun k_ => True) ho0 (fun _ hk_ => trivial)) (Kd.R_lt (by (with_reducible repeat (first | apply Kd.R_alloc | apply Kd.R_drewN | apply Kd.R_drew)); exact HO149.out))) (Kd.R_lt (by (with_reducible repeat (first | apply Kd.R_alloc | apply Kd.R_drewN | apply Kd.R_drew)); exact HO152.out))) (Kd.R_lt (by (with_reducible repeat (first | apply Kd.R_alloc | apply Kd.R_drewN | apply Kd.R_drew)); exact HO158.out))) (below_size (by repeat (first | (with_reducible first | exact HB.out | apply below_alloc | apply pw_below_drewN | apply below_drew1) | exact HB.out)))); have n4_ := Aside0.mk (below_step (by repeat (first | (with_reducible first | exact HB.out | apply below_alloc | apply pw_below_drewN | apply below_drew1) | exact HB.out)) hb); clear HO149; clear HO152; clear HO158; clear HB; have HO149 := n0_; have HO152 := n1_; have HO158 := n2_; have HO161 := n3_; have HB := n4_; clear n0_ n1_ n2_ n3_ n4_; (try clear hb); (try clear hb2); (try clear hk); (try clear hi); (try clear ho0)) | (go_at_call 10; have _t := tqA12; clear _t tqA12; (with_reducible refine (pylonlaw19_copyLots.calls _ _ l0 t164 _ ?side1 ?side2 A12.out).mono ?_); (case side1 => repeat (first | exact (Kd.C_below HR0.out HB.out) | (with_reducible refine Kd.C_alloc ?_ _) | (with_reducible refine Kd.C_drewN ?_ _) | (with_reducible refine Kd.C_drew ?_))); (case side2 => exact HC0.out); rintro e w24 ⟨v165, rfl, ho0, hb⟩; have n0_ := Aside0.mk (Kd.R_elder' (by (with_reducible repeat (first | apply Kd.R_alloc | apply Kd.R_drewN | apply Kd.R_drew)); exact HO149.out) (Kd.R_base ho0) hb); have n1_ := Aside0.mk (Kd.R_elder' (by (with_reducible repeat (first | apply Kd.R_alloc | apply Kd.R_drewN | apply Kd.R_drew)); exact HO152.out) (Kd.R_base ho0) hb); have n2_ := Aside0.mk (Kd.R_elder' (by (with_reducible repeat (first | apply Kd.R_alloc | apply Kd.R_drewN | apply Kd.R_drew)); exact HO158.out) (Kd.R_base ho0) hb); have n3_ := Aside0.mk (Kd.R_elder' (by (with_reducible repeat (first | apply Kd.R_alloc | apply Kd.R_drewN | apply Kd.R_drew)); exact HO161.out) (Kd.R_base ho0) hb); have n4_ := Aside0.mk (Kd.R_lower (Kd.R_new' (Kd.R_new' (Kd.R_new' (Kd.R_new' ho0 (Kd.R_lt (by (with_reducible repeat (first | apply Kd.R_alloc | apply Kd.R_drewN | apply Kd.R_drew)); exact HO149.out))) (Kd.R_lt (by (with_reducible repeat (first | apply Kd.R_alloc | apply Kd.R_drewN | apply Kd.R_drew)); exact HO152.out))) (Kd.R_lt (by (with_reducible repeat (first | apply Kd.R_alloc | apply Kd.R_drewN | apply Kd.R_drew)); exact HO158.out))) (Kd.R_lt (by (with_reducible repeat (first | apply Kd.R_alloc | apply Kd.R_drewN | apply Kd.R_drew)); exact HO161.out))) (below_size (by repeat (first | (with_reducible first | exact HB.out | apply below_alloc | apply pw_below_drewN | apply below_drew1) | exact HB.out)))); have n5_ := Aside0.mk (below_step (by repeat (first | (with_reducible first | exact HB.out | apply below_alloc | apply pw_below_drewN | apply below_drew1) | exact HB.out)) hb); clear HO149; clear HO152; clear HO158; clear HO161; clear HB; have HO149 := n0_; have HO152 := n1_; have HO158 := n2_; have HO161 := n3_; have HO166 := n4_; have HB := n5_; clear n0_ n1_ n2_ n3_ n4_ n5_; (try clear hb); (try clear hb2); (try clear hk); (try clear hi); (try clear ho0); obtain ⟨Ao25, co25, eo25⟩ := Kd.R_slice HO166.out; subst eo25) | (go_at_call 9; (with_reducible refine (bank_Take.calls k (fun k_ => some k_ = (.slice Ao25 t164.length co25 : Value).ownBlock) _ _ t164 (wrap64 ((wrap64 (Int.tmod (IntKind.u64.wrap (a1)) 1000000000000000)) + (wrap64 (Int.tmod (IntKind.u64.wrap (a2)) 1000000000000000)))) t167 t170 t171 _ ?side1 A13.out).mono ?_); (case side1 => exact Kd.R_V (Kd.R_tight rfl (HO166.out))); rintro e w26 ⟨v168, rfl, ho0, hb⟩; have n0_ := Aside0.mk (Kd.R_elder' (by (with_reducible repeat (first | apply Kd.R_alloc | apply Kd.R_drewN | apply Kd.R_drew)); exact HO149.out) (Kd.R_base ho0) hb); have n1_ := Aside0.mk (Kd.R_elder' (by (with_reducible repeat (first | apply Kd.R_alloc | apply Kd.R_drewN | apply Kd.R_drew)); exact HO152.out) (Kd.R_base ho0) hb); have n2_ := Aside0.mk (Kd.R_elder' (by (with_reducible repeat (first | apply Kd.R_alloc | apply Kd.R_drewN | apply Kd.R_drew)); exact HO158.out) (Kd.R_base ho0) hb); have n3_ := Aside0.mk (Kd.R_elder' (by (with_reducible repeat (first | apply Kd.R_alloc | apply Kd.R_drewN | apply Kd.R_drew)); exact HO161.out) (Kd.R_base ho0) hb); have n4_ := Aside0.mk (Kd.R_elder' (by (with_reducible repeat (first | apply Kd.R_alloc | apply Kd.R_drewN | apply Kd.R_drew)); exact HO166.out) (Kd.R_base ho0) hb); have n5_ := Aside0.mk (Kd.R_lower (Kd.R_new' (Kd.R_new' (Kd.R_new' (Kd.R_new' (Kd.R_new' (Kd.R_mono (ok' := fun k_ => True) ho0 (fun _ hk_ => trivial)) (Kd.R_lt (by (with_reducible repeat (first | apply Kd.R_alloc | apply Kd.R_drewN | apply Kd.R_drew)); exact HO149.out))) (Kd.R_lt (by (with_reducible repeat (first | apply Kd.R_alloc | apply Kd.R_drewN | apply Kd.R_drew)); exact HO152.out))) (Kd.R_lt (by (with_reducible repeat (first | apply Kd.R_alloc | apply Kd.R_drewN | apply Kd.R_drew)); exact HO158.out))) (Kd.R_lt (by (with_reducible repeat (first | apply Kd.R_alloc | apply Kd.R_drewN | apply Kd.R_drew)); exact HO161.out))) (Kd.R_lt (by (with_reducible repeat (first | apply Kd.R_alloc | apply Kd.R_drewN | apply Kd.R_drew)); exact HO166.out))) (below_size (by repeat (first | (with_reducible first | exact HB.out | apply below_alloc | apply pw_below_drewN | apply below_drew1) | exact HB.out)))); have n6_ := Aside0.mk (below_step (by repeat (first | (with_reducible first | exact HB.out | apply below_alloc | apply pw_below_drewN | apply below_drew1) | exact HB.out)) hb); clear HO149; clear HO152; clear HO158; clear HO161; clear HO166; clear HB; have HO149 := n0_; have HO152 := n1_; have HO158 := n2_; have HO161 := n3_; have HO166 := n4_; have HO169 := n5_; have HB := n6_; clear n0_ n1_ n2_ n3_ n4_ n5_ n6_; (try clear hb); (try clear hb2); (try clear hk); (try clear hi); (try clear ho0)))
   repeat (go_quiet (first | (go_at_call 8; (with_reducible refine (pylonlaw19_awake.calls k  true _ A4.out).mono ?_); rintro e w15 ⟨rfl, hb⟩; have n0_ := Aside0.mk (below_step (by repeat (first | (with_reducible first | exact HB.out | apply below_alloc | apply pw_below_drewN | apply below_drew1) | exact HB.out)) hb); clear HB; have HB := n0_; clear n0_; (try clear hb); (try clear hb2); (try clear hk); (try clear hi)) | (go_at_call 10; have _t := tqA6; clear _t tqA6; (with_reducible refine (pylonlaw19_copyLots.calls _ _ l0 t147 _ ?side1 ?side2 A6.out).mono ?_); (case side1 => repeat (first | exact (Kd.C_below HR0.out HB.out) | (with_reducible refine Kd.C_alloc ?_ _) | (with_reducible refine Kd.C_drewN ?_ _) | (with_reducible refine Kd.C_drew ?_))); (case side2 => exact HC0.out); rintro e w16 ⟨v148, rfl, ho0, hb⟩; have n0_ := Aside0.mk (Kd.R_lower ho0 (below_size (by repeat (first | (with_reducible first | exact HB.out | apply below_alloc | apply pw_below_drewN | apply below_drew1) | exact HB.out)))); have n1_ := Aside0.mk (below_step (by repeat (first | (with_reducible first | exact HB.out | apply below_alloc | apply pw_below_drewN | apply below_drew1) | exact HB.out)) hb); clear HB; have HO149 := n0_; have HB := n1_; clear n0_ n1_; (try clear hb); (try clear hb2); (try clear hk); (try clear hi); (try clear ho0); obtain ⟨Ao17, co17, eo17⟩ := Kd.R_slice HO149.out; subst eo17) | (go_at_call 9; (with_reducible refine (bank_Take.calls k (fun k_ => some k_ = (.slice Ao17 t147.length co17 : Value).ownBlock) _ _ t147 (wrap64 (Int.tmod (IntKind.u64.wrap (a1)) 1000000000000000)) t150 t153 t154 _ ?side1 A7.out).mono ?_); (case side1 => exact Kd.R_V (Kd.R_tight rfl (HO149.out))); rintro e w18 ⟨v151, rfl, ho0, hb⟩; have n0_ := Aside0.mk (Kd.R_elder' (by (with_reducible repeat (first | apply Kd.R_alloc | apply Kd.R_drewN | apply Kd.R_drew)); exact HO149.out) (Kd.R_base ho0) hb); have n1_ := Aside0.mk (Kd.R_lower (Kd.R_new' (Kd.R_mono (ok' := fun k_ => True) ho0 (fun _ hk_ => trivial)) (Kd.R_lt (by (with_reducible repeat (first | apply Kd.R_alloc | apply Kd.R_drewN | apply Kd.R_drew)); exact HO149.out))) (below_size (by repeat (first | (with_reducible first | exact HB.out | apply below_alloc | apply pw_below_drewN | apply below_drew1) | exact HB.out)))); have n2_ := Aside0.mk (below_step (by repeat (first | (with_reducible first | exact HB.out | apply below_alloc | apply pw_below_drewN | apply below_drew1) | exact HB.out)) hb); clear HO149; clear HB; have HO149 := n0_; have HO152 := n1_; have HB := n2_; clear n0_ n1_ n2_; (try clear hb); (try clear hb2); (try clear hk); (try clear hi); (try clear ho0)) | (go_at_call 11; (with_reducible refine (pylonref19_Check.calls k _ _ l0 t155 _ ?side1 ?side2 A8.out).mono ?_); (case side1 => repeat (first | exact (Kd.C_below HR0.out HB.out) | (with_reducible refine Kd.C_alloc ?_ _) | (with_reducible refine Kd.C_drewN ?_ _) | (with_reducible refine Kd.C_drew ?_))); (case side2 => exact HC0.out); rintro e w19 ⟨rfl, hb⟩; have n0_ := Aside0.mk (Kd.R_below (by (with_reducible repeat (first | apply Kd.R_alloc | apply Kd.R_drewN | apply Kd.R_drew)); exact HO149.out) hb); have n1_ := Aside0.mk (Kd.R_below (by (with_reducible repeat (first | apply Kd.R_alloc | apply Kd.R_drewN | apply Kd.R_drew)); exact HO152.out) hb); have n2_ := Aside0.mk (below_step (by repeat (first | (with_reducible first | exact HB.out | apply below_alloc | apply pw_below_drewN | apply below_drew1) | exact HB.out)) hb); clear HO149; clear HO152; clear HB; have HO149 := n0_; have HO152 := n1_; have HB := n2_; clear n0_ n1_ n2_; (try clear hb); (try clear hb2); (try clear hk); (try clear hi); obtain ⟨Ao20, co20, eo20⟩ := Kd.R_slice HO152.out; subst eo20) | (go_at_call 10; (with_reducible refine (pylonlaw19_copyLots.calls _ _ t150 t156 _ ?side1 ?side2 A10.out).mono ?_); (case side1 => repeat (first | exact (Kd.R_reads' HO152.out).2.2 | (with_reducible refine Kd.C_alloc ?_ _) | (with_reducible refine Kd.C_drewN ?_ _) | (with_reducible refine Kd.C_drew ?_))); (case side2 => exact (Kd.R_reads' HO152.out).2.1); rintro e w21 ⟨v157, rfl, ho0, hb⟩; have n0_ := Aside0.mk (Kd.R_elder' (by (with_reducible repeat (first | apply Kd.R_alloc | apply Kd.R_drewN | apply Kd.R_drew)); exact HO149.out) (Kd.R_base ho0) hb); have n1_ := Aside0.mk (Kd.R_elder' (by (with_reducible repeat (first | apply Kd.R_alloc | apply Kd.R_drewN | apply Kd.R_drew)); exact HO152.out) (Kd.R_base ho0) hb); have n2_ := Aside0.mk (Kd.R_lower (Kd.R_new' (Kd.R_new' ho0 (Kd.R_lt (by (with_reducible repeat (first | apply Kd.R_alloc | apply Kd.R_drewN | apply Kd.R_drew)); exact HO149.out))) (Kd.R_lt (by (with_reducible repeat (first | apply Kd.R_alloc | apply Kd.R_drewN | apply Kd.R_drew)); exact HO152.out))) (below_size (by repeat (first | (with_reducible first | exact HB.out | apply below_alloc | apply pw_below_drewN | apply below_drew1) | exact HB.out)))); have n3_ := Aside0.mk (below_step (by repeat (first | (with_reducible first | exact HB.out | apply below_alloc | apply pw_below_drewN | apply below_drew1) | exact HB.out)) hb); clear HO149; clear HO152; clear HB; have HO149 := n0_; have HO152 := n1_; have HO158 := n2_; have HB := n3_; clear n0_ n1_ n2_ n3_; (try clear hb); (try clear hb2); (try clear hk); (try clear hi); (try clear ho0); obtain ⟨Ao22, co22, eo22⟩ := Kd.R_slice HO158.out; subst eo22) | (go_at_call 9; (with_reducible refine (bank_Take.calls k (fun k_ => some k_ = (.slice Ao22 t156.length co22 : Value).ownBlock) _ _ t156 (wrap64 (Int.tmod (IntKind.u64.wrap (a2)) 1000000000000000)) t159 t162 t163 _ ?side1 A11.out).mono ?_); (case side1 => exact Kd.R_V (Kd.R_tight rfl (HO158.out))); rintro e w23 ⟨v160, rfl, ho0, hb⟩; have n0_ := Aside0.mk (Kd.R_elder' (by (with_reducible repeat (first | apply Kd.R_alloc | apply Kd.R_drewN | apply Kd.R_drew)); exact HO149.out) (Kd.R_base ho0) hb); have n1_ := Aside0.mk (Kd.R_elder' (by (with_reducible repeat (first | apply Kd.R_alloc | apply Kd.R_drewN | apply Kd.R_drew)); exact HO152.out) (Kd.R_base ho0) hb); have n2_ := Aside0.mk (Kd.R_elder' (by (with_reducible repeat (first | apply Kd.R_alloc | apply Kd.R_drewN | apply Kd.R_drew)); exact HO158.out) (Kd.R_base ho0) hb); have n3_ := Aside0.mk (Kd.R_lower (Kd.R_new' (Kd.R_new' (Kd.R_new' (Kd.R_mono (ok' := fun k_ => True) ho0 (fun _ hk_ => trivial)) (Kd.R_lt (by (with_reducible repeat (first | apply Kd.R_alloc | apply Kd.R_drewN | apply Kd.R_drew)); exact HO149.out))) (Kd.R_lt (by (with_reducible repeat (first | apply Kd.R_alloc | apply Kd.R_drewN | apply Kd.R_drew)); exact HO152.out))) (Kd.R_lt (by (with_reducible repeat (first | apply Kd.R_alloc | apply Kd.R_drewN | apply Kd.R_drew)); exact HO158.out))) (below_size (by repeat (first | (with_reducible first | exact HB.out | apply below_alloc | apply pw_below_drewN | apply below_drew1) | exact HB.out)))); have n4_ := Aside0.mk (below_step (by repeat (first | (with_reducible first | exact HB.out | apply below_alloc | apply pw_below_drewN | apply below_drew1) | exact HB.out)) hb); clear HO149; clear HO152; clear HO158; clear HB; have HO149 := n0_; have HO152 := n1_; have HO158 := n2_; have HO161 := n3_; have HB := n4_; clear n0_ n1_ n2_ n3_ n4_; (try clear hb); (try clear hb2); (try clear hk); (try clear hi); (try clear ho0)) | (go_at_call 10; have _t := tqA12; clear _t tqA12; (with_reducible refine (pylonlaw19_copyLots.calls _ _ l0 t164 _ ?side1 ?side2 A12.out).mono ?_); (case side1 => repeat (first | exact (Kd.C_below HR0.out HB.out) | (with_reducible refine Kd.C_alloc ?_ _) | (with_reducible refine Kd.C_drewN ?_ _) | (with_reducible refine Kd.C_drew ?_))); (case side2 => exact HC0.out); rintro e w24 ⟨v165, rfl, ho0, hb⟩; have n0_ := Aside0.mk (Kd.R_elder' (by (with_reducible repeat (first | apply Kd.R_alloc | apply Kd.R_drewN | apply Kd.R_drew)); exact HO149.out) (Kd.R_base ho0) hb); have n1_ := Aside0.mk (Kd.R_elder' (by (with_reducible repeat (first | apply Kd.R_alloc | apply Kd.R_drewN | apply Kd.R_drew)); exact HO152.out) (Kd.R_base ho0) hb); have n2_ := Aside0.mk (Kd.R_elder' (by (with_reducible repeat (first | apply Kd.R_alloc | apply Kd.R_drewN | apply Kd.R_drew)); exact HO158.out) (Kd.R_base ho0) hb); have n3_ := Aside0.mk (Kd.R_elder' (by (with_reducible repeat (first | apply Kd.R_alloc | apply Kd.R_drewN | apply Kd.R_drew)); exact HO161.out) (Kd.R_base ho0) hb); have n4_ := Aside0.mk (Kd.R_lower (Kd.R_new' (Kd.R_new' (Kd.R_new' (Kd.R_new' ho0 (Kd.R_lt (by (with_reducible repeat (first | apply Kd.R_alloc | apply Kd.R_drewN | apply Kd.R_drew)); exact HO149.out))) (Kd.R_lt (by (with_reducible repeat (first | apply Kd.R_alloc | apply Kd.R_drewN | apply Kd.R_drew)); exact HO152.out))) (Kd.R_lt (by (with_reducible repeat (first | apply Kd.R_alloc | apply Kd.R_drewN | apply Kd.R_drew)); exact HO158.out))) (Kd.R_lt (by (with_reducible repeat (first | apply Kd.R_alloc | apply Kd.R_drewN | apply Kd.R_drew)); exact HO161.out))) (below_size (by repeat (first | (with_reducible first | exact HB.out | apply below_alloc | apply pw_below_drewN | apply below_drew1) | exact HB.out)))); have n5_ := Aside0.mk (below_step (by repeat (first | (with_reducible first | exact HB.out | apply below_alloc | apply pw_below_drewN | apply below_drew1) | exact HB.out)) hb); clear HO149; clear HO152; clear HO158; clear HO161; clear HB; have HO149 := n0_; have HO152 := n1_; have HO158 := n2_; have HO161 := n3_; have HO166 := n4_; have HB := n5_; clear n0_ n1_ n2_ n3_ n4_ n5_; (try clear hb); (try clear hb2); (try clear hk); (try clear hi); (try clear ho0); obtain ⟨Ao25, co25, eo25⟩ := Kd.R_slice HO166.out; subst eo25) | (go_at_call 9; (with_reducible refine (bank_Take.calls k (fun k_ => some k_ = (.slice Ao25 t164.length co25 : Value).ownBlock) _ _ t164 (wrap64 ((wrap64 (Int.tmod (IntKind.u64.wrap (a1)) 1000000000000000)) + (wrap64 (Int.tmod (IntKind.u64.wrap (a2)) 1000000000000000)))) t167 t170 t171 _ ?side1 A13.out).mono ?_); (case side1 => exact Kd.R_V (Kd.R_tight rfl (HO166.out))); rintro e w26 ⟨v168, rfl, ho0, hb⟩; have n0_ := Aside0.mk (Kd.R_elder' (by (with_reducible repeat (first | apply Kd.R_alloc | apply Kd.R_drewN | apply Kd.R_drew)); exact HO149.out) (Kd.R_base ho0) hb); have n1_ := Aside0.mk (Kd.R_elder' (by (with_reducible repeat (first | apply Kd.R_alloc | apply Kd.R_drewN | apply Kd.R_drew)); exact HO152.out) (Kd.R_base ho0) hb); have n2_ := Aside0.mk (Kd.R_elder' (by (with_reducible repeat (first | apply Kd.R_alloc | apply Kd.R_drewN | apply Kd.R_drew)); exact HO158.out) (Kd.R_base ho0) hb); have n3_ := Aside0.mk (Kd.R_elder' (by (with_reducible repeat (first | apply Kd.R_alloc | apply Kd.R_drewN | apply Kd.R_drew)); exact HO161.out) (Kd.R_base ho0) hb); have n4_ := Aside0.mk (Kd.R_elder' (by (with_reducible repeat (first | apply Kd.R_alloc | apply Kd.R_drewN | apply Kd.R_drew)); exact HO166.out) (Kd.R_base ho0) hb); have n5_ := Aside0.mk (Kd.R_lower (Kd.R_new' (Kd.R_new' (Kd.R_new' (Kd.R_new' (Kd.R_new' (Kd.R_mono (ok' := fun k_ => True) ho0 (fun _ hk_ => trivial)) (Kd.R_lt (by (with_reducible repeat (first | apply Kd.R_alloc | apply Kd.R_drewN | apply Kd.R_drew)); exact HO149.out))) (Kd.R_lt (by (with_reducible repeat (first | apply Kd.R_alloc | apply Kd.R_drewN | apply Kd.R_drew)); exact HO152.out))) (Kd.R_lt (by (with_reducible repeat (first | apply Kd.R_alloc | apply Kd.R_drewN | apply Kd.R_drew)); exact HO158.out))) (Kd.R_lt (by (with_reducible repeat (first | apply Kd.R_alloc | apply Kd.R_drewN | apply Kd.R_drew)); exact HO161.out))) (Kd.R_lt (by (with_reducible repeat (first | apply Kd.R_alloc | apply Kd.R_drewN | apply Kd.R_drew)); exact HO166.out))) (below_size (by repeat (first | (with_reducible first | exact HB.out | apply below_alloc | apply pw_below_drewN | apply below_drew1) | exact HB.out)))); have n6_ := Aside0.mk (below_step (by repeat (first | (with_reducible first | exact HB.out | apply below_alloc | apply pw_below_drewN | apply below_drew1) | exact HB.out)) hb); clear HO149; clear HO152; clear HO158; clear HO161; clear HO166; clear HB; have HO149 := n0_; have HO152 := n1_; have HO158 := n2_; have HO161 := n3_; have HO166 := n4_; have HO169 := n5_; have HB := n6_; clear n0_ n1_ n2_ n3_ n4_ n5_ n6_; (try clear hb); (try clear hb2); (try clear hk); (try clear hi); (try clear ho0))); go_upto_region 9 with (first | (go_at_call 8; (with_reducible refine (pylonlaw19_awake.calls k  true _ A4.out).mono ?_); rintro e w15 ⟨rfl, hb⟩; have n0_ := Aside0.mk (below_step (by repeat (first | (with_reducible first | exact HB.out | apply below_alloc | apply pw_below_drewN | apply below_drew1) | exact HB.out)) hb); clear HB; have HB := n0_; clear n0_; (try clear hb); (try clear hb2); (try clear hk); (try clear hi)) | (go_at_call 10; have _t := tqA6; clear _t tqA6; (with_reducible refine (pylonlaw19_copyLots.calls _ _ l0 t147 _ ?side1 ?side2 A6.out).mono ?_); (case side1 => repeat (first | exact (Kd.C_below HR0.out HB.out) | (with_reducible refine Kd.C_alloc ?_ _) | (with_reducible refine Kd.C_drewN ?_ _) | (with_reducible refine Kd.C_drew ?_))); (case side2 => exact HC0.out); rintro e w16 ⟨v148, rfl, ho0, hb⟩; have n0_ := Aside0.mk (Kd.R_lower ho0 (below_size (by repeat (first | (with_reducible first | exact HB.out | apply below_alloc | apply pw_below_drewN | apply below_drew1) | exact HB.out)))); have n1_ := Aside0.mk (below_step (by repeat (first | (with_reducible first | exact HB.out | apply below_alloc | apply pw_below_drewN | apply below_drew1) | exact HB.out)) hb); clear HB; have HO149 := n0_; have HB := n1_; clear n0_ n1_; (try clear hb); (try clear hb2); (try clear hk); (try clear hi); (try clear ho0); obtain ⟨Ao17, co17, eo17⟩ := Kd.R_slice HO149.out; subst eo17) | (go_at_call 9; (with_reducible refine (bank_Take.calls k (fun k_ => some k_ = (.slice Ao17 t147.length co17 : Value).ownBlock) _ _ t147 (wrap64 (Int.tmod (IntKind.u64.wrap (a1)) 1000000000000000)) t150 t153 t154 _ ?side1 A7.out).mono ?_); (case side1 => exact Kd.R_V (Kd.R_tight rfl (HO149.out))); rintro e w18 ⟨v151, rfl, ho0, hb⟩; have n0_ := Aside0.mk (Kd.R_elder' (by (with_reducible repeat (first | apply Kd.R_alloc | apply Kd.R_drewN | apply Kd.R_drew)); exact HO149.out) (Kd.R_base ho0) hb); have n1_ := Aside0.mk (Kd.R_lower (Kd.R_new' (Kd.R_mono (ok' := fun k_ => True) ho0 (fun _ hk_ => trivial)) (Kd.R_lt (by (with_reducible repeat (first | apply Kd.R_alloc | apply Kd.R_drewN | apply Kd.R_drew)); exact HO149.out))) (below_size (by repeat (first | (with_reducible first | exact HB.out | apply below_alloc | apply pw_below_drewN | apply below_drew1) | exact HB.out)))); have n2_ := Aside0.mk (below_step (by repeat (first | (with_reducible first | exact HB.out | apply below_alloc | apply pw_below_drewN | apply below_drew1) | exact HB.out)) hb); clear HO149; clear HB; have HO149 := n0_; have HO152 := n1_; have HB := n2_; clear n0_ n1_ n2_; (try clear hb); (try clear hb2); (try clear hk); (try clear hi); (try clear ho0)) | (go_at_call 11; (with_reducible refine (pylonref19_Check.calls k _ _ l0 t155 _ ?side1 ?side2 A8.out).mono ?_); (case side1 => repeat (first | exact (Kd.C_below HR0.out HB.out) | (with_reducible refine Kd.C_alloc ?_ _) | (with_reducible refine Kd.C_drewN ?_ _) | (with_reducible refine Kd.C_drew ?_))); (case side2 => exact HC0.out); rintro e w19 ⟨rfl, hb⟩; have n0_ := Aside0.mk (Kd.R_below (by (with_reducible repeat (first | apply Kd.R_alloc | apply Kd.R_drewN | apply Kd.R_drew)); exact HO149.out) hb); have n1_ := Aside0.mk (Kd.R_below (by (with_reducible repeat (first | apply Kd.R_alloc | apply Kd.R_drewN | apply Kd.R_drew)); exact HO152.out) hb); have n2_ := Aside0.mk (below_step (by repeat (first | (with_reducible first | exact HB.out | apply below_alloc | apply pw_below_drewN | apply below_drew1) | exact HB.out)) hb); clear HO149; clear HO152; clear HB; have HO149 := n0_; have HO152 := n1_; have HB := n2_; clear n0_ n1_ n2_; (try clear hb); (try clear hb2); (try clear hk); (try clear hi); obtain ⟨Ao20, co20, eo20⟩ := Kd.R_slice HO152.out; subst eo20) | (go_at_call 10; (with_reducible refine (pylonlaw19_copyLots.calls _ _ t150 t156 _ ?side1 ?side2 A10.out).mono ?_); (case side1 => repeat (first | exact (Kd.R_reads' HO152.out).2.2 | (with_reducible refine Kd.C_alloc ?_ _) | (with_reducible refine Kd.C_drewN ?_ _) | (with_reducible refine Kd.C_drew ?_))); (case side2 => exact (Kd.R_reads' HO152.out).2.1); rintro e w21 ⟨v157, rfl, ho0, hb⟩; have n0_ := Aside0.mk (Kd.R_elder' (by (with_reducible repeat (first | apply Kd.R_alloc | apply Kd.R_drewN | apply Kd.R_drew)); exact HO149.out) (Kd.R_base ho0) hb); have n1_ := Aside0.mk (Kd.R_elder' (by (with_reducible repeat (first | apply Kd.R_alloc | apply Kd.R_drewN | apply Kd.R_drew)); exact HO152.out) (Kd.R_base ho0) hb); have n2_ := Aside0.mk (Kd.R_lower (Kd.R_new' (Kd.R_new' ho0 (Kd.R_lt (by (with_reducible repeat (first | apply Kd.R_alloc | apply Kd.R_drewN | apply Kd.R_drew)); exact HO149.out))) (Kd.R_lt (by (with_reducible repeat (first | apply Kd.R_alloc | apply Kd.R_drewN | apply Kd.R_drew)); exact HO152.out))) (below_size (by repeat (first | (with_reducible first | exact HB.out | apply below_alloc | apply pw_below_drewN | apply below_drew1) | exact HB.out)))); have n3_ := Aside0.mk (below_step (by repeat (first | (with_reducible first | exact HB.out | apply below_alloc | apply pw_below_drewN | apply below_drew1) | exact HB.out)) hb); clear HO149; clear HO152; clear HB; have HO149 := n0_; have HO152 := n1_; have HO158 := n2_; have HB := n3_; clear n0_ n1_ n2_ n3_; (try clear hb); (try clear hb2); (try clear hk); (try clear hi); (try clear ho0); obtain ⟨Ao22, co22, eo22⟩ := Kd.R_slice HO158.out; subst eo22) | (go_at_call 9; (with_reducible refine (bank_Take.calls k (fun k_ => some k_ = (.slice Ao22 t156.length co22 : Value).ownBlock) _ _ t156 (wrap64 (Int.tmod (IntKind.u64.wrap (a2)) 1000000000000000)) t159 t162 t163 _ ?side1 A11.out).mono ?_); (case side1 => exact Kd.R_V (Kd.R_tight rfl (HO158.out))); rintro e w23 ⟨v160, rfl, ho0, hb⟩; have n0_ := Aside0.mk (Kd.R_elder' (by (with_reducible repeat (first | apply Kd.R_alloc | apply Kd.R_drewN | apply Kd.R_drew)); exact HO149.out) (Kd.R_base ho0) hb); have n1_ := Aside0.mk (Kd.R_elder' (by (with_reducible repeat (first | apply Kd.R_alloc | apply Kd.R_drewN | apply Kd.R_drew)); exact HO152.out) (Kd.R_base ho0) hb); have n2_ := Aside0.mk (Kd.R_elder' (by (with_reducible repeat (first | apply Kd.R_alloc | apply Kd.R_drewN | apply Kd.R_drew)); exact HO158.out) (Kd.R_base ho0) hb); have n3_ := Aside0.mk (Kd.R_lower (Kd.R_new' (Kd.R_new' (Kd.R_new' (Kd.R_mono (ok' := fun k_ => True) ho0 (fun _ hk_ => trivial)) (Kd.R_lt (by (with_reducible repeat (first | apply Kd.R_alloc | apply Kd.R_drewN | apply Kd.R_drew)); exact HO149.out))) (Kd.R_lt (by (with_reducible repeat (first | apply Kd.R_alloc | apply Kd.R_drewN | apply Kd.R_drew)); exact HO152.out))) (Kd.R_lt (by (with_reducible repeat (first | apply Kd.R_alloc | apply Kd.R_drewN | apply Kd.R_drew)); exact HO158.out))) (below_size (by repeat (first | (with_reducible first | exact HB.out | apply below_alloc | apply pw_below_drewN | apply below_drew1) | exact HB.out)))); have n4_ := Aside0.mk (below_step (by repeat (first | (with_reducible first | exact HB.out | apply below_alloc | apply pw_below_drewN | apply below_drew1) | exact HB.out)) hb); clear HO149; clear HO152; clear HO158; clear HB; have HO149 := n0_; have HO152 := n1_; have HO158 := n2_; have HO161 := n3_; have HB := n4_; clear n0_ n1_ n2_ n3_ n4_; (try clear hb); (try clear hb2); (try clear hk); (try clear hi); (try clear ho0)) | (go_at_call 10; have _t := tqA12; clear _t tqA12; (with_reducible refine (pylonlaw19_copyLots.calls _ _ l0 t164 _ ?side1 ?side2 A12.out).mono ?_); (case side1 => repeat (first | exact (Kd.C_below HR0.out HB.out) | (with_reducible refine Kd.C_alloc ?_ _) | (with_reducible refine Kd.C_drewN ?_ _) | (with_reducible refine Kd.C_drew ?_))); (case side2 => exact HC0.out); rintro e w24 ⟨v165, rfl, ho0, hb⟩; have n0_ := Aside0.mk (Kd.R_elder' (by (with_reducible repeat (first | apply Kd.R_alloc | apply Kd.R_drewN | apply Kd.R_drew)); exact HO149.out) (Kd.R_base ho0) hb); have n1_ := Aside0.mk (Kd.R_elder' (by (with_reducible repeat (first | apply Kd.R_alloc | apply Kd.R_drewN | apply Kd.R_drew)); exact HO152.out) (Kd.R_base ho0) hb); have n2_ := Aside0.mk (Kd.R_elder' (by (with_reducible repeat (first | apply Kd.R_alloc | apply Kd.R_drewN | apply Kd.R_drew)); exact HO158.out) (Kd.R_base ho0) hb); have n3_ := Aside0.mk (Kd.R_elder' (by (with_reducible repeat (first | apply Kd.R_alloc | apply Kd.R_drewN | apply Kd.R_drew)); exact HO161.out) (Kd.R_base ho0) hb); have n4_ := Aside0.mk (Kd.R_lower (Kd.R_new' (Kd.R_new' (Kd.R_new' (Kd.R_new' ho0 (Kd.R_lt (by (with_reducible repeat (first | apply Kd.R_alloc | apply Kd.R_drewN | apply Kd.R_drew)); exact HO149.out))) (Kd.R_lt (by (with_reducible repeat (first | apply Kd.R_alloc | apply Kd.R_drewN | apply Kd.R_drew)); exact HO152.out))) (Kd.R_lt (by (with_reducible repeat (first | apply Kd.R_alloc | apply Kd.R_drewN | apply Kd.R_drew)); exact HO158.out))) (Kd.R_lt (by (with_reducible repeat (first | apply Kd.R_alloc | apply Kd.R_drewN | apply Kd.R_drew)); exact HO161.out))) (below_size (by repeat (first | (with_reducible first | exact HB.out | apply below_alloc | apply pw_below_drewN | apply below_drew1) | exact HB.out)))); have n5_ := Aside0.mk (below_step (by repeat (first | (with_reducible first | exact HB.out | apply below_alloc | apply pw_below_drewN | apply below_drew1) | exact HB.out)) hb); clear HO149; clear HO152; clear HO158; clear HO161; clear HB; have HO149 := n0_; have HO152 := n1_; have HO158 := n2_; have HO161 := n3_; have HO166 := n4_; have HB := n5_; clear n0_ n1_ n2_ n3_ n4_ n5_; (try clear hb); (try clear hb2); (try clear hk); (try clear hi); (try clear ho0); obtain ⟨Ao25, co25, eo25⟩ := Kd.R_slice HO166.out; subst eo25) | (go_at_call 9; (with_reducible refine (bank_Take.calls k (fun k_ => some k_ = (.slice Ao25 t164.length co25 : Value).ownBlock) _ _ t164 (wrap64 ((wrap64 (Int.tmod (IntKind.u64.wrap (a1)) 1000000000000000)) + (wrap64 (Int.tmod (IntKind.u64.wrap (a2)) 1000000000000000)))) t167 t170 t171 _ ?side1 A13.out).mono ?_); (case side1 => exact Kd.R_V (Kd.R_tight rfl (HO166.out))); rintro e w26 ⟨v168, rfl, ho0, hb⟩; have n0_ := Aside0.mk (Kd.R_elder' (by (with_reducible repeat (first | apply Kd.R_alloc | apply Kd.R_drewN | apply Kd.R_drew)); exact HO149.out) (Kd.R_base ho0) hb); have n1_ := Aside0.mk (Kd.R_elder' (by (with_reducible repeat (first | apply Kd.R_alloc | apply Kd.R_drewN | apply Kd.R_drew)); exact HO152.out) (Kd.R_base ho0) hb); have n2_ := Aside0.mk (Kd.R_elder' (by (with_reducible repeat (first | apply Kd.R_alloc | apply Kd.R_drewN | apply Kd.R_drew)); exact HO158.out) (Kd.R_base ho0) hb); have n3_ := Aside0.mk (Kd.R_elder' (by (with_reducible repeat (first | apply Kd.R_alloc | apply Kd.R_drewN | apply Kd.R_drew)); exact HO161.out) (Kd.R_base ho0) hb); have n4_ := Aside0.mk (Kd.R_elder' (by (with_reducible repeat (first | apply Kd.R_alloc | apply Kd.R_drewN | apply Kd.R_drew)); exact HO166.out) (Kd.R_base ho0) hb); have n5_ := Aside0.mk (Kd.R_lower (Kd.R_new' (Kd.R_new' (Kd.R_new' (Kd.R_new' (Kd.R_new' (Kd.R_mono (ok' := fun k_ => True) ho0 (fun _ hk_ => trivial)) (Kd.R_lt (by (with_reducible repeat (first | apply Kd.R_alloc | apply Kd.R_drewN | apply Kd.R_drew)); exact HO149.out))) (Kd.R_lt (by (with_reducible repeat (first | apply Kd.R_alloc | apply Kd.R_drewN | apply Kd.R_drew)); exact HO152.out))) (Kd.R_lt (by (with_reducible repeat (first | apply Kd.R_alloc | apply Kd.R_drewN | apply Kd.R_drew)); exact HO158.out))) (Kd.R_lt (by (with_reducible repeat (first | apply Kd.R_alloc | apply Kd.R_drewN | apply Kd.R_drew)); exact HO161.out))) (Kd.R_lt (by (with_reducible repeat (first | apply Kd.R_alloc | apply Kd.R_drewN | apply Kd.R_drew)); exact HO166.out))) (below_size (by repeat (first | (with_reducible first | exact HB.out | apply below_alloc | apply pw_below_drewN | apply below_drew1) | exact HB.out)))); have n6_ := Aside0.mk (below_step (by repeat (first | (with_reducible first | exact HB.out | apply below_alloc | apply pw_below_drewN | apply below_drew1) | exact HB.out)) hb); clear HO149; clear HO152; clear HO158; clear HO161; clear HO166; clear HB; have HO149 := n0_; have HO152 := n1_; have HO158 := n2_; have HO161 := n3_; have HO166 := n4_; have HO169 := n5_; have HB := n6_; clear n0_ n1_ n2_ n3_ n4_ n5_ n6_; (try clear hb); (try clear hb2); (try clear hk); (try clear hi); (try clear ho0))))
   (try simp only [Act.put, List.setIfInBounds_toArray, List.set_cons_zero, List.set_cons_succ])
   go_cut [114] (fun v114 wc => ∃ (kq : Nat) (x114_13 : Bool), v114 = .bool x114_13 ∧ Aside0 (pylonlaw19_BankOldest.j0 kq l0 t150 x114_13 = some r) ∧ Aside0 (kq ≤ k) ∧ Aside0 (Kd.R k32 32 wc w.heap.size (fun _ => True) (.slice Ao20 t150.length co20) t150) ∧ Aside0 (Below w.heap.size w wc))
   case first =>
    have H := HC14.out
    clear HC14
    by_cases c27 : t154 = 0
    ·rw [if_pos c27] at H
     have c27b0 : (t154 == 0) = true := beq_iff_eq.mpr c27
     have c27b1 : (t154 != 0) = false := bne_eq_false_iff_eq.mpr c27
     clear c27
     (first | rw [c27b0] | (simp only [i64_w, i32_w]; rw [c27b0]) | skip)
     by_cases c28 : t163 = 0
     ·rw [if_pos c28] at H
      have c28b0 : (t163 == 0) = true := beq_iff_eq.mpr c28
      have c28b1 : (t163 != 0) = false := bne_eq_false_iff_eq.mpr c28
      clear c28
      by_cases c29 : t171 = 0
      ·rw [if_pos c29] at H
       have c29b0 : (t171 == 0) = true := beq_iff_eq.mpr c29
       have c29b1 : (t171 != 0) = false := bne_eq_false_iff_eq.mpr c29
       clear c29
       by_cases c30 : t153 < 0
       ·rw [if_pos c30] at H
        have c30b0 : decide (t153 < 0) = true := decide_eq_true c30
        clear c30
        have H' := Aside0.mk H
        clear H
        go_wp2
        repeat (go_quiet (fail); try go_wp2)
        go_meet
        case rel => exact ⟨_, (true), (by first | rfl | (simp; done) | (simp [*]; done)), H', ⟨by first | omega | exact Nat.le_refl _⟩, ⟨by (with_reducible repeat (first | apply Kd.R_alloc | apply Kd.R_drewN | apply Kd.R_drew)); exact Kd.R_mono HO152.out (fun _ hk => trivial)⟩, ⟨by repeat (first | (with_reducible first | exact HB.out | apply below_alloc | apply pw_below_drewN | apply below_drew1) | exact HB.out)⟩⟩
       ·rw [if_neg c30] at H
        have c30b0 : decide (t153 < 0) = false := decide_eq_false c30
        clear c30
        by_cases c31 : t162 < 0
        ·rw [if_pos c31] at H
         have c31b0 : decide (t162 < 0) = true := decide_eq_true c31
         clear c31
         have H' := Aside0.mk H
         clear H
         go_wp2
         repeat (go_quiet (fail); try go_wp2)
         go_meet
         case rel => exact ⟨_, (true), (by first | rfl | (simp; done) | (simp [*]; done)), H', ⟨by first | omega | exact Nat.le_refl _⟩, ⟨by (with_reducible repeat (first | apply Kd.R_alloc | apply Kd.R_drewN | apply Kd.R_drew)); exact Kd.R_mono HO152.out (fun _ hk => trivial)⟩, ⟨by repeat (first | (with_reducible first | exact HB.out | apply below_alloc | apply pw_below_drewN | apply below_drew1) | exact HB.out)⟩⟩
        ·rw [if_neg c31] at H
         have c31b0 : decide (t162 < 0) = false := decide_eq_false c31
         clear c31
         by_cases c32 : t153 > (wrap64 (Int.tmod (IntKind.u64.wrap (a1)) 1000000000000000))
         ·rw [if_pos c32] at H
          have c32b0 : decide ((wrap64 (Int.tmod (IntKind.u64.wrap (a1)) 1000000000000000)) < t153) = true := decide_eq_true c32
          clear c32
          have H' := Aside0.mk H
          clear H
          go_wp2
          repeat (go_quiet (fail); try go_wp2)
          go_meet
          case rel => exact ⟨_, (true), (by first | rfl | (simp; done) | (simp [*]; done)), H', ⟨by first | omega | exact Nat.le_refl _⟩, ⟨by (with_reducible repeat (first | apply Kd.R_alloc | apply Kd.R_drewN | apply Kd.R_drew)); exact Kd.R_mono HO152.out (fun _ hk => trivial)⟩, ⟨by repeat (first | (with_reducible first | exact HB.out | apply below_alloc | apply pw_below_drewN | apply below_drew1) | exact HB.out)⟩⟩
         ·rw [if_neg c32] at H
          have c32b0 : decide ((wrap64 (Int.tmod (IntKind.u64.wrap (a1)) 1000000000000000)) < t153) = false := decide_eq_false c32
          clear c32
          by_cases c33 : t162 > (wrap64 (Int.tmod (IntKind.u64.wrap (a2)) 1000000000000000))
          ·rw [if_pos c33] at H
           have c33b0 : decide ((wrap64 (Int.tmod (IntKind.u64.wrap (a2)) 1000000000000000)) < t162) = true := decide_eq_true c33
           clear c33
           have H' := Aside0.mk H
           clear H
           go_wp2
           repeat (go_quiet (fail); try go_wp2)
           go_meet
           case rel => exact ⟨_, (true), (by first | rfl | (simp; done) | (simp [*]; done)), H', ⟨by first | omega | exact Nat.le_refl _⟩, ⟨by (with_reducible repeat (first | apply Kd.R_alloc | apply Kd.R_drewN | apply Kd.R_drew)); exact Kd.R_mono HO152.out (fun _ hk => trivial)⟩, ⟨by repeat (first | (with_reducible first | exact HB.out | apply below_alloc | apply pw_below_drewN | apply below_drew1) | exact HB.out)⟩⟩
          ·rw [if_neg c33] at H
           have c33b0 : decide ((wrap64 (Int.tmod (IntKind.u64.wrap (a2)) 1000000000000000)) < t162) = false := decide_eq_false c33
           clear c33
           by_cases c34 : t170 = (wrap64 (t153 + t162))
           ·rw [if_pos c34] at H
            have c34b0 : (t170 == (wrap64 (t153 + t162))) = true := beq_iff_eq.mpr c34
            have c34b1 : (t170 != (wrap64 (t153 + t162))) = false := bne_eq_false_iff_eq.mpr c34
            clear c34
            replace H := Option.bind_eq_some_iff.mp H
            obtain ⟨t172, A350, H⟩ := H
            replace H : (if t172 = true then (pylonlaw19_BankOldest.j0 k l0 t150 (decide ((t150.length : Int) > (l0.length : Int)))) else (pylonlaw19_BankOldest.j0 k l0 t150 true)) = some r := H
            have A35 := Aside0.mk A350
            clear A350
            by_cases c36 : t172 = true
            ·subst c36
             have H1 : (pylonlaw19_BankOldest.j0 k l0 t150 (decide ((t150.length : Int) > (l0.length : Int)))) = some r := by rw [if_pos rfl] at H; exact H
             clear H
             have H := H1
             clear H1
             have H' := Aside0.mk H
             clear H
             obtain ⟨Ao37, co37, eo37⟩ := Kd.R_slice HO161.out
             subst eo37
             obtain ⟨Ao38, co38, eo38⟩ := Kd.R_slice HO169.out
             subst eo38
             go_wp2_with (first | (go_at_call 12; (with_reducible refine (pylonref19_SameLots.calls k _ _ t159 _ _ t167 true _ ?side1 ?side2 ?side3 ?side4 A35.out).mono ?_); (case side1 => repeat (first | exact (Kd.R_reads' HO161.out).2.2 | (with_reducible refine Kd.C_alloc ?_ _) | (with_reducible refine Kd.C_drewN ?_ _) | (with_reducible refine Kd.C_drew ?_))); (case side2 => exact (Kd.R_reads' HO161.out).2.1); (case side3 => repeat (first | exact (Kd.R_reads' HO169.out).2.2 | (with_reducible refine Kd.C_alloc ?_ _) | (with_reducible refine Kd.C_drewN ?_ _) | (with_reducible refine Kd.C_drew ?_))); (case side4 => exact (Kd.R_reads' HO169.out).2.1); rintro e w' ⟨rfl, ⟨nd, rfl⟩⟩; (try first | exact ⟨rfl, _, World.drewN_drewN _ _ _⟩ | exact ⟨rfl, _, Eq.trans (World.drewN_drewN _ _ _) (congrArg (World.drewN _) (Nat.add_assoc _ _ _))⟩)))
             repeat (go_quiet (first | (go_at_call 12; (with_reducible refine (pylonref19_SameLots.calls k _ _ t159 _ _ t167 true _ ?side1 ?side2 ?side3 ?side4 A35.out).mono ?_); (case side1 => repeat (first | exact (Kd.R_reads' HO161.out).2.2 | (with_reducible refine Kd.C_alloc ?_ _) | (with_reducible refine Kd.C_drewN ?_ _) | (with_reducible refine Kd.C_drew ?_))); (case side2 => exact (Kd.R_reads' HO161.out).2.1); (case side3 => repeat (first | exact (Kd.R_reads' HO169.out).2.2 | (with_reducible refine Kd.C_alloc ?_ _) | (with_reducible refine Kd.C_drewN ?_ _) | (with_reducible refine Kd.C_drew ?_))); (case side4 => exact (Kd.R_reads' HO169.out).2.1); rintro e w' ⟨rfl, ⟨nd, rfl⟩⟩; (try first | exact ⟨rfl, _, World.drewN_drewN _ _ _⟩ | exact ⟨rfl, _, Eq.trans (World.drewN_drewN _ _ _) (congrArg (World.drewN _) (Nat.add_assoc _ _ _))⟩))); try go_wp2_with (first | (go_at_call 12; (with_reducible refine (pylonref19_SameLots.calls k _ _ t159 _ _ t167 true _ ?side1 ?side2 ?side3 ?side4 A35.out).mono ?_); (case side1 => repeat (first | exact (Kd.R_reads' HO161.out).2.2 | (with_reducible refine Kd.C_alloc ?_ _) | (with_reducible refine Kd.C_drewN ?_ _) | (with_reducible refine Kd.C_drew ?_))); (case side2 => exact (Kd.R_reads' HO161.out).2.1); (case side3 => repeat (first | exact (Kd.R_reads' HO169.out).2.2 | (with_reducible refine Kd.C_alloc ?_ _) | (with_reducible refine Kd.C_drewN ?_ _) | (with_reducible refine Kd.C_drew ?_))); (case side4 => exact (Kd.R_reads' HO169.out).2.1); rintro e w' ⟨rfl, ⟨nd, rfl⟩⟩; (try first | exact ⟨rfl, _, World.drewN_drewN _ _ _⟩ | exact ⟨rfl, _, Eq.trans (World.drewN_drewN _ _ _) (congrArg (World.drewN _) (Nat.add_assoc _ _ _))⟩))))
             go_meet
             case rel => exact ⟨_, (decide ((t150.length : Int) > (l0.length : Int))), (by first | rfl | (simp; done) | (simp [*]; done)), H', ⟨by first | omega | exact Nat.le_refl _⟩, ⟨by (with_reducible repeat (first | apply Kd.R_alloc | apply Kd.R_drewN | apply Kd.R_drew)); exact Kd.R_mono HO152.out (fun _ hk => trivial)⟩, ⟨by repeat (first | (with_reducible first | exact HB.out | apply below_alloc | apply pw_below_drewN | apply below_drew1) | exact HB.out)⟩⟩
            ·replace c36 := Bool.eq_false_iff.mpr c36
             subst c36
             have H1 : (pylonlaw19_BankOldest.j0 k l0 t150 true) = some r := by rw [if_neg (show ¬ (false = true) by decide)] at H; exact H
             clear H
             have H := H1
             clear H1
             have H' := Aside0.mk H
             clear H
             obtain ⟨Ao39, co39, eo39⟩ := Kd.R_slice HO161.out
             subst eo39
             obtain ⟨Ao40, co40, eo40⟩ := Kd.R_slice HO169.out
             subst eo40
             go_wp2_with (first | (go_at_call 12; (with_reducible refine (pylonref19_SameLots.calls k _ _ t159 _ _ t167 false _ ?side1 ?side2 ?side3 ?side4 A35.out).mono ?_); (case side1 => repeat (first | exact (Kd.R_reads' HO161.out).2.2 | (with_reducible refine Kd.C_alloc ?_ _) | (with_reducible refine Kd.C_drewN ?_ _) | (with_reducible refine Kd.C_drew ?_))); (case side2 => exact (Kd.R_reads' HO161.out).2.1); (case side3 => repeat (first | exact (Kd.R_reads' HO169.out).2.2 | (with_reducible refine Kd.C_alloc ?_ _) | (with_reducible refine Kd.C_drewN ?_ _) | (with_reducible refine Kd.C_drew ?_))); (case side4 => exact (Kd.R_reads' HO169.out).2.1); rintro e w' ⟨rfl, ⟨nd, rfl⟩⟩; (try first | exact ⟨rfl, _, World.drewN_drewN _ _ _⟩ | exact ⟨rfl, _, Eq.trans (World.drewN_drewN _ _ _) (congrArg (World.drewN _) (Nat.add_assoc _ _ _))⟩)))
             repeat (go_quiet (first | (go_at_call 12; (with_reducible refine (pylonref19_SameLots.calls k _ _ t159 _ _ t167 false _ ?side1 ?side2 ?side3 ?side4 A35.out).mono ?_); (case side1 => repeat (first | exact (Kd.R_reads' HO161.out).2.2 | (with_reducible refine Kd.C_alloc ?_ _) | (with_reducible refine Kd.C_drewN ?_ _) | (with_reducible refine Kd.C_drew ?_))); (case side2 => exact (Kd.R_reads' HO161.out).2.1); (case side3 => repeat (first | exact (Kd.R_reads' HO169.out).2.2 | (with_reducible refine Kd.C_alloc ?_ _) | (with_reducible refine Kd.C_drewN ?_ _) | (with_reducible refine Kd.C_drew ?_))); (case side4 => exact (Kd.R_reads' HO169.out).2.1); rintro e w' ⟨rfl, ⟨nd, rfl⟩⟩; (try first | exact ⟨rfl, _, World.drewN_drewN _ _ _⟩ | exact ⟨rfl, _, Eq.trans (World.drewN_drewN _ _ _) (congrArg (World.drewN _) (Nat.add_assoc _ _ _))⟩))); try go_wp2_with (first | (go_at_call 12; (with_reducible refine (pylonref19_SameLots.calls k _ _ t159 _ _ t167 false _ ?side1 ?side2 ?side3 ?side4 A35.out).mono ?_); (case side1 => repeat (first | exact (Kd.R_reads' HO161.out).2.2 | (with_reducible refine Kd.C_alloc ?_ _) | (with_reducible refine Kd.C_drewN ?_ _) | (with_reducible refine Kd.C_drew ?_))); (case side2 => exact (Kd.R_reads' HO161.out).2.1); (case side3 => repeat (first | exact (Kd.R_reads' HO169.out).2.2 | (with_reducible refine Kd.C_alloc ?_ _) | (with_reducible refine Kd.C_drewN ?_ _) | (with_reducible refine Kd.C_drew ?_))); (case side4 => exact (Kd.R_reads' HO169.out).2.1); rintro e w' ⟨rfl, ⟨nd, rfl⟩⟩; (try first | exact ⟨rfl, _, World.drewN_drewN _ _ _⟩ | exact ⟨rfl, _, Eq.trans (World.drewN_drewN _ _ _) (congrArg (World.drewN _) (Nat.add_assoc _ _ _))⟩))))
             go_meet
             case rel => exact ⟨_, (true), (by first | rfl | (simp; done) | (simp [*]; done)), H', ⟨by first | omega | exact Nat.le_refl _⟩, ⟨by (with_reducible repeat (first | apply Kd.R_alloc | apply Kd.R_drewN | apply Kd.R_drew)); exact Kd.R_mono HO152.out (fun _ hk => trivial)⟩, ⟨by repeat (first | (with_reducible first | exact HB.out | apply below_alloc | apply pw_below_drewN | apply below_drew1) | exact HB.out)⟩⟩
           ·rw [if_neg c34] at H
            have c34b0 : (t170 == (wrap64 (t153 + t162))) = false := beq_eq_false_iff_ne.mpr c34
            have c34b1 : (t170 != (wrap64 (t153 + t162))) = true := bne_iff_ne.mpr c34
            have H' := Aside0.mk H
            clear H
            go_wp2
            repeat (go_quiet (fail); try go_wp2)
            go_meet
            case rel => exact ⟨_, (true), (by first | rfl | (simp; done) | (simp [*]; done)), H', ⟨by first | omega | exact Nat.le_refl _⟩, ⟨by (with_reducible repeat (first | apply Kd.R_alloc | apply Kd.R_drewN | apply Kd.R_drew)); exact Kd.R_mono HO152.out (fun _ hk => trivial)⟩, ⟨by repeat (first | (with_reducible first | exact HB.out | apply below_alloc | apply pw_below_drewN | apply below_drew1) | exact HB.out)⟩⟩
      ·rw [if_neg c29] at H
       have c29b0 : (t171 == 0) = false := beq_eq_false_iff_ne.mpr c29
       have c29b1 : (t171 != 0) = true := bne_iff_ne.mpr c29
       have H' := Aside0.mk H
       clear H
       go_wp2
       repeat (go_quiet (fail); try go_wp2)
       go_meet
       case rel => exact ⟨_, (true), (by first | rfl | (simp; done) | (simp [*]; done)), H', ⟨by first | omega | exact Nat.le_refl _⟩, ⟨by (with_reducible repeat (first | apply Kd.R_alloc | apply Kd.R_drewN | apply Kd.R_drew)); exact Kd.R_mono HO152.out (fun _ hk => trivial)⟩, ⟨by repeat (first | (with_reducible first | exact HB.out | apply below_alloc | apply pw_below_drewN | apply below_drew1) | exact HB.out)⟩⟩
     ·rw [if_neg c28] at H
      have c28b0 : (t163 == 0) = false := beq_eq_false_iff_ne.mpr c28
      have c28b1 : (t163 != 0) = true := bne_iff_ne.mpr c28
      have H' := Aside0.mk H
      clear H
      go_wp2
      repeat (go_quiet (fail); try go_wp2)
      go_meet
      case rel => exact ⟨_, (true), (by first | rfl | (simp; done) | (simp [*]; done)), H', ⟨by first | omega | exact Nat.le_refl _⟩, ⟨by (with_reducible repeat (first | apply Kd.R_alloc | apply Kd.R_drewN | apply Kd.R_drew)); exact Kd.R_mono HO152.out (fun _ hk => trivial)⟩, ⟨by repeat (first | (with_reducible first | exact HB.out | apply below_alloc | apply pw_below_drewN | apply below_drew1) | exact HB.out)⟩⟩
    ·rw [if_neg c27] at H
     have c27b0 : (t154 == 0) = false := beq_eq_false_iff_ne.mpr c27
     have c27b1 : (t154 != 0) = true := bne_iff_ne.mpr c27
     (first | rw [c27b0] | (simp only [i64_w, i32_w]; rw [c27b0]) | skip)
     have H' := Aside0.mk H
     clear H
     go_wp2
     repeat (go_quiet (fail); try go_wp2)
     go_meet
     case rel => exact ⟨_, (true), (by first | rfl | (simp; done) | (simp [*]; done)), H', ⟨by first | omega | exact Nat.le_refl _⟩, ⟨by (with_reducible repeat (first | apply Kd.R_alloc | apply Kd.R_drewN | apply Kd.R_drew)); exact Kd.R_mono HO152.out (fun _ hk => trivial)⟩, ⟨by repeat (first | (with_reducible first | exact HB.out | apply below_alloc | apply pw_below_drewN | apply below_drew1) | exact HB.out)⟩⟩
   case rest =>
    clear HC14
    try clear c2
    try clear p2
    try clear c3
    try clear c5
    try clear p6
    try clear c9
    try clear c9b0
    try clear c9b1
    try clear c27
    try clear c27b0
    try clear c27b1
    try clear c28
    try clear c28b0
    try clear c28b1
    try clear c29
    try clear c29b0
    try clear c29b1
    try clear c30
    try clear c30b0
    try clear c31
    try clear c31b0
    try clear c32
    try clear c32b0
    try clear c33
    try clear c33b0
    try clear c34
    try clear c34b0
    try clear c34b1
    try clear c36
    obtain ⟨kq, x114_13, rfl, HA, HJ13, HO_7, HB⟩ := hcut
    cases kq with
    | zero => exact absurd HA.out (by simp [pylonlaw19_BankOldest.j0])
    | succ kj13 =>
     have H := HA.out
     clear HA
     simp only [pylonlaw19_BankOldest.j0] at H
     by_cases c41 : x114_13 = true
     ·subst c41
      have H1 : (some false) = some r := by rw [if_pos rfl] at H; exact H
      clear H
      have H := H1
      clear H1
      obtain rfl := Option.some.inj H
      go_wp2
      repeat (go_quiet (fail); try go_wp2)
      go_ret
      exact ⟨by first | rfl | (simp [errW_none, errW_some] <;> rfl) | (simp [*, errW_none, errW_some] <;> rfl), by repeat (first | (with_reducible first | exact HB.out | apply below_alloc | apply pw_below_drewN | apply below_drew1) | exact HB.out)⟩
     ·replace c41 := Bool.eq_false_iff.mpr c41
      subst c41
      have H1 : (pylonlaw19_BankOldest.l0 kj13 l0 t150 1) = some r := by rw [if_neg (show ¬ (false = true) by decide)] at H; exact H
      clear H
      have H := H1
      clear H1
      have H' := Aside0.mk H
      clear H
      go_wp2
      repeat (go_quiet (fail); try go_wp2)
      go_loopg [16] kj13 (fun kq v16 w' => ∃ (x16_2 : Int), v16 = .int .i64 x16_2 ∧ Aside0 (pylonlaw19_BankOldest.l0 kq l0 t150 x16_2 = some r) ∧ Aside0 (kq ≤ kj13) ∧ Aside0 (Kd.R k32 32 w' w.heap.size (fun _ => True) (.slice Ao20 t150.length co20) t150) ∧ Aside0 (Below w.heap.size w w'))
      case atStart => exact ⟨(1), (by first | rfl | (simp; done) | (simp [*]; done)), H', ⟨Nat.le_refl _⟩, ⟨by (with_reducible repeat (first | apply Kd.R_alloc | apply Kd.R_drewN | apply Kd.R_drew)); exact HO_7.out⟩, ⟨by repeat (first | (with_reducible first | exact HB.out | apply below_alloc | apply pw_below_drewN | apply below_drew1) | exact HB.out)⟩⟩
      case round =>
       clear H'
       try clear c2
       try clear p2
       try clear c3
       try clear c4
       try clear c5
       try clear p6
       try clear c9
       try clear c9b0
       try clear c9b1
       try clear c27
       try clear c27b0
       try clear c27b1
       try clear c28
       try clear c28b0
       try clear c28b1
       try clear c29
       try clear c29b0
       try clear c29b1
       try clear c30
       try clear c30b0
       try clear c31
       try clear c31b0
       try clear c32
       try clear c32b0
       try clear c33
       try clear c33b0
       try clear c34
       try clear c34b0
       try clear c34b1
       try clear c36
       try clear c41
       try clear p2
       try clear p6
       obtain ⟨x16_2, rfl, HA, HK2, HO_7, HB⟩ := hrel
       cases gk with
       | zero => exact absurd HA.out (by simp [pylonlaw19_BankOldest.l0])
       | succ k2 =>
        have H := HA.out
        clear HA
        simp only [pylonlaw19_BankOldest.l0] at H
        by_cases c42 : x16_2 < (t150.length : Int)
        ·rw [if_pos c42] at H
         have c42b0 : decide (x16_2 < (t150.length : Int)) = true := decide_eq_true c42
         clear c42
         by_cases c43 : 0 ≤ x16_2
         ·rw [if_pos c43] at H
          have c43b0 : decide (0 ≤ x16_2) = true := decide_eq_true c43
          clear c43
          obtain ⟨ji44, hji44⟩ : ∃ j_ : Int, (wrap64 ((wrap64 ((l0.length : Int) - (t150.length : Int))) + x16_2)) = j_ := ⟨_, rfl⟩
          replace H : (if 0 ≤ (ji44) then (if (ji44) < (l0.length : Int) then (if (!(((rd_T32 t150 x16_2).f0) == ((rd_T32 l0 (ji44)).f0)) || (!(((rd_T32 t150 x16_2).f1) == ((rd_T32 l0 (ji44)).f1)))) = true then (some false) else (pylonlaw19_BankOldest.l0 k2 l0 t150 (wrap64 (x16_2 + 1)))) else (none)) else (none)) = some r := by first | (rw [hji44] at H; exact H) | (simp only [hji44] at H ⊢; exact H)
          have hji44w : (IntKind.i64.wrap ((wrap64 ((l0.length : Int) - (t150.length : Int))) + x16_2)) = ji44 := (i64_w _).trans hji44
          by_cases c45 : 0 ≤ (ji44)
          ·rw [if_pos c45] at H
           have c45b0 : decide (0 ≤ (ji44)) = true := decide_eq_true c45
           clear c45
           by_cases c46 : (ji44) < (l0.length : Int)
           ·rw [if_pos c46] at H
            have c46b0 : decide ((ji44) < (l0.length : Int)) = true := decide_eq_true c46
            clear c46
            by_cases c47 : (!(((rd_T32 t150 x16_2).f0) == ((rd_T32 l0 (ji44)).f0)) || (!(((rd_T32 t150 x16_2).f1) == ((rd_T32 l0 (ji44)).f1)))) = true
            ·rw [if_pos c47] at H
             have c47b0 : (!(((rd_T32 t150 x16_2).f0) == ((rd_T32 l0 (ji44)).f0)) || (!(((rd_T32 t150 x16_2).f1) == ((rd_T32 l0 (ji44)).f1)))) = true := c47
             clear c47
             obtain rfl := Option.some.inj H
             have p173 : 0 ≤ (x16_2 : Int) := of_decide_eq_true (by first | (with_reducible assumption) | assumption)
             have q173 : x16_2 < (t150.length : Int) := of_decide_eq_true (by first | (with_reducible assumption) | assumption)
             obtain ⟨ad173, e173, hx173_0, hx173_1⟩ := at_T32 (Kd.R_reads' HO_7.out).2.2 x16_2 p173 q173
             cases e173
             replace p173 := eq_true p173
             replace q173 := eq_true q173
             have p174 : 0 ≤ ((ji44) : Int) := of_decide_eq_true (by first | (with_reducible assumption) | assumption)
             have q174 : (ji44) < (l0.length : Int) := of_decide_eq_true (by first | (with_reducible assumption) | assumption)
             obtain ⟨ad174, e174, hx174_0, hx174_1⟩ := at_T32 HR0.out (ji44) p174 q174
             cases e174
             replace hx174_0 := (HB.out.cell (World.block_lt_of_cell? w _ hx174_0)).trans hx174_0
             replace hx174_1 := (HB.out.cell (World.block_lt_of_cell? w _ hx174_1)).trans hx174_1
             replace p174 := eq_true p174
             replace q174 := eq_true q174
             go_wp2
             repeat (go_quiet (fail); try go_wp2)
             go_ret
             exact ⟨by first | rfl | (simp [errW_none, errW_some] <;> rfl) | (simp only [← hji44]; first | rfl | (simp [errW_none, errW_some] <;> rfl)) | (simp [*, errW_none, errW_some] <;> rfl), by repeat (first | (with_reducible first | exact HB.out | apply below_alloc | apply pw_below_drewN | apply below_drew1) | exact HB.out)⟩
            ·rw [if_neg c47] at H
             have c47b0 : (!(((rd_T32 t150 x16_2).f0) == ((rd_T32 l0 (ji44)).f0)) || (!(((rd_T32 t150 x16_2).f1) == ((rd_T32 l0 (ji44)).f1)))) = false := by simpa using c47
             clear c47
             have H' := Aside0.mk H
             clear H
             have p173 : 0 ≤ (x16_2 : Int) := of_decide_eq_true (by first | (with_reducible assumption) | assumption)
             have q173 : x16_2 < (t150.length : Int) := of_decide_eq_true (by first | (with_reducible assumption) | assumption)
             obtain ⟨ad173, e173, hx173_0, hx173_1⟩ := at_T32 (Kd.R_reads' HO_7.out).2.2 x16_2 p173 q173
             cases e173
             replace p173 := eq_true p173
             replace q173 := eq_true q173
             have p174 : 0 ≤ ((ji44) : Int) := of_decide_eq_true (by first | (with_reducible assumption) | assumption)
             have q174 : (ji44) < (l0.length : Int) := of_decide_eq_true (by first | (with_reducible assumption) | assumption)
             obtain ⟨ad174, e174, hx174_0, hx174_1⟩ := at_T32 HR0.out (ji44) p174 q174
             cases e174
             replace hx174_0 := (HB.out.cell (World.block_lt_of_cell? w _ hx174_0)).trans hx174_0
             replace hx174_1 := (HB.out.cell (World.block_lt_of_cell? w _ hx174_1)).trans hx174_1
             replace p174 := eq_true p174
             replace q174 := eq_true q174
             go_wp2
             repeat (go_quiet (fail); try go_wp2)
             go_roundg k2
             case measure => have := HJ13.out; have := HK2.out; omega
             case rel => exact ⟨(wrap64 (x16_2 + 1)), (by first | rfl | (simp; done) | (simp [*]; done)), H', ⟨by have := HJ13.out; have := HK2.out; omega⟩, ⟨by (with_reducible repeat (first | apply Kd.R_alloc | apply Kd.R_drewN | apply Kd.R_drew)); exact HO_7.out⟩, ⟨by repeat (first | (with_reducible first | exact HB.out | apply below_alloc | apply pw_below_drewN | apply below_drew1) | exact HB.out)⟩⟩
           ·rw [if_neg c46] at H
            exact absurd H (by simp)
          ·rw [if_neg c45] at H
           exact absurd H (by simp)
         ·rw [if_neg c43] at H
          exact absurd H (by simp)
        ·rw [if_neg c42] at H
         have c42b0 : decide (x16_2 < (t150.length : Int)) = false := decide_eq_false c42
         clear c42
         by_cases c48 : (t150.length : Int) = 0
         ·rw [if_pos c48] at H
          have c48b0 : ((t150.length : Int) == 0) = true := beq_iff_eq.mpr c48
          have c48b1 : ((t150.length : Int) != 0) = false := bne_eq_false_iff_eq.mpr c48
          clear c48
          obtain rfl := Option.some.inj H
          go_wp2
          repeat (go_quiet (fail); try go_wp2)
          go_ret
          exact ⟨by first | rfl | (simp [errW_none, errW_some] <;> rfl) | (simp [*, errW_none, errW_some] <;> rfl), by repeat (first | (with_reducible first | exact HB.out | apply below_alloc | apply pw_below_drewN | apply below_drew1) | exact HB.out)⟩
         ·rw [if_neg c48] at H
          have c48b0 : ((t150.length : Int) == 0) = false := beq_eq_false_iff_ne.mpr c48
          have c48b1 : ((t150.length : Int) != 0) = true := bne_iff_ne.mpr c48
          have c48b2 : ¬ (t150 = []) := fun h_ => c48 (by rw [h_]; rfl)
          by_cases c49 : 0 < (t150.length : Int)
          ·rw [if_pos c49] at H
           have c49b0 : decide (0 < (t150.length : Int)) = true := decide_eq_true c49
           have c49b1 : decide (0 < t150.length) = true := decide_eq_true (by omega)
           clear c49
           obtain ⟨ji50, hji50⟩ : ∃ j_ : Int, (wrap64 ((l0.length : Int) - (t150.length : Int))) = j_ := ⟨_, rfl⟩
           replace H : (if 0 ≤ (ji50) then (if (ji50) < (l0.length : Int) then (if ((rd_T32 t150 0).f1) = ((rd_T32 l0 (ji50)).f1) then (if ((rd_T32 t150 0).f0) ≥ 1 then (some (decide (((rd_T32 t150 0).f0) ≤ ((rd_T32 l0 (ji50)).f0)))) else (some false)) else (some false)) else (none)) else (none)) = some r := by first | (rw [hji50] at H; exact H) | (simp only [hji50] at H ⊢; exact H)
           have hji50w : (IntKind.i64.wrap ((l0.length : Int) - (t150.length : Int))) = ji50 := (i64_w _).trans hji50
           by_cases c51 : 0 ≤ (ji50)
           ·rw [if_pos c51] at H
            have c51b0 : decide (0 ≤ (ji50)) = true := decide_eq_true c51
            clear c51
            by_cases c52 : (ji50) < (l0.length : Int)
            ·rw [if_pos c52] at H
             have c52b0 : decide ((ji50) < (l0.length : Int)) = true := decide_eq_true c52
             clear c52
             by_cases c53 : ((rd_T32 t150 0).f1) = ((rd_T32 l0 (ji50)).f1)
             ·rw [if_pos c53] at H
              have c53b0 : (((rd_T32 t150 0).f1) == ((rd_T32 l0 (ji50)).f1)) = true := beq_iff_eq.mpr c53
              have c53b1 : (((rd_T32 t150 0).f1) != ((rd_T32 l0 (ji50)).f1)) = false := bne_eq_false_iff_eq.mpr c53
              clear c53
              by_cases c54 : ((rd_T32 t150 0).f0) ≥ 1
              ·rw [if_pos c54] at H
               have c54b0 : decide (1 ≤ ((rd_T32 t150 0).f0)) = true := decide_eq_true c54
               clear c54
               obtain rfl := Option.some.inj H
               have p175 : 0 ≤ (0 : Int) := (by omega)
               have q175 : 0 < (t150.length : Int) := of_decide_eq_true (by first | (with_reducible assumption) | assumption)
               obtain ⟨ad175, e175, hx175_0, hx175_1⟩ := at_T32 (Kd.R_reads' HO_7.out).2.2 0 p175 q175
               cases e175
               have qi175 : (0 < t150.length) = True := eq_true (by omega)
               (try rw [show ((0 : Int)).toNat = 0 from rfl] at hx175_0)
               (try rw [show 0 * 2 = 0 from rfl] at hx175_0)
               (try rw [Addr.add_zero'] at hx175_0)
               (try rw [show ((0 : Int)).toNat = 0 from rfl] at hx175_1)
               (try rw [show 0 * 2 = 0 from rfl] at hx175_1)
               (try rw [Addr.add_zero'] at hx175_1)
               replace p175 := eq_true p175
               replace q175 := eq_true q175
               have p176 : 0 ≤ ((ji50) : Int) := of_decide_eq_true (by first | (with_reducible assumption) | assumption)
               have q176 : (ji50) < (l0.length : Int) := of_decide_eq_true (by first | (with_reducible assumption) | assumption)
               obtain ⟨ad176, e176, hx176_0, hx176_1⟩ := at_T32 HR0.out (ji50) p176 q176
               cases e176
               replace hx176_0 := (HB.out.cell (World.block_lt_of_cell? w _ hx176_0)).trans hx176_0
               replace hx176_1 := (HB.out.cell (World.block_lt_of_cell? w _ hx176_1)).trans hx176_1
               replace p176 := eq_true p176
               replace q176 := eq_true q176
               have p177 : 0 ≤ (0 : Int) := (by omega)
               have q177 : 0 < (t150.length : Int) := of_decide_eq_true (by first | (with_reducible assumption) | assumption)
               obtain ⟨ad177, e177, hx177_0, hx177_1⟩ := at_T32 (Kd.R_reads' HO_7.out).2.2 0 p177 q177
               obtain rfl : ad175 = ad177 := (by injection e177)
               have qi177 : (0 < t150.length) = True := eq_true (by omega)
               (try rw [show ((0 : Int)).toNat = 0 from rfl] at hx177_0)
               (try rw [show 0 * 2 = 0 from rfl] at hx177_0)
               (try rw [Addr.add_zero'] at hx177_0)
               (try rw [show ((0 : Int)).toNat = 0 from rfl] at hx177_1)
               (try rw [show 0 * 2 = 0 from rfl] at hx177_1)
               (try rw [Addr.add_zero'] at hx177_1)
               replace p177 := eq_true p177
               replace q177 := eq_true q177
               have p178 : 0 ≤ (0 : Int) := (by omega)
               have q178 : 0 < (t150.length : Int) := of_decide_eq_true (by first | (with_reducible assumption) | assumption)
               obtain ⟨ad178, e178, hx178_0, hx178_1⟩ := at_T32 (Kd.R_reads' HO_7.out).2.2 0 p178 q178
               obtain rfl : ad175 = ad178 := (by injection e178)
               have qi178 : (0 < t150.length) = True := eq_true (by omega)
               (try rw [show ((0 : Int)).toNat = 0 from rfl] at hx178_0)
               (try rw [show 0 * 2 = 0 from rfl] at hx178_0)
               (try rw [Addr.add_zero'] at hx178_0)
               (try rw [show ((0 : Int)).toNat = 0 from rfl] at hx178_1)
               (try rw [show 0 * 2 = 0 from rfl] at hx178_1)
               (try rw [Addr.add_zero'] at hx178_1)
               replace p178 := eq_true p178
               replace q178 := eq_true q178
               have p179 : 0 ≤ ((ji50) : Int) := of_decide_eq_true (by first | (with_reducible assumption) | assumption)
               have q179 : (ji50) < (l0.length : Int) := of_decide_eq_true (by first | (with_reducible assumption) | assumption)
               obtain ⟨ad179, e179, hx179_0, hx179_1⟩ := at_T32 HR0.out (ji50) p179 q179
               obtain rfl : ad176 = ad179 := (by injection e179)
               replace hx179_0 := (HB.out.cell (World.block_lt_of_cell? w _ hx179_0)).trans hx179_0
               replace hx179_1 := (HB.out.cell (World.block_lt_of_cell? w _ hx179_1)).trans hx179_1
               replace p179 := eq_true p179
               replace q179 := eq_true q179
               go_wp2
               repeat (go_quiet (fail); try go_wp2)
               go_ret
               exact ⟨by first | rfl | (simp [errW_none, errW_some] <;> rfl) | (simp only [← hji50]; first | rfl | (simp [errW_none, errW_some] <;> rfl)) | (simp [*, errW_none, errW_some] <;> rfl), by repeat (first | (with_reducible first | exact HB.out | apply below_alloc | apply pw_below_drewN | apply below_drew1) | exact HB.out)⟩
              ·rw [if_neg c54] at H
               have c54b0 : decide (1 ≤ ((rd_T32 t150 0).f0)) = false := decide_eq_false c54
               clear c54
               obtain rfl := Option.some.inj H
               have p175 : 0 ≤ (0 : Int) := (by omega)
               have q175 : 0 < (t150.length : Int) := of_decide_eq_true (by first | (with_reducible assumption) | assumption)
               obtain ⟨ad175, e175, hx175_0, hx175_1⟩ := at_T32 (Kd.R_reads' HO_7.out).2.2 0 p175 q175
               cases e175
               have qi175 : (0 < t150.length) = True := eq_true (by omega)
               (try rw [show ((0 : Int)).toNat = 0 from rfl] at hx175_0)
               (try rw [show 0 * 2 = 0 from rfl] at hx175_0)
               (try rw [Addr.add_zero'] at hx175_0)
               (try rw [show ((0 : Int)).toNat = 0 from rfl] at hx175_1)
               (try rw [show 0 * 2 = 0 from rfl] at hx175_1)
               (try rw [Addr.add_zero'] at hx175_1)
               replace p175 := eq_true p175
               replace q175 := eq_true q175
               have p176 : 0 ≤ ((ji50) : Int) := of_decide_eq_true (by first | (with_reducible assumption) | assumption)
               have q176 : (ji50) < (l0.length : Int) := of_decide_eq_true (by first | (with_reducible assumption) | assumption)
               obtain ⟨ad176, e176, hx176_0, hx176_1⟩ := at_T32 HR0.out (ji50) p176 q176
               cases e176
               replace hx176_0 := (HB.out.cell (World.block_lt_of_cell? w _ hx176_0)).trans hx176_0
               replace hx176_1 := (HB.out.cell (World.block_lt_of_cell? w _ hx176_1)).trans hx176_1
               replace p176 := eq_true p176
               replace q176 := eq_true q176
               have p177 : 0 ≤ (0 : Int) := (by omega)
               have q177 : 0 < (t150.length : Int) := of_decide_eq_true (by first | (with_reducible assumption) | assumption)
               obtain ⟨ad177, e177, hx177_0, hx177_1⟩ := at_T32 (Kd.R_reads' HO_7.out).2.2 0 p177 q177
               obtain rfl : ad175 = ad177 := (by injection e177)
               have qi177 : (0 < t150.length) = True := eq_true (by omega)
               (try rw [show ((0 : Int)).toNat = 0 from rfl] at hx177_0)
               (try rw [show 0 * 2 = 0 from rfl] at hx177_0)
               (try rw [Addr.add_zero'] at hx177_0)
               (try rw [show ((0 : Int)).toNat = 0 from rfl] at hx177_1)
               (try rw [show 0 * 2 = 0 from rfl] at hx177_1)
               (try rw [Addr.add_zero'] at hx177_1)
               replace p177 := eq_true p177
               replace q177 := eq_true q177
               go_wp2
               repeat (go_quiet (fail); try go_wp2)
               go_ret
               exact ⟨by first | rfl | (simp [errW_none, errW_some] <;> rfl) | (simp only [← hji50]; first | rfl | (simp [errW_none, errW_some] <;> rfl)) | (simp [*, errW_none, errW_some] <;> rfl), by repeat (first | (with_reducible first | exact HB.out | apply below_alloc | apply pw_below_drewN | apply below_drew1) | exact HB.out)⟩
             ·rw [if_neg c53] at H
              have c53b0 : (((rd_T32 t150 0).f1) == ((rd_T32 l0 (ji50)).f1)) = false := beq_eq_false_iff_ne.mpr c53
              have c53b1 : (((rd_T32 t150 0).f1) != ((rd_T32 l0 (ji50)).f1)) = true := bne_iff_ne.mpr c53
              obtain rfl := Option.some.inj H
              have p175 : 0 ≤ (0 : Int) := (by omega)
              have q175 : 0 < (t150.length : Int) := of_decide_eq_true (by first | (with_reducible assumption) | assumption)
              obtain ⟨ad175, e175, hx175_0, hx175_1⟩ := at_T32 (Kd.R_reads' HO_7.out).2.2 0 p175 q175
              cases e175
              have qi175 : (0 < t150.length) = True := eq_true (by omega)
              (try rw [show ((0 : Int)).toNat = 0 from rfl] at hx175_0)
              (try rw [show 0 * 2 = 0 from rfl] at hx175_0)
              (try rw [Addr.add_zero'] at hx175_0)
              (try rw [show ((0 : Int)).toNat = 0 from rfl] at hx175_1)
              (try rw [show 0 * 2 = 0 from rfl] at hx175_1)
              (try rw [Addr.add_zero'] at hx175_1)
              replace p175 := eq_true p175
              replace q175 := eq_true q175
              have p176 : 0 ≤ ((ji50) : Int) := of_decide_eq_true (by first | (with_reducible assumption) | assumption)
              have q176 : (ji50) < (l0.length : Int) := of_decide_eq_true (by first | (with_reducible assumption) | assumption)
              obtain ⟨ad176, e176, hx176_0, hx176_1⟩ := at_T32 HR0.out (ji50) p176 q176
              cases e176
              replace hx176_0 := (HB.out.cell (World.block_lt_of_cell? w _ hx176_0)).trans hx176_0
              replace hx176_1 := (HB.out.cell (World.block_lt_of_cell? w _ hx176_1)).trans hx176_1
              replace p176 := eq_true p176
              replace q176 := eq_true q176
              go_wp2
              repeat (go_quiet (fail); try go_wp2)
              go_ret
              exact ⟨by first | rfl | (simp [errW_none, errW_some] <;> rfl) | (simp only [← hji50]; first | rfl | (simp [errW_none, errW_some] <;> rfl)) | (simp [*, errW_none, errW_some] <;> rfl), by repeat (first | (with_reducible first | exact HB.out | apply below_alloc | apply pw_below_drewN | apply below_drew1) | exact HB.out)⟩
            ·rw [if_neg c52] at H
             exact absurd H (by simp)
           ·rw [if_neg c51] at H
            exact absurd H (by simp)
          ·rw [if_neg c49] at H
           exact absurd H (by simp)
  ·rw [if_neg c9] at H
   have c9b0 : (t155 == 0) = false := beq_eq_false_iff_ne.mpr c9
   have c9b1 : (t155 != 0) = true := bne_iff_ne.mpr c9
   by_cases c55 : t154 = 8
   ·rw [if_pos c55] at H
    have c55b0 : (t154 == 8) = true := beq_iff_eq.mpr c55
    have c55b1 : (t154 != 8) = false := bne_eq_false_iff_eq.mpr c55
    clear c55
    by_cases c56 : t153 = 0
    ·rw [if_pos c56] at H
     have c56b0 : (t153 == 0) = true := beq_iff_eq.mpr c56
     have c56b1 : (t153 != 0) = false := bne_eq_false_iff_eq.mpr c56
     clear c56
     obtain rfl := Option.some.inj H
     go_enter Try.func3, Try.ntmps3
     go_wp2_with (first | (go_at_call 8; (with_reducible refine (pylonlaw19_awake.calls k  true _ A4.out).mono ?_); rintro e w57 ⟨rfl, hb⟩; have n0_ := Aside0.mk (below_step (by repeat (first | (with_reducible first | exact HB.out | apply below_alloc | apply pw_below_drewN | apply below_drew1) | exact HB.out)) hb); clear HB; have HB := n0_; clear n0_; (try clear hb); (try clear hb2); (try clear hk); (try clear hi)) | (go_at_call 10; have _t := tqA6; clear _t tqA6; (with_reducible refine (pylonlaw19_copyLots.calls _ _ l0 t147 _ ?side1 ?side2 A6.out).mono ?_); (case side1 => repeat (first | exact (Kd.C_below HR0.out HB.out) | (with_reducible refine Kd.C_alloc ?_ _) | (with_reducible refine Kd.C_drewN ?_ _) | (with_reducible refine Kd.C_drew ?_))); (case side2 => exact HC0.out); rintro e w58 ⟨v148, rfl, ho0, hb⟩; have n0_ := Aside0.mk (Kd.R_lower ho0 (below_size (by repeat (first | (with_reducible first | exact HB.out | apply below_alloc | apply pw_below_drewN | apply below_drew1) | exact HB.out)))); have n1_ := Aside0.mk (below_step (by repeat (first | (with_reducible first | exact HB.out | apply below_alloc | apply pw_below_drewN | apply below_drew1) | exact HB.out)) hb); clear HB; have HO149 := n0_; have HB := n1_; clear n0_ n1_; (try clear hb); (try clear hb2); (try clear hk); (try clear hi); (try clear ho0); obtain ⟨Ao59, co59, eo59⟩ := Kd.R_slice HO149.out; subst eo59) | (go_at_call 9; (with_reducible refine (bank_Take.calls k (fun k_ => some k_ = (.slice Ao59 t147.length co59 : Value).ownBlock) _ _ t147 (wrap64 (Int.tmod (IntKind.u64.wrap (a1)) 1000000000000000)) t150 t153 t154 _ ?side1 A7.out).mono ?_); (case side1 => exact Kd.R_V (Kd.R_tight rfl (HO149.out))); rintro e w60 ⟨v151, rfl, ho0, hb⟩; have n0_ := Aside0.mk (Kd.R_elder' (by (with_reducible repeat (first | apply Kd.R_alloc | apply Kd.R_drewN | apply Kd.R_drew)); exact HO149.out) (Kd.R_base ho0) hb); have n1_ := Aside0.mk (Kd.R_lower (Kd.R_new' (Kd.R_mono (ok' := fun k_ => True) ho0 (fun _ hk_ => trivial)) (Kd.R_lt (by (with_reducible repeat (first | apply Kd.R_alloc | apply Kd.R_drewN | apply Kd.R_drew)); exact HO149.out))) (below_size (by repeat (first | (with_reducible first | exact HB.out | apply below_alloc | apply pw_below_drewN | apply below_drew1) | exact HB.out)))); have n2_ := Aside0.mk (below_step (by repeat (first | (with_reducible first | exact HB.out | apply below_alloc | apply pw_below_drewN | apply below_drew1) | exact HB.out)) hb); clear HO149; clear HB; have HO149 := n0_; have HO152 := n1_; have HB := n2_; clear n0_ n1_ n2_; (try clear hb); (try clear hb2); (try clear hk); (try clear hi); (try clear ho0)) | (go_at_call 11; (with_reducible refine (pylonref19_Check.calls k _ _ l0 t155 _ ?side1 ?side2 A8.out).mono ?_); (case side1 => repeat (first | exact (Kd.C_below HR0.out HB.out) | (with_reducible refine Kd.C_alloc ?_ _) | (with_reducible refine Kd.C_drewN ?_ _) | (with_reducible refine Kd.C_drew ?_))); (case side2 => exact HC0.out); rintro e w61 ⟨rfl, hb⟩; have n0_ := Aside0.mk (Kd.R_below (by (with_reducible repeat (first | apply Kd.R_alloc | apply Kd.R_drewN | apply Kd.R_drew)); exact HO149.out) hb); have n1_ := Aside0.mk (Kd.R_below (by (with_reducible repeat (first | apply Kd.R_alloc | apply Kd.R_drewN | apply Kd.R_drew)); exact HO152.out) hb); have n2_ := Aside0.mk (below_step (by repeat (first | (with_reducible first | exact HB.out | apply below_alloc | apply pw_below_drewN | apply below_drew1) | exact HB.out)) hb); clear HO149; clear HO152; clear HB; have HO149 := n0_; have HO152 := n1_; have HB := n2_; clear n0_ n1_ n2_; (try clear hb); (try clear hb2); (try clear hk); (try clear hi); obtain ⟨Ao62, co62, eo62⟩ := Kd.R_slice HO152.out; subst eo62))
     repeat (go_quiet (first | (go_at_call 8; (with_reducible refine (pylonlaw19_awake.calls k  true _ A4.out).mono ?_); rintro e w57 ⟨rfl, hb⟩; have n0_ := Aside0.mk (below_step (by repeat (first | (with_reducible first | exact HB.out | apply below_alloc | apply pw_below_drewN | apply below_drew1) | exact HB.out)) hb); clear HB; have HB := n0_; clear n0_; (try clear hb); (try clear hb2); (try clear hk); (try clear hi)) | (go_at_call 10; have _t := tqA6; clear _t tqA6; (with_reducible refine (pylonlaw19_copyLots.calls _ _ l0 t147 _ ?side1 ?side2 A6.out).mono ?_); (case side1 => repeat (first | exact (Kd.C_below HR0.out HB.out) | (with_reducible refine Kd.C_alloc ?_ _) | (with_reducible refine Kd.C_drewN ?_ _) | (with_reducible refine Kd.C_drew ?_))); (case side2 => exact HC0.out); rintro e w58 ⟨v148, rfl, ho0, hb⟩; have n0_ := Aside0.mk (Kd.R_lower ho0 (below_size (by repeat (first | (with_reducible first | exact HB.out | apply below_alloc | apply pw_below_drewN | apply below_drew1) | exact HB.out)))); have n1_ := Aside0.mk (below_step (by repeat (first | (with_reducible first | exact HB.out | apply below_alloc | apply pw_below_drewN | apply below_drew1) | exact HB.out)) hb); clear HB; have HO149 := n0_; have HB := n1_; clear n0_ n1_; (try clear hb); (try clear hb2); (try clear hk); (try clear hi); (try clear ho0); obtain ⟨Ao59, co59, eo59⟩ := Kd.R_slice HO149.out; subst eo59) | (go_at_call 9; (with_reducible refine (bank_Take.calls k (fun k_ => some k_ = (.slice Ao59 t147.length co59 : Value).ownBlock) _ _ t147 (wrap64 (Int.tmod (IntKind.u64.wrap (a1)) 1000000000000000)) t150 t153 t154 _ ?side1 A7.out).mono ?_); (case side1 => exact Kd.R_V (Kd.R_tight rfl (HO149.out))); rintro e w60 ⟨v151, rfl, ho0, hb⟩; have n0_ := Aside0.mk (Kd.R_elder' (by (with_reducible repeat (first | apply Kd.R_alloc | apply Kd.R_drewN | apply Kd.R_drew)); exact HO149.out) (Kd.R_base ho0) hb); have n1_ := Aside0.mk (Kd.R_lower (Kd.R_new' (Kd.R_mono (ok' := fun k_ => True) ho0 (fun _ hk_ => trivial)) (Kd.R_lt (by (with_reducible repeat (first | apply Kd.R_alloc | apply Kd.R_drewN | apply Kd.R_drew)); exact HO149.out))) (below_size (by repeat (first | (with_reducible first | exact HB.out | apply below_alloc | apply pw_below_drewN | apply below_drew1) | exact HB.out)))); have n2_ := Aside0.mk (below_step (by repeat (first | (with_reducible first | exact HB.out | apply below_alloc | apply pw_below_drewN | apply below_drew1) | exact HB.out)) hb); clear HO149; clear HB; have HO149 := n0_; have HO152 := n1_; have HB := n2_; clear n0_ n1_ n2_; (try clear hb); (try clear hb2); (try clear hk); (try clear hi); (try clear ho0)) | (go_at_call 11; (with_reducible refine (pylonref19_Check.calls k _ _ l0 t155 _ ?side1 ?side2 A8.out).mono ?_); (case side1 => repeat (first | exact (Kd.C_below HR0.out HB.out) | (with_reducible refine Kd.C_alloc ?_ _) | (with_reducible refine Kd.C_drewN ?_ _) | (with_reducible refine Kd.C_drew ?_))); (case side2 => exact HC0.out); rintro e w61 ⟨rfl, hb⟩; have n0_ := Aside0.mk (Kd.R_below (by (with_reducible repeat (first | apply Kd.R_alloc | apply Kd.R_drewN | apply Kd.R_drew)); exact HO149.out) hb); have n1_ := Aside0.mk (Kd.R_below (by (with_reducible repeat (first | apply Kd.R_alloc | apply Kd.R_drewN | apply Kd.R_drew)); exact HO152.out) hb); have n2_ := Aside0.mk (below_step (by repeat (first | (with_reducible first | exact HB.out | apply below_alloc | apply pw_below_drewN | apply below_drew1) | exact HB.out)) hb); clear HO149; clear HO152; clear HB; have HO149 := n0_; have HO152 := n1_; have HB := n2_; clear n0_ n1_ n2_; (try clear hb); (try clear hb2); (try clear hk); (try clear hi); obtain ⟨Ao62, co62, eo62⟩ := Kd.R_slice HO152.out; subst eo62)); try go_wp2_with (first | (go_at_call 8; (with_reducible refine (pylonlaw19_awake.calls k  true _ A4.out).mono ?_); rintro e w57 ⟨rfl, hb⟩; have n0_ := Aside0.mk (below_step (by repeat (first | (with_reducible first | exact HB.out | apply below_alloc | apply pw_below_drewN | apply below_drew1) | exact HB.out)) hb); clear HB; have HB := n0_; clear n0_; (try clear hb); (try clear hb2); (try clear hk); (try clear hi)) | (go_at_call 10; have _t := tqA6; clear _t tqA6; (with_reducible refine (pylonlaw19_copyLots.calls _ _ l0 t147 _ ?side1 ?side2 A6.out).mono ?_); (case side1 => repeat (first | exact (Kd.C_below HR0.out HB.out) | (with_reducible refine Kd.C_alloc ?_ _) | (with_reducible refine Kd.C_drewN ?_ _) | (with_reducible refine Kd.C_drew ?_))); (case side2 => exact HC0.out); rintro e w58 ⟨v148, rfl, ho0, hb⟩; have n0_ := Aside0.mk (Kd.R_lower ho0 (below_size (by repeat (first | (with_reducible first | exact HB.out | apply below_alloc | apply pw_below_drewN | apply below_drew1) | exact HB.out)))); have n1_ := Aside0.mk (below_step (by repeat (first | (with_reducible first | exact HB.out | apply below_alloc | apply pw_below_drewN | apply below_drew1) | exact HB.out)) hb); clear HB; have HO149 := n0_; have HB := n1_; clear n0_ n1_; (try clear hb); (try clear hb2); (try clear hk); (try clear hi); (try clear ho0); obtain ⟨Ao59, co59, eo59⟩ := Kd.R_slice HO149.out; subst eo59) | (go_at_call 9; (with_reducible refine (bank_Take.calls k (fun k_ => some k_ = (.slice Ao59 t147.length co59 : Value).ownBlock) _ _ t147 (wrap64 (Int.tmod (IntKind.u64.wrap (a1)) 1000000000000000)) t150 t153 t154 _ ?side1 A7.out).mono ?_); (case side1 => exact Kd.R_V (Kd.R_tight rfl (HO149.out))); rintro e w60 ⟨v151, rfl, ho0, hb⟩; have n0_ := Aside0.mk (Kd.R_elder' (by (with_reducible repeat (first | apply Kd.R_alloc | apply Kd.R_drewN | apply Kd.R_drew)); exact HO149.out) (Kd.R_base ho0) hb); have n1_ := Aside0.mk (Kd.R_lower (Kd.R_new' (Kd.R_mono (ok' := fun k_ => True) ho0 (fun _ hk_ => trivial)) (Kd.R_lt (by (with_reducible repeat (first | apply Kd.R_alloc | apply Kd.R_drewN | apply Kd.R_drew)); exact HO149.out))) (below_size (by repeat (first | (with_reducible first | exact HB.out | apply below_alloc | apply pw_below_drewN | apply below_drew1) | exact HB.out)))); have n2_ := Aside0.mk (below_step (by repeat (first | (with_reducible first | exact HB.out | apply below_alloc | apply pw_below_drewN | apply below_drew1) | exact HB.out)) hb); clear HO149; clear HB; have HO149 := n0_; have HO152 := n1_; have HB := n2_; clear n0_ n1_ n2_; (try clear hb); (try clear hb2); (try clear hk); (try clear hi); (try clear ho0)) | (go_at_call 11; (with_reducible refine (pylonref19_Check.calls k _ _ l0 t155 _ ?side1 ?side2 A8.out).mono ?_); (case side1 => repeat (first | exact (Kd.C_below HR0.out HB.out) | (with_reducible refine Kd.C_alloc ?_ _) | (with_reducible refine Kd.C_drewN ?_ _) | (with_reducible refine Kd.C_drew ?_))); (case side2 => exact HC0.out); rintro e w61 ⟨rfl, hb⟩; have n0_ := Aside0.mk (Kd.R_below (by (with_reducible repeat (first | apply Kd.R_alloc | apply Kd.R_drewN | apply Kd.R_drew)); exact HO149.out) hb); have n1_ := Aside0.mk (Kd.R_below (by (with_reducible repeat (first | apply Kd.R_alloc | apply Kd.R_drewN | apply Kd.R_drew)); exact HO152.out) hb); have n2_ := Aside0.mk (below_step (by repeat (first | (with_reducible first | exact HB.out | apply below_alloc | apply pw_below_drewN | apply below_drew1) | exact HB.out)) hb); clear HO149; clear HO152; clear HB; have HO149 := n0_; have HO152 := n1_; have HB := n2_; clear n0_ n1_ n2_; (try clear hb); (try clear hb2); (try clear hk); (try clear hi); obtain ⟨Ao62, co62, eo62⟩ := Kd.R_slice HO152.out; subst eo62)))
     go_ret
     exact ⟨by first | rfl | (simp [errW_none, errW_some] <;> rfl) | (simp [*, errW_none, errW_some] <;> rfl), by repeat (first | (with_reducible first | exact HB.out | apply below_alloc | apply pw_below_drewN | apply below_drew1) | exact HB.out)⟩
    ·rw [if_neg c56] at H
     have c56b0 : (t153 == 0) = false := beq_eq_false_iff_ne.mpr c56
     have c56b1 : (t153 != 0) = true := bne_iff_ne.mpr c56
     obtain rfl := Option.some.inj H
     go_enter Try.func3, Try.ntmps3
     go_wp2_with (first | (go_at_call 8; (with_reducible refine (pylonlaw19_awake.calls k  true _ A4.out).mono ?_); rintro e w63 ⟨rfl, hb⟩; have n0_ := Aside0.mk (below_step (by repeat (first | (with_reducible first | exact HB.out | apply below_alloc | apply pw_below_drewN | apply below_drew1) | exact HB.out)) hb); clear HB; have HB := n0_; clear n0_; (try clear hb); (try clear hb2); (try clear hk); (try clear hi)) | (go_at_call 10; have _t := tqA6; clear _t tqA6; (with_reducible refine (pylonlaw19_copyLots.calls _ _ l0 t147 _ ?side1 ?side2 A6.out).mono ?_); (case side1 => repeat (first | exact (Kd.C_below HR0.out HB.out) | (with_reducible refine Kd.C_alloc ?_ _) | (with_reducible refine Kd.C_drewN ?_ _) | (with_reducible refine Kd.C_drew ?_))); (case side2 => exact HC0.out); rintro e w64 ⟨v148, rfl, ho0, hb⟩; have n0_ := Aside0.mk (Kd.R_lower ho0 (below_size (by repeat (first | (with_reducible first | exact HB.out | apply below_alloc | apply pw_below_drewN | apply below_drew1) | exact HB.out)))); have n1_ := Aside0.mk (below_step (by repeat (first | (with_reducible first | exact HB.out | apply below_alloc | apply pw_below_drewN | apply below_drew1) | exact HB.out)) hb); clear HB; have HO149 := n0_; have HB := n1_; clear n0_ n1_; (try clear hb); (try clear hb2); (try clear hk); (try clear hi); (try clear ho0); obtain ⟨Ao65, co65, eo65⟩ := Kd.R_slice HO149.out; subst eo65) | (go_at_call 9; (with_reducible refine (bank_Take.calls k (fun k_ => some k_ = (.slice Ao65 t147.length co65 : Value).ownBlock) _ _ t147 (wrap64 (Int.tmod (IntKind.u64.wrap (a1)) 1000000000000000)) t150 t153 t154 _ ?side1 A7.out).mono ?_); (case side1 => exact Kd.R_V (Kd.R_tight rfl (HO149.out))); rintro e w66 ⟨v151, rfl, ho0, hb⟩; have n0_ := Aside0.mk (Kd.R_elder' (by (with_reducible repeat (first | apply Kd.R_alloc | apply Kd.R_drewN | apply Kd.R_drew)); exact HO149.out) (Kd.R_base ho0) hb); have n1_ := Aside0.mk (Kd.R_lower (Kd.R_new' (Kd.R_mono (ok' := fun k_ => True) ho0 (fun _ hk_ => trivial)) (Kd.R_lt (by (with_reducible repeat (first | apply Kd.R_alloc | apply Kd.R_drewN | apply Kd.R_drew)); exact HO149.out))) (below_size (by repeat (first | (with_reducible first | exact HB.out | apply below_alloc | apply pw_below_drewN | apply below_drew1) | exact HB.out)))); have n2_ := Aside0.mk (below_step (by repeat (first | (with_reducible first | exact HB.out | apply below_alloc | apply pw_below_drewN | apply below_drew1) | exact HB.out)) hb); clear HO149; clear HB; have HO149 := n0_; have HO152 := n1_; have HB := n2_; clear n0_ n1_ n2_; (try clear hb); (try clear hb2); (try clear hk); (try clear hi); (try clear ho0)) | (go_at_call 11; (with_reducible refine (pylonref19_Check.calls k _ _ l0 t155 _ ?side1 ?side2 A8.out).mono ?_); (case side1 => repeat (first | exact (Kd.C_below HR0.out HB.out) | (with_reducible refine Kd.C_alloc ?_ _) | (with_reducible refine Kd.C_drewN ?_ _) | (with_reducible refine Kd.C_drew ?_))); (case side2 => exact HC0.out); rintro e w67 ⟨rfl, hb⟩; have n0_ := Aside0.mk (Kd.R_below (by (with_reducible repeat (first | apply Kd.R_alloc | apply Kd.R_drewN | apply Kd.R_drew)); exact HO149.out) hb); have n1_ := Aside0.mk (Kd.R_below (by (with_reducible repeat (first | apply Kd.R_alloc | apply Kd.R_drewN | apply Kd.R_drew)); exact HO152.out) hb); have n2_ := Aside0.mk (below_step (by repeat (first | (with_reducible first | exact HB.out | apply below_alloc | apply pw_below_drewN | apply below_drew1) | exact HB.out)) hb); clear HO149; clear HO152; clear HB; have HO149 := n0_; have HO152 := n1_; have HB := n2_; clear n0_ n1_ n2_; (try clear hb); (try clear hb2); (try clear hk); (try clear hi)))
     repeat (go_quiet (first | (go_at_call 8; (with_reducible refine (pylonlaw19_awake.calls k  true _ A4.out).mono ?_); rintro e w63 ⟨rfl, hb⟩; have n0_ := Aside0.mk (below_step (by repeat (first | (with_reducible first | exact HB.out | apply below_alloc | apply pw_below_drewN | apply below_drew1) | exact HB.out)) hb); clear HB; have HB := n0_; clear n0_; (try clear hb); (try clear hb2); (try clear hk); (try clear hi)) | (go_at_call 10; have _t := tqA6; clear _t tqA6; (with_reducible refine (pylonlaw19_copyLots.calls _ _ l0 t147 _ ?side1 ?side2 A6.out).mono ?_); (case side1 => repeat (first | exact (Kd.C_below HR0.out HB.out) | (with_reducible refine Kd.C_alloc ?_ _) | (with_reducible refine Kd.C_drewN ?_ _) | (with_reducible refine Kd.C_drew ?_))); (case side2 => exact HC0.out); rintro e w64 ⟨v148, rfl, ho0, hb⟩; have n0_ := Aside0.mk (Kd.R_lower ho0 (below_size (by repeat (first | (with_reducible first | exact HB.out | apply below_alloc | apply pw_below_drewN | apply below_drew1) | exact HB.out)))); have n1_ := Aside0.mk (below_step (by repeat (first | (with_reducible first | exact HB.out | apply below_alloc | apply pw_below_drewN | apply below_drew1) | exact HB.out)) hb); clear HB; have HO149 := n0_; have HB := n1_; clear n0_ n1_; (try clear hb); (try clear hb2); (try clear hk); (try clear hi); (try clear ho0); obtain ⟨Ao65, co65, eo65⟩ := Kd.R_slice HO149.out; subst eo65) | (go_at_call 9; (with_reducible refine (bank_Take.calls k (fun k_ => some k_ = (.slice Ao65 t147.length co65 : Value).ownBlock) _ _ t147 (wrap64 (Int.tmod (IntKind.u64.wrap (a1)) 1000000000000000)) t150 t153 t154 _ ?side1 A7.out).mono ?_); (case side1 => exact Kd.R_V (Kd.R_tight rfl (HO149.out))); rintro e w66 ⟨v151, rfl, ho0, hb⟩; have n0_ := Aside0.mk (Kd.R_elder' (by (with_reducible repeat (first | apply Kd.R_alloc | apply Kd.R_drewN | apply Kd.R_drew)); exact HO149.out) (Kd.R_base ho0) hb); have n1_ := Aside0.mk (Kd.R_lower (Kd.R_new' (Kd.R_mono (ok' := fun k_ => True) ho0 (fun _ hk_ => trivial)) (Kd.R_lt (by (with_reducible repeat (first | apply Kd.R_alloc | apply Kd.R_drewN | apply Kd.R_drew)); exact HO149.out))) (below_size (by repeat (first | (with_reducible first | exact HB.out | apply below_alloc | apply pw_below_drewN | apply below_drew1) | exact HB.out)))); have n2_ := Aside0.mk (below_step (by repeat (first | (with_reducible first | exact HB.out | apply below_alloc | apply pw_below_drewN | apply below_drew1) | exact HB.out)) hb); clear HO149; clear HB; have HO149 := n0_; have HO152 := n1_; have HB := n2_; clear n0_ n1_ n2_; (try clear hb); (try clear hb2); (try clear hk); (try clear hi); (try clear ho0)) | (go_at_call 11; (with_reducible refine (pylonref19_Check.calls k _ _ l0 t155 _ ?side1 ?side2 A8.out).mono ?_); (case side1 => repeat (first | exact (Kd.C_below HR0.out HB.out) | (with_reducible refine Kd.C_alloc ?_ _) | (with_reducible refine Kd.C_drewN ?_ _) | (with_reducible refine Kd.C_drew ?_))); (case side2 => exact HC0.out); rintro e w67 ⟨rfl, hb⟩; have n0_ := Aside0.mk (Kd.R_below (by (with_reducible repeat (first | apply Kd.R_alloc | apply Kd.R_drewN | apply Kd.R_drew)); exact HO149.out) hb); have n1_ := Aside0.mk (Kd.R_below (by (with_reducible repeat (first | apply Kd.R_alloc | apply Kd.R_drewN | apply Kd.R_drew)); exact HO152.out) hb); have n2_ := Aside0.mk (below_step (by repeat (first | (with_reducible first | exact HB.out | apply below_alloc | apply pw_below_drewN | apply below_drew1) | exact HB.out)) hb); clear HO149; clear HO152; clear HB; have HO149 := n0_; have HO152 := n1_; have HB := n2_; clear n0_ n1_ n2_; (try clear hb); (try clear hb2); (try clear hk); (try clear hi))); try go_wp2_with (first | (go_at_call 8; (with_reducible refine (pylonlaw19_awake.calls k  true _ A4.out).mono ?_); rintro e w63 ⟨rfl, hb⟩; have n0_ := Aside0.mk (below_step (by repeat (first | (with_reducible first | exact HB.out | apply below_alloc | apply pw_below_drewN | apply below_drew1) | exact HB.out)) hb); clear HB; have HB := n0_; clear n0_; (try clear hb); (try clear hb2); (try clear hk); (try clear hi)) | (go_at_call 10; have _t := tqA6; clear _t tqA6; (with_reducible refine (pylonlaw19_copyLots.calls _ _ l0 t147 _ ?side1 ?side2 A6.out).mono ?_); (case side1 => repeat (first | exact (Kd.C_below HR0.out HB.out) | (with_reducible refine Kd.C_alloc ?_ _) | (with_reducible refine Kd.C_drewN ?_ _) | (with_reducible refine Kd.C_drew ?_))); (case side2 => exact HC0.out); rintro e w64 ⟨v148, rfl, ho0, hb⟩; have n0_ := Aside0.mk (Kd.R_lower ho0 (below_size (by repeat (first | (with_reducible first | exact HB.out | apply below_alloc | apply pw_below_drewN | apply below_drew1) | exact HB.out)))); have n1_ := Aside0.mk (below_step (by repeat (first | (with_reducible first | exact HB.out | apply below_alloc | apply pw_below_drewN | apply below_drew1) | exact HB.out)) hb); clear HB; have HO149 := n0_; have HB := n1_; clear n0_ n1_; (try clear hb); (try clear hb2); (try clear hk); (try clear hi); (try clear ho0); obtain ⟨Ao65, co65, eo65⟩ := Kd.R_slice HO149.out; subst eo65) | (go_at_call 9; (with_reducible refine (bank_Take.calls k (fun k_ => some k_ = (.slice Ao65 t147.length co65 : Value).ownBlock) _ _ t147 (wrap64 (Int.tmod (IntKind.u64.wrap (a1)) 1000000000000000)) t150 t153 t154 _ ?side1 A7.out).mono ?_); (case side1 => exact Kd.R_V (Kd.R_tight rfl (HO149.out))); rintro e w66 ⟨v151, rfl, ho0, hb⟩; have n0_ := Aside0.mk (Kd.R_elder' (by (with_reducible repeat (first | apply Kd.R_alloc | apply Kd.R_drewN | apply Kd.R_drew)); exact HO149.out) (Kd.R_base ho0) hb); have n1_ := Aside0.mk (Kd.R_lower (Kd.R_new' (Kd.R_mono (ok' := fun k_ => True) ho0 (fun _ hk_ => trivial)) (Kd.R_lt (by (with_reducible repeat (first | apply Kd.R_alloc | apply Kd.R_drewN | apply Kd.R_drew)); exact HO149.out))) (below_size (by repeat (first | (with_reducible first | exact HB.out | apply below_alloc | apply pw_below_drewN | apply below_drew1) | exact HB.out)))); have n2_ := Aside0.mk (below_step (by repeat (first | (with_reducible first | exact HB.out | apply below_alloc | apply pw_below_drewN | apply below_drew1) | exact HB.out)) hb); clear HO149; clear HB; have HO149 := n0_; have HO152 := n1_; have HB := n2_; clear n0_ n1_ n2_; (try clear hb); (try clear hb2); (try clear hk); (try clear hi); (try clear ho0)) | (go_at_call 11; (with_reducible refine (pylonref19_Check.calls k _ _ l0 t155 _ ?side1 ?side2 A8.out).mono ?_); (case side1 => repeat (first | exact (Kd.C_below HR0.out HB.out) | (with_reducible refine Kd.C_alloc ?_ _) | (with_reducible refine Kd.C_drewN ?_ _) | (with_reducible refine Kd.C_drew ?_))); (case side2 => exact HC0.out); rintro e w67 ⟨rfl, hb⟩; have n0_ := Aside0.mk (Kd.R_below (by (with_reducible repeat (first | apply Kd.R_alloc | apply Kd.R_drewN | apply Kd.R_drew)); exact HO149.out) hb); have n1_ := Aside0.mk (Kd.R_below (by (with_reducible repeat (first | apply Kd.R_alloc | apply Kd.R_drewN | apply Kd.R_drew)); exact HO152.out) hb); have n2_ := Aside0.mk (below_step (by repeat (first | (with_reducible first | exact HB.out | apply below_alloc | apply pw_below_drewN | apply below_drew1) | exact HB.out)) hb); clear HO149; clear HO152; clear HB; have HO149 := n0_; have HO152 := n1_; have HB := n2_; clear n0_ n1_ n2_; (try clear hb); (try clear hb2); (try clear hk); (try clear hi))))
     go_ret
     exact ⟨by first | rfl | (simp [errW_none, errW_some] <;> rfl) | (simp [*, errW_none, errW_some] <;> rfl), by repeat (first | (with_reducible first | exact HB.out | apply below_alloc | apply pw_below_drewN | apply below_drew1) | exact HB.out)⟩
   ·rw [if_neg c55] at H
    have c55b0 : (t154 == 8) = false := beq_eq_false_iff_ne.mpr c55
    have c55b1 : (t154 != 8) = true := bne_iff_ne.mpr c55
    obtain rfl := Option.some.inj H
    go_enter Try.func3, Try.ntmps3
    go_wp2_with (first | (go_at_call 8; (with_reducible refine (pylonlaw19_awake.calls k  true _ A4.out).mono ?_); rintro e w68 ⟨rfl, hb⟩; have n0_ := Aside0.mk (below_step (by repeat (first | (with_reducible first | exact HB.out | apply below_alloc | apply pw_below_drewN | apply below_drew1) | exact HB.out)) hb); clear HB; have HB := n0_; clear n0_; (try clear hb); (try clear hb2); (try clear hk); (try clear hi)) | (go_at_call 10; have _t := tqA6; clear _t tqA6; (with_reducible refine (pylonlaw19_copyLots.calls _ _ l0 t147 _ ?side1 ?side2 A6.out).mono ?_); (case side1 => repeat (first | exact (Kd.C_below HR0.out HB.out) | (with_reducible refine Kd.C_alloc ?_ _) | (with_reducible refine Kd.C_drewN ?_ _) | (with_reducible refine Kd.C_drew ?_))); (case side2 => exact HC0.out); rintro e w69 ⟨v148, rfl, ho0, hb⟩; have n0_ := Aside0.mk (Kd.R_lower ho0 (below_size (by repeat (first | (with_reducible first | exact HB.out | apply below_alloc | apply pw_below_drewN | apply below_drew1) | exact HB.out)))); have n1_ := Aside0.mk (below_step (by repeat (first | (with_reducible first | exact HB.out | apply below_alloc | apply pw_below_drewN | apply below_drew1) | exact HB.out)) hb); clear HB; have HO149 := n0_; have HB := n1_; clear n0_ n1_; (try clear hb); (try clear hb2); (try clear hk); (try clear hi); (try clear ho0); obtain ⟨Ao70, co70, eo70⟩ := Kd.R_slice HO149.out; subst eo70) | (go_at_call 9; (with_reducible refine (bank_Take.calls k (fun k_ => some k_ = (.slice Ao70 t147.length co70 : Value).ownBlock) _ _ t147 (wrap64 (Int.tmod (IntKind.u64.wrap (a1)) 1000000000000000)) t150 t153 t154 _ ?side1 A7.out).mono ?_); (case side1 => exact Kd.R_V (Kd.R_tight rfl (HO149.out))); rintro e w71 ⟨v151, rfl, ho0, hb⟩; have n0_ := Aside0.mk (Kd.R_elder' (by (with_reducible repeat (first | apply Kd.R_alloc | apply Kd.R_drewN | apply Kd.R_drew)); exact HO149.out) (Kd.R_base ho0) hb); have n1_ := Aside0.mk (Kd.R_lower (Kd.R_new' (Kd.R_mono (ok' := fun k_ => True) ho0 (fun _ hk_ => trivial)) (Kd.R_lt (by (with_reducible repeat (first | apply Kd.R_alloc | apply Kd.R_drewN | apply Kd.R_drew)); exact HO149.out))) (below_size (by repeat (first | (with_reducible first | exact HB.out | apply below_alloc | apply pw_below_drewN | apply below_drew1) | exact HB.out)))); have n2_ := Aside0.mk (below_step (by repeat (first | (with_reducible first | exact HB.out | apply below_alloc | apply pw_below_drewN | apply below_drew1) | exact HB.out)) hb); clear HO149; clear HB; have HO149 := n0_; have HO152 := n1_; have HB := n2_; clear n0_ n1_ n2_; (try clear hb); (try clear hb2); (try clear hk); (try clear hi); (try clear ho0)) | (go_at_call 11; (with_reducible refine (pylonref19_Check.calls k _ _ l0 t155 _ ?side1 ?side2 A8.out).mono ?_); (case side1 => repeat (first | exact (Kd.C_below HR0.out HB.out) | (with_reducible refine Kd.C_alloc ?_ _) | (with_reducible refine Kd.C_drewN ?_ _) | (with_reducible refine Kd.C_drew ?_))); (case side2 => exact HC0.out); rintro e w72 ⟨rfl, hb⟩; have n0_ := Aside0.mk (Kd.R_below (by (with_reducible repeat (first | apply Kd.R_alloc | apply Kd.R_drewN | apply Kd.R_drew)); exact HO149.out) hb); have n1_ := Aside0.mk (Kd.R_below (by (with_reducible repeat (first | apply Kd.R_alloc | apply Kd.R_drewN | apply Kd.R_drew)); exact HO152.out) hb); have n2_ := Aside0.mk (below_step (by repeat (first | (with_reducible first | exact HB.out | apply below_alloc | apply pw_below_drewN | apply below_drew1) | exact HB.out)) hb); clear HO149; clear HO152; clear HB; have HO149 := n0_; have HO152 := n1_; have HB := n2_; clear n0_ n1_ n2_; (try clear hb); (try clear hb2); (try clear hk); (try clear hi)))
    repeat (go_quiet (first | (go_at_call 8; (with_reducible refine (pylonlaw19_awake.calls k  true _ A4.out).mono ?_); rintro e w68 ⟨rfl, hb⟩; have n0_ := Aside0.mk (below_step (by repeat (first | (with_reducible first | exact HB.out | apply below_alloc | apply pw_below_drewN | apply below_drew1) | exact HB.out)) hb); clear HB; have HB := n0_; clear n0_; (try clear hb); (try clear hb2); (try clear hk); (try clear hi)) | (go_at_call 10; have _t := tqA6; clear _t tqA6; (with_reducible refine (pylonlaw19_copyLots.calls _ _ l0 t147 _ ?side1 ?side2 A6.out).mono ?_); (case side1 => repeat (first | exact (Kd.C_below HR0.out HB.out) | (with_reducible refine Kd.C_alloc ?_ _) | (with_reducible refine Kd.C_drewN ?_ _) | (with_reducible refine Kd.C_drew ?_))); (case side2 => exact HC0.out); rintro e w69 ⟨v148, rfl, ho0, hb⟩; have n0_ := Aside0.mk (Kd.R_lower ho0 (below_size (by repeat (first | (with_reducible first | exact HB.out | apply below_alloc | apply pw_below_drewN | apply below_drew1) | exact HB.out)))); have n1_ := Aside0.mk (below_step (by repeat (first | (with_reducible first | exact HB.out | apply below_alloc | apply pw_below_drewN | apply below_drew1) | exact HB.out)) hb); clear HB; have HO149 := n0_; have HB := n1_; clear n0_ n1_; (try clear hb); (try clear hb2); (try clear hk); (try clear hi); (try clear ho0); obtain ⟨Ao70, co70, eo70⟩ := Kd.R_slice HO149.out; subst eo70) | (go_at_call 9; (with_reducible refine (bank_Take.calls k (fun k_ => some k_ = (.slice Ao70 t147.length co70 : Value).ownBlock) _ _ t147 (wrap64 (Int.tmod (IntKind.u64.wrap (a1)) 1000000000000000)) t150 t153 t154 _ ?side1 A7.out).mono ?_); (case side1 => exact Kd.R_V (Kd.R_tight rfl (HO149.out))); rintro e w71 ⟨v151, rfl, ho0, hb⟩; have n0_ := Aside0.mk (Kd.R_elder' (by (with_reducible repeat (first | apply Kd.R_alloc | apply Kd.R_drewN | apply Kd.R_drew)); exact HO149.out) (Kd.R_base ho0) hb); have n1_ := Aside0.mk (Kd.R_lower (Kd.R_new' (Kd.R_mono (ok' := fun k_ => True) ho0 (fun _ hk_ => trivial)) (Kd.R_lt (by (with_reducible repeat (first | apply Kd.R_alloc | apply Kd.R_drewN | apply Kd.R_drew)); exact HO149.out))) (below_size (by repeat (first | (with_reducible first | exact HB.out | apply below_alloc | apply pw_below_drewN | apply below_drew1) | exact HB.out)))); have n2_ := Aside0.mk (below_step (by repeat (first | (with_reducible first | exact HB.out | apply below_alloc | apply pw_below_drewN | apply below_drew1) | exact HB.out)) hb); clear HO149; clear HB; have HO149 := n0_; have HO152 := n1_; have HB := n2_; clear n0_ n1_ n2_; (try clear hb); (try clear hb2); (try clear hk); (try clear hi); (try clear ho0)) | (go_at_call 11; (with_reducible refine (pylonref19_Check.calls k _ _ l0 t155 _ ?side1 ?side2 A8.out).mono ?_); (case side1 => repeat (first | exact (Kd.C_below HR0.out HB.out) | (with_reducible refine Kd.C_alloc ?_ _) | (with_reducible refine Kd.C_drewN ?_ _) | (with_reducible refine Kd.C_drew ?_))); (case side2 => exact HC0.out); rintro e w72 ⟨rfl, hb⟩; have n0_ := Aside0.mk (Kd.R_below (by (with_reducible repeat (first | apply Kd.R_alloc | apply Kd.R_drewN | apply Kd.R_drew)); exact HO149.out) hb); have n1_ := Aside0.mk (Kd.R_below (by (with_reducible repeat (first | apply Kd.R_alloc | apply Kd.R_drewN | apply Kd.R_drew)); exact HO152.out) hb); have n2_ := Aside0.mk (below_step (by repeat (first | (with_reducible first | exact HB.out | apply below_alloc | apply pw_below_drewN | apply below_drew1) | exact HB.out)) hb); clear HO149; clear HO152; clear HB; have HO149 := n0_; have HO152 := n1_; have HB := n2_; clear n0_ n1_ n2_; (try clear hb); (try clear hb2); (try clear hk); (try clear hi))); try go_wp2_with (first | (go_at_call 8; (with_reducible refine (pylonlaw19_awake.calls k  true _ A4.out).mono ?_); rintro e w68 ⟨rfl, hb⟩; have n0_ := Aside0.mk (below_step (by repeat (first | (with_reducible first | exact HB.out | apply below_alloc | apply pw_below_drewN | apply below_drew1) | exact HB.out)) hb); clear HB; have HB := n0_; clear n0_; (try clear hb); (try clear hb2); (try clear hk); (try clear hi)) | (go_at_call 10; have _t := tqA6; clear _t tqA6; (with_reducible refine (pylonlaw19_copyLots.calls _ _ l0 t147 _ ?side1 ?side2 A6.out).mono ?_); (case side1 => repeat (first | exact (Kd.C_below HR0.out HB.out) | (with_reducible refine Kd.C_alloc ?_ _) | (with_reducible refine Kd.C_drewN ?_ _) | (with_reducible refine Kd.C_drew ?_))); (case side2 => exact HC0.out); rintro e w69 ⟨v148, rfl, ho0, hb⟩; have n0_ := Aside0.mk (Kd.R_lower ho0 (below_size (by repeat (first | (with_reducible first | exact HB.out | apply below_alloc | apply pw_below_drewN | apply below_drew1) | exact HB.out)))); have n1_ := Aside0.mk (below_step (by repeat (first | (with_reducible first | exact HB.out | apply below_alloc | apply pw_below_drewN | apply below_drew1) | exact HB.out)) hb); clear HB; have HO149 := n0_; have HB := n1_; clear n0_ n1_; (try clear hb); (try clear hb2); (try clear hk); (try clear hi); (try clear ho0); obtain ⟨Ao70, co70, eo70⟩ := Kd.R_slice HO149.out; subst eo70) | (go_at_call 9; (with_reducible refine (bank_Take.calls k (fun k_ => some k_ = (.slice Ao70 t147.length co70 : Value).ownBlock) _ _ t147 (wrap64 (Int.tmod (IntKind.u64.wrap (a1)) 1000000000000000)) t150 t153 t154 _ ?side1 A7.out).mono ?_); (case side1 => exact Kd.R_V (Kd.R_tight rfl (HO149.out))); rintro e w71 ⟨v151, rfl, ho0, hb⟩; have n0_ := Aside0.mk (Kd.R_elder' (by (with_reducible repeat (first | apply Kd.R_alloc | apply Kd.R_drewN | apply Kd.R_drew)); exact HO149.out) (Kd.R_base ho0) hb); have n1_ := Aside0.mk (Kd.R_lower (Kd.R_new' (Kd.R_mono (ok' := fun k_ => True) ho0 (fun _ hk_ => trivial)) (Kd.R_lt (by (with_reducible repeat (first | apply Kd.R_alloc | apply Kd.R_drewN | apply Kd.R_drew)); exact HO149.out))) (below_size (by repeat (first | (with_reducible first | exact HB.out | apply below_alloc | apply pw_below_drewN | apply below_drew1) | exact HB.out)))); have n2_ := Aside0.mk (below_step (by repeat (first | (with_reducible first | exact HB.out | apply below_alloc | apply pw_below_drewN | apply below_drew1) | exact HB.out)) hb); clear HO149; clear HB; have HO149 := n0_; have HO152 := n1_; have HB := n2_; clear n0_ n1_ n2_; (try clear hb); (try clear hb2); (try clear hk); (try clear hi); (try clear ho0)) | (go_at_call 11; (with_reducible refine (pylonref19_Check.calls k _ _ l0 t155 _ ?side1 ?side2 A8.out).mono ?_); (case side1 => repeat (first | exact (Kd.C_below HR0.out HB.out) | (with_reducible refine Kd.C_alloc ?_ _) | (with_reducible refine Kd.C_drewN ?_ _) | (with_reducible refine Kd.C_drew ?_))); (case side2 => exact HC0.out); rintro e w72 ⟨rfl, hb⟩; have n0_ := Aside0.mk (Kd.R_below (by (with_reducible repeat (first | apply Kd.R_alloc | apply Kd.R_drewN | apply Kd.R_drew)); exact HO149.out) hb); have n1_ := Aside0.mk (Kd.R_below (by (with_reducible repeat (first | apply Kd.R_alloc | apply Kd.R_drewN | apply Kd.R_drew)); exact HO152.out) hb); have n2_ := Aside0.mk (below_step (by repeat (first | (with_reducible first | exact HB.out | apply below_alloc | apply pw_below_drewN | apply below_drew1) | exact HB.out)) hb); clear HO149; clear HO152; clear HB; have HO149 := n0_; have HO152 := n1_; have HB := n2_; clear n0_ n1_ n2_; (try clear hb); (try clear hb2); (try clear hk); (try clear hi))))
    go_ret
    exact ⟨by first | rfl | (simp [errW_none, errW_some] <;> rfl) | (simp [*, errW_none, errW_some] <;> rfl), by repeat (first | (with_reducible first | exact HB.out | apply below_alloc | apply pw_below_drewN | apply below_drew1) | exact HB.out)⟩
 ·replace c5 := Bool.eq_false_iff.mpr c5
  subst c5
  have H1 : (some false) = some r := by rw [if_neg (show ¬ (false = true) by decide)] at H; exact H
  clear H
  have H := H1
  clear H1
  obtain rfl := Option.some.inj H
  go_enter Try.func3, Try.ntmps3
  go_wp2_with (first | (go_at_call 8; (with_reducible refine (pylonlaw19_awake.calls k  false _ A4.out).mono ?_); rintro e w73 ⟨rfl, hb⟩; have n0_ := Aside0.mk (below_step (by repeat (first | (with_reducible first | exact HB.out | apply below_alloc | apply pw_below_drewN | apply below_drew1) | exact HB.out)) hb); clear HB; have HB := n0_; clear n0_; (try clear hb); (try clear hb2); (try clear hk); (try clear hi)))
  repeat (go_quiet (first | (go_at_call 8; (with_reducible refine (pylonlaw19_awake.calls k  false _ A4.out).mono ?_); rintro e w73 ⟨rfl, hb⟩; have n0_ := Aside0.mk (below_step (by repeat (first | (with_reducible first | exact HB.out | apply below_alloc | apply pw_below_drewN | apply below_drew1) | exact HB.out)) hb); clear HB; have HB := n0_; clear n0_; (try clear hb); (try clear hb2); (try clear hk); (try clear hi))); try go_wp2_with (first | (go_at_call 8; (with_reducible refine (pylonlaw19_awake.calls k  false _ A4.out).mono ?_); rintro e w73 ⟨rfl, hb⟩; have n0_ := Aside0.mk (below_step (by repeat (first | (with_reducible first | exact HB.out | apply below_alloc | apply pw_below_drewN | apply below_drew1) | exact HB.out)) hb); clear HB; have HB := n0_; clear n0_; (try clear hb); (try clear hb2); (try clear hk); (try clear hi))))
  go_ret
  exact ⟨by first | rfl | (simp [errW_none, errW_some] <;> rfl) | (simp [*, errW_none, errW_some] <;> rfl), by repeat (first | (with_reducible first | exact HB.out | apply below_alloc | apply pw_below_drewN | apply below_drew1) | exact HB.out)⟩

end Go.Proofs.Ytpogcehbciacdaa.PX
