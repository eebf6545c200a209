/- HolidayAll: for every input the call returns true, and the input reads afterwards as before. -/
import Derived.Test.YtegedhnbmclbkaaRows
import Derived.Test.YtegedhnbmclbkaaPXx16
import Derived.Test.YtegedhnbmclbkaaPureHolidayAll
import Derived.Test.YtegedhnbmclbkaaRd
import Derived.WalkKit
import Derived.ProofKit
import Derived.OpenShut
import Derived.ShutString
import Derived.ChangeOld
import Derived.Below
import Derived.SizedLaws
namespace Go.Proofs.Ytegedhnbmclbkaa.holidayAll
open Go.ChangeShapes Go.WideShapes Go.ChangeAt Go.RowKit Go.Proofs.Ytegedhnbmclbkaa.PX Go.Proofs.YtegedhnbmclbkaaW.PrintWords
open Go.ChangeMaps (open_string shut_string)
set_option linter.unusedVariables false
theorem own : ownKnob Try.prog.godebug = none := by kernel_rfl
theorem laidOut : laidOutB Try.prog = true := by kernel_rfl
set_option maxRecDepth 100000 in
theorem lifted (os : Os) (started : os.Started) (H : Type) (enc : TypeId × Value → H) :
    ReturnsInHanded {} Try.checked os 5 .any (Rows.holidayAllSpec.pre6 enc Try.prog Try.f5 Rows.holidayAllRow.domain false) (Rows.holidayAllSpec.post enc Try.prog Try.f5 false true false false) := by
  refine returnsInHanded_of_change_sized (C := Try.checked) own started (by kernel_rfl) Try.func5
    (ChangeSpec.witness6 (enc := enc) (C := Try.checked) false ⟨#[], #[.slice none 0 0], []⟩ 8 (by kernel_rfl) (by kernel_rfl) (by kernel_rfl) (by kernel_rfl)) ?_
  intro W base args ds gs before hval0 hW hcnd hsz0 _
  have hsz : (DataW.weightsEach Try.prog (Try.f5.params.toList ++ Rows.holidayAllSpec.plain.varTypes Try.prog) (ds ++ gs)).all (· ≤ reachBytes) = true := hsz0
  have hval : ∀ (j : Nat) t v, Try.f5.params[j]? = some t → args[j]? = some v → Value.okWide Try.prog W .any base t v := hval0
  have hW' := hW
  obtain ⟨p, q, hA0, hV, rfl, hfz, hnd⟩ := hW
  have hA : DataW.TrodAll enc Try.prog W 0 (fun _ => true) true Try.f5.params.toList args.toList ds p := hA0
  rw [Try.params5] at hA hval hsz
  obtain ⟨v0, vs0, d0, ds0, p0, q0, hargs, rfl, rfl, h0, r0⟩ := trodAll_cons hA
  obtain ⟨rfl, rfl, rfl⟩ := trodAll_nil r0
  obtain rfl : args = #[v0] := by cases args; simp_all
  obtain ⟨rfl, rfl⟩ := trodVars_none hV
  have k0 := h0
  have lt0 : ∀ x ∈ p0, x.block < W.heap.size := by obtain ⟨m, hm⟩ := k0; exact DataW.trod_lt m _ _ _ hm
  obtain ⟨l0, hK0, hw0⟩ : ∃ x : (List S43), (Kd.slice 43 k43).K W x v0.cells.toList ∧ (x.length * 96 ≤ 140737488351232 ∧ ∀ p ∈ x, W43 p) := by
    obtain ⟨fuel, hf⟩ := h0
    exact (Rd.slice (B := 96) Try.underlying38 (by kernel_rfl) (by kernel_rfl) rd43) enc W 0 (fun _ => true) true fuel _ _ hf (fun n hn => by simpa using List.all_eq_true.1 hsz n (DataW.weights_mem_each (j := 0) (t := 38) rfl rfl n hn))
  obtain ⟨a0, len0, cap0, rfl⟩ := okWide_slice Try.underlying38 (hval 0 38 v0 rfl rfl)
  obtain ⟨A0, c0, hcs0, hc0, hC0⟩ := hK0
  simp [Value.cells] at hcs0
  obtain ⟨rfl, rfl, rfl⟩ := hcs0
  clear hA0 hval0 hsz0 hsz
  obtain ⟨k, hk⟩ := HolidayAll_pure l0 hw0
  refine (pylonlaw05_HolidayAll.calls k _ _ l0 true W hC0 hc0 hk).mono fun e W' ⟨he, bel0⟩ => ?_
  have bel : Below W.heap.size W W' := bel0
  subst he
  exact ⟨_, rfl, _, _, _, [], _, [], hW', trodAll_mk1 (shut_bool Try.underlying4 _), (trodAll_cons_mk (Below.trod laidOut (by kernel_rfl) (of_decide_eq_true (by kernel_rfl)) k0 bel lt0) trodAll_mk0), rfl, bel.frame _, fun h => by cases h⟩
theorem over : Rows.holidayAllRow.holds Try.pinned (OpenSpec.ofChange Rows.holidayAllSpec) :=
  OpenClaim.holds_of_wide 5 Try.f5 rfl rfl rfl rfl rfl rfl rfl ⟨rfl, rfl, rfl, rfl, rfl⟩ rfl rfl rfl rfl rfl (by kernel_rfl) Try.func5 (by kernel_rfl)
    (of_decide_eq_true (by kernel_rfl)) (by unfold Func.isWrapper; first | (rw [if_pos (by decide +kernel)]; kernel_rfl) | (rw [if_neg (by decide +kernel)]; exact ⟨rfl, rfl⟩))
    (fun os started H enc _ => lifted os started H enc)
theorem proved : Rows.HolidayAllSaid := over
#print axioms proved
end Go.Proofs.Ytegedhnbmclbkaa.holidayAll
namespace Go.Proofs.Ytegedhnbmclbkaa
/-- The row, under a short name, for the claim. -/
theorem holidayAll_holds : Rows.HolidayAllSaid := holidayAll.proved
end Go.Proofs.Ytegedhnbmclbkaa
