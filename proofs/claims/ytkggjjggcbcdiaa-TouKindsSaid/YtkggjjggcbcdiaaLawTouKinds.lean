/- TouKinds: for every input the call returns true, and the input reads afterwards as before. -/
import Derived.Test.YtkggjjggcbcdiaaRows
import Derived.Test.YtkggjjggcbcdiaaPXx31
import Derived.Test.YtkggjjggcbcdiaaPureTouKinds
import Derived.Test.YtkggjjggcbcdiaaRd
import Derived.WalkKit
import Derived.ProofKit
import Derived.OpenShut
import Derived.ShutString
import Derived.ChangeOld
import Derived.Below
import Derived.SizedLaws
namespace Go.Proofs.Ytkggjjggcbcdiaa.touKinds
open Go.ChangeShapes Go.WideShapes Go.ChangeAt Go.RowKit Go.Proofs.Ytkggjjggcbcdiaa.PX Go.Proofs.YtkggjjggcbcdiaaW.PrintWords
open Go.ChangeMaps (open_string shut_string)
set_option linter.unusedVariables false
theorem own : ownKnob Try.prog.godebug = none := by kernel_rfl
theorem laidOut : laidOutB Try.prog = true := by kernel_rfl
set_option maxRecDepth 100000 in
theorem lifted (os : Os) (started : os.Started) (H : Type) (enc : TypeId × Value → H) :
    ReturnsInHanded {} Try.checked os 3 .any (Rows.touKindsSpec.pre6 enc Try.prog Try.f3 Rows.touKindsRow.domain false) (Rows.touKindsSpec.post enc Try.prog Try.f3 false true false false) := by
  refine returnsInHanded_of_change_sized (C := Try.checked) own started (by kernel_rfl) Try.func3
    (ChangeSpec.witness6 (enc := enc) (C := Try.checked) false ⟨#[], #[.slice none 0 0, .agg #[.int .i64 0, .int .i64 0, .int .i64 0]], []⟩ 8 (by kernel_rfl) (by kernel_rfl) (by kernel_rfl) (by kernel_rfl)) ?_
  intro W base args ds gs before hval0 hW hcnd hsz0 _
  have hsz : (DataW.weightsEach Try.prog (Try.f3.params.toList ++ Rows.touKindsSpec.plain.varTypes Try.prog) (ds ++ gs)).all (· ≤ reachBytes) = true := hsz0
  have hval : ∀ (j : Nat) t v, Try.f3.params[j]? = some t → args[j]? = some v → Value.okWide Try.prog W .any base t v := hval0
  have hW' := hW
  obtain ⟨p, q, hA0, hV, rfl, hfz, hnd⟩ := hW
  have hA : DataW.TrodAll enc Try.prog W 0 (fun _ => true) true Try.f3.params.toList args.toList ds p := hA0
  rw [Try.params3] at hA hval hsz
  obtain ⟨v0, vs0, d0, ds0, p0, q0, hargs, rfl, rfl, h0, r0⟩ := trodAll_cons hA
  obtain ⟨v1, vs1, d1, ds1, p1, q1, rfl, rfl, rfl, h1, r1⟩ := trodAll_cons r0
  obtain ⟨rfl, rfl, rfl⟩ := trodAll_nil r1
  obtain rfl : args = #[v0, v1] := by cases args; simp_all
  obtain ⟨rfl, rfl⟩ := trodVars_none hV
  have k0 := h0
  have lt0 : ∀ x ∈ p0, x.block < W.heap.size := by obtain ⟨m, hm⟩ := k0; exact DataW.trod_lt m _ _ _ hm
  obtain ⟨l0, hK0, hw0⟩ : ∃ x : (List S65), (Kd.slice 65 k65).K W x v0.cells.toList ∧ (x.length * 32 ≤ 140737488351232 ∧ ∀ p ∈ x, W65 p) := by
    obtain ⟨fuel, hf⟩ := h0
    exact (Rd.slice (B := 32) Try.underlying22 (by kernel_rfl) (by kernel_rfl) rd65) enc W 0 (fun _ => true) true fuel _ _ hf (fun n hn => by simpa using List.all_eq_true.1 hsz n (DataW.weights_mem_each (j := 0) (t := 22) rfl rfl n hn))
  obtain ⟨a0, len0, cap0, rfl⟩ := okWide_slice Try.underlying22 (hval 0 22 v0 rfl rfl)
  obtain ⟨A0, c0, hcs0, hc0, hC0⟩ := hK0
  simp [Value.cells] at hcs0
  obtain ⟨rfl, rfl, rfl⟩ := hcs0
  have k1 := h1
  have lt1 : ∀ x ∈ p1, x.block < W.heap.size := by obtain ⟨m, hm⟩ := k1; exact DataW.trod_lt m _ _ _ hm
  obtain ⟨l1, hK1, hw1⟩ : ∃ x : S24, k24.K W x v1.cells.toList ∧ W24 x := by
    obtain ⟨fuel, hf⟩ := h1
    exact rd24 enc W 0 (fun _ => true) true fuel _ _ hf (fun n hn => by simpa using List.all_eq_true.1 hsz n (DataW.weights_mem_each (j := 1) (t := 24) rfl rfl n hn))
  obtain ⟨cs1, rfl, hcs1⟩ := okWide_struct Try.underlying24 (hval 1 24 v1 rfl rfl)
  have hcc1 : cs1.toList = [.int .i64 l1.f0, .int .i64 l1.f1, .int .i64 l1.f2] := by
    simpa [Value.cells] using k24_open hK1
  obtain rfl : cs1 = #[.int .i64 l1.f0, .int .i64 l1.f1, .int .i64 l1.f2] := by cases cs1; simp_all
  clear hA0 hval0 hsz0 hsz
  obtain ⟨k, hk⟩ := TouKinds_pure l0 l1 hw0 hw1
  refine (pylonlaw14_TouKinds.calls k _ _ l0 l1.f0 l1.f1 l1.f2 true W hC0 hc0 hk).mono fun e W' ⟨he, bel0⟩ => ?_
  have bel : Below W.heap.size W W' := bel0
  subst he
  exact ⟨_, rfl, _, _, _, [], _, [], hW', trodAll_mk1 (shut_bool Try.underlying4 _), (trodAll_cons_mk (Below.trod laidOut (by kernel_rfl) (of_decide_eq_true (by kernel_rfl)) k0 bel lt0) (trodAll_cons_mk (Below.trod laidOut (by kernel_rfl) (of_decide_eq_true (by kernel_rfl)) k1 bel lt1) trodAll_mk0)), rfl, bel.frame _, fun h => by cases h⟩
theorem over : Rows.touKindsRow.holds Try.pinned (OpenSpec.ofChange Rows.touKindsSpec) :=
  OpenClaim.holds_of_wide 3 Try.f3 rfl rfl rfl rfl rfl rfl rfl ⟨rfl, rfl, rfl, rfl, rfl⟩ rfl rfl rfl rfl rfl (by kernel_rfl) Try.func3 (by kernel_rfl)
    (of_decide_eq_true (by kernel_rfl)) (by unfold Func.isWrapper; first | (rw [if_pos (by decide +kernel)]; kernel_rfl) | (rw [if_neg (by decide +kernel)]; exact ⟨rfl, rfl⟩))
    (fun os started H enc _ => lifted os started H enc)
theorem proved : Rows.TouKindsSaid := over
#print axioms proved
end Go.Proofs.Ytkggjjggcbcdiaa.touKinds
namespace Go.Proofs.Ytkggjjggcbcdiaa
/-- The row, under a short name, for the claim. -/
theorem touKinds_holds : Rows.TouKindsSaid := touKinds.proved
end Go.Proofs.Ytkggjjggcbcdiaa
