/- HolidayKeeps: for every input the call returns true, and the input reads afterwards as before. -/
import Derived.Test.YtegedhnbmclbkaaRows
import Derived.Test.YtegedhnbmclbkaaPXx18
import Derived.Test.YtegedhnbmclbkaaPureHolidayKeeps
import Derived.Test.YtegedhnbmclbkaaRd
import Derived.WalkKit
import Derived.ProofKit
import Derived.OpenShut
import Derived.ShutString
import Derived.ChangeOld
import Derived.Below
import Derived.SizedLaws
namespace Go.Proofs.Ytegedhnbmclbkaa.holidayKeeps
open Go.ChangeShapes Go.WideShapes Go.ChangeAt Go.RowKit Go.Proofs.Ytegedhnbmclbkaa.PX Go.Proofs.YtegedhnbmclbkaaW.PrintWords
open Go.ChangeMaps (open_string shut_string)
set_option linter.unusedVariables false
theorem own : ownKnob Try.prog.godebug = none := by kernel_rfl
theorem laidOut : laidOutB Try.prog = true := by kernel_rfl
set_option maxRecDepth 100000 in
theorem lifted (os : Os) (started : os.Started) (H : Type) (enc : TypeId × Value → H) :
    ReturnsInHanded {} Try.checked os 7 .any (Rows.holidayKeepsSpec.pre6 enc Try.prog Try.f7 Rows.holidayKeepsRow.domain false) (Rows.holidayKeepsSpec.post enc Try.prog Try.f7 false true false false) := by
  refine returnsInHanded_of_change_sized (C := Try.checked) own started (by kernel_rfl) Try.func7
    (ChangeSpec.witness6 (enc := enc) (C := Try.checked) false ⟨#[], #[.slice none 0 0, .int .i64 0, .agg #[.int .i64 0, .int .i64 0, .int .i64 0]], []⟩ 8 (by kernel_rfl) (by kernel_rfl) (by kernel_rfl) (by kernel_rfl)) ?_
  intro W base args ds gs before hval0 hW hcnd hsz0 _
  have hsz : (DataW.weightsEach Try.prog (Try.f7.params.toList ++ Rows.holidayKeepsSpec.plain.varTypes Try.prog) (ds ++ gs)).all (· ≤ reachBytes) = true := hsz0
  have hval : ∀ (j : Nat) t v, Try.f7.params[j]? = some t → args[j]? = some v → Value.okWide Try.prog W .any base t v := hval0
  have hW' := hW
  obtain ⟨p, q, hA0, hV, rfl, hfz, hnd⟩ := hW
  have hA : DataW.TrodAll enc Try.prog W 0 (fun _ => true) true Try.f7.params.toList args.toList ds p := hA0
  rw [Try.params7] at hA hval hsz
  obtain ⟨v0, vs0, d0, ds0, p0, q0, hargs, rfl, rfl, h0, r0⟩ := trodAll_cons hA
  obtain ⟨v1, vs1, d1, ds1, p1, q1, rfl, rfl, rfl, h1, r1⟩ := trodAll_cons r0
  obtain ⟨v2, vs2, d2, ds2, p2, q2, rfl, rfl, rfl, h2, r2⟩ := trodAll_cons r1
  obtain ⟨rfl, rfl, rfl⟩ := trodAll_nil r2
  obtain rfl : args = #[v0, v1, v2] := by cases args; simp_all
  obtain ⟨rfl, rfl⟩ := trodVars_none hV
  have k0 := h0
  have lt0 : ∀ x ∈ p0, x.block < W.heap.size := by obtain ⟨m, hm⟩ := k0; exact DataW.trod_lt m _ _ _ hm
  obtain ⟨l0, hK0, hw0⟩ : ∃ x : (List S25), (Kd.slice 25 k25).K W x v0.cells.toList ∧ (x.length * 32 ≤ 140737488351232 ∧ ∀ p ∈ x, W25 p) := by
    obtain ⟨fuel, hf⟩ := h0
    exact (Rd.slice (B := 32) Try.underlying22 (by kernel_rfl) (by kernel_rfl) rd25) enc W 0 (fun _ => true) true fuel _ _ hf (fun n hn => by simpa using List.all_eq_true.1 hsz n (DataW.weights_mem_each (j := 0) (t := 22) rfl rfl n hn))
  obtain ⟨a0, len0, cap0, rfl⟩ := okWide_slice Try.underlying22 (hval 0 22 v0 rfl rfl)
  obtain ⟨A0, c0, hcs0, hc0, hC0⟩ := hK0
  simp [Value.cells] at hcs0
  obtain ⟨rfl, rfl, rfl⟩ := hcs0
  obtain ⟨a1, rfl, rfl, rfl, w1⟩ := open_int Try.underlying3 (hval 1 3 v1 rfl rfl) h1
  have k2 := h2
  have lt2 : ∀ x ∈ p2, x.block < W.heap.size := by obtain ⟨m, hm⟩ := k2; exact DataW.trod_lt m _ _ _ hm
  obtain ⟨l2, hK2, hw2⟩ : ∃ x : S33, k33.K W x v2.cells.toList ∧ W33 x := by
    obtain ⟨fuel, hf⟩ := h2
    exact rd33 enc W 0 (fun _ => true) true fuel _ _ hf (fun n hn => by simpa using List.all_eq_true.1 hsz n (DataW.weights_mem_each (j := 2) (t := 33) rfl rfl n hn))
  obtain ⟨cs2, rfl, hcs2⟩ := okWide_struct Try.underlying33 (hval 2 33 v2 rfl rfl)
  have hcc2 : cs2.toList = [.int .i64 l2.f0, .int .i64 l2.f1, .int .i64 l2.f2] := by
    simpa [Value.cells] using k33_open hK2
  obtain rfl : cs2 = #[.int .i64 l2.f0, .int .i64 l2.f1, .int .i64 l2.f2] := by cases cs2; simp_all
  clear hA0 hval0 hsz0 hsz
  obtain ⟨k, hk⟩ := HolidayKeeps_pure l0 a1 l2 hw0 w1 hw2
  refine (pylonlaw05_HolidayKeeps.calls k _ _ l0 a1 l2.f0 l2.f1 l2.f2 true W hC0 hc0 hk).mono fun e W' ⟨he, bel0⟩ => ?_
  have bel : Below W.heap.size W W' := bel0
  subst he
  exact ⟨_, rfl, _, _, _, [], _, [], hW', trodAll_mk1 (shut_bool Try.underlying4 _), (trodAll_cons_mk (Below.trod laidOut (by kernel_rfl) (of_decide_eq_true (by kernel_rfl)) k0 bel lt0) (trodAll_cons_mk (shut_int Try.underlying3 w1) (trodAll_cons_mk (Below.trod laidOut (by kernel_rfl) (of_decide_eq_true (by kernel_rfl)) k2 bel lt2) trodAll_mk0))), rfl, bel.frame _, fun h => by cases h⟩
theorem over : Rows.holidayKeepsRow.holds Try.pinned (OpenSpec.ofChange Rows.holidayKeepsSpec) :=
  OpenClaim.holds_of_wide 7 Try.f7 rfl rfl rfl rfl rfl rfl rfl ⟨rfl, rfl, rfl, rfl, rfl⟩ rfl rfl rfl rfl rfl (by kernel_rfl) Try.func7 (by kernel_rfl)
    (of_decide_eq_true (by kernel_rfl)) (by unfold Func.isWrapper; first | (rw [if_pos (by decide +kernel)]; kernel_rfl) | (rw [if_neg (by decide +kernel)]; exact ⟨rfl, rfl⟩))
    (fun os started H enc _ => lifted os started H enc)
theorem proved : Rows.HolidayKeepsSaid := over
#print axioms proved
end Go.Proofs.Ytegedhnbmclbkaa.holidayKeeps
namespace Go.Proofs.Ytegedhnbmclbkaa
/-- The row, under a short name, for the claim. -/
theorem holidayKeeps_holds : Rows.HolidayKeepsSaid := holidayKeeps.proved
end Go.Proofs.Ytegedhnbmclbkaa
