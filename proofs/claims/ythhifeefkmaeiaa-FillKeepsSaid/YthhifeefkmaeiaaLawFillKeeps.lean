/- FillKeeps: for every input the call returns true, and the input reads afterwards as before. -/
import Derived.Test.YthhifeefkmaeiaaRows
import Derived.Test.YthhifeefkmaeiaaPXx18
import Derived.Test.YthhifeefkmaeiaaPureFillKeeps
import Derived.Test.YthhifeefkmaeiaaRd
import Derived.WalkKit
import Derived.ProofKit
import Derived.OpenShut
import Derived.ShutString
import Derived.ChangeOld
import Derived.Below
import Derived.SizedLaws
namespace Go.Proofs.Ythhifeefkmaeiaa.fillKeeps
open Go.ChangeShapes Go.WideShapes Go.ChangeAt Go.RowKit Go.Proofs.Ythhifeefkmaeiaa.PX Go.Proofs.YthhifeefkmaeiaaW.PrintWords
open Go.ChangeMaps (open_string shut_string)
set_option linter.unusedVariables false
theorem own : ownKnob Try.prog.godebug = none := by kernel_rfl
theorem laidOut : laidOutB Try.prog = true := by kernel_rfl
set_option maxRecDepth 100000 in
theorem lifted (os : Os) (started : os.Started) (H : Type) (enc : TypeId × Value → H) :
    ReturnsInHanded {} Try.checked os 9 .any (Rows.fillKeepsSpec.pre6 enc Try.prog Try.f9 Rows.fillKeepsRow.domain false) (Rows.fillKeepsSpec.post enc Try.prog Try.f9 false true false false) := by
  refine returnsInHanded_of_change_sized (C := Try.checked) own started (by kernel_rfl) Try.func9
    (ChangeSpec.witness6 (enc := enc) (C := Try.checked) false ⟨#[], #[.agg #[.string ByteArray.empty, .int .i64 0, .int .i64 0, .int .i64 0, .int .i64 0, .int .i64 0, .slice none 0 0], .int .i64 0], []⟩ 8 (by kernel_rfl) (by kernel_rfl) (by kernel_rfl) (by kernel_rfl)) ?_
  intro W base args ds gs before hval0 hW hcnd hsz0 _
  have hsz : (DataW.weightsEach Try.prog (Try.f9.params.toList ++ Rows.fillKeepsSpec.plain.varTypes Try.prog) (ds ++ gs)).all (· ≤ reachBytes) = true := hsz0
  have hval : ∀ (j : Nat) t v, Try.f9.params[j]? = some t → args[j]? = some v → Value.okWide Try.prog W .any base t v := hval0
  have hW' := hW
  obtain ⟨p, q, hA0, hV, rfl, hfz, hnd⟩ := hW
  have hA : DataW.TrodAll enc Try.prog W 0 (fun _ => true) true Try.f9.params.toList args.toList ds p := hA0
  rw [Try.params9] at hA hval hsz
  obtain ⟨v0, vs0, d0, ds0, p0, q0, hargs, rfl, rfl, h0, r0⟩ := trodAll_cons hA
  obtain ⟨v1, vs1, d1, ds1, p1, q1, rfl, rfl, rfl, h1, r1⟩ := trodAll_cons r0
  obtain ⟨rfl, rfl, rfl⟩ := trodAll_nil r1
  obtain rfl : args = #[v0, v1] := by cases args; simp_all
  obtain ⟨rfl, rfl⟩ := trodVars_none hV
  have k0 := h0
  have lt0 : ∀ x ∈ p0, x.block < W.heap.size := by obtain ⟨m, hm⟩ := k0; exact DataW.trod_lt m _ _ _ hm
  obtain ⟨l0, hK0, hw0⟩ : ∃ x : (ByteArray × Int × Int × Int × Int × Int × (List S45)), (Kd.iso (Kd.pair Kd.string (Kd.pair (Kd.int .i64) (Kd.pair (Kd.int .i64) (Kd.pair (Kd.int .i64) (Kd.pair (Kd.int .i64) (Kd.pair (Kd.int .i64) (Kd.slice 45 k45))))))) id).K W x v0.cells.toList ∧ (x.1.size ≤ 140737488351232 ∧ ((Lit.int .i64 x.2.1).wf = true ∧ ((Lit.int .i64 x.2.2.1).wf = true ∧ ((Lit.int .i64 x.2.2.2.1).wf = true ∧ ((Lit.int .i64 x.2.2.2.2.1).wf = true ∧ ((Lit.int .i64 x.2.2.2.2.2.1).wf = true ∧ (x.2.2.2.2.2.2.length * 40 ≤ 140737488351232 ∧ ∀ p ∈ x.2.2.2.2.2.2, W45 p))))))) := by
    obtain ⟨fuel, hf⟩ := h0
    exact (Rd.struct (total := 7) (g := id) Try.underlying31 (by kernel_rfl) (RdF.cons (c := 1) rfl (by kernel_rfl) (Rd.string Try.underlying9) (RdF.cons (c := 1) rfl (by kernel_rfl) (Rd.int Try.underlying2) (RdF.cons (c := 1) rfl (by kernel_rfl) (Rd.int Try.underlying3) (RdF.cons (c := 1) rfl (by kernel_rfl) (Rd.int Try.underlying3) (RdF.cons (c := 1) rfl (by kernel_rfl) (Rd.int Try.underlying2) (RdF.cons (c := 1) rfl (by kernel_rfl) (Rd.int Try.underlying3) (RdF.one rfl (by kernel_rfl) (Rd.slice (B := 40) Try.underlying29 (by kernel_rfl) (by kernel_rfl) rd45)))))))) (fun a => ⟨a, rfl⟩)) enc W 0 (fun _ => true) true fuel _ _ hf (fun n hn => by simpa using List.all_eq_true.1 hsz n (DataW.weights_mem_each (j := 0) (t := 31) rfl rfl n hn))
  obtain ⟨cs0, rfl, hcs0⟩ := okWide_struct Try.underlying31 (hval 0 31 v0 rfl rfl)
  obtain ⟨A0_6, c0_6, hcc0, hc0_6, hC0_6⟩ : ∃ A0_6 c0_6, cs0.toList = [.string l0.1, .int .i64 l0.2.1, .int .i64 l0.2.2.1, .int .i64 l0.2.2.2.1, .int .i64 l0.2.2.2.2.1, .int .i64 l0.2.2.2.2.2.1, .slice A0_6 l0.2.2.2.2.2.2.length c0_6] ∧ l0.2.2.2.2.2.2.length ≤ c0_6 ∧ Kd.C k45 W A0_6 l0.2.2.2.2.2.2.length l0.2.2.2.2.2.2 := by
    have hK0' : ((Kd.iso (Kd.pair Kd.string (Kd.pair (Kd.int .i64) (Kd.pair (Kd.int .i64) (Kd.pair (Kd.int .i64) (Kd.pair (Kd.int .i64) (Kd.pair (Kd.int .i64) (Kd.slice 45 k45))))))) id)).K W l0 cs0.toList := by simpa [Value.cells] using hK0
    generalize cs0.toList = cc at hK0' ⊢
    obtain ⟨_, _, rfl, rfl, ⟨_, _, rfl, rfl, ⟨_, _, rfl, rfl, ⟨_, _, rfl, rfl, ⟨_, _, rfl, rfl, ⟨_, _, rfl, rfl, ⟨A6, c6, rfl, lq6, g6⟩⟩⟩⟩⟩⟩⟩ := hK0'
    exact ⟨_, _, rfl, lq6, g6⟩
  obtain rfl : cs0 = #[.string l0.1, .int .i64 l0.2.1, .int .i64 l0.2.2.1, .int .i64 l0.2.2.2.1, .int .i64 l0.2.2.2.2.1, .int .i64 l0.2.2.2.2.2.1, .slice A0_6 l0.2.2.2.2.2.2.length c0_6] := by cases cs0; simp_all
  obtain ⟨a1, rfl, rfl, rfl, w1⟩ := open_int Try.underlying3 (hval 1 3 v1 rfl rfl) h1
  clear hA0 hval0 hsz0 hsz
  obtain ⟨k, hk⟩ := FillKeeps_pure l0 a1 hw0 w1
  refine (pylonlaw11_FillKeeps.calls k l0.1 l0.2.1 l0.2.2.1 l0.2.2.2.1 l0.2.2.2.2.1 l0.2.2.2.2.2.1 _ _ l0.2.2.2.2.2.2 a1 true W hC0_6 hc0_6 hk).mono fun e W' ⟨he, bel0⟩ => ?_
  have bel : Below W.heap.size W W' := bel0
  subst he
  exact ⟨_, rfl, _, _, _, [], _, [], hW', trodAll_mk1 (shut_bool Try.underlying4 _), (trodAll_cons_mk (Below.trod laidOut (by kernel_rfl) (of_decide_eq_true (by kernel_rfl)) k0 bel lt0) (trodAll_cons_mk (shut_int Try.underlying3 w1) trodAll_mk0)), rfl, bel.frame _, fun h => by cases h⟩
theorem over : Rows.fillKeepsRow.holds Try.pinned (OpenSpec.ofChange Rows.fillKeepsSpec) :=
  OpenClaim.holds_of_wide 9 Try.f9 rfl rfl rfl rfl rfl rfl rfl ⟨rfl, rfl, rfl, rfl, rfl⟩ rfl rfl rfl rfl rfl (by kernel_rfl) Try.func9 (by kernel_rfl)
    (of_decide_eq_true (by kernel_rfl)) (by unfold Func.isWrapper; first | (rw [if_pos (by decide +kernel)]; kernel_rfl) | (rw [if_neg (by decide +kernel)]; exact ⟨rfl, rfl⟩))
    (fun os started H enc _ => lifted os started H enc)
theorem proved : Rows.FillKeepsSaid := over
#print axioms proved
end Go.Proofs.Ythhifeefkmaeiaa.fillKeeps
namespace Go.Proofs.Ythhifeefkmaeiaa
/-- The row, under a short name, for the claim. -/
theorem fillKeeps_holds : Rows.FillKeepsSaid := fillKeeps.proved
end Go.Proofs.Ythhifeefkmaeiaa
