/- The law TouAts: for every tariff and moment the call returns true (no conditions). -/
import Derived.Test.YtkggjjggcbcdiaaPXx28
import Derived.Test.YtkggjjggcbcdiaaPXx40
import Derived.Test.YtkggjjggcbcdiaaFtA
import Derived.Test.YtkggjjggcbcdiaaFtTa
import Derived.Test.YtkggjjggcbcdiaaRd
namespace Go.Proofs.Ytkggjjggcbcdiaa.PX
open Go.RowKit Go.Proofs.YtkggjjggcbcdiaaW.PrintWords Go.Proofs.YtkggjjggcbcdiaaW.PrintLast Go.Proofs.YtkggjjggcbcdiaaW.PrintMore
set_option linter.unusedVariables false
set_option linter.unusedSimpArgs false
theorem tcopyf (a0 : ByteArray) (a1 : Int) (a2 : Int) (a3 : Int) (a4 : Int) (a5 : Int) (a6 : Int) (a7 : Int) (a8 : Int) (a9 : Int) (a10 : Int) (a11 : Int) (a12 : Int) (a13 : Int) (a14 : Int) (l15 : List S58) (l16 : List S65) (l17 : List S60) (l18 : List S63) (a19 : Int) (a20 : Int) (a21 : Int) (a22 : Int) (a23 : Int) (a24 : Int) (a25 : Int) (a26 : Int) (a27 : Int) (h15 : l15.length < 4398046511104) (h16 : l16.length < 4398046511104) (h17 : l17.length < 2513169434916) (h18 : l18.length < 3518437208883) (hw : ∀ x ∈ l18, x.f1.length < 8796093022208) :
    pylonref08_Copy.f a0 a1 a2 a3 a4 a5 a6 a7 a8 a9 a10 a11 a12 a13 a14 l15 l16 l17 l18 a19 a20 a21 a22 a23 a24 a25 a26 a27 = some (a0, a1, a2, a3, a4, a5, a6, a7, a8, a9, a10, a11, a12, a13, a14, l15, l16, l17, l18, a19, a20, a21, a22, a23, a24, a25, a26, a27) := by
  unfold pylonref08_Copy.f
  rw [if_pos]
  exact ⟨h15, h16, h17, h18, hw⟩
theorem TouAts_pure (l0 : (ByteArray × (Int × Int × (Int × Int × Int × Int) × (Int × Int × Int × Int)) × Int × Int × Int × Int × (List S58) × (List S65) × (List S60) × (List S63) × (Int × Int × Int × Int) × Int × Int × Int × Int × Int)) (a1 : Int) (h0 : (l0.1.size ≤ 140737488351232 ∧ (((Lit.int .i64 l0.2.1.1).wf = true ∧ ((Lit.int .i64 l0.2.1.2.1).wf = true ∧ (((Lit.int .i64 l0.2.1.2.2.1.1).wf = true ∧ ((Lit.int .i64 l0.2.1.2.2.1.2.1).wf = true ∧ ((Lit.int .i64 l0.2.1.2.2.1.2.2.1).wf = true ∧ (Lit.int .i64 l0.2.1.2.2.1.2.2.2).wf = true))) ∧ ((Lit.int .i64 l0.2.1.2.2.2.1).wf = true ∧ ((Lit.int .i64 l0.2.1.2.2.2.2.1).wf = true ∧ ((Lit.int .i64 l0.2.1.2.2.2.2.2.1).wf = true ∧ (Lit.int .i64 l0.2.1.2.2.2.2.2.2).wf = true)))))) ∧ ((Lit.int .i64 l0.2.2.1).wf = true ∧ ((Lit.int .i64 l0.2.2.2.1).wf = true ∧ ((Lit.int .i64 l0.2.2.2.2.1).wf = true ∧ ((Lit.int .i64 l0.2.2.2.2.2.1).wf = true ∧ ((l0.2.2.2.2.2.2.1.length * 32 ≤ 140737488351232 ∧ ∀ p ∈ l0.2.2.2.2.2.2.1, W58 p) ∧ ((l0.2.2.2.2.2.2.2.1.length * 32 ≤ 140737488351232 ∧ ∀ p ∈ l0.2.2.2.2.2.2.2.1, W65 p) ∧ ((l0.2.2.2.2.2.2.2.2.1.length * 56 ≤ 140737488351232 ∧ ∀ p ∈ l0.2.2.2.2.2.2.2.2.1, W60 p) ∧ ((l0.2.2.2.2.2.2.2.2.2.1.length * 40 ≤ 140737488351232 ∧ ∀ p ∈ l0.2.2.2.2.2.2.2.2.2.1, W63 p) ∧ (((Lit.int .i64 l0.2.2.2.2.2.2.2.2.2.2.1.1).wf = true ∧ ((Lit.int .i64 l0.2.2.2.2.2.2.2.2.2.2.1.2.1).wf = true ∧ ((Lit.int .i64 l0.2.2.2.2.2.2.2.2.2.2.1.2.2.1).wf = true ∧ (Lit.int .i64 l0.2.2.2.2.2.2.2.2.2.2.1.2.2.2).wf = true))) ∧ ((Lit.int .i64 l0.2.2.2.2.2.2.2.2.2.2.2.1).wf = true ∧ ((Lit.int .i64 l0.2.2.2.2.2.2.2.2.2.2.2.2.1).wf = true ∧ ((Lit.int .i64 l0.2.2.2.2.2.2.2.2.2.2.2.2.2.1).wf = true ∧ ((Lit.int .i64 l0.2.2.2.2.2.2.2.2.2.2.2.2.2.2.1).wf = true ∧ (Lit.int .i64 l0.2.2.2.2.2.2.2.2.2.2.2.2.2.2.2).wf = true)))))))))))))))) (h1 : (Lit.int .i64 a1).wf = true) : ∃ k, pylonlaw14_TouAts.f k l0.1 l0.2.1.1 l0.2.1.2.1 l0.2.1.2.2.1.1 l0.2.1.2.2.1.2.1 l0.2.1.2.2.1.2.2.1 l0.2.1.2.2.1.2.2.2 l0.2.1.2.2.2.1 l0.2.1.2.2.2.2.1 l0.2.1.2.2.2.2.2.1 l0.2.1.2.2.2.2.2.2 l0.2.2.1 l0.2.2.2.1 l0.2.2.2.2.1 l0.2.2.2.2.2.1 l0.2.2.2.2.2.2.1 l0.2.2.2.2.2.2.2.1 l0.2.2.2.2.2.2.2.2.1 l0.2.2.2.2.2.2.2.2.2.1 l0.2.2.2.2.2.2.2.2.2.2.1.1 l0.2.2.2.2.2.2.2.2.2.2.1.2.1 l0.2.2.2.2.2.2.2.2.2.2.1.2.2.1 l0.2.2.2.2.2.2.2.2.2.2.1.2.2.2 l0.2.2.2.2.2.2.2.2.2.2.2.1 l0.2.2.2.2.2.2.2.2.2.2.2.2.1 l0.2.2.2.2.2.2.2.2.2.2.2.2.2.1 l0.2.2.2.2.2.2.2.2.2.2.2.2.2.2.1 l0.2.2.2.2.2.2.2.2.2.2.2.2.2.2.2 a1 = some true := by
  obtain ⟨K, hK⟩ : ∃ K : Nat, K = 11021 := ⟨_, rfl⟩
  obtain ⟨a0, ⟨z0, z1, ⟨z2, z3, z4, z5⟩, z6, z7, z8, z9⟩, a11, a12, a13, a14, l15, l16, l17, l18, ⟨a19, a20, a21, a22⟩, a23, a24, a25, a26, a27⟩ := l0
  dsimp only at h0 ⊢
  obtain ⟨-, ⟨v0, v1, ⟨v2, v3, v4, v5⟩, v6, v7, v8, v9⟩, -, -, -, -, ⟨n15, w15⟩, ⟨n16, w16⟩, ⟨n17, w17⟩, ⟨n18, w18⟩, -⟩ := h0
  have hz : zwf ⟨z0, z1, z2, z3, z4, z5, z6, z7, z8, z9⟩ := ⟨wf64 v0, wf64 v1, wf64 v2, wf64 v3, wf64 v4, wf64 v5, wf64 v6, wf64 v7, wf64 v8, wf64 v9⟩
  obtain ⟨k, hk⟩ : ∃ k : Nat, k = K * l16.length + l15.length + l17.length + l18.length + K := ⟨_, rfl⟩
  refine ⟨k, ?_⟩
  have C := tcopyf a0 z0 z1 z2 z3 z4 z5 z6 z7 z8 z9 a11 a12 a13 a14 l15 l16 l17 l18 a19 a20 a21 a22 a23 a24 a25 a26 a27 (by omega) (by omega) (by omega) (by omega) (fun x hx => by have := (w18 x hx).2.1; omega)
  obtain ⟨r, e1, e2⟩ := atf (k := k) a0 ⟨z0, z1, z2, z3, z4, z5, z6, z7, z8, z9⟩ a11 a12 a13 a14 l15 l16 l17 l18 a19 a20 a21 a22 a23 a24 a25 a26 a27 (t := a1) hz (wf64 h1) (by omega) (by omega) (by omega) w15 w16 hK (by omega)
  dsimp only at e1 e2
  unfold pylonlaw14_TouAts.f
  rw [if_pos ⟨tawake (by omega), C, r.1, r.2, e2, e1⟩]
end Go.Proofs.Ytkggjjggcbcdiaa.PX
