/- The law TouKeeps: for every tariff, moment and date the call returns true (no conditions). -/
import Derived.Test.YtkggjjggcbcdiaaPXx11
import Derived.Test.YtkggjjggcbcdiaaPXx15
import Derived.Test.YtkggjjggcbcdiaaPXx16
import Derived.Test.YtkggjjggcbcdiaaFtA
import Derived.Test.YtkggjjggcbcdiaaFtI
import Derived.Test.YtkggjjggcbcdiaaFtC
import Derived.Test.YtkggjjggcbcdiaaRd
namespace Go.Proofs.Ytkggjjggcbcdiaa.PX
open Go.RowKit Go.Proofs.YtkggjjggcbcdiaaW.PrintWords Go.Proofs.YtkggjjggcbcdiaaW.PrintLast Go.Proofs.YtkggjjggcbcdiaaW.PrintMore
set_option linter.unusedVariables false
set_option linter.unusedSimpArgs false
theorem samesteps (l : List S122) (hl : l.length ≤ 9000000000000) : ∀ (n k : Nat) (i : Int), 0 ≤ i → i + n = l.length → n + 1 ≤ k → pylonref08_SameSteps.l0 k l l l.length i = some true := by
  intro n
  induction n with
  | zero =>
    intro k i h0 hi hk
    obtain ⟨k, rfl⟩ : ∃ q, k = q + 1 := ⟨k - 1, by omega⟩
    rw [pylonref08_SameSteps.l0, if_neg (by omega)]
  | succ n ih =>
    intro k i h0 hi hk
    obtain ⟨k, rfl⟩ : ∃ q, k = q + 1 := ⟨k - 1, by omega⟩
    rw [pylonref08_SameSteps.l0, if_pos (by omega), if_pos (by omega), if_pos (by omega), if_pos (by omega), if_neg (by simp), wr (n := i + 1) (by omega) (by omega)]
    exact ih k (i + 1) (by omega) (by omega) (by omega)
theorem TouKeeps_pure (l0 : (ByteArray × (Int × Int × (Int × Int × Int × Int) × (Int × Int × Int × Int)) × Int × Int × Int × Int × (List S58) × (List S65) × (List S60) × (List S63) × (Int × Int × Int × Int) × Int × Int × Int × Int × Int)) (a1 : Int) (l2 : (Int × Int × Int)) (h0 : (l0.1.size ≤ 140737488351232 ∧ (((Lit.int .i64 l0.2.1.1).wf = true ∧ ((Lit.int .i64 l0.2.1.2.1).wf = true ∧ (((Lit.int .i64 l0.2.1.2.2.1.1).wf = true ∧ ((Lit.int .i64 l0.2.1.2.2.1.2.1).wf = true ∧ ((Lit.int .i64 l0.2.1.2.2.1.2.2.1).wf = true ∧ (Lit.int .i64 l0.2.1.2.2.1.2.2.2).wf = true))) ∧ ((Lit.int .i64 l0.2.1.2.2.2.1).wf = true ∧ ((Lit.int .i64 l0.2.1.2.2.2.2.1).wf = true ∧ ((Lit.int .i64 l0.2.1.2.2.2.2.2.1).wf = true ∧ (Lit.int .i64 l0.2.1.2.2.2.2.2.2).wf = true)))))) ∧ ((Lit.int .i64 l0.2.2.1).wf = true ∧ ((Lit.int .i64 l0.2.2.2.1).wf = true ∧ ((Lit.int .i64 l0.2.2.2.2.1).wf = true ∧ ((Lit.int .i64 l0.2.2.2.2.2.1).wf = true ∧ ((l0.2.2.2.2.2.2.1.length * 32 ≤ 140737488351232 ∧ ∀ p ∈ l0.2.2.2.2.2.2.1, W58 p) ∧ ((l0.2.2.2.2.2.2.2.1.length * 32 ≤ 140737488351232 ∧ ∀ p ∈ l0.2.2.2.2.2.2.2.1, W65 p) ∧ ((l0.2.2.2.2.2.2.2.2.1.length * 56 ≤ 140737488351232 ∧ ∀ p ∈ l0.2.2.2.2.2.2.2.2.1, W60 p) ∧ ((l0.2.2.2.2.2.2.2.2.2.1.length * 40 ≤ 140737488351232 ∧ ∀ p ∈ l0.2.2.2.2.2.2.2.2.2.1, W63 p) ∧ (((Lit.int .i64 l0.2.2.2.2.2.2.2.2.2.2.1.1).wf = true ∧ ((Lit.int .i64 l0.2.2.2.2.2.2.2.2.2.2.1.2.1).wf = true ∧ ((Lit.int .i64 l0.2.2.2.2.2.2.2.2.2.2.1.2.2.1).wf = true ∧ (Lit.int .i64 l0.2.2.2.2.2.2.2.2.2.2.1.2.2.2).wf = true))) ∧ ((Lit.int .i64 l0.2.2.2.2.2.2.2.2.2.2.2.1).wf = true ∧ ((Lit.int .i64 l0.2.2.2.2.2.2.2.2.2.2.2.2.1).wf = true ∧ ((Lit.int .i64 l0.2.2.2.2.2.2.2.2.2.2.2.2.2.1).wf = true ∧ ((Lit.int .i64 l0.2.2.2.2.2.2.2.2.2.2.2.2.2.2.1).wf = true ∧ (Lit.int .i64 l0.2.2.2.2.2.2.2.2.2.2.2.2.2.2.2).wf = true)))))))))))))))) (h1 : (Lit.int .i64 a1).wf = true) (h2 : ((Lit.int .i64 l2.1).wf = true ∧ ((Lit.int .i64 l2.2.1).wf = true ∧ (Lit.int .i64 l2.2.2).wf = true))) : ∃ k, pylonlaw14_TouKeeps.f k l0.1 l0.2.1.1 l0.2.1.2.1 l0.2.1.2.2.1.1 l0.2.1.2.2.1.2.1 l0.2.1.2.2.1.2.2.1 l0.2.1.2.2.1.2.2.2 l0.2.1.2.2.2.1 l0.2.1.2.2.2.2.1 l0.2.1.2.2.2.2.2.1 l0.2.1.2.2.2.2.2.2 l0.2.2.1 l0.2.2.2.1 l0.2.2.2.2.1 l0.2.2.2.2.2.1 l0.2.2.2.2.2.2.1 l0.2.2.2.2.2.2.2.1 l0.2.2.2.2.2.2.2.2.1 l0.2.2.2.2.2.2.2.2.2.1 l0.2.2.2.2.2.2.2.2.2.2.1.1 l0.2.2.2.2.2.2.2.2.2.2.1.2.1 l0.2.2.2.2.2.2.2.2.2.2.1.2.2.1 l0.2.2.2.2.2.2.2.2.2.2.1.2.2.2 l0.2.2.2.2.2.2.2.2.2.2.2.1 l0.2.2.2.2.2.2.2.2.2.2.2.2.1 l0.2.2.2.2.2.2.2.2.2.2.2.2.2.1 l0.2.2.2.2.2.2.2.2.2.2.2.2.2.2.1 l0.2.2.2.2.2.2.2.2.2.2.2.2.2.2.2 a1 l2.1 l2.2.1 l2.2.2 = some true := by
  obtain ⟨a0, ⟨z0, z1, ⟨z2, z3, z4, z5⟩, z6, z7, z8, z9⟩, a11, a12, a13, a14, l15, l16, l17, l18, ⟨a19, a20, a21, a22⟩, a23, a24, a25, a26, a27⟩ := l0
  dsimp only at h0 ⊢
  obtain ⟨n0, ⟨v0, v1, ⟨v2, v3, v4, v5⟩, v6, v7, v8, v9⟩, -, -, -, -, ⟨n15, w15⟩, ⟨n16, w16⟩, ⟨n17, w17⟩, ⟨n18, w18⟩, -⟩ := h0
  obtain ⟨z, hzz⟩ : ∃ z : Civ.Zn, z = ⟨z0, z1, z2, z3, z4, z5, z6, z7, z8, z9⟩ := ⟨_, rfl⟩
  have hz : zwf z := hzz ▸ ⟨wf64 v0, wf64 v1, wf64 v2, wf64 v3, wf64 v4, wf64 v5, wf64 v6, wf64 v7, wf64 v8, wf64 v9⟩
  have i1 : i64 a1 := wf64 h1
  obtain ⟨K, hK⟩ : ∃ K : Nat, K = 8796093022208 := ⟨_, rfl⟩
  obtain ⟨k, hk⟩ : ∃ k : Nat, k = 30 * l16.length + l15.length + l17.length + 200 + K := ⟨_, rfl⟩
  refine ⟨k, ?_⟩
  have C := tcopyf a0 z0 z1 z2 z3 z4 z5 z6 z7 z8 z9 a11 a12 a13 a14 l15 l16 l17 l18 a19 a20 a21 a22 a23 a24 a25 a26 a27 (by omega) (by omega) (by omega) (by omega) (fun x hx => by have := (w18 x hx).2.1; omega)
  obtain ⟨nm, e, hAt⟩ := atTot a0 z a11 a12 a13 a14 l15 l16 l17 l18 a19 a20 a21 a22 a23 a24 a25 a26 a27 hz i1 (by omega) (by omega) (by omega) w15 w16 (k := k) (by omega)
  obtain ⟨d0, d1, d2⟩ := l2
  have hse : ∃ p : Int × Int, tou_Season.f k l15 d0 d1 d2 = some p := by
    unfold tou_Season.f
    rw [civdays]
    simp only [Option.bind_some]
    by_cases c : Civ.ok d0 d1 d2
    · rw [if_pos c]
      simp only [if_true]
      obtain ⟨r, hr, -⟩ := sloopTot d0 d1 d2 l15 w15 (by omega) l15.length k 0 (by omega) (by omega)
      exact ⟨r, hr⟩
    · rw [if_neg c]
      exact ⟨(0, 5), rfl⟩
  unfold pylonlaw14_TouKeeps.f
  rw [if_pos]
  refine ⟨tawake (by omega), C, n15, n16, n17, ⟨nm, e, by rw [hzz] at hAt; exact hAt⟩, hse, ⟨_, kindf l16 w16 (by omega) (by omega) d0 d1 d2⟩, ⟨_, rfl⟩, fun x hx => ?_⟩
  have hx2 := (w18 x hx).2.1
  unfold pylonref08_SameSteps.f
  rw [if_pos rfl]
  exact samesteps x.f1 (by omega) x.f1.length k 0 (by omega) (by omega) (by omega)
end Go.Proofs.Ytkggjjggcbcdiaa.PX
