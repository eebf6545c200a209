/- The law TouOne: for every tariff and moment the call returns true (no conditions). -/
import Derived.Test.YtkggjjggcbcdiaaPXx12
import Derived.Test.YtkggjjggcbcdiaaPXx16
import Derived.Test.YtkggjjggcbcdiaaPXx21
import Derived.Test.YtkggjjggcbcdiaaPXx22
import Derived.Test.YtkggjjggcbcdiaaFtA
import Derived.Test.YtkggjjggcbcdiaaFtG
import Derived.Test.YtkggjjggcbcdiaaFtH
import Derived.Test.YtkggjjggcbcdiaaFtI
import Derived.Test.YtkggjjggcbcdiaaFtC
import Derived.Test.YtkggjjggcbcdiaaFzR
import Derived.Test.YtkggjjggcbcdiaaRd
namespace Go.Proofs.Ytkggjjggcbcdiaa.PX
open Go.RowKit Go.Proofs.YtkggjjggcbcdiaaW.PrintWords Go.Proofs.YtkggjjggcbcdiaaW.PrintLast Go.Proofs.YtkggjjggcbcdiaaW.PrintMore
set_option linter.unusedVariables false
set_option linter.unusedSimpArgs false
theorem TouOne_pure (l0 : (ByteArray × (Int × Int × (Int × Int × Int × Int) × (Int × Int × Int × Int)) × Int × Int × Int × Int × (List S58) × (List S65) × (List S60) × (List S63) × (Int × Int × Int × Int) × Int × Int × Int × Int × Int)) (a1 : Int) (h0 : (l0.1.size ≤ 140737488351232 ∧ (((Lit.int .i64 l0.2.1.1).wf = true ∧ ((Lit.int .i64 l0.2.1.2.1).wf = true ∧ (((Lit.int .i64 l0.2.1.2.2.1.1).wf = true ∧ ((Lit.int .i64 l0.2.1.2.2.1.2.1).wf = true ∧ ((Lit.int .i64 l0.2.1.2.2.1.2.2.1).wf = true ∧ (Lit.int .i64 l0.2.1.2.2.1.2.2.2).wf = true))) ∧ ((Lit.int .i64 l0.2.1.2.2.2.1).wf = true ∧ ((Lit.int .i64 l0.2.1.2.2.2.2.1).wf = true ∧ ((Lit.int .i64 l0.2.1.2.2.2.2.2.1).wf = true ∧ (Lit.int .i64 l0.2.1.2.2.2.2.2.2).wf = true)))))) ∧ ((Lit.int .i64 l0.2.2.1).wf = true ∧ ((Lit.int .i64 l0.2.2.2.1).wf = true ∧ ((Lit.int .i64 l0.2.2.2.2.1).wf = true ∧ ((Lit.int .i64 l0.2.2.2.2.2.1).wf = true ∧ ((l0.2.2.2.2.2.2.1.length * 32 ≤ 140737488351232 ∧ ∀ p ∈ l0.2.2.2.2.2.2.1, W58 p) ∧ ((l0.2.2.2.2.2.2.2.1.length * 32 ≤ 140737488351232 ∧ ∀ p ∈ l0.2.2.2.2.2.2.2.1, W65 p) ∧ ((l0.2.2.2.2.2.2.2.2.1.length * 56 ≤ 140737488351232 ∧ ∀ p ∈ l0.2.2.2.2.2.2.2.2.1, W60 p) ∧ ((l0.2.2.2.2.2.2.2.2.2.1.length * 40 ≤ 140737488351232 ∧ ∀ p ∈ l0.2.2.2.2.2.2.2.2.2.1, W63 p) ∧ (((Lit.int .i64 l0.2.2.2.2.2.2.2.2.2.2.1.1).wf = true ∧ ((Lit.int .i64 l0.2.2.2.2.2.2.2.2.2.2.1.2.1).wf = true ∧ ((Lit.int .i64 l0.2.2.2.2.2.2.2.2.2.2.1.2.2.1).wf = true ∧ (Lit.int .i64 l0.2.2.2.2.2.2.2.2.2.2.1.2.2.2).wf = true))) ∧ ((Lit.int .i64 l0.2.2.2.2.2.2.2.2.2.2.2.1).wf = true ∧ ((Lit.int .i64 l0.2.2.2.2.2.2.2.2.2.2.2.2.1).wf = true ∧ ((Lit.int .i64 l0.2.2.2.2.2.2.2.2.2.2.2.2.2.1).wf = true ∧ ((Lit.int .i64 l0.2.2.2.2.2.2.2.2.2.2.2.2.2.2.1).wf = true ∧ (Lit.int .i64 l0.2.2.2.2.2.2.2.2.2.2.2.2.2.2.2).wf = true)))))))))))))))) (h1 : (Lit.int .i64 a1).wf = true) : ∃ k, pylonlaw14_TouOne.f k l0.1 l0.2.1.1 l0.2.1.2.1 l0.2.1.2.2.1.1 l0.2.1.2.2.1.2.1 l0.2.1.2.2.1.2.2.1 l0.2.1.2.2.1.2.2.2 l0.2.1.2.2.2.1 l0.2.1.2.2.2.2.1 l0.2.1.2.2.2.2.2.1 l0.2.1.2.2.2.2.2.2 l0.2.2.1 l0.2.2.2.1 l0.2.2.2.2.1 l0.2.2.2.2.2.1 l0.2.2.2.2.2.2.1 l0.2.2.2.2.2.2.2.1 l0.2.2.2.2.2.2.2.2.1 l0.2.2.2.2.2.2.2.2.2.1 l0.2.2.2.2.2.2.2.2.2.2.1.1 l0.2.2.2.2.2.2.2.2.2.2.1.2.1 l0.2.2.2.2.2.2.2.2.2.2.1.2.2.1 l0.2.2.2.2.2.2.2.2.2.2.1.2.2.2 l0.2.2.2.2.2.2.2.2.2.2.2.1 l0.2.2.2.2.2.2.2.2.2.2.2.2.1 l0.2.2.2.2.2.2.2.2.2.2.2.2.2.1 l0.2.2.2.2.2.2.2.2.2.2.2.2.2.2.1 l0.2.2.2.2.2.2.2.2.2.2.2.2.2.2.2 a1 = some true := by
  obtain ⟨a0, ⟨z0, z1, ⟨z2, z3, z4, z5⟩, z6, z7, z8, z9⟩, a11, a12, a13, a14, l15, l16, l17, l18, ⟨a19, a20, a21, a22⟩, a23, a24, a25, a26, a27⟩ := l0
  dsimp only at h0 ⊢
  obtain ⟨n0, ⟨v0, v1, ⟨v2, v3, v4, v5⟩, v6, v7, v8, v9⟩, -, -, -, -, ⟨n15, w15⟩, ⟨n16, w16⟩, ⟨n17, w17⟩, ⟨n18, w18⟩, -⟩ := h0
  obtain ⟨z, hzz⟩ : ∃ z : Civ.Zn, z = ⟨z0, z1, z2, z3, z4, z5, z6, z7, z8, z9⟩ := ⟨_, rfl⟩
  have hz : zwf z := hzz ▸ ⟨wf64 v0, wf64 v1, wf64 v2, wf64 v3, wf64 v4, wf64 v5, wf64 v6, wf64 v7, wf64 v8, wf64 v9⟩
  have i1 : i64 a1 := wf64 h1
  obtain ⟨n, N1, hN⟩ := nameTot a0 (by omega)
  obtain ⟨s, N2, hS⟩ := seasonsTot l15 w15
  obtain ⟨h, N3, hH, hH2⟩ := holsTot l16 (by omega)
  obtain ⟨b, N4, hB⟩ := blocksTot l18 (by omega) (fun x hx => ⟨by have := (w18 x hx).1; omega, by have := (w18 x hx).2.1; omega⟩)
  obtain ⟨wi, hW⟩ : ∃ wi, pylonref09_windows.f a0 z0 z1 z2 z3 z4 z5 z6 z7 z8 z9 a11 a12 a13 a14 l15 l16 l17 l18 a19 a20 a21 a22 a23 a24 a25 a26 a27 = some wi := by unfold pylonref09_windows.f; split <;> exact ⟨_, rfl⟩
  obtain ⟨K, hK⟩ : ∃ K : Nat, K = 11100 := ⟨_, rfl⟩
  obtain ⟨k, hk⟩ : ∃ k : Nat, k = K * l16.length + l15.length + l17.length + l18.length + K + N1 + N2 + N3 + N4 := ⟨_, rfl⟩
  have hk2 : 30 * l16.length + l15.length + 11100 ≤ k := by
    have : 30 * l16.length ≤ K * l16.length := Nat.mul_le_mul_right _ (by omega)
    omega
  refine ⟨k, ?_⟩
  have C := tcopyf a0 z0 z1 z2 z3 z4 z5 z6 z7 z8 z9 a11 a12 a13 a14 l15 l16 l17 l18 a19 a20 a21 a22 a23 a24 a25 a26 a27 (by omega) (by omega) (by omega) (by omega) (fun x hx => by have := (w18 x hx).2.1; omega)
  have ZC := refzcheck (k := k) (by omega) z
  have RA : ∀ t, i64 t → pylonref04_At.f k z0 z1 z2 z3 z4 z5 z6 z7 z8 z9 t = some (Civ.at_ z t) := fun t ht => by
    have := refzAt (k := k) (by omega) z ht
    rw [hzz] at this ⊢
    exact this
  obtain ⟨L1, L2, L3, L4, L5, L6, hL⟩ : ∃ L1 L2 L3 L4 L5 L6 : Int, Civ.at_ z a1 = (L1, L2, L3, L4, L5, L6) := ⟨_, _, _, _, _, _, rfl⟩
  obtain ⟨nm, e, hAt⟩ := atTot a0 z a11 a12 a13 a14 l15 l16 l17 l18 a19 a20 a21 a22 a23 a24 a25 a26 a27 hz i1 (by omega) (by omega) (by omega) w15 w16 (k := k) (by omega)
  unfold pylonlaw14_TouOne.f
  rw [if_pos]
  refine ⟨tawake (by omega), C, ⟨n, hN k (by omega)⟩, _, s, h, b, wi, (by rw [hzz] at ZC; exact ZC), hS k (by omega), hH k (by omega), hB k (by omega), hW, L1, L2, L3, L4, L5, L6, (by rw [RA a1 i1, hL]), nm, e, (by rw [hzz] at hAt; exact hAt), ?_⟩
  rintro ⟨e1, rfl, rfl, rfl, rfl⟩
  have zo : Civ.zok z := by
    by_cases c : Civ.zok z
    · exact c
    · rw [← hzz] at e1; simp only [if_neg c] at e1; omega
  constructor
  · intro h6
    have hat := hL
    unfold Civ.at_ at hL
    rw [if_pos zo] at hL
    by_cases sn : Civ.seen z a1
    · rw [if_pos sn] at hL
      simp only [Prod.mk.injEq] at hL
      exact absurd hL.2.2.2.2.2.symm h6
    · rw [if_neg sn] at hL
      simp only [Prod.mk.injEq] at hL
      have A : tou_At.f k a0 z.o z.s z.m1 z.w1 z.d1 z.t1 z.m2 z.w2 z.d2 z.t2 a11 a12 a13 a14 l15 l16 l17 l18 a19 a20 a21 a22 a23 a24 a25 a26 a27 a1 = some (⟨#[]⟩, 5) := by
        unfold tou_At.f
        rw [zAt (by omega) z hz i1, hat]
        simp only [Option.bind_some]
        rw [if_neg h6, ← hL.2.2.2.2.2]
      rw [A] at hAt
      simp only [Option.some.injEq, Prod.mk.injEq] at hAt
      exact ⟨hAt.2.symm, hAt.1.symm⟩
  rintro rfl
  have hat := hL
  unfold Civ.at_ at hL
  rw [if_pos zo] at hL
  by_cases sn : Civ.seen z a1
  rotate_left
  · rw [if_neg sn] at hL; simp at hL
  rw [if_pos sn] at hL
  simp only [Prod.mk.injEq] at hL
  obtain ⟨rfl, rfl, rfl, rfl, rfl, -⟩ := hL
  have hin := sn.2
  obtain ⟨o, hoo⟩ : ∃ o, Civ.off z a1 = o := ⟨_, rfl⟩
  rw [hoo] at hin hat
  have okd := (Civ.of_ok hin.1 hin.2).1
  have hw17 : pylonref09_windows.all l15 l18 l17 = true ∧ pylonref09_windows.once l15 l17 = true := by
    unfold pylonref09_windows.f at hW
    split at hW
    · simp at hW
    · simp only [Option.some.injEq, Bool.and_eq_true] at hW; exact hW
  have SY := seasons_yes (k := k) (by omega) l15 w15 (hS k (by omega))
  have R : Rules l15 l16 l17 l18 := ⟨w15, w16, SY.1, SY.2, hH2 rfl, hw17.2, fun p hp => by
    obtain ⟨j, hj, e⟩ := rdW_ex hp
    have := hw17.1
    unfold pylonref09_windows.all at this
    rw [List.all_eq_true] at this
    rw [← e]; exact this j (List.mem_range.2 hj), by omega, by omega, by omega⟩
  obtain ⟨kd, kd4, kE⟩ := kindE_bd R.hol okd
  have m1 : 0 ≤ (a1 + 60 * o) % 86400 / 60 ∧ (a1 + 60 * o) % 86400 / 60 < 1440 := by omega
  obtain ⟨p, p1, p2, p3⟩ := touHas R a0 z a11 a12 a13 a14 a19 a20 a21 a22 a23 a24 a25 a26 a27 hz i1 hat okd m1 kd4 kE (k := k) (by omega) (fun _ => Iff.rfl) (fun _ => Iff.rfl) rfl rfl
  obtain ⟨p', q1, -, q3⟩ := touHas R a0 z a11 a12 a13 a14 a19 a20 a21 a22 a23 a24 a25 a26 a27 hz i1 hat okd m1 kd4 kE (k := k) (by omega) (L15 := l15.reverse) (L17 := l17.reverse) (fun _ => List.mem_reverse) (fun _ => List.mem_reverse) List.length_reverse List.length_reverse
  have dq := dyr_bd okd
  have e := Hit.one R dq.1 dq.2.1 kd4 (show ((a1 + 60 * o) % 86400 / 60 / 15).toNat < 96 by omega) p1 q1
  subst e
  rw [p3] at hAt
  simp only [Option.some.injEq, Prod.mk.injEq] at hAt
  obtain ⟨rfl, rfl⟩ := hAt
  refine ⟨rfl, ?_, (by rw [hzz] at q3; exact q3)⟩
  have g := R.good p p2
  unfold pylonref09_windows.good at g
  rw [Bool.and_eq_true] at g
  exact g.1
end Go.Proofs.Ytkggjjggcbcdiaa.PX
