/- The law PeriodKeeps: for every run of slots and billing day the call returns true (no conditions). -/
import Derived.Test.YtddkckpfmleffaaPXx22
import Derived.Test.YtddkckpfmleffaaPXx39
import Derived.Test.YtddkckpfmleffaaFqE
namespace Go.Proofs.Ytddkckpfmleffaa.PX
open Go.RowKit Go.Proofs.YtddkckpfmleffaaW.PrintWords Go.Proofs.YtddkckpfmleffaaW.PrintLast Go.Proofs.YtddkckpfmleffaaW.PrintMore
set_option linter.unusedVariables false
set_option linter.unusedSimpArgs false
section
variable (c : List S74) (d y : List S33) (hc : c.length ≤ 40000) (hd : d.length ≤ 40000) (hy : y.length ≤ 40000)
include hc hd hy
theorem keeps3 (m : Nat) : ∀ (k : Nat) (a : List S74) (b x : List S33) (i : Int), m + 50000 ≤ k → i + m = 20 → 0 ≤ i → a.length ≤ 40000 + i → b.length ≤ 40000 + i → x.length ≤ 40000 + i →
    pylonlaw13_PeriodKeeps.l3 k a b c d x y c d y i = some true := by
  induction m with
  | zero =>
    intro k a b x i hk hi h0 ha hb hx
    obtain ⟨k, rfl⟩ : ∃ q, k = q + 2 := ⟨k - 2, by omega⟩
    rw [show k + 2 = (k + 1) + 1 from rfl, pylonlaw13_PeriodKeeps.l3, if_neg (by omega), samespans c (by omega) (by omega)]
    simp only [Option.bind_some, if_true]
    rw [samedates d (by omega) (by omega)]
    simp only [Option.bind_some, if_true]
    rw [samedates y (by omega) (by omega)]
    simp only [Option.bind_some, if_true]
    rw [pylonlaw13_PeriodKeeps.j4]
  | succ m ih =>
    intro k a b x i hk hi h0 ha hb hx
    obtain ⟨k, rfl⟩ : ∃ q, k = q + 1 := ⟨k - 1, by omega⟩
    rw [pylonlaw13_PeriodKeeps.l3, if_pos (by omega), if_pos (by omega), if_pos (by omega), if_pos (by omega), wr (n := i + 1) (by omega) (by omega)]
    exact ih k _ _ _ (i + 1) (by omega) (by omega) (by omega) (by simp; omega) (by simp; omega) (by simp; omega)
theorem keeps2 (m : Nat) : ∀ (k : Nat) (a : List S74) (b x : List S33) (i : Nat), m + 50100 ≤ k → i + m = x.length → a.length ≤ 40000 → b.length ≤ 40000 → x.length ≤ 40000 →
    pylonlaw13_PeriodKeeps.l2 k a b c d x y c d y x.length i = some true := by
  induction m with
  | zero =>
    intro k a b x i hk hi ha hb hx
    obtain ⟨k, rfl⟩ : ∃ q, k = q + 1 := ⟨k - 1, by omega⟩
    rw [pylonlaw13_PeriodKeeps.l2, if_neg (by omega)]
    exact keeps3 c d y hc hd hy 20 k a b x 0 (by omega) (by omega) (by omega) (by omega) (by omega) (by omega)
  | succ m ih =>
    intro k a b x i hk hi ha hb hx
    obtain ⟨k, rfl⟩ : ∃ q, k = q + 1 := ⟨k - 1, by omega⟩
    rw [pylonlaw13_PeriodKeeps.l2, if_pos (by omega), if_pos (by omega), if_pos (by omega), wr (n := (i : Int) + 1) (by omega) (by omega), show (i : Int) + 1 = ((i + 1 : Nat) : Int) by omega]
    have := ih k a b (x.set (i : Int).toNat ⟨-7, (rd_T33 x i).f1, (rd_T33 x i).f2⟩) (i + 1) (by omega) (by simp; omega) ha hb (by simp; omega)
    rwa [List.length_set] at this
theorem keeps1 (m : Nat) : ∀ (k : Nat) (a : List S74) (b x : List S33) (i : Nat), m + 90200 ≤ k → i + m = b.length → a.length ≤ 40000 → b.length ≤ 40000 → x.length ≤ 40000 →
    pylonlaw13_PeriodKeeps.l1 k a b c d x y c d y b.length i = some true := by
  induction m with
  | zero =>
    intro k a b x i hk hi ha hb hx
    obtain ⟨k, rfl⟩ : ∃ q, k = q + 1 := ⟨k - 1, by omega⟩
    rw [pylonlaw13_PeriodKeeps.l1, if_neg (by omega)]
    exact keeps2 c d y hc hd hy x.length k a b x 0 (by omega) (by omega) (by omega) (by omega) (by omega)
  | succ m ih =>
    intro k a b x i hk hi ha hb hx
    obtain ⟨k, rfl⟩ : ∃ q, k = q + 1 := ⟨k - 1, by omega⟩
    rw [pylonlaw13_PeriodKeeps.l1, if_pos (by omega), if_pos (by omega), if_pos (by omega), wr (n := (i : Int) + 1) (by omega) (by omega), show (i : Int) + 1 = ((i + 1 : Nat) : Int) by omega]
    have := ih k a (b.set (i : Int).toNat ⟨-7, (rd_T33 b i).f1, (rd_T33 b i).f2⟩) x (i + 1) (by omega) (by simp; omega) ha (by simp; omega) hx
    rwa [List.length_set] at this
theorem keeps0 (m : Nat) : ∀ (k : Nat) (a : List S74) (b x : List S33) (i : Nat), m + 130300 ≤ k → i + m = a.length → a.length ≤ 40000 → b.length ≤ 40000 → x.length ≤ 40000 →
    pylonlaw13_PeriodKeeps.l0 k a b c d x y c d y a.length i = some true := by
  induction m with
  | zero =>
    intro k a b x i hk hi ha hb hx
    obtain ⟨k, rfl⟩ : ∃ q, k = q + 1 := ⟨k - 1, by omega⟩
    rw [pylonlaw13_PeriodKeeps.l0, if_neg (by omega)]
    exact keeps1 c d y hc hd hy b.length k a b x 0 (by omega) (by omega) (by omega) (by omega) (by omega)
  | succ m ih =>
    intro k a b x i hk hi ha hb hx
    obtain ⟨k, rfl⟩ : ∃ q, k = q + 1 := ⟨k - 1, by omega⟩
    rw [pylonlaw13_PeriodKeeps.l0, if_pos (by omega), if_pos (by omega), if_pos (by omega), wr (n := (i : Int) + 1) (by omega) (by omega), show (i : Int) + 1 = ((i + 1 : Nat) : Int) by omega]
    have := ih k (a.set (i : Int).toNat ⟨-7, (rd_T74 a i).f1⟩) b x (i + 1) (by omega) (by simp; omega) (by simp; omega) hb hx
    rwa [List.length_set] at this
end
theorem cutf4 (a b c d e f g h i j st step n : Int) : ∃ n', pylonlaw13_Slots_cut.f a b c d e f g h i j st step n = some (a, b, c, d, e, f, g, h, i, j, st, step, n') := by
  unfold pylonlaw13_Slots_cut.f
  split
  · exact ⟨_, rfl⟩
  · exact ⟨_, rfl⟩
theorem PeriodKeeps_pure (l0 : (S25 × Int × Int × Int)) (a1 : Int) (h0 : (W25 l0.1 ∧ ((Lit.int .i64 l0.2.1).wf = true ∧ ((Lit.int .i64 l0.2.2.1).wf = true ∧ (Lit.int .i64 l0.2.2.2).wf = true)))) (h1 : (Lit.int .i64 a1).wf = true) : ∃ k, pylonlaw13_PeriodKeeps.f k l0.1.f0 l0.1.f1 l0.1.f2.f0 l0.1.f2.f1 l0.1.f2.f2 l0.1.f2.f3 l0.1.f3.f0 l0.1.f3.f1 l0.1.f3.f2 l0.1.f3.f3 l0.2.1 l0.2.2.1 l0.2.2.2 a1 = some true := by
  obtain ⟨K, hK⟩ : ∃ K : Nat, 300001 ≤ K := ⟨_, Nat.le_refl _⟩
  refine ⟨K + 1, ?_⟩
  have hz := zof_wf h0.1
  show pylonlaw13_PeriodKeeps.f (K + 1) (zof l0.1).o (zof l0.1).s (zof l0.1).m1 (zof l0.1).w1 (zof l0.1).d1 (zof l0.1).t1 (zof l0.1).m2 (zof l0.1).w2 (zof l0.1).d2 (zof l0.1).t2 l0.2.1 l0.2.2.1 l0.2.2.2 a1 = some true
  generalize zof l0.1 = z at *
  unfold pylonlaw13_PeriodKeeps.f
  obtain ⟨n, e⟩ := cutf4 z.o z.s z.m1 z.w1 z.d1 z.t1 z.m2 z.w2 z.d2 z.t2 l0.2.1 l0.2.2.1 l0.2.2.2
  rw [perawake K, e]
  simp only [Option.bind_some, if_true]
  rw [pspans (by omega) z hz, pdates (by omega) z hz, refpspans (by omega), refpdates (by omega)]
  simp only [Option.bind_some]
  have hl := zspans_len z a1 l0.2.1 l0.2.2.1 n
  have hd := zdates_len z l0.2.1 l0.2.2.1 n
  exact keeps0 _ _ _ hl.1 hl.2 hd _ (K + 1) _ _ _ 0 (by omega) (Nat.zero_add _) hl.1 hl.2 hd
end Go.Proofs.Ytddkckpfmleffaa.PX
