/- PeriodHolds: for every day number and billing day the call returns true (no conditions). -/
import Derived.Test.YtipldjcncfoffaaPXx11
import Derived.Test.YtipldjcncfoffaaPXx22
import Derived.Test.YtipldjcncfoffaaFpA
import Derived.Test.YtipldjcncfoffaaFcRef
namespace Go.Proofs.Ytipldjcncfoffaa.PX
open Go.RowKit Go.Proofs.YtipldjcncfoffaaW.PrintWords Go.Proofs.YtipldjcncfoffaaW.PrintLast Go.Proofs.YtipldjcncfoffaaW.PrintMore
set_option linter.unusedVariables false
set_option linter.unusedSimpArgs false
theorem PeriodHolds_pure : pylonlaw13_PeriodHolds.Pure := by
  intro n dy hn hdy
  refine ⟨11002, ?_⟩
  unfold pylonlaw13_PeriodHolds.f
  rw [perawake 11001]
  simp only [Option.bind_some, if_true]
  have un := u64_nonneg n
  have ud := u64_nonneg dy
  rw [tm un, tm ud]
  simp (disch := omega) only [wr]
  generalize hD : IntKind.u64.wrap n % 3651000 - 718700 = D
  generalize hd : 1 + IntKind.u64.wrap dy % 28 = day
  have hD1 : -718700 ≤ D ∧ D ≤ 2932299 := by omega
  have hd1 : 1 ≤ day ∧ day ≤ 28 := by omega
  rw [refof 2 D (by omega), ofE4_in (by omega) (by omega)]
  obtain ⟨ok1, dn1⟩ := Civ.of_ok (n := D) (by omega) (by omega)
  generalize Civ.ofY D = y at *
  generalize Civ.ofM D = m at *
  generalize Civ.ofD D = d at *
  simp only [Option.bind_some]
  have hyr : 2 ≤ y ∧ y ≤ 9998 := by
    obtain ⟨a1, a2, a3, a4, a5, a6⟩ := ok1
    have b := Civ.doy_bd a3 a4 a5 a6
    have s := Civ.ahead_succ y
    have l := Civ.lp_01 y
    unfold Civ.dn at dn1
    have e1 : Civ.ahead 2 = 365 := by decide
    have e2 : Civ.ahead 9999 = 3651694 := by decide
    constructor
    · rcases (by omega : y < 2 ∨ 2 ≤ y) with q | q
      · have := Civ.ahead_mono (a := y + 1) (b := 2) (by omega); omega
      · exact q
    · rcases (by omega : 9998 < y ∨ y ≤ 9998) with q | q
      · have := Civ.ahead_mono (a := 9999) (b := y) (by omega); omega
      · exact q
  obtain ⟨a1, a2, a3, a4, a5, a6⟩ := ok1
  have okd : Civ.ok y m d := ⟨a1, a2, a3, a4, a5, a6⟩
  rw [beginf 11001 _ _ _ _ (by omega), nextf 11001 _ _ _ _ (by omega)]
  unfold perB
  rw [if_pos hd1, if_pos hd1, if_pos okd, if_pos okd]
  have hno : 12 * (y - 1) + m - 1 ≤ perNo y m d day ∧ perNo y m d day ≤ 12 * (y - 1) + m := by unfold perNo; split <;> omega
  have hcase : (d < day ∧ perNo y m d day = 12 * (y - 1) + m - 1) ∨ (day ≤ d ∧ perNo y m d day = 12 * (y - 1) + m) := by
    unfold perNo
    by_cases q : d < day
    · rw [if_pos q]; exact .inl ⟨q, rfl⟩
    · rw [if_neg q]; exact .inr ⟨by omega, rfl⟩
  generalize perNo y m d day = p at *
  rw [Int.add_zero]
  have P : ∀ i, 12 ≤ i → i ≤ 119987 → perOf i day = ((i + 11) / 12, (i + 11) % 12 + 1, day, 0) := fun i h1 h2 => by unfold perOf; rw [if_neg (by omega)]
  have K : ∀ i, 12 ≤ i → i ≤ 119987 → Civ.ok ((i + 11) / 12) ((i + 11) % 12 + 1) day := fun i h1 h2 => ok_day (by omega) (by omega) (by omega) (by omega) hd1.1 hd1.2
  have Q : ∀ i, 12 ≤ i → i ≤ 119987 → perNo ((i + 11) / 12) ((i + 11) % 12 + 1) day day = i := fun i h1 h2 => by unfold perNo; rw [if_neg (by omega)]; omega
  rw [P p (by omega) (by omega), P (p + 1) (by omega) (by omega)]
  simp only [Option.bind_some]
  rw [beginf 11001 _ _ _ _ (by omega), nextf 11001 _ _ _ _ (by omega)]
  unfold perB
  rw [if_pos hd1, if_pos hd1, if_pos (K p (by omega) (by omega)), if_pos (K (p + 1) (by omega) (by omega)), Q p (by omega) (by omega), Q (p + 1) (by omega) (by omega), Int.add_zero, P (p + 1) (by omega) (by omega)]
  simp only [Option.bind_some, if_true]
  rw [if_neg (by simp), pylonlaw13_PeriodHolds.j0, if_neg (by simp)]
  unfold pylonref03_Compare.f Civ.cmp
  simp only [Option.bind_some]
  have c1 : (p + 11) / 12 < y ∨ ((p + 11) / 12 = y ∧ ((p + 11) % 12 + 1 < m ∨ ((p + 11) % 12 + 1 = m ∧ day ≤ d))) := by omega
  have c2 : y < (p + 1 + 11) / 12 ∨ (y = (p + 1 + 11) / 12 ∧ (m < (p + 1 + 11) % 12 + 1 ∨ (m = (p + 1 + 11) % 12 + 1 ∧ d < day))) := by omega
  generalize (p + 11) / 12 = A at *
  generalize (p + 11) % 12 + 1 = B at *
  generalize (p + 1 + 11) / 12 = A' at *
  generalize (p + 1 + 11) % 12 + 1 = B' at *
  clear P K Q
  have r1 : (if A < y then (-1 : Int) else if y < A then 1 else if B < m then -1 else if m < B then 1 else if day < d then -1 else if d < day then 1 else 0) ≤ 0 := by
    repeat' split
    all_goals omega
  have r2 : (if y < A' then (-1 : Int) else if A' < y then 1 else if m < B' then -1 else if B' < m then 1 else if d < day then -1 else if day < d then 1 else 0) < 0 := by
    repeat' split
    all_goals omega
  rw [if_pos r1, decide_eq_true r2]
end Go.Proofs.Ytipldjcncfoffaa.PX
