/- Billing periods over slots: what runs that follow on one another say of the slots' periods. -/
import Derived.Test.YtddkckpfmleffaaPXx22
import Derived.Test.YtddkckpfmleffaaFqD
namespace Go.Proofs.Ytddkckpfmleffaa.PX
open Go.RowKit Go.Proofs.YtddkckpfmleffaaW.PrintWords Go.Proofs.YtddkckpfmleffaaW.PrintLast Go.Proofs.YtddkckpfmleffaaW.PrintMore
set_option linter.unusedVariables false
set_option linter.unusedSimpArgs false
theorem tiled_le {P : Nat → Int} : ∀ {L : List (Int × Int × Int)} {s e : Int}, Civ.tiled P s L e → s ≤ e
  | [], s, e, h => Int.le_of_eq h
  | x :: L, s, e, h => by
    obtain ⟨e1, e2, e0, e3, e4, e5⟩ := h
    have := tiled_le e5
    omega
theorem ok_day2 {y m d : Int} (h1 : 1 ≤ y) (h2 : y ≤ 9999) (h3 : 1 ≤ m) (h4 : m ≤ 12) (h5 : 1 ≤ d) (h6 : d ≤ 28) : Civ.ok y m d := by
  have := Civ.len_bd y m
  exact ⟨h1, h2, h3, h4, h5, by omega⟩
theorem SL.low {z : Civ.Zn} {st step day : Int} {n : Nat} {xs : List S33} (h : SL z st step day n xs) {i : Nat} (hi : i < n) : 24 ≤ sP z st step day i := by
  have o := h.ok hi
  have dn := (Civ.of_ok (h.inr hi).1 (h.inr hi).2).2
  have ob := Civ.off_bd h.c (st + 60 * step * i)
  have pb := pgood_bd h.g (i := i) (by omega) (by omega)
  have lo : -1 ≤ sN z st step i := by unfold sN; omega
  unfold sP pn perNo
  generalize sN z st step i = D at *
  generalize Civ.ofY D = y at *
  generalize Civ.ofM D = m at *
  generalize Civ.ofD D = d at *
  obtain ⟨a1, a2, a3, a4, a5, a6⟩ := o
  have b := Civ.doy_bd a3 a4 a5 a6
  have s := Civ.ahead_succ y
  have e3 : Civ.ahead 4 = 1095 := by decide
  have y3 : 4 ≤ y := by
    by_cases q : 4 ≤ y
    · exact q
    · have m := Civ.ahead_mono (a := y + 1) (b := 4) (by omega)
      unfold Civ.dn at dn
      omega
  split <;> omega
theorem rdmapS (p M : List (Int × Int × Int)) (x : Int × Int × Int) (i : Int) (hi : i = p.length) : rd_T74 ((p ++ x :: M).map spS) i = spS x := by
  subst hi
  unfold rd_T74
  simp
theorem rdmapD (day : Int) (p M : List (Int × Int × Int)) (x : Int × Int × Int) (i : Int) (hi : i = p.length) : rd_T33 ((p ++ x :: M).map (spD day)) i = spD day x := by
  subst hi
  unfold rd_T33
  simp
theorem cutf3 (a b c d e f g h i j st step n : Int) : ∃ n', pylonlaw13_Slots_cut.f a b c d e f g h i j st step n = some (a, b, c, d, e, f, g, h, i, j, st, step, n') := by
  unfold pylonlaw13_Slots_cut.f
  split
  · exact ⟨_, rfl⟩
  · exact ⟨_, rfl⟩
end Go.Proofs.Ytddkckpfmleffaa.PX
