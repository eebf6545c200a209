/- A date's kind: the program's and the document's answers. -/
import Derived.Test.YtkggjjggcbcdiaaPXx7
import Derived.Test.YtkggjjggcbcdiaaFhR
import Derived.Test.YtkggjjggcbcdiaaFaW
namespace Go.Proofs.Ytkggjjggcbcdiaa.PX
open Go.RowKit Go.Proofs.YtkggjjggcbcdiaaW.PrintWords Go.Proofs.YtkggjjggcbcdiaaW.PrintLast Go.Proofs.YtkggjjggcbcdiaaW.PrintMore
set_option linter.unusedVariables false
set_option linter.unusedSimpArgs false
def kindE (L : List S65) (y m d : Int) : Int × Int := if (hisE L y m d).2 = 0 then if (hisE L y m d).1 = true then (3, 0) else if (Civ.dn y m d + 719162) % 7 = 6 then (2, 0) else if (Civ.dn y m d + 719162) % 7 = 5 then (1, 0) else (0, 0) else (0, (hisE L y m d).2)
theorem his_ok {L : List S65} {y m d : Int} (h : (hisE L y m d).2 = 0) : Civ.ok y m d := by
  unfold hisE at h
  by_cases g : allg L = true
  · rw [if_pos g] at h
    by_cases o : Civ.ok y m d
    · exact o
    · rw [if_neg o] at h; simp at h
  · rw [if_neg g] at h; simp at h
theorem kindf {k : Nat} (L : List S65) (hw : ∀ x ∈ L, W65 x) (hk : 30 * L.length + 60 ≤ k) (hl : L.length ≤ 9000000000000) (y m d : Int) : tou_Kind.f k L y m d = some (kindE L y m d) := by
  unfold tou_Kind.f kindE
  rw [holis L hw hk hl]
  simp only [Option.bind_some]
  by_cases e : (hisE L y m d).2 = 0
  · rw [if_pos e, if_pos e]
    by_cases b : (hisE L y m d).1 = true
    · rw [if_pos b, if_pos b]
    · rw [if_neg b, if_neg b, civwd, if_pos (his_ok e)]
      simp only [Option.bind_some]
      have w0 : 0 ≤ (Civ.dn y m d + 719162) % 7 ∧ (Civ.dn y m d + 719162) % 7 ≤ 6 := by omega
      generalize (Civ.dn y m d + 719162) % 7 = w at *
      rw [wr (n := w - 4) (by omega) (by omega)]
      unfold mx
      by_cases c6 : w = 6
      · rw [if_pos c6, if_neg (by omega)]; subst c6; rfl
      · rw [if_neg c6]
        by_cases c5 : w = 5
        · rw [if_pos c5, if_neg (by omega)]; subst c5; rfl
        · rw [if_neg c5]
          split
          · rfl
          · have : w = 4 := by omega
            subst this; rfl
  · rw [if_neg e, if_neg e]
end Go.Proofs.Ytkggjjggcbcdiaa.PX
