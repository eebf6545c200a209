/- Tariffs' windows: what the statements' first look at the program says. -/
import Derived.Test.YtkggjjggcbcdiaaPXx6
import Derived.Test.YtkggjjggcbcdiaaPXx7
import Derived.Test.YtkggjjggcbcdiaaPXx8
import Derived.Test.YtkggjjggcbcdiaaPXx9
import Derived.Test.YtkggjjggcbcdiaaFa
namespace Go.Proofs.Ytkggjjggcbcdiaa.PX
open Go.RowKit Go.Proofs.YtkggjjggcbcdiaaW.PrintWords Go.Proofs.YtkggjjggcbcdiaaW.PrintLast Go.Proofs.YtkggjjggcbcdiaaW.PrintMore
set_option linter.unusedVariables false
set_option linter.unusedSimpArgs false
theorem tawake {k : Nat} (hk : 10 ≤ k) : pylonlaw14_awake.f k = some true := by
  obtain ⟨k, rfl⟩ : ∃ q, k = q + 3 := ⟨k - 3, by omega⟩
  unfold pylonlaw14_awake.f tou_Kind.f holiday_Is.f
  rw [show k + 3 = (k + 2) + 1 from rfl, holiday_Is.l0, if_neg (by simp), civdays]
  simp only [Option.bind_some]
  rw [show (if Civ.ok 2026 11 15 then (Civ.dn 2026 11 15, (0 : Int)) else (0, 5)) = (20772, 0) by decide]
  simp only [if_true]
  rw [show k + 2 = (k + 1) + 1 from rfl, holiday_Is.l1, if_neg (by simp)]
  simp only [Option.bind_some, if_true]
  rw [if_neg (by simp), civwd]
  simp only [Option.bind_some]
  rw [show (if Civ.ok 2026 11 15 then ((Civ.dn 2026 11 15 + 719162) % 7, (0 : Int)) else (0, 5)) = (6, 0) by decide]
  simp only []
  rw [wr (n := 6 - 4) (by omega) (by omega)]
  unfold tou_Window.f
  have e : tou_Window.l [(⟨(⟨#[]⟩ : ByteArray), 0, 0, 0, (⟨#[]⟩ : ByteArray)⟩ : S60), (⟨(⟨#[115]⟩ : ByteArray), 0, 0, 60, (⟨#[]⟩ : ByteArray)⟩ : S60)] (⟨#[115]⟩ : ByteArray) 0 59 0 = (1, 0) := by
    rw [tou_Window.l, if_neg (fun h => absurd h.2.2.2 (by decide)), tou_Window.l, if_pos ⟨rfl, rfl, by decide, by decide⟩]
    rfl
  rw [e]
  rfl
end Go.Proofs.Ytkggjjggcbcdiaa.PX
