/- A copied tariff is the tariff. -/
import Derived.Test.YtkggjjggcbcdiaaPXx10
import Derived.Test.YtkggjjggcbcdiaaFa
import Derived.Test.YtkggjjggcbcdiaaRd
namespace Go.Proofs.Ytkggjjggcbcdiaa.PX
open Go.RowKit Go.Proofs.YtkggjjggcbcdiaaW.PrintWords Go.Proofs.YtkggjjggcbcdiaaW.PrintLast Go.Proofs.YtkggjjggcbcdiaaW.PrintMore
set_option linter.unusedVariables false
set_option linter.unusedSimpArgs false
theorem tcopyf (a0 : ByteArray) (a1 : Int) (a2 : Int) (a3 : Int) (a4 : Int) (a5 : Int) (a6 : Int) (a7 : Int) (a8 : Int) (a9 : Int) (a10 : Int) (a11 : Int) (a12 : Int) (a13 : Int) (a14 : Int) (l15 : List S58) (l16 : List S65) (l17 : List S60) (l18 : List S63) (a19 : Int) (a20 : Int) (a21 : Int) (a22 : Int) (a23 : Int) (a24 : Int) (a25 : Int) (a26 : Int) (a27 : Int) (h15 : l15.length < 4398046511104) (h16 : l16.length < 4398046511104) (h17 : l17.length < 2513169434916) (h18 : l18.length < 3518437208883) (hw : ∀ x ∈ l18, x.f1.length < 8796093022208) :
    pylonref08_Copy.f a0 a1 a2 a3 a4 a5 a6 a7 a8 a9 a10 a11 a12 a13 a14 l15 l16 l17 l18 a19 a20 a21 a22 a23 a24 a25 a26 a27 = some (a0, a1, a2, a3, a4, a5, a6, a7, a8, a9, a10, a11, a12, a13, a14, l15, l16, l17, l18, a19, a20, a21, a22, a23, a24, a25, a26, a27) := by
  unfold pylonref08_Copy.f
  rw [if_pos]
  exact ⟨h15, h16, h17, h18, hw⟩
end Go.Proofs.Ytkggjjggcbcdiaa.PX
