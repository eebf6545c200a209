/- One short lemma that the printed walk proofs use often, by a hand of our own. -/
import Derived.Test.YtegedhnbmclbkaaEas
import Derived.Below
namespace Go.Proofs.Ytegedhnbmclbkaa.PX
open Go
theorem far_ne {w : World} {a : Addr} {v : Value} {g : Nat} (h : w.cell? a = some v) (hg : w.heap.size ≤ g) :
    a.block ≠ g := Nat.ne_of_lt (Nat.lt_of_lt_of_le (World.block_lt_of_cell? _ _ h) hg)
end Go.Proofs.Ytegedhnbmclbkaa.PX
