/-
  No cell of these rows narrows 'for every input' (looked for: loops, veiled, ifaces, maps, wideKeys, modest, calm, conditions, laid).
  DERIVED. THE GIVEN ROWS OF THIS SEAT. 7 by the template 'for every input the law returns true; each argument reads behind the call as it read before'; 0 by the template 'total and deterministic' (their statements: YthhifeefkmaeiaaTotals.lean).
  GIVEN WITH THE SEED: the statements are not yours to turn. If you find one false, say at which input.
  Laid BY PROGRAM, IN A SANDBOX (cutbox-rows.mjs): the forced cells as the released guide's own fill.sh prints them over the translation 7320751d94318fbe… (all of the seat's roots in one cut). By AI agents, Wed Nov 11 2026. No macro, syntax, notation, axiom, sorry.
-/
import Derived.Test.YthhifeefkmaeiaaChecked
import GoSem.Claim
import GoSem.ClaimJoined
import GoSem.ClaimMapViews
import Derived.JoinedTies
import Derived.KernelRfl
namespace Go.Proofs.Ythhifeefkmaeiaa
/- THE CELL 'sum', in the pinned program and in every row, IS THE sha256 OF THE DUMP (.gsa) THAT YthhifeefkmaeiaaProg.lean LOADS. Nothing in Lean hashes anything: it is a label: what it is worth is what the hold of that sum in a sandbox is worth. -/
noncomputable def Try.pinned : Pinned := { name := "ythhifeefkmaeiaa", sum := "7320751d94318fbe1a3d79cddff5b847fcfe6a7b4ab5d27f89c61970a07858ae", checked := Try.checked }
namespace Rows
def none {H : Type} : Left H := { results := [], args := [] }

/-- 'pylonlaw11.FillLines': WHATEVER THE INPUT: true; the input reads as it did. -/
def fillLinesSpec : ChangeSpec := { name := "fillLines", fn := fun _ => fun
  | [d1, d2, d3] => { results := [.lit (.bool true)], args := [d1, d2, d3] }
  | _ => none }
def fillLinesRow : OpenClaim := { program := "ythhifeefkmaeiaa", sum := "7320751d94318fbe1a3d79cddff5b847fcfe6a7b4ab5d27f89c61970a07858ae", func := "pylon/pylonlaw11.FillLines", spec := "fillLines", inPlace := ["internal/reflectlite.ValueOf", "internal/reflectlite.Swapper", "(internal/reflectlite.Value).Len"], unfollowed := true, recurses := true, apart := false }
def FillLinesSaid : Prop := fillLinesRow.holds Try.pinned (OpenSpec.ofChange fillLinesSpec)

/-- ITS FALSE NEIGHBOUR: 'it returns false'. Refute it at one input. -/
def fillLinesWrong : ChangeSpec := { name := "fillLines", fn := fun _ => fun
  | [d1, d2, d3] => { results := [.lit (.bool false)], args := [d1, d2, d3] }
  | _ => none }
def FillLinesWrongFalsely : Prop := fillLinesRow.holds Try.pinned (OpenSpec.ofChange fillLinesWrong)

/-- 'pylonlaw11.FillLaw': WHATEVER THE INPUT: true; the input reads as it did. -/
def fillLawSpec : ChangeSpec := { name := "fillLaw", fn := fun _ => fun
  | [d1, d2, d3] => { results := [.lit (.bool true)], args := [d1, d2, d3] }
  | _ => none }
def fillLawRow : OpenClaim := { program := "ythhifeefkmaeiaa", sum := "7320751d94318fbe1a3d79cddff5b847fcfe6a7b4ab5d27f89c61970a07858ae", func := "pylon/pylonlaw11.FillLaw", spec := "fillLaw", inPlace := ["internal/reflectlite.ValueOf", "internal/reflectlite.Swapper", "(internal/reflectlite.Value).Len"], unfollowed := true, recurses := true, apart := false }
def FillLawSaid : Prop := fillLawRow.holds Try.pinned (OpenSpec.ofChange fillLawSpec)

/-- ITS FALSE NEIGHBOUR: 'it returns false'. Refute it at one input. -/
def fillLawWrong : ChangeSpec := { name := "fillLaw", fn := fun _ => fun
  | [d1, d2, d3] => { results := [.lit (.bool false)], args := [d1, d2, d3] }
  | _ => none }
def FillLawWrongFalsely : Prop := fillLawRow.holds Try.pinned (OpenSpec.ofChange fillLawWrong)

/-- 'pylonlaw11.FillGaps': WHATEVER THE INPUT: true; the input reads as it did. -/
def fillGapsSpec : ChangeSpec := { name := "fillGaps", fn := fun _ => fun
  | [d] => { results := [.lit (.bool true)], args := [d] }
  | _ => none }
def fillGapsRow : OpenClaim := { program := "ythhifeefkmaeiaa", sum := "7320751d94318fbe1a3d79cddff5b847fcfe6a7b4ab5d27f89c61970a07858ae", func := "pylon/pylonlaw11.FillGaps", spec := "fillGaps", inPlace := ["internal/reflectlite.ValueOf", "internal/reflectlite.Swapper", "(internal/reflectlite.Value).Len"], unfollowed := true, recurses := true, apart := false }
def FillGapsSaid : Prop := fillGapsRow.holds Try.pinned (OpenSpec.ofChange fillGapsSpec)

/-- ITS FALSE NEIGHBOUR: 'it returns false'. Refute it at one input. -/
def fillGapsWrong : ChangeSpec := { name := "fillGaps", fn := fun _ => fun
  | [d] => { results := [.lit (.bool false)], args := [d] }
  | _ => none }
def FillGapsWrongFalsely : Prop := fillGapsRow.holds Try.pinned (OpenSpec.ofChange fillGapsWrong)

/-- 'pylonlaw11.FillFills': WHATEVER THE INPUT: true; the input reads as it did. -/
def fillFillsSpec : ChangeSpec := { name := "fillFills", fn := fun _ => fun
  | [d1, d2] => { results := [.lit (.bool true)], args := [d1, d2] }
  | _ => none }
def fillFillsRow : OpenClaim := { program := "ythhifeefkmaeiaa", sum := "7320751d94318fbe1a3d79cddff5b847fcfe6a7b4ab5d27f89c61970a07858ae", func := "pylon/pylonlaw11.FillFills", spec := "fillFills", inPlace := ["internal/reflectlite.ValueOf", "internal/reflectlite.Swapper", "(internal/reflectlite.Value).Len"], unfollowed := true, recurses := true, apart := false }
def FillFillsSaid : Prop := fillFillsRow.holds Try.pinned (OpenSpec.ofChange fillFillsSpec)

/-- ITS FALSE NEIGHBOUR: 'it returns false'. Refute it at one input. -/
def fillFillsWrong : ChangeSpec := { name := "fillFills", fn := fun _ => fun
  | [d1, d2] => { results := [.lit (.bool false)], args := [d1, d2] }
  | _ => none }
def FillFillsWrongFalsely : Prop := fillFillsRow.holds Try.pinned (OpenSpec.ofChange fillFillsWrong)

/-- 'pylonlaw11.FillHolds': WHATEVER THE INPUT: true; the input reads as it did. -/
def fillHoldsSpec : ChangeSpec := { name := "fillHolds", fn := fun _ => fun
  | [d1, d2] => { results := [.lit (.bool true)], args := [d1, d2] }
  | _ => none }
def fillHoldsRow : OpenClaim := { program := "ythhifeefkmaeiaa", sum := "7320751d94318fbe1a3d79cddff5b847fcfe6a7b4ab5d27f89c61970a07858ae", func := "pylon/pylonlaw11.FillHolds", spec := "fillHolds", inPlace := ["internal/reflectlite.ValueOf", "internal/reflectlite.Swapper", "(internal/reflectlite.Value).Len"], unfollowed := true, recurses := true, apart := false }
def FillHoldsSaid : Prop := fillHoldsRow.holds Try.pinned (OpenSpec.ofChange fillHoldsSpec)

/-- ITS FALSE NEIGHBOUR: 'it returns false'. Refute it at one input. -/
def fillHoldsWrong : ChangeSpec := { name := "fillHolds", fn := fun _ => fun
  | [d1, d2] => { results := [.lit (.bool false)], args := [d1, d2] }
  | _ => none }
def FillHoldsWrongFalsely : Prop := fillHoldsRow.holds Try.pinned (OpenSpec.ofChange fillHoldsWrong)

/-- 'pylonlaw11.FillAgain': WHATEVER THE INPUT: true; the input reads as it did. -/
def fillAgainSpec : ChangeSpec := { name := "fillAgain", fn := fun _ => fun
  | [d1, d2] => { results := [.lit (.bool true)], args := [d1, d2] }
  | _ => none }
def fillAgainRow : OpenClaim := { program := "ythhifeefkmaeiaa", sum := "7320751d94318fbe1a3d79cddff5b847fcfe6a7b4ab5d27f89c61970a07858ae", func := "pylon/pylonlaw11.FillAgain", spec := "fillAgain", inPlace := ["internal/reflectlite.ValueOf", "internal/reflectlite.Swapper", "(internal/reflectlite.Value).Len"], unfollowed := true, recurses := true, apart := false }
def FillAgainSaid : Prop := fillAgainRow.holds Try.pinned (OpenSpec.ofChange fillAgainSpec)

/-- ITS FALSE NEIGHBOUR: 'it returns false'. Refute it at one input. -/
def fillAgainWrong : ChangeSpec := { name := "fillAgain", fn := fun _ => fun
  | [d1, d2] => { results := [.lit (.bool false)], args := [d1, d2] }
  | _ => none }
def FillAgainWrongFalsely : Prop := fillAgainRow.holds Try.pinned (OpenSpec.ofChange fillAgainWrong)

/-- 'pylonlaw11.FillKeeps': WHATEVER THE INPUT: true; the input reads as it did. -/
def fillKeepsSpec : ChangeSpec := { name := "fillKeeps", fn := fun _ => fun
  | [d1, d2] => { results := [.lit (.bool true)], args := [d1, d2] }
  | _ => none }
def fillKeepsRow : OpenClaim := { program := "ythhifeefkmaeiaa", sum := "7320751d94318fbe1a3d79cddff5b847fcfe6a7b4ab5d27f89c61970a07858ae", func := "pylon/pylonlaw11.FillKeeps", spec := "fillKeeps", inPlace := ["internal/reflectlite.ValueOf", "internal/reflectlite.Swapper", "(internal/reflectlite.Value).Len"], unfollowed := true, recurses := true, apart := false }
def FillKeepsSaid : Prop := fillKeepsRow.holds Try.pinned (OpenSpec.ofChange fillKeepsSpec)

/-- ITS FALSE NEIGHBOUR: 'it returns false'. Refute it at one input. -/
def fillKeepsWrong : ChangeSpec := { name := "fillKeeps", fn := fun _ => fun
  | [d1, d2] => { results := [.lit (.bool false)], args := [d1, d2] }
  | _ => none }
def FillKeepsWrongFalsely : Prop := fillKeepsRow.holds Try.pinned (OpenSpec.ofChange fillKeepsWrong)

/- THE SECOND FORM. 'bulk': how many values and letters a reading holds, each counted each time it is reached (what is shared counts as often as it is met; a slice's spare places count too). A statement '..UptoSaid' is the law's where the arguments, and the package variables that the reading takes, are together of bulk at most 1048576: NARROWER than '..Said'. Prove '..Said' where nothing that the law and all that it calls make is longer than what came in: it says more and counts as full. Else prove '..UptoSaid'. A law counts once. -/
mutual
def uptoBulk {H : Type} : DataW H → Nat
  | .lit (.string bytes) => bytes.length + 1
  | .lit _ => 1
  | .nil => 1
  | .ptr d => uptoBulk d + 1
  | .slice elems spare => uptoBulkAll elems + uptoBulkAll spare + 1
  | .agg parts => uptoBulkAll parts + 1
  | .iface _ d => uptoBulk d + 1
  | .map entries => uptoBulkEntries entries + 1
  | .held _ => 1
def uptoBulkAll {H : Type} : List (DataW H) → Nat
  | [] => 0
  | d :: r => uptoBulk d + uptoBulkAll r
def uptoBulkEntries {H : Type} : List (Lit × DataW H) → Nat
  | [] => 0
  | x :: r => uptoBulkEntry x + uptoBulkEntries r
def uptoBulkEntry {H : Type} : Lit × DataW H → Nat
  | (.string bytes, d) => bytes.length + uptoBulk d + 1
  | (_, d) => uptoBulk d + 1
 end
def uptoSmall : (H : Type) → List (DataW H) → Bool := fun _ ds => decide (uptoBulkAll ds ≤ 1048576)
def OpenSpec.upto (s : _root_.Go.ChangeSpec) : _root_.Go.OpenSpec := { _root_.Go.OpenSpec.ofChange s with cond := some uptoSmall }

/-- 'pylonlaw11.FillLines', WHERE WHAT IT READS IS OF BULK AT MOST 1048576: true; the input reads as it did. -/
def fillLinesUptoRow : OpenClaim := { program := "ythhifeefkmaeiaa", sum := "7320751d94318fbe1a3d79cddff5b847fcfe6a7b4ab5d27f89c61970a07858ae", func := "pylon/pylonlaw11.FillLines", spec := "fillLines", inPlace := ["internal/reflectlite.ValueOf", "internal/reflectlite.Swapper", "(internal/reflectlite.Value).Len"], unfollowed := true, recurses := true, apart := false, narrowed := true }
def FillLinesUptoSaid : Prop := fillLinesUptoRow.holds Try.pinned (OpenSpec.upto fillLinesSpec)

/-- 'pylonlaw11.FillLaw', WHERE WHAT IT READS IS OF BULK AT MOST 1048576: true; the input reads as it did. -/
def fillLawUptoRow : OpenClaim := { program := "ythhifeefkmaeiaa", sum := "7320751d94318fbe1a3d79cddff5b847fcfe6a7b4ab5d27f89c61970a07858ae", func := "pylon/pylonlaw11.FillLaw", spec := "fillLaw", inPlace := ["internal/reflectlite.ValueOf", "internal/reflectlite.Swapper", "(internal/reflectlite.Value).Len"], unfollowed := true, recurses := true, apart := false, narrowed := true }
def FillLawUptoSaid : Prop := fillLawUptoRow.holds Try.pinned (OpenSpec.upto fillLawSpec)

/-- 'pylonlaw11.FillGaps', WHERE WHAT IT READS IS OF BULK AT MOST 1048576: true; the input reads as it did. -/
def fillGapsUptoRow : OpenClaim := { program := "ythhifeefkmaeiaa", sum := "7320751d94318fbe1a3d79cddff5b847fcfe6a7b4ab5d27f89c61970a07858ae", func := "pylon/pylonlaw11.FillGaps", spec := "fillGaps", inPlace := ["internal/reflectlite.ValueOf", "internal/reflectlite.Swapper", "(internal/reflectlite.Value).Len"], unfollowed := true, recurses := true, apart := false, narrowed := true }
def FillGapsUptoSaid : Prop := fillGapsUptoRow.holds Try.pinned (OpenSpec.upto fillGapsSpec)

/-- 'pylonlaw11.FillFills', WHERE WHAT IT READS IS OF BULK AT MOST 1048576: true; the input reads as it did. -/
def fillFillsUptoRow : OpenClaim := { program := "ythhifeefkmaeiaa", sum := "7320751d94318fbe1a3d79cddff5b847fcfe6a7b4ab5d27f89c61970a07858ae", func := "pylon/pylonlaw11.FillFills", spec := "fillFills", inPlace := ["internal/reflectlite.ValueOf", "internal/reflectlite.Swapper", "(internal/reflectlite.Value).Len"], unfollowed := true, recurses := true, apart := false, narrowed := true }
def FillFillsUptoSaid : Prop := fillFillsUptoRow.holds Try.pinned (OpenSpec.upto fillFillsSpec)

/-- 'pylonlaw11.FillHolds', WHERE WHAT IT READS IS OF BULK AT MOST 1048576: true; the input reads as it did. -/
def fillHoldsUptoRow : OpenClaim := { program := "ythhifeefkmaeiaa", sum := "7320751d94318fbe1a3d79cddff5b847fcfe6a7b4ab5d27f89c61970a07858ae", func := "pylon/pylonlaw11.FillHolds", spec := "fillHolds", inPlace := ["internal/reflectlite.ValueOf", "internal/reflectlite.Swapper", "(internal/reflectlite.Value).Len"], unfollowed := true, recurses := true, apart := false, narrowed := true }
def FillHoldsUptoSaid : Prop := fillHoldsUptoRow.holds Try.pinned (OpenSpec.upto fillHoldsSpec)

/-- 'pylonlaw11.FillAgain', WHERE WHAT IT READS IS OF BULK AT MOST 1048576: true; the input reads as it did. -/
def fillAgainUptoRow : OpenClaim := { program := "ythhifeefkmaeiaa", sum := "7320751d94318fbe1a3d79cddff5b847fcfe6a7b4ab5d27f89c61970a07858ae", func := "pylon/pylonlaw11.FillAgain", spec := "fillAgain", inPlace := ["internal/reflectlite.ValueOf", "internal/reflectlite.Swapper", "(internal/reflectlite.Value).Len"], unfollowed := true, recurses := true, apart := false, narrowed := true }
def FillAgainUptoSaid : Prop := fillAgainUptoRow.holds Try.pinned (OpenSpec.upto fillAgainSpec)

/-- 'pylonlaw11.FillKeeps', WHERE WHAT IT READS IS OF BULK AT MOST 1048576: true; the input reads as it did. -/
def fillKeepsUptoRow : OpenClaim := { program := "ythhifeefkmaeiaa", sum := "7320751d94318fbe1a3d79cddff5b847fcfe6a7b4ab5d27f89c61970a07858ae", func := "pylon/pylonlaw11.FillKeeps", spec := "fillKeeps", inPlace := ["internal/reflectlite.ValueOf", "internal/reflectlite.Swapper", "(internal/reflectlite.Value).Len"], unfollowed := true, recurses := true, apart := false, narrowed := true }
def FillKeepsUptoSaid : Prop := fillKeepsUptoRow.holds Try.pinned (OpenSpec.upto fillKeepsSpec)

end Rows
end Go.Proofs.Ythhifeefkmaeiaa
