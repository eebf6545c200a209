/-
  No cell of these rows narrows 'for every input' (looked for: loops, veiled, ifaces, maps, wideKeys, modest, calm, conditions, laid).
  DERIVED. THE GIVEN ROWS OF THIS SEAT. 5 by the template 'for every input the law returns true; each argument reads behind the call as it read before'; 0 by the template 'total and deterministic' (their statements: YtpogcehbciacdaaTotals.lean).
  GIVEN WITH THE SEED: the statements are not yours to turn. If you find one false, say at which input.
  Laid BY PROGRAM, IN A SANDBOX (cutbox-rows.mjs): the forced cells as the released guide's own fill.sh prints them over the translation 2644cdb0cf56cf8b… (all of the seat's roots in one cut). By AI agents, Wed Nov 11 2026. No macro, syntax, notation, axiom, sorry.
-/
import Derived.Test.YtpogcehbciacdaaChecked
import GoSem.Claim
import GoSem.ClaimJoined
import GoSem.ClaimMapViews
import Derived.JoinedTies
import Derived.KernelRfl
namespace Go.Proofs.Ytpogcehbciacdaa
/- THE CELL 'sum', in the pinned program and in every row, IS THE sha256 OF THE DUMP (.gsa) THAT YtpogcehbciacdaaProg.lean LOADS. Nothing in Lean hashes anything: it is a label: what it is worth is what the hold of that sum in a sandbox is worth. -/
noncomputable def Try.pinned : Pinned := { name := "ytpogcehbciacdaa", sum := "2644cdb0cf56cf8bc788f86cf356b2ca3b4239883282f5b9b892b33b0060b120", checked := Try.checked }
namespace Rows
def none {H : Type} : Left H := { results := [], args := [] }

/-- 'pylonlaw19.BankOldest': WHATEVER THE INPUT: true; the input reads as it did. -/
def bankOldestSpec : ChangeSpec := { name := "bankOldest", fn := fun _ => fun
  | [d1, d2, d3] => { results := [.lit (.bool true)], args := [d1, d2, d3] }
  | _ => none }
def bankOldestRow : OpenClaim := { program := "ytpogcehbciacdaa", sum := "2644cdb0cf56cf8bc788f86cf356b2ca3b4239883282f5b9b892b33b0060b120", func := "pylon/pylonlaw19.BankOldest", spec := "bankOldest", apart := false }
def BankOldestSaid : Prop := bankOldestRow.holds Try.pinned (OpenSpec.ofChange bankOldestSpec)

/-- ITS FALSE NEIGHBOUR: 'it returns false'. Refute it at one input. -/
def bankOldestWrong : ChangeSpec := { name := "bankOldest", fn := fun _ => fun
  | [d1, d2, d3] => { results := [.lit (.bool false)], args := [d1, d2, d3] }
  | _ => none }
def BankOldestWrongFalsely : Prop := bankOldestRow.holds Try.pinned (OpenSpec.ofChange bankOldestWrong)

/-- 'pylonlaw19.BankAges': WHATEVER THE INPUT: true; the input reads as it did. -/
def bankAgesSpec : ChangeSpec := { name := "bankAges", fn := fun _ => fun
  | [d1, d2] => { results := [.lit (.bool true)], args := [d1, d2] }
  | _ => none }
def bankAgesRow : OpenClaim := { program := "ytpogcehbciacdaa", sum := "2644cdb0cf56cf8bc788f86cf356b2ca3b4239883282f5b9b892b33b0060b120", func := "pylon/pylonlaw19.BankAges", spec := "bankAges", apart := false }
def BankAgesSaid : Prop := bankAgesRow.holds Try.pinned (OpenSpec.ofChange bankAgesSpec)

/-- ITS FALSE NEIGHBOUR: 'it returns false'. Refute it at one input. -/
def bankAgesWrong : ChangeSpec := { name := "bankAges", fn := fun _ => fun
  | [d1, d2] => { results := [.lit (.bool false)], args := [d1, d2] }
  | _ => none }
def BankAgesWrongFalsely : Prop := bankAgesRow.holds Try.pinned (OpenSpec.ofChange bankAgesWrong)

/-- 'pylonlaw19.BankKeeps': WHATEVER THE INPUT: true; the input reads as it did. -/
def bankKeepsSpec : ChangeSpec := { name := "bankKeeps", fn := fun _ => fun
  | [d1, d2, d3] => { results := [.lit (.bool true)], args := [d1, d2, d3] }
  | _ => none }
def bankKeepsRow : OpenClaim := { program := "ytpogcehbciacdaa", sum := "2644cdb0cf56cf8bc788f86cf356b2ca3b4239883282f5b9b892b33b0060b120", func := "pylon/pylonlaw19.BankKeeps", spec := "bankKeeps", apart := false }
def BankKeepsSaid : Prop := bankKeepsRow.holds Try.pinned (OpenSpec.ofChange bankKeepsSpec)

/-- ITS FALSE NEIGHBOUR: 'it returns false'. Refute it at one input. -/
def bankKeepsWrong : ChangeSpec := { name := "bankKeeps", fn := fun _ => fun
  | [d1, d2, d3] => { results := [.lit (.bool false)], args := [d1, d2, d3] }
  | _ => none }
def BankKeepsWrongFalsely : Prop := bankKeepsRow.holds Try.pinned (OpenSpec.ofChange bankKeepsWrong)

/-- 'pylonlaw19.BankCalls': WHATEVER THE INPUT: true; the input reads as it did. -/
def bankCallsSpec : ChangeSpec := { name := "bankCalls", fn := fun _ => fun
  | [d1, d2, d3] => { results := [.lit (.bool true)], args := [d1, d2, d3] }
  | _ => none }
def bankCallsRow : OpenClaim := { program := "ytpogcehbciacdaa", sum := "2644cdb0cf56cf8bc788f86cf356b2ca3b4239883282f5b9b892b33b0060b120", func := "pylon/pylonlaw19.BankCalls", spec := "bankCalls", apart := false }
def BankCallsSaid : Prop := bankCallsRow.holds Try.pinned (OpenSpec.ofChange bankCallsSpec)

/-- ITS FALSE NEIGHBOUR: 'it returns false'. Refute it at one input. -/
def bankCallsWrong : ChangeSpec := { name := "bankCalls", fn := fun _ => fun
  | [d1, d2, d3] => { results := [.lit (.bool false)], args := [d1, d2, d3] }
  | _ => none }
def BankCallsWrongFalsely : Prop := bankCallsRow.holds Try.pinned (OpenSpec.ofChange bankCallsWrong)

/-- 'pylonlaw19.BankPlays': WHATEVER THE INPUT: true; the input reads as it did. -/
def bankPlaysSpec : ChangeSpec := { name := "bankPlays", fn := fun _ => fun
  | [d] => { results := [.lit (.bool true)], args := [d] }
  | _ => none }
def bankPlaysRow : OpenClaim := { program := "ytpogcehbciacdaa", sum := "2644cdb0cf56cf8bc788f86cf356b2ca3b4239883282f5b9b892b33b0060b120", func := "pylon/pylonlaw19.BankPlays", spec := "bankPlays", apart := false }
def BankPlaysSaid : Prop := bankPlaysRow.holds Try.pinned (OpenSpec.ofChange bankPlaysSpec)

/-- ITS FALSE NEIGHBOUR: 'it returns false'. Refute it at one input. -/
def bankPlaysWrong : ChangeSpec := { name := "bankPlays", fn := fun _ => fun
  | [d] => { results := [.lit (.bool false)], args := [d] }
  | _ => none }
def BankPlaysWrongFalsely : Prop := bankPlaysRow.holds Try.pinned (OpenSpec.ofChange bankPlaysWrong)

/- THE SECOND FORM. 'bulk': how many values and letters a reading holds, each counted each time it is reached (what is shared counts as often as it is met; a slice's spare places count too). A statement '..UptoSaid' is the law's where the arguments, and the package variables that the reading takes, are together of bulk at most 1048576: NARROWER than '..Said'. Prove '..Said' where nothing that the law and all that it calls make is longer than what came in: it says more and counts as full. Else prove '..UptoSaid'. A law counts once. -/
mutual
def uptoBulk {H : Type} : DataW H → Nat
  | .lit (.string bytes) => bytes.length + 1
  | .lit _ => 1
  | .nil => 1
  | .ptr d => uptoBulk d + 1
  | .slice elems spare => uptoBulkAll elems + uptoBulkAll spare + 1
  | .agg parts => uptoBulkAll parts + 1
  | .iface _ d => uptoBulk d + 1
  | .map entries => uptoBulkEntries entries + 1
  | .held _ => 1
def uptoBulkAll {H : Type} : List (DataW H) → Nat
  | [] => 0
  | d :: r => uptoBulk d + uptoBulkAll r
def uptoBulkEntries {H : Type} : List (Lit × DataW H) → Nat
  | [] => 0
  | x :: r => uptoBulkEntry x + uptoBulkEntries r
def uptoBulkEntry {H : Type} : Lit × DataW H → Nat
  | (.string bytes, d) => bytes.length + uptoBulk d + 1
  | (_, d) => uptoBulk d + 1
 end
def uptoSmall : (H : Type) → List (DataW H) → Bool := fun _ ds => decide (uptoBulkAll ds ≤ 1048576)
def OpenSpec.upto (s : _root_.Go.ChangeSpec) : _root_.Go.OpenSpec := { _root_.Go.OpenSpec.ofChange s with cond := some uptoSmall }

/-- 'pylonlaw19.BankOldest', WHERE WHAT IT READS IS OF BULK AT MOST 1048576: true; the input reads as it did. -/
def bankOldestUptoRow : OpenClaim := { program := "ytpogcehbciacdaa", sum := "2644cdb0cf56cf8bc788f86cf356b2ca3b4239883282f5b9b892b33b0060b120", func := "pylon/pylonlaw19.BankOldest", spec := "bankOldest", apart := false, narrowed := true }
def BankOldestUptoSaid : Prop := bankOldestUptoRow.holds Try.pinned (OpenSpec.upto bankOldestSpec)

/-- 'pylonlaw19.BankAges', WHERE WHAT IT READS IS OF BULK AT MOST 1048576: true; the input reads as it did. -/
def bankAgesUptoRow : OpenClaim := { program := "ytpogcehbciacdaa", sum := "2644cdb0cf56cf8bc788f86cf356b2ca3b4239883282f5b9b892b33b0060b120", func := "pylon/pylonlaw19.BankAges", spec := "bankAges", apart := false, narrowed := true }
def BankAgesUptoSaid : Prop := bankAgesUptoRow.holds Try.pinned (OpenSpec.upto bankAgesSpec)

/-- 'pylonlaw19.BankKeeps', WHERE WHAT IT READS IS OF BULK AT MOST 1048576: true; the input reads as it did. -/
def bankKeepsUptoRow : OpenClaim := { program := "ytpogcehbciacdaa", sum := "2644cdb0cf56cf8bc788f86cf356b2ca3b4239883282f5b9b892b33b0060b120", func := "pylon/pylonlaw19.BankKeeps", spec := "bankKeeps", apart := false, narrowed := true }
def BankKeepsUptoSaid : Prop := bankKeepsUptoRow.holds Try.pinned (OpenSpec.upto bankKeepsSpec)

/-- 'pylonlaw19.BankCalls', WHERE WHAT IT READS IS OF BULK AT MOST 1048576: true; the input reads as it did. -/
def bankCallsUptoRow : OpenClaim := { program := "ytpogcehbciacdaa", sum := "2644cdb0cf56cf8bc788f86cf356b2ca3b4239883282f5b9b892b33b0060b120", func := "pylon/pylonlaw19.BankCalls", spec := "bankCalls", apart := false, narrowed := true }
def BankCallsUptoSaid : Prop := bankCallsUptoRow.holds Try.pinned (OpenSpec.upto bankCallsSpec)

/-- 'pylonlaw19.BankPlays', WHERE WHAT IT READS IS OF BULK AT MOST 1048576: true; the input reads as it did. -/
def bankPlaysUptoRow : OpenClaim := { program := "ytpogcehbciacdaa", sum := "2644cdb0cf56cf8bc788f86cf356b2ca3b4239883282f5b9b892b33b0060b120", func := "pylon/pylonlaw19.BankPlays", spec := "bankPlays", apart := false, narrowed := true }
def BankPlaysUptoSaid : Prop := bankPlaysUptoRow.holds Try.pinned (OpenSpec.upto bankPlaysSpec)

end Rows
end Go.Proofs.Ytpogcehbciacdaa
