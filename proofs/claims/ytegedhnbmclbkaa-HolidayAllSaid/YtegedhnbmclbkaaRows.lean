/-
  No cell of these rows narrows 'for every input' (looked for: loops, veiled, ifaces, maps, wideKeys, modest, calm, conditions, laid).
  DERIVED. THE GIVEN ROWS OF THIS SEAT. 5 by the template 'for every input the law returns true; each argument reads behind the call as it read before'; 0 by the template 'total and deterministic' (their statements: YtegedhnbmclbkaaTotals.lean).
  GIVEN WITH THE SEED: the statements are not yours to turn. If you find one false, say at which input.
  Laid BY PROGRAM, IN A SANDBOX (cutbox-rows.mjs): the forced cells as the released guide's own fill.sh prints them over the translation c549055233573d01… (all of the seat's roots in one cut). By AI agents, Wed Nov 11 2026. No macro, syntax, notation, axiom, sorry.
-/
import Derived.Test.YtegedhnbmclbkaaChecked
import GoSem.Claim
import GoSem.ClaimJoined
import GoSem.ClaimMapViews
import Derived.JoinedTies
import Derived.KernelRfl
namespace Go.Proofs.Ytegedhnbmclbkaa
/- THE CELL 'sum', in the pinned program and in every row, IS THE sha256 OF THE DUMP (.gsa) THAT YtegedhnbmclbkaaProg.lean LOADS. Nothing in Lean hashes anything: it is a label: what it is worth is what the hold of that sum in a sandbox is worth. -/
noncomputable def Try.pinned : Pinned := { name := "ytegedhnbmclbkaa", sum := "c549055233573d01ce19446345bb1143d2bde24613621de50b84b4bdf3d65aa3", checked := Try.checked }
namespace Rows
def none {H : Type} : Left H := { results := [], args := [] }

/-- 'pylonlaw05.HolidayOrder': WHATEVER THE INPUT: true; the input reads as it did. -/
def holidayOrderSpec : ChangeSpec := { name := "holidayOrder", fn := fun _ => fun
  | [d1, d2] => { results := [.lit (.bool true)], args := [d1, d2] }
  | _ => none }
def holidayOrderRow : OpenClaim := { program := "ytegedhnbmclbkaa", sum := "c549055233573d01ce19446345bb1143d2bde24613621de50b84b4bdf3d65aa3", func := "pylon/pylonlaw05.HolidayOrder", spec := "holidayOrder", inPlace := ["internal/reflectlite.ValueOf", "internal/reflectlite.Swapper", "(internal/reflectlite.Value).Len"], unfollowed := true, recurses := true, plainKeys := false, apart := false }
def HolidayOrderSaid : Prop := holidayOrderRow.holds Try.pinned (OpenSpec.ofChange holidayOrderSpec)

/-- ITS FALSE NEIGHBOUR: 'it returns false'. Refute it at one input. -/
def holidayOrderWrong : ChangeSpec := { name := "holidayOrder", fn := fun _ => fun
  | [d1, d2] => { results := [.lit (.bool false)], args := [d1, d2] }
  | _ => none }
def HolidayOrderWrongFalsely : Prop := holidayOrderRow.holds Try.pinned (OpenSpec.ofChange holidayOrderWrong)

/-- 'pylonlaw05.HolidayOn': WHATEVER THE INPUT: true; the input reads as it did. -/
def holidayOnSpec : ChangeSpec := { name := "holidayOn", fn := fun _ => fun
  | [d1, d2] => { results := [.lit (.bool true)], args := [d1, d2] }
  | _ => none }
def holidayOnRow : OpenClaim := { program := "ytegedhnbmclbkaa", sum := "c549055233573d01ce19446345bb1143d2bde24613621de50b84b4bdf3d65aa3", func := "pylon/pylonlaw05.HolidayOn", spec := "holidayOn", inPlace := ["internal/reflectlite.ValueOf", "internal/reflectlite.Swapper", "(internal/reflectlite.Value).Len"], unfollowed := true, recurses := true, plainKeys := false, apart := false }
def HolidayOnSaid : Prop := holidayOnRow.holds Try.pinned (OpenSpec.ofChange holidayOnSpec)

/-- ITS FALSE NEIGHBOUR: 'it returns false'. Refute it at one input. -/
def holidayOnWrong : ChangeSpec := { name := "holidayOn", fn := fun _ => fun
  | [d1, d2] => { results := [.lit (.bool false)], args := [d1, d2] }
  | _ => none }
def HolidayOnWrongFalsely : Prop := holidayOnRow.holds Try.pinned (OpenSpec.ofChange holidayOnWrong)

/-- 'pylonlaw05.HolidayAll': WHATEVER THE INPUT: true; the input reads as it did. -/
def holidayAllSpec : ChangeSpec := { name := "holidayAll", fn := fun _ => fun
  | [d] => { results := [.lit (.bool true)], args := [d] }
  | _ => none }
def holidayAllRow : OpenClaim := { program := "ytegedhnbmclbkaa", sum := "c549055233573d01ce19446345bb1143d2bde24613621de50b84b4bdf3d65aa3", func := "pylon/pylonlaw05.HolidayAll", spec := "holidayAll", inPlace := ["internal/reflectlite.ValueOf", "internal/reflectlite.Swapper", "(internal/reflectlite.Value).Len"], unfollowed := true, recurses := true, plainKeys := false, apart := false }
def HolidayAllSaid : Prop := holidayAllRow.holds Try.pinned (OpenSpec.ofChange holidayAllSpec)

/-- ITS FALSE NEIGHBOUR: 'it returns false'. Refute it at one input. -/
def holidayAllWrong : ChangeSpec := { name := "holidayAll", fn := fun _ => fun
  | [d] => { results := [.lit (.bool false)], args := [d] }
  | _ => none }
def HolidayAllWrongFalsely : Prop := holidayAllRow.holds Try.pinned (OpenSpec.ofChange holidayAllWrong)

/-- 'pylonlaw05.HolidayLists': WHATEVER THE INPUT: true; the input reads as it did. -/
def holidayListsSpec : ChangeSpec := { name := "holidayLists", fn := fun _ => fun
  | [d1, d2, d3] => { results := [.lit (.bool true)], args := [d1, d2, d3] }
  | _ => none }
def holidayListsRow : OpenClaim := { program := "ytegedhnbmclbkaa", sum := "c549055233573d01ce19446345bb1143d2bde24613621de50b84b4bdf3d65aa3", func := "pylon/pylonlaw05.HolidayLists", spec := "holidayLists", inPlace := ["internal/reflectlite.ValueOf", "internal/reflectlite.Swapper", "(internal/reflectlite.Value).Len"], unfollowed := true, recurses := true, plainKeys := false, apart := false }
def HolidayListsSaid : Prop := holidayListsRow.holds Try.pinned (OpenSpec.ofChange holidayListsSpec)

/-- ITS FALSE NEIGHBOUR: 'it returns false'. Refute it at one input. -/
def holidayListsWrong : ChangeSpec := { name := "holidayLists", fn := fun _ => fun
  | [d1, d2, d3] => { results := [.lit (.bool false)], args := [d1, d2, d3] }
  | _ => none }
def HolidayListsWrongFalsely : Prop := holidayListsRow.holds Try.pinned (OpenSpec.ofChange holidayListsWrong)

/-- 'pylonlaw05.HolidayKeeps': WHATEVER THE INPUT: true; the input reads as it did. -/
def holidayKeepsSpec : ChangeSpec := { name := "holidayKeeps", fn := fun _ => fun
  | [d1, d2, d3] => { results := [.lit (.bool true)], args := [d1, d2, d3] }
  | _ => none }
def holidayKeepsRow : OpenClaim := { program := "ytegedhnbmclbkaa", sum := "c549055233573d01ce19446345bb1143d2bde24613621de50b84b4bdf3d65aa3", func := "pylon/pylonlaw05.HolidayKeeps", spec := "holidayKeeps", inPlace := ["internal/reflectlite.ValueOf", "internal/reflectlite.Swapper", "(internal/reflectlite.Value).Len"], unfollowed := true, recurses := true, plainKeys := false, apart := false }
def HolidayKeepsSaid : Prop := holidayKeepsRow.holds Try.pinned (OpenSpec.ofChange holidayKeepsSpec)

/-- ITS FALSE NEIGHBOUR: 'it returns false'. Refute it at one input. -/
def holidayKeepsWrong : ChangeSpec := { name := "holidayKeeps", fn := fun _ => fun
  | [d1, d2, d3] => { results := [.lit (.bool false)], args := [d1, d2, d3] }
  | _ => none }
def HolidayKeepsWrongFalsely : Prop := holidayKeepsRow.holds Try.pinned (OpenSpec.ofChange holidayKeepsWrong)

/- THE SECOND FORM. 'bulk': how many values and letters a reading holds, each counted each time it is reached (what is shared counts as often as it is met; a slice's spare places count too). A statement '..UptoSaid' is the law's where the arguments, and the package variables that the reading takes, are together of bulk at most 1048576: NARROWER than '..Said'. Prove '..Said' where nothing that the law and all that it calls make is longer than what came in: it says more and counts as full. Else prove '..UptoSaid'. A law counts once. -/
mutual
def uptoBulk {H : Type} : DataW H → Nat
  | .lit (.string bytes) => bytes.length + 1
  | .lit _ => 1
  | .nil => 1
  | .ptr d => uptoBulk d + 1
  | .slice elems spare => uptoBulkAll elems + uptoBulkAll spare + 1
  | .agg parts => uptoBulkAll parts + 1
  | .iface _ d => uptoBulk d + 1
  | .map entries => uptoBulkEntries entries + 1
  | .held _ => 1
def uptoBulkAll {H : Type} : List (DataW H) → Nat
  | [] => 0
  | d :: r => uptoBulk d + uptoBulkAll r
def uptoBulkEntries {H : Type} : List (Lit × DataW H) → Nat
  | [] => 0
  | x :: r => uptoBulkEntry x + uptoBulkEntries r
def uptoBulkEntry {H : Type} : Lit × DataW H → Nat
  | (.string bytes, d) => bytes.length + uptoBulk d + 1
  | (_, d) => uptoBulk d + 1
 end
def uptoSmall : (H : Type) → List (DataW H) → Bool := fun _ ds => decide (uptoBulkAll ds ≤ 1048576)
def OpenSpec.upto (s : _root_.Go.ChangeSpec) : _root_.Go.OpenSpec := { _root_.Go.OpenSpec.ofChange s with cond := some uptoSmall }

/-- 'pylonlaw05.HolidayOrder', WHERE WHAT IT READS IS OF BULK AT MOST 1048576: true; the input reads as it did. -/
def holidayOrderUptoRow : OpenClaim := { program := "ytegedhnbmclbkaa", sum := "c549055233573d01ce19446345bb1143d2bde24613621de50b84b4bdf3d65aa3", func := "pylon/pylonlaw05.HolidayOrder", spec := "holidayOrder", inPlace := ["internal/reflectlite.ValueOf", "internal/reflectlite.Swapper", "(internal/reflectlite.Value).Len"], unfollowed := true, recurses := true, plainKeys := false, apart := false, narrowed := true }
def HolidayOrderUptoSaid : Prop := holidayOrderUptoRow.holds Try.pinned (OpenSpec.upto holidayOrderSpec)

/-- 'pylonlaw05.HolidayOn', WHERE WHAT IT READS IS OF BULK AT MOST 1048576: true; the input reads as it did. -/
def holidayOnUptoRow : OpenClaim := { program := "ytegedhnbmclbkaa", sum := "c549055233573d01ce19446345bb1143d2bde24613621de50b84b4bdf3d65aa3", func := "pylon/pylonlaw05.HolidayOn", spec := "holidayOn", inPlace := ["internal/reflectlite.ValueOf", "internal/reflectlite.Swapper", "(internal/reflectlite.Value).Len"], unfollowed := true, recurses := true, plainKeys := false, apart := false, narrowed := true }
def HolidayOnUptoSaid : Prop := holidayOnUptoRow.holds Try.pinned (OpenSpec.upto holidayOnSpec)

/-- 'pylonlaw05.HolidayAll', WHERE WHAT IT READS IS OF BULK AT MOST 1048576: true; the input reads as it did. -/
def holidayAllUptoRow : OpenClaim := { program := "ytegedhnbmclbkaa", sum := "c549055233573d01ce19446345bb1143d2bde24613621de50b84b4bdf3d65aa3", func := "pylon/pylonlaw05.HolidayAll", spec := "holidayAll", inPlace := ["internal/reflectlite.ValueOf", "internal/reflectlite.Swapper", "(internal/reflectlite.Value).Len"], unfollowed := true, recurses := true, plainKeys := false, apart := false, narrowed := true }
def HolidayAllUptoSaid : Prop := holidayAllUptoRow.holds Try.pinned (OpenSpec.upto holidayAllSpec)

/-- 'pylonlaw05.HolidayLists', WHERE WHAT IT READS IS OF BULK AT MOST 1048576: true; the input reads as it did. -/
def holidayListsUptoRow : OpenClaim := { program := "ytegedhnbmclbkaa", sum := "c549055233573d01ce19446345bb1143d2bde24613621de50b84b4bdf3d65aa3", func := "pylon/pylonlaw05.HolidayLists", spec := "holidayLists", inPlace := ["internal/reflectlite.ValueOf", "internal/reflectlite.Swapper", "(internal/reflectlite.Value).Len"], unfollowed := true, recurses := true, plainKeys := false, apart := false, narrowed := true }
def HolidayListsUptoSaid : Prop := holidayListsUptoRow.holds Try.pinned (OpenSpec.upto holidayListsSpec)

/-- 'pylonlaw05.HolidayKeeps', WHERE WHAT IT READS IS OF BULK AT MOST 1048576: true; the input reads as it did. -/
def holidayKeepsUptoRow : OpenClaim := { program := "ytegedhnbmclbkaa", sum := "c549055233573d01ce19446345bb1143d2bde24613621de50b84b4bdf3d65aa3", func := "pylon/pylonlaw05.HolidayKeeps", spec := "holidayKeeps", inPlace := ["internal/reflectlite.ValueOf", "internal/reflectlite.Swapper", "(internal/reflectlite.Value).Len"], unfollowed := true, recurses := true, plainKeys := false, apart := false, narrowed := true }
def HolidayKeepsUptoSaid : Prop := holidayKeepsUptoRow.holds Try.pinned (OpenSpec.upto holidayKeepsSpec)

end Rows
end Go.Proofs.Ytegedhnbmclbkaa
