/-
  No cell of these rows narrows 'for every input' (looked for: loops, veiled, ifaces, maps, wideKeys, modest, calm, conditions, laid).
  DERIVED. THE GIVEN ROWS OF THIS SEAT. 10 by the template 'for every input the law returns true; each argument reads behind the call as it read before'; 0 by the template 'total and deterministic' (their statements: YtipldjcncfoffaaTotals.lean).
  GIVEN WITH THE SEED: the statements are not yours to turn. If you find one false, say at which input.
  Laid BY PROGRAM, IN A SANDBOX (cutbox-rows.mjs): the forced cells as the released guide's own fill.sh prints them over the translation c6c631fb51d0c305… (all of the seat's roots in one cut). By AI agents, Wed Nov 11 2026. No macro, syntax, notation, axiom, sorry.
-/
import Derived.Test.YtipldjcncfoffaaChecked
import GoSem.Claim
import GoSem.ClaimJoined
import GoSem.ClaimMapViews
import Derived.JoinedTies
import Derived.KernelRfl
namespace Go.Proofs.Ytipldjcncfoffaa
/- THE CELL 'sum', in the pinned program and in every row, IS THE sha256 OF THE DUMP (.gsa) THAT YtipldjcncfoffaaProg.lean LOADS. Nothing in Lean hashes anything: it is a label: what it is worth is what the hold of that sum in a sandbox is worth. -/
noncomputable def Try.pinned : Pinned := { name := "ytipldjcncfoffaa", sum := "c6c631fb51d0c305dcba01aef83c1aab31f64772cc4878a77533aec8f1d7ce4b", checked := Try.checked }
namespace Rows
def none {H : Type} : Left H := { results := [], args := [] }

/-- 'pylonlaw05.HolidayEaster': WHATEVER THE INPUT: true; the input reads as it did. -/
def holidayEasterSpec : ChangeSpec := { name := "holidayEaster", fn := fun _ => fun
  | [d] => { results := [.lit (.bool true)], args := [d] }
  | _ => none }
def holidayEasterRow : OpenClaim := { program := "ytipldjcncfoffaa", sum := "c6c631fb51d0c305dcba01aef83c1aab31f64772cc4878a77533aec8f1d7ce4b", func := "pylon/pylonlaw05.HolidayEaster", spec := "holidayEaster", apart := false }
def HolidayEasterSaid : Prop := holidayEasterRow.holds Try.pinned (OpenSpec.ofChange holidayEasterSpec)

/-- ITS FALSE NEIGHBOUR: 'it returns false'. Refute it at one input. -/
def holidayEasterWrong : ChangeSpec := { name := "holidayEaster", fn := fun _ => fun
  | [d] => { results := [.lit (.bool false)], args := [d] }
  | _ => none }
def HolidayEasterWrongFalsely : Prop := holidayEasterRow.holds Try.pinned (OpenSpec.ofChange holidayEasterWrong)

/-- 'pylonlaw03.CivilYears': WHATEVER THE INPUT: true; the input reads as it did. -/
def civilYearsSpec : ChangeSpec := { name := "civilYears", fn := fun _ => fun
  | [d] => { results := [.lit (.bool true)], args := [d] }
  | _ => none }
def civilYearsRow : OpenClaim := { program := "ytipldjcncfoffaa", sum := "c6c631fb51d0c305dcba01aef83c1aab31f64772cc4878a77533aec8f1d7ce4b", func := "pylon/pylonlaw03.CivilYears", spec := "civilYears", apart := false }
def CivilYearsSaid : Prop := civilYearsRow.holds Try.pinned (OpenSpec.ofChange civilYearsSpec)

/-- ITS FALSE NEIGHBOUR: 'it returns false'. Refute it at one input. -/
def civilYearsWrong : ChangeSpec := { name := "civilYears", fn := fun _ => fun
  | [d] => { results := [.lit (.bool false)], args := [d] }
  | _ => none }
def CivilYearsWrongFalsely : Prop := civilYearsRow.holds Try.pinned (OpenSpec.ofChange civilYearsWrong)

/-- 'pylonlaw03.CivilNths': WHATEVER THE INPUT: true; the input reads as it did. -/
def civilNthsSpec : ChangeSpec := { name := "civilNths", fn := fun _ => fun
  | [d1, d2, d3, d4] => { results := [.lit (.bool true)], args := [d1, d2, d3, d4] }
  | _ => none }
def civilNthsRow : OpenClaim := { program := "ytipldjcncfoffaa", sum := "c6c631fb51d0c305dcba01aef83c1aab31f64772cc4878a77533aec8f1d7ce4b", func := "pylon/pylonlaw03.CivilNths", spec := "civilNths", apart := false }
def CivilNthsSaid : Prop := civilNthsRow.holds Try.pinned (OpenSpec.ofChange civilNthsSpec)

/-- ITS FALSE NEIGHBOUR: 'it returns false'. Refute it at one input. -/
def civilNthsWrong : ChangeSpec := { name := "civilNths", fn := fun _ => fun
  | [d1, d2, d3, d4] => { results := [.lit (.bool false)], args := [d1, d2, d3, d4] }
  | _ => none }
def CivilNthsWrongFalsely : Prop := civilNthsRow.holds Try.pinned (OpenSpec.ofChange civilNthsWrong)

/-- 'pylonlaw03.CivilAdds': WHATEVER THE INPUT: true; the input reads as it did. -/
def civilAddsSpec : ChangeSpec := { name := "civilAdds", fn := fun _ => fun
  | [d1, d2, d3] => { results := [.lit (.bool true)], args := [d1, d2, d3] }
  | _ => none }
def civilAddsRow : OpenClaim := { program := "ytipldjcncfoffaa", sum := "c6c631fb51d0c305dcba01aef83c1aab31f64772cc4878a77533aec8f1d7ce4b", func := "pylon/pylonlaw03.CivilAdds", spec := "civilAdds", apart := false }
def CivilAddsSaid : Prop := civilAddsRow.holds Try.pinned (OpenSpec.ofChange civilAddsSpec)

/-- ITS FALSE NEIGHBOUR: 'it returns false'. Refute it at one input. -/
def civilAddsWrong : ChangeSpec := { name := "civilAdds", fn := fun _ => fun
  | [d1, d2, d3] => { results := [.lit (.bool false)], args := [d1, d2, d3] }
  | _ => none }
def CivilAddsWrongFalsely : Prop := civilAddsRow.holds Try.pinned (OpenSpec.ofChange civilAddsWrong)

/-- 'pylonlaw03.CivilReads': WHATEVER THE INPUT: true; the input reads as it did. -/
def civilReadsSpec : ChangeSpec := { name := "civilReads", fn := fun _ => fun
  | [d] => { results := [.lit (.bool true)], args := [d] }
  | _ => none }
def civilReadsRow : OpenClaim := { program := "ytipldjcncfoffaa", sum := "c6c631fb51d0c305dcba01aef83c1aab31f64772cc4878a77533aec8f1d7ce4b", func := "pylon/pylonlaw03.CivilReads", spec := "civilReads", unfollowed := true, recurses := true, apart := false }
def CivilReadsSaid : Prop := civilReadsRow.holds Try.pinned (OpenSpec.ofChange civilReadsSpec)

/-- ITS FALSE NEIGHBOUR: 'it returns false'. Refute it at one input. -/
def civilReadsWrong : ChangeSpec := { name := "civilReads", fn := fun _ => fun
  | [d] => { results := [.lit (.bool false)], args := [d] }
  | _ => none }
def CivilReadsWrongFalsely : Prop := civilReadsRow.holds Try.pinned (OpenSpec.ofChange civilReadsWrong)

/-- 'pylonlaw13.PeriodBegins': WHATEVER THE INPUT: true; the input reads as it did. -/
def periodBeginsSpec : ChangeSpec := { name := "periodBegins", fn := fun _ => fun
  | [d1, d2] => { results := [.lit (.bool true)], args := [d1, d2] }
  | _ => none }
def periodBeginsRow : OpenClaim := { program := "ytipldjcncfoffaa", sum := "c6c631fb51d0c305dcba01aef83c1aab31f64772cc4878a77533aec8f1d7ce4b", func := "pylon/pylonlaw13.PeriodBegins", spec := "periodBegins", apart := false }
def PeriodBeginsSaid : Prop := periodBeginsRow.holds Try.pinned (OpenSpec.ofChange periodBeginsSpec)

/-- ITS FALSE NEIGHBOUR: 'it returns false'. Refute it at one input. -/
def periodBeginsWrong : ChangeSpec := { name := "periodBegins", fn := fun _ => fun
  | [d1, d2] => { results := [.lit (.bool false)], args := [d1, d2] }
  | _ => none }
def PeriodBeginsWrongFalsely : Prop := periodBeginsRow.holds Try.pinned (OpenSpec.ofChange periodBeginsWrong)

/-- 'pylonlaw13.PeriodHolds': WHATEVER THE INPUT: true; the input reads as it did. -/
def periodHoldsSpec : ChangeSpec := { name := "periodHolds", fn := fun _ => fun
  | [d1, d2] => { results := [.lit (.bool true)], args := [d1, d2] }
  | _ => none }
def periodHoldsRow : OpenClaim := { program := "ytipldjcncfoffaa", sum := "c6c631fb51d0c305dcba01aef83c1aab31f64772cc4878a77533aec8f1d7ce4b", func := "pylon/pylonlaw13.PeriodHolds", spec := "periodHolds", apart := false }
def PeriodHoldsSaid : Prop := periodHoldsRow.holds Try.pinned (OpenSpec.ofChange periodHoldsSpec)

/-- ITS FALSE NEIGHBOUR: 'it returns false'. Refute it at one input. -/
def periodHoldsWrong : ChangeSpec := { name := "periodHolds", fn := fun _ => fun
  | [d1, d2] => { results := [.lit (.bool false)], args := [d1, d2] }
  | _ => none }
def PeriodHoldsWrongFalsely : Prop := periodHoldsRow.holds Try.pinned (OpenSpec.ofChange periodHoldsWrong)

/-- 'pylonlaw03.CivilBack': WHATEVER THE INPUT: true; the input reads as it did. -/
def civilBackSpec : ChangeSpec := { name := "civilBack", fn := fun _ => fun
  | [d] => { results := [.lit (.bool true)], args := [d] }
  | _ => none }
def civilBackRow : OpenClaim := { program := "ytipldjcncfoffaa", sum := "c6c631fb51d0c305dcba01aef83c1aab31f64772cc4878a77533aec8f1d7ce4b", func := "pylon/pylonlaw03.CivilBack", spec := "civilBack", unfollowed := true, recurses := true, apart := false }
def CivilBackSaid : Prop := civilBackRow.holds Try.pinned (OpenSpec.ofChange civilBackSpec)

/-- ITS FALSE NEIGHBOUR: 'it returns false'. Refute it at one input. -/
def civilBackWrong : ChangeSpec := { name := "civilBack", fn := fun _ => fun
  | [d] => { results := [.lit (.bool false)], args := [d] }
  | _ => none }
def CivilBackWrongFalsely : Prop := civilBackRow.holds Try.pinned (OpenSpec.ofChange civilBackWrong)

/-- 'pylonlaw03.CivilNext': WHATEVER THE INPUT: true; the input reads as it did. -/
def civilNextSpec : ChangeSpec := { name := "civilNext", fn := fun _ => fun
  | [d] => { results := [.lit (.bool true)], args := [d] }
  | _ => none }
def civilNextRow : OpenClaim := { program := "ytipldjcncfoffaa", sum := "c6c631fb51d0c305dcba01aef83c1aab31f64772cc4878a77533aec8f1d7ce4b", func := "pylon/pylonlaw03.CivilNext", spec := "civilNext", apart := false }
def CivilNextSaid : Prop := civilNextRow.holds Try.pinned (OpenSpec.ofChange civilNextSpec)

/-- ITS FALSE NEIGHBOUR: 'it returns false'. Refute it at one input. -/
def civilNextWrong : ChangeSpec := { name := "civilNext", fn := fun _ => fun
  | [d] => { results := [.lit (.bool false)], args := [d] }
  | _ => none }
def CivilNextWrongFalsely : Prop := civilNextRow.holds Try.pinned (OpenSpec.ofChange civilNextWrong)

/-- 'pylonlaw03.CivilAll': WHATEVER THE INPUT: true; the input reads as it did. -/
def civilAllSpec : ChangeSpec := { name := "civilAll", fn := fun _ => fun
  | [d] => { results := [.lit (.bool true)], args := [d] }
  | _ => none }
def civilAllRow : OpenClaim := { program := "ytipldjcncfoffaa", sum := "c6c631fb51d0c305dcba01aef83c1aab31f64772cc4878a77533aec8f1d7ce4b", func := "pylon/pylonlaw03.CivilAll", spec := "civilAll", unfollowed := true, recurses := true, apart := false }
def CivilAllSaid : Prop := civilAllRow.holds Try.pinned (OpenSpec.ofChange civilAllSpec)

/-- ITS FALSE NEIGHBOUR: 'it returns false'. Refute it at one input. -/
def civilAllWrong : ChangeSpec := { name := "civilAll", fn := fun _ => fun
  | [d] => { results := [.lit (.bool false)], args := [d] }
  | _ => none }
def CivilAllWrongFalsely : Prop := civilAllRow.holds Try.pinned (OpenSpec.ofChange civilAllWrong)

/- THE SECOND FORM. 'bulk': how many values and letters a reading holds, each counted each time it is reached (what is shared counts as often as it is met; a slice's spare places count too). A statement '..UptoSaid' is the law's where the arguments, and the package variables that the reading takes, are together of bulk at most 1048576: NARROWER than '..Said'. Prove '..Said' where nothing that the law and all that it calls make is longer than what came in: it says more and counts as full. Else prove '..UptoSaid'. A law counts once. -/
mutual
def uptoBulk {H : Type} : DataW H → Nat
  | .lit (.string bytes) => bytes.length + 1
  | .lit _ => 1
  | .nil => 1
  | .ptr d => uptoBulk d + 1
  | .slice elems spare => uptoBulkAll elems + uptoBulkAll spare + 1
  | .agg parts => uptoBulkAll parts + 1
  | .iface _ d => uptoBulk d + 1
  | .map entries => uptoBulkEntries entries + 1
  | .held _ => 1
def uptoBulkAll {H : Type} : List (DataW H) → Nat
  | [] => 0
  | d :: r => uptoBulk d + uptoBulkAll r
def uptoBulkEntries {H : Type} : List (Lit × DataW H) → Nat
  | [] => 0
  | x :: r => uptoBulkEntry x + uptoBulkEntries r
def uptoBulkEntry {H : Type} : Lit × DataW H → Nat
  | (.string bytes, d) => bytes.length + uptoBulk d + 1
  | (_, d) => uptoBulk d + 1
 end
def uptoSmall : (H : Type) → List (DataW H) → Bool := fun _ ds => decide (uptoBulkAll ds ≤ 1048576)
def OpenSpec.upto (s : _root_.Go.ChangeSpec) : _root_.Go.OpenSpec := { _root_.Go.OpenSpec.ofChange s with cond := some uptoSmall }

/-- 'pylonlaw05.HolidayEaster', WHERE WHAT IT READS IS OF BULK AT MOST 1048576: true; the input reads as it did. -/
def holidayEasterUptoRow : OpenClaim := { program := "ytipldjcncfoffaa", sum := "c6c631fb51d0c305dcba01aef83c1aab31f64772cc4878a77533aec8f1d7ce4b", func := "pylon/pylonlaw05.HolidayEaster", spec := "holidayEaster", apart := false, narrowed := true }
def HolidayEasterUptoSaid : Prop := holidayEasterUptoRow.holds Try.pinned (OpenSpec.upto holidayEasterSpec)

/-- 'pylonlaw03.CivilYears', WHERE WHAT IT READS IS OF BULK AT MOST 1048576: true; the input reads as it did. -/
def civilYearsUptoRow : OpenClaim := { program := "ytipldjcncfoffaa", sum := "c6c631fb51d0c305dcba01aef83c1aab31f64772cc4878a77533aec8f1d7ce4b", func := "pylon/pylonlaw03.CivilYears", spec := "civilYears", apart := false, narrowed := true }
def CivilYearsUptoSaid : Prop := civilYearsUptoRow.holds Try.pinned (OpenSpec.upto civilYearsSpec)

/-- 'pylonlaw03.CivilNths', WHERE WHAT IT READS IS OF BULK AT MOST 1048576: true; the input reads as it did. -/
def civilNthsUptoRow : OpenClaim := { program := "ytipldjcncfoffaa", sum := "c6c631fb51d0c305dcba01aef83c1aab31f64772cc4878a77533aec8f1d7ce4b", func := "pylon/pylonlaw03.CivilNths", spec := "civilNths", apart := false, narrowed := true }
def CivilNthsUptoSaid : Prop := civilNthsUptoRow.holds Try.pinned (OpenSpec.upto civilNthsSpec)

/-- 'pylonlaw03.CivilAdds', WHERE WHAT IT READS IS OF BULK AT MOST 1048576: true; the input reads as it did. -/
def civilAddsUptoRow : OpenClaim := { program := "ytipldjcncfoffaa", sum := "c6c631fb51d0c305dcba01aef83c1aab31f64772cc4878a77533aec8f1d7ce4b", func := "pylon/pylonlaw03.CivilAdds", spec := "civilAdds", apart := false, narrowed := true }
def CivilAddsUptoSaid : Prop := civilAddsUptoRow.holds Try.pinned (OpenSpec.upto civilAddsSpec)

/-- 'pylonlaw03.CivilReads', WHERE WHAT IT READS IS OF BULK AT MOST 1048576: true; the input reads as it did. -/
def civilReadsUptoRow : OpenClaim := { program := "ytipldjcncfoffaa", sum := "c6c631fb51d0c305dcba01aef83c1aab31f64772cc4878a77533aec8f1d7ce4b", func := "pylon/pylonlaw03.CivilReads", spec := "civilReads", unfollowed := true, recurses := true, apart := false, narrowed := true }
def CivilReadsUptoSaid : Prop := civilReadsUptoRow.holds Try.pinned (OpenSpec.upto civilReadsSpec)

/-- 'pylonlaw13.PeriodBegins', WHERE WHAT IT READS IS OF BULK AT MOST 1048576: true; the input reads as it did. -/
def periodBeginsUptoRow : OpenClaim := { program := "ytipldjcncfoffaa", sum := "c6c631fb51d0c305dcba01aef83c1aab31f64772cc4878a77533aec8f1d7ce4b", func := "pylon/pylonlaw13.PeriodBegins", spec := "periodBegins", apart := false, narrowed := true }
def PeriodBeginsUptoSaid : Prop := periodBeginsUptoRow.holds Try.pinned (OpenSpec.upto periodBeginsSpec)

/-- 'pylonlaw13.PeriodHolds', WHERE WHAT IT READS IS OF BULK AT MOST 1048576: true; the input reads as it did. -/
def periodHoldsUptoRow : OpenClaim := { program := "ytipldjcncfoffaa", sum := "c6c631fb51d0c305dcba01aef83c1aab31f64772cc4878a77533aec8f1d7ce4b", func := "pylon/pylonlaw13.PeriodHolds", spec := "periodHolds", apart := false, narrowed := true }
def PeriodHoldsUptoSaid : Prop := periodHoldsUptoRow.holds Try.pinned (OpenSpec.upto periodHoldsSpec)

/-- 'pylonlaw03.CivilBack', WHERE WHAT IT READS IS OF BULK AT MOST 1048576: true; the input reads as it did. -/
def civilBackUptoRow : OpenClaim := { program := "ytipldjcncfoffaa", sum := "c6c631fb51d0c305dcba01aef83c1aab31f64772cc4878a77533aec8f1d7ce4b", func := "pylon/pylonlaw03.CivilBack", spec := "civilBack", unfollowed := true, recurses := true, apart := false, narrowed := true }
def CivilBackUptoSaid : Prop := civilBackUptoRow.holds Try.pinned (OpenSpec.upto civilBackSpec)

/-- 'pylonlaw03.CivilNext', WHERE WHAT IT READS IS OF BULK AT MOST 1048576: true; the input reads as it did. -/
def civilNextUptoRow : OpenClaim := { program := "ytipldjcncfoffaa", sum := "c6c631fb51d0c305dcba01aef83c1aab31f64772cc4878a77533aec8f1d7ce4b", func := "pylon/pylonlaw03.CivilNext", spec := "civilNext", apart := false, narrowed := true }
def CivilNextUptoSaid : Prop := civilNextUptoRow.holds Try.pinned (OpenSpec.upto civilNextSpec)

/-- 'pylonlaw03.CivilAll', WHERE WHAT IT READS IS OF BULK AT MOST 1048576: true; the input reads as it did. -/
def civilAllUptoRow : OpenClaim := { program := "ytipldjcncfoffaa", sum := "c6c631fb51d0c305dcba01aef83c1aab31f64772cc4878a77533aec8f1d7ce4b", func := "pylon/pylonlaw03.CivilAll", spec := "civilAll", unfollowed := true, recurses := true, apart := false, narrowed := true }
def CivilAllUptoSaid : Prop := civilAllUptoRow.holds Try.pinned (OpenSpec.upto civilAllSpec)

end Rows
end Go.Proofs.Ytipldjcncfoffaa
