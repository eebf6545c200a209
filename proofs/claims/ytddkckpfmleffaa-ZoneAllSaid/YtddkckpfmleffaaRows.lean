/-
  No cell of these rows narrows 'for every input' (looked for: loops, veiled, ifaces, maps, wideKeys, modest, calm, conditions, laid).
  DERIVED. THE GIVEN ROWS OF THIS SEAT. 11 by the template 'for every input the law returns true; each argument reads behind the call as it read before'; 0 by the template 'total and deterministic' (their statements: YtddkckpfmleffaaTotals.lean).
  GIVEN WITH THE SEED: the statements are not yours to turn. If you find one false, say at which input.
  Laid BY PROGRAM, IN A SANDBOX (cutbox-rows.mjs): the forced cells as the released guide's own fill.sh prints them over the translation bebaaa479261fe64… (all of the seat's roots in one cut). By AI agents, Wed Nov 11 2026. No macro, syntax, notation, axiom, sorry.
-/
import Derived.Test.YtddkckpfmleffaaChecked
import GoSem.Claim
import GoSem.ClaimJoined
import GoSem.ClaimMapViews
import Derived.JoinedTies
import Derived.KernelRfl
namespace Go.Proofs.Ytddkckpfmleffaa
/- THE CELL 'sum', in the pinned program and in every row, IS THE sha256 OF THE DUMP (.gsa) THAT YtddkckpfmleffaaProg.lean LOADS. Nothing in Lean hashes anything: it is a label: what it is worth is what the hold of that sum in a sandbox is worth. -/
noncomputable def Try.pinned : Pinned := { name := "ytddkckpfmleffaa", sum := "bebaaa479261fe64d4cbef3fc5cba571e35df682261644447da3d3bc2fb78268", checked := Try.checked }
namespace Rows
def none {H : Type} : Left H := { results := [], args := [] }

/-- 'pylonlaw04.ZoneTurns': WHATEVER THE INPUT: true; the input reads as it did. -/
def zoneTurnsSpec : ChangeSpec := { name := "zoneTurns", fn := fun _ => fun
  | [d1, d2] => { results := [.lit (.bool true)], args := [d1, d2] }
  | _ => none }
def zoneTurnsRow : OpenClaim := { program := "ytddkckpfmleffaa", sum := "bebaaa479261fe64d4cbef3fc5cba571e35df682261644447da3d3bc2fb78268", func := "pylon/pylonlaw04.ZoneTurns", spec := "zoneTurns", apart := false }
def ZoneTurnsSaid : Prop := zoneTurnsRow.holds Try.pinned (OpenSpec.ofChange zoneTurnsSpec)

/-- ITS FALSE NEIGHBOUR: 'it returns false'. Refute it at one input. -/
def zoneTurnsWrong : ChangeSpec := { name := "zoneTurns", fn := fun _ => fun
  | [d1, d2] => { results := [.lit (.bool false)], args := [d1, d2] }
  | _ => none }
def ZoneTurnsWrongFalsely : Prop := zoneTurnsRow.holds Try.pinned (OpenSpec.ofChange zoneTurnsWrong)

/-- 'pylonlaw04.ZoneAts': WHATEVER THE INPUT: true; the input reads as it did. -/
def zoneAtsSpec : ChangeSpec := { name := "zoneAts", fn := fun _ => fun
  | [d1, d2] => { results := [.lit (.bool true)], args := [d1, d2] }
  | _ => none }
def zoneAtsRow : OpenClaim := { program := "ytddkckpfmleffaa", sum := "bebaaa479261fe64d4cbef3fc5cba571e35df682261644447da3d3bc2fb78268", func := "pylon/pylonlaw04.ZoneAts", spec := "zoneAts", apart := false }
def ZoneAtsSaid : Prop := zoneAtsRow.holds Try.pinned (OpenSpec.ofChange zoneAtsSpec)

/-- ITS FALSE NEIGHBOUR: 'it returns false'. Refute it at one input. -/
def zoneAtsWrong : ChangeSpec := { name := "zoneAts", fn := fun _ => fun
  | [d1, d2] => { results := [.lit (.bool false)], args := [d1, d2] }
  | _ => none }
def ZoneAtsWrongFalsely : Prop := zoneAtsRow.holds Try.pinned (OpenSpec.ofChange zoneAtsWrong)

/-- 'pylonlaw04.ZoneAll': WHATEVER THE INPUT: true; the input reads as it did. -/
def zoneAllSpec : ChangeSpec := { name := "zoneAll", fn := fun _ => fun
  | [d] => { results := [.lit (.bool true)], args := [d] }
  | _ => none }
def zoneAllRow : OpenClaim := { program := "ytddkckpfmleffaa", sum := "bebaaa479261fe64d4cbef3fc5cba571e35df682261644447da3d3bc2fb78268", func := "pylon/pylonlaw04.ZoneAll", spec := "zoneAll", apart := false }
def ZoneAllSaid : Prop := zoneAllRow.holds Try.pinned (OpenSpec.ofChange zoneAllSpec)

/-- ITS FALSE NEIGHBOUR: 'it returns false'. Refute it at one input. -/
def zoneAllWrong : ChangeSpec := { name := "zoneAll", fn := fun _ => fun
  | [d] => { results := [.lit (.bool false)], args := [d] }
  | _ => none }
def ZoneAllWrongFalsely : Prop := zoneAllRow.holds Try.pinned (OpenSpec.ofChange zoneAllWrong)

/-- 'pylonlaw04.ZoneDays': WHATEVER THE INPUT: true; the input reads as it did. -/
def zoneDaysSpec : ChangeSpec := { name := "zoneDays", fn := fun _ => fun
  | [d1, d2] => { results := [.lit (.bool true)], args := [d1, d2] }
  | _ => none }
def zoneDaysRow : OpenClaim := { program := "ytddkckpfmleffaa", sum := "bebaaa479261fe64d4cbef3fc5cba571e35df682261644447da3d3bc2fb78268", func := "pylon/pylonlaw04.ZoneDays", spec := "zoneDays", apart := false }
def ZoneDaysSaid : Prop := zoneDaysRow.holds Try.pinned (OpenSpec.ofChange zoneDaysSpec)

/-- ITS FALSE NEIGHBOUR: 'it returns false'. Refute it at one input. -/
def zoneDaysWrong : ChangeSpec := { name := "zoneDays", fn := fun _ => fun
  | [d1, d2] => { results := [.lit (.bool false)], args := [d1, d2] }
  | _ => none }
def ZoneDaysWrongFalsely : Prop := zoneDaysRow.holds Try.pinned (OpenSpec.ofChange zoneDaysWrong)

/-- 'pylonlaw04.ZoneHolds': WHATEVER THE INPUT: true; the input reads as it did. -/
def zoneHoldsSpec : ChangeSpec := { name := "zoneHolds", fn := fun _ => fun
  | [d1, d2] => { results := [.lit (.bool true)], args := [d1, d2] }
  | _ => none }
def zoneHoldsRow : OpenClaim := { program := "ytddkckpfmleffaa", sum := "bebaaa479261fe64d4cbef3fc5cba571e35df682261644447da3d3bc2fb78268", func := "pylon/pylonlaw04.ZoneHolds", spec := "zoneHolds", apart := false }
def ZoneHoldsSaid : Prop := zoneHoldsRow.holds Try.pinned (OpenSpec.ofChange zoneHoldsSpec)

/-- ITS FALSE NEIGHBOUR: 'it returns false'. Refute it at one input. -/
def zoneHoldsWrong : ChangeSpec := { name := "zoneHolds", fn := fun _ => fun
  | [d1, d2] => { results := [.lit (.bool false)], args := [d1, d2] }
  | _ => none }
def ZoneHoldsWrongFalsely : Prop := zoneHoldsRow.holds Try.pinned (OpenSpec.ofChange zoneHoldsWrong)

/-- 'pylonlaw04.ZonePlain': WHATEVER THE INPUT: true; the input reads as it did. -/
def zonePlainSpec : ChangeSpec := { name := "zonePlain", fn := fun _ => fun
  | [d1, d2, d3] => { results := [.lit (.bool true)], args := [d1, d2, d3] }
  | _ => none }
def zonePlainRow : OpenClaim := { program := "ytddkckpfmleffaa", sum := "bebaaa479261fe64d4cbef3fc5cba571e35df682261644447da3d3bc2fb78268", func := "pylon/pylonlaw04.ZonePlain", spec := "zonePlain", apart := false }
def ZonePlainSaid : Prop := zonePlainRow.holds Try.pinned (OpenSpec.ofChange zonePlainSpec)

/-- ITS FALSE NEIGHBOUR: 'it returns false'. Refute it at one input. -/
def zonePlainWrong : ChangeSpec := { name := "zonePlain", fn := fun _ => fun
  | [d1, d2, d3] => { results := [.lit (.bool false)], args := [d1, d2, d3] }
  | _ => none }
def ZonePlainWrongFalsely : Prop := zonePlainRow.holds Try.pinned (OpenSpec.ofChange zonePlainWrong)

/-- 'pylonlaw13.PeriodDates': WHATEVER THE INPUT: true; the input reads as it did. -/
def periodDatesSpec : ChangeSpec := { name := "periodDates", fn := fun _ => fun
  | [d] => { results := [.lit (.bool true)], args := [d] }
  | _ => none }
def periodDatesRow : OpenClaim := { program := "ytddkckpfmleffaa", sum := "bebaaa479261fe64d4cbef3fc5cba571e35df682261644447da3d3bc2fb78268", func := "pylon/pylonlaw13.PeriodDates", spec := "periodDates", apart := false }
def PeriodDatesSaid : Prop := periodDatesRow.holds Try.pinned (OpenSpec.ofChange periodDatesSpec)

/-- ITS FALSE NEIGHBOUR: 'it returns false'. Refute it at one input. -/
def periodDatesWrong : ChangeSpec := { name := "periodDates", fn := fun _ => fun
  | [d] => { results := [.lit (.bool false)], args := [d] }
  | _ => none }
def PeriodDatesWrongFalsely : Prop := periodDatesRow.holds Try.pinned (OpenSpec.ofChange periodDatesWrong)

/-- 'pylonlaw13.PeriodSpans': WHATEVER THE INPUT: true; the input reads as it did. -/
def periodSpansSpec : ChangeSpec := { name := "periodSpans", fn := fun _ => fun
  | [d1, d2] => { results := [.lit (.bool true)], args := [d1, d2] }
  | _ => none }
def periodSpansRow : OpenClaim := { program := "ytddkckpfmleffaa", sum := "bebaaa479261fe64d4cbef3fc5cba571e35df682261644447da3d3bc2fb78268", func := "pylon/pylonlaw13.PeriodSpans", spec := "periodSpans", apart := false }
def PeriodSpansSaid : Prop := periodSpansRow.holds Try.pinned (OpenSpec.ofChange periodSpansSpec)

/-- ITS FALSE NEIGHBOUR: 'it returns false'. Refute it at one input. -/
def periodSpansWrong : ChangeSpec := { name := "periodSpans", fn := fun _ => fun
  | [d1, d2] => { results := [.lit (.bool false)], args := [d1, d2] }
  | _ => none }
def PeriodSpansWrongFalsely : Prop := periodSpansRow.holds Try.pinned (OpenSpec.ofChange periodSpansWrong)

/-- 'pylonlaw13.PeriodTiles': WHATEVER THE INPUT: true; the input reads as it did. -/
def periodTilesSpec : ChangeSpec := { name := "periodTiles", fn := fun _ => fun
  | [d1, d2] => { results := [.lit (.bool true)], args := [d1, d2] }
  | _ => none }
def periodTilesRow : OpenClaim := { program := "ytddkckpfmleffaa", sum := "bebaaa479261fe64d4cbef3fc5cba571e35df682261644447da3d3bc2fb78268", func := "pylon/pylonlaw13.PeriodTiles", spec := "periodTiles", apart := false }
def PeriodTilesSaid : Prop := periodTilesRow.holds Try.pinned (OpenSpec.ofChange periodTilesSpec)

/-- ITS FALSE NEIGHBOUR: 'it returns false'. Refute it at one input. -/
def periodTilesWrong : ChangeSpec := { name := "periodTiles", fn := fun _ => fun
  | [d1, d2] => { results := [.lit (.bool false)], args := [d1, d2] }
  | _ => none }
def PeriodTilesWrongFalsely : Prop := periodTilesRow.holds Try.pinned (OpenSpec.ofChange periodTilesWrong)

/-- 'pylonlaw13.PeriodMoments': WHATEVER THE INPUT: true; the input reads as it did. -/
def periodMomentsSpec : ChangeSpec := { name := "periodMoments", fn := fun _ => fun
  | [d1, d2, d3] => { results := [.lit (.bool true)], args := [d1, d2, d3] }
  | _ => none }
def periodMomentsRow : OpenClaim := { program := "ytddkckpfmleffaa", sum := "bebaaa479261fe64d4cbef3fc5cba571e35df682261644447da3d3bc2fb78268", func := "pylon/pylonlaw13.PeriodMoments", spec := "periodMoments", apart := false }
def PeriodMomentsSaid : Prop := periodMomentsRow.holds Try.pinned (OpenSpec.ofChange periodMomentsSpec)

/-- ITS FALSE NEIGHBOUR: 'it returns false'. Refute it at one input. -/
def periodMomentsWrong : ChangeSpec := { name := "periodMoments", fn := fun _ => fun
  | [d1, d2, d3] => { results := [.lit (.bool false)], args := [d1, d2, d3] }
  | _ => none }
def PeriodMomentsWrongFalsely : Prop := periodMomentsRow.holds Try.pinned (OpenSpec.ofChange periodMomentsWrong)

/-- 'pylonlaw13.PeriodKeeps': WHATEVER THE INPUT: true; the input reads as it did. -/
def periodKeepsSpec : ChangeSpec := { name := "periodKeeps", fn := fun _ => fun
  | [d1, d2] => { results := [.lit (.bool true)], args := [d1, d2] }
  | _ => none }
def periodKeepsRow : OpenClaim := { program := "ytddkckpfmleffaa", sum := "bebaaa479261fe64d4cbef3fc5cba571e35df682261644447da3d3bc2fb78268", func := "pylon/pylonlaw13.PeriodKeeps", spec := "periodKeeps", apart := false }
def PeriodKeepsSaid : Prop := periodKeepsRow.holds Try.pinned (OpenSpec.ofChange periodKeepsSpec)

/-- ITS FALSE NEIGHBOUR: 'it returns false'. Refute it at one input. -/
def periodKeepsWrong : ChangeSpec := { name := "periodKeeps", fn := fun _ => fun
  | [d1, d2] => { results := [.lit (.bool false)], args := [d1, d2] }
  | _ => none }
def PeriodKeepsWrongFalsely : Prop := periodKeepsRow.holds Try.pinned (OpenSpec.ofChange periodKeepsWrong)

/- THE SECOND FORM. 'bulk': how many values and letters a reading holds, each counted each time it is reached (what is shared counts as often as it is met; a slice's spare places count too). A statement '..UptoSaid' is the law's where the arguments, and the package variables that the reading takes, are together of bulk at most 1048576: NARROWER than '..Said'. Prove '..Said' where nothing that the law and all that it calls make is longer than what came in: it says more and counts as full. Else prove '..UptoSaid'. A law counts once. -/
mutual
def uptoBulk {H : Type} : DataW H → Nat
  | .lit (.string bytes) => bytes.length + 1
  | .lit _ => 1
  | .nil => 1
  | .ptr d => uptoBulk d + 1
  | .slice elems spare => uptoBulkAll elems + uptoBulkAll spare + 1
  | .agg parts => uptoBulkAll parts + 1
  | .iface _ d => uptoBulk d + 1
  | .map entries => uptoBulkEntries entries + 1
  | .held _ => 1
def uptoBulkAll {H : Type} : List (DataW H) → Nat
  | [] => 0
  | d :: r => uptoBulk d + uptoBulkAll r
def uptoBulkEntries {H : Type} : List (Lit × DataW H) → Nat
  | [] => 0
  | x :: r => uptoBulkEntry x + uptoBulkEntries r
def uptoBulkEntry {H : Type} : Lit × DataW H → Nat
  | (.string bytes, d) => bytes.length + uptoBulk d + 1
  | (_, d) => uptoBulk d + 1
 end
def uptoSmall : (H : Type) → List (DataW H) → Bool := fun _ ds => decide (uptoBulkAll ds ≤ 1048576)
def OpenSpec.upto (s : _root_.Go.ChangeSpec) : _root_.Go.OpenSpec := { _root_.Go.OpenSpec.ofChange s with cond := some uptoSmall }

/-- 'pylonlaw04.ZoneTurns', WHERE WHAT IT READS IS OF BULK AT MOST 1048576: true; the input reads as it did. -/
def zoneTurnsUptoRow : OpenClaim := { program := "ytddkckpfmleffaa", sum := "bebaaa479261fe64d4cbef3fc5cba571e35df682261644447da3d3bc2fb78268", func := "pylon/pylonlaw04.ZoneTurns", spec := "zoneTurns", apart := false, narrowed := true }
def ZoneTurnsUptoSaid : Prop := zoneTurnsUptoRow.holds Try.pinned (OpenSpec.upto zoneTurnsSpec)

/-- 'pylonlaw04.ZoneAts', WHERE WHAT IT READS IS OF BULK AT MOST 1048576: true; the input reads as it did. -/
def zoneAtsUptoRow : OpenClaim := { program := "ytddkckpfmleffaa", sum := "bebaaa479261fe64d4cbef3fc5cba571e35df682261644447da3d3bc2fb78268", func := "pylon/pylonlaw04.ZoneAts", spec := "zoneAts", apart := false, narrowed := true }
def ZoneAtsUptoSaid : Prop := zoneAtsUptoRow.holds Try.pinned (OpenSpec.upto zoneAtsSpec)

/-- 'pylonlaw04.ZoneAll', WHERE WHAT IT READS IS OF BULK AT MOST 1048576: true; the input reads as it did. -/
def zoneAllUptoRow : OpenClaim := { program := "ytddkckpfmleffaa", sum := "bebaaa479261fe64d4cbef3fc5cba571e35df682261644447da3d3bc2fb78268", func := "pylon/pylonlaw04.ZoneAll", spec := "zoneAll", apart := false, narrowed := true }
def ZoneAllUptoSaid : Prop := zoneAllUptoRow.holds Try.pinned (OpenSpec.upto zoneAllSpec)

/-- 'pylonlaw04.ZoneDays', WHERE WHAT IT READS IS OF BULK AT MOST 1048576: true; the input reads as it did. -/
def zoneDaysUptoRow : OpenClaim := { program := "ytddkckpfmleffaa", sum := "bebaaa479261fe64d4cbef3fc5cba571e35df682261644447da3d3bc2fb78268", func := "pylon/pylonlaw04.ZoneDays", spec := "zoneDays", apart := false, narrowed := true }
def ZoneDaysUptoSaid : Prop := zoneDaysUptoRow.holds Try.pinned (OpenSpec.upto zoneDaysSpec)

/-- 'pylonlaw04.ZoneHolds', WHERE WHAT IT READS IS OF BULK AT MOST 1048576: true; the input reads as it did. -/
def zoneHoldsUptoRow : OpenClaim := { program := "ytddkckpfmleffaa", sum := "bebaaa479261fe64d4cbef3fc5cba571e35df682261644447da3d3bc2fb78268", func := "pylon/pylonlaw04.ZoneHolds", spec := "zoneHolds", apart := false, narrowed := true }
def ZoneHoldsUptoSaid : Prop := zoneHoldsUptoRow.holds Try.pinned (OpenSpec.upto zoneHoldsSpec)

/-- 'pylonlaw04.ZonePlain', WHERE WHAT IT READS IS OF BULK AT MOST 1048576: true; the input reads as it did. -/
def zonePlainUptoRow : OpenClaim := { program := "ytddkckpfmleffaa", sum := "bebaaa479261fe64d4cbef3fc5cba571e35df682261644447da3d3bc2fb78268", func := "pylon/pylonlaw04.ZonePlain", spec := "zonePlain", apart := false, narrowed := true }
def ZonePlainUptoSaid : Prop := zonePlainUptoRow.holds Try.pinned (OpenSpec.upto zonePlainSpec)

/-- 'pylonlaw13.PeriodDates', WHERE WHAT IT READS IS OF BULK AT MOST 1048576: true; the input reads as it did. -/
def periodDatesUptoRow : OpenClaim := { program := "ytddkckpfmleffaa", sum := "bebaaa479261fe64d4cbef3fc5cba571e35df682261644447da3d3bc2fb78268", func := "pylon/pylonlaw13.PeriodDates", spec := "periodDates", apart := false, narrowed := true }
def PeriodDatesUptoSaid : Prop := periodDatesUptoRow.holds Try.pinned (OpenSpec.upto periodDatesSpec)

/-- 'pylonlaw13.PeriodSpans', WHERE WHAT IT READS IS OF BULK AT MOST 1048576: true; the input reads as it did. -/
def periodSpansUptoRow : OpenClaim := { program := "ytddkckpfmleffaa", sum := "bebaaa479261fe64d4cbef3fc5cba571e35df682261644447da3d3bc2fb78268", func := "pylon/pylonlaw13.PeriodSpans", spec := "periodSpans", apart := false, narrowed := true }
def PeriodSpansUptoSaid : Prop := periodSpansUptoRow.holds Try.pinned (OpenSpec.upto periodSpansSpec)

/-- 'pylonlaw13.PeriodTiles', WHERE WHAT IT READS IS OF BULK AT MOST 1048576: true; the input reads as it did. -/
def periodTilesUptoRow : OpenClaim := { program := "ytddkckpfmleffaa", sum := "bebaaa479261fe64d4cbef3fc5cba571e35df682261644447da3d3bc2fb78268", func := "pylon/pylonlaw13.PeriodTiles", spec := "periodTiles", apart := false, narrowed := true }
def PeriodTilesUptoSaid : Prop := periodTilesUptoRow.holds Try.pinned (OpenSpec.upto periodTilesSpec)

/-- 'pylonlaw13.PeriodMoments', WHERE WHAT IT READS IS OF BULK AT MOST 1048576: true; the input reads as it did. -/
def periodMomentsUptoRow : OpenClaim := { program := "ytddkckpfmleffaa", sum := "bebaaa479261fe64d4cbef3fc5cba571e35df682261644447da3d3bc2fb78268", func := "pylon/pylonlaw13.PeriodMoments", spec := "periodMoments", apart := false, narrowed := true }
def PeriodMomentsUptoSaid : Prop := periodMomentsUptoRow.holds Try.pinned (OpenSpec.upto periodMomentsSpec)

/-- 'pylonlaw13.PeriodKeeps', WHERE WHAT IT READS IS OF BULK AT MOST 1048576: true; the input reads as it did. -/
def periodKeepsUptoRow : OpenClaim := { program := "ytddkckpfmleffaa", sum := "bebaaa479261fe64d4cbef3fc5cba571e35df682261644447da3d3bc2fb78268", func := "pylon/pylonlaw13.PeriodKeeps", spec := "periodKeeps", apart := false, narrowed := true }
def PeriodKeepsUptoSaid : Prop := periodKeepsUptoRow.holds Try.pinned (OpenSpec.upto periodKeepsSpec)

end Rows
end Go.Proofs.Ytddkckpfmleffaa
