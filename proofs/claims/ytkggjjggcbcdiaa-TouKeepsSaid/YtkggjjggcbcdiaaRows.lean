/-
  No cell of these rows narrows 'for every input' (looked for: loops, veiled, ifaces, maps, wideKeys, modest, calm, conditions, laid).
  DERIVED. THE GIVEN ROWS OF THIS SEAT. 12 by the template 'for every input the law returns true; each argument reads behind the call as it read before'; 0 by the template 'total and deterministic' (their statements: YtkggjjggcbcdiaaTotals.lean).
  GIVEN WITH THE SEED: the statements are not yours to turn. If you find one false, say at which input.
  Laid BY PROGRAM, IN A SANDBOX (cutbox-rows.mjs): the forced cells as the released guide's own fill.sh prints them over the translation df7c36bced29483c… (all of the seat's roots in one cut). By AI agents, Wed Nov 11 2026. No macro, syntax, notation, axiom, sorry.
-/
import Derived.Test.YtkggjjggcbcdiaaChecked
import GoSem.Claim
import GoSem.ClaimJoined
import GoSem.ClaimMapViews
import Derived.JoinedTies
import Derived.KernelRfl
namespace Go.Proofs.Ytkggjjggcbcdiaa
/- THE CELL 'sum', in the pinned program and in every row, IS THE sha256 OF THE DUMP (.gsa) THAT YtkggjjggcbcdiaaProg.lean LOADS. Nothing in Lean hashes anything: it is a label: what it is worth is what the hold of that sum in a sandbox is worth. -/
noncomputable def Try.pinned : Pinned := { name := "ytkggjjggcbcdiaa", sum := "df7c36bced29483ce678b0d9ffb2a8535dd60f23a904a39ef1ec1b5fd20d70da", checked := Try.checked }
namespace Rows
def none {H : Type} : Left H := { results := [], args := [] }

/-- 'pylonlaw14.TouKinds': WHATEVER THE INPUT: true; the input reads as it did. -/
def touKindsSpec : ChangeSpec := { name := "touKinds", fn := fun _ => fun
  | [d1, d2] => { results := [.lit (.bool true)], args := [d1, d2] }
  | _ => none }
def touKindsRow : OpenClaim := { program := "ytkggjjggcbcdiaa", sum := "df7c36bced29483ce678b0d9ffb2a8535dd60f23a904a39ef1ec1b5fd20d70da", func := "pylon/pylonlaw14.TouKinds", spec := "touKinds", plainKeys := false, apart := false }
def TouKindsSaid : Prop := touKindsRow.holds Try.pinned (OpenSpec.ofChange touKindsSpec)

/-- ITS FALSE NEIGHBOUR: 'it returns false'. Refute it at one input. -/
def touKindsWrong : ChangeSpec := { name := "touKinds", fn := fun _ => fun
  | [d1, d2] => { results := [.lit (.bool false)], args := [d1, d2] }
  | _ => none }
def TouKindsWrongFalsely : Prop := touKindsRow.holds Try.pinned (OpenSpec.ofChange touKindsWrong)

/-- 'pylonlaw14.TouWindows': WHATEVER THE INPUT: true; the input reads as it did. -/
def touWindowsSpec : ChangeSpec := { name := "touWindows", fn := fun _ => fun
  | [d1, d2, d3, d4] => { results := [.lit (.bool true)], args := [d1, d2, d3, d4] }
  | _ => none }
def touWindowsRow : OpenClaim := { program := "ytkggjjggcbcdiaa", sum := "df7c36bced29483ce678b0d9ffb2a8535dd60f23a904a39ef1ec1b5fd20d70da", func := "pylon/pylonlaw14.TouWindows", spec := "touWindows", plainKeys := false, apart := false }
def TouWindowsSaid : Prop := touWindowsRow.holds Try.pinned (OpenSpec.ofChange touWindowsSpec)

/-- ITS FALSE NEIGHBOUR: 'it returns false'. Refute it at one input. -/
def touWindowsWrong : ChangeSpec := { name := "touWindows", fn := fun _ => fun
  | [d1, d2, d3, d4] => { results := [.lit (.bool false)], args := [d1, d2, d3, d4] }
  | _ => none }
def TouWindowsWrongFalsely : Prop := touWindowsRow.holds Try.pinned (OpenSpec.ofChange touWindowsWrong)

/-- 'pylonlaw14.TouSeasons': WHATEVER THE INPUT: true; the input reads as it did. -/
def touSeasonsSpec : ChangeSpec := { name := "touSeasons", fn := fun _ => fun
  | [d1, d2] => { results := [.lit (.bool true)], args := [d1, d2] }
  | _ => none }
def touSeasonsRow : OpenClaim := { program := "ytkggjjggcbcdiaa", sum := "df7c36bced29483ce678b0d9ffb2a8535dd60f23a904a39ef1ec1b5fd20d70da", func := "pylon/pylonlaw14.TouSeasons", spec := "touSeasons", plainKeys := false, apart := false }
def TouSeasonsSaid : Prop := touSeasonsRow.holds Try.pinned (OpenSpec.ofChange touSeasonsSpec)

/-- ITS FALSE NEIGHBOUR: 'it returns false'. Refute it at one input. -/
def touSeasonsWrong : ChangeSpec := { name := "touSeasons", fn := fun _ => fun
  | [d1, d2] => { results := [.lit (.bool false)], args := [d1, d2] }
  | _ => none }
def TouSeasonsWrongFalsely : Prop := touSeasonsRow.holds Try.pinned (OpenSpec.ofChange touSeasonsWrong)

/-- 'pylonlaw14.TouAts': WHATEVER THE INPUT: true; the input reads as it did. -/
def touAtsSpec : ChangeSpec := { name := "touAts", fn := fun _ => fun
  | [d1, d2] => { results := [.lit (.bool true)], args := [d1, d2] }
  | _ => none }
def touAtsRow : OpenClaim := { program := "ytkggjjggcbcdiaa", sum := "df7c36bced29483ce678b0d9ffb2a8535dd60f23a904a39ef1ec1b5fd20d70da", func := "pylon/pylonlaw14.TouAts", spec := "touAts", plainKeys := false, apart := false }
def TouAtsSaid : Prop := touAtsRow.holds Try.pinned (OpenSpec.ofChange touAtsSpec)

/-- ITS FALSE NEIGHBOUR: 'it returns false'. Refute it at one input. -/
def touAtsWrong : ChangeSpec := { name := "touAts", fn := fun _ => fun
  | [d1, d2] => { results := [.lit (.bool false)], args := [d1, d2] }
  | _ => none }
def TouAtsWrongFalsely : Prop := touAtsRow.holds Try.pinned (OpenSpec.ofChange touAtsWrong)

/-- 'pylonlaw14.TouOne': WHATEVER THE INPUT: true; the input reads as it did. -/
def touOneSpec : ChangeSpec := { name := "touOne", fn := fun _ => fun
  | [d1, d2] => { results := [.lit (.bool true)], args := [d1, d2] }
  | _ => none }
def touOneRow : OpenClaim := { program := "ytkggjjggcbcdiaa", sum := "df7c36bced29483ce678b0d9ffb2a8535dd60f23a904a39ef1ec1b5fd20d70da", func := "pylon/pylonlaw14.TouOne", spec := "touOne", plainKeys := false, apart := false }
def TouOneSaid : Prop := touOneRow.holds Try.pinned (OpenSpec.ofChange touOneSpec)

/-- ITS FALSE NEIGHBOUR: 'it returns false'. Refute it at one input. -/
def touOneWrong : ChangeSpec := { name := "touOne", fn := fun _ => fun
  | [d1, d2] => { results := [.lit (.bool false)], args := [d1, d2] }
  | _ => none }
def TouOneWrongFalsely : Prop := touOneRow.holds Try.pinned (OpenSpec.ofChange touOneWrong)

/-- 'pylonlaw14.TouQuarters': WHATEVER THE INPUT: true; the input reads as it did. -/
def touQuartersSpec : ChangeSpec := { name := "touQuarters", fn := fun _ => fun
  | [d1, d2] => { results := [.lit (.bool true)], args := [d1, d2] }
  | _ => none }
def touQuartersRow : OpenClaim := { program := "ytkggjjggcbcdiaa", sum := "df7c36bced29483ce678b0d9ffb2a8535dd60f23a904a39ef1ec1b5fd20d70da", func := "pylon/pylonlaw14.TouQuarters", spec := "touQuarters", plainKeys := false, apart := false }
def TouQuartersSaid : Prop := touQuartersRow.holds Try.pinned (OpenSpec.ofChange touQuartersSpec)

/-- ITS FALSE NEIGHBOUR: 'it returns false'. Refute it at one input. -/
def touQuartersWrong : ChangeSpec := { name := "touQuarters", fn := fun _ => fun
  | [d1, d2] => { results := [.lit (.bool false)], args := [d1, d2] }
  | _ => none }
def TouQuartersWrongFalsely : Prop := touQuartersRow.holds Try.pinned (OpenSpec.ofChange touQuartersWrong)

/-- 'pylonlaw14.TouKeeps': WHATEVER THE INPUT: true; the input reads as it did. -/
def touKeepsSpec : ChangeSpec := { name := "touKeeps", fn := fun _ => fun
  | [d1, d2, d3] => { results := [.lit (.bool true)], args := [d1, d2, d3] }
  | _ => none }
def touKeepsRow : OpenClaim := { program := "ytkggjjggcbcdiaa", sum := "df7c36bced29483ce678b0d9ffb2a8535dd60f23a904a39ef1ec1b5fd20d70da", func := "pylon/pylonlaw14.TouKeeps", spec := "touKeeps", plainKeys := false, apart := false }
def TouKeepsSaid : Prop := touKeepsRow.holds Try.pinned (OpenSpec.ofChange touKeepsSpec)

/-- ITS FALSE NEIGHBOUR: 'it returns false'. Refute it at one input. -/
def touKeepsWrong : ChangeSpec := { name := "touKeeps", fn := fun _ => fun
  | [d1, d2, d3] => { results := [.lit (.bool false)], args := [d1, d2, d3] }
  | _ => none }
def TouKeepsWrongFalsely : Prop := touKeepsRow.holds Try.pinned (OpenSpec.ofChange touKeepsWrong)

/-- 'pylonlaw05.HolidayOrder': WHATEVER THE INPUT: true; the input reads as it did. -/
def holidayOrderSpec : ChangeSpec := { name := "holidayOrder", fn := fun _ => fun
  | [d1, d2] => { results := [.lit (.bool true)], args := [d1, d2] }
  | _ => none }
def holidayOrderRow : OpenClaim := { program := "ytkggjjggcbcdiaa", sum := "df7c36bced29483ce678b0d9ffb2a8535dd60f23a904a39ef1ec1b5fd20d70da", func := "pylon/pylonlaw05.HolidayOrder", spec := "holidayOrder", inPlace := ["internal/reflectlite.ValueOf", "internal/reflectlite.Swapper", "(internal/reflectlite.Value).Len"], unfollowed := true, recurses := true, plainKeys := false, apart := false }
def HolidayOrderSaid : Prop := holidayOrderRow.holds Try.pinned (OpenSpec.ofChange holidayOrderSpec)

/-- ITS FALSE NEIGHBOUR: 'it returns false'. Refute it at one input. -/
def holidayOrderWrong : ChangeSpec := { name := "holidayOrder", fn := fun _ => fun
  | [d1, d2] => { results := [.lit (.bool false)], args := [d1, d2] }
  | _ => none }
def HolidayOrderWrongFalsely : Prop := holidayOrderRow.holds Try.pinned (OpenSpec.ofChange holidayOrderWrong)

/-- 'pylonlaw05.HolidayOn': WHATEVER THE INPUT: true; the input reads as it did. -/
def holidayOnSpec : ChangeSpec := { name := "holidayOn", fn := fun _ => fun
  | [d1, d2] => { results := [.lit (.bool true)], args := [d1, d2] }
  | _ => none }
def holidayOnRow : OpenClaim := { program := "ytkggjjggcbcdiaa", sum := "df7c36bced29483ce678b0d9ffb2a8535dd60f23a904a39ef1ec1b5fd20d70da", func := "pylon/pylonlaw05.HolidayOn", spec := "holidayOn", inPlace := ["internal/reflectlite.ValueOf", "internal/reflectlite.Swapper", "(internal/reflectlite.Value).Len"], unfollowed := true, recurses := true, plainKeys := false, apart := false }
def HolidayOnSaid : Prop := holidayOnRow.holds Try.pinned (OpenSpec.ofChange holidayOnSpec)

/-- ITS FALSE NEIGHBOUR: 'it returns false'. Refute it at one input. -/
def holidayOnWrong : ChangeSpec := { name := "holidayOn", fn := fun _ => fun
  | [d1, d2] => { results := [.lit (.bool false)], args := [d1, d2] }
  | _ => none }
def HolidayOnWrongFalsely : Prop := holidayOnRow.holds Try.pinned (OpenSpec.ofChange holidayOnWrong)

/-- 'pylonlaw05.HolidayAll': WHATEVER THE INPUT: true; the input reads as it did. -/
def holidayAllSpec : ChangeSpec := { name := "holidayAll", fn := fun _ => fun
  | [d] => { results := [.lit (.bool true)], args := [d] }
  | _ => none }
def holidayAllRow : OpenClaim := { program := "ytkggjjggcbcdiaa", sum := "df7c36bced29483ce678b0d9ffb2a8535dd60f23a904a39ef1ec1b5fd20d70da", func := "pylon/pylonlaw05.HolidayAll", spec := "holidayAll", inPlace := ["internal/reflectlite.ValueOf", "internal/reflectlite.Swapper", "(internal/reflectlite.Value).Len"], unfollowed := true, recurses := true, plainKeys := false, apart := false }
def HolidayAllSaid : Prop := holidayAllRow.holds Try.pinned (OpenSpec.ofChange holidayAllSpec)

/-- ITS FALSE NEIGHBOUR: 'it returns false'. Refute it at one input. -/
def holidayAllWrong : ChangeSpec := { name := "holidayAll", fn := fun _ => fun
  | [d] => { results := [.lit (.bool false)], args := [d] }
  | _ => none }
def HolidayAllWrongFalsely : Prop := holidayAllRow.holds Try.pinned (OpenSpec.ofChange holidayAllWrong)

/-- 'pylonlaw05.HolidayLists': WHATEVER THE INPUT: true; the input reads as it did. -/
def holidayListsSpec : ChangeSpec := { name := "holidayLists", fn := fun _ => fun
  | [d1, d2, d3] => { results := [.lit (.bool true)], args := [d1, d2, d3] }
  | _ => none }
def holidayListsRow : OpenClaim := { program := "ytkggjjggcbcdiaa", sum := "df7c36bced29483ce678b0d9ffb2a8535dd60f23a904a39ef1ec1b5fd20d70da", func := "pylon/pylonlaw05.HolidayLists", spec := "holidayLists", inPlace := ["internal/reflectlite.ValueOf", "internal/reflectlite.Swapper", "(internal/reflectlite.Value).Len"], unfollowed := true, recurses := true, plainKeys := false, apart := false }
def HolidayListsSaid : Prop := holidayListsRow.holds Try.pinned (OpenSpec.ofChange holidayListsSpec)

/-- ITS FALSE NEIGHBOUR: 'it returns false'. Refute it at one input. -/
def holidayListsWrong : ChangeSpec := { name := "holidayLists", fn := fun _ => fun
  | [d1, d2, d3] => { results := [.lit (.bool false)], args := [d1, d2, d3] }
  | _ => none }
def HolidayListsWrongFalsely : Prop := holidayListsRow.holds Try.pinned (OpenSpec.ofChange holidayListsWrong)

/-- 'pylonlaw05.HolidayKeeps': WHATEVER THE INPUT: true; the input reads as it did. -/
def holidayKeepsSpec : ChangeSpec := { name := "holidayKeeps", fn := fun _ => fun
  | [d1, d2, d3] => { results := [.lit (.bool true)], args := [d1, d2, d3] }
  | _ => none }
def holidayKeepsRow : OpenClaim := { program := "ytkggjjggcbcdiaa", sum := "df7c36bced29483ce678b0d9ffb2a8535dd60f23a904a39ef1ec1b5fd20d70da", func := "pylon/pylonlaw05.HolidayKeeps", spec := "holidayKeeps", inPlace := ["internal/reflectlite.ValueOf", "internal/reflectlite.Swapper", "(internal/reflectlite.Value).Len"], unfollowed := true, recurses := true, plainKeys := false, apart := false }
def HolidayKeepsSaid : Prop := holidayKeepsRow.holds Try.pinned (OpenSpec.ofChange holidayKeepsSpec)

/-- ITS FALSE NEIGHBOUR: 'it returns false'. Refute it at one input. -/
def holidayKeepsWrong : ChangeSpec := { name := "holidayKeeps", fn := fun _ => fun
  | [d1, d2, d3] => { results := [.lit (.bool false)], args := [d1, d2, d3] }
  | _ => none }
def HolidayKeepsWrongFalsely : Prop := holidayKeepsRow.holds Try.pinned (OpenSpec.ofChange holidayKeepsWrong)

/- THE SECOND FORM. 'bulk': how many values and letters a reading holds, each counted each time it is reached (what is shared counts as often as it is met; a slice's spare places count too). A statement '..UptoSaid' is the law's where the arguments, and the package variables that the reading takes, are together of bulk at most 1048576: NARROWER than '..Said'. Prove '..Said' where nothing that the law and all that it calls make is longer than what came in: it says more and counts as full. Else prove '..UptoSaid'. A law counts once. -/
mutual
def uptoBulk {H : Type} : DataW H → Nat
  | .lit (.string bytes) => bytes.length + 1
  | .lit _ => 1
  | .nil => 1
  | .ptr d => uptoBulk d + 1
  | .slice elems spare => uptoBulkAll elems + uptoBulkAll spare + 1
  | .agg parts => uptoBulkAll parts + 1
  | .iface _ d => uptoBulk d + 1
  | .map entries => uptoBulkEntries entries + 1
  | .held _ => 1
def uptoBulkAll {H : Type} : List (DataW H) → Nat
  | [] => 0
  | d :: r => uptoBulk d + uptoBulkAll r
def uptoBulkEntries {H : Type} : List (Lit × DataW H) → Nat
  | [] => 0
  | x :: r => uptoBulkEntry x + uptoBulkEntries r
def uptoBulkEntry {H : Type} : Lit × DataW H → Nat
  | (.string bytes, d) => bytes.length + uptoBulk d + 1
  | (_, d) => uptoBulk d + 1
 end
def uptoSmall : (H : Type) → List (DataW H) → Bool := fun _ ds => decide (uptoBulkAll ds ≤ 1048576)
def OpenSpec.upto (s : _root_.Go.ChangeSpec) : _root_.Go.OpenSpec := { _root_.Go.OpenSpec.ofChange s with cond := some uptoSmall }

/-- 'pylonlaw14.TouKinds', WHERE WHAT IT READS IS OF BULK AT MOST 1048576: true; the input reads as it did. -/
def touKindsUptoRow : OpenClaim := { program := "ytkggjjggcbcdiaa", sum := "df7c36bced29483ce678b0d9ffb2a8535dd60f23a904a39ef1ec1b5fd20d70da", func := "pylon/pylonlaw14.TouKinds", spec := "touKinds", plainKeys := false, apart := false, narrowed := true }
def TouKindsUptoSaid : Prop := touKindsUptoRow.holds Try.pinned (OpenSpec.upto touKindsSpec)

/-- 'pylonlaw14.TouWindows', WHERE WHAT IT READS IS OF BULK AT MOST 1048576: true; the input reads as it did. -/
def touWindowsUptoRow : OpenClaim := { program := "ytkggjjggcbcdiaa", sum := "df7c36bced29483ce678b0d9ffb2a8535dd60f23a904a39ef1ec1b5fd20d70da", func := "pylon/pylonlaw14.TouWindows", spec := "touWindows", plainKeys := false, apart := false, narrowed := true }
def TouWindowsUptoSaid : Prop := touWindowsUptoRow.holds Try.pinned (OpenSpec.upto touWindowsSpec)

/-- 'pylonlaw14.TouSeasons', WHERE WHAT IT READS IS OF BULK AT MOST 1048576: true; the input reads as it did. -/
def touSeasonsUptoRow : OpenClaim := { program := "ytkggjjggcbcdiaa", sum := "df7c36bced29483ce678b0d9ffb2a8535dd60f23a904a39ef1ec1b5fd20d70da", func := "pylon/pylonlaw14.TouSeasons", spec := "touSeasons", plainKeys := false, apart := false, narrowed := true }
def TouSeasonsUptoSaid : Prop := touSeasonsUptoRow.holds Try.pinned (OpenSpec.upto touSeasonsSpec)

/-- 'pylonlaw14.TouAts', WHERE WHAT IT READS IS OF BULK AT MOST 1048576: true; the input reads as it did. -/
def touAtsUptoRow : OpenClaim := { program := "ytkggjjggcbcdiaa", sum := "df7c36bced29483ce678b0d9ffb2a8535dd60f23a904a39ef1ec1b5fd20d70da", func := "pylon/pylonlaw14.TouAts", spec := "touAts", plainKeys := false, apart := false, narrowed := true }
def TouAtsUptoSaid : Prop := touAtsUptoRow.holds Try.pinned (OpenSpec.upto touAtsSpec)

/-- 'pylonlaw14.TouOne', WHERE WHAT IT READS IS OF BULK AT MOST 1048576: true; the input reads as it did. -/
def touOneUptoRow : OpenClaim := { program := "ytkggjjggcbcdiaa", sum := "df7c36bced29483ce678b0d9ffb2a8535dd60f23a904a39ef1ec1b5fd20d70da", func := "pylon/pylonlaw14.TouOne", spec := "touOne", plainKeys := false, apart := false, narrowed := true }
def TouOneUptoSaid : Prop := touOneUptoRow.holds Try.pinned (OpenSpec.upto touOneSpec)

/-- 'pylonlaw14.TouQuarters', WHERE WHAT IT READS IS OF BULK AT MOST 1048576: true; the input reads as it did. -/
def touQuartersUptoRow : OpenClaim := { program := "ytkggjjggcbcdiaa", sum := "df7c36bced29483ce678b0d9ffb2a8535dd60f23a904a39ef1ec1b5fd20d70da", func := "pylon/pylonlaw14.TouQuarters", spec := "touQuarters", plainKeys := false, apart := false, narrowed := true }
def TouQuartersUptoSaid : Prop := touQuartersUptoRow.holds Try.pinned (OpenSpec.upto touQuartersSpec)

/-- 'pylonlaw14.TouKeeps', WHERE WHAT IT READS IS OF BULK AT MOST 1048576: true; the input reads as it did. -/
def touKeepsUptoRow : OpenClaim := { program := "ytkggjjggcbcdiaa", sum := "df7c36bced29483ce678b0d9ffb2a8535dd60f23a904a39ef1ec1b5fd20d70da", func := "pylon/pylonlaw14.TouKeeps", spec := "touKeeps", plainKeys := false, apart := false, narrowed := true }
def TouKeepsUptoSaid : Prop := touKeepsUptoRow.holds Try.pinned (OpenSpec.upto touKeepsSpec)

/-- 'pylonlaw05.HolidayOrder', WHERE WHAT IT READS IS OF BULK AT MOST 1048576: true; the input reads as it did. -/
def holidayOrderUptoRow : OpenClaim := { program := "ytkggjjggcbcdiaa", sum := "df7c36bced29483ce678b0d9ffb2a8535dd60f23a904a39ef1ec1b5fd20d70da", func := "pylon/pylonlaw05.HolidayOrder", spec := "holidayOrder", inPlace := ["internal/reflectlite.ValueOf", "internal/reflectlite.Swapper", "(internal/reflectlite.Value).Len"], unfollowed := true, recurses := true, plainKeys := false, apart := false, narrowed := true }
def HolidayOrderUptoSaid : Prop := holidayOrderUptoRow.holds Try.pinned (OpenSpec.upto holidayOrderSpec)

/-- 'pylonlaw05.HolidayOn', WHERE WHAT IT READS IS OF BULK AT MOST 1048576: true; the input reads as it did. -/
def holidayOnUptoRow : OpenClaim := { program := "ytkggjjggcbcdiaa", sum := "df7c36bced29483ce678b0d9ffb2a8535dd60f23a904a39ef1ec1b5fd20d70da", func := "pylon/pylonlaw05.HolidayOn", spec := "holidayOn", inPlace := ["internal/reflectlite.ValueOf", "internal/reflectlite.Swapper", "(internal/reflectlite.Value).Len"], unfollowed := true, recurses := true, plainKeys := false, apart := false, narrowed := true }
def HolidayOnUptoSaid : Prop := holidayOnUptoRow.holds Try.pinned (OpenSpec.upto holidayOnSpec)

/-- 'pylonlaw05.HolidayAll', WHERE WHAT IT READS IS OF BULK AT MOST 1048576: true; the input reads as it did. -/
def holidayAllUptoRow : OpenClaim := { program := "ytkggjjggcbcdiaa", sum := "df7c36bced29483ce678b0d9ffb2a8535dd60f23a904a39ef1ec1b5fd20d70da", func := "pylon/pylonlaw05.HolidayAll", spec := "holidayAll", inPlace := ["internal/reflectlite.ValueOf", "internal/reflectlite.Swapper", "(internal/reflectlite.Value).Len"], unfollowed := true, recurses := true, plainKeys := false, apart := false, narrowed := true }
def HolidayAllUptoSaid : Prop := holidayAllUptoRow.holds Try.pinned (OpenSpec.upto holidayAllSpec)

/-- 'pylonlaw05.HolidayLists', WHERE WHAT IT READS IS OF BULK AT MOST 1048576: true; the input reads as it did. -/
def holidayListsUptoRow : OpenClaim := { program := "ytkggjjggcbcdiaa", sum := "df7c36bced29483ce678b0d9ffb2a8535dd60f23a904a39ef1ec1b5fd20d70da", func := "pylon/pylonlaw05.HolidayLists", spec := "holidayLists", inPlace := ["internal/reflectlite.ValueOf", "internal/reflectlite.Swapper", "(internal/reflectlite.Value).Len"], unfollowed := true, recurses := true, plainKeys := false, apart := false, narrowed := true }
def HolidayListsUptoSaid : Prop := holidayListsUptoRow.holds Try.pinned (OpenSpec.upto holidayListsSpec)

/-- 'pylonlaw05.HolidayKeeps', WHERE WHAT IT READS IS OF BULK AT MOST 1048576: true; the input reads as it did. -/
def holidayKeepsUptoRow : OpenClaim := { program := "ytkggjjggcbcdiaa", sum := "df7c36bced29483ce678b0d9ffb2a8535dd60f23a904a39ef1ec1b5fd20d70da", func := "pylon/pylonlaw05.HolidayKeeps", spec := "holidayKeeps", inPlace := ["internal/reflectlite.ValueOf", "internal/reflectlite.Swapper", "(internal/reflectlite.Value).Len"], unfollowed := true, recurses := true, plainKeys := false, apart := false, narrowed := true }
def HolidayKeepsUptoSaid : Prop := holidayKeepsUptoRow.holds Try.pinned (OpenSpec.upto holidayKeepsSpec)

end Rows
end Go.Proofs.Ytkggjjggcbcdiaa
