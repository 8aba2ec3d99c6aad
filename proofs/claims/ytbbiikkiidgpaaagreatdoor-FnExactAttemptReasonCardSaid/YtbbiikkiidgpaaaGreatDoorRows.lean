/-
  NARROWER THAN 'FOR EVERY INPUT', by the rows' own cells (each row's printed sentence says how): FnExactOrderFault: laid · FnExactEndOf: laid · FnExactAttemptReason: laid · FnExactOrderCost: laid · FnExactBattleLosses: laid · FnExactSheetFault: laid · FnExactIsSheet: laid · FnExactBattleColumn: laid · FnExactBattleResult: laid.
  DERIVED. THE GIVEN ROWS OF THIS SEAT. 9 by the template 'for every input the law returns true; each argument reads behind the call as it read before'; 0 by the template 'total and deterministic' (their statements: YtbbiikkiidgpaaaGreatDoorTotals.lean).
  GIVEN WITH THE SEED: the statements are not yours to turn. If you find one false, say at which input.
  Laid BY PROGRAM, IN A SANDBOX (cutbox-rows.mjs): the forced cells as the released guide's own fill.sh prints them over the translation 2c92eba0d0ed1c72… (all of the seat's roots in one cut). By AI agents, Wed Nov 11 2026. No macro, syntax, notation, axiom, sorry.
-/
import Derived.Test.YtbbiikkiidgpaaaGreatDoorChecked
import GoSem.Claim
import GoSem.ClaimJoined
import GoSem.ClaimMapViews
import Derived.JoinedTies
import Derived.KernelRfl
namespace Go.Proofs.YtbbiikkiidgpaaaGreatDoor
/- THE CELL 'sum', in the pinned program and in every row, IS THE sha256 OF THE DUMP (.gsa) THAT YtbbiikkiidgpaaaGreatDoorProg.lean LOADS. Nothing in Lean hashes anything: it is a label: what it is worth is what the hold of that sum in a sandbox is worth. -/
noncomputable def Tryz.pinned : Pinned := { name := "ytbbiikkiidgpaaagreatdoor", sum := "2c92eba0d0ed1c72e2c51b90719c8029bface8acbb814e0911d1a011cb38b934", checked := Tryz.checked }
namespace Rows
def none {H : Type} : Left H := { results := [], args := [] }

/- WHAT THE LISTED PACKAGE-LEVEL VARIABLES READ AS WHEN THE CALL BEGINS. Each datum BY PROGRAM (the guide's laid-datum.mjs) off the statement by which the dump's own 'gosem.cut.vars' lays the variable. In a bare row this is a premise. The card (YtbbiikkiidgpaaaGreatDoorCards.lean) ties it to the program's text. -/
def laid_loop_example_g00886_impl_directions {H : Type} : DataW H := .agg [.agg [.lit (.int .i64 1), .lit (.int .i64 0)], .agg [.lit (.int .i64 1), .lit (.int .i64 (-1))], .agg [.lit (.int .i64 0), .lit (.int .i64 (-1))], .agg [.lit (.int .i64 (-1)), .lit (.int .i64 0)], .agg [.lit (.int .i64 (-1)), .lit (.int .i64 1)], .agg [.lit (.int .i64 0), .lit (.int .i64 1)]]

/-- 'laws.FnExactOrderFault': WHATEVER THE INPUT: true; the input reads as it did. -/
def fnExactOrderFaultSpec : ChangeSpec := { name := "fnExactOrderFault", vars := ["loop.example/g00886/impl.directions"], fn := fun _ => fun
  | [d1, d2, d3, d4, g1] => { results := [.lit (.bool true)], args := [d1, d2, d3, d4], vars := [g1] }
  | _ => none }
def fnExactOrderFaultRow : OpenClaim := { program := "ytbbiikkiidgpaaagreatdoor", sum := "2c92eba0d0ed1c72e2c51b90719c8029bface8acbb814e0911d1a011cb38b934", func := "loop.example/g00886/laws.FnExactOrderFault", spec := "fnExactOrderFault", unfollowed := true, recurses := true, named := ["loop.example/g00886/impl.directions"], apart := false, laid := [("loop.example/g00886/impl.directions", laid_loop_example_g00886_impl_directions)] }
def FnExactOrderFaultSaid : Prop := fnExactOrderFaultRow.holds Tryz.pinned (OpenSpec.ofChange fnExactOrderFaultSpec)

/-- ITS FALSE NEIGHBOUR: 'it returns false'. Refute it at one input. -/
def fnExactOrderFaultWrong : ChangeSpec := { name := "fnExactOrderFault", vars := ["loop.example/g00886/impl.directions"], fn := fun _ => fun
  | [d1, d2, d3, d4, g1] => { results := [.lit (.bool false)], args := [d1, d2, d3, d4], vars := [g1] }
  | _ => none }
def FnExactOrderFaultWrongFalsely : Prop := fnExactOrderFaultRow.holds Tryz.pinned (OpenSpec.ofChange fnExactOrderFaultWrong)

/-- 'laws.FnExactEndOf': WHATEVER THE INPUT: true; the input reads as it did. -/
def fnExactEndOfSpec : ChangeSpec := { name := "fnExactEndOf", vars := ["loop.example/g00886/impl.directions"], fn := fun _ => fun
  | [d1, d2, d3, g1] => { results := [.lit (.bool true)], args := [d1, d2, d3], vars := [g1] }
  | _ => none }
def fnExactEndOfRow : OpenClaim := { program := "ytbbiikkiidgpaaagreatdoor", sum := "2c92eba0d0ed1c72e2c51b90719c8029bface8acbb814e0911d1a011cb38b934", func := "loop.example/g00886/laws.FnExactEndOf", spec := "fnExactEndOf", unfollowed := true, recurses := true, named := ["loop.example/g00886/impl.directions"], apart := false, laid := [("loop.example/g00886/impl.directions", laid_loop_example_g00886_impl_directions)] }
def FnExactEndOfSaid : Prop := fnExactEndOfRow.holds Tryz.pinned (OpenSpec.ofChange fnExactEndOfSpec)

/-- ITS FALSE NEIGHBOUR: 'it returns false'. Refute it at one input. -/
def fnExactEndOfWrong : ChangeSpec := { name := "fnExactEndOf", vars := ["loop.example/g00886/impl.directions"], fn := fun _ => fun
  | [d1, d2, d3, g1] => { results := [.lit (.bool false)], args := [d1, d2, d3], vars := [g1] }
  | _ => none }
def FnExactEndOfWrongFalsely : Prop := fnExactEndOfRow.holds Tryz.pinned (OpenSpec.ofChange fnExactEndOfWrong)

/-- 'laws.FnExactAttemptReason': WHATEVER THE INPUT: true; the input reads as it did. -/
def fnExactAttemptReasonSpec : ChangeSpec := { name := "fnExactAttemptReason", vars := ["loop.example/g00886/impl.directions"], fn := fun _ => fun
  | [d1, d2, d3, d4, g1] => { results := [.lit (.bool true)], args := [d1, d2, d3, d4], vars := [g1] }
  | _ => none }
def fnExactAttemptReasonRow : OpenClaim := { program := "ytbbiikkiidgpaaagreatdoor", sum := "2c92eba0d0ed1c72e2c51b90719c8029bface8acbb814e0911d1a011cb38b934", func := "loop.example/g00886/laws.FnExactAttemptReason", spec := "fnExactAttemptReason", unfollowed := true, recurses := true, named := ["loop.example/g00886/impl.directions"], apart := false, laid := [("loop.example/g00886/impl.directions", laid_loop_example_g00886_impl_directions)] }
def FnExactAttemptReasonSaid : Prop := fnExactAttemptReasonRow.holds Tryz.pinned (OpenSpec.ofChange fnExactAttemptReasonSpec)

/-- ITS FALSE NEIGHBOUR: 'it returns false'. Refute it at one input. -/
def fnExactAttemptReasonWrong : ChangeSpec := { name := "fnExactAttemptReason", vars := ["loop.example/g00886/impl.directions"], fn := fun _ => fun
  | [d1, d2, d3, d4, g1] => { results := [.lit (.bool false)], args := [d1, d2, d3, d4], vars := [g1] }
  | _ => none }
def FnExactAttemptReasonWrongFalsely : Prop := fnExactAttemptReasonRow.holds Tryz.pinned (OpenSpec.ofChange fnExactAttemptReasonWrong)

/-- 'laws.FnExactOrderCost': WHATEVER THE INPUT: true; the input reads as it did. -/
def fnExactOrderCostSpec : ChangeSpec := { name := "fnExactOrderCost", vars := ["loop.example/g00886/impl.directions"], fn := fun _ => fun
  | [d1, d2, d3, g1] => { results := [.lit (.bool true)], args := [d1, d2, d3], vars := [g1] }
  | _ => none }
def fnExactOrderCostRow : OpenClaim := { program := "ytbbiikkiidgpaaagreatdoor", sum := "2c92eba0d0ed1c72e2c51b90719c8029bface8acbb814e0911d1a011cb38b934", func := "loop.example/g00886/laws.FnExactOrderCost", spec := "fnExactOrderCost", unfollowed := true, recurses := true, named := ["loop.example/g00886/impl.directions"], apart := false, laid := [("loop.example/g00886/impl.directions", laid_loop_example_g00886_impl_directions)] }
def FnExactOrderCostSaid : Prop := fnExactOrderCostRow.holds Tryz.pinned (OpenSpec.ofChange fnExactOrderCostSpec)

/-- ITS FALSE NEIGHBOUR: 'it returns false'. Refute it at one input. -/
def fnExactOrderCostWrong : ChangeSpec := { name := "fnExactOrderCost", vars := ["loop.example/g00886/impl.directions"], fn := fun _ => fun
  | [d1, d2, d3, g1] => { results := [.lit (.bool false)], args := [d1, d2, d3], vars := [g1] }
  | _ => none }
def FnExactOrderCostWrongFalsely : Prop := fnExactOrderCostRow.holds Tryz.pinned (OpenSpec.ofChange fnExactOrderCostWrong)

/-- 'laws.FnExactBattleLosses': WHATEVER THE INPUT: true; the input reads as it did. -/
def fnExactBattleLossesSpec : ChangeSpec := { name := "fnExactBattleLosses", vars := ["loop.example/g00886/impl.directions"], fn := fun _ => fun
  | [d1, d2, d3, d4, g1] => { results := [.lit (.bool true)], args := [d1, d2, d3, d4], vars := [g1] }
  | _ => none }
def fnExactBattleLossesRow : OpenClaim := { program := "ytbbiikkiidgpaaagreatdoor", sum := "2c92eba0d0ed1c72e2c51b90719c8029bface8acbb814e0911d1a011cb38b934", func := "loop.example/g00886/laws.FnExactBattleLosses", spec := "fnExactBattleLosses", unfollowed := true, recurses := true, named := ["loop.example/g00886/impl.directions"], apart := false, laid := [("loop.example/g00886/impl.directions", laid_loop_example_g00886_impl_directions)] }
def FnExactBattleLossesSaid : Prop := fnExactBattleLossesRow.holds Tryz.pinned (OpenSpec.ofChange fnExactBattleLossesSpec)

/-- ITS FALSE NEIGHBOUR: 'it returns false'. Refute it at one input. -/
def fnExactBattleLossesWrong : ChangeSpec := { name := "fnExactBattleLosses", vars := ["loop.example/g00886/impl.directions"], fn := fun _ => fun
  | [d1, d2, d3, d4, g1] => { results := [.lit (.bool false)], args := [d1, d2, d3, d4], vars := [g1] }
  | _ => none }
def FnExactBattleLossesWrongFalsely : Prop := fnExactBattleLossesRow.holds Tryz.pinned (OpenSpec.ofChange fnExactBattleLossesWrong)

/-- 'laws.FnExactSheetFault': WHATEVER THE INPUT: true; the input reads as it did. -/
def fnExactSheetFaultSpec : ChangeSpec := { name := "fnExactSheetFault", vars := ["loop.example/g00886/impl.directions"], fn := fun _ => fun
  | [d1, d2, d3, g1] => { results := [.lit (.bool true)], args := [d1, d2, d3], vars := [g1] }
  | _ => none }
def fnExactSheetFaultRow : OpenClaim := { program := "ytbbiikkiidgpaaagreatdoor", sum := "2c92eba0d0ed1c72e2c51b90719c8029bface8acbb814e0911d1a011cb38b934", func := "loop.example/g00886/laws.FnExactSheetFault", spec := "fnExactSheetFault", unfollowed := true, recurses := true, named := ["loop.example/g00886/impl.directions"], apart := false, laid := [("loop.example/g00886/impl.directions", laid_loop_example_g00886_impl_directions)] }
def FnExactSheetFaultSaid : Prop := fnExactSheetFaultRow.holds Tryz.pinned (OpenSpec.ofChange fnExactSheetFaultSpec)

/-- ITS FALSE NEIGHBOUR: 'it returns false'. Refute it at one input. -/
def fnExactSheetFaultWrong : ChangeSpec := { name := "fnExactSheetFault", vars := ["loop.example/g00886/impl.directions"], fn := fun _ => fun
  | [d1, d2, d3, g1] => { results := [.lit (.bool false)], args := [d1, d2, d3], vars := [g1] }
  | _ => none }
def FnExactSheetFaultWrongFalsely : Prop := fnExactSheetFaultRow.holds Tryz.pinned (OpenSpec.ofChange fnExactSheetFaultWrong)

/-- 'laws.FnExactIsSheet': WHATEVER THE INPUT: true; the input reads as it did. -/
def fnExactIsSheetSpec : ChangeSpec := { name := "fnExactIsSheet", vars := ["loop.example/g00886/impl.directions"], fn := fun _ => fun
  | [d1, d2, d3, g1] => { results := [.lit (.bool true)], args := [d1, d2, d3], vars := [g1] }
  | _ => none }
def fnExactIsSheetRow : OpenClaim := { program := "ytbbiikkiidgpaaagreatdoor", sum := "2c92eba0d0ed1c72e2c51b90719c8029bface8acbb814e0911d1a011cb38b934", func := "loop.example/g00886/laws.FnExactIsSheet", spec := "fnExactIsSheet", unfollowed := true, recurses := true, named := ["loop.example/g00886/impl.directions"], apart := false, laid := [("loop.example/g00886/impl.directions", laid_loop_example_g00886_impl_directions)] }
def FnExactIsSheetSaid : Prop := fnExactIsSheetRow.holds Tryz.pinned (OpenSpec.ofChange fnExactIsSheetSpec)

/-- ITS FALSE NEIGHBOUR: 'it returns false'. Refute it at one input. -/
def fnExactIsSheetWrong : ChangeSpec := { name := "fnExactIsSheet", vars := ["loop.example/g00886/impl.directions"], fn := fun _ => fun
  | [d1, d2, d3, g1] => { results := [.lit (.bool false)], args := [d1, d2, d3], vars := [g1] }
  | _ => none }
def FnExactIsSheetWrongFalsely : Prop := fnExactIsSheetRow.holds Tryz.pinned (OpenSpec.ofChange fnExactIsSheetWrong)

/-- 'laws.FnExactBattleColumn': WHATEVER THE INPUT: true; the input reads as it did. -/
def fnExactBattleColumnSpec : ChangeSpec := { name := "fnExactBattleColumn", vars := ["loop.example/g00886/impl.directions"], fn := fun _ => fun
  | [d1, d2, d3, d4, g1] => { results := [.lit (.bool true)], args := [d1, d2, d3, d4], vars := [g1] }
  | _ => none }
def fnExactBattleColumnRow : OpenClaim := { program := "ytbbiikkiidgpaaagreatdoor", sum := "2c92eba0d0ed1c72e2c51b90719c8029bface8acbb814e0911d1a011cb38b934", func := "loop.example/g00886/laws.FnExactBattleColumn", spec := "fnExactBattleColumn", unfollowed := true, recurses := true, named := ["loop.example/g00886/impl.directions"], apart := false, laid := [("loop.example/g00886/impl.directions", laid_loop_example_g00886_impl_directions)] }
def FnExactBattleColumnSaid : Prop := fnExactBattleColumnRow.holds Tryz.pinned (OpenSpec.ofChange fnExactBattleColumnSpec)

/-- ITS FALSE NEIGHBOUR: 'it returns false'. Refute it at one input. -/
def fnExactBattleColumnWrong : ChangeSpec := { name := "fnExactBattleColumn", vars := ["loop.example/g00886/impl.directions"], fn := fun _ => fun
  | [d1, d2, d3, d4, g1] => { results := [.lit (.bool false)], args := [d1, d2, d3, d4], vars := [g1] }
  | _ => none }
def FnExactBattleColumnWrongFalsely : Prop := fnExactBattleColumnRow.holds Tryz.pinned (OpenSpec.ofChange fnExactBattleColumnWrong)

/-- 'laws.FnExactBattleResult': WHATEVER THE INPUT: true; the input reads as it did. -/
def fnExactBattleResultSpec : ChangeSpec := { name := "fnExactBattleResult", vars := ["loop.example/g00886/impl.directions"], fn := fun _ => fun
  | [d1, d2, d3, d4, d5, g1] => { results := [.lit (.bool true)], args := [d1, d2, d3, d4, d5], vars := [g1] }
  | _ => none }
def fnExactBattleResultRow : OpenClaim := { program := "ytbbiikkiidgpaaagreatdoor", sum := "2c92eba0d0ed1c72e2c51b90719c8029bface8acbb814e0911d1a011cb38b934", func := "loop.example/g00886/laws.FnExactBattleResult", spec := "fnExactBattleResult", unfollowed := true, recurses := true, named := ["loop.example/g00886/impl.directions"], apart := false, laid := [("loop.example/g00886/impl.directions", laid_loop_example_g00886_impl_directions)] }
def FnExactBattleResultSaid : Prop := fnExactBattleResultRow.holds Tryz.pinned (OpenSpec.ofChange fnExactBattleResultSpec)

/-- ITS FALSE NEIGHBOUR: 'it returns false'. Refute it at one input. -/
def fnExactBattleResultWrong : ChangeSpec := { name := "fnExactBattleResult", vars := ["loop.example/g00886/impl.directions"], fn := fun _ => fun
  | [d1, d2, d3, d4, d5, g1] => { results := [.lit (.bool false)], args := [d1, d2, d3, d4, d5], vars := [g1] }
  | _ => none }
def FnExactBattleResultWrongFalsely : Prop := fnExactBattleResultRow.holds Tryz.pinned (OpenSpec.ofChange fnExactBattleResultWrong)

/- THE SECOND FORM. 'bulk': how many values and letters a reading holds, each counted each time it is reached (what is shared counts as often as it is met; a slice's spare places count too). A statement '..UptoSaid' is the law's where the arguments, and the package variables that the reading takes, are together of bulk at most 1048576: NARROWER than '..Said'. Prove '..Said' where nothing that the law and all that it calls make is longer than what came in: it says more and counts as full. Else prove '..UptoSaid'. A law counts once. -/
mutual
def uptoBulk {H : Type} : DataW H → Nat
  | .lit (.string bytes) => bytes.length + 1
  | .lit _ => 1
  | .nil => 1
  | .ptr d => uptoBulk d + 1
  | .slice elems spare => uptoBulkAll elems + uptoBulkAll spare + 1
  | .agg parts => uptoBulkAll parts + 1
  | .iface _ d => uptoBulk d + 1
  | .map entries => uptoBulkEntries entries + 1
  | .held _ => 1
def uptoBulkAll {H : Type} : List (DataW H) → Nat
  | [] => 0
  | d :: r => uptoBulk d + uptoBulkAll r
def uptoBulkEntries {H : Type} : List (Lit × DataW H) → Nat
  | [] => 0
  | x :: r => uptoBulkEntry x + uptoBulkEntries r
def uptoBulkEntry {H : Type} : Lit × DataW H → Nat
  | (.string bytes, d) => bytes.length + uptoBulk d + 1
  | (_, d) => uptoBulk d + 1
 end
def uptoSmall : (H : Type) → List (DataW H) → Bool := fun _ ds => decide (uptoBulkAll ds ≤ 1048576)
def OpenSpec.upto (s : _root_.Go.ChangeSpec) : _root_.Go.OpenSpec := { _root_.Go.OpenSpec.ofChange s with cond := some uptoSmall }

/-- 'laws.FnExactOrderFault', WHERE WHAT IT READS IS OF BULK AT MOST 1048576: true; the input reads as it did. -/
def fnExactOrderFaultUptoRow : OpenClaim := { program := "ytbbiikkiidgpaaagreatdoor", sum := "2c92eba0d0ed1c72e2c51b90719c8029bface8acbb814e0911d1a011cb38b934", func := "loop.example/g00886/laws.FnExactOrderFault", spec := "fnExactOrderFault", unfollowed := true, recurses := true, named := ["loop.example/g00886/impl.directions"], apart := false, laid := [("loop.example/g00886/impl.directions", laid_loop_example_g00886_impl_directions)], narrowed := true }
def FnExactOrderFaultUptoSaid : Prop := fnExactOrderFaultUptoRow.holds Tryz.pinned (OpenSpec.upto fnExactOrderFaultSpec)

/-- 'laws.FnExactEndOf', WHERE WHAT IT READS IS OF BULK AT MOST 1048576: true; the input reads as it did. -/
def fnExactEndOfUptoRow : OpenClaim := { program := "ytbbiikkiidgpaaagreatdoor", sum := "2c92eba0d0ed1c72e2c51b90719c8029bface8acbb814e0911d1a011cb38b934", func := "loop.example/g00886/laws.FnExactEndOf", spec := "fnExactEndOf", unfollowed := true, recurses := true, named := ["loop.example/g00886/impl.directions"], apart := false, laid := [("loop.example/g00886/impl.directions", laid_loop_example_g00886_impl_directions)], narrowed := true }
def FnExactEndOfUptoSaid : Prop := fnExactEndOfUptoRow.holds Tryz.pinned (OpenSpec.upto fnExactEndOfSpec)

/-- 'laws.FnExactAttemptReason', WHERE WHAT IT READS IS OF BULK AT MOST 1048576: true; the input reads as it did. -/
def fnExactAttemptReasonUptoRow : OpenClaim := { program := "ytbbiikkiidgpaaagreatdoor", sum := "2c92eba0d0ed1c72e2c51b90719c8029bface8acbb814e0911d1a011cb38b934", func := "loop.example/g00886/laws.FnExactAttemptReason", spec := "fnExactAttemptReason", unfollowed := true, recurses := true, named := ["loop.example/g00886/impl.directions"], apart := false, laid := [("loop.example/g00886/impl.directions", laid_loop_example_g00886_impl_directions)], narrowed := true }
def FnExactAttemptReasonUptoSaid : Prop := fnExactAttemptReasonUptoRow.holds Tryz.pinned (OpenSpec.upto fnExactAttemptReasonSpec)

/-- 'laws.FnExactOrderCost', WHERE WHAT IT READS IS OF BULK AT MOST 1048576: true; the input reads as it did. -/
def fnExactOrderCostUptoRow : OpenClaim := { program := "ytbbiikkiidgpaaagreatdoor", sum := "2c92eba0d0ed1c72e2c51b90719c8029bface8acbb814e0911d1a011cb38b934", func := "loop.example/g00886/laws.FnExactOrderCost", spec := "fnExactOrderCost", unfollowed := true, recurses := true, named := ["loop.example/g00886/impl.directions"], apart := false, laid := [("loop.example/g00886/impl.directions", laid_loop_example_g00886_impl_directions)], narrowed := true }
def FnExactOrderCostUptoSaid : Prop := fnExactOrderCostUptoRow.holds Tryz.pinned (OpenSpec.upto fnExactOrderCostSpec)

/-- 'laws.FnExactBattleLosses', WHERE WHAT IT READS IS OF BULK AT MOST 1048576: true; the input reads as it did. -/
def fnExactBattleLossesUptoRow : OpenClaim := { program := "ytbbiikkiidgpaaagreatdoor", sum := "2c92eba0d0ed1c72e2c51b90719c8029bface8acbb814e0911d1a011cb38b934", func := "loop.example/g00886/laws.FnExactBattleLosses", spec := "fnExactBattleLosses", unfollowed := true, recurses := true, named := ["loop.example/g00886/impl.directions"], apart := false, laid := [("loop.example/g00886/impl.directions", laid_loop_example_g00886_impl_directions)], narrowed := true }
def FnExactBattleLossesUptoSaid : Prop := fnExactBattleLossesUptoRow.holds Tryz.pinned (OpenSpec.upto fnExactBattleLossesSpec)

/-- 'laws.FnExactSheetFault', WHERE WHAT IT READS IS OF BULK AT MOST 1048576: true; the input reads as it did. -/
def fnExactSheetFaultUptoRow : OpenClaim := { program := "ytbbiikkiidgpaaagreatdoor", sum := "2c92eba0d0ed1c72e2c51b90719c8029bface8acbb814e0911d1a011cb38b934", func := "loop.example/g00886/laws.FnExactSheetFault", spec := "fnExactSheetFault", unfollowed := true, recurses := true, named := ["loop.example/g00886/impl.directions"], apart := false, laid := [("loop.example/g00886/impl.directions", laid_loop_example_g00886_impl_directions)], narrowed := true }
def FnExactSheetFaultUptoSaid : Prop := fnExactSheetFaultUptoRow.holds Tryz.pinned (OpenSpec.upto fnExactSheetFaultSpec)

/-- 'laws.FnExactIsSheet', WHERE WHAT IT READS IS OF BULK AT MOST 1048576: true; the input reads as it did. -/
def fnExactIsSheetUptoRow : OpenClaim := { program := "ytbbiikkiidgpaaagreatdoor", sum := "2c92eba0d0ed1c72e2c51b90719c8029bface8acbb814e0911d1a011cb38b934", func := "loop.example/g00886/laws.FnExactIsSheet", spec := "fnExactIsSheet", unfollowed := true, recurses := true, named := ["loop.example/g00886/impl.directions"], apart := false, laid := [("loop.example/g00886/impl.directions", laid_loop_example_g00886_impl_directions)], narrowed := true }
def FnExactIsSheetUptoSaid : Prop := fnExactIsSheetUptoRow.holds Tryz.pinned (OpenSpec.upto fnExactIsSheetSpec)

/-- 'laws.FnExactBattleColumn', WHERE WHAT IT READS IS OF BULK AT MOST 1048576: true; the input reads as it did. -/
def fnExactBattleColumnUptoRow : OpenClaim := { program := "ytbbiikkiidgpaaagreatdoor", sum := "2c92eba0d0ed1c72e2c51b90719c8029bface8acbb814e0911d1a011cb38b934", func := "loop.example/g00886/laws.FnExactBattleColumn", spec := "fnExactBattleColumn", unfollowed := true, recurses := true, named := ["loop.example/g00886/impl.directions"], apart := false, laid := [("loop.example/g00886/impl.directions", laid_loop_example_g00886_impl_directions)], narrowed := true }
def FnExactBattleColumnUptoSaid : Prop := fnExactBattleColumnUptoRow.holds Tryz.pinned (OpenSpec.upto fnExactBattleColumnSpec)

/-- 'laws.FnExactBattleResult', WHERE WHAT IT READS IS OF BULK AT MOST 1048576: true; the input reads as it did. -/
def fnExactBattleResultUptoRow : OpenClaim := { program := "ytbbiikkiidgpaaagreatdoor", sum := "2c92eba0d0ed1c72e2c51b90719c8029bface8acbb814e0911d1a011cb38b934", func := "loop.example/g00886/laws.FnExactBattleResult", spec := "fnExactBattleResult", unfollowed := true, recurses := true, named := ["loop.example/g00886/impl.directions"], apart := false, laid := [("loop.example/g00886/impl.directions", laid_loop_example_g00886_impl_directions)], narrowed := true }
def FnExactBattleResultUptoSaid : Prop := fnExactBattleResultUptoRow.holds Tryz.pinned (OpenSpec.upto fnExactBattleResultSpec)

end Rows
end Go.Proofs.YtbbiikkiidgpaaaGreatDoor
