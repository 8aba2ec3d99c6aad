/-
  NARROWER THAN 'FOR EVERY INPUT', by the rows' own cells (each row's printed sentence says how): FnExactBattlesOf: laid · FnExactAdvanceUnits: laid · FnExactRetreatPath: laid · FnExactApplyResult: laid · FnExactRefusedIn: laid · FnExactAttemptsAt: laid · FnExactRetreatUnit: laid · FnExactSettleAttempts: laid · FnExactDoAttempts: laid · FnExactAttacksOn: laid.
  DERIVED. THE GIVEN ROWS OF THIS SEAT. 10 by the template 'for every input the law returns true; each argument reads behind the call as it read before'; 0 by the template 'total and deterministic' (their statements: YtcknpclhcilmaaaGreatDoorTotals.lean).
  GIVEN WITH THE SEED: the statements are not yours to turn. If you find one false, say at which input.
  Laid BY PROGRAM, IN A SANDBOX (cutbox-rows.mjs): the forced cells as the released guide's own fill.sh prints them over the translation 49806decec3bdea4… (all of the seat's roots in one cut). By AI agents, Wed Nov 11 2026. No macro, syntax, notation, axiom, sorry.
-/
import Derived.Test.YtcknpclhcilmaaaGreatDoorChecked
import GoSem.Claim
import GoSem.ClaimJoined
import GoSem.ClaimMapViews
import Derived.JoinedTies
import Derived.KernelRfl
namespace Go.Proofs.YtcknpclhcilmaaaGreatDoor
/- THE CELL 'sum', in the pinned program and in every row, IS THE sha256 OF THE DUMP (.gsa) THAT YtcknpclhcilmaaaGreatDoorProg.lean LOADS. Nothing in Lean hashes anything: it is a label: what it is worth is what the hold of that sum in a sandbox is worth. -/
noncomputable def Tryz.pinned : Pinned := { name := "ytcknpclhcilmaaagreatdoor", sum := "49806decec3bdea4e8210b5d5595daf34deb36b90012a50fbeb4e2ebd48011ff", checked := Tryz.checked }
namespace Rows
def none {H : Type} : Left H := { results := [], args := [] }

/- WHAT THE LISTED PACKAGE-LEVEL VARIABLES READ AS WHEN THE CALL BEGINS. Each datum BY PROGRAM (the guide's laid-datum.mjs) off the statement by which the dump's own 'gosem.cut.vars' lays the variable. In a bare row this is a premise. The card (YtcknpclhcilmaaaGreatDoorCards.lean) ties it to the program's text. -/
def laid_loop_example_g00886_impl_directions {H : Type} : DataW H := .agg [.agg [.lit (.int .i64 1), .lit (.int .i64 0)], .agg [.lit (.int .i64 1), .lit (.int .i64 (-1))], .agg [.lit (.int .i64 0), .lit (.int .i64 (-1))], .agg [.lit (.int .i64 (-1)), .lit (.int .i64 0)], .agg [.lit (.int .i64 (-1)), .lit (.int .i64 1)], .agg [.lit (.int .i64 0), .lit (.int .i64 1)]]

/-- 'laws.FnExactBattlesOf': WHATEVER THE INPUT: true; the input reads as it did. -/
def fnExactBattlesOfSpec : ChangeSpec := { name := "fnExactBattlesOf", vars := ["loop.example/g00886/impl.directions"], fn := fun _ => fun
  | [d1, d2, d3, g1] => { results := [.lit (.bool true)], args := [d1, d2, d3], vars := [g1] }
  | _ => none }
def fnExactBattlesOfRow : OpenClaim := { program := "ytcknpclhcilmaaagreatdoor", sum := "49806decec3bdea4e8210b5d5595daf34deb36b90012a50fbeb4e2ebd48011ff", func := "loop.example/g00886/laws.FnExactBattlesOf", spec := "fnExactBattlesOf", unfollowed := true, recurses := true, named := ["loop.example/g00886/impl.directions"], apart := false, laid := [("loop.example/g00886/impl.directions", laid_loop_example_g00886_impl_directions)] }
def FnExactBattlesOfSaid : Prop := fnExactBattlesOfRow.holds Tryz.pinned (OpenSpec.ofChange fnExactBattlesOfSpec)

/-- ITS FALSE NEIGHBOUR: 'it returns false'. Refute it at one input. -/
def fnExactBattlesOfWrong : ChangeSpec := { name := "fnExactBattlesOf", vars := ["loop.example/g00886/impl.directions"], fn := fun _ => fun
  | [d1, d2, d3, g1] => { results := [.lit (.bool false)], args := [d1, d2, d3], vars := [g1] }
  | _ => none }
def FnExactBattlesOfWrongFalsely : Prop := fnExactBattlesOfRow.holds Tryz.pinned (OpenSpec.ofChange fnExactBattlesOfWrong)

/-- 'laws.FnExactAdvanceUnits': WHATEVER THE INPUT: true; the input reads as it did. -/
def fnExactAdvanceUnitsSpec : ChangeSpec := { name := "fnExactAdvanceUnits", vars := ["loop.example/g00886/impl.directions"], fn := fun _ => fun
  | [d1, d2, d3, d4, g1] => { results := [.lit (.bool true)], args := [d1, d2, d3, d4], vars := [g1] }
  | _ => none }
def fnExactAdvanceUnitsRow : OpenClaim := { program := "ytcknpclhcilmaaagreatdoor", sum := "49806decec3bdea4e8210b5d5595daf34deb36b90012a50fbeb4e2ebd48011ff", func := "loop.example/g00886/laws.FnExactAdvanceUnits", spec := "fnExactAdvanceUnits", unfollowed := true, recurses := true, named := ["loop.example/g00886/impl.directions"], apart := false, laid := [("loop.example/g00886/impl.directions", laid_loop_example_g00886_impl_directions)] }
def FnExactAdvanceUnitsSaid : Prop := fnExactAdvanceUnitsRow.holds Tryz.pinned (OpenSpec.ofChange fnExactAdvanceUnitsSpec)

/-- ITS FALSE NEIGHBOUR: 'it returns false'. Refute it at one input. -/
def fnExactAdvanceUnitsWrong : ChangeSpec := { name := "fnExactAdvanceUnits", vars := ["loop.example/g00886/impl.directions"], fn := fun _ => fun
  | [d1, d2, d3, d4, g1] => { results := [.lit (.bool false)], args := [d1, d2, d3, d4], vars := [g1] }
  | _ => none }
def FnExactAdvanceUnitsWrongFalsely : Prop := fnExactAdvanceUnitsRow.holds Tryz.pinned (OpenSpec.ofChange fnExactAdvanceUnitsWrong)

/-- 'laws.FnExactRetreatPath': WHATEVER THE INPUT: true; the input reads as it did. -/
def fnExactRetreatPathSpec : ChangeSpec := { name := "fnExactRetreatPath", vars := ["loop.example/g00886/impl.directions"], fn := fun _ => fun
  | [d1, d2, d3, d4, g1] => { results := [.lit (.bool true)], args := [d1, d2, d3, d4], vars := [g1] }
  | _ => none }
def fnExactRetreatPathRow : OpenClaim := { program := "ytcknpclhcilmaaagreatdoor", sum := "49806decec3bdea4e8210b5d5595daf34deb36b90012a50fbeb4e2ebd48011ff", func := "loop.example/g00886/laws.FnExactRetreatPath", spec := "fnExactRetreatPath", unfollowed := true, recurses := true, named := ["loop.example/g00886/impl.directions"], apart := false, laid := [("loop.example/g00886/impl.directions", laid_loop_example_g00886_impl_directions)] }
def FnExactRetreatPathSaid : Prop := fnExactRetreatPathRow.holds Tryz.pinned (OpenSpec.ofChange fnExactRetreatPathSpec)

/-- ITS FALSE NEIGHBOUR: 'it returns false'. Refute it at one input. -/
def fnExactRetreatPathWrong : ChangeSpec := { name := "fnExactRetreatPath", vars := ["loop.example/g00886/impl.directions"], fn := fun _ => fun
  | [d1, d2, d3, d4, g1] => { results := [.lit (.bool false)], args := [d1, d2, d3, d4], vars := [g1] }
  | _ => none }
def FnExactRetreatPathWrongFalsely : Prop := fnExactRetreatPathRow.holds Tryz.pinned (OpenSpec.ofChange fnExactRetreatPathWrong)

/-- 'laws.FnExactApplyResult': WHATEVER THE INPUT: true; the input reads as it did. -/
def fnExactApplyResultSpec : ChangeSpec := { name := "fnExactApplyResult", vars := ["loop.example/g00886/impl.directions"], fn := fun _ => fun
  | [d1, d2, d3, d4, g1] => { results := [.lit (.bool true)], args := [d1, d2, d3, d4], vars := [g1] }
  | _ => none }
def fnExactApplyResultRow : OpenClaim := { program := "ytcknpclhcilmaaagreatdoor", sum := "49806decec3bdea4e8210b5d5595daf34deb36b90012a50fbeb4e2ebd48011ff", func := "loop.example/g00886/laws.FnExactApplyResult", spec := "fnExactApplyResult", unfollowed := true, recurses := true, named := ["loop.example/g00886/impl.directions"], apart := false, laid := [("loop.example/g00886/impl.directions", laid_loop_example_g00886_impl_directions)] }
def FnExactApplyResultSaid : Prop := fnExactApplyResultRow.holds Tryz.pinned (OpenSpec.ofChange fnExactApplyResultSpec)

/-- ITS FALSE NEIGHBOUR: 'it returns false'. Refute it at one input. -/
def fnExactApplyResultWrong : ChangeSpec := { name := "fnExactApplyResult", vars := ["loop.example/g00886/impl.directions"], fn := fun _ => fun
  | [d1, d2, d3, d4, g1] => { results := [.lit (.bool false)], args := [d1, d2, d3, d4], vars := [g1] }
  | _ => none }
def FnExactApplyResultWrongFalsely : Prop := fnExactApplyResultRow.holds Tryz.pinned (OpenSpec.ofChange fnExactApplyResultWrong)

/-- 'laws.FnExactRefusedIn': WHATEVER THE INPUT: true; the input reads as it did. -/
def fnExactRefusedInSpec : ChangeSpec := { name := "fnExactRefusedIn", vars := ["loop.example/g00886/impl.directions"], fn := fun _ => fun
  | [d1, d2, d3, g1] => { results := [.lit (.bool true)], args := [d1, d2, d3], vars := [g1] }
  | _ => none }
def fnExactRefusedInRow : OpenClaim := { program := "ytcknpclhcilmaaagreatdoor", sum := "49806decec3bdea4e8210b5d5595daf34deb36b90012a50fbeb4e2ebd48011ff", func := "loop.example/g00886/laws.FnExactRefusedIn", spec := "fnExactRefusedIn", unfollowed := true, recurses := true, named := ["loop.example/g00886/impl.directions"], apart := false, laid := [("loop.example/g00886/impl.directions", laid_loop_example_g00886_impl_directions)] }
def FnExactRefusedInSaid : Prop := fnExactRefusedInRow.holds Tryz.pinned (OpenSpec.ofChange fnExactRefusedInSpec)

/-- ITS FALSE NEIGHBOUR: 'it returns false'. Refute it at one input. -/
def fnExactRefusedInWrong : ChangeSpec := { name := "fnExactRefusedIn", vars := ["loop.example/g00886/impl.directions"], fn := fun _ => fun
  | [d1, d2, d3, g1] => { results := [.lit (.bool false)], args := [d1, d2, d3], vars := [g1] }
  | _ => none }
def FnExactRefusedInWrongFalsely : Prop := fnExactRefusedInRow.holds Tryz.pinned (OpenSpec.ofChange fnExactRefusedInWrong)

/-- 'laws.FnExactAttemptsAt': WHATEVER THE INPUT: true; the input reads as it did. -/
def fnExactAttemptsAtSpec : ChangeSpec := { name := "fnExactAttemptsAt", vars := ["loop.example/g00886/impl.directions"], fn := fun _ => fun
  | [d1, d2, d3, d4, g1] => { results := [.lit (.bool true)], args := [d1, d2, d3, d4], vars := [g1] }
  | _ => none }
def fnExactAttemptsAtRow : OpenClaim := { program := "ytcknpclhcilmaaagreatdoor", sum := "49806decec3bdea4e8210b5d5595daf34deb36b90012a50fbeb4e2ebd48011ff", func := "loop.example/g00886/laws.FnExactAttemptsAt", spec := "fnExactAttemptsAt", unfollowed := true, recurses := true, named := ["loop.example/g00886/impl.directions"], apart := false, laid := [("loop.example/g00886/impl.directions", laid_loop_example_g00886_impl_directions)] }
def FnExactAttemptsAtSaid : Prop := fnExactAttemptsAtRow.holds Tryz.pinned (OpenSpec.ofChange fnExactAttemptsAtSpec)

/-- ITS FALSE NEIGHBOUR: 'it returns false'. Refute it at one input. -/
def fnExactAttemptsAtWrong : ChangeSpec := { name := "fnExactAttemptsAt", vars := ["loop.example/g00886/impl.directions"], fn := fun _ => fun
  | [d1, d2, d3, d4, g1] => { results := [.lit (.bool false)], args := [d1, d2, d3, d4], vars := [g1] }
  | _ => none }
def FnExactAttemptsAtWrongFalsely : Prop := fnExactAttemptsAtRow.holds Tryz.pinned (OpenSpec.ofChange fnExactAttemptsAtWrong)

/-- 'laws.FnExactRetreatUnit': WHATEVER THE INPUT: true; the input reads as it did. -/
def fnExactRetreatUnitSpec : ChangeSpec := { name := "fnExactRetreatUnit", vars := ["loop.example/g00886/impl.directions"], fn := fun _ => fun
  | [d1, d2, d3, d4, g1] => { results := [.lit (.bool true)], args := [d1, d2, d3, d4], vars := [g1] }
  | _ => none }
def fnExactRetreatUnitRow : OpenClaim := { program := "ytcknpclhcilmaaagreatdoor", sum := "49806decec3bdea4e8210b5d5595daf34deb36b90012a50fbeb4e2ebd48011ff", func := "loop.example/g00886/laws.FnExactRetreatUnit", spec := "fnExactRetreatUnit", unfollowed := true, recurses := true, named := ["loop.example/g00886/impl.directions"], apart := false, laid := [("loop.example/g00886/impl.directions", laid_loop_example_g00886_impl_directions)] }
def FnExactRetreatUnitSaid : Prop := fnExactRetreatUnitRow.holds Tryz.pinned (OpenSpec.ofChange fnExactRetreatUnitSpec)

/-- ITS FALSE NEIGHBOUR: 'it returns false'. Refute it at one input. -/
def fnExactRetreatUnitWrong : ChangeSpec := { name := "fnExactRetreatUnit", vars := ["loop.example/g00886/impl.directions"], fn := fun _ => fun
  | [d1, d2, d3, d4, g1] => { results := [.lit (.bool false)], args := [d1, d2, d3, d4], vars := [g1] }
  | _ => none }
def FnExactRetreatUnitWrongFalsely : Prop := fnExactRetreatUnitRow.holds Tryz.pinned (OpenSpec.ofChange fnExactRetreatUnitWrong)

/-- 'laws.FnExactSettleAttempts': WHATEVER THE INPUT: true; the input reads as it did. -/
def fnExactSettleAttemptsSpec : ChangeSpec := { name := "fnExactSettleAttempts", vars := ["loop.example/g00886/impl.directions"], fn := fun _ => fun
  | [d1, d2, d3, g1] => { results := [.lit (.bool true)], args := [d1, d2, d3], vars := [g1] }
  | _ => none }
def fnExactSettleAttemptsRow : OpenClaim := { program := "ytcknpclhcilmaaagreatdoor", sum := "49806decec3bdea4e8210b5d5595daf34deb36b90012a50fbeb4e2ebd48011ff", func := "loop.example/g00886/laws.FnExactSettleAttempts", spec := "fnExactSettleAttempts", unfollowed := true, recurses := true, named := ["loop.example/g00886/impl.directions"], apart := false, laid := [("loop.example/g00886/impl.directions", laid_loop_example_g00886_impl_directions)] }
def FnExactSettleAttemptsSaid : Prop := fnExactSettleAttemptsRow.holds Tryz.pinned (OpenSpec.ofChange fnExactSettleAttemptsSpec)

/-- ITS FALSE NEIGHBOUR: 'it returns false'. Refute it at one input. -/
def fnExactSettleAttemptsWrong : ChangeSpec := { name := "fnExactSettleAttempts", vars := ["loop.example/g00886/impl.directions"], fn := fun _ => fun
  | [d1, d2, d3, g1] => { results := [.lit (.bool false)], args := [d1, d2, d3], vars := [g1] }
  | _ => none }
def FnExactSettleAttemptsWrongFalsely : Prop := fnExactSettleAttemptsRow.holds Tryz.pinned (OpenSpec.ofChange fnExactSettleAttemptsWrong)

/-- 'laws.FnExactDoAttempts': WHATEVER THE INPUT: true; the input reads as it did. -/
def fnExactDoAttemptsSpec : ChangeSpec := { name := "fnExactDoAttempts", vars := ["loop.example/g00886/impl.directions"], fn := fun _ => fun
  | [d1, d2, d3, g1] => { results := [.lit (.bool true)], args := [d1, d2, d3], vars := [g1] }
  | _ => none }
def fnExactDoAttemptsRow : OpenClaim := { program := "ytcknpclhcilmaaagreatdoor", sum := "49806decec3bdea4e8210b5d5595daf34deb36b90012a50fbeb4e2ebd48011ff", func := "loop.example/g00886/laws.FnExactDoAttempts", spec := "fnExactDoAttempts", unfollowed := true, recurses := true, named := ["loop.example/g00886/impl.directions"], apart := false, laid := [("loop.example/g00886/impl.directions", laid_loop_example_g00886_impl_directions)] }
def FnExactDoAttemptsSaid : Prop := fnExactDoAttemptsRow.holds Tryz.pinned (OpenSpec.ofChange fnExactDoAttemptsSpec)

/-- ITS FALSE NEIGHBOUR: 'it returns false'. Refute it at one input. -/
def fnExactDoAttemptsWrong : ChangeSpec := { name := "fnExactDoAttempts", vars := ["loop.example/g00886/impl.directions"], fn := fun _ => fun
  | [d1, d2, d3, g1] => { results := [.lit (.bool false)], args := [d1, d2, d3], vars := [g1] }
  | _ => none }
def FnExactDoAttemptsWrongFalsely : Prop := fnExactDoAttemptsRow.holds Tryz.pinned (OpenSpec.ofChange fnExactDoAttemptsWrong)

/-- 'laws.FnExactAttacksOn': WHATEVER THE INPUT: true; the input reads as it did. -/
def fnExactAttacksOnSpec : ChangeSpec := { name := "fnExactAttacksOn", vars := ["loop.example/g00886/impl.directions"], fn := fun _ => fun
  | [d1, d2, d3, d4, g1] => { results := [.lit (.bool true)], args := [d1, d2, d3, d4], vars := [g1] }
  | _ => none }
def fnExactAttacksOnRow : OpenClaim := { program := "ytcknpclhcilmaaagreatdoor", sum := "49806decec3bdea4e8210b5d5595daf34deb36b90012a50fbeb4e2ebd48011ff", func := "loop.example/g00886/laws.FnExactAttacksOn", spec := "fnExactAttacksOn", unfollowed := true, recurses := true, named := ["loop.example/g00886/impl.directions"], apart := false, laid := [("loop.example/g00886/impl.directions", laid_loop_example_g00886_impl_directions)] }
def FnExactAttacksOnSaid : Prop := fnExactAttacksOnRow.holds Tryz.pinned (OpenSpec.ofChange fnExactAttacksOnSpec)

/-- ITS FALSE NEIGHBOUR: 'it returns false'. Refute it at one input. -/
def fnExactAttacksOnWrong : ChangeSpec := { name := "fnExactAttacksOn", vars := ["loop.example/g00886/impl.directions"], fn := fun _ => fun
  | [d1, d2, d3, d4, g1] => { results := [.lit (.bool false)], args := [d1, d2, d3, d4], vars := [g1] }
  | _ => none }
def FnExactAttacksOnWrongFalsely : Prop := fnExactAttacksOnRow.holds Tryz.pinned (OpenSpec.ofChange fnExactAttacksOnWrong)

/- THE SECOND FORM. 'bulk': how many values and letters a reading holds, each counted each time it is reached (what is shared counts as often as it is met; a slice's spare places count too). A statement '..UptoSaid' is the law's where the arguments, and the package variables that the reading takes, are together of bulk at most 1048576: NARROWER than '..Said'. Prove '..Said' where nothing that the law and all that it calls make is longer than what came in: it says more and counts as full. Else prove '..UptoSaid'. A law counts once. -/
mutual
def uptoBulk {H : Type} : DataW H → Nat
  | .lit (.string bytes) => bytes.length + 1
  | .lit _ => 1
  | .nil => 1
  | .ptr d => uptoBulk d + 1
  | .slice elems spare => uptoBulkAll elems + uptoBulkAll spare + 1
  | .agg parts => uptoBulkAll parts + 1
  | .iface _ d => uptoBulk d + 1
  | .map entries => uptoBulkEntries entries + 1
  | .held _ => 1
def uptoBulkAll {H : Type} : List (DataW H) → Nat
  | [] => 0
  | d :: r => uptoBulk d + uptoBulkAll r
def uptoBulkEntries {H : Type} : List (Lit × DataW H) → Nat
  | [] => 0
  | x :: r => uptoBulkEntry x + uptoBulkEntries r
def uptoBulkEntry {H : Type} : Lit × DataW H → Nat
  | (.string bytes, d) => bytes.length + uptoBulk d + 1
  | (_, d) => uptoBulk d + 1
 end
def uptoSmall : (H : Type) → List (DataW H) → Bool := fun _ ds => decide (uptoBulkAll ds ≤ 1048576)
def OpenSpec.upto (s : _root_.Go.ChangeSpec) : _root_.Go.OpenSpec := { _root_.Go.OpenSpec.ofChange s with cond := some uptoSmall }

/-- 'laws.FnExactBattlesOf', WHERE WHAT IT READS IS OF BULK AT MOST 1048576: true; the input reads as it did. -/
def fnExactBattlesOfUptoRow : OpenClaim := { program := "ytcknpclhcilmaaagreatdoor", sum := "49806decec3bdea4e8210b5d5595daf34deb36b90012a50fbeb4e2ebd48011ff", func := "loop.example/g00886/laws.FnExactBattlesOf", spec := "fnExactBattlesOf", unfollowed := true, recurses := true, named := ["loop.example/g00886/impl.directions"], apart := false, laid := [("loop.example/g00886/impl.directions", laid_loop_example_g00886_impl_directions)], narrowed := true }
def FnExactBattlesOfUptoSaid : Prop := fnExactBattlesOfUptoRow.holds Tryz.pinned (OpenSpec.upto fnExactBattlesOfSpec)

/-- 'laws.FnExactAdvanceUnits', WHERE WHAT IT READS IS OF BULK AT MOST 1048576: true; the input reads as it did. -/
def fnExactAdvanceUnitsUptoRow : OpenClaim := { program := "ytcknpclhcilmaaagreatdoor", sum := "49806decec3bdea4e8210b5d5595daf34deb36b90012a50fbeb4e2ebd48011ff", func := "loop.example/g00886/laws.FnExactAdvanceUnits", spec := "fnExactAdvanceUnits", unfollowed := true, recurses := true, named := ["loop.example/g00886/impl.directions"], apart := false, laid := [("loop.example/g00886/impl.directions", laid_loop_example_g00886_impl_directions)], narrowed := true }
def FnExactAdvanceUnitsUptoSaid : Prop := fnExactAdvanceUnitsUptoRow.holds Tryz.pinned (OpenSpec.upto fnExactAdvanceUnitsSpec)

/-- 'laws.FnExactRetreatPath', WHERE WHAT IT READS IS OF BULK AT MOST 1048576: true; the input reads as it did. -/
def fnExactRetreatPathUptoRow : OpenClaim := { program := "ytcknpclhcilmaaagreatdoor", sum := "49806decec3bdea4e8210b5d5595daf34deb36b90012a50fbeb4e2ebd48011ff", func := "loop.example/g00886/laws.FnExactRetreatPath", spec := "fnExactRetreatPath", unfollowed := true, recurses := true, named := ["loop.example/g00886/impl.directions"], apart := false, laid := [("loop.example/g00886/impl.directions", laid_loop_example_g00886_impl_directions)], narrowed := true }
def FnExactRetreatPathUptoSaid : Prop := fnExactRetreatPathUptoRow.holds Tryz.pinned (OpenSpec.upto fnExactRetreatPathSpec)

/-- 'laws.FnExactApplyResult', WHERE WHAT IT READS IS OF BULK AT MOST 1048576: true; the input reads as it did. -/
def fnExactApplyResultUptoRow : OpenClaim := { program := "ytcknpclhcilmaaagreatdoor", sum := "49806decec3bdea4e8210b5d5595daf34deb36b90012a50fbeb4e2ebd48011ff", func := "loop.example/g00886/laws.FnExactApplyResult", spec := "fnExactApplyResult", unfollowed := true, recurses := true, named := ["loop.example/g00886/impl.directions"], apart := false, laid := [("loop.example/g00886/impl.directions", laid_loop_example_g00886_impl_directions)], narrowed := true }
def FnExactApplyResultUptoSaid : Prop := fnExactApplyResultUptoRow.holds Tryz.pinned (OpenSpec.upto fnExactApplyResultSpec)

/-- 'laws.FnExactRefusedIn', WHERE WHAT IT READS IS OF BULK AT MOST 1048576: true; the input reads as it did. -/
def fnExactRefusedInUptoRow : OpenClaim := { program := "ytcknpclhcilmaaagreatdoor", sum := "49806decec3bdea4e8210b5d5595daf34deb36b90012a50fbeb4e2ebd48011ff", func := "loop.example/g00886/laws.FnExactRefusedIn", spec := "fnExactRefusedIn", unfollowed := true, recurses := true, named := ["loop.example/g00886/impl.directions"], apart := false, laid := [("loop.example/g00886/impl.directions", laid_loop_example_g00886_impl_directions)], narrowed := true }
def FnExactRefusedInUptoSaid : Prop := fnExactRefusedInUptoRow.holds Tryz.pinned (OpenSpec.upto fnExactRefusedInSpec)

/-- 'laws.FnExactAttemptsAt', WHERE WHAT IT READS IS OF BULK AT MOST 1048576: true; the input reads as it did. -/
def fnExactAttemptsAtUptoRow : OpenClaim := { program := "ytcknpclhcilmaaagreatdoor", sum := "49806decec3bdea4e8210b5d5595daf34deb36b90012a50fbeb4e2ebd48011ff", func := "loop.example/g00886/laws.FnExactAttemptsAt", spec := "fnExactAttemptsAt", unfollowed := true, recurses := true, named := ["loop.example/g00886/impl.directions"], apart := false, laid := [("loop.example/g00886/impl.directions", laid_loop_example_g00886_impl_directions)], narrowed := true }
def FnExactAttemptsAtUptoSaid : Prop := fnExactAttemptsAtUptoRow.holds Tryz.pinned (OpenSpec.upto fnExactAttemptsAtSpec)

/-- 'laws.FnExactRetreatUnit', WHERE WHAT IT READS IS OF BULK AT MOST 1048576: true; the input reads as it did. -/
def fnExactRetreatUnitUptoRow : OpenClaim := { program := "ytcknpclhcilmaaagreatdoor", sum := "49806decec3bdea4e8210b5d5595daf34deb36b90012a50fbeb4e2ebd48011ff", func := "loop.example/g00886/laws.FnExactRetreatUnit", spec := "fnExactRetreatUnit", unfollowed := true, recurses := true, named := ["loop.example/g00886/impl.directions"], apart := false, laid := [("loop.example/g00886/impl.directions", laid_loop_example_g00886_impl_directions)], narrowed := true }
def FnExactRetreatUnitUptoSaid : Prop := fnExactRetreatUnitUptoRow.holds Tryz.pinned (OpenSpec.upto fnExactRetreatUnitSpec)

/-- 'laws.FnExactSettleAttempts', WHERE WHAT IT READS IS OF BULK AT MOST 1048576: true; the input reads as it did. -/
def fnExactSettleAttemptsUptoRow : OpenClaim := { program := "ytcknpclhcilmaaagreatdoor", sum := "49806decec3bdea4e8210b5d5595daf34deb36b90012a50fbeb4e2ebd48011ff", func := "loop.example/g00886/laws.FnExactSettleAttempts", spec := "fnExactSettleAttempts", unfollowed := true, recurses := true, named := ["loop.example/g00886/impl.directions"], apart := false, laid := [("loop.example/g00886/impl.directions", laid_loop_example_g00886_impl_directions)], narrowed := true }
def FnExactSettleAttemptsUptoSaid : Prop := fnExactSettleAttemptsUptoRow.holds Tryz.pinned (OpenSpec.upto fnExactSettleAttemptsSpec)

/-- 'laws.FnExactDoAttempts', WHERE WHAT IT READS IS OF BULK AT MOST 1048576: true; the input reads as it did. -/
def fnExactDoAttemptsUptoRow : OpenClaim := { program := "ytcknpclhcilmaaagreatdoor", sum := "49806decec3bdea4e8210b5d5595daf34deb36b90012a50fbeb4e2ebd48011ff", func := "loop.example/g00886/laws.FnExactDoAttempts", spec := "fnExactDoAttempts", unfollowed := true, recurses := true, named := ["loop.example/g00886/impl.directions"], apart := false, laid := [("loop.example/g00886/impl.directions", laid_loop_example_g00886_impl_directions)], narrowed := true }
def FnExactDoAttemptsUptoSaid : Prop := fnExactDoAttemptsUptoRow.holds Tryz.pinned (OpenSpec.upto fnExactDoAttemptsSpec)

/-- 'laws.FnExactAttacksOn', WHERE WHAT IT READS IS OF BULK AT MOST 1048576: true; the input reads as it did. -/
def fnExactAttacksOnUptoRow : OpenClaim := { program := "ytcknpclhcilmaaagreatdoor", sum := "49806decec3bdea4e8210b5d5595daf34deb36b90012a50fbeb4e2ebd48011ff", func := "loop.example/g00886/laws.FnExactAttacksOn", spec := "fnExactAttacksOn", unfollowed := true, recurses := true, named := ["loop.example/g00886/impl.directions"], apart := false, laid := [("loop.example/g00886/impl.directions", laid_loop_example_g00886_impl_directions)], narrowed := true }
def FnExactAttacksOnUptoSaid : Prop := fnExactAttacksOnUptoRow.holds Tryz.pinned (OpenSpec.upto fnExactAttacksOnSpec)

end Rows
end Go.Proofs.YtcknpclhcilmaaaGreatDoor
