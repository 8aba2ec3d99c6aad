/-
  NARROWER THAN 'FOR EVERY INPUT', by the rows' own cells (each row's printed sentence says how): FnExactZoneReason: laid · FnExactCanAdvance: laid · FnExactDefenceStrength: laid · FnExactBattleShift: laid · FnExactIsAttempts: laid · FnExactAttackStrength: laid · FnExactIsTrapped: laid · FnExactCountRetreats: laid · FnExactRetreatSteps: laid.
  DERIVED. THE GIVEN ROWS OF THIS SEAT. 9 by the template 'for every input the law returns true; each argument reads behind the call as it read before'; 0 by the template 'total and deterministic' (their statements: YtpinnkfbanecdaaGreatDoorTotals.lean).
  GIVEN WITH THE SEED: the statements are not yours to turn. If you find one false, say at which input.
  Laid BY PROGRAM, IN A SANDBOX (cutbox-rows.mjs): the forced cells as the released guide's own fill.sh prints them over the translation 4888a84a81c816f9… (all of the seat's roots in one cut). By AI agents, Wed Nov 11 2026. No macro, syntax, notation, axiom, sorry.
-/
import Derived.Test.YtpinnkfbanecdaaGreatDoorChecked
import GoSem.Claim
import GoSem.ClaimJoined
import GoSem.ClaimMapViews
import Derived.JoinedTies
import Derived.KernelRfl
namespace Go.Proofs.YtpinnkfbanecdaaGreatDoor
/- THE CELL 'sum', in the pinned program and in every row, IS THE sha256 OF THE DUMP (.gsa) THAT YtpinnkfbanecdaaGreatDoorProg.lean LOADS. Nothing in Lean hashes anything: it is a label: what it is worth is what the hold of that sum in a sandbox is worth. -/
noncomputable def Tryz.pinned : Pinned := { name := "ytpinnkfbanecdaagreatdoor", sum := "4888a84a81c816f9a5a76bb03a32dc9198f5754ac6d9048e9562925632e9e777", checked := Tryz.checked }
namespace Rows
def none {H : Type} : Left H := { results := [], args := [] }

/- WHAT THE LISTED PACKAGE-LEVEL VARIABLES READ AS WHEN THE CALL BEGINS. Each datum BY PROGRAM (the guide's laid-datum.mjs) off the statement by which the dump's own 'gosem.cut.vars' lays the variable. In a bare row this is a premise. The card (YtpinnkfbanecdaaGreatDoorCards.lean) ties it to the program's text. -/
def laid_loop_example_g00886_impl_directions {H : Type} : DataW H := .agg [.agg [.lit (.int .i64 1), .lit (.int .i64 0)], .agg [.lit (.int .i64 1), .lit (.int .i64 (-1))], .agg [.lit (.int .i64 0), .lit (.int .i64 (-1))], .agg [.lit (.int .i64 (-1)), .lit (.int .i64 0)], .agg [.lit (.int .i64 (-1)), .lit (.int .i64 1)], .agg [.lit (.int .i64 0), .lit (.int .i64 1)]]

/-- 'laws.FnExactZoneReason': WHATEVER THE INPUT: true; the input reads as it did. -/
def fnExactZoneReasonSpec : ChangeSpec := { name := "fnExactZoneReason", vars := ["loop.example/g00886/impl.directions"], fn := fun _ => fun
  | [d1, d2, d3, d4, d5, g1] => { results := [.lit (.bool true)], args := [d1, d2, d3, d4, d5], vars := [g1] }
  | _ => none }
def fnExactZoneReasonRow : OpenClaim := { program := "ytpinnkfbanecdaagreatdoor", sum := "4888a84a81c816f9a5a76bb03a32dc9198f5754ac6d9048e9562925632e9e777", func := "loop.example/g00886/laws.FnExactZoneReason", spec := "fnExactZoneReason", unfollowed := true, recurses := true, named := ["loop.example/g00886/impl.directions"], apart := false, laid := [("loop.example/g00886/impl.directions", laid_loop_example_g00886_impl_directions)] }
def FnExactZoneReasonSaid : Prop := fnExactZoneReasonRow.holds Tryz.pinned (OpenSpec.ofChange fnExactZoneReasonSpec)

/-- ITS FALSE NEIGHBOUR: 'it returns false'. Refute it at one input. -/
def fnExactZoneReasonWrong : ChangeSpec := { name := "fnExactZoneReason", vars := ["loop.example/g00886/impl.directions"], fn := fun _ => fun
  | [d1, d2, d3, d4, d5, g1] => { results := [.lit (.bool false)], args := [d1, d2, d3, d4, d5], vars := [g1] }
  | _ => none }
def FnExactZoneReasonWrongFalsely : Prop := fnExactZoneReasonRow.holds Tryz.pinned (OpenSpec.ofChange fnExactZoneReasonWrong)

/-- 'laws.FnExactCanAdvance': WHATEVER THE INPUT: true; the input reads as it did. -/
def fnExactCanAdvanceSpec : ChangeSpec := { name := "fnExactCanAdvance", vars := ["loop.example/g00886/impl.directions"], fn := fun _ => fun
  | [d1, d2, d3, d4, g1] => { results := [.lit (.bool true)], args := [d1, d2, d3, d4], vars := [g1] }
  | _ => none }
def fnExactCanAdvanceRow : OpenClaim := { program := "ytpinnkfbanecdaagreatdoor", sum := "4888a84a81c816f9a5a76bb03a32dc9198f5754ac6d9048e9562925632e9e777", func := "loop.example/g00886/laws.FnExactCanAdvance", spec := "fnExactCanAdvance", unfollowed := true, recurses := true, named := ["loop.example/g00886/impl.directions"], apart := false, laid := [("loop.example/g00886/impl.directions", laid_loop_example_g00886_impl_directions)] }
def FnExactCanAdvanceSaid : Prop := fnExactCanAdvanceRow.holds Tryz.pinned (OpenSpec.ofChange fnExactCanAdvanceSpec)

/-- ITS FALSE NEIGHBOUR: 'it returns false'. Refute it at one input. -/
def fnExactCanAdvanceWrong : ChangeSpec := { name := "fnExactCanAdvance", vars := ["loop.example/g00886/impl.directions"], fn := fun _ => fun
  | [d1, d2, d3, d4, g1] => { results := [.lit (.bool false)], args := [d1, d2, d3, d4], vars := [g1] }
  | _ => none }
def FnExactCanAdvanceWrongFalsely : Prop := fnExactCanAdvanceRow.holds Tryz.pinned (OpenSpec.ofChange fnExactCanAdvanceWrong)

/-- 'laws.FnExactDefenceStrength': WHATEVER THE INPUT: true; the input reads as it did. -/
def fnExactDefenceStrengthSpec : ChangeSpec := { name := "fnExactDefenceStrength", vars := ["loop.example/g00886/impl.directions"], fn := fun _ => fun
  | [d1, d2, d3, g1] => { results := [.lit (.bool true)], args := [d1, d2, d3], vars := [g1] }
  | _ => none }
def fnExactDefenceStrengthRow : OpenClaim := { program := "ytpinnkfbanecdaagreatdoor", sum := "4888a84a81c816f9a5a76bb03a32dc9198f5754ac6d9048e9562925632e9e777", func := "loop.example/g00886/laws.FnExactDefenceStrength", spec := "fnExactDefenceStrength", unfollowed := true, recurses := true, named := ["loop.example/g00886/impl.directions"], apart := false, laid := [("loop.example/g00886/impl.directions", laid_loop_example_g00886_impl_directions)] }
def FnExactDefenceStrengthSaid : Prop := fnExactDefenceStrengthRow.holds Tryz.pinned (OpenSpec.ofChange fnExactDefenceStrengthSpec)

/-- ITS FALSE NEIGHBOUR: 'it returns false'. Refute it at one input. -/
def fnExactDefenceStrengthWrong : ChangeSpec := { name := "fnExactDefenceStrength", vars := ["loop.example/g00886/impl.directions"], fn := fun _ => fun
  | [d1, d2, d3, g1] => { results := [.lit (.bool false)], args := [d1, d2, d3], vars := [g1] }
  | _ => none }
def FnExactDefenceStrengthWrongFalsely : Prop := fnExactDefenceStrengthRow.holds Tryz.pinned (OpenSpec.ofChange fnExactDefenceStrengthWrong)

/-- 'laws.FnExactBattleShift': WHATEVER THE INPUT: true; the input reads as it did. -/
def fnExactBattleShiftSpec : ChangeSpec := { name := "fnExactBattleShift", vars := ["loop.example/g00886/impl.directions"], fn := fun _ => fun
  | [d1, d2, d3, g1] => { results := [.lit (.bool true)], args := [d1, d2, d3], vars := [g1] }
  | _ => none }
def fnExactBattleShiftRow : OpenClaim := { program := "ytpinnkfbanecdaagreatdoor", sum := "4888a84a81c816f9a5a76bb03a32dc9198f5754ac6d9048e9562925632e9e777", func := "loop.example/g00886/laws.FnExactBattleShift", spec := "fnExactBattleShift", unfollowed := true, recurses := true, named := ["loop.example/g00886/impl.directions"], apart := false, laid := [("loop.example/g00886/impl.directions", laid_loop_example_g00886_impl_directions)] }
def FnExactBattleShiftSaid : Prop := fnExactBattleShiftRow.holds Tryz.pinned (OpenSpec.ofChange fnExactBattleShiftSpec)

/-- ITS FALSE NEIGHBOUR: 'it returns false'. Refute it at one input. -/
def fnExactBattleShiftWrong : ChangeSpec := { name := "fnExactBattleShift", vars := ["loop.example/g00886/impl.directions"], fn := fun _ => fun
  | [d1, d2, d3, g1] => { results := [.lit (.bool false)], args := [d1, d2, d3], vars := [g1] }
  | _ => none }
def FnExactBattleShiftWrongFalsely : Prop := fnExactBattleShiftRow.holds Tryz.pinned (OpenSpec.ofChange fnExactBattleShiftWrong)

/-- 'laws.FnExactIsAttempts': WHATEVER THE INPUT: true; the input reads as it did. -/
def fnExactIsAttemptsSpec : ChangeSpec := { name := "fnExactIsAttempts", vars := ["loop.example/g00886/impl.directions"], fn := fun _ => fun
  | [d1, d2, d3, g1] => { results := [.lit (.bool true)], args := [d1, d2, d3], vars := [g1] }
  | _ => none }
def fnExactIsAttemptsRow : OpenClaim := { program := "ytpinnkfbanecdaagreatdoor", sum := "4888a84a81c816f9a5a76bb03a32dc9198f5754ac6d9048e9562925632e9e777", func := "loop.example/g00886/laws.FnExactIsAttempts", spec := "fnExactIsAttempts", unfollowed := true, recurses := true, named := ["loop.example/g00886/impl.directions"], apart := false, laid := [("loop.example/g00886/impl.directions", laid_loop_example_g00886_impl_directions)] }
def FnExactIsAttemptsSaid : Prop := fnExactIsAttemptsRow.holds Tryz.pinned (OpenSpec.ofChange fnExactIsAttemptsSpec)

/-- ITS FALSE NEIGHBOUR: 'it returns false'. Refute it at one input. -/
def fnExactIsAttemptsWrong : ChangeSpec := { name := "fnExactIsAttempts", vars := ["loop.example/g00886/impl.directions"], fn := fun _ => fun
  | [d1, d2, d3, g1] => { results := [.lit (.bool false)], args := [d1, d2, d3], vars := [g1] }
  | _ => none }
def FnExactIsAttemptsWrongFalsely : Prop := fnExactIsAttemptsRow.holds Tryz.pinned (OpenSpec.ofChange fnExactIsAttemptsWrong)

/-- 'laws.FnExactAttackStrength': WHATEVER THE INPUT: true; the input reads as it did. -/
def fnExactAttackStrengthSpec : ChangeSpec := { name := "fnExactAttackStrength", vars := ["loop.example/g00886/impl.directions"], fn := fun _ => fun
  | [d1, d2, d3, g1] => { results := [.lit (.bool true)], args := [d1, d2, d3], vars := [g1] }
  | _ => none }
def fnExactAttackStrengthRow : OpenClaim := { program := "ytpinnkfbanecdaagreatdoor", sum := "4888a84a81c816f9a5a76bb03a32dc9198f5754ac6d9048e9562925632e9e777", func := "loop.example/g00886/laws.FnExactAttackStrength", spec := "fnExactAttackStrength", unfollowed := true, recurses := true, named := ["loop.example/g00886/impl.directions"], apart := false, laid := [("loop.example/g00886/impl.directions", laid_loop_example_g00886_impl_directions)] }
def FnExactAttackStrengthSaid : Prop := fnExactAttackStrengthRow.holds Tryz.pinned (OpenSpec.ofChange fnExactAttackStrengthSpec)

/-- ITS FALSE NEIGHBOUR: 'it returns false'. Refute it at one input. -/
def fnExactAttackStrengthWrong : ChangeSpec := { name := "fnExactAttackStrength", vars := ["loop.example/g00886/impl.directions"], fn := fun _ => fun
  | [d1, d2, d3, g1] => { results := [.lit (.bool false)], args := [d1, d2, d3], vars := [g1] }
  | _ => none }
def FnExactAttackStrengthWrongFalsely : Prop := fnExactAttackStrengthRow.holds Tryz.pinned (OpenSpec.ofChange fnExactAttackStrengthWrong)

/-- 'laws.FnExactIsTrapped': WHATEVER THE INPUT: true; the input reads as it did. -/
def fnExactIsTrappedSpec : ChangeSpec := { name := "fnExactIsTrapped", vars := ["loop.example/g00886/impl.directions"], fn := fun _ => fun
  | [d1, d2, d3, g1] => { results := [.lit (.bool true)], args := [d1, d2, d3], vars := [g1] }
  | _ => none }
def fnExactIsTrappedRow : OpenClaim := { program := "ytpinnkfbanecdaagreatdoor", sum := "4888a84a81c816f9a5a76bb03a32dc9198f5754ac6d9048e9562925632e9e777", func := "loop.example/g00886/laws.FnExactIsTrapped", spec := "fnExactIsTrapped", unfollowed := true, recurses := true, named := ["loop.example/g00886/impl.directions"], apart := false, laid := [("loop.example/g00886/impl.directions", laid_loop_example_g00886_impl_directions)] }
def FnExactIsTrappedSaid : Prop := fnExactIsTrappedRow.holds Tryz.pinned (OpenSpec.ofChange fnExactIsTrappedSpec)

/-- ITS FALSE NEIGHBOUR: 'it returns false'. Refute it at one input. -/
def fnExactIsTrappedWrong : ChangeSpec := { name := "fnExactIsTrapped", vars := ["loop.example/g00886/impl.directions"], fn := fun _ => fun
  | [d1, d2, d3, g1] => { results := [.lit (.bool false)], args := [d1, d2, d3], vars := [g1] }
  | _ => none }
def FnExactIsTrappedWrongFalsely : Prop := fnExactIsTrappedRow.holds Tryz.pinned (OpenSpec.ofChange fnExactIsTrappedWrong)

/-- 'laws.FnExactCountRetreats': WHATEVER THE INPUT: true; the input reads as it did. -/
def fnExactCountRetreatsSpec : ChangeSpec := { name := "fnExactCountRetreats", vars := ["loop.example/g00886/impl.directions"], fn := fun _ => fun
  | [d1, d2, d3, d4, g1] => { results := [.lit (.bool true)], args := [d1, d2, d3, d4], vars := [g1] }
  | _ => none }
def fnExactCountRetreatsRow : OpenClaim := { program := "ytpinnkfbanecdaagreatdoor", sum := "4888a84a81c816f9a5a76bb03a32dc9198f5754ac6d9048e9562925632e9e777", func := "loop.example/g00886/laws.FnExactCountRetreats", spec := "fnExactCountRetreats", unfollowed := true, recurses := true, named := ["loop.example/g00886/impl.directions"], apart := false, laid := [("loop.example/g00886/impl.directions", laid_loop_example_g00886_impl_directions)] }
def FnExactCountRetreatsSaid : Prop := fnExactCountRetreatsRow.holds Tryz.pinned (OpenSpec.ofChange fnExactCountRetreatsSpec)

/-- ITS FALSE NEIGHBOUR: 'it returns false'. Refute it at one input. -/
def fnExactCountRetreatsWrong : ChangeSpec := { name := "fnExactCountRetreats", vars := ["loop.example/g00886/impl.directions"], fn := fun _ => fun
  | [d1, d2, d3, d4, g1] => { results := [.lit (.bool false)], args := [d1, d2, d3, d4], vars := [g1] }
  | _ => none }
def FnExactCountRetreatsWrongFalsely : Prop := fnExactCountRetreatsRow.holds Tryz.pinned (OpenSpec.ofChange fnExactCountRetreatsWrong)

/-- 'laws.FnExactRetreatSteps': WHATEVER THE INPUT: true; the input reads as it did. -/
def fnExactRetreatStepsSpec : ChangeSpec := { name := "fnExactRetreatSteps", vars := ["loop.example/g00886/impl.directions"], fn := fun _ => fun
  | [d1, d2, d3, g1] => { results := [.lit (.bool true)], args := [d1, d2, d3], vars := [g1] }
  | _ => none }
def fnExactRetreatStepsRow : OpenClaim := { program := "ytpinnkfbanecdaagreatdoor", sum := "4888a84a81c816f9a5a76bb03a32dc9198f5754ac6d9048e9562925632e9e777", func := "loop.example/g00886/laws.FnExactRetreatSteps", spec := "fnExactRetreatSteps", unfollowed := true, recurses := true, named := ["loop.example/g00886/impl.directions"], apart := false, laid := [("loop.example/g00886/impl.directions", laid_loop_example_g00886_impl_directions)] }
def FnExactRetreatStepsSaid : Prop := fnExactRetreatStepsRow.holds Tryz.pinned (OpenSpec.ofChange fnExactRetreatStepsSpec)

/-- ITS FALSE NEIGHBOUR: 'it returns false'. Refute it at one input. -/
def fnExactRetreatStepsWrong : ChangeSpec := { name := "fnExactRetreatSteps", vars := ["loop.example/g00886/impl.directions"], fn := fun _ => fun
  | [d1, d2, d3, g1] => { results := [.lit (.bool false)], args := [d1, d2, d3], vars := [g1] }
  | _ => none }
def FnExactRetreatStepsWrongFalsely : Prop := fnExactRetreatStepsRow.holds Tryz.pinned (OpenSpec.ofChange fnExactRetreatStepsWrong)

/- THE SECOND FORM. 'bulk': how many values and letters a reading holds, each counted each time it is reached (what is shared counts as often as it is met; a slice's spare places count too). A statement '..UptoSaid' is the law's where the arguments, and the package variables that the reading takes, are together of bulk at most 1048576: NARROWER than '..Said'. Prove '..Said' where nothing that the law and all that it calls make is longer than what came in: it says more and counts as full. Else prove '..UptoSaid'. A law counts once. -/
mutual
def uptoBulk {H : Type} : DataW H → Nat
  | .lit (.string bytes) => bytes.length + 1
  | .lit _ => 1
  | .nil => 1
  | .ptr d => uptoBulk d + 1
  | .slice elems spare => uptoBulkAll elems + uptoBulkAll spare + 1
  | .agg parts => uptoBulkAll parts + 1
  | .iface _ d => uptoBulk d + 1
  | .map entries => uptoBulkEntries entries + 1
  | .held _ => 1
def uptoBulkAll {H : Type} : List (DataW H) → Nat
  | [] => 0
  | d :: r => uptoBulk d + uptoBulkAll r
def uptoBulkEntries {H : Type} : List (Lit × DataW H) → Nat
  | [] => 0
  | x :: r => uptoBulkEntry x + uptoBulkEntries r
def uptoBulkEntry {H : Type} : Lit × DataW H → Nat
  | (.string bytes, d) => bytes.length + uptoBulk d + 1
  | (_, d) => uptoBulk d + 1
 end
def uptoSmall : (H : Type) → List (DataW H) → Bool := fun _ ds => decide (uptoBulkAll ds ≤ 1048576)
def OpenSpec.upto (s : _root_.Go.ChangeSpec) : _root_.Go.OpenSpec := { _root_.Go.OpenSpec.ofChange s with cond := some uptoSmall }

/-- 'laws.FnExactZoneReason', WHERE WHAT IT READS IS OF BULK AT MOST 1048576: true; the input reads as it did. -/
def fnExactZoneReasonUptoRow : OpenClaim := { program := "ytpinnkfbanecdaagreatdoor", sum := "4888a84a81c816f9a5a76bb03a32dc9198f5754ac6d9048e9562925632e9e777", func := "loop.example/g00886/laws.FnExactZoneReason", spec := "fnExactZoneReason", unfollowed := true, recurses := true, named := ["loop.example/g00886/impl.directions"], apart := false, laid := [("loop.example/g00886/impl.directions", laid_loop_example_g00886_impl_directions)], narrowed := true }
def FnExactZoneReasonUptoSaid : Prop := fnExactZoneReasonUptoRow.holds Tryz.pinned (OpenSpec.upto fnExactZoneReasonSpec)

/-- 'laws.FnExactCanAdvance', WHERE WHAT IT READS IS OF BULK AT MOST 1048576: true; the input reads as it did. -/
def fnExactCanAdvanceUptoRow : OpenClaim := { program := "ytpinnkfbanecdaagreatdoor", sum := "4888a84a81c816f9a5a76bb03a32dc9198f5754ac6d9048e9562925632e9e777", func := "loop.example/g00886/laws.FnExactCanAdvance", spec := "fnExactCanAdvance", unfollowed := true, recurses := true, named := ["loop.example/g00886/impl.directions"], apart := false, laid := [("loop.example/g00886/impl.directions", laid_loop_example_g00886_impl_directions)], narrowed := true }
def FnExactCanAdvanceUptoSaid : Prop := fnExactCanAdvanceUptoRow.holds Tryz.pinned (OpenSpec.upto fnExactCanAdvanceSpec)

/-- 'laws.FnExactDefenceStrength', WHERE WHAT IT READS IS OF BULK AT MOST 1048576: true; the input reads as it did. -/
def fnExactDefenceStrengthUptoRow : OpenClaim := { program := "ytpinnkfbanecdaagreatdoor", sum := "4888a84a81c816f9a5a76bb03a32dc9198f5754ac6d9048e9562925632e9e777", func := "loop.example/g00886/laws.FnExactDefenceStrength", spec := "fnExactDefenceStrength", unfollowed := true, recurses := true, named := ["loop.example/g00886/impl.directions"], apart := false, laid := [("loop.example/g00886/impl.directions", laid_loop_example_g00886_impl_directions)], narrowed := true }
def FnExactDefenceStrengthUptoSaid : Prop := fnExactDefenceStrengthUptoRow.holds Tryz.pinned (OpenSpec.upto fnExactDefenceStrengthSpec)

/-- 'laws.FnExactBattleShift', WHERE WHAT IT READS IS OF BULK AT MOST 1048576: true; the input reads as it did. -/
def fnExactBattleShiftUptoRow : OpenClaim := { program := "ytpinnkfbanecdaagreatdoor", sum := "4888a84a81c816f9a5a76bb03a32dc9198f5754ac6d9048e9562925632e9e777", func := "loop.example/g00886/laws.FnExactBattleShift", spec := "fnExactBattleShift", unfollowed := true, recurses := true, named := ["loop.example/g00886/impl.directions"], apart := false, laid := [("loop.example/g00886/impl.directions", laid_loop_example_g00886_impl_directions)], narrowed := true }
def FnExactBattleShiftUptoSaid : Prop := fnExactBattleShiftUptoRow.holds Tryz.pinned (OpenSpec.upto fnExactBattleShiftSpec)

/-- 'laws.FnExactIsAttempts', WHERE WHAT IT READS IS OF BULK AT MOST 1048576: true; the input reads as it did. -/
def fnExactIsAttemptsUptoRow : OpenClaim := { program := "ytpinnkfbanecdaagreatdoor", sum := "4888a84a81c816f9a5a76bb03a32dc9198f5754ac6d9048e9562925632e9e777", func := "loop.example/g00886/laws.FnExactIsAttempts", spec := "fnExactIsAttempts", unfollowed := true, recurses := true, named := ["loop.example/g00886/impl.directions"], apart := false, laid := [("loop.example/g00886/impl.directions", laid_loop_example_g00886_impl_directions)], narrowed := true }
def FnExactIsAttemptsUptoSaid : Prop := fnExactIsAttemptsUptoRow.holds Tryz.pinned (OpenSpec.upto fnExactIsAttemptsSpec)

/-- 'laws.FnExactAttackStrength', WHERE WHAT IT READS IS OF BULK AT MOST 1048576: true; the input reads as it did. -/
def fnExactAttackStrengthUptoRow : OpenClaim := { program := "ytpinnkfbanecdaagreatdoor", sum := "4888a84a81c816f9a5a76bb03a32dc9198f5754ac6d9048e9562925632e9e777", func := "loop.example/g00886/laws.FnExactAttackStrength", spec := "fnExactAttackStrength", unfollowed := true, recurses := true, named := ["loop.example/g00886/impl.directions"], apart := false, laid := [("loop.example/g00886/impl.directions", laid_loop_example_g00886_impl_directions)], narrowed := true }
def FnExactAttackStrengthUptoSaid : Prop := fnExactAttackStrengthUptoRow.holds Tryz.pinned (OpenSpec.upto fnExactAttackStrengthSpec)

/-- 'laws.FnExactIsTrapped', WHERE WHAT IT READS IS OF BULK AT MOST 1048576: true; the input reads as it did. -/
def fnExactIsTrappedUptoRow : OpenClaim := { program := "ytpinnkfbanecdaagreatdoor", sum := "4888a84a81c816f9a5a76bb03a32dc9198f5754ac6d9048e9562925632e9e777", func := "loop.example/g00886/laws.FnExactIsTrapped", spec := "fnExactIsTrapped", unfollowed := true, recurses := true, named := ["loop.example/g00886/impl.directions"], apart := false, laid := [("loop.example/g00886/impl.directions", laid_loop_example_g00886_impl_directions)], narrowed := true }
def FnExactIsTrappedUptoSaid : Prop := fnExactIsTrappedUptoRow.holds Tryz.pinned (OpenSpec.upto fnExactIsTrappedSpec)

/-- 'laws.FnExactCountRetreats', WHERE WHAT IT READS IS OF BULK AT MOST 1048576: true; the input reads as it did. -/
def fnExactCountRetreatsUptoRow : OpenClaim := { program := "ytpinnkfbanecdaagreatdoor", sum := "4888a84a81c816f9a5a76bb03a32dc9198f5754ac6d9048e9562925632e9e777", func := "loop.example/g00886/laws.FnExactCountRetreats", spec := "fnExactCountRetreats", unfollowed := true, recurses := true, named := ["loop.example/g00886/impl.directions"], apart := false, laid := [("loop.example/g00886/impl.directions", laid_loop_example_g00886_impl_directions)], narrowed := true }
def FnExactCountRetreatsUptoSaid : Prop := fnExactCountRetreatsUptoRow.holds Tryz.pinned (OpenSpec.upto fnExactCountRetreatsSpec)

/-- 'laws.FnExactRetreatSteps', WHERE WHAT IT READS IS OF BULK AT MOST 1048576: true; the input reads as it did. -/
def fnExactRetreatStepsUptoRow : OpenClaim := { program := "ytpinnkfbanecdaagreatdoor", sum := "4888a84a81c816f9a5a76bb03a32dc9198f5754ac6d9048e9562925632e9e777", func := "loop.example/g00886/laws.FnExactRetreatSteps", spec := "fnExactRetreatSteps", unfollowed := true, recurses := true, named := ["loop.example/g00886/impl.directions"], apart := false, laid := [("loop.example/g00886/impl.directions", laid_loop_example_g00886_impl_directions)], narrowed := true }
def FnExactRetreatStepsUptoSaid : Prop := fnExactRetreatStepsUptoRow.holds Tryz.pinned (OpenSpec.upto fnExactRetreatStepsSpec)

end Rows
end Go.Proofs.YtpinnkfbanecdaaGreatDoor
