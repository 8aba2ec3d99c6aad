/-
  No cell of these rows narrows 'for every input' (looked for: loops, veiled, ifaces, maps, wideKeys, modest, calm, conditions, laid).
  DERIVED. THE GIVEN ROWS OF THIS SEAT. 6 by the template 'for every input the law returns true; each argument reads behind the call as it read before'; 0 by the template 'total and deterministic' (their statements: YtfldlagiiidebaaTotals.lean).
  GIVEN WITH THE SEED: the statements are not yours to turn. If you find one false, say at which input.
  Laid BY PROGRAM, IN A SANDBOX (cutbox-rows.mjs): the forced cells as the released guide's own fill.sh prints them over the translation 07b5e522c39c27d5… (all of the seat's roots in one cut). By AI agents, Wed Nov 11 2026. No macro, syntax, notation, axiom, sorry.
-/
import Derived.Test.YtfldlagiiidebaaChecked
import GoSem.Claim
import GoSem.ClaimJoined
import GoSem.ClaimMapViews
import Derived.JoinedTies
import Derived.KernelRfl
namespace Go.Proofs.Ytfldlagiiidebaa
/- THE CELL 'sum', in the pinned program and in every row, IS THE sha256 OF THE DUMP (.gsa) THAT YtfldlagiiidebaaProg.lean LOADS. Nothing in Lean hashes anything: it is a label: what it is worth is what the hold of that sum in a sandbox is worth. -/
noncomputable def Try.pinned : Pinned := { name := "ytfldlagiiidebaa", sum := "07b5e522c39c27d560fad80a6208dd3de9f9c5dacebf126cf7eddef872f01eb8", checked := Try.checked }
namespace Rows
def none {H : Type} : Left H := { results := [], args := [] }

/-- 'laws.FnExactIsSealed': WHATEVER THE INPUT: true; the input reads as it did. -/
def fnExactIsSealedSpec : ChangeSpec := { name := "fnExactIsSealed", fn := fun _ => fun
  | [d] => { results := [.lit (.bool true)], args := [d] }
  | _ => none }
def fnExactIsSealedRow : OpenClaim := { program := "ytfldlagiiidebaa", sum := "07b5e522c39c27d560fad80a6208dd3de9f9c5dacebf126cf7eddef872f01eb8", func := "loop.example/g00886/laws.FnExactIsSealed", spec := "fnExactIsSealed", apart := false }
def FnExactIsSealedSaid : Prop := fnExactIsSealedRow.holds Try.pinned (OpenSpec.ofChange fnExactIsSealedSpec)

/-- ITS FALSE NEIGHBOUR: 'it returns false'. Refute it at one input. -/
def fnExactIsSealedWrong : ChangeSpec := { name := "fnExactIsSealed", fn := fun _ => fun
  | [d] => { results := [.lit (.bool false)], args := [d] }
  | _ => none }
def FnExactIsSealedWrongFalsely : Prop := fnExactIsSealedRow.holds Try.pinned (OpenSpec.ofChange fnExactIsSealedWrong)

/-- 'laws.FnExactReasonName': WHATEVER THE INPUT: true; the input reads as it did. -/
def fnExactReasonNameSpec : ChangeSpec := { name := "fnExactReasonName", fn := fun _ => fun
  | [d] => { results := [.lit (.bool true)], args := [d] }
  | _ => none }
def fnExactReasonNameRow : OpenClaim := { program := "ytfldlagiiidebaa", sum := "07b5e522c39c27d560fad80a6208dd3de9f9c5dacebf126cf7eddef872f01eb8", func := "loop.example/g00886/laws.FnExactReasonName", spec := "fnExactReasonName", apart := false }
def FnExactReasonNameSaid : Prop := fnExactReasonNameRow.holds Try.pinned (OpenSpec.ofChange fnExactReasonNameSpec)

/-- ITS FALSE NEIGHBOUR: 'it returns false'. Refute it at one input. -/
def fnExactReasonNameWrong : ChangeSpec := { name := "fnExactReasonName", fn := fun _ => fun
  | [d] => { results := [.lit (.bool false)], args := [d] }
  | _ => none }
def FnExactReasonNameWrongFalsely : Prop := fnExactReasonNameRow.holds Try.pinned (OpenSpec.ofChange fnExactReasonNameWrong)

/-- 'laws.FnExactSumWays': WHATEVER THE INPUT: true; the input reads as it did. -/
def fnExactSumWaysSpec : ChangeSpec := { name := "fnExactSumWays", fn := fun _ => fun
  | [d1, d2] => { results := [.lit (.bool true)], args := [d1, d2] }
  | _ => none }
def fnExactSumWaysRow : OpenClaim := { program := "ytfldlagiiidebaa", sum := "07b5e522c39c27d560fad80a6208dd3de9f9c5dacebf126cf7eddef872f01eb8", func := "loop.example/g00886/laws.FnExactSumWays", spec := "fnExactSumWays", apart := false }
def FnExactSumWaysSaid : Prop := fnExactSumWaysRow.holds Try.pinned (OpenSpec.ofChange fnExactSumWaysSpec)

/-- ITS FALSE NEIGHBOUR: 'it returns false'. Refute it at one input. -/
def fnExactSumWaysWrong : ChangeSpec := { name := "fnExactSumWays", fn := fun _ => fun
  | [d1, d2] => { results := [.lit (.bool false)], args := [d1, d2] }
  | _ => none }
def FnExactSumWaysWrongFalsely : Prop := fnExactSumWaysRow.holds Try.pinned (OpenSpec.ofChange fnExactSumWaysWrong)

/-- 'laws.FnExactWaysAtLeast': WHATEVER THE INPUT: true; the input reads as it did. -/
def fnExactWaysAtLeastSpec : ChangeSpec := { name := "fnExactWaysAtLeast", fn := fun _ => fun
  | [d1, d2] => { results := [.lit (.bool true)], args := [d1, d2] }
  | _ => none }
def fnExactWaysAtLeastRow : OpenClaim := { program := "ytfldlagiiidebaa", sum := "07b5e522c39c27d560fad80a6208dd3de9f9c5dacebf126cf7eddef872f01eb8", func := "loop.example/g00886/laws.FnExactWaysAtLeast", spec := "fnExactWaysAtLeast", apart := false }
def FnExactWaysAtLeastSaid : Prop := fnExactWaysAtLeastRow.holds Try.pinned (OpenSpec.ofChange fnExactWaysAtLeastSpec)

/-- ITS FALSE NEIGHBOUR: 'it returns false'. Refute it at one input. -/
def fnExactWaysAtLeastWrong : ChangeSpec := { name := "fnExactWaysAtLeast", fn := fun _ => fun
  | [d1, d2] => { results := [.lit (.bool false)], args := [d1, d2] }
  | _ => none }
def FnExactWaysAtLeastWrongFalsely : Prop := fnExactWaysAtLeastRow.holds Try.pinned (OpenSpec.ofChange fnExactWaysAtLeastWrong)

/-- 'laws.FnExactDieAt': WHATEVER THE INPUT: true; the input reads as it did. -/
def fnExactDieAtSpec : ChangeSpec := { name := "fnExactDieAt", fn := fun _ => fun
  | [d1, d2] => { results := [.lit (.bool true)], args := [d1, d2] }
  | _ => none }
def fnExactDieAtRow : OpenClaim := { program := "ytfldlagiiidebaa", sum := "07b5e522c39c27d560fad80a6208dd3de9f9c5dacebf126cf7eddef872f01eb8", func := "loop.example/g00886/laws.FnExactDieAt", spec := "fnExactDieAt", unfollowed := true, recurses := true, apart := false }
def FnExactDieAtSaid : Prop := fnExactDieAtRow.holds Try.pinned (OpenSpec.ofChange fnExactDieAtSpec)

/-- ITS FALSE NEIGHBOUR: 'it returns false'. Refute it at one input. -/
def fnExactDieAtWrong : ChangeSpec := { name := "fnExactDieAt", fn := fun _ => fun
  | [d1, d2] => { results := [.lit (.bool false)], args := [d1, d2] }
  | _ => none }
def FnExactDieAtWrongFalsely : Prop := fnExactDieAtRow.holds Try.pinned (OpenSpec.ofChange fnExactDieAtWrong)

/-- 'laws.FnExactNumberBelow': WHATEVER THE INPUT: true; the input reads as it did. -/
def fnExactNumberBelowSpec : ChangeSpec := { name := "fnExactNumberBelow", fn := fun _ => fun
  | [d1, d2, d3] => { results := [.lit (.bool true)], args := [d1, d2, d3] }
  | _ => none }
def fnExactNumberBelowRow : OpenClaim := { program := "ytfldlagiiidebaa", sum := "07b5e522c39c27d560fad80a6208dd3de9f9c5dacebf126cf7eddef872f01eb8", func := "loop.example/g00886/laws.FnExactNumberBelow", spec := "fnExactNumberBelow", unfollowed := true, recurses := true, apart := false }
def FnExactNumberBelowSaid : Prop := fnExactNumberBelowRow.holds Try.pinned (OpenSpec.ofChange fnExactNumberBelowSpec)

/-- ITS FALSE NEIGHBOUR: 'it returns false'. Refute it at one input. -/
def fnExactNumberBelowWrong : ChangeSpec := { name := "fnExactNumberBelow", fn := fun _ => fun
  | [d1, d2, d3] => { results := [.lit (.bool false)], args := [d1, d2, d3] }
  | _ => none }
def FnExactNumberBelowWrongFalsely : Prop := fnExactNumberBelowRow.holds Try.pinned (OpenSpec.ofChange fnExactNumberBelowWrong)

/- THE SECOND FORM. 'bulk': how many values and letters a reading holds, each counted each time it is reached (what is shared counts as often as it is met; a slice's spare places count too). A statement '..UptoSaid' is the law's where the arguments, and the package variables that the reading takes, are together of bulk at most 1048576: NARROWER than '..Said'. Prove '..Said' where nothing that the law and all that it calls make is longer than what came in: it says more and counts as full. Else prove '..UptoSaid'. A law counts once. -/
mutual
def uptoBulk {H : Type} : DataW H → Nat
  | .lit (.string bytes) => bytes.length + 1
  | .lit _ => 1
  | .nil => 1
  | .ptr d => uptoBulk d + 1
  | .slice elems spare => uptoBulkAll elems + uptoBulkAll spare + 1
  | .agg parts => uptoBulkAll parts + 1
  | .iface _ d => uptoBulk d + 1
  | .map entries => uptoBulkEntries entries + 1
  | .held _ => 1
def uptoBulkAll {H : Type} : List (DataW H) → Nat
  | [] => 0
  | d :: r => uptoBulk d + uptoBulkAll r
def uptoBulkEntries {H : Type} : List (Lit × DataW H) → Nat
  | [] => 0
  | x :: r => uptoBulkEntry x + uptoBulkEntries r
def uptoBulkEntry {H : Type} : Lit × DataW H → Nat
  | (.string bytes, d) => bytes.length + uptoBulk d + 1
  | (_, d) => uptoBulk d + 1
 end
def uptoSmall : (H : Type) → List (DataW H) → Bool := fun _ ds => decide (uptoBulkAll ds ≤ 1048576)
def OpenSpec.upto (s : _root_.Go.ChangeSpec) : _root_.Go.OpenSpec := { _root_.Go.OpenSpec.ofChange s with cond := some uptoSmall }

/-- 'laws.FnExactIsSealed', WHERE WHAT IT READS IS OF BULK AT MOST 1048576: true; the input reads as it did. -/
def fnExactIsSealedUptoRow : OpenClaim := { program := "ytfldlagiiidebaa", sum := "07b5e522c39c27d560fad80a6208dd3de9f9c5dacebf126cf7eddef872f01eb8", func := "loop.example/g00886/laws.FnExactIsSealed", spec := "fnExactIsSealed", apart := false, narrowed := true }
def FnExactIsSealedUptoSaid : Prop := fnExactIsSealedUptoRow.holds Try.pinned (OpenSpec.upto fnExactIsSealedSpec)

/-- 'laws.FnExactReasonName', WHERE WHAT IT READS IS OF BULK AT MOST 1048576: true; the input reads as it did. -/
def fnExactReasonNameUptoRow : OpenClaim := { program := "ytfldlagiiidebaa", sum := "07b5e522c39c27d560fad80a6208dd3de9f9c5dacebf126cf7eddef872f01eb8", func := "loop.example/g00886/laws.FnExactReasonName", spec := "fnExactReasonName", apart := false, narrowed := true }
def FnExactReasonNameUptoSaid : Prop := fnExactReasonNameUptoRow.holds Try.pinned (OpenSpec.upto fnExactReasonNameSpec)

/-- 'laws.FnExactSumWays', WHERE WHAT IT READS IS OF BULK AT MOST 1048576: true; the input reads as it did. -/
def fnExactSumWaysUptoRow : OpenClaim := { program := "ytfldlagiiidebaa", sum := "07b5e522c39c27d560fad80a6208dd3de9f9c5dacebf126cf7eddef872f01eb8", func := "loop.example/g00886/laws.FnExactSumWays", spec := "fnExactSumWays", apart := false, narrowed := true }
def FnExactSumWaysUptoSaid : Prop := fnExactSumWaysUptoRow.holds Try.pinned (OpenSpec.upto fnExactSumWaysSpec)

/-- 'laws.FnExactWaysAtLeast', WHERE WHAT IT READS IS OF BULK AT MOST 1048576: true; the input reads as it did. -/
def fnExactWaysAtLeastUptoRow : OpenClaim := { program := "ytfldlagiiidebaa", sum := "07b5e522c39c27d560fad80a6208dd3de9f9c5dacebf126cf7eddef872f01eb8", func := "loop.example/g00886/laws.FnExactWaysAtLeast", spec := "fnExactWaysAtLeast", apart := false, narrowed := true }
def FnExactWaysAtLeastUptoSaid : Prop := fnExactWaysAtLeastUptoRow.holds Try.pinned (OpenSpec.upto fnExactWaysAtLeastSpec)

/-- 'laws.FnExactDieAt', WHERE WHAT IT READS IS OF BULK AT MOST 1048576: true; the input reads as it did. -/
def fnExactDieAtUptoRow : OpenClaim := { program := "ytfldlagiiidebaa", sum := "07b5e522c39c27d560fad80a6208dd3de9f9c5dacebf126cf7eddef872f01eb8", func := "loop.example/g00886/laws.FnExactDieAt", spec := "fnExactDieAt", unfollowed := true, recurses := true, apart := false, narrowed := true }
def FnExactDieAtUptoSaid : Prop := fnExactDieAtUptoRow.holds Try.pinned (OpenSpec.upto fnExactDieAtSpec)

/-- 'laws.FnExactNumberBelow', WHERE WHAT IT READS IS OF BULK AT MOST 1048576: true; the input reads as it did. -/
def fnExactNumberBelowUptoRow : OpenClaim := { program := "ytfldlagiiidebaa", sum := "07b5e522c39c27d560fad80a6208dd3de9f9c5dacebf126cf7eddef872f01eb8", func := "loop.example/g00886/laws.FnExactNumberBelow", spec := "fnExactNumberBelow", unfollowed := true, recurses := true, apart := false, narrowed := true }
def FnExactNumberBelowUptoSaid : Prop := fnExactNumberBelowUptoRow.holds Try.pinned (OpenSpec.upto fnExactNumberBelowSpec)

end Rows
end Go.Proofs.Ytfldlagiiidebaa
