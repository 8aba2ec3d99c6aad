/-
  No cell of these rows narrows 'for every input' (looked for: loops, veiled, ifaces, maps, wideKeys, modest, calm, conditions, laid).
  DERIVED. THE GIVEN ROWS OF THIS SEAT. 19 by the template 'for every input the law returns true; each argument reads behind the call as it read before'; 0 by the template 'total and deterministic' (their statements: YtgjdonadnofdlaaTotals.lean).
  GIVEN WITH THE SEED: the statements are not yours to turn. If you find one false, say at which input.
  Laid BY PROGRAM, IN A SANDBOX (cutbox-rows.mjs): the forced cells as the released guide's own fill.sh prints them over the translation bd0d3db0ece3acfc… (all of the seat's roots in one cut). By AI agents, Wed Nov 11 2026. No macro, syntax, notation, axiom, sorry.
-/
import Derived.Test.YtgjdonadnofdlaaChecked
import GoSem.Claim
import GoSem.ClaimJoined
import GoSem.ClaimMapViews
import Derived.JoinedTies
import Derived.KernelRfl
namespace Go.Proofs.Ytgjdonadnofdlaa
/- THE CELL 'sum', in the pinned program and in every row, IS THE sha256 OF THE DUMP (.gsa) THAT YtgjdonadnofdlaaProg.lean LOADS. Nothing in Lean hashes anything: it is a label: what it is worth is what the hold of that sum in a sandbox is worth. -/
noncomputable def Try.pinned : Pinned := { name := "ytgjdonadnofdlaa", sum := "bd0d3db0ece3acfcb4fb8cc3937bc09cf6e60c80110431cad050d9afcc59a881", checked := Try.checked }
namespace Rows
def none {H : Type} : Left H := { results := [], args := [] }

/-- 'laws.FnExactIsSealed': WHATEVER THE INPUT: true; the input reads as it did. -/
def fnExactIsSealedSpec : ChangeSpec := { name := "fnExactIsSealed", fn := fun _ => fun
  | [d] => { results := [.lit (.bool true)], args := [d] }
  | _ => none }
def fnExactIsSealedRow : OpenClaim := { program := "ytgjdonadnofdlaa", sum := "bd0d3db0ece3acfcb4fb8cc3937bc09cf6e60c80110431cad050d9afcc59a881", func := "loop.example/g00886/laws.FnExactIsSealed", spec := "fnExactIsSealed", apart := false }
def FnExactIsSealedSaid : Prop := fnExactIsSealedRow.holds Try.pinned (OpenSpec.ofChange fnExactIsSealedSpec)

/-- ITS FALSE NEIGHBOUR: 'it returns false'. Refute it at one input. -/
def fnExactIsSealedWrong : ChangeSpec := { name := "fnExactIsSealed", fn := fun _ => fun
  | [d] => { results := [.lit (.bool false)], args := [d] }
  | _ => none }
def FnExactIsSealedWrongFalsely : Prop := fnExactIsSealedRow.holds Try.pinned (OpenSpec.ofChange fnExactIsSealedWrong)

/-- 'laws.FnExactReasonName': WHATEVER THE INPUT: true; the input reads as it did. -/
def fnExactReasonNameSpec : ChangeSpec := { name := "fnExactReasonName", fn := fun _ => fun
  | [d] => { results := [.lit (.bool true)], args := [d] }
  | _ => none }
def fnExactReasonNameRow : OpenClaim := { program := "ytgjdonadnofdlaa", sum := "bd0d3db0ece3acfcb4fb8cc3937bc09cf6e60c80110431cad050d9afcc59a881", func := "loop.example/g00886/laws.FnExactReasonName", spec := "fnExactReasonName", apart := false }
def FnExactReasonNameSaid : Prop := fnExactReasonNameRow.holds Try.pinned (OpenSpec.ofChange fnExactReasonNameSpec)

/-- ITS FALSE NEIGHBOUR: 'it returns false'. Refute it at one input. -/
def fnExactReasonNameWrong : ChangeSpec := { name := "fnExactReasonName", fn := fun _ => fun
  | [d] => { results := [.lit (.bool false)], args := [d] }
  | _ => none }
def FnExactReasonNameWrongFalsely : Prop := fnExactReasonNameRow.holds Try.pinned (OpenSpec.ofChange fnExactReasonNameWrong)

/-- 'laws.FnExactSumWays': WHATEVER THE INPUT: true; the input reads as it did. -/
def fnExactSumWaysSpec : ChangeSpec := { name := "fnExactSumWays", fn := fun _ => fun
  | [d1, d2] => { results := [.lit (.bool true)], args := [d1, d2] }
  | _ => none }
def fnExactSumWaysRow : OpenClaim := { program := "ytgjdonadnofdlaa", sum := "bd0d3db0ece3acfcb4fb8cc3937bc09cf6e60c80110431cad050d9afcc59a881", func := "loop.example/g00886/laws.FnExactSumWays", spec := "fnExactSumWays", apart := false }
def FnExactSumWaysSaid : Prop := fnExactSumWaysRow.holds Try.pinned (OpenSpec.ofChange fnExactSumWaysSpec)

/-- ITS FALSE NEIGHBOUR: 'it returns false'. Refute it at one input. -/
def fnExactSumWaysWrong : ChangeSpec := { name := "fnExactSumWays", fn := fun _ => fun
  | [d1, d2] => { results := [.lit (.bool false)], args := [d1, d2] }
  | _ => none }
def FnExactSumWaysWrongFalsely : Prop := fnExactSumWaysRow.holds Try.pinned (OpenSpec.ofChange fnExactSumWaysWrong)

/-- 'laws.FnExactWaysAtLeast': WHATEVER THE INPUT: true; the input reads as it did. -/
def fnExactWaysAtLeastSpec : ChangeSpec := { name := "fnExactWaysAtLeast", fn := fun _ => fun
  | [d1, d2] => { results := [.lit (.bool true)], args := [d1, d2] }
  | _ => none }
def fnExactWaysAtLeastRow : OpenClaim := { program := "ytgjdonadnofdlaa", sum := "bd0d3db0ece3acfcb4fb8cc3937bc09cf6e60c80110431cad050d9afcc59a881", func := "loop.example/g00886/laws.FnExactWaysAtLeast", spec := "fnExactWaysAtLeast", apart := false }
def FnExactWaysAtLeastSaid : Prop := fnExactWaysAtLeastRow.holds Try.pinned (OpenSpec.ofChange fnExactWaysAtLeastSpec)

/-- ITS FALSE NEIGHBOUR: 'it returns false'. Refute it at one input. -/
def fnExactWaysAtLeastWrong : ChangeSpec := { name := "fnExactWaysAtLeast", fn := fun _ => fun
  | [d1, d2] => { results := [.lit (.bool false)], args := [d1, d2] }
  | _ => none }
def FnExactWaysAtLeastWrongFalsely : Prop := fnExactWaysAtLeastRow.holds Try.pinned (OpenSpec.ofChange fnExactWaysAtLeastWrong)

/-- 'laws.FnExactDieAt': WHATEVER THE INPUT: true; the input reads as it did. -/
def fnExactDieAtSpec : ChangeSpec := { name := "fnExactDieAt", fn := fun _ => fun
  | [d1, d2] => { results := [.lit (.bool true)], args := [d1, d2] }
  | _ => none }
def fnExactDieAtRow : OpenClaim := { program := "ytgjdonadnofdlaa", sum := "bd0d3db0ece3acfcb4fb8cc3937bc09cf6e60c80110431cad050d9afcc59a881", func := "loop.example/g00886/laws.FnExactDieAt", spec := "fnExactDieAt", unfollowed := true, recurses := true, apart := false }
def FnExactDieAtSaid : Prop := fnExactDieAtRow.holds Try.pinned (OpenSpec.ofChange fnExactDieAtSpec)

/-- ITS FALSE NEIGHBOUR: 'it returns false'. Refute it at one input. -/
def fnExactDieAtWrong : ChangeSpec := { name := "fnExactDieAt", fn := fun _ => fun
  | [d1, d2] => { results := [.lit (.bool false)], args := [d1, d2] }
  | _ => none }
def FnExactDieAtWrongFalsely : Prop := fnExactDieAtRow.holds Try.pinned (OpenSpec.ofChange fnExactDieAtWrong)

/-- 'laws.FnExactNumberBelow': WHATEVER THE INPUT: true; the input reads as it did. -/
def fnExactNumberBelowSpec : ChangeSpec := { name := "fnExactNumberBelow", fn := fun _ => fun
  | [d1, d2, d3] => { results := [.lit (.bool true)], args := [d1, d2, d3] }
  | _ => none }
def fnExactNumberBelowRow : OpenClaim := { program := "ytgjdonadnofdlaa", sum := "bd0d3db0ece3acfcb4fb8cc3937bc09cf6e60c80110431cad050d9afcc59a881", func := "loop.example/g00886/laws.FnExactNumberBelow", spec := "fnExactNumberBelow", unfollowed := true, recurses := true, apart := false }
def FnExactNumberBelowSaid : Prop := fnExactNumberBelowRow.holds Try.pinned (OpenSpec.ofChange fnExactNumberBelowSpec)

/-- ITS FALSE NEIGHBOUR: 'it returns false'. Refute it at one input. -/
def fnExactNumberBelowWrong : ChangeSpec := { name := "fnExactNumberBelow", fn := fun _ => fun
  | [d1, d2, d3] => { results := [.lit (.bool false)], args := [d1, d2, d3] }
  | _ => none }
def FnExactNumberBelowWrongFalsely : Prop := fnExactNumberBelowRow.holds Try.pinned (OpenSpec.ofChange fnExactNumberBelowWrong)

/-- 'laws.FnExactMixText': WHATEVER THE INPUT: true; the input reads as it did. -/
def fnExactMixTextSpec : ChangeSpec := { name := "fnExactMixText", fn := fun _ => fun
  | [d] => { results := [.lit (.bool true)], args := [d] }
  | _ => none }
def fnExactMixTextRow : OpenClaim := { program := "ytgjdonadnofdlaa", sum := "bd0d3db0ece3acfcb4fb8cc3937bc09cf6e60c80110431cad050d9afcc59a881", func := "loop.example/g00886/laws.FnExactMixText", spec := "fnExactMixText", unfollowed := true, recurses := true, apart := false }
def FnExactMixTextSaid : Prop := fnExactMixTextRow.holds Try.pinned (OpenSpec.ofChange fnExactMixTextSpec)

/-- ITS FALSE NEIGHBOUR: 'it returns false'. Refute it at one input. -/
def fnExactMixTextWrong : ChangeSpec := { name := "fnExactMixText", fn := fun _ => fun
  | [d] => { results := [.lit (.bool false)], args := [d] }
  | _ => none }
def FnExactMixTextWrongFalsely : Prop := fnExactMixTextRow.holds Try.pinned (OpenSpec.ofChange fnExactMixTextWrong)

/-- 'laws.FnExactMixNumbers': WHATEVER THE INPUT: true; the input reads as it did. -/
def fnExactMixNumbersSpec : ChangeSpec := { name := "fnExactMixNumbers", fn := fun _ => fun
  | [d] => { results := [.lit (.bool true)], args := [d] }
  | _ => none }
def fnExactMixNumbersRow : OpenClaim := { program := "ytgjdonadnofdlaa", sum := "bd0d3db0ece3acfcb4fb8cc3937bc09cf6e60c80110431cad050d9afcc59a881", func := "loop.example/g00886/laws.FnExactMixNumbers", spec := "fnExactMixNumbers", unfollowed := true, recurses := true, apart := false }
def FnExactMixNumbersSaid : Prop := fnExactMixNumbersRow.holds Try.pinned (OpenSpec.ofChange fnExactMixNumbersSpec)

/-- ITS FALSE NEIGHBOUR: 'it returns false'. Refute it at one input. -/
def fnExactMixNumbersWrong : ChangeSpec := { name := "fnExactMixNumbers", fn := fun _ => fun
  | [d] => { results := [.lit (.bool false)], args := [d] }
  | _ => none }
def FnExactMixNumbersWrongFalsely : Prop := fnExactMixNumbersRow.holds Try.pinned (OpenSpec.ofChange fnExactMixNumbersWrong)

/-- 'laws.FnExactChildSeed': WHATEVER THE INPUT: true; the input reads as it did. -/
def fnExactChildSeedSpec : ChangeSpec := { name := "fnExactChildSeed", fn := fun _ => fun
  | [d1, d2] => { results := [.lit (.bool true)], args := [d1, d2] }
  | _ => none }
def fnExactChildSeedRow : OpenClaim := { program := "ytgjdonadnofdlaa", sum := "bd0d3db0ece3acfcb4fb8cc3937bc09cf6e60c80110431cad050d9afcc59a881", func := "loop.example/g00886/laws.FnExactChildSeed", spec := "fnExactChildSeed", unfollowed := true, recurses := true, apart := false }
def FnExactChildSeedSaid : Prop := fnExactChildSeedRow.holds Try.pinned (OpenSpec.ofChange fnExactChildSeedSpec)

/-- ITS FALSE NEIGHBOUR: 'it returns false'. Refute it at one input. -/
def fnExactChildSeedWrong : ChangeSpec := { name := "fnExactChildSeed", fn := fun _ => fun
  | [d1, d2] => { results := [.lit (.bool false)], args := [d1, d2] }
  | _ => none }
def FnExactChildSeedWrongFalsely : Prop := fnExactChildSeedRow.holds Try.pinned (OpenSpec.ofChange fnExactChildSeedWrong)

/-- 'laws.FnExactFacesOf': WHATEVER THE INPUT: true; the input reads as it did. -/
def fnExactFacesOfSpec : ChangeSpec := { name := "fnExactFacesOf", fn := fun _ => fun
  | [d1, d2] => { results := [.lit (.bool true)], args := [d1, d2] }
  | _ => none }
def fnExactFacesOfRow : OpenClaim := { program := "ytgjdonadnofdlaa", sum := "bd0d3db0ece3acfcb4fb8cc3937bc09cf6e60c80110431cad050d9afcc59a881", func := "loop.example/g00886/laws.FnExactFacesOf", spec := "fnExactFacesOf", unfollowed := true, recurses := true, apart := false }
def FnExactFacesOfSaid : Prop := fnExactFacesOfRow.holds Try.pinned (OpenSpec.ofChange fnExactFacesOfSpec)

/-- ITS FALSE NEIGHBOUR: 'it returns false'. Refute it at one input. -/
def fnExactFacesOfWrong : ChangeSpec := { name := "fnExactFacesOf", fn := fun _ => fun
  | [d1, d2] => { results := [.lit (.bool false)], args := [d1, d2] }
  | _ => none }
def FnExactFacesOfWrongFalsely : Prop := fnExactFacesOfRow.holds Try.pinned (OpenSpec.ofChange fnExactFacesOfWrong)

/-- 'laws.FnExactDiceFrom': WHATEVER THE INPUT: true; the input reads as it did. -/
def fnExactDiceFromSpec : ChangeSpec := { name := "fnExactDiceFrom", fn := fun _ => fun
  | [d1, d2, d3] => { results := [.lit (.bool true)], args := [d1, d2, d3] }
  | _ => none }
def fnExactDiceFromRow : OpenClaim := { program := "ytgjdonadnofdlaa", sum := "bd0d3db0ece3acfcb4fb8cc3937bc09cf6e60c80110431cad050d9afcc59a881", func := "loop.example/g00886/laws.FnExactDiceFrom", spec := "fnExactDiceFrom", unfollowed := true, recurses := true, apart := false }
def FnExactDiceFromSaid : Prop := fnExactDiceFromRow.holds Try.pinned (OpenSpec.ofChange fnExactDiceFromSpec)

/-- ITS FALSE NEIGHBOUR: 'it returns false'. Refute it at one input. -/
def fnExactDiceFromWrong : ChangeSpec := { name := "fnExactDiceFrom", fn := fun _ => fun
  | [d1, d2, d3] => { results := [.lit (.bool false)], args := [d1, d2, d3] }
  | _ => none }
def FnExactDiceFromWrongFalsely : Prop := fnExactDiceFromRow.holds Try.pinned (OpenSpec.ofChange fnExactDiceFromWrong)

/-- 'laws.FnExactJointSeed': WHATEVER THE INPUT: true; the input reads as it did. -/
def fnExactJointSeedSpec : ChangeSpec := { name := "fnExactJointSeed", fn := fun _ => fun
  | [d1, d2] => { results := [.lit (.bool true)], args := [d1, d2] }
  | _ => none }
def fnExactJointSeedRow : OpenClaim := { program := "ytgjdonadnofdlaa", sum := "bd0d3db0ece3acfcb4fb8cc3937bc09cf6e60c80110431cad050d9afcc59a881", func := "loop.example/g00886/laws.FnExactJointSeed", spec := "fnExactJointSeed", unfollowed := true, recurses := true, apart := false }
def FnExactJointSeedSaid : Prop := fnExactJointSeedRow.holds Try.pinned (OpenSpec.ofChange fnExactJointSeedSpec)

/-- ITS FALSE NEIGHBOUR: 'it returns false'. Refute it at one input. -/
def fnExactJointSeedWrong : ChangeSpec := { name := "fnExactJointSeed", fn := fun _ => fun
  | [d1, d2] => { results := [.lit (.bool false)], args := [d1, d2] }
  | _ => none }
def FnExactJointSeedWrongFalsely : Prop := fnExactJointSeedRow.holds Try.pinned (OpenSpec.ofChange fnExactJointSeedWrong)

/-- 'laws.FnExactSealOrders': WHATEVER THE INPUT: true; the input reads as it did. -/
def fnExactSealOrdersSpec : ChangeSpec := { name := "fnExactSealOrders", fn := fun _ => fun
  | [d1, d2, d3] => { results := [.lit (.bool true)], args := [d1, d2, d3] }
  | _ => none }
def fnExactSealOrdersRow : OpenClaim := { program := "ytgjdonadnofdlaa", sum := "bd0d3db0ece3acfcb4fb8cc3937bc09cf6e60c80110431cad050d9afcc59a881", func := "loop.example/g00886/laws.FnExactSealOrders", spec := "fnExactSealOrders", unfollowed := true, recurses := true, apart := false }
def FnExactSealOrdersSaid : Prop := fnExactSealOrdersRow.holds Try.pinned (OpenSpec.ofChange fnExactSealOrdersSpec)

/-- ITS FALSE NEIGHBOUR: 'it returns false'. Refute it at one input. -/
def fnExactSealOrdersWrong : ChangeSpec := { name := "fnExactSealOrders", fn := fun _ => fun
  | [d1, d2, d3] => { results := [.lit (.bool false)], args := [d1, d2, d3] }
  | _ => none }
def FnExactSealOrdersWrongFalsely : Prop := fnExactSealOrdersRow.holds Try.pinned (OpenSpec.ofChange fnExactSealOrdersWrong)

/-- 'laws.FnExactShuffleBy': WHATEVER THE INPUT: true; the input reads as it did. -/
def fnExactShuffleBySpec : ChangeSpec := { name := "fnExactShuffleBy", fn := fun _ => fun
  | [d1, d2] => { results := [.lit (.bool true)], args := [d1, d2] }
  | _ => none }
def fnExactShuffleByRow : OpenClaim := { program := "ytgjdonadnofdlaa", sum := "bd0d3db0ece3acfcb4fb8cc3937bc09cf6e60c80110431cad050d9afcc59a881", func := "loop.example/g00886/laws.FnExactShuffleBy", spec := "fnExactShuffleBy", unfollowed := true, recurses := true, apart := false }
def FnExactShuffleBySaid : Prop := fnExactShuffleByRow.holds Try.pinned (OpenSpec.ofChange fnExactShuffleBySpec)

/-- ITS FALSE NEIGHBOUR: 'it returns false'. Refute it at one input. -/
def fnExactShuffleByWrong : ChangeSpec := { name := "fnExactShuffleBy", fn := fun _ => fun
  | [d1, d2] => { results := [.lit (.bool false)], args := [d1, d2] }
  | _ => none }
def FnExactShuffleByWrongFalsely : Prop := fnExactShuffleByRow.holds Try.pinned (OpenSpec.ofChange fnExactShuffleByWrong)

/-- 'laws.FnExactOpensTo': WHATEVER THE INPUT: true; the input reads as it did. -/
def fnExactOpensToSpec : ChangeSpec := { name := "fnExactOpensTo", fn := fun _ => fun
  | [d1, d2] => { results := [.lit (.bool true)], args := [d1, d2] }
  | _ => none }
def fnExactOpensToRow : OpenClaim := { program := "ytgjdonadnofdlaa", sum := "bd0d3db0ece3acfcb4fb8cc3937bc09cf6e60c80110431cad050d9afcc59a881", func := "loop.example/g00886/laws.FnExactOpensTo", spec := "fnExactOpensTo", unfollowed := true, recurses := true, apart := false }
def FnExactOpensToSaid : Prop := fnExactOpensToRow.holds Try.pinned (OpenSpec.ofChange fnExactOpensToSpec)

/-- ITS FALSE NEIGHBOUR: 'it returns false'. Refute it at one input. -/
def fnExactOpensToWrong : ChangeSpec := { name := "fnExactOpensTo", fn := fun _ => fun
  | [d1, d2] => { results := [.lit (.bool false)], args := [d1, d2] }
  | _ => none }
def FnExactOpensToWrongFalsely : Prop := fnExactOpensToRow.holds Try.pinned (OpenSpec.ofChange fnExactOpensToWrong)

/-- 'laws.FnExactFirstBadSeal': WHATEVER THE INPUT: true; the input reads as it did. -/
def fnExactFirstBadSealSpec : ChangeSpec := { name := "fnExactFirstBadSeal", fn := fun _ => fun
  | [d1, d2] => { results := [.lit (.bool true)], args := [d1, d2] }
  | _ => none }
def fnExactFirstBadSealRow : OpenClaim := { program := "ytgjdonadnofdlaa", sum := "bd0d3db0ece3acfcb4fb8cc3937bc09cf6e60c80110431cad050d9afcc59a881", func := "loop.example/g00886/laws.FnExactFirstBadSeal", spec := "fnExactFirstBadSeal", unfollowed := true, recurses := true, apart := false }
def FnExactFirstBadSealSaid : Prop := fnExactFirstBadSealRow.holds Try.pinned (OpenSpec.ofChange fnExactFirstBadSealSpec)

/-- ITS FALSE NEIGHBOUR: 'it returns false'. Refute it at one input. -/
def fnExactFirstBadSealWrong : ChangeSpec := { name := "fnExactFirstBadSeal", fn := fun _ => fun
  | [d1, d2] => { results := [.lit (.bool false)], args := [d1, d2] }
  | _ => none }
def FnExactFirstBadSealWrongFalsely : Prop := fnExactFirstBadSealRow.holds Try.pinned (OpenSpec.ofChange fnExactFirstBadSealWrong)

/-- 'laws.FnExactSealChain': WHATEVER THE INPUT: true; the input reads as it did. -/
def fnExactSealChainSpec : ChangeSpec := { name := "fnExactSealChain", fn := fun _ => fun
  | [d] => { results := [.lit (.bool true)], args := [d] }
  | _ => none }
def fnExactSealChainRow : OpenClaim := { program := "ytgjdonadnofdlaa", sum := "bd0d3db0ece3acfcb4fb8cc3937bc09cf6e60c80110431cad050d9afcc59a881", func := "loop.example/g00886/laws.FnExactSealChain", spec := "fnExactSealChain", unfollowed := true, recurses := true, apart := false }
def FnExactSealChainSaid : Prop := fnExactSealChainRow.holds Try.pinned (OpenSpec.ofChange fnExactSealChainSpec)

/-- ITS FALSE NEIGHBOUR: 'it returns false'. Refute it at one input. -/
def fnExactSealChainWrong : ChangeSpec := { name := "fnExactSealChain", fn := fun _ => fun
  | [d] => { results := [.lit (.bool false)], args := [d] }
  | _ => none }
def FnExactSealChainWrongFalsely : Prop := fnExactSealChainRow.holds Try.pinned (OpenSpec.ofChange fnExactSealChainWrong)

/-- 'laws.FnExactOrderOf': WHATEVER THE INPUT: true; the input reads as it did. -/
def fnExactOrderOfSpec : ChangeSpec := { name := "fnExactOrderOf", fn := fun _ => fun
  | [d1, d2] => { results := [.lit (.bool true)], args := [d1, d2] }
  | _ => none }
def fnExactOrderOfRow : OpenClaim := { program := "ytgjdonadnofdlaa", sum := "bd0d3db0ece3acfcb4fb8cc3937bc09cf6e60c80110431cad050d9afcc59a881", func := "loop.example/g00886/laws.FnExactOrderOf", spec := "fnExactOrderOf", unfollowed := true, recurses := true, apart := false }
def FnExactOrderOfSaid : Prop := fnExactOrderOfRow.holds Try.pinned (OpenSpec.ofChange fnExactOrderOfSpec)

/-- ITS FALSE NEIGHBOUR: 'it returns false'. Refute it at one input. -/
def fnExactOrderOfWrong : ChangeSpec := { name := "fnExactOrderOf", fn := fun _ => fun
  | [d1, d2] => { results := [.lit (.bool false)], args := [d1, d2] }
  | _ => none }
def FnExactOrderOfWrongFalsely : Prop := fnExactOrderOfRow.holds Try.pinned (OpenSpec.ofChange fnExactOrderOfWrong)

/-- 'laws.FnExactFirstBadOpening': WHATEVER THE INPUT: true; the input reads as it did. -/
def fnExactFirstBadOpeningSpec : ChangeSpec := { name := "fnExactFirstBadOpening", fn := fun _ => fun
  | [d1, d2] => { results := [.lit (.bool true)], args := [d1, d2] }
  | _ => none }
def fnExactFirstBadOpeningRow : OpenClaim := { program := "ytgjdonadnofdlaa", sum := "bd0d3db0ece3acfcb4fb8cc3937bc09cf6e60c80110431cad050d9afcc59a881", func := "loop.example/g00886/laws.FnExactFirstBadOpening", spec := "fnExactFirstBadOpening", unfollowed := true, recurses := true, apart := false }
def FnExactFirstBadOpeningSaid : Prop := fnExactFirstBadOpeningRow.holds Try.pinned (OpenSpec.ofChange fnExactFirstBadOpeningSpec)

/-- ITS FALSE NEIGHBOUR: 'it returns false'. Refute it at one input. -/
def fnExactFirstBadOpeningWrong : ChangeSpec := { name := "fnExactFirstBadOpening", fn := fun _ => fun
  | [d1, d2] => { results := [.lit (.bool false)], args := [d1, d2] }
  | _ => none }
def FnExactFirstBadOpeningWrongFalsely : Prop := fnExactFirstBadOpeningRow.holds Try.pinned (OpenSpec.ofChange fnExactFirstBadOpeningWrong)

/- THE SECOND FORM. 'bulk': how many values and letters a reading holds, each counted each time it is reached (what is shared counts as often as it is met; a slice's spare places count too). A statement '..UptoSaid' is the law's where the arguments, and the package variables that the reading takes, are together of bulk at most 1048576: NARROWER than '..Said'. Prove '..Said' where nothing that the law and all that it calls make is longer than what came in: it says more and counts as full. Else prove '..UptoSaid'. A law counts once. -/
mutual
def uptoBulk {H : Type} : DataW H → Nat
  | .lit (.string bytes) => bytes.length + 1
  | .lit _ => 1
  | .nil => 1
  | .ptr d => uptoBulk d + 1
  | .slice elems spare => uptoBulkAll elems + uptoBulkAll spare + 1
  | .agg parts => uptoBulkAll parts + 1
  | .iface _ d => uptoBulk d + 1
  | .map entries => uptoBulkEntries entries + 1
  | .held _ => 1
def uptoBulkAll {H : Type} : List (DataW H) → Nat
  | [] => 0
  | d :: r => uptoBulk d + uptoBulkAll r
def uptoBulkEntries {H : Type} : List (Lit × DataW H) → Nat
  | [] => 0
  | x :: r => uptoBulkEntry x + uptoBulkEntries r
def uptoBulkEntry {H : Type} : Lit × DataW H → Nat
  | (.string bytes, d) => bytes.length + uptoBulk d + 1
  | (_, d) => uptoBulk d + 1
 end
def uptoSmall : (H : Type) → List (DataW H) → Bool := fun _ ds => decide (uptoBulkAll ds ≤ 1048576)
def OpenSpec.upto (s : _root_.Go.ChangeSpec) : _root_.Go.OpenSpec := { _root_.Go.OpenSpec.ofChange s with cond := some uptoSmall }

/-- 'laws.FnExactIsSealed', WHERE WHAT IT READS IS OF BULK AT MOST 1048576: true; the input reads as it did. -/
def fnExactIsSealedUptoRow : OpenClaim := { program := "ytgjdonadnofdlaa", sum := "bd0d3db0ece3acfcb4fb8cc3937bc09cf6e60c80110431cad050d9afcc59a881", func := "loop.example/g00886/laws.FnExactIsSealed", spec := "fnExactIsSealed", apart := false, narrowed := true }
def FnExactIsSealedUptoSaid : Prop := fnExactIsSealedUptoRow.holds Try.pinned (OpenSpec.upto fnExactIsSealedSpec)

/-- 'laws.FnExactReasonName', WHERE WHAT IT READS IS OF BULK AT MOST 1048576: true; the input reads as it did. -/
def fnExactReasonNameUptoRow : OpenClaim := { program := "ytgjdonadnofdlaa", sum := "bd0d3db0ece3acfcb4fb8cc3937bc09cf6e60c80110431cad050d9afcc59a881", func := "loop.example/g00886/laws.FnExactReasonName", spec := "fnExactReasonName", apart := false, narrowed := true }
def FnExactReasonNameUptoSaid : Prop := fnExactReasonNameUptoRow.holds Try.pinned (OpenSpec.upto fnExactReasonNameSpec)

/-- 'laws.FnExactSumWays', WHERE WHAT IT READS IS OF BULK AT MOST 1048576: true; the input reads as it did. -/
def fnExactSumWaysUptoRow : OpenClaim := { program := "ytgjdonadnofdlaa", sum := "bd0d3db0ece3acfcb4fb8cc3937bc09cf6e60c80110431cad050d9afcc59a881", func := "loop.example/g00886/laws.FnExactSumWays", spec := "fnExactSumWays", apart := false, narrowed := true }
def FnExactSumWaysUptoSaid : Prop := fnExactSumWaysUptoRow.holds Try.pinned (OpenSpec.upto fnExactSumWaysSpec)

/-- 'laws.FnExactWaysAtLeast', WHERE WHAT IT READS IS OF BULK AT MOST 1048576: true; the input reads as it did. -/
def fnExactWaysAtLeastUptoRow : OpenClaim := { program := "ytgjdonadnofdlaa", sum := "bd0d3db0ece3acfcb4fb8cc3937bc09cf6e60c80110431cad050d9afcc59a881", func := "loop.example/g00886/laws.FnExactWaysAtLeast", spec := "fnExactWaysAtLeast", apart := false, narrowed := true }
def FnExactWaysAtLeastUptoSaid : Prop := fnExactWaysAtLeastUptoRow.holds Try.pinned (OpenSpec.upto fnExactWaysAtLeastSpec)

/-- 'laws.FnExactDieAt', WHERE WHAT IT READS IS OF BULK AT MOST 1048576: true; the input reads as it did. -/
def fnExactDieAtUptoRow : OpenClaim := { program := "ytgjdonadnofdlaa", sum := "bd0d3db0ece3acfcb4fb8cc3937bc09cf6e60c80110431cad050d9afcc59a881", func := "loop.example/g00886/laws.FnExactDieAt", spec := "fnExactDieAt", unfollowed := true, recurses := true, apart := false, narrowed := true }
def FnExactDieAtUptoSaid : Prop := fnExactDieAtUptoRow.holds Try.pinned (OpenSpec.upto fnExactDieAtSpec)

/-- 'laws.FnExactNumberBelow', WHERE WHAT IT READS IS OF BULK AT MOST 1048576: true; the input reads as it did. -/
def fnExactNumberBelowUptoRow : OpenClaim := { program := "ytgjdonadnofdlaa", sum := "bd0d3db0ece3acfcb4fb8cc3937bc09cf6e60c80110431cad050d9afcc59a881", func := "loop.example/g00886/laws.FnExactNumberBelow", spec := "fnExactNumberBelow", unfollowed := true, recurses := true, apart := false, narrowed := true }
def FnExactNumberBelowUptoSaid : Prop := fnExactNumberBelowUptoRow.holds Try.pinned (OpenSpec.upto fnExactNumberBelowSpec)

/-- 'laws.FnExactMixText', WHERE WHAT IT READS IS OF BULK AT MOST 1048576: true; the input reads as it did. -/
def fnExactMixTextUptoRow : OpenClaim := { program := "ytgjdonadnofdlaa", sum := "bd0d3db0ece3acfcb4fb8cc3937bc09cf6e60c80110431cad050d9afcc59a881", func := "loop.example/g00886/laws.FnExactMixText", spec := "fnExactMixText", unfollowed := true, recurses := true, apart := false, narrowed := true }
def FnExactMixTextUptoSaid : Prop := fnExactMixTextUptoRow.holds Try.pinned (OpenSpec.upto fnExactMixTextSpec)

/-- 'laws.FnExactMixNumbers', WHERE WHAT IT READS IS OF BULK AT MOST 1048576: true; the input reads as it did. -/
def fnExactMixNumbersUptoRow : OpenClaim := { program := "ytgjdonadnofdlaa", sum := "bd0d3db0ece3acfcb4fb8cc3937bc09cf6e60c80110431cad050d9afcc59a881", func := "loop.example/g00886/laws.FnExactMixNumbers", spec := "fnExactMixNumbers", unfollowed := true, recurses := true, apart := false, narrowed := true }
def FnExactMixNumbersUptoSaid : Prop := fnExactMixNumbersUptoRow.holds Try.pinned (OpenSpec.upto fnExactMixNumbersSpec)

/-- 'laws.FnExactChildSeed', WHERE WHAT IT READS IS OF BULK AT MOST 1048576: true; the input reads as it did. -/
def fnExactChildSeedUptoRow : OpenClaim := { program := "ytgjdonadnofdlaa", sum := "bd0d3db0ece3acfcb4fb8cc3937bc09cf6e60c80110431cad050d9afcc59a881", func := "loop.example/g00886/laws.FnExactChildSeed", spec := "fnExactChildSeed", unfollowed := true, recurses := true, apart := false, narrowed := true }
def FnExactChildSeedUptoSaid : Prop := fnExactChildSeedUptoRow.holds Try.pinned (OpenSpec.upto fnExactChildSeedSpec)

/-- 'laws.FnExactFacesOf', WHERE WHAT IT READS IS OF BULK AT MOST 1048576: true; the input reads as it did. -/
def fnExactFacesOfUptoRow : OpenClaim := { program := "ytgjdonadnofdlaa", sum := "bd0d3db0ece3acfcb4fb8cc3937bc09cf6e60c80110431cad050d9afcc59a881", func := "loop.example/g00886/laws.FnExactFacesOf", spec := "fnExactFacesOf", unfollowed := true, recurses := true, apart := false, narrowed := true }
def FnExactFacesOfUptoSaid : Prop := fnExactFacesOfUptoRow.holds Try.pinned (OpenSpec.upto fnExactFacesOfSpec)

/-- 'laws.FnExactDiceFrom', WHERE WHAT IT READS IS OF BULK AT MOST 1048576: true; the input reads as it did. -/
def fnExactDiceFromUptoRow : OpenClaim := { program := "ytgjdonadnofdlaa", sum := "bd0d3db0ece3acfcb4fb8cc3937bc09cf6e60c80110431cad050d9afcc59a881", func := "loop.example/g00886/laws.FnExactDiceFrom", spec := "fnExactDiceFrom", unfollowed := true, recurses := true, apart := false, narrowed := true }
def FnExactDiceFromUptoSaid : Prop := fnExactDiceFromUptoRow.holds Try.pinned (OpenSpec.upto fnExactDiceFromSpec)

/-- 'laws.FnExactJointSeed', WHERE WHAT IT READS IS OF BULK AT MOST 1048576: true; the input reads as it did. -/
def fnExactJointSeedUptoRow : OpenClaim := { program := "ytgjdonadnofdlaa", sum := "bd0d3db0ece3acfcb4fb8cc3937bc09cf6e60c80110431cad050d9afcc59a881", func := "loop.example/g00886/laws.FnExactJointSeed", spec := "fnExactJointSeed", unfollowed := true, recurses := true, apart := false, narrowed := true }
def FnExactJointSeedUptoSaid : Prop := fnExactJointSeedUptoRow.holds Try.pinned (OpenSpec.upto fnExactJointSeedSpec)

/-- 'laws.FnExactSealOrders', WHERE WHAT IT READS IS OF BULK AT MOST 1048576: true; the input reads as it did. -/
def fnExactSealOrdersUptoRow : OpenClaim := { program := "ytgjdonadnofdlaa", sum := "bd0d3db0ece3acfcb4fb8cc3937bc09cf6e60c80110431cad050d9afcc59a881", func := "loop.example/g00886/laws.FnExactSealOrders", spec := "fnExactSealOrders", unfollowed := true, recurses := true, apart := false, narrowed := true }
def FnExactSealOrdersUptoSaid : Prop := fnExactSealOrdersUptoRow.holds Try.pinned (OpenSpec.upto fnExactSealOrdersSpec)

/-- 'laws.FnExactShuffleBy', WHERE WHAT IT READS IS OF BULK AT MOST 1048576: true; the input reads as it did. -/
def fnExactShuffleByUptoRow : OpenClaim := { program := "ytgjdonadnofdlaa", sum := "bd0d3db0ece3acfcb4fb8cc3937bc09cf6e60c80110431cad050d9afcc59a881", func := "loop.example/g00886/laws.FnExactShuffleBy", spec := "fnExactShuffleBy", unfollowed := true, recurses := true, apart := false, narrowed := true }
def FnExactShuffleByUptoSaid : Prop := fnExactShuffleByUptoRow.holds Try.pinned (OpenSpec.upto fnExactShuffleBySpec)

/-- 'laws.FnExactOpensTo', WHERE WHAT IT READS IS OF BULK AT MOST 1048576: true; the input reads as it did. -/
def fnExactOpensToUptoRow : OpenClaim := { program := "ytgjdonadnofdlaa", sum := "bd0d3db0ece3acfcb4fb8cc3937bc09cf6e60c80110431cad050d9afcc59a881", func := "loop.example/g00886/laws.FnExactOpensTo", spec := "fnExactOpensTo", unfollowed := true, recurses := true, apart := false, narrowed := true }
def FnExactOpensToUptoSaid : Prop := fnExactOpensToUptoRow.holds Try.pinned (OpenSpec.upto fnExactOpensToSpec)

/-- 'laws.FnExactFirstBadSeal', WHERE WHAT IT READS IS OF BULK AT MOST 1048576: true; the input reads as it did. -/
def fnExactFirstBadSealUptoRow : OpenClaim := { program := "ytgjdonadnofdlaa", sum := "bd0d3db0ece3acfcb4fb8cc3937bc09cf6e60c80110431cad050d9afcc59a881", func := "loop.example/g00886/laws.FnExactFirstBadSeal", spec := "fnExactFirstBadSeal", unfollowed := true, recurses := true, apart := false, narrowed := true }
def FnExactFirstBadSealUptoSaid : Prop := fnExactFirstBadSealUptoRow.holds Try.pinned (OpenSpec.upto fnExactFirstBadSealSpec)

/-- 'laws.FnExactSealChain', WHERE WHAT IT READS IS OF BULK AT MOST 1048576: true; the input reads as it did. -/
def fnExactSealChainUptoRow : OpenClaim := { program := "ytgjdonadnofdlaa", sum := "bd0d3db0ece3acfcb4fb8cc3937bc09cf6e60c80110431cad050d9afcc59a881", func := "loop.example/g00886/laws.FnExactSealChain", spec := "fnExactSealChain", unfollowed := true, recurses := true, apart := false, narrowed := true }
def FnExactSealChainUptoSaid : Prop := fnExactSealChainUptoRow.holds Try.pinned (OpenSpec.upto fnExactSealChainSpec)

/-- 'laws.FnExactOrderOf', WHERE WHAT IT READS IS OF BULK AT MOST 1048576: true; the input reads as it did. -/
def fnExactOrderOfUptoRow : OpenClaim := { program := "ytgjdonadnofdlaa", sum := "bd0d3db0ece3acfcb4fb8cc3937bc09cf6e60c80110431cad050d9afcc59a881", func := "loop.example/g00886/laws.FnExactOrderOf", spec := "fnExactOrderOf", unfollowed := true, recurses := true, apart := false, narrowed := true }
def FnExactOrderOfUptoSaid : Prop := fnExactOrderOfUptoRow.holds Try.pinned (OpenSpec.upto fnExactOrderOfSpec)

/-- 'laws.FnExactFirstBadOpening', WHERE WHAT IT READS IS OF BULK AT MOST 1048576: true; the input reads as it did. -/
def fnExactFirstBadOpeningUptoRow : OpenClaim := { program := "ytgjdonadnofdlaa", sum := "bd0d3db0ece3acfcb4fb8cc3937bc09cf6e60c80110431cad050d9afcc59a881", func := "loop.example/g00886/laws.FnExactFirstBadOpening", spec := "fnExactFirstBadOpening", unfollowed := true, recurses := true, apart := false, narrowed := true }
def FnExactFirstBadOpeningUptoSaid : Prop := fnExactFirstBadOpeningUptoRow.holds Try.pinned (OpenSpec.upto fnExactFirstBadOpeningSpec)

end Rows
end Go.Proofs.Ytgjdonadnofdlaa
