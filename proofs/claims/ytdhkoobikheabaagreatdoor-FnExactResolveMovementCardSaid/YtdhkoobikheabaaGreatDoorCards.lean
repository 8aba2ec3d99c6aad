/-
  DERIVED. GIVEN WITH THE SEED: THE CARDS: each row of YtdhkoobikheabaaGreatDoorRows.lean that lists a variable, with what it lists TIED to the program's text (the seventh form; the later family's looks); each row that meets fmt, with fmt's text TOLD by the authors' own Lean function (tested against real Go, not proved from fmt's source: count such statements apart). THE CARD IS WHAT COUNTS. Prove the row's statement (the work); the ties are given (YtdhkoobikheabaaGreatDoorTie.lean); close each card by the builder's one call (the guide's Derived/Test/ToyasCard.lean, 'card_holds'). Laid BY PROGRAM, IN A SANDBOX (cutbox-door.mjs). By AI agents, Wed Nov 11 2026. No macro, syntax, notation, axiom, sorry.
-/
import Derived.Test.YtdhkoobikheabaaGreatDoorRows
import GoSem.ClaimSeven
namespace Go.Proofs.YtdhkoobikheabaaGreatDoor
namespace Rows

/-- THE TIED CARD OF 'laws.FnExactResolveMovement'. -/
def fnExactResolveMovementCard : Claim7 := { stood := { row := fnExactResolveMovementRow, standIns := [], harness := (true, "52f1d8116fe7969d4da4f3721d05c97f0b236f41f85db5a7c31d02b7dd24265c"), looks := false }, kinds := [], alts := [], laidByText := true, laidKinds := [.data], laidTests := true, laidLooks := .later }
def FnExactResolveMovementCardSaid : Prop := Claim7.holds Tryz.pinned (.plain (OpenSpec.ofChange fnExactResolveMovementSpec)) fnExactResolveMovementCard

/-- THE SECOND FORM's CARD OF 'laws.FnExactResolveMovement'. -/
def fnExactResolveMovementUptoCard : Claim7 := { stood := { row := fnExactResolveMovementUptoRow, standIns := [], harness := (true, "52f1d8116fe7969d4da4f3721d05c97f0b236f41f85db5a7c31d02b7dd24265c"), looks := false }, kinds := [], alts := [], laidByText := true, laidKinds := [.data], laidTests := true, laidLooks := .later }
def FnExactResolveMovementUptoCardSaid : Prop := Claim7.holds Tryz.pinned (.plain (OpenSpec.upto fnExactResolveMovementSpec)) fnExactResolveMovementUptoCard
end Rows
end Go.Proofs.YtdhkoobikheabaaGreatDoor
