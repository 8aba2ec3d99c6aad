/-
  DERIVED. GIVEN WITH THE SEED: THE CARDS: each row of YtijnjfcblkbdbaaGreatDoorRows.lean that lists a variable, with what it lists TIED to the program's text (the seventh form; the later family's looks); each row that meets fmt, with fmt's text TOLD by the authors' own Lean function (tested against real Go, not proved from fmt's source: count such statements apart). THE CARD IS WHAT COUNTS. Prove the row's statement (the work); the ties are given (YtijnjfcblkbdbaaGreatDoorTie.lean); close each card by the builder's one call (the guide's Derived/Test/ToyasCard.lean, 'card_holds'). Laid BY PROGRAM, IN A SANDBOX (cutbox-door.mjs). By AI agents, Wed Nov 11 2026. No macro, syntax, notation, axiom, sorry.
-/
import Derived.Test.YtijnjfcblkbdbaaGreatDoorRows
import GoSem.ClaimSeven
namespace Go.Proofs.YtijnjfcblkbdbaaGreatDoor
namespace Rows

/-- THE TIED CARD OF 'laws.FnExactDropOrder'. -/
def fnExactDropOrderCard : Claim7 := { stood := { row := fnExactDropOrderRow, standIns := [], harness := (true, "19fd29f6b2a5551c3caa9b5ba4db50ff77729e770f3c1e5e72f25afc89eec262"), looks := true }, kinds := [], alts := [], laidByText := true, laidKinds := [.data], laidTests := true, laidLooks := .later }
def FnExactDropOrderCardSaid : Prop := Claim7.holds Tryz.pinned (.plain (OpenSpec.ofChange fnExactDropOrderSpec)) fnExactDropOrderCard

/-- THE TIED CARD OF 'laws.FnExactPutOrder'. -/
def fnExactPutOrderCard : Claim7 := { stood := { row := fnExactPutOrderRow, standIns := [], harness := (true, "19fd29f6b2a5551c3caa9b5ba4db50ff77729e770f3c1e5e72f25afc89eec262"), looks := true }, kinds := [], alts := [], laidByText := true, laidKinds := [.data], laidTests := true, laidLooks := .later }
def FnExactPutOrderCardSaid : Prop := Claim7.holds Tryz.pinned (.plain (OpenSpec.ofChange fnExactPutOrderSpec)) fnExactPutOrderCard

/-- THE TIED CARD OF 'laws.FnExactSheetText'. -/
def fnExactSheetTextCard : Claim7 := { stood := { row := fnExactSheetTextRow, standIns := [], harness := (true, "19fd29f6b2a5551c3caa9b5ba4db50ff77729e770f3c1e5e72f25afc89eec262"), looks := true }, kinds := [], alts := [], laidByText := true, laidKinds := [.data, .data, .data, .data], laidTests := true, laidLooks := .later }
def FnExactSheetTextCardSaid : Prop := Claim7.holds Tryz.pinned (.plain (OpenSpec.ofChange fnExactSheetTextSpec)) fnExactSheetTextCard

/-- THE TIED CARD OF 'laws.FnExactParseSheet'. -/
def fnExactParseSheetCard : Claim7 := { stood := { row := fnExactParseSheetRow, standIns := [], harness := (true, "19fd29f6b2a5551c3caa9b5ba4db50ff77729e770f3c1e5e72f25afc89eec262"), looks := true }, kinds := [], alts := [], laidByText := true, laidKinds := [.data, .data, .data, .data, .sentinel, .sentinel, .data, .pinned], laidTests := true, laidLooks := .later }
def FnExactParseSheetCardSaid : Prop := Claim7.holds Tryz.pinned (.plain (OpenSpec.ofChange fnExactParseSheetSpec)) fnExactParseSheetCard

/-- THE TIED CARD OF 'laws.FnExactResolveMovement'. -/
def fnExactResolveMovementCard : Claim7 := { stood := { row := fnExactResolveMovementRow, standIns := [], harness := (true, "19fd29f6b2a5551c3caa9b5ba4db50ff77729e770f3c1e5e72f25afc89eec262"), looks := true }, kinds := [], alts := [], laidByText := true, laidKinds := [.data], laidTests := true, laidLooks := .later }
def FnExactResolveMovementCardSaid : Prop := Claim7.holds Tryz.pinned (.plain (OpenSpec.ofChange fnExactResolveMovementSpec)) fnExactResolveMovementCard

/-- THE SECOND FORM's CARD OF 'laws.FnExactDropOrder'. -/
def fnExactDropOrderUptoCard : Claim7 := { stood := { row := fnExactDropOrderUptoRow, standIns := [], harness := (true, "19fd29f6b2a5551c3caa9b5ba4db50ff77729e770f3c1e5e72f25afc89eec262"), looks := true }, kinds := [], alts := [], laidByText := true, laidKinds := [.data], laidTests := true, laidLooks := .later }
def FnExactDropOrderUptoCardSaid : Prop := Claim7.holds Tryz.pinned (.plain (OpenSpec.upto fnExactDropOrderSpec)) fnExactDropOrderUptoCard

/-- THE SECOND FORM's CARD OF 'laws.FnExactPutOrder'. -/
def fnExactPutOrderUptoCard : Claim7 := { stood := { row := fnExactPutOrderUptoRow, standIns := [], harness := (true, "19fd29f6b2a5551c3caa9b5ba4db50ff77729e770f3c1e5e72f25afc89eec262"), looks := true }, kinds := [], alts := [], laidByText := true, laidKinds := [.data], laidTests := true, laidLooks := .later }
def FnExactPutOrderUptoCardSaid : Prop := Claim7.holds Tryz.pinned (.plain (OpenSpec.upto fnExactPutOrderSpec)) fnExactPutOrderUptoCard

/-- THE SECOND FORM's CARD OF 'laws.FnExactSheetText'. -/
def fnExactSheetTextUptoCard : Claim7 := { stood := { row := fnExactSheetTextUptoRow, standIns := [], harness := (true, "19fd29f6b2a5551c3caa9b5ba4db50ff77729e770f3c1e5e72f25afc89eec262"), looks := true }, kinds := [], alts := [], laidByText := true, laidKinds := [.data, .data, .data, .data], laidTests := true, laidLooks := .later }
def FnExactSheetTextUptoCardSaid : Prop := Claim7.holds Tryz.pinned (.plain (OpenSpec.upto fnExactSheetTextSpec)) fnExactSheetTextUptoCard

/-- THE SECOND FORM's CARD OF 'laws.FnExactParseSheet'. -/
def fnExactParseSheetUptoCard : Claim7 := { stood := { row := fnExactParseSheetUptoRow, standIns := [], harness := (true, "19fd29f6b2a5551c3caa9b5ba4db50ff77729e770f3c1e5e72f25afc89eec262"), looks := true }, kinds := [], alts := [], laidByText := true, laidKinds := [.data, .data, .data, .data, .sentinel, .sentinel, .data, .pinned], laidTests := true, laidLooks := .later }
def FnExactParseSheetUptoCardSaid : Prop := Claim7.holds Tryz.pinned (.plain (OpenSpec.upto fnExactParseSheetSpec)) fnExactParseSheetUptoCard

/-- THE SECOND FORM's CARD OF 'laws.FnExactResolveMovement'. -/
def fnExactResolveMovementUptoCard : Claim7 := { stood := { row := fnExactResolveMovementUptoRow, standIns := [], harness := (true, "19fd29f6b2a5551c3caa9b5ba4db50ff77729e770f3c1e5e72f25afc89eec262"), looks := true }, kinds := [], alts := [], laidByText := true, laidKinds := [.data], laidTests := true, laidLooks := .later }
def FnExactResolveMovementUptoCardSaid : Prop := Claim7.holds Tryz.pinned (.plain (OpenSpec.upto fnExactResolveMovementSpec)) fnExactResolveMovementUptoCard
end Rows
end Go.Proofs.YtijnjfcblkbdbaaGreatDoor
