/-
  DERIVED. GIVEN WITH THE SEED: THE CARDS: each row of YtcknpclhcilmaaaGreatDoorRows.lean that lists a variable, with what it lists TIED to the program's text (the seventh form; the later family's looks); each row that meets fmt, with fmt's text TOLD by the authors' own Lean function (tested against real Go, not proved from fmt's source: count such statements apart). THE CARD IS WHAT COUNTS. Prove the row's statement (the work); the ties are given (YtcknpclhcilmaaaGreatDoorTie.lean); close each card by the builder's one call (the guide's Derived/Test/ToyasCard.lean, 'card_holds'). Laid BY PROGRAM, IN A SANDBOX (cutbox-door.mjs). By AI agents, Wed Nov 11 2026. No macro, syntax, notation, axiom, sorry.
-/
import Derived.Test.YtcknpclhcilmaaaGreatDoorRows
import GoSem.ClaimSeven
namespace Go.Proofs.YtcknpclhcilmaaaGreatDoor
namespace Rows

/-- THE TIED CARD OF 'laws.FnExactBattlesOf'. -/
def fnExactBattlesOfCard : Claim7 := { stood := { row := fnExactBattlesOfRow, standIns := [], harness := (true, "9ad8965301da63319929ea5c20e22a239ec19e597f77d5c3b363a9f2f9430906"), looks := false }, kinds := [], alts := [], laidByText := true, laidKinds := [.data], laidTests := true, laidLooks := .later }
def FnExactBattlesOfCardSaid : Prop := Claim7.holds Tryz.pinned (.plain (OpenSpec.ofChange fnExactBattlesOfSpec)) fnExactBattlesOfCard

/-- THE TIED CARD OF 'laws.FnExactAdvanceUnits'. -/
def fnExactAdvanceUnitsCard : Claim7 := { stood := { row := fnExactAdvanceUnitsRow, standIns := [], harness := (true, "9ad8965301da63319929ea5c20e22a239ec19e597f77d5c3b363a9f2f9430906"), looks := false }, kinds := [], alts := [], laidByText := true, laidKinds := [.data], laidTests := true, laidLooks := .later }
def FnExactAdvanceUnitsCardSaid : Prop := Claim7.holds Tryz.pinned (.plain (OpenSpec.ofChange fnExactAdvanceUnitsSpec)) fnExactAdvanceUnitsCard

/-- THE TIED CARD OF 'laws.FnExactRetreatPath'. -/
def fnExactRetreatPathCard : Claim7 := { stood := { row := fnExactRetreatPathRow, standIns := [], harness := (true, "9ad8965301da63319929ea5c20e22a239ec19e597f77d5c3b363a9f2f9430906"), looks := false }, kinds := [], alts := [], laidByText := true, laidKinds := [.data], laidTests := true, laidLooks := .later }
def FnExactRetreatPathCardSaid : Prop := Claim7.holds Tryz.pinned (.plain (OpenSpec.ofChange fnExactRetreatPathSpec)) fnExactRetreatPathCard

/-- THE TIED CARD OF 'laws.FnExactApplyResult'. -/
def fnExactApplyResultCard : Claim7 := { stood := { row := fnExactApplyResultRow, standIns := [], harness := (true, "9ad8965301da63319929ea5c20e22a239ec19e597f77d5c3b363a9f2f9430906"), looks := false }, kinds := [], alts := [], laidByText := true, laidKinds := [.data], laidTests := true, laidLooks := .later }
def FnExactApplyResultCardSaid : Prop := Claim7.holds Tryz.pinned (.plain (OpenSpec.ofChange fnExactApplyResultSpec)) fnExactApplyResultCard

/-- THE TIED CARD OF 'laws.FnExactRefusedIn'. -/
def fnExactRefusedInCard : Claim7 := { stood := { row := fnExactRefusedInRow, standIns := [], harness := (true, "9ad8965301da63319929ea5c20e22a239ec19e597f77d5c3b363a9f2f9430906"), looks := false }, kinds := [], alts := [], laidByText := true, laidKinds := [.data], laidTests := true, laidLooks := .later }
def FnExactRefusedInCardSaid : Prop := Claim7.holds Tryz.pinned (.plain (OpenSpec.ofChange fnExactRefusedInSpec)) fnExactRefusedInCard

/-- THE TIED CARD OF 'laws.FnExactAttemptsAt'. -/
def fnExactAttemptsAtCard : Claim7 := { stood := { row := fnExactAttemptsAtRow, standIns := [], harness := (true, "9ad8965301da63319929ea5c20e22a239ec19e597f77d5c3b363a9f2f9430906"), looks := false }, kinds := [], alts := [], laidByText := true, laidKinds := [.data], laidTests := true, laidLooks := .later }
def FnExactAttemptsAtCardSaid : Prop := Claim7.holds Tryz.pinned (.plain (OpenSpec.ofChange fnExactAttemptsAtSpec)) fnExactAttemptsAtCard

/-- THE TIED CARD OF 'laws.FnExactRetreatUnit'. -/
def fnExactRetreatUnitCard : Claim7 := { stood := { row := fnExactRetreatUnitRow, standIns := [], harness := (true, "9ad8965301da63319929ea5c20e22a239ec19e597f77d5c3b363a9f2f9430906"), looks := false }, kinds := [], alts := [], laidByText := true, laidKinds := [.data], laidTests := true, laidLooks := .later }
def FnExactRetreatUnitCardSaid : Prop := Claim7.holds Tryz.pinned (.plain (OpenSpec.ofChange fnExactRetreatUnitSpec)) fnExactRetreatUnitCard

/-- THE TIED CARD OF 'laws.FnExactSettleAttempts'. -/
def fnExactSettleAttemptsCard : Claim7 := { stood := { row := fnExactSettleAttemptsRow, standIns := [], harness := (true, "9ad8965301da63319929ea5c20e22a239ec19e597f77d5c3b363a9f2f9430906"), looks := false }, kinds := [], alts := [], laidByText := true, laidKinds := [.data], laidTests := true, laidLooks := .later }
def FnExactSettleAttemptsCardSaid : Prop := Claim7.holds Tryz.pinned (.plain (OpenSpec.ofChange fnExactSettleAttemptsSpec)) fnExactSettleAttemptsCard

/-- THE TIED CARD OF 'laws.FnExactDoAttempts'. -/
def fnExactDoAttemptsCard : Claim7 := { stood := { row := fnExactDoAttemptsRow, standIns := [], harness := (true, "9ad8965301da63319929ea5c20e22a239ec19e597f77d5c3b363a9f2f9430906"), looks := false }, kinds := [], alts := [], laidByText := true, laidKinds := [.data], laidTests := true, laidLooks := .later }
def FnExactDoAttemptsCardSaid : Prop := Claim7.holds Tryz.pinned (.plain (OpenSpec.ofChange fnExactDoAttemptsSpec)) fnExactDoAttemptsCard

/-- THE TIED CARD OF 'laws.FnExactAttacksOn'. -/
def fnExactAttacksOnCard : Claim7 := { stood := { row := fnExactAttacksOnRow, standIns := [], harness := (true, "9ad8965301da63319929ea5c20e22a239ec19e597f77d5c3b363a9f2f9430906"), looks := false }, kinds := [], alts := [], laidByText := true, laidKinds := [.data], laidTests := true, laidLooks := .later }
def FnExactAttacksOnCardSaid : Prop := Claim7.holds Tryz.pinned (.plain (OpenSpec.ofChange fnExactAttacksOnSpec)) fnExactAttacksOnCard

/-- THE SECOND FORM's CARD OF 'laws.FnExactBattlesOf'. -/
def fnExactBattlesOfUptoCard : Claim7 := { stood := { row := fnExactBattlesOfUptoRow, standIns := [], harness := (true, "9ad8965301da63319929ea5c20e22a239ec19e597f77d5c3b363a9f2f9430906"), looks := false }, kinds := [], alts := [], laidByText := true, laidKinds := [.data], laidTests := true, laidLooks := .later }
def FnExactBattlesOfUptoCardSaid : Prop := Claim7.holds Tryz.pinned (.plain (OpenSpec.upto fnExactBattlesOfSpec)) fnExactBattlesOfUptoCard

/-- THE SECOND FORM's CARD OF 'laws.FnExactAdvanceUnits'. -/
def fnExactAdvanceUnitsUptoCard : Claim7 := { stood := { row := fnExactAdvanceUnitsUptoRow, standIns := [], harness := (true, "9ad8965301da63319929ea5c20e22a239ec19e597f77d5c3b363a9f2f9430906"), looks := false }, kinds := [], alts := [], laidByText := true, laidKinds := [.data], laidTests := true, laidLooks := .later }
def FnExactAdvanceUnitsUptoCardSaid : Prop := Claim7.holds Tryz.pinned (.plain (OpenSpec.upto fnExactAdvanceUnitsSpec)) fnExactAdvanceUnitsUptoCard

/-- THE SECOND FORM's CARD OF 'laws.FnExactRetreatPath'. -/
def fnExactRetreatPathUptoCard : Claim7 := { stood := { row := fnExactRetreatPathUptoRow, standIns := [], harness := (true, "9ad8965301da63319929ea5c20e22a239ec19e597f77d5c3b363a9f2f9430906"), looks := false }, kinds := [], alts := [], laidByText := true, laidKinds := [.data], laidTests := true, laidLooks := .later }
def FnExactRetreatPathUptoCardSaid : Prop := Claim7.holds Tryz.pinned (.plain (OpenSpec.upto fnExactRetreatPathSpec)) fnExactRetreatPathUptoCard

/-- THE SECOND FORM's CARD OF 'laws.FnExactApplyResult'. -/
def fnExactApplyResultUptoCard : Claim7 := { stood := { row := fnExactApplyResultUptoRow, standIns := [], harness := (true, "9ad8965301da63319929ea5c20e22a239ec19e597f77d5c3b363a9f2f9430906"), looks := false }, kinds := [], alts := [], laidByText := true, laidKinds := [.data], laidTests := true, laidLooks := .later }
def FnExactApplyResultUptoCardSaid : Prop := Claim7.holds Tryz.pinned (.plain (OpenSpec.upto fnExactApplyResultSpec)) fnExactApplyResultUptoCard

/-- THE SECOND FORM's CARD OF 'laws.FnExactRefusedIn'. -/
def fnExactRefusedInUptoCard : Claim7 := { stood := { row := fnExactRefusedInUptoRow, standIns := [], harness := (true, "9ad8965301da63319929ea5c20e22a239ec19e597f77d5c3b363a9f2f9430906"), looks := false }, kinds := [], alts := [], laidByText := true, laidKinds := [.data], laidTests := true, laidLooks := .later }
def FnExactRefusedInUptoCardSaid : Prop := Claim7.holds Tryz.pinned (.plain (OpenSpec.upto fnExactRefusedInSpec)) fnExactRefusedInUptoCard

/-- THE SECOND FORM's CARD OF 'laws.FnExactAttemptsAt'. -/
def fnExactAttemptsAtUptoCard : Claim7 := { stood := { row := fnExactAttemptsAtUptoRow, standIns := [], harness := (true, "9ad8965301da63319929ea5c20e22a239ec19e597f77d5c3b363a9f2f9430906"), looks := false }, kinds := [], alts := [], laidByText := true, laidKinds := [.data], laidTests := true, laidLooks := .later }
def FnExactAttemptsAtUptoCardSaid : Prop := Claim7.holds Tryz.pinned (.plain (OpenSpec.upto fnExactAttemptsAtSpec)) fnExactAttemptsAtUptoCard

/-- THE SECOND FORM's CARD OF 'laws.FnExactRetreatUnit'. -/
def fnExactRetreatUnitUptoCard : Claim7 := { stood := { row := fnExactRetreatUnitUptoRow, standIns := [], harness := (true, "9ad8965301da63319929ea5c20e22a239ec19e597f77d5c3b363a9f2f9430906"), looks := false }, kinds := [], alts := [], laidByText := true, laidKinds := [.data], laidTests := true, laidLooks := .later }
def FnExactRetreatUnitUptoCardSaid : Prop := Claim7.holds Tryz.pinned (.plain (OpenSpec.upto fnExactRetreatUnitSpec)) fnExactRetreatUnitUptoCard

/-- THE SECOND FORM's CARD OF 'laws.FnExactSettleAttempts'. -/
def fnExactSettleAttemptsUptoCard : Claim7 := { stood := { row := fnExactSettleAttemptsUptoRow, standIns := [], harness := (true, "9ad8965301da63319929ea5c20e22a239ec19e597f77d5c3b363a9f2f9430906"), looks := false }, kinds := [], alts := [], laidByText := true, laidKinds := [.data], laidTests := true, laidLooks := .later }
def FnExactSettleAttemptsUptoCardSaid : Prop := Claim7.holds Tryz.pinned (.plain (OpenSpec.upto fnExactSettleAttemptsSpec)) fnExactSettleAttemptsUptoCard

/-- THE SECOND FORM's CARD OF 'laws.FnExactDoAttempts'. -/
def fnExactDoAttemptsUptoCard : Claim7 := { stood := { row := fnExactDoAttemptsUptoRow, standIns := [], harness := (true, "9ad8965301da63319929ea5c20e22a239ec19e597f77d5c3b363a9f2f9430906"), looks := false }, kinds := [], alts := [], laidByText := true, laidKinds := [.data], laidTests := true, laidLooks := .later }
def FnExactDoAttemptsUptoCardSaid : Prop := Claim7.holds Tryz.pinned (.plain (OpenSpec.upto fnExactDoAttemptsSpec)) fnExactDoAttemptsUptoCard

/-- THE SECOND FORM's CARD OF 'laws.FnExactAttacksOn'. -/
def fnExactAttacksOnUptoCard : Claim7 := { stood := { row := fnExactAttacksOnUptoRow, standIns := [], harness := (true, "9ad8965301da63319929ea5c20e22a239ec19e597f77d5c3b363a9f2f9430906"), looks := false }, kinds := [], alts := [], laidByText := true, laidKinds := [.data], laidTests := true, laidLooks := .later }
def FnExactAttacksOnUptoCardSaid : Prop := Claim7.holds Tryz.pinned (.plain (OpenSpec.upto fnExactAttacksOnSpec)) fnExactAttacksOnUptoCard
end Rows
end Go.Proofs.YtcknpclhcilmaaaGreatDoor
