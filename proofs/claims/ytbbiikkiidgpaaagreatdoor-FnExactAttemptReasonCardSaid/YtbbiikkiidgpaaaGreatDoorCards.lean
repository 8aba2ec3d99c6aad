/-
  DERIVED. GIVEN WITH THE SEED: THE CARDS: each row of YtbbiikkiidgpaaaGreatDoorRows.lean that lists a variable, with what it lists TIED to the program's text (the seventh form; the later family's looks); each row that meets fmt, with fmt's text TOLD by the authors' own Lean function (tested against real Go, not proved from fmt's source: count such statements apart). THE CARD IS WHAT COUNTS. Prove the row's statement (the work); the ties are given (YtbbiikkiidgpaaaGreatDoorTie.lean); close each card by the builder's one call (the guide's Derived/Test/ToyasCard.lean, 'card_holds'). Laid BY PROGRAM, IN A SANDBOX (cutbox-door.mjs). By AI agents, Wed Nov 11 2026. No macro, syntax, notation, axiom, sorry.
-/
import Derived.Test.YtbbiikkiidgpaaaGreatDoorRows
import GoSem.ClaimSeven
namespace Go.Proofs.YtbbiikkiidgpaaaGreatDoor
namespace Rows

/-- THE TIED CARD OF 'laws.FnExactOrderFault'. -/
def fnExactOrderFaultCard : Claim7 := { stood := { row := fnExactOrderFaultRow, standIns := [], harness := (true, "1a43cb89a855eed26cb07d0eddd20640aa959a4192edcb9c30eab0a041f06fa6"), looks := false }, kinds := [], alts := [], laidByText := true, laidKinds := [.data], laidTests := true, laidLooks := .later }
def FnExactOrderFaultCardSaid : Prop := Claim7.holds Tryz.pinned (.plain (OpenSpec.ofChange fnExactOrderFaultSpec)) fnExactOrderFaultCard

/-- THE TIED CARD OF 'laws.FnExactEndOf'. -/
def fnExactEndOfCard : Claim7 := { stood := { row := fnExactEndOfRow, standIns := [], harness := (true, "1a43cb89a855eed26cb07d0eddd20640aa959a4192edcb9c30eab0a041f06fa6"), looks := false }, kinds := [], alts := [], laidByText := true, laidKinds := [.data], laidTests := true, laidLooks := .later }
def FnExactEndOfCardSaid : Prop := Claim7.holds Tryz.pinned (.plain (OpenSpec.ofChange fnExactEndOfSpec)) fnExactEndOfCard

/-- THE TIED CARD OF 'laws.FnExactAttemptReason'. -/
def fnExactAttemptReasonCard : Claim7 := { stood := { row := fnExactAttemptReasonRow, standIns := [], harness := (true, "1a43cb89a855eed26cb07d0eddd20640aa959a4192edcb9c30eab0a041f06fa6"), looks := false }, kinds := [], alts := [], laidByText := true, laidKinds := [.data], laidTests := true, laidLooks := .later }
def FnExactAttemptReasonCardSaid : Prop := Claim7.holds Tryz.pinned (.plain (OpenSpec.ofChange fnExactAttemptReasonSpec)) fnExactAttemptReasonCard

/-- THE TIED CARD OF 'laws.FnExactOrderCost'. -/
def fnExactOrderCostCard : Claim7 := { stood := { row := fnExactOrderCostRow, standIns := [], harness := (true, "1a43cb89a855eed26cb07d0eddd20640aa959a4192edcb9c30eab0a041f06fa6"), looks := false }, kinds := [], alts := [], laidByText := true, laidKinds := [.data], laidTests := true, laidLooks := .later }
def FnExactOrderCostCardSaid : Prop := Claim7.holds Tryz.pinned (.plain (OpenSpec.ofChange fnExactOrderCostSpec)) fnExactOrderCostCard

/-- THE TIED CARD OF 'laws.FnExactBattleLosses'. -/
def fnExactBattleLossesCard : Claim7 := { stood := { row := fnExactBattleLossesRow, standIns := [], harness := (true, "1a43cb89a855eed26cb07d0eddd20640aa959a4192edcb9c30eab0a041f06fa6"), looks := false }, kinds := [], alts := [], laidByText := true, laidKinds := [.data], laidTests := true, laidLooks := .later }
def FnExactBattleLossesCardSaid : Prop := Claim7.holds Tryz.pinned (.plain (OpenSpec.ofChange fnExactBattleLossesSpec)) fnExactBattleLossesCard

/-- THE TIED CARD OF 'laws.FnExactSheetFault'. -/
def fnExactSheetFaultCard : Claim7 := { stood := { row := fnExactSheetFaultRow, standIns := [], harness := (true, "1a43cb89a855eed26cb07d0eddd20640aa959a4192edcb9c30eab0a041f06fa6"), looks := false }, kinds := [], alts := [], laidByText := true, laidKinds := [.data], laidTests := true, laidLooks := .later }
def FnExactSheetFaultCardSaid : Prop := Claim7.holds Tryz.pinned (.plain (OpenSpec.ofChange fnExactSheetFaultSpec)) fnExactSheetFaultCard

/-- THE TIED CARD OF 'laws.FnExactIsSheet'. -/
def fnExactIsSheetCard : Claim7 := { stood := { row := fnExactIsSheetRow, standIns := [], harness := (true, "1a43cb89a855eed26cb07d0eddd20640aa959a4192edcb9c30eab0a041f06fa6"), looks := false }, kinds := [], alts := [], laidByText := true, laidKinds := [.data], laidTests := true, laidLooks := .later }
def FnExactIsSheetCardSaid : Prop := Claim7.holds Tryz.pinned (.plain (OpenSpec.ofChange fnExactIsSheetSpec)) fnExactIsSheetCard

/-- THE TIED CARD OF 'laws.FnExactBattleColumn'. -/
def fnExactBattleColumnCard : Claim7 := { stood := { row := fnExactBattleColumnRow, standIns := [], harness := (true, "1a43cb89a855eed26cb07d0eddd20640aa959a4192edcb9c30eab0a041f06fa6"), looks := false }, kinds := [], alts := [], laidByText := true, laidKinds := [.data], laidTests := true, laidLooks := .later }
def FnExactBattleColumnCardSaid : Prop := Claim7.holds Tryz.pinned (.plain (OpenSpec.ofChange fnExactBattleColumnSpec)) fnExactBattleColumnCard

/-- THE TIED CARD OF 'laws.FnExactBattleResult'. -/
def fnExactBattleResultCard : Claim7 := { stood := { row := fnExactBattleResultRow, standIns := [], harness := (true, "1a43cb89a855eed26cb07d0eddd20640aa959a4192edcb9c30eab0a041f06fa6"), looks := false }, kinds := [], alts := [], laidByText := true, laidKinds := [.data], laidTests := true, laidLooks := .later }
def FnExactBattleResultCardSaid : Prop := Claim7.holds Tryz.pinned (.plain (OpenSpec.ofChange fnExactBattleResultSpec)) fnExactBattleResultCard

/-- THE SECOND FORM's CARD OF 'laws.FnExactOrderFault'. -/
def fnExactOrderFaultUptoCard : Claim7 := { stood := { row := fnExactOrderFaultUptoRow, standIns := [], harness := (true, "1a43cb89a855eed26cb07d0eddd20640aa959a4192edcb9c30eab0a041f06fa6"), looks := false }, kinds := [], alts := [], laidByText := true, laidKinds := [.data], laidTests := true, laidLooks := .later }
def FnExactOrderFaultUptoCardSaid : Prop := Claim7.holds Tryz.pinned (.plain (OpenSpec.upto fnExactOrderFaultSpec)) fnExactOrderFaultUptoCard

/-- THE SECOND FORM's CARD OF 'laws.FnExactEndOf'. -/
def fnExactEndOfUptoCard : Claim7 := { stood := { row := fnExactEndOfUptoRow, standIns := [], harness := (true, "1a43cb89a855eed26cb07d0eddd20640aa959a4192edcb9c30eab0a041f06fa6"), looks := false }, kinds := [], alts := [], laidByText := true, laidKinds := [.data], laidTests := true, laidLooks := .later }
def FnExactEndOfUptoCardSaid : Prop := Claim7.holds Tryz.pinned (.plain (OpenSpec.upto fnExactEndOfSpec)) fnExactEndOfUptoCard

/-- THE SECOND FORM's CARD OF 'laws.FnExactAttemptReason'. -/
def fnExactAttemptReasonUptoCard : Claim7 := { stood := { row := fnExactAttemptReasonUptoRow, standIns := [], harness := (true, "1a43cb89a855eed26cb07d0eddd20640aa959a4192edcb9c30eab0a041f06fa6"), looks := false }, kinds := [], alts := [], laidByText := true, laidKinds := [.data], laidTests := true, laidLooks := .later }
def FnExactAttemptReasonUptoCardSaid : Prop := Claim7.holds Tryz.pinned (.plain (OpenSpec.upto fnExactAttemptReasonSpec)) fnExactAttemptReasonUptoCard

/-- THE SECOND FORM's CARD OF 'laws.FnExactOrderCost'. -/
def fnExactOrderCostUptoCard : Claim7 := { stood := { row := fnExactOrderCostUptoRow, standIns := [], harness := (true, "1a43cb89a855eed26cb07d0eddd20640aa959a4192edcb9c30eab0a041f06fa6"), looks := false }, kinds := [], alts := [], laidByText := true, laidKinds := [.data], laidTests := true, laidLooks := .later }
def FnExactOrderCostUptoCardSaid : Prop := Claim7.holds Tryz.pinned (.plain (OpenSpec.upto fnExactOrderCostSpec)) fnExactOrderCostUptoCard

/-- THE SECOND FORM's CARD OF 'laws.FnExactBattleLosses'. -/
def fnExactBattleLossesUptoCard : Claim7 := { stood := { row := fnExactBattleLossesUptoRow, standIns := [], harness := (true, "1a43cb89a855eed26cb07d0eddd20640aa959a4192edcb9c30eab0a041f06fa6"), looks := false }, kinds := [], alts := [], laidByText := true, laidKinds := [.data], laidTests := true, laidLooks := .later }
def FnExactBattleLossesUptoCardSaid : Prop := Claim7.holds Tryz.pinned (.plain (OpenSpec.upto fnExactBattleLossesSpec)) fnExactBattleLossesUptoCard

/-- THE SECOND FORM's CARD OF 'laws.FnExactSheetFault'. -/
def fnExactSheetFaultUptoCard : Claim7 := { stood := { row := fnExactSheetFaultUptoRow, standIns := [], harness := (true, "1a43cb89a855eed26cb07d0eddd20640aa959a4192edcb9c30eab0a041f06fa6"), looks := false }, kinds := [], alts := [], laidByText := true, laidKinds := [.data], laidTests := true, laidLooks := .later }
def FnExactSheetFaultUptoCardSaid : Prop := Claim7.holds Tryz.pinned (.plain (OpenSpec.upto fnExactSheetFaultSpec)) fnExactSheetFaultUptoCard

/-- THE SECOND FORM's CARD OF 'laws.FnExactIsSheet'. -/
def fnExactIsSheetUptoCard : Claim7 := { stood := { row := fnExactIsSheetUptoRow, standIns := [], harness := (true, "1a43cb89a855eed26cb07d0eddd20640aa959a4192edcb9c30eab0a041f06fa6"), looks := false }, kinds := [], alts := [], laidByText := true, laidKinds := [.data], laidTests := true, laidLooks := .later }
def FnExactIsSheetUptoCardSaid : Prop := Claim7.holds Tryz.pinned (.plain (OpenSpec.upto fnExactIsSheetSpec)) fnExactIsSheetUptoCard

/-- THE SECOND FORM's CARD OF 'laws.FnExactBattleColumn'. -/
def fnExactBattleColumnUptoCard : Claim7 := { stood := { row := fnExactBattleColumnUptoRow, standIns := [], harness := (true, "1a43cb89a855eed26cb07d0eddd20640aa959a4192edcb9c30eab0a041f06fa6"), looks := false }, kinds := [], alts := [], laidByText := true, laidKinds := [.data], laidTests := true, laidLooks := .later }
def FnExactBattleColumnUptoCardSaid : Prop := Claim7.holds Tryz.pinned (.plain (OpenSpec.upto fnExactBattleColumnSpec)) fnExactBattleColumnUptoCard

/-- THE SECOND FORM's CARD OF 'laws.FnExactBattleResult'. -/
def fnExactBattleResultUptoCard : Claim7 := { stood := { row := fnExactBattleResultUptoRow, standIns := [], harness := (true, "1a43cb89a855eed26cb07d0eddd20640aa959a4192edcb9c30eab0a041f06fa6"), looks := false }, kinds := [], alts := [], laidByText := true, laidKinds := [.data], laidTests := true, laidLooks := .later }
def FnExactBattleResultUptoCardSaid : Prop := Claim7.holds Tryz.pinned (.plain (OpenSpec.upto fnExactBattleResultSpec)) fnExactBattleResultUptoCard
end Rows
end Go.Proofs.YtbbiikkiidgpaaaGreatDoor
