/-
  DERIVED. GIVEN WITH THE SEED: THE CARDS: each row of YtpinnkfbanecdaaGreatDoorRows.lean that lists a variable, with what it lists TIED to the program's text (the seventh form; the later family's looks); each row that meets fmt, with fmt's text TOLD by the authors' own Lean function (tested against real Go, not proved from fmt's source: count such statements apart). THE CARD IS WHAT COUNTS. Prove the row's statement (the work); the ties are given (YtpinnkfbanecdaaGreatDoorTie.lean); close each card by the builder's one call (the guide's Derived/Test/ToyasCard.lean, 'card_holds'). Laid BY PROGRAM, IN A SANDBOX (cutbox-door.mjs). By AI agents, Wed Nov 11 2026. No macro, syntax, notation, axiom, sorry.
-/
import Derived.Test.YtpinnkfbanecdaaGreatDoorRows
import GoSem.ClaimSeven
namespace Go.Proofs.YtpinnkfbanecdaaGreatDoor
namespace Rows

/-- THE TIED CARD OF 'laws.FnExactZoneReason'. -/
def fnExactZoneReasonCard : Claim7 := { stood := { row := fnExactZoneReasonRow, standIns := [], harness := (true, "9e6f49d8b5fa33e27040df9f0dbf5aceb074f05a3ece7cbe875b97f9957c972f"), looks := false }, kinds := [], alts := [], laidByText := true, laidKinds := [.data], laidTests := true, laidLooks := .later }
def FnExactZoneReasonCardSaid : Prop := Claim7.holds Tryz.pinned (.plain (OpenSpec.ofChange fnExactZoneReasonSpec)) fnExactZoneReasonCard

/-- THE TIED CARD OF 'laws.FnExactCanAdvance'. -/
def fnExactCanAdvanceCard : Claim7 := { stood := { row := fnExactCanAdvanceRow, standIns := [], harness := (true, "9e6f49d8b5fa33e27040df9f0dbf5aceb074f05a3ece7cbe875b97f9957c972f"), looks := false }, kinds := [], alts := [], laidByText := true, laidKinds := [.data], laidTests := true, laidLooks := .later }
def FnExactCanAdvanceCardSaid : Prop := Claim7.holds Tryz.pinned (.plain (OpenSpec.ofChange fnExactCanAdvanceSpec)) fnExactCanAdvanceCard

/-- THE TIED CARD OF 'laws.FnExactDefenceStrength'. -/
def fnExactDefenceStrengthCard : Claim7 := { stood := { row := fnExactDefenceStrengthRow, standIns := [], harness := (true, "9e6f49d8b5fa33e27040df9f0dbf5aceb074f05a3ece7cbe875b97f9957c972f"), looks := false }, kinds := [], alts := [], laidByText := true, laidKinds := [.data], laidTests := true, laidLooks := .later }
def FnExactDefenceStrengthCardSaid : Prop := Claim7.holds Tryz.pinned (.plain (OpenSpec.ofChange fnExactDefenceStrengthSpec)) fnExactDefenceStrengthCard

/-- THE TIED CARD OF 'laws.FnExactBattleShift'. -/
def fnExactBattleShiftCard : Claim7 := { stood := { row := fnExactBattleShiftRow, standIns := [], harness := (true, "9e6f49d8b5fa33e27040df9f0dbf5aceb074f05a3ece7cbe875b97f9957c972f"), looks := false }, kinds := [], alts := [], laidByText := true, laidKinds := [.data], laidTests := true, laidLooks := .later }
def FnExactBattleShiftCardSaid : Prop := Claim7.holds Tryz.pinned (.plain (OpenSpec.ofChange fnExactBattleShiftSpec)) fnExactBattleShiftCard

/-- THE TIED CARD OF 'laws.FnExactIsAttempts'. -/
def fnExactIsAttemptsCard : Claim7 := { stood := { row := fnExactIsAttemptsRow, standIns := [], harness := (true, "9e6f49d8b5fa33e27040df9f0dbf5aceb074f05a3ece7cbe875b97f9957c972f"), looks := false }, kinds := [], alts := [], laidByText := true, laidKinds := [.data], laidTests := true, laidLooks := .later }
def FnExactIsAttemptsCardSaid : Prop := Claim7.holds Tryz.pinned (.plain (OpenSpec.ofChange fnExactIsAttemptsSpec)) fnExactIsAttemptsCard

/-- THE TIED CARD OF 'laws.FnExactAttackStrength'. -/
def fnExactAttackStrengthCard : Claim7 := { stood := { row := fnExactAttackStrengthRow, standIns := [], harness := (true, "9e6f49d8b5fa33e27040df9f0dbf5aceb074f05a3ece7cbe875b97f9957c972f"), looks := false }, kinds := [], alts := [], laidByText := true, laidKinds := [.data], laidTests := true, laidLooks := .later }
def FnExactAttackStrengthCardSaid : Prop := Claim7.holds Tryz.pinned (.plain (OpenSpec.ofChange fnExactAttackStrengthSpec)) fnExactAttackStrengthCard

/-- THE TIED CARD OF 'laws.FnExactIsTrapped'. -/
def fnExactIsTrappedCard : Claim7 := { stood := { row := fnExactIsTrappedRow, standIns := [], harness := (true, "9e6f49d8b5fa33e27040df9f0dbf5aceb074f05a3ece7cbe875b97f9957c972f"), looks := false }, kinds := [], alts := [], laidByText := true, laidKinds := [.data], laidTests := true, laidLooks := .later }
def FnExactIsTrappedCardSaid : Prop := Claim7.holds Tryz.pinned (.plain (OpenSpec.ofChange fnExactIsTrappedSpec)) fnExactIsTrappedCard

/-- THE TIED CARD OF 'laws.FnExactCountRetreats'. -/
def fnExactCountRetreatsCard : Claim7 := { stood := { row := fnExactCountRetreatsRow, standIns := [], harness := (true, "9e6f49d8b5fa33e27040df9f0dbf5aceb074f05a3ece7cbe875b97f9957c972f"), looks := false }, kinds := [], alts := [], laidByText := true, laidKinds := [.data], laidTests := true, laidLooks := .later }
def FnExactCountRetreatsCardSaid : Prop := Claim7.holds Tryz.pinned (.plain (OpenSpec.ofChange fnExactCountRetreatsSpec)) fnExactCountRetreatsCard

/-- THE TIED CARD OF 'laws.FnExactRetreatSteps'. -/
def fnExactRetreatStepsCard : Claim7 := { stood := { row := fnExactRetreatStepsRow, standIns := [], harness := (true, "9e6f49d8b5fa33e27040df9f0dbf5aceb074f05a3ece7cbe875b97f9957c972f"), looks := false }, kinds := [], alts := [], laidByText := true, laidKinds := [.data], laidTests := true, laidLooks := .later }
def FnExactRetreatStepsCardSaid : Prop := Claim7.holds Tryz.pinned (.plain (OpenSpec.ofChange fnExactRetreatStepsSpec)) fnExactRetreatStepsCard

/-- THE SECOND FORM's CARD OF 'laws.FnExactZoneReason'. -/
def fnExactZoneReasonUptoCard : Claim7 := { stood := { row := fnExactZoneReasonUptoRow, standIns := [], harness := (true, "9e6f49d8b5fa33e27040df9f0dbf5aceb074f05a3ece7cbe875b97f9957c972f"), looks := false }, kinds := [], alts := [], laidByText := true, laidKinds := [.data], laidTests := true, laidLooks := .later }
def FnExactZoneReasonUptoCardSaid : Prop := Claim7.holds Tryz.pinned (.plain (OpenSpec.upto fnExactZoneReasonSpec)) fnExactZoneReasonUptoCard

/-- THE SECOND FORM's CARD OF 'laws.FnExactCanAdvance'. -/
def fnExactCanAdvanceUptoCard : Claim7 := { stood := { row := fnExactCanAdvanceUptoRow, standIns := [], harness := (true, "9e6f49d8b5fa33e27040df9f0dbf5aceb074f05a3ece7cbe875b97f9957c972f"), looks := false }, kinds := [], alts := [], laidByText := true, laidKinds := [.data], laidTests := true, laidLooks := .later }
def FnExactCanAdvanceUptoCardSaid : Prop := Claim7.holds Tryz.pinned (.plain (OpenSpec.upto fnExactCanAdvanceSpec)) fnExactCanAdvanceUptoCard

/-- THE SECOND FORM's CARD OF 'laws.FnExactDefenceStrength'. -/
def fnExactDefenceStrengthUptoCard : Claim7 := { stood := { row := fnExactDefenceStrengthUptoRow, standIns := [], harness := (true, "9e6f49d8b5fa33e27040df9f0dbf5aceb074f05a3ece7cbe875b97f9957c972f"), looks := false }, kinds := [], alts := [], laidByText := true, laidKinds := [.data], laidTests := true, laidLooks := .later }
def FnExactDefenceStrengthUptoCardSaid : Prop := Claim7.holds Tryz.pinned (.plain (OpenSpec.upto fnExactDefenceStrengthSpec)) fnExactDefenceStrengthUptoCard

/-- THE SECOND FORM's CARD OF 'laws.FnExactBattleShift'. -/
def fnExactBattleShiftUptoCard : Claim7 := { stood := { row := fnExactBattleShiftUptoRow, standIns := [], harness := (true, "9e6f49d8b5fa33e27040df9f0dbf5aceb074f05a3ece7cbe875b97f9957c972f"), looks := false }, kinds := [], alts := [], laidByText := true, laidKinds := [.data], laidTests := true, laidLooks := .later }
def FnExactBattleShiftUptoCardSaid : Prop := Claim7.holds Tryz.pinned (.plain (OpenSpec.upto fnExactBattleShiftSpec)) fnExactBattleShiftUptoCard

/-- THE SECOND FORM's CARD OF 'laws.FnExactIsAttempts'. -/
def fnExactIsAttemptsUptoCard : Claim7 := { stood := { row := fnExactIsAttemptsUptoRow, standIns := [], harness := (true, "9e6f49d8b5fa33e27040df9f0dbf5aceb074f05a3ece7cbe875b97f9957c972f"), looks := false }, kinds := [], alts := [], laidByText := true, laidKinds := [.data], laidTests := true, laidLooks := .later }
def FnExactIsAttemptsUptoCardSaid : Prop := Claim7.holds Tryz.pinned (.plain (OpenSpec.upto fnExactIsAttemptsSpec)) fnExactIsAttemptsUptoCard

/-- THE SECOND FORM's CARD OF 'laws.FnExactAttackStrength'. -/
def fnExactAttackStrengthUptoCard : Claim7 := { stood := { row := fnExactAttackStrengthUptoRow, standIns := [], harness := (true, "9e6f49d8b5fa33e27040df9f0dbf5aceb074f05a3ece7cbe875b97f9957c972f"), looks := false }, kinds := [], alts := [], laidByText := true, laidKinds := [.data], laidTests := true, laidLooks := .later }
def FnExactAttackStrengthUptoCardSaid : Prop := Claim7.holds Tryz.pinned (.plain (OpenSpec.upto fnExactAttackStrengthSpec)) fnExactAttackStrengthUptoCard

/-- THE SECOND FORM's CARD OF 'laws.FnExactIsTrapped'. -/
def fnExactIsTrappedUptoCard : Claim7 := { stood := { row := fnExactIsTrappedUptoRow, standIns := [], harness := (true, "9e6f49d8b5fa33e27040df9f0dbf5aceb074f05a3ece7cbe875b97f9957c972f"), looks := false }, kinds := [], alts := [], laidByText := true, laidKinds := [.data], laidTests := true, laidLooks := .later }
def FnExactIsTrappedUptoCardSaid : Prop := Claim7.holds Tryz.pinned (.plain (OpenSpec.upto fnExactIsTrappedSpec)) fnExactIsTrappedUptoCard

/-- THE SECOND FORM's CARD OF 'laws.FnExactCountRetreats'. -/
def fnExactCountRetreatsUptoCard : Claim7 := { stood := { row := fnExactCountRetreatsUptoRow, standIns := [], harness := (true, "9e6f49d8b5fa33e27040df9f0dbf5aceb074f05a3ece7cbe875b97f9957c972f"), looks := false }, kinds := [], alts := [], laidByText := true, laidKinds := [.data], laidTests := true, laidLooks := .later }
def FnExactCountRetreatsUptoCardSaid : Prop := Claim7.holds Tryz.pinned (.plain (OpenSpec.upto fnExactCountRetreatsSpec)) fnExactCountRetreatsUptoCard

/-- THE SECOND FORM's CARD OF 'laws.FnExactRetreatSteps'. -/
def fnExactRetreatStepsUptoCard : Claim7 := { stood := { row := fnExactRetreatStepsUptoRow, standIns := [], harness := (true, "9e6f49d8b5fa33e27040df9f0dbf5aceb074f05a3ece7cbe875b97f9957c972f"), looks := false }, kinds := [], alts := [], laidByText := true, laidKinds := [.data], laidTests := true, laidLooks := .later }
def FnExactRetreatStepsUptoCardSaid : Prop := Claim7.holds Tryz.pinned (.plain (OpenSpec.upto fnExactRetreatStepsSpec)) fnExactRetreatStepsUptoCard
end Rows
end Go.Proofs.YtpinnkfbanecdaaGreatDoor
