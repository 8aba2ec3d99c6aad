/-
  DERIVED. GIVEN WITH THE SEED: THE CARDS: each row of YtpinnkfbanecdaaDoorRows.lean that lists a variable, with what it lists TIED to the program's text (the seventh form; the later family's looks); each row that meets fmt, with fmt's text TOLD by the authors' own Lean function (tested against real Go, not proved from fmt's source: count such statements apart). THE CARD IS WHAT COUNTS. Prove the row's statement (the work); the ties are given (YtpinnkfbanecdaaDoorTie.lean); close each card by the builder's one call (the guide's Derived/Test/ToyasCard.lean, 'card_holds'). Laid BY PROGRAM, IN A SANDBOX (cutbox-door.mjs). By AI agents, Wed Nov 11 2026. No macro, syntax, notation, axiom, sorry.
-/
import Derived.Test.YtpinnkfbanecdaaDoorRows
import GoSem.ClaimSeven
namespace Go.Proofs.YtpinnkfbanecdaaDoor
namespace Rows

/-- THE TIED CARD OF 'laws.FnExactIsBattle'. -/
def fnExactIsBattleCard : Claim7 := { stood := { row := fnExactIsBattleRow, standIns := [], harness := (true, "19ca554cb2f125c84fc69e037d01e5d472854a8346c99dccc838c73c5e07f7b1"), looks := false }, kinds := [], alts := [], laidByText := true, laidKinds := [.data], laidTests := true, laidLooks := .later }
def FnExactIsBattleCardSaid : Prop := Claim7.holds Tryd.pinned (.plain (OpenSpec.ofChange fnExactIsBattleSpec)) fnExactIsBattleCard

/-- THE SECOND FORM's CARD OF 'laws.FnExactIsBattle'. -/
def fnExactIsBattleUptoCard : Claim7 := { stood := { row := fnExactIsBattleUptoRow, standIns := [], harness := (true, "19ca554cb2f125c84fc69e037d01e5d472854a8346c99dccc838c73c5e07f7b1"), looks := false }, kinds := [], alts := [], laidByText := true, laidKinds := [.data], laidTests := true, laidLooks := .later }
def FnExactIsBattleUptoCardSaid : Prop := Claim7.holds Tryd.pinned (.plain (OpenSpec.upto fnExactIsBattleSpec)) fnExactIsBattleUptoCard
end Rows
end Go.Proofs.YtpinnkfbanecdaaDoor
