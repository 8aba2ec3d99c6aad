import Derived.Test.YtijnjfcblkbdbaaGreatDoorB5
set_option linter.unusedSimpArgs false
set_option linter.unusedVariables false
set_option maxRecDepth 100000
set_option maxHeartbeats 2000000
namespace Go.Abs.W
open Go Go.Abs Classical
attribute [-simp] Bool.decide_and
structure Sealed where
  turn : Int
  side : Int
  code : Int
def Sealed.enc (x : Sealed) : List D := [.int .i64 x.turn, .int .i64 x.side, .int .i64 x.code]
abbrev SealedV (x : Sealed) : AV := .val (.agg x.enc)
def SealedOK (x : Sealed) : Prop := (0 ≤ x.turn ∧ x.turn ≤ 30) ∧ (0 ≤ x.side ∧ x.side ≤ 1) ∧ 0 ≤ x.code ∧ x.code ≤ 4611686016279904236
/-- The text of a seal. -/
def sealB (x : Sealed) : List UInt8 := wordsB [115, 101, 97, 108] [x.turn, x.side, x.code]
theorem sealB_eq (x : Sealed) : sealB x = [115, 101, 97, 108, 32] ++ Lib.itoa x.turn ++ [32] ++ Lib.itoa x.side ++ [32] ++ Lib.itoa x.code := by
  simp [sealB, wordsB, Lib.join_cons, Lib.joinTail]
end Go.Abs.W
