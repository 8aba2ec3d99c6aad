/- What the rows ask of the program's head: told letter by letter. -/
import Derived.Test.YtdhkoobikheabaaGreatDoorRows
import Derived.JoinedOf
import Derived.KernelRfl
namespace Go.Proofs.YtdhkoobikheabaaGreatDoor.Facts
set_option maxRecDepth 100000
def signs : List Char := [Char.ofNat 104, Char.ofNat 97, Char.ofNat 114, Char.ofNat 110, Char.ofNat 101, Char.ofNat 115, Char.ofNat 115, Char.ofNat 32, Char.ofNat 53, Char.ofNat 50, Char.ofNat 102, Char.ofNat 49, Char.ofNat 100, Char.ofNat 56, Char.ofNat 49, Char.ofNat 49, Char.ofNat 54, Char.ofNat 102, Char.ofNat 101, Char.ofNat 55, Char.ofNat 57, Char.ofNat 54, Char.ofNat 57, Char.ofNat 100, Char.ofNat 52, Char.ofNat 100, Char.ofNat 97, Char.ofNat 52, Char.ofNat 102, Char.ofNat 51, Char.ofNat 55, Char.ofNat 50, Char.ofNat 49, Char.ofNat 100, Char.ofNat 48, Char.ofNat 53, Char.ofNat 99, Char.ofNat 57, Char.ofNat 55, Char.ofNat 102, Char.ofNat 48, Char.ofNat 98, Char.ofNat 50, Char.ofNat 51, Char.ofNat 54, Char.ofNat 102, Char.ofNat 52, Char.ofNat 49, Char.ofNat 102, Char.ofNat 56, Char.ofNat 53, Char.ofNat 100, Char.ofNat 98, Char.ofNat 53, Char.ofNat 97, Char.ofNat 55, Char.ofNat 99, Char.ofNat 51, Char.ofNat 49, Char.ofNat 100, Char.ofNat 48, Char.ofNat 50, Char.ofNat 98, Char.ofNat 55, Char.ofNat 100, Char.ofNat 100, Char.ofNat 50, Char.ofNat 52, Char.ofNat 50, Char.ofNat 54, Char.ofNat 53, Char.ofNat 99, Char.ofNat 32, Char.ofNat 99, Char.ofNat 117, Char.ofNat 116, Char.ofNat 32, Char.ofNat 97, Char.ofNat 116, Char.ofNat 32, Char.ofNat 108, Char.ofNat 111, Char.ofNat 111, Char.ofNat 112, Char.ofNat 46, Char.ofNat 101, Char.ofNat 120, Char.ofNat 97, Char.ofNat 109, Char.ofNat 112, Char.ofNat 108, Char.ofNat 101, Char.ofNat 47, Char.ofNat 103, Char.ofNat 48, Char.ofNat 48, Char.ofNat 56, Char.ofNat 56, Char.ofNat 54, Char.ofNat 47, Char.ofNat 108, Char.ofNat 97, Char.ofNat 119, Char.ofNat 115, Char.ofNat 46, Char.ofNat 70, Char.ofNat 110, Char.ofNat 69, Char.ofNat 120, Char.ofNat 97, Char.ofNat 99, Char.ofNat 116, Char.ofNat 82, Char.ofNat 101, Char.ofNat 115, Char.ofNat 111, Char.ofNat 108, Char.ofNat 118, Char.ofNat 101, Char.ofNat 77, Char.ofNat 111, Char.ofNat 118, Char.ofNat 101, Char.ofNat 109, Char.ofNat 101, Char.ofNat 110, Char.ofNat 116]
theorem head_word : Tryz.prog.initOrder = "harness 52f1d8116fe7969d4da4f3721d05c97f0b236f41f85db5a7c31d02b7dd24265c cut at loop.example/g00886/laws.FnExactResolveMovement" := by kernel_rfl
theorem word_bytes : ("harness 52f1d8116fe7969d4da4f3721d05c97f0b236f41f85db5a7c31d02b7dd24265c cut at loop.example/g00886/laws.FnExactResolveMovement" : String).toByteArray = signs.utf8Encode := by kernel_rfl
theorem word_signs : ("harness 52f1d8116fe7969d4da4f3721d05c97f0b236f41f85db5a7c31d02b7dd24265c cut at loop.example/g00886/laws.FnExactResolveMovement" : String) = String.ofList signs := String.toByteArray_inj.1 (word_bytes.trans String.toByteArray_ofList.symm)
theorem head_list : Tryz.prog.initOrder.toList = signs := by
  rw [head_word, word_signs, String.toList_ofList]
def cut : List Char := [Char.ofNat 99, Char.ofNat 117, Char.ofNat 116]
def more : List (List Char) := (behindMainWord (wordsSigns signs)).tail
theorem head_words : behindMainWord (wordsSigns Tryz.prog.initOrder.toList) = cut :: more := by
  rw [head_list]; kernel_rfl
theorem strip : stripLifts liftWords (cut :: more) = ([], cut :: more) := by kernel_rfl
theorem laysLater : Tryz.prog.laysLater = false := by kernel_rfl
theorem bearsReflect : Tryz.prog.bearsReflect = false := by kernel_rfl
theorem doorFits : Tryz.prog.doorFits [] = true := by kernel_rfl
theorem mayEnter_of (P : Program) (m : List (List Char)) (h : behindMainWord (wordsSigns P.initOrder.toList) = cut :: m) (hs : stripLifts liftWords (cut :: m) = ([], cut :: m)) (h1 : P.laysLater = false) (h2 : P.bearsReflect = false) (h3 : P.doorFits [] = true) : P.mayEnter = true := by
  unfold Program.mayEnter
  rw [h]
  dsimp only
  rw [hs, h1, h2]
  dsimp only
  rw [h3]
  have e : (cut == "cut".toList) = true := by kernel_rfl
  simp [cut]
theorem headLifts_of (P : Program) (m : List (List Char)) (h : behindMainWord (wordsSigns P.initOrder.toList) = cut :: m) (hs : stripLifts liftWords (cut :: m) = ([], cut :: m)) : P.headLifts = [] := by
  unfold Program.headLifts
  rw [h, hs]
  simp
theorem liftsFinal_of (P : Program) (m : List (List Char)) (h : behindMainWord (wordsSigns P.initOrder.toList) = cut :: m) (h1 : P.headLifts = []) : P.liftsFinal = false := by
  unfold Program.liftsFinal
  rw [h, h1]
  simp [cut]
theorem make_of (P : Program) (m : List (List Char)) (h : behindMainWord (wordsSigns P.initOrder.toList) = cut :: m) : P.make = some .cut := by
  unfold Program.make
  rw [h]
  simp [cut]
theorem mayEnter : Tryz.prog.mayEnter = true := mayEnter_of _ _ head_words strip laysLater bearsReflect doorFits
theorem headLifts : Tryz.prog.headLifts = [] := headLifts_of _ _ head_words strip
theorem liftsFinal : Tryz.prog.liftsFinal = false := liftsFinal_of _ _ head_words headLifts
theorem make : Tryz.prog.make = some .cut := make_of _ _ head_words
end Go.Proofs.YtdhkoobikheabaaGreatDoor.Facts
