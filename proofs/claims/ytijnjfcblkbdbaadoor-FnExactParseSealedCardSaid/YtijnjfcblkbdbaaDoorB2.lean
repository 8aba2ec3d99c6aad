import Derived.Test.YtijnjfcblkbdbaaDoorB1
set_option linter.unusedSimpArgs false
set_option linter.unusedVariables false
set_option maxRecDepth 100000
set_option maxHeartbeats 2000000
namespace Go.Abs.W
open Go Go.Abs Classical
attribute [-simp] Bool.decide_and
structure Sealed where
  turn : Int
  side : Int
  code : Int
def Sealed.enc (x : Sealed) : List D := [.int .i64 x.turn, .int .i64 x.side, .int .i64 x.code]
abbrev SealedV (x : Sealed) : AV := .val (.agg x.enc)
def SealedOK (x : Sealed) : Prop := (0 ≤ x.turn ∧ x.turn ≤ 30) ∧ (0 ≤ x.side ∧ x.side ≤ 1) ∧ 0 ≤ x.code ∧ x.code ≤ 4611686016279904236
theorem c_laws_eqSealed (x : Sealed) : C n_laws_eqSealed [SealedV x, SealedV x] = some (Bo true) := by
  refine callC p_laws_eqSealed rfl ?_
  simp [xRun, a_laws_eqSealed, Sealed.enc]
@[simp] theorem c_spec_dSeed (n : Int) : C n_spec_dSeed [I n] = some (Bo (decide (0 ≤ n ∧ n ≤ 4611686016279904236))) := by
  refine callC p_spec_dSeed rfl ?_
  simp [xRun, a_spec_dSeed]
@[simp] theorem c_impl_isSeed (n : Int) : C n_impl_isSeed [I n] = some (Bo (decide (0 ≤ n ∧ n ≤ 4611686016279904236))) := by
  refine callC p_impl_isSeed rfl ?_
  simp [xRun, a_impl_isSeed]
@[simp] theorem c_impl_isTurn (n : Int) : C n_impl_isTurn [I n] = some (Bo (decide (0 ≤ n ∧ n ≤ 30))) := by
  refine callC p_impl_isTurn rfl ?_
  simp [xRun, a_impl_isTurn]
theorem c_spec_eGood (x : Sealed) : C n_spec_eGood [SealedV x] = some (Bo (decide (SealedOK x))) := by
  refine callC p_spec_eGood rfl ?_
  unfold SealedOK
  by_cases h1 : 0 ≤ x.turn ∧ x.turn ≤ 30 <;> by_cases h2 : 0 ≤ x.side ∧ x.side ≤ 1 <;> by_cases h3 : 0 ≤ x.code ∧ x.code ≤ 4611686016279904236 <;> simp [xRun, a_spec_eGood, Sealed.enc, h1, h2, h3]
theorem c_impl_IsSealed (x : Sealed) : C n_impl_IsSealed [SealedV x] = some (Bo (decide (SealedOK x))) := by
  refine callC p_impl_IsSealed rfl ?_
  unfold SealedOK
  by_cases h1 : 0 ≤ x.turn ∧ x.turn ≤ 30 <;> by_cases h2 : 0 ≤ x.side ∧ x.side ≤ 1 <;> by_cases h3 : 0 ≤ x.code ∧ x.code ≤ 4611686016279904236 <;> simp [xRun, a_impl_IsSealed, Sealed.enc, h1, h2, h3]
/-- The text of a seal. -/
def sealB (x : Sealed) : List UInt8 := wordsB [115, 101, 97, 108] [x.turn, x.side, x.code]
theorem sealB_eq (x : Sealed) : sealB x = [115, 101, 97, 108, 32] ++ Lib.itoa x.turn ++ [32] ++ Lib.itoa x.side ++ [32] ++ Lib.itoa x.code := by
  simp [sealB, wordsB, Lib.join_cons, Lib.joinTail]
theorem c_impl_sealedText (x : Sealed) (h : SealedOK x) : C n_impl_sealedText [SealedV x] = some (St (bs (sealB x))) := by
  refine callC p_impl_sealedText rfl ?_
  obtain ⟨h1, h2, h3⟩ := h
  have e1 := c_impl_wordsText [115, 101, 97, 108] [x.turn, x.side, x.code] (by simp) (by simp) (by simp; omega)
  dsimp only [Li, ints, List.map] at e1
  have e2 : (bs [115, 101, 97, 108]) = ⟨#[115, 101, 97, 108]⟩ := rfl
  rw [e2] at e1
  simp [xRun, a_impl_sealedText, Sealed.enc, e1, sealB]
theorem c_spec_l1Num' (n : Int) (h0 : 0 ≤ n) (h : n < 4611686018427387904) : C n_spec_l1Num [I n] = some (St (numT n)) := by
  obtain ⟨k, rfl⟩ : ∃ k : Nat, n = k := ⟨n.toNat, by omega⟩
  exact c_spec_l1Num k (by omega)
theorem c_spec_eText (x : Sealed) (h : SealedOK x) : C n_spec_eText [SealedV x] = some (St (bs (sealB x))) := by
  refine callC p_spec_eText rfl ?_
  obtain ⟨h1, h2, h3⟩ := h
  have e1 := c_spec_l1Num' x.turn h1.1 (by omega)
  have e2 := c_spec_l1Num' x.side h2.1 (by omega)
  have e3 := c_spec_l1Num' x.code h3.1 (by omega)
  have l1 := itoa_len x.turn (by omega) (by omega)
  have l2 := itoa_len x.side (by omega) (by omega)
  have l3 := itoa_len x.code (by omega) (by omega)
  rw [sealB_eq]
  have c1 : (⟨#[115, 101, 97, 108, 32]⟩ : ByteArray) = bs [115, 101, 97, 108, 32] := rfl
  have c2 : (⟨#[32]⟩ : ByteArray) = bs [32] := rfl
  dsimp only [numT] at e1 e2 e3
  simp [xRun, a_spec_eText, Sealed.enc, e1, e2, e3, c1, c2, bs_append, bs_size, -List.append_assoc]
  omega
end Go.Abs.W
