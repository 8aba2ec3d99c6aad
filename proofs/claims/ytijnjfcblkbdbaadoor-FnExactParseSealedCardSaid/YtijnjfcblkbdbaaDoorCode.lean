/- The abstract code of the functions. -/
import Derived.Test.YtijnjfcblkbdbaaDoorCode0
import Derived.Test.YtijnjfcblkbdbaaDoorProg
set_option maxRecDepth 100000
namespace Go.Abs.W
open Go Go.Abs
def codes : List (Nat × AFn) := [(n_laws_FnExactParseSealed, a_laws_FnExactParseSealed), (n_spec_ParseSealed, a_spec_ParseSealed), (n_impl_ParseSealed, a_impl_ParseSealed), (n_laws_eqSealed, a_laws_eqSealed), (n_spec_eGood, a_spec_eGood), (n_spec_eText, a_spec_eText), (n_impl_IsSealed, a_impl_IsSealed), (n_impl_sealedText, a_impl_sealedText), (n_spec_l1Split, a_spec_l1Split), (n_spec_l1Read, a_spec_l1Read), (n_spec_eDigits, a_spec_eDigits), (n_spec_l1In, a_spec_l1In), (n_spec_dSeed, a_spec_dSeed), (n_spec_l1Num, a_spec_l1Num), (n_impl_isTurn, a_impl_isTurn), (n_impl_isSide, a_impl_isSide), (n_impl_isSeed, a_impl_isSeed), (n_impl_wordsText, a_impl_wordsText), (n_impl_inRange, a_impl_inRange)]
def prog (f : FuncId) : Option AFn := (codes.find? fun p => p.1 == f).map (·.2)
theorem p_laws_FnExactParseSealed : prog n_laws_FnExactParseSealed = some a_laws_FnExactParseSealed := rfl
theorem p_spec_ParseSealed : prog n_spec_ParseSealed = some a_spec_ParseSealed := rfl
theorem p_impl_ParseSealed : prog n_impl_ParseSealed = some a_impl_ParseSealed := rfl
theorem p_laws_eqSealed : prog n_laws_eqSealed = some a_laws_eqSealed := rfl
theorem p_spec_eGood : prog n_spec_eGood = some a_spec_eGood := rfl
theorem p_spec_eText : prog n_spec_eText = some a_spec_eText := rfl
theorem p_impl_IsSealed : prog n_impl_IsSealed = some a_impl_IsSealed := rfl
theorem p_impl_sealedText : prog n_impl_sealedText = some a_impl_sealedText := rfl
theorem p_spec_l1Split : prog n_spec_l1Split = some a_spec_l1Split := rfl
theorem p_spec_l1Read : prog n_spec_l1Read = some a_spec_l1Read := rfl
theorem p_spec_eDigits : prog n_spec_eDigits = some a_spec_eDigits := rfl
theorem p_spec_l1In : prog n_spec_l1In = some a_spec_l1In := rfl
theorem p_spec_dSeed : prog n_spec_dSeed = some a_spec_dSeed := rfl
theorem p_spec_l1Num : prog n_spec_l1Num = some a_spec_l1Num := rfl
theorem p_impl_isTurn : prog n_impl_isTurn = some a_impl_isTurn := rfl
theorem p_impl_isSide : prog n_impl_isSide = some a_impl_isSide := rfl
theorem p_impl_isSeed : prog n_impl_isSeed = some a_impl_isSeed := rfl
theorem p_impl_wordsText : prog n_impl_wordsText = some a_impl_wordsText := rfl
theorem p_impl_inRange : prog n_impl_inRange = some a_impl_inRange := rfl
theorem progOK : ProgOK Go.Proofs.Tryd.prog prog := by
  refine progOK_of (l := codes) ?_ fun f x h => ?_
  · decide +kernel
  · simp only [prog, Option.map_eq_some_iff] at h
    obtain ⟨p, h1, rfl⟩ := h
    have h2 := List.find?_some h1
    simp at h2
    subst h2
    exact List.mem_of_find?_eq_some h1
/-- The package's table: the directions. -/
def dirs : List D := [.int .i64 1, .int .i64 0, .int .i64 1, .int .i64 (-1), .int .i64 0, .int .i64 (-1), .int .i64 (-1), .int .i64 0, .int .i64 (-1), .int .i64 1, .int .i64 0, .int .i64 1]
/-- The contracts that are proved by hand. -/
def hand : FuncId → Option (List AV → Option AV) := fun f => if f = n_strings_Split then some hSplit else if f = n_strconv_Atoi then some hAtoi else if f = n_strconv_Itoa then some hItoa else if f = n_strings_Join then some hJoin else none
theorem h_strings_Split : hand n_strings_Split = some hSplit := rfl
theorem h_strconv_Atoi : hand n_strconv_Atoi = some hAtoi := rfl
theorem h_strconv_Itoa : hand n_strconv_Itoa = some hItoa := rfl
theorem h_strings_Join : hand n_strings_Join = some hJoin := rfl
/-- What the package variables hold. -/
def glob : Nat → List D := fun g => if g = 0 then [.err true] else if g = 1 then [.err true] else if g = 2 then [.anyi .i64] else if g = 5 then Lib.pow10Tab.map (D.int .u64) else []
end Go.Abs.W
