/- The abstract code of the functions. -/
import Derived.Test.YtcknpclhcilmaabCode0
import Derived.Test.YtcknpclhcilmaabProg
set_option maxRecDepth 100000
namespace Go.Abs.W
open Go Go.Abs
def codes : List (Nat × AFn) := [(n_laws_FnExactOrderOf, a_laws_FnExactOrderOf), (n_laws_szSheet, a_laws_szSheet), (n_spec_OrderOf, a_spec_OrderOf), (n_laws_toSheet, a_laws_toSheet), (n_impl_OrderOf, a_impl_OrderOf), (n_laws_eqOrder, a_laws_eqOrder), (n_laws_eqSheet, a_laws_eqSheet), (n_laws_markSheet, a_laws_markSheet), (n_laws_markOrder, a_laws_markOrder), (n_laws_heldOrder, a_laws_heldOrder), (n_laws_szOrderS, a_laws_szOrderS), (n_spec_oOwn, a_spec_oOwn), (n_laws_toOrderS, a_laws_toOrderS), (n_impl_orderPlace, a_impl_orderPlace), (n_impl_cloneOrder, a_impl_cloneOrder), (n_laws_eqIntS, a_laws_eqIntS), (n_laws_eqOrderS, a_laws_eqOrderS), (n_laws_markOrderS, a_laws_markOrderS), (n_laws_markIntS, a_laws_markIntS), (n_laws_heldIntS, a_laws_heldIntS), (n_laws_szOrder, a_laws_szOrder), (n_spec_l1Own, a_spec_l1Own), (n_laws_toOrder, a_laws_toOrder), (n_slices_IndexFunc_impl_Order_impl_Order, a_slices_IndexFunc_impl_Order_impl_Order), (n_impl_orderPlace_1, a_impl_orderPlace_1), (n_slices_Clone_int_int, a_slices_Clone_int_int), (n_laws_szIntS, a_laws_szIntS), (n_laws_toIntS, a_laws_toIntS)]
def prog (f : FuncId) : Option AFn := (codes.find? fun p => p.1 == f).map (·.2)
theorem p_laws_FnExactOrderOf : prog n_laws_FnExactOrderOf = some a_laws_FnExactOrderOf := rfl
theorem p_laws_szSheet : prog n_laws_szSheet = some a_laws_szSheet := rfl
theorem p_spec_OrderOf : prog n_spec_OrderOf = some a_spec_OrderOf := rfl
theorem p_laws_toSheet : prog n_laws_toSheet = some a_laws_toSheet := rfl
theorem p_impl_OrderOf : prog n_impl_OrderOf = some a_impl_OrderOf := rfl
theorem p_laws_eqOrder : prog n_laws_eqOrder = some a_laws_eqOrder := rfl
theorem p_laws_eqSheet : prog n_laws_eqSheet = some a_laws_eqSheet := rfl
theorem p_laws_markSheet : prog n_laws_markSheet = some a_laws_markSheet := rfl
theorem p_laws_markOrder : prog n_laws_markOrder = some a_laws_markOrder := rfl
theorem p_laws_heldOrder : prog n_laws_heldOrder = some a_laws_heldOrder := rfl
theorem p_laws_szOrderS : prog n_laws_szOrderS = some a_laws_szOrderS := rfl
theorem p_spec_oOwn : prog n_spec_oOwn = some a_spec_oOwn := rfl
theorem p_laws_toOrderS : prog n_laws_toOrderS = some a_laws_toOrderS := rfl
theorem p_impl_orderPlace : prog n_impl_orderPlace = some a_impl_orderPlace := rfl
theorem p_impl_cloneOrder : prog n_impl_cloneOrder = some a_impl_cloneOrder := rfl
theorem p_laws_eqIntS : prog n_laws_eqIntS = some a_laws_eqIntS := rfl
theorem p_laws_eqOrderS : prog n_laws_eqOrderS = some a_laws_eqOrderS := rfl
theorem p_laws_markOrderS : prog n_laws_markOrderS = some a_laws_markOrderS := rfl
theorem p_laws_markIntS : prog n_laws_markIntS = some a_laws_markIntS := rfl
theorem p_laws_heldIntS : prog n_laws_heldIntS = some a_laws_heldIntS := rfl
theorem p_laws_szOrder : prog n_laws_szOrder = some a_laws_szOrder := rfl
theorem p_spec_l1Own : prog n_spec_l1Own = some a_spec_l1Own := rfl
theorem p_laws_toOrder : prog n_laws_toOrder = some a_laws_toOrder := rfl
theorem p_slices_IndexFunc_impl_Order_impl_Order : prog n_slices_IndexFunc_impl_Order_impl_Order = some a_slices_IndexFunc_impl_Order_impl_Order := rfl
theorem p_impl_orderPlace_1 : prog n_impl_orderPlace_1 = some a_impl_orderPlace_1 := rfl
theorem p_slices_Clone_int_int : prog n_slices_Clone_int_int = some a_slices_Clone_int_int := rfl
theorem p_laws_szIntS : prog n_laws_szIntS = some a_laws_szIntS := rfl
theorem p_laws_toIntS : prog n_laws_toIntS = some a_laws_toIntS := rfl
theorem progOK : ProgOK Go.Proofs.Try.prog prog := by
  refine progOK_of (l := codes) ?_ fun f x h => ?_
  · decide +kernel
  · simp only [prog, Option.map_eq_some_iff] at h
    obtain ⟨p, h1, rfl⟩ := h
    have h2 := List.find?_some h1
    simp at h2
    subst h2
    exact List.mem_of_find?_eq_some h1
/-- The contracts that are proved by hand: none. -/
def hand : FuncId → Option (List AV → Option AV) := fun _ => none
/-- The package's table: the directions. -/
def dirs : List D := [.int .i64 1, .int .i64 0, .int .i64 1, .int .i64 (-1), .int .i64 0, .int .i64 (-1), .int .i64 (-1), .int .i64 0, .int .i64 (-1), .int .i64 1, .int .i64 0, .int .i64 1]
def glob : Nat → List D := fun _ => []
end Go.Abs.W
