/- The law OrderCost, run. -/
import Derived.Test.YtbbiikkiidgpaaaGreatDoorB5
set_option linter.unusedSimpArgs false
set_option linter.unusedVariables false
set_option maxRecDepth 100000
set_option maxHeartbeats 2000000
namespace Go.Abs.W
open Go Go.Abs Classical
attribute [-simp] Bool.decide_and
theorem c_spec_OrderCost (b : Board) (s : State) (o : Order) (gb : LenB b) (gs : Len s.units.length) (go : Len o.path.length) : C n_spec_OrderCost [BoardV false b, StateV false s, OrderV false o] = some (Tup2 (.int .i64 (if GivenOK b s o then oCostM b s o else 0)) (.bool (decide (GivenOK b s o)))) := by
  refine callC p_spec_OrderCost rfl ?_
  have e1 := c_spec_oRight b s o gb gs go
  by_cases h : GivenOK b s o
  · have e2 := c_spec_oCost b s o gb h.1.1 h.1.2 h.way.1 go
    rw [if_pos h.way.2] at e2
    simp [xRun, a_spec_OrderCost, e1, h, e2, oCostM]
  · simp [xRun, a_spec_OrderCost, e1, h]
theorem c_impl_OrderCost (b : Board) (s : State) (o : Order) (gb : LenB b) (gs : Len s.units.length) (go : Len o.path.length) : C n_impl_OrderCost [BoardV false b, StateV false s, OrderV false o] = some (Tup2 (.int .i64 (if GivenOK b s o then oCostM b s o else 0)) (.bool (decide (GivenOK b s o)))) := by
  refine callC p_impl_OrderCost rfl ?_
  have e1 := c_impl_isGiven b s o gb gs go
  by_cases h : GivenOK b s o
  · have hu := h.1.2
    have hx : UnitOK b (unitAt s o.unit) := h.1.1.unit _ (at_mem hu.1 hu.2)
    have e2 := c_impl_PathCost b (unitAt s o.unit).kind s.weather (unitAt s o.unit).pos o.path gb h.1.1.board hx.kind h.1.1.weather (hx.on h.way.1) go
    have n0 : ¬ o.unit < 0 := by have := hu.1; omega
    have r1 := at_lt (l := s.units) hu.1 hu.2
    have r2 := unit_row hu
    simp only [if_pos h.way.2, decide_eq_true h.way.2] at e2
    simp [xRun, a_impl_OrderCost, e1, h, n0, r1, r2, Unit.enc, e2, oCostM]
  · simp [xRun, a_impl_OrderCost, e1, h]
theorem law_OrderCost (b : Board) (s : State) (o : Order) (wb : WideB b) (ws : Wide s.units.length) (wo : Wide o.path.length) : C n_laws_FnExactOrderCost [BoardV false b, StateV false s, OrderV false o] = some (Bo true) := by
  refine callC p_laws_FnExactOrderCost rfl ?_
  have z1 := c_laws_szBoard b _ left0 wb
  by_cases h1 : (1048576 : Int) < (cntB b : Nat)
  · rw [less_yes h1] at z1
    simp [xRun, a_laws_FnExactOrderCost, z1]
  rw [less_no h1] at z1
  have h1' : ¬ (1048576 : Int) - (cntB b : Nat) < 0 := by omega
  have z2 := c_laws_szState s _ (less_left left0 h1) ws
  by_cases h2 : (1048576 : Int) - (cntB b : Nat) < (s.units.length : Nat)
  · rw [less_yes h2] at z2
    simp [xRun, a_laws_FnExactOrderCost, z1, h1', z2]
  rw [less_no h2] at z2
  have h2' : ¬ (1048576 : Int) - (cntB b : Nat) - (s.units.length : Nat) < 0 := by omega
  have z3 := c_laws_szOrder o _ (less_left (less_left left0 h1) h2) wo
  by_cases h3 : (1048576 : Int) - (cntB b : Nat) - (s.units.length : Nat) < (o.path.length : Nat)
  · rw [less_yes h3] at z3
    simp [xRun, a_laws_FnExactOrderCost, z1, h1', z2, h2', z3]
  rw [less_no h3] at z3
  have h3' : ¬ (1048576 : Int) - (cntB b : Nat) - (s.units.length : Nat) - (o.path.length : Nat) < 0 := by omega
  have gb : LenB b := LenB_of (by omega)
  have gs : Len s.units.length := by unfold Len; omega
  have go : Len o.path.length := by unfold Len; omega
  simp [xRun, a_laws_FnExactOrderCost, z1, h1', z2, h2', z3, h3', c_laws_toBoard b gb, c_laws_eqBoard b gb, c_laws_toState s gs, c_laws_eqState s gs, c_laws_toOrder o go, c_laws_eqOrder o go, c_spec_OrderCost b s o gb gs go, c_impl_OrderCost b s o gb gs go]
end Go.Abs.W
