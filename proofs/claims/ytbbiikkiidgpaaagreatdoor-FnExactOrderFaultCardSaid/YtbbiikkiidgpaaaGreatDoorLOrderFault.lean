/- The law OrderFault, run. -/
import Derived.Test.YtbbiikkiidgpaaaGreatDoorB5
set_option linter.unusedSimpArgs false
set_option linter.unusedVariables false
set_option maxRecDepth 100000
set_option maxHeartbeats 2000000
namespace Go.Abs.W
open Go Go.Abs Classical
attribute [-simp] Bool.decide_and
theorem c_spec_OrderFault (b : Board) (s : State) (side : Int) (o : Order) (gb : LenB b) (gs : Len s.units.length) (go : Len o.path.length) : C n_spec_OrderFault [BoardV false b, StateV false s, I side, OrderV false o] = some (Tup2 (.int .i64 (if StateOK b s ∧ Side side then faultM b s side o else 0)) (.bool (decide (StateOK b s ∧ Side side)))) := by
  refine callC p_spec_OrderFault rfl ?_
  have e1 := c_spec_sGood b s gb gs
  by_cases h : StateOK b s
  · by_cases h2 : 0 ≤ side ∧ side ≤ 1
    · have h2' : Side side := h2
      have e2 := c_spec_oFault b s side o gb h go
      simp [xRun, a_spec_OrderFault, e1, h, h2, h2', e2]
    · have h2' : ¬ Side side := h2
      simp [xRun, a_spec_OrderFault, e1, h, h2, h2']
  · simp [xRun, a_spec_OrderFault, e1, h]
theorem c_impl_OrderFault (b : Board) (s : State) (side : Int) (o : Order) (gb : LenB b) (gs : Len s.units.length) (go : Len o.path.length) : C n_impl_OrderFault [BoardV false b, StateV false s, I side, OrderV false o] = some (Tup2 (.int .i64 (if StateOK b s ∧ Side side then faultM b s side o else 0)) (.bool (decide (StateOK b s ∧ Side side)))) := by
  refine callC p_impl_OrderFault rfl ?_
  have e1 := c_impl_fits b s gb gs
  by_cases h : StateOK b s
  · by_cases h2 : 0 ≤ side ∧ side ≤ 1
    · have h2' : Side side := h2
      have e2 := c_impl_orderFault b s side o gb h go
      simp [xRun, a_impl_OrderFault, e1, h, h2, h2', e2]
    · have h2' : ¬ Side side := h2
      simp [xRun, a_impl_OrderFault, e1, h, h2, h2']
  · simp [xRun, a_impl_OrderFault, e1, h]
theorem law_OrderFault (b : Board) (s : State) (side : Int) (o : Order) (wb : WideB b) (ws : Wide s.units.length) (wo : Wide o.path.length) : C n_laws_FnExactOrderFault [BoardV false b, StateV false s, I side, OrderV false o] = some (Bo true) := by
  refine callC p_laws_FnExactOrderFault rfl ?_
  have z1 := c_laws_szBoard b _ left0 wb
  by_cases h1 : (1048576 : Int) < (cntB b : Nat)
  · rw [less_yes h1] at z1
    simp [xRun, a_laws_FnExactOrderFault, z1]
  rw [less_no h1] at z1
  have h1' : ¬ (1048576 : Int) - (cntB b : Nat) < 0 := by omega
  have z2 := c_laws_szState s _ (less_left left0 h1) ws
  by_cases h2 : (1048576 : Int) - (cntB b : Nat) < (s.units.length : Nat)
  · rw [less_yes h2] at z2
    simp [xRun, a_laws_FnExactOrderFault, z1, h1', z2]
  rw [less_no h2] at z2
  have h2' : ¬ (1048576 : Int) - (cntB b : Nat) - (s.units.length : Nat) < 0 := by omega
  have z3 := c_laws_szOrder o _ (less_left (less_left left0 h1) h2) wo
  by_cases h3 : (1048576 : Int) - (cntB b : Nat) - (s.units.length : Nat) < (o.path.length : Nat)
  · rw [less_yes h3] at z3
    simp [xRun, a_laws_FnExactOrderFault, z1, h1', z2, h2', z3]
  rw [less_no h3] at z3
  have h3' : ¬ (1048576 : Int) - (cntB b : Nat) - (s.units.length : Nat) - (o.path.length : Nat) < 0 := by omega
  have gb : LenB b := LenB_of (by omega)
  have gs : Len s.units.length := by unfold Len; omega
  have go : Len o.path.length := by unfold Len; omega
  simp [xRun, a_laws_FnExactOrderFault, z1, h1', z2, h2', z3, h3', c_laws_toBoard b gb, c_laws_eqBoard b gb, c_laws_toState s gs, c_laws_eqState s gs, c_laws_toOrder o go, c_laws_eqOrder o go, c_spec_OrderFault b s side o gb gs go, c_impl_OrderFault b s side o gb gs go]
end Go.Abs.W
