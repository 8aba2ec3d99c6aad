/- The law IsSheet, run. -/
import Derived.Test.YtbbiikkiidgpaaaGreatDoorB8
set_option linter.unusedSimpArgs false
set_option linter.unusedVariables false
set_option maxRecDepth 100000
set_option maxHeartbeats 2000000
namespace Go.Abs.W
open Go Go.Abs Classical
attribute [-simp] Bool.decide_and
theorem c_spec_IsSheet (b : Board) (s : State) (x : Sheet) (gb : LenB b) (gs : Len s.units.length) (gx : LenSheet x) : C n_spec_IsSheet [BoardV false b, StateV false s, SheetV false x] = some (Tup2 (.bool (decide (StateOK b s ∧ SheetOK b s x))) (.bool (decide (StateOK b s)))) := by
  refine callC p_spec_IsSheet rfl ?_
  have e1 := c_spec_sGood b s gb gs
  have e2 := c_spec_oGood b s x gb gs gx
  by_cases h : StateOK b s
  · by_cases h2 : SheetOK b s x <;> simp [xRun, a_spec_IsSheet, e1, e2, h, h2]
  · simp [xRun, a_spec_IsSheet, e1, h]
theorem c_impl_IsSheet (b : Board) (s : State) (x : Sheet) (gb : LenB b) (gs : Len s.units.length) (gx : LenSheet x) : C n_impl_IsSheet [BoardV false b, StateV false s, SheetV false x] = some (Tup2 (.bool (decide (StateOK b s ∧ SheetOK b s x))) (.bool (decide (StateOK b s)))) := by
  refine callC p_impl_IsSheet rfl ?_
  have e1 := c_impl_fits b s gb gs
  by_cases h : StateOK b s
  · have e2 := c_impl_goodSheet b s x gb h gx
    by_cases h2 : SheetOK b s x <;> simp [xRun, a_impl_IsSheet, e1, e2, h, h2]
  · simp [xRun, a_impl_IsSheet, e1, h]
theorem law_IsSheet (b : Board) (s : State) (x : Sheet) (wb : WideB b) (ws : Wide s.units.length) (wx : WideSheet x) : C n_laws_FnExactIsSheet [BoardV false b, StateV false s, SheetV false x] = some (Bo true) := by
  refine callC p_laws_FnExactIsSheet rfl ?_
  have z1 := c_laws_szBoard b _ left0 wb
  by_cases h1 : (1048576 : Int) < (cntB b : Nat)
  · rw [less_yes h1] at z1
    simp [xRun, a_laws_FnExactIsSheet, z1]
  rw [less_no h1] at z1
  have h1' : ¬ (1048576 : Int) - (cntB b : Nat) < 0 := by omega
  have z2 := c_laws_szState s _ (less_left left0 h1) ws
  by_cases h2 : (1048576 : Int) - (cntB b : Nat) < (s.units.length : Nat)
  · rw [less_yes h2] at z2
    simp [xRun, a_laws_FnExactIsSheet, z1, h1', z2]
  rw [less_no h2] at z2
  have h2' : ¬ (1048576 : Int) - (cntB b : Nat) - (s.units.length : Nat) < 0 := by omega
  have z3 := c_laws_szSheet x _ (less_left (less_left left0 h1) h2) wx
  by_cases h3 : (1048576 : Int) - (cntB b : Nat) - (s.units.length : Nat) < (cntSheet x : Nat)
  · rw [less_yes h3] at z3
    simp [xRun, a_laws_FnExactIsSheet, z1, h1', z2, h2', z3]
  rw [less_no h3] at z3
  have h3' : ¬ (1048576 : Int) - (cntB b : Nat) - (s.units.length : Nat) - (cntSheet x : Nat) < 0 := by omega
  have gb : LenB b := LenB_of (by omega)
  have gs : Len s.units.length := by unfold Len; omega
  have gx : LenSheet x := LenSheet_of (by omega)
  simp [xRun, a_laws_FnExactIsSheet, z1, h1', z2, h2', z3, h3', c_laws_toBoard b gb, c_laws_eqBoard b gb, c_laws_toState s gs, c_laws_eqState s gs, c_laws_toSheet x gx, c_laws_eqSheet x gx, c_spec_IsSheet b s x gb gs gx, c_impl_IsSheet b s x gb gs gx]
end Go.Abs.W
