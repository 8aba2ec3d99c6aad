/- The law IsAttempts, run. -/
import Derived.Test.YtpinnkfbanecdaaGreatDoorB1
set_option linter.unusedSimpArgs false
set_option linter.unusedVariables false
set_option maxRecDepth 100000
set_option maxHeartbeats 2000000
namespace Go.Abs.W
open Go Go.Abs Classical
attribute [-simp] Bool.decide_and
theorem c_spec_IsAttempts (b : Board) (s : State) (l : List Attempt) (gb : LenB b) (gs : Len s.units.length) (gl : Len l.length) : C n_spec_IsAttempts [BoardV false b, StateV false s, AttemptsV false l] = some (Tup2 (.bool (decide (StateOK b s ∧ AttsOK b s l))) (.bool (decide (StateOK b s)))) := by
  refine callC p_spec_IsAttempts rfl ?_
  have e1 := c_spec_sGood b s gb gs
  by_cases h : StateOK b s
  · have e2 := c_spec_fGood b s l gb h gl
    by_cases h2 : AttsOK b s l <;> simp [xRun, a_spec_IsAttempts, e1, e2, h, h2]
  · simp [xRun, a_spec_IsAttempts, e1, h]
theorem c_impl_IsAttempts (b : Board) (s : State) (l : List Attempt) (gb : LenB b) (gs : Len s.units.length) (gl : Len l.length) : C n_impl_IsAttempts [BoardV false b, StateV false s, AttemptsV false l] = some (Tup2 (.bool (decide (StateOK b s ∧ AttsOK b s l))) (.bool (decide (StateOK b s)))) := by
  refine callC p_impl_IsAttempts rfl ?_
  have e1 := c_impl_fits b s gb gs
  by_cases h : StateOK b s
  · have e2 := c_impl_goodAttempts b s l gb h gl
    by_cases h2 : AttsOK b s l <;> simp [xRun, a_impl_IsAttempts, e1, e2, h, h2]
  · simp [xRun, a_impl_IsAttempts, e1, h]
theorem law_IsAttempts (b : Board) (s : State) (l : List Attempt) (wb : WideB b) (ws : Wide s.units.length) (wl : Wide l.length) : C n_laws_FnExactIsAttempts [BoardV false b, StateV false s, AttemptsV false l] = some (Bo true) := by
  refine callC p_laws_FnExactIsAttempts rfl ?_
  have z1 := c_laws_szBoard b _ left0 wb
  by_cases h1 : (1048576 : Int) < (cntB b : Nat)
  · rw [less_yes h1] at z1
    simp [xRun, a_laws_FnExactIsAttempts, z1]
  rw [less_no h1] at z1
  have h1' : ¬ (1048576 : Int) - (cntB b : Nat) < 0 := by omega
  have z2 := c_laws_szState s _ (less_left left0 h1) ws
  by_cases h2 : (1048576 : Int) - (cntB b : Nat) < (s.units.length : Nat)
  · rw [less_yes h2] at z2
    simp [xRun, a_laws_FnExactIsAttempts, z1, h1', z2]
  rw [less_no h2] at z2
  have h2' : ¬ (1048576 : Int) - (cntB b : Nat) - (s.units.length : Nat) < 0 := by omega
  have z3 := c_laws_szAttemptS l _ (less_left (less_left left0 h1) h2) wl
  by_cases h3 : (1048576 : Int) - (cntB b : Nat) - (s.units.length : Nat) < (l.length : Nat)
  · rw [less_yes h3] at z3
    simp [xRun, a_laws_FnExactIsAttempts, z1, h1', z2, h2', z3]
  rw [less_no h3] at z3
  have h3' : ¬ (1048576 : Int) - (cntB b : Nat) - (s.units.length : Nat) - (l.length : Nat) < 0 := by omega
  have gb : LenB b := LenB_of (by omega)
  have gs : Len s.units.length := by unfold Len; omega
  have gl : Len l.length := by unfold Len; omega
  simp [xRun, a_laws_FnExactIsAttempts, z1, h1', z2, h2', z3, h3', c_laws_toBoard b gb, c_laws_eqBoard b gb, c_laws_toState s gs, c_laws_eqState s gs, c_laws_toAttemptS l gl, c_laws_eqAttemptS l gl, c_spec_IsAttempts b s l gb gs gl, c_impl_IsAttempts b s l gb gs gl]
end Go.Abs.W
