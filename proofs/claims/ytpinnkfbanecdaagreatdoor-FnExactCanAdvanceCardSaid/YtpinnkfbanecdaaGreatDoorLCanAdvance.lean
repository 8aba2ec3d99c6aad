/- The law CanAdvance, run. -/
import Derived.Test.YtpinnkfbanecdaaGreatDoorB0
set_option linter.unusedSimpArgs false
set_option linter.unusedVariables false
set_option maxRecDepth 100000
set_option maxHeartbeats 2000000
namespace Go.Abs.W
open Go Go.Abs Classical
attribute [-simp] Bool.decide_and
theorem law_CanAdvance (b : Board) (s : State) (u : Int) (i : Int) (wb : WideB b) (ws : Wide s.units.length) : C n_laws_FnExactCanAdvance [BoardV false b, StateV false s, I u, I i] = some (Bo true) := by
  refine callC p_laws_FnExactCanAdvance rfl ?_
  have z1 := c_laws_szBoard b _ left0 wb
  by_cases h1 : (1048576 : Int) < (cntB b : Nat)
  · rw [less_yes h1] at z1
    simp [xRun, a_laws_FnExactCanAdvance, z1]
  rw [less_no h1] at z1
  have h1' : ¬ (1048576 : Int) - (cntB b : Nat) < 0 := by omega
  have z2 := c_laws_szState s _ (less_left left0 h1) ws
  by_cases h2 : (1048576 : Int) - (cntB b : Nat) < (s.units.length : Nat)
  · rw [less_yes h2] at z2
    simp [xRun, a_laws_FnExactCanAdvance, z1, h1', z2]
  rw [less_no h2] at z2
  have h2' : ¬ (1048576 : Int) - (cntB b : Nat) - (s.units.length : Nat) < 0 := by omega
  have gb : LenB b := LenB_of (by omega)
  have gs : Len s.units.length := by unfold Len; omega
  simp [xRun, a_laws_FnExactCanAdvance, z1, h1', z2, h2', c_laws_toBoard b gb, c_laws_eqBoard b gb, c_laws_toState s gs, c_laws_eqState s gs, c_spec_CanAdvance b s u i gb gs, c_impl_CanAdvance b s u i gb gs]
end Go.Abs.W
