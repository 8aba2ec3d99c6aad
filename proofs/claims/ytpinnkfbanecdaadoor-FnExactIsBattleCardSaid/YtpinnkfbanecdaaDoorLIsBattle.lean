/- The law IsBattle, run. -/
import Derived.Test.YtpinnkfbanecdaaDoorB1
set_option linter.unusedSimpArgs false
set_option linter.unusedVariables false
set_option maxRecDepth 100000
set_option maxHeartbeats 2000000
namespace Go.Abs.W
open Go Go.Abs Classical
attribute [-simp] Bool.decide_and
theorem c_spec_IsBattle (b : Board) (s : State) (x : Battle) (gb : LenB b) (gs : Len s.units.length) (gx : LenBattle x) : C n_spec_IsBattle [BoardV false b, StateV false s, BattleV false x] = some (Tup2 (.bool (decide (StateOK b s ∧ BattleOK b s x))) (.bool (decide (StateOK b s)))) := by
  refine callC p_spec_IsBattle rfl ?_
  have e1 := c_spec_sGood b s gb gs
  by_cases h : StateOK b s
  · have e2 := c_spec_aGood b s x gb gs gx
    by_cases h2 : BattleOK b s x <;> simp [xRun, a_spec_IsBattle, e1, e2, h, h2]
  · simp [xRun, a_spec_IsBattle, e1, h]
theorem c_impl_IsBattle (b : Board) (s : State) (x : Battle) (gb : LenB b) (gs : Len s.units.length) (gx : LenBattle x) : C n_impl_IsBattle [BoardV false b, StateV false s, BattleV false x] = some (Tup2 (.bool (decide (StateOK b s ∧ BattleOK b s x))) (.bool (decide (StateOK b s)))) := by
  refine callC p_impl_IsBattle rfl ?_
  have e1 := c_impl_fits b s gb gs
  by_cases h : StateOK b s
  · have e2 := c_impl_goodBattle b s x h gx
    by_cases h2 : BattleOK b s x <;> simp [xRun, a_impl_IsBattle, e1, e2, h, h2]
  · simp [xRun, a_impl_IsBattle, e1, h]
theorem law_IsBattle (b : Board) (s : State) (x : Battle) (wb : WideB b) (ws : Wide s.units.length) (wx : WideBattle x) : C n_laws_FnExactIsBattle [BoardV false b, StateV false s, BattleV false x] = some (Bo true) := by
  refine callC p_laws_FnExactIsBattle rfl ?_
  have z1 := c_laws_szBoard b _ left0 wb
  by_cases h1 : (1048576 : Int) < (cntB b : Nat)
  · rw [less_yes h1] at z1
    simp [xRun, a_laws_FnExactIsBattle, z1]
  rw [less_no h1] at z1
  have h1' : ¬ (1048576 : Int) - (cntB b : Nat) < 0 := by omega
  have z2 := c_laws_szState s _ (less_left left0 h1) ws
  by_cases h2 : (1048576 : Int) - (cntB b : Nat) < (s.units.length : Nat)
  · rw [less_yes h2] at z2
    simp [xRun, a_laws_FnExactIsBattle, z1, h1', z2]
  rw [less_no h2] at z2
  have h2' : ¬ (1048576 : Int) - (cntB b : Nat) - (s.units.length : Nat) < 0 := by omega
  have z3 := c_laws_szBattle x _ (less_left (less_left left0 h1) h2) wx
  by_cases h3 : (1048576 : Int) - (cntB b : Nat) - (s.units.length : Nat) < (cntBattle x : Nat)
  · rw [less_yes h3] at z3
    simp [xRun, a_laws_FnExactIsBattle, z1, h1', z2, h2', z3]
  rw [less_no h3] at z3
  have h3' : ¬ (1048576 : Int) - (cntB b : Nat) - (s.units.length : Nat) - (cntBattle x : Nat) < 0 := by omega
  have gb : LenB b := LenB_of (by omega)
  have gs : Len s.units.length := by unfold Len; omega
  have gx : LenBattle x := LenBattle_of (by omega)
  simp [xRun, a_laws_FnExactIsBattle, z1, h1', z2, h2', z3, h3', c_laws_toBoard b gb, c_laws_eqBoard b gb, c_laws_toState s gs, c_laws_eqState s gs, c_laws_toBattle x gx, c_laws_eqBattle x gx, c_spec_IsBattle b s x gb gs gx, c_impl_IsBattle b s x gb gs gx]
end Go.Abs.W
