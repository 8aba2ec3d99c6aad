/- The law BattleColumn, run. -/
import Derived.Test.YtbbiikkiidgpaaaGreatDoorB9
set_option linter.unusedSimpArgs false
set_option linter.unusedVariables false
set_option maxRecDepth 100000
set_option maxHeartbeats 2000000
namespace Go.Abs.W
open Go Go.Abs Classical
attribute [-simp] Bool.decide_and
theorem law_BattleColumn (b : Board) (s : State) (t : CombatTable) (x : Battle) (wb : WideB b) (ws : Wide s.units.length) (wt : WideTable t) (wx : WideBattle x) : C n_laws_FnExactBattleColumn [BoardV false b, StateV false s, CombatTableV false t, BattleV false x] = some (Bo true) := by
  refine callC p_laws_FnExactBattleColumn rfl ?_
  have z1 := c_laws_szBoard b _ left0 wb
  by_cases h1 : (1048576 : Int) < (cntB b : Nat)
  · rw [less_yes h1] at z1
    simp [xRun, a_laws_FnExactBattleColumn, z1]
  rw [less_no h1] at z1
  have h1' : ¬ (1048576 : Int) - (cntB b : Nat) < 0 := by omega
  have z2 := c_laws_szState s _ (less_left left0 h1) ws
  by_cases h2 : (1048576 : Int) - (cntB b : Nat) < (s.units.length : Nat)
  · rw [less_yes h2] at z2
    simp [xRun, a_laws_FnExactBattleColumn, z1, h1', z2]
  rw [less_no h2] at z2
  have h2' : ¬ (1048576 : Int) - (cntB b : Nat) - (s.units.length : Nat) < 0 := by omega
  have z3 := c_laws_szCombatTable t _ (less_left (less_left left0 h1) h2) wt
  by_cases h3 : (1048576 : Int) - (cntB b : Nat) - (s.units.length : Nat) < (cntTable t : Nat)
  · rw [less_yes h3] at z3
    simp [xRun, a_laws_FnExactBattleColumn, z1, h1', z2, h2', z3]
  rw [less_no h3] at z3
  have h3' : ¬ (1048576 : Int) - (cntB b : Nat) - (s.units.length : Nat) - (cntTable t : Nat) < 0 := by omega
  have z4 := c_laws_szBattle x _ (less_left (less_left (less_left left0 h1) h2) h3) wx
  by_cases h4 : (1048576 : Int) - (cntB b : Nat) - (s.units.length : Nat) - (cntTable t : Nat) < (cntBattle x : Nat)
  · rw [less_yes h4] at z4
    simp [xRun, a_laws_FnExactBattleColumn, z1, h1', z2, h2', z3, h3', z4]
  rw [less_no h4] at z4
  have h4' : ¬ (1048576 : Int) - (cntB b : Nat) - (s.units.length : Nat) - (cntTable t : Nat) - (cntBattle x : Nat) < 0 := by omega
  have gb : LenB b := LenB_of (by omega)
  have gs : Len s.units.length := by unfold Len; omega
  have gt : LenTable t := LenTable_of (by omega)
  have gx : LenBattle x := LenBattle_of (by omega)
  simp [xRun, a_laws_FnExactBattleColumn, z1, h1', z2, h2', z3, h3', z4, h4', c_laws_toBoard b gb, c_laws_eqBoard b gb, c_laws_toState s gs, c_laws_eqState s gs, c_laws_toCombatTable t gt, c_laws_eqCombatTable t gt, c_laws_toBattle x gx, c_laws_eqBattle x gx, c_spec_BattleColumn b s t x gb gs gt gx, c_impl_BattleColumn b s t x gb gs gt gx]
end Go.Abs.W
