/- The law BattleResult, run. -/
import Derived.Test.YtbbiikkiidgpaaaGreatDoorB9
set_option linter.unusedSimpArgs false
set_option linter.unusedVariables false
set_option maxRecDepth 100000
set_option maxHeartbeats 2000000
namespace Go.Abs.W
open Go Go.Abs Classical
attribute [-simp] Bool.decide_and
def BRes (b : Board) (s : State) (t : CombatTable) (x : Battle) (roll : Int) : Prop := ColOK b s t x ∧ RollOK t roll
theorem c_spec_BattleResult (b : Board) (s : State) (t : CombatTable) (x : Battle) (roll : Int) (gb : LenB b) (gs : Len s.units.length) (gt : LenTable t) (gx : LenBattle x) : C n_spec_BattleResult [BoardV false b, StateV false s, CombatTableV false t, BattleV false x, I roll] = some (Tup2 (.int .i64 (if BRes b s t x roll then resultM t roll (columnM b s t x) else 0)) (.bool (decide (BRes b s t x roll)))) := by
  refine callC p_spec_BattleResult rfl ?_
  have e1 := c_spec_aGood b s x gb gs gx
  have e2 := c_spec_kGood t gt
  by_cases h2 : TableOK t
  · have hd := h2.dice
    have w0 : IntKind.i64.wrap (6 * t.dice) = 6 * t.dice := wrap_small (by omega) (by omega)
    by_cases h : StateOK b s ∧ BattleOK b s x
    · rw [decide_eq_true h] at e1
      by_cases hr : t.dice ≤ roll ∧ roll ≤ 6 * t.dice
      · have hR : RollOK t roll := ⟨hr.1, hr.2⟩
        have hP : BRes b s t x roll := ⟨⟨h, h2⟩, hR⟩
        have e3 := c_spec_aColumn b s t x gb h.1 h.2 gx h2
        have e4 := c_spec_kResult t roll (columnM b s t x) (columnM_in h2) hR
        simp [xRun, a_spec_BattleResult, e1, e2, h2, w0, hr, hP, e3, e4]
      · have hP : ¬ BRes b s t x roll := fun hh => hr ⟨hh.2.lo, hh.2.hi⟩
        simp [xRun, a_spec_BattleResult, e1, e2, h2, w0, hr, hP]
    · have hP : ¬ BRes b s t x roll := fun hh => h hh.1.1
      rw [decide_eq_false h] at e1
      simp [xRun, a_spec_BattleResult, e1, e2, h2, hP]
  · have hP : ¬ BRes b s t x roll := fun hh => h2 hh.1.2
    simp [xRun, a_spec_BattleResult, e2, h2, hP]
theorem c_impl_BattleResult (b : Board) (s : State) (t : CombatTable) (x : Battle) (roll : Int) (gb : LenB b) (gs : Len s.units.length) (gt : LenTable t) (gx : LenBattle x) : C n_impl_BattleResult [BoardV false b, StateV false s, CombatTableV false t, BattleV false x, I roll] = some (Tup2 (.int .i64 (if BRes b s t x roll then resultM t roll (columnM b s t x) else 0)) (.bool (decide (BRes b s t x roll)))) := by
  refine callC p_impl_BattleResult rfl ?_
  have e1 := c_impl_BattleColumn b s t x gb gs gt gx
  by_cases h : ColOK b s t x
  · simp only [if_pos h, decide_eq_true h] at e1
    have e2 := c_impl_ResultAt t roll (columnM b s t x) gt (columnM_in h.2)
    by_cases hr : RollOK t roll
    · have hP : BRes b s t x roll := ⟨h, hr⟩
      simp [xRun, a_impl_BattleResult, e1, e2, hr, hP]
    · have hP : ¬ BRes b s t x roll := fun hh => hr hh.2
      simp [xRun, a_impl_BattleResult, e1, e2, hr, hP]
  · have hP : ¬ BRes b s t x roll := fun hh => h hh.1
    simp only [if_neg h, decide_eq_false h] at e1
    simp [xRun, a_impl_BattleResult, e1, hP]
theorem law_BattleResult (b : Board) (s : State) (t : CombatTable) (x : Battle) (roll : Int) (wb : WideB b) (ws : Wide s.units.length) (wt : WideTable t) (wx : WideBattle x) : C n_laws_FnExactBattleResult [BoardV false b, StateV false s, CombatTableV false t, BattleV false x, I roll] = some (Bo true) := by
  refine callC p_laws_FnExactBattleResult rfl ?_
  have z1 := c_laws_szBoard b _ left0 wb
  by_cases h1 : (1048576 : Int) < (cntB b : Nat)
  · rw [less_yes h1] at z1
    simp [xRun, a_laws_FnExactBattleResult, z1]
  rw [less_no h1] at z1
  have h1' : ¬ (1048576 : Int) - (cntB b : Nat) < 0 := by omega
  have z2 := c_laws_szState s _ (less_left left0 h1) ws
  by_cases h2 : (1048576 : Int) - (cntB b : Nat) < (s.units.length : Nat)
  · rw [less_yes h2] at z2
    simp [xRun, a_laws_FnExactBattleResult, z1, h1', z2]
  rw [less_no h2] at z2
  have h2' : ¬ (1048576 : Int) - (cntB b : Nat) - (s.units.length : Nat) < 0 := by omega
  have z3 := c_laws_szCombatTable t _ (less_left (less_left left0 h1) h2) wt
  by_cases h3 : (1048576 : Int) - (cntB b : Nat) - (s.units.length : Nat) < (cntTable t : Nat)
  · rw [less_yes h3] at z3
    simp [xRun, a_laws_FnExactBattleResult, z1, h1', z2, h2', z3]
  rw [less_no h3] at z3
  have h3' : ¬ (1048576 : Int) - (cntB b : Nat) - (s.units.length : Nat) - (cntTable t : Nat) < 0 := by omega
  have z4 := c_laws_szBattle x _ (less_left (less_left (less_left left0 h1) h2) h3) wx
  by_cases h4 : (1048576 : Int) - (cntB b : Nat) - (s.units.length : Nat) - (cntTable t : Nat) < (cntBattle x : Nat)
  · rw [less_yes h4] at z4
    simp [xRun, a_laws_FnExactBattleResult, z1, h1', z2, h2', z3, h3', z4]
  rw [less_no h4] at z4
  have h4' : ¬ (1048576 : Int) - (cntB b : Nat) - (s.units.length : Nat) - (cntTable t : Nat) - (cntBattle x : Nat) < 0 := by omega
  have gb : LenB b := LenB_of (by omega)
  have gs : Len s.units.length := by unfold Len; omega
  have gt : LenTable t := LenTable_of (by omega)
  have gx : LenBattle x := LenBattle_of (by omega)
  simp [xRun, a_laws_FnExactBattleResult, z1, h1', z2, h2', z3, h3', z4, h4', c_laws_toBoard b gb, c_laws_eqBoard b gb, c_laws_toState s gs, c_laws_eqState s gs, c_laws_toCombatTable t gt, c_laws_eqCombatTable t gt, c_laws_toBattle x gx, c_laws_eqBattle x gx, c_spec_BattleResult b s t x roll gb gs gt gx, c_impl_BattleResult b s t x roll gb gs gt gx]
end Go.Abs.W
