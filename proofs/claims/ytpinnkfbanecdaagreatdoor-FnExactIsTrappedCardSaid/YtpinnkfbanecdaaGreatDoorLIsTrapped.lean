/- The law IsTrapped, run. -/
import Derived.Test.YtpinnkfbanecdaaGreatDoorB1
set_option linter.unusedSimpArgs false
set_option linter.unusedVariables false
set_option maxRecDepth 100000
set_option maxHeartbeats 2000000
namespace Go.Abs.W
open Go Go.Abs Classical
attribute [-simp] Bool.decide_and
theorem c_spec_IsTrapped (b : Board) (s : State) (u : Int) (gb : LenB b) (gs : Len s.units.length) : C n_spec_IsTrapped [BoardV false b, StateV false s, I u] = some (Tup2 (.bool (decide ((StateOK b s ∧ Has s u ∧ 0 ≤ (unitAt s u).pos) ∧ pathsM b s u 1 (unitAt s u).pos [] = []))) (.bool (decide (StateOK b s ∧ Has s u ∧ 0 ≤ (unitAt s u).pos)))) := by
  refine callC p_spec_IsTrapped rfl ?_
  have e1 := c_spec_fOn b s u gb gs
  by_cases h : StateOK b s ∧ Has s u ∧ 0 ≤ (unitAt s u).pos
  · have e2 : C n_spec_gAll [BoardV false b, StateV false s, I u, I 1] = _ := c_spec_gAll b s u 1 gb h.1 h.2.1 h.2.2 (by decide)
    rw [decide_eq_true h] at e1
    simp only [decide_eq_true h]
    by_cases h2 : pathsM b s u 1 (unitAt s u).pos [] = []
    · simp only [decide_eq_true (show (StateOK b s ∧ Has s u ∧ 0 ≤ (unitAt s u).pos) ∧ pathsM b s u 1 (unitAt s u).pos [] = [] from ⟨h, h2⟩)]
      rw [h2] at e2
      simp [xRun, a_spec_IsTrapped, e1, e2, rows_nil]
    · simp only [decide_eq_false (show ¬ ((StateOK b s ∧ Has s u ∧ 0 ≤ (unitAt s u).pos) ∧ pathsM b s u 1 (unitAt s u).pos [] = []) from fun hh => h2 hh.2)]
      have h3 : ¬ (pathsM b s u 1 (unitAt s u).pos []).length = 0 := fun hh => h2 (List.eq_nil_of_length_eq_zero hh)
      simp [xRun, a_spec_IsTrapped, e1, e2, rows_length, h3, h2]
  · rw [decide_eq_false h] at e1
    simp only [decide_eq_false h, decide_eq_false (show ¬ ((StateOK b s ∧ Has s u ∧ 0 ≤ (unitAt s u).pos) ∧ pathsM b s u 1 (unitAt s u).pos [] = []) from fun hh => h hh.1)]
    simp [xRun, a_spec_IsTrapped, e1]
theorem c_impl_IsTrapped (b : Board) (s : State) (u : Int) (gb : LenB b) (gs : Len s.units.length) : C n_impl_IsTrapped [BoardV false b, StateV false s, I u] = some (Tup2 (.bool (decide ((StateOK b s ∧ Has s u ∧ 0 ≤ (unitAt s u).pos) ∧ pathsM b s u 1 (unitAt s u).pos [] = []))) (.bool (decide (StateOK b s ∧ Has s u ∧ 0 ≤ (unitAt s u).pos)))) := by
  refine callC p_impl_IsTrapped rfl ?_
  have e1 := c_impl_onMap b s u gb gs
  by_cases h : StateOK b s ∧ Has s u ∧ 0 ≤ (unitAt s u).pos
  · have e2 : C n_impl_retreatsOf [BoardV false b, StateV false s, I u, I 1] = _ := c_impl_retreatsOf b s u 1 gb h.1 h.2.1 h.2.2 (by decide)
    rw [decide_eq_true h] at e1
    simp only [decide_eq_true h]
    by_cases h2 : pathsM b s u 1 (unitAt s u).pos [] = []
    · simp only [decide_eq_true (show (StateOK b s ∧ Has s u ∧ 0 ≤ (unitAt s u).pos) ∧ pathsM b s u 1 (unitAt s u).pos [] = [] from ⟨h, h2⟩)]
      rw [h2] at e2
      simp [xRun, a_impl_IsTrapped, e1, e2, rows_nil]
    · simp only [decide_eq_false (show ¬ ((StateOK b s ∧ Has s u ∧ 0 ≤ (unitAt s u).pos) ∧ pathsM b s u 1 (unitAt s u).pos [] = []) from fun hh => h2 hh.2)]
      have h3 : ¬ (pathsM b s u 1 (unitAt s u).pos []).length = 0 := fun hh => h2 (List.eq_nil_of_length_eq_zero hh)
      simp [xRun, a_impl_IsTrapped, e1, e2, rows_length, h3, h2]
  · rw [decide_eq_false h] at e1
    simp only [decide_eq_false h, decide_eq_false (show ¬ ((StateOK b s ∧ Has s u ∧ 0 ≤ (unitAt s u).pos) ∧ pathsM b s u 1 (unitAt s u).pos [] = []) from fun hh => h hh.1)]
    simp [xRun, a_impl_IsTrapped, e1]
theorem law_IsTrapped (b : Board) (s : State) (u : Int) (wb : WideB b) (ws : Wide s.units.length) : C n_laws_FnExactIsTrapped [BoardV false b, StateV false s, I u] = some (Bo true) := by
  refine callC p_laws_FnExactIsTrapped rfl ?_
  have z1 := c_laws_szBoard b _ left0 wb
  by_cases h1 : (1048576 : Int) < (cntB b : Nat)
  · rw [less_yes h1] at z1
    simp [xRun, a_laws_FnExactIsTrapped, z1]
  rw [less_no h1] at z1
  have h1' : ¬ (1048576 : Int) - (cntB b : Nat) < 0 := by omega
  have z2 := c_laws_szState s _ (less_left left0 h1) ws
  by_cases h2 : (1048576 : Int) - (cntB b : Nat) < (s.units.length : Nat)
  · rw [less_yes h2] at z2
    simp [xRun, a_laws_FnExactIsTrapped, z1, h1', z2]
  rw [less_no h2] at z2
  have h2' : ¬ (1048576 : Int) - (cntB b : Nat) - (s.units.length : Nat) < 0 := by omega
  have gb : LenB b := LenB_of (by omega)
  have gs : Len s.units.length := by unfold Len; omega
  simp [xRun, a_laws_FnExactIsTrapped, z1, h1', z2, h2', c_laws_toBoard b gb, c_laws_eqBoard b gb, c_laws_toState s gs, c_laws_eqState s gs, c_spec_IsTrapped b s u gb gs, c_impl_IsTrapped b s u gb gs]
end Go.Abs.W
