/- The law SheetText, run. -/
import Derived.Test.YtijnjfcblkbdbaaGreatDoorB4
set_option linter.unusedSimpArgs false
set_option linter.unusedVariables false
set_option maxRecDepth 100000
set_option maxHeartbeats 2000000
namespace Go.Abs.W
open Go Go.Abs Classical
attribute [-simp] Bool.decide_and
theorem c_spec_SheetText (b : Board) (s : State) (x : Sheet) (gb : LenB b) (gs : Len s.units.length) (gx : LenSheet x) : C n_spec_SheetText [BoardV false b, StateV false s, SheetV false x] = some (.tup [some (.one (.str (if StateOK b s ∧ SheetOK b s x then bs (sheetB x) else ⟨#[]⟩))), some (.one (.bool (decide (StateOK b s ∧ SheetOK b s x))))]) := by
  refine callC p_spec_SheetText rfl ?_
  have e1 := c_spec_oGood b s x gb gs gx
  by_cases h : StateOK b s ∧ SheetOK b s x
  · have e2 := c_spec_oText x h.2.1.1 (by have := h.2.1.2; omega) (sheet_ordT h.1 h.2)
    simp [xRun, a_spec_SheetText, e1, e2, h]
  · simp [xRun, a_spec_SheetText, e1, h]
theorem c_impl_SheetText (b : Board) (s : State) (x : Sheet) (gb : LenB b) (gs : Len s.units.length) (gx : LenSheet x) : C n_impl_SheetText [BoardV false b, StateV false s, SheetV false x] = some (.tup [some (.one (.str (if StateOK b s ∧ SheetOK b s x then bs (sheetB x) else ⟨#[]⟩))), some (.one (.bool (decide (StateOK b s ∧ SheetOK b s x))))]) := by
  refine callC p_impl_SheetText rfl ?_
  have e1 := c_impl_hasSheet b s x gb gs gx
  by_cases h : StateOK b s ∧ SheetOK b s x
  · have e2 := c_impl_sheetText x h.2.1.1 (by have := h.2.1.2; omega) (sheet_ordT h.1 h.2)
    simp [xRun, a_impl_SheetText, e1, e2, h]
  · simp [xRun, a_impl_SheetText, e1, h]
theorem law_SheetText (b : Board) (s : State) (x : Sheet) (wb : WideB b) (ws : Wide s.units.length) (wx : WideSheet x) : C n_laws_FnExactSheetText [BoardV false b, StateV false s, SheetV false x] = some (Bo true) := by
  refine callC p_laws_FnExactSheetText rfl ?_
  have z1 := c_laws_szBoard b _ left0 wb
  by_cases h1 : (1048576 : Int) < (cntB b : Nat)
  · rw [less_yes h1] at z1
    simp [xRun, a_laws_FnExactSheetText, z1]
  rw [less_no h1] at z1
  have h1' : ¬ (1048576 : Int) - (cntB b : Nat) < 0 := by omega
  have z2 := c_laws_szState s _ (less_left left0 h1) ws
  by_cases h2 : (1048576 : Int) - (cntB b : Nat) < (s.units.length : Nat)
  · rw [less_yes h2] at z2
    simp [xRun, a_laws_FnExactSheetText, z1, h1', z2]
  rw [less_no h2] at z2
  have h2' : ¬ (1048576 : Int) - (cntB b : Nat) - (s.units.length : Nat) < 0 := by omega
  have z3 := c_laws_szSheet x _ (less_left (less_left left0 h1) h2) wx
  by_cases h3 : (1048576 : Int) - (cntB b : Nat) - (s.units.length : Nat) < (cntSheet x : Nat)
  · rw [less_yes h3] at z3
    simp [xRun, a_laws_FnExactSheetText, z1, h1', z2, h2', z3]
  rw [less_no h3] at z3
  have h3' : ¬ (1048576 : Int) - (cntB b : Nat) - (s.units.length : Nat) - (cntSheet x : Nat) < 0 := by omega
  have gb : LenB b := LenB_of (by omega)
  have gs : Len s.units.length := by unfold Len; omega
  have gx : LenSheet x := LenSheet_of (by omega)
  have e1 := c_spec_SheetText b s x gb gs gx
  have e2 := c_impl_SheetText b s x gb gs gx
  generalize (if StateOK b s ∧ SheetOK b s x then bs (sheetB x) else ⟨#[]⟩) = t at e1 e2
  generalize decide (StateOK b s ∧ SheetOK b s x) = d at e1 e2
  simp [xRun, a_laws_FnExactSheetText, z1, h1', z2, h2', z3, h3', c_laws_toBoard b gb, c_laws_eqBoard b gb, c_laws_toState s gs, c_laws_eqState s gs, c_laws_toSheet x gx, c_laws_eqSheet x gx, e1, e2]
end Go.Abs.W
