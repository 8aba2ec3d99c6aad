/- The law SheetFault, run. -/
import Derived.Test.YtbbiikkiidgpaaaGreatDoorB8
set_option linter.unusedSimpArgs false
set_option linter.unusedVariables false
set_option maxRecDepth 100000
set_option maxHeartbeats 2000000
namespace Go.Abs.W
open Go Go.Abs Classical
attribute [-simp] Bool.decide_and
noncomputable def sfR (b : Board) (s : State) (x : Sheet) : Int × Int := if StateOK b s ∧ FormOK x then firstBad b s x else (0, 0)
theorem c_spec_SheetFault (b : Board) (s : State) (x : Sheet) (gb : LenB b) (gs : Len s.units.length) (gx : LenSheet x) : C n_spec_SheetFault [BoardV false b, StateV false s, SheetV false x] = some (.tup [some (.one (.int .i64 (sfR b s x).1)), some (.one (.int .i64 (sfR b s x).2)), some (.one (.bool (decide (StateOK b s ∧ FormOK x))))]) := by
  refine callC p_spec_SheetFault rfl ?_
  unfold sfR
  have e1 := c_spec_sGood b s gb gs
  have e2 := c_spec_oForm x
  by_cases h : StateOK b s
  · by_cases h2 : FormOK x
    · have e3 := c_spec_oFirst b s x gb h gx
      simp [xRun, a_spec_SheetFault, e1, h, e2, h2, e3]
    · simp [xRun, a_spec_SheetFault, e1, h, e2, h2]
  · simp [xRun, a_spec_SheetFault, e1, h]
theorem c_impl_SheetFault (b : Board) (s : State) (x : Sheet) (gb : LenB b) (gs : Len s.units.length) (gx : LenSheet x) : C n_impl_SheetFault [BoardV false b, StateV false s, SheetV false x] = some (.tup [some (.one (.int .i64 (sfR b s x).1)), some (.one (.int .i64 (sfR b s x).2)), some (.one (.bool (decide (StateOK b s ∧ FormOK x))))]) := by
  refine callC p_impl_SheetFault rfl ?_
  unfold sfR
  have e1 := c_impl_fits b s gb gs
  by_cases h : StateOK b s
  · by_cases h1 : 0 ≤ x.side ∧ x.side ≤ 1
    · by_cases h2 : (x.orders.length : Int) ≤ 12
      · have h2' : ¬ (12 : Int) < x.orders.length := by omega
        have hP : FormOK x := ⟨h1, h2⟩
        have e3 := c_impl_sheetFault b s x gb h gx
        simp [xRun, a_impl_SheetFault, e1, h, h1, h2', e3, hP]
      · have h2' : (12 : Int) < x.orders.length := by omega
        have hP : ¬ FormOK x := fun h => h2 h.2
        simp [xRun, a_impl_SheetFault, e1, h, h1, h2', hP]
    · have hP : ¬ FormOK x := fun h => h1 h.1
      simp [xRun, a_impl_SheetFault, e1, h, h1, hP]
  · simp [xRun, a_impl_SheetFault, e1, h]
theorem law_SheetFault (b : Board) (s : State) (x : Sheet) (wb : WideB b) (ws : Wide s.units.length) (wx : WideSheet x) : C n_laws_FnExactSheetFault [BoardV false b, StateV false s, SheetV false x] = some (Bo true) := by
  refine callC p_laws_FnExactSheetFault rfl ?_
  have z1 := c_laws_szBoard b _ left0 wb
  by_cases h1 : (1048576 : Int) < (cntB b : Nat)
  · rw [less_yes h1] at z1
    simp [xRun, a_laws_FnExactSheetFault, z1]
  rw [less_no h1] at z1
  have h1' : ¬ (1048576 : Int) - (cntB b : Nat) < 0 := by omega
  have z2 := c_laws_szState s _ (less_left left0 h1) ws
  by_cases h2 : (1048576 : Int) - (cntB b : Nat) < (s.units.length : Nat)
  · rw [less_yes h2] at z2
    simp [xRun, a_laws_FnExactSheetFault, z1, h1', z2]
  rw [less_no h2] at z2
  have h2' : ¬ (1048576 : Int) - (cntB b : Nat) - (s.units.length : Nat) < 0 := by omega
  have z3 := c_laws_szSheet x _ (less_left (less_left left0 h1) h2) wx
  by_cases h3 : (1048576 : Int) - (cntB b : Nat) - (s.units.length : Nat) < (cntSheet x : Nat)
  · rw [less_yes h3] at z3
    simp [xRun, a_laws_FnExactSheetFault, z1, h1', z2, h2', z3]
  rw [less_no h3] at z3
  have h3' : ¬ (1048576 : Int) - (cntB b : Nat) - (s.units.length : Nat) - (cntSheet x : Nat) < 0 := by omega
  have gb : LenB b := LenB_of (by omega)
  have gs : Len s.units.length := by unfold Len; omega
  have gx : LenSheet x := LenSheet_of (by omega)
  simp [xRun, a_laws_FnExactSheetFault, z1, h1', z2, h2', z3, h3', c_laws_toBoard b gb, c_laws_eqBoard b gb, c_laws_toState s gs, c_laws_eqState s gs, c_laws_toSheet x gx, c_laws_eqSheet x gx, c_spec_SheetFault b s x gb gs gx, c_impl_SheetFault b s x gb gs gx]
end Go.Abs.W
