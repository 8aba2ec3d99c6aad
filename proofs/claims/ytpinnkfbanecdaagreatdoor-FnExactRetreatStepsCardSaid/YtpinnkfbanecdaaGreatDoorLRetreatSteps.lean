/- The law RetreatSteps, run. -/
import Derived.Test.YtpinnkfbanecdaaGreatDoorB3
set_option linter.unusedSimpArgs false
set_option linter.unusedVariables false
set_option maxRecDepth 100000
set_option maxHeartbeats 4000000
namespace Go.Abs.W
open Go Go.Abs Classical
attribute [-simp] Bool.decide_and
theorem cT_le (l : List Terrain) : cT l ≤ 4 * l.length + sumN cntT l := by
  induction l with
  | nil => simp [cT]
  | cons t l ih =>
    have h1 : cT (t :: l) = 4 + t.cost.length + cT l := by simp [cT]
    have h2 : sumN cntT (t :: l) = cntT t + sumN cntT l := by rw [show t :: l = [t] ++ l from rfl, sumN_app, sumN_one]
    have h3 : t.cost.length ≤ cntT t := by unfold cntT; omega
    rw [h1, h2, List.length_cons]; omega
theorem marks_le (b : Board) : cR b.rules + cM b.map ≤ 10 * cntB b := by
  have := cT_le b.rules.terrains
  unfold cR cM cntB cntR cntM
  omega
theorem law_RetreatSteps (b : Board) (s : State) (u : Int) (wb : WideB b) (ws : Wide s.units.length) : C n_laws_FnExactRetreatSteps [BoardV false b, StateV false s, I u] = some (Bo true) := by
  refine callC p_laws_FnExactRetreatSteps rfl ?_
  have z1 := c_laws_szBoard b _ left0 wb
  by_cases h1 : (1048576 : Int) < (cntB b : Nat)
  · rw [less_yes h1] at z1
    simp [xRun, a_laws_FnExactRetreatSteps, z1]
  rw [less_no h1] at z1
  have h1' : ¬ (1048576 : Int) - (cntB b : Nat) < 0 := by omega
  have z2 := c_laws_szState s _ (less_left left0 h1) ws
  by_cases h2 : (1048576 : Int) - (cntB b : Nat) < (s.units.length : Nat)
  · rw [less_yes h2] at z2
    simp [xRun, a_laws_FnExactRetreatSteps, z1, h1', z2]
  rw [less_no h2] at z2
  have h2' : ¬ (1048576 : Int) - (cntB b : Nat) - (s.units.length : Nat) < 0 := by omega
  have gb : LenB b := LenB_of (by omega)
  have gs : Len s.units.length := by unfold Len; omega
  have hml := marks_le b
  have e1 := c_spec_RetreatSteps b s u gb gs
  have e2 := c_impl_RetreatSteps b s u gb gs
  have hlen : (stepsR b s u).length ≤ 6 := by
    unfold stepsR
    split
    · exact stepsM_le ..
    · simp
  generalize stepsR b s u = L at *
  generalize decide (OnOK b s u) = ok at *
  have e3 := c_laws_eqIntS L (by unfold Len; omega)
  have e4 := c_laws_markBoard b 1 gb (by unfold Mk; omega)
  have e5 := c_laws_markState s (1 + ((cR b.rules + cM b.map : Nat) : Int)) gs (by unfold Mk; omega)
  have e6 := c_laws_markIntS L 1 (by unfold Len; omega) (by unfold Mk; omega)
  have e7 := c_laws_heldIntS 1 L.length (by unfold Len; omega) (by unfold Mk; omega)
  have n1 : ¬ (1 + ((cR b.rules + cM b.map : Nat) : Int)) + ((4 * s.units.length : Nat) : Int) < 0 := by omega
  have n2 : ¬ (1 + (L.length : Int)) < 0 := by omega
  have b1 := c_laws_toBoard b gb
  have b2 := c_laws_eqBoard b gb
  have b3 := c_laws_toState s gs
  have b4 := c_laws_eqState s gs
  generalize (1 + ((cR b.rules + cM b.map : Nat) : Int)) = K at *
  generalize K + ((4 * s.units.length : Nat) : Int) = K2 at *
  generalize (1 + (L.length : Int)) = K3 at *
  simp [xRun, a_laws_FnExactRetreatSteps, z1, h1', z2, h2', b1, b2, b3, b4, e1, e2, e3, e4, e5, e6, e7, n1, n2, mRules, mMap]
end Go.Abs.W
