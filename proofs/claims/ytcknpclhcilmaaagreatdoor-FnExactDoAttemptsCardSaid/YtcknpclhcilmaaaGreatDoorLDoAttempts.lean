/- The law DoAttempts, run. -/
import Derived.Test.YtcknpclhcilmaaaGreatDoorB3
import Derived.Test.YtcknpclhcilmaaaGreatDoorB10
import Derived.Test.YtcknpclhcilmaaaGreatDoorB17
set_option linter.unusedSimpArgs false
set_option linter.unusedVariables false
set_option maxRecDepth 100000
set_option maxHeartbeats 8000000
namespace Go.Abs.W
open Go Go.Abs Classical
attribute [-simp] Bool.decide_and
theorem law_DoAttempts (b : Board) (s : State) (l : List Attempt) (wb : WideB b) (ws : Wide s.units.length) (wl : Wide l.length) : C n_laws_FnExactDoAttempts [BoardV false b, StateV false s, AttemptsV false l] = some (Bo true) := by
  refine callC p_laws_FnExactDoAttempts rfl ?_
  have z1 := c_laws_szBoard b _ left0 wb
  by_cases h1 : (1048576 : Int) < (cntB b : Nat)
  · rw [less_yes h1] at z1
    simp [xRun, a_laws_FnExactDoAttempts, z1]
  rw [less_no h1] at z1
  have h1' : ¬ (1048576 : Int) - (cntB b : Nat) < 0 := by omega
  have z2 := c_laws_szState s _ (less_left left0 h1) ws
  by_cases h2 : (1048576 : Int) - (cntB b : Nat) < (s.units.length : Nat)
  · rw [less_yes h2] at z2
    simp [xRun, a_laws_FnExactDoAttempts, z1, h1', z2]
  rw [less_no h2] at z2
  have h2' : ¬ (1048576 : Int) - (cntB b : Nat) - (s.units.length : Nat) < 0 := by omega
  have z3 := c_laws_szAttemptS l _ (less_left (less_left left0 h1) h2) wl
  by_cases h3 : (1048576 : Int) - (cntB b : Nat) - (s.units.length : Nat) < (l.length : Nat)
  · rw [less_yes h3] at z3
    simp [xRun, a_laws_FnExactDoAttempts, z1, h1', z2, h2', z3]
  rw [less_no h3] at z3
  have h3' : ¬ (1048576 : Int) - (cntB b : Nat) - (s.units.length : Nat) - (l.length : Nat) < 0 := by omega
  have gb : LenB b := LenB_of (by omega)
  have gs : Len s.units.length := by unfold Len; omega
  have gl : Len l.length := by unfold Len; omega
  have hm0 := marks_le b
  have e1 := c_spec_DoAttempts b s l gb gs gl
  have e2 := c_impl_DoAttempts b s l gb gs gl
  have hlen : Len (doR b s l).units.length := doR_len gs
  generalize doR b s l = R at *
  generalize decide (AsksOK b s l) = sc0 at *
  have m0 := c_laws_markBoard b 1 gb (by unfold Mk; omega)
  obtain ⟨K1, hK1⟩ : ∃ K : Int, K = 1 + ((cR b.rules + cM b.map : Nat) : Int) := ⟨_, rfl⟩
  rw [← hK1] at m0
  have m1 := c_laws_markState s K1 gs (by unfold Mk; omega)
  obtain ⟨K2, hK2⟩ : ∃ K : Int, K = K1 + ((4 * s.units.length : Nat) : Int) := ⟨_, rfl⟩
  rw [← hK2] at m1
  have m2 := c_laws_markAttemptS l K2 gl (by unfold Mk; omega)
  obtain ⟨K3, hK3⟩ : ∃ K : Int, K = K2 + ((3 * l.length : Nat) : Int) := ⟨_, rfl⟩
  rw [← hK3] at m2
  have hlen2 := hlen
  unfold Len at hlen2
  have r1 := c_laws_eqState R hlen
  have r2 := c_laws_markState R 1 hlen (by unfold Mk; omega)
  have r3 := c_laws_heldState R 1 hlen (by unfold Mk; omega)
  obtain ⟨M, hM⟩ : ∃ M : Int, M = 1 + ((4 * R.units.length : Nat) : Int) := ⟨_, rfl⟩
  rw [← hM] at r2 r3
  have n2 : ¬ M < 0 := by omega
  have n1 : ¬ K3 < 0 := by omega
  have b0 := c_laws_toBoard b gb
  have d0 := c_laws_eqBoard b gb
  have b1 := c_laws_toState s gs
  have d1 := c_laws_eqState s gs
  have b2 := c_laws_toAttemptS l gl
  have d2 := c_laws_eqAttemptS l gl
  clear hK1 hK2 hK3 hM
  simp (config := { maxSteps := 4000000 }) [xRun, a_laws_FnExactDoAttempts, z1, h1', z2, h2', z3, h3', e1, e2, m0, m1, m2, r1, r2, r3, n2, n1, b0, d0, b1, d1, b2, d2, mRules, mMap]
end Go.Abs.W
