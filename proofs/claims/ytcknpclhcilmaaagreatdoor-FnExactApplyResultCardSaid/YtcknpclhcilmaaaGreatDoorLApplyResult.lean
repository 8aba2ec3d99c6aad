/- The law ApplyResult, run. -/
import Derived.Test.YtcknpclhcilmaaaGreatDoorB3
import Derived.Test.YtcknpclhcilmaaaGreatDoorB7
import Derived.Test.YtcknpclhcilmaaaGreatDoorB10
set_option linter.unusedSimpArgs false
set_option linter.unusedVariables false
set_option maxRecDepth 100000
set_option maxHeartbeats 8000000
namespace Go.Abs.W
open Go Go.Abs Classical
attribute [-simp] Bool.decide_and
theorem c_spec_ApplyResult (b : Board) (s : State) (x : Battle) (r : Int) (gb : LenB b) (gs : Len s.units.length) (gx : LenBattle x) : C n_spec_ApplyResult [BoardV false b, StateV false s, BattleV false x, I r] = some (.tup [some (.agg (StateA true (resS b s x r))), some (.one (.bool (decide (ResOK b s x r))))]) := by
  refine callC p_spec_ApplyResult rfl ?_
  have e1 := c_spec_aResult b s x r gb gs gx
  unfold resS
  by_cases h : ResOK b s x r
  · have e2 := c_spec_aApply s x r h.1.1.few (h.1.2.sides h.1.1 gx) gs h.2
    simp [xRun, a_spec_ApplyResult, e1, h, e2]
  · simp [xRun, a_spec_ApplyResult, e1, h]
theorem resS_len {b : Board} {s : State} {x : Battle} {r : Int} (gs : Len s.units.length) : Len (resS b s x r).units.length := by
  unfold resS
  split
  · rw [apply_len]; exact gs
  · unfold Len; simp
theorem law_ApplyResult (b : Board) (s : State) (x : Battle) (r : Int) (wb : WideB b) (ws : Wide s.units.length) (wx : WideBattle x) : C n_laws_FnExactApplyResult [BoardV false b, StateV false s, BattleV false x, I r] = some (Bo true) := by
  refine callC p_laws_FnExactApplyResult rfl ?_
  have z1 := c_laws_szBoard b _ left0 wb
  by_cases h1 : (1048576 : Int) < (cntB b : Nat)
  · rw [less_yes h1] at z1
    simp [xRun, a_laws_FnExactApplyResult, z1]
  rw [less_no h1] at z1
  have h1' : ¬ (1048576 : Int) - (cntB b : Nat) < 0 := by omega
  have z2 := c_laws_szState s _ (less_left left0 h1) ws
  by_cases h2 : (1048576 : Int) - (cntB b : Nat) < (s.units.length : Nat)
  · rw [less_yes h2] at z2
    simp [xRun, a_laws_FnExactApplyResult, z1, h1', z2]
  rw [less_no h2] at z2
  have h2' : ¬ (1048576 : Int) - (cntB b : Nat) - (s.units.length : Nat) < 0 := by omega
  have z3 := c_laws_szBattle x _ (less_left (less_left left0 h1) h2) wx
  by_cases h3 : (1048576 : Int) - (cntB b : Nat) - (s.units.length : Nat) < (cntBattle x : Nat)
  · rw [less_yes h3] at z3
    simp [xRun, a_laws_FnExactApplyResult, z1, h1', z2, h2', z3]
  rw [less_no h3] at z3
  have h3' : ¬ (1048576 : Int) - (cntB b : Nat) - (s.units.length : Nat) - (cntBattle x : Nat) < 0 := by omega
  have gb : LenB b := LenB_of (by omega)
  have gs : Len s.units.length := by unfold Len; omega
  have gx : LenBattle x := LenBattle_of (by omega)
  have hm0 := marks_le b
  have hux : cntBattle x = x.attackers.length + x.defenders.length := rfl
  have e1 := c_spec_ApplyResult b s x r gb gs gx
  have e2 := c_impl_ApplyResult b s x r gb gs gx
  have hlen : Len (resS b s x r).units.length := resS_len gs
  generalize resS b s x r = R at *
  generalize decide (ResOK b s x r) = sc0 at *
  have m0 := c_laws_markBoard b 1 gb (by unfold Mk; omega)
  obtain ⟨K1, hK1⟩ : ∃ K : Int, K = 1 + ((cR b.rules + cM b.map : Nat) : Int) := ⟨_, rfl⟩
  rw [← hK1] at m0
  have m1 := c_laws_markState s K1 gs (by unfold Mk; omega)
  obtain ⟨K2, hK2⟩ : ∃ K : Int, K = K1 + ((4 * s.units.length : Nat) : Int) := ⟨_, rfl⟩
  rw [← hK2] at m1
  have m2 := c_laws_markBattle x K2 gx (by unfold Mk; omega)
  obtain ⟨K3, hK3⟩ : ∃ K : Int, K = K2 + (x.attackers.length : Int) + (x.defenders.length : Int) := ⟨_, rfl⟩
  rw [← hK3] at m2
  have hlen2 := hlen
  unfold Len at hlen2
  have r1 := c_laws_eqState R hlen
  have r2 := c_laws_markState R 1 hlen (by unfold Mk; omega)
  have r3 := c_laws_heldState R 1 hlen (by unfold Mk; omega)
  obtain ⟨M, hM⟩ : ∃ M : Int, M = 1 + ((4 * R.units.length : Nat) : Int) := ⟨_, rfl⟩
  rw [← hM] at r2 r3
  have n2 : ¬ M < 0 := by omega
  have n1 : ¬ K3 < 0 := by omega
  have b0 := c_laws_toBoard b gb
  have d0 := c_laws_eqBoard b gb
  have b1 := c_laws_toState s gs
  have d1 := c_laws_eqState s gs
  have b2 := c_laws_toBattle x gx
  have d2 := c_laws_eqBattle x gx
  clear hK1 hK2 hK3 hM
  simp (config := { maxSteps := 4000000 }) [xRun, a_laws_FnExactApplyResult, z1, h1', z2, h2', z3, h3', e1, e2, m0, m1, m2, r1, r2, r3, n2, n1, b0, d0, b1, d1, b2, d2, mRules, mMap]
end Go.Abs.W
