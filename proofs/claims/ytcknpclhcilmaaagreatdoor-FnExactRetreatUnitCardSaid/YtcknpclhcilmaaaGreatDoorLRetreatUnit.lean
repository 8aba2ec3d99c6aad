/- The law RetreatUnit, run. -/
import Derived.Test.YtcknpclhcilmaaaGreatDoorB3
import Derived.Test.YtcknpclhcilmaaaGreatDoorB10
import Derived.Test.YtcknpclhcilmaaaGreatDoorB12
set_option linter.unusedSimpArgs false
set_option linter.unusedVariables false
set_option maxRecDepth 100000
set_option maxHeartbeats 8000000
namespace Go.Abs.W
open Go Go.Abs Classical
attribute [-simp] Bool.decide_and
noncomputable def retR (b : Board) (s : State) (u n : Int) : State := if AskOK b s u n then retreatM b s u n.toNat else ⟨0, 0, []⟩
noncomputable def wentR (b : Board) (s : State) (u n : Int) : Bool := if AskOK b s u n then wentM b s u n.toNat else false
theorem c_spec_RetreatUnit (b : Board) (s : State) (u n : Int) (gb : LenB b) (gs : Len s.units.length) : C n_spec_RetreatUnit [BoardV false b, StateV false s, I u, I n] = some (.tup [some (.agg (StateA true (retR b s u n))), some (.one (.bool (wentR b s u n))), some (.one (.bool (decide (AskOK b s u n))))]) := by
  refine callC p_spec_RetreatUnit rfl ?_
  have e1 := c_spec_gAsked b s u n gb gs
  unfold retR wentR
  by_cases h : AskOK b s u n
  rotate_left
  · simp [xRun, a_spec_RetreatUnit, e1, h]
  obtain ⟨k, rfl⟩ : ∃ k : Nat, n = k := ⟨n.toNat, by have := h.2; omega⟩
  have e2 := c_spec_gRetreat b s u k gb h.1.1 h.1.2.1 h.1.2.2 (by have := h.2; omega)
  simp [xRun, a_spec_RetreatUnit, e1, h, e2]
theorem c_impl_RetreatUnit (b : Board) (s : State) (u n : Int) (gb : LenB b) (gs : Len s.units.length) : C n_impl_RetreatUnit [BoardV false b, StateV false s, I u, I n] = some (.tup [some (.agg (StateA true (retR b s u n))), some (.one (.bool (wentR b s u n))), some (.one (.bool (decide (AskOK b s u n))))]) := by
  refine callC p_impl_RetreatUnit rfl ?_
  have e1 := c_impl_isRetreat b s u n gb gs
  unfold retR wentR
  by_cases h : AskOK b s u n
  rotate_left
  · simp [xRun, a_impl_RetreatUnit, e1, h]
  obtain ⟨k, rfl⟩ : ∃ k : Nat, n = k := ⟨n.toNat, by have := h.2; omega⟩
  have e2 := c_impl_retreatUnit b s u k gb h.1.1 h.1.2.1 h.1.2.2 (by have := h.2; omega)
  simp [xRun, a_impl_RetreatUnit, e1, h, e2]
theorem retR_len {b : Board} {s : State} {u n : Int} (gs : Len s.units.length) : Len (retR b s u n).units.length := by
  unfold retR
  split
  · rw [retreatM_len]; exact gs
  · unfold Len; simp
theorem law_RetreatUnit (b : Board) (s : State) (u : Int) (n : Int) (wb : WideB b) (ws : Wide s.units.length) : C n_laws_FnExactRetreatUnit [BoardV false b, StateV false s, I u, I n] = some (Bo true) := by
  refine callC p_laws_FnExactRetreatUnit rfl ?_
  have z1 := c_laws_szBoard b _ left0 wb
  by_cases h1 : (1048576 : Int) < (cntB b : Nat)
  · rw [less_yes h1] at z1
    simp [xRun, a_laws_FnExactRetreatUnit, z1]
  rw [less_no h1] at z1
  have h1' : ¬ (1048576 : Int) - (cntB b : Nat) < 0 := by omega
  have z2 := c_laws_szState s _ (less_left left0 h1) ws
  by_cases h2 : (1048576 : Int) - (cntB b : Nat) < (s.units.length : Nat)
  · rw [less_yes h2] at z2
    simp [xRun, a_laws_FnExactRetreatUnit, z1, h1', z2]
  rw [less_no h2] at z2
  have h2' : ¬ (1048576 : Int) - (cntB b : Nat) - (s.units.length : Nat) < 0 := by omega
  have gb : LenB b := LenB_of (by omega)
  have gs : Len s.units.length := by unfold Len; omega
  have hm0 := marks_le b
  have e1 := c_spec_RetreatUnit b s u n gb gs
  have e2 := c_impl_RetreatUnit b s u n gb gs
  have hlen : Len (retR b s u n).units.length := retR_len gs
  generalize retR b s u n = R at *
  generalize wentR b s u n = sc0 at *
  generalize decide (AskOK b s u n) = sc1 at *
  have m0 := c_laws_markBoard b 1 gb (by unfold Mk; omega)
  obtain ⟨K1, hK1⟩ : ∃ K : Int, K = 1 + ((cR b.rules + cM b.map : Nat) : Int) := ⟨_, rfl⟩
  rw [← hK1] at m0
  have m1 := c_laws_markState s K1 gs (by unfold Mk; omega)
  obtain ⟨K2, hK2⟩ : ∃ K : Int, K = K1 + ((4 * s.units.length : Nat) : Int) := ⟨_, rfl⟩
  rw [← hK2] at m1
  have hlen2 := hlen
  unfold Len at hlen2
  have r1 := c_laws_eqState R hlen
  have r2 := c_laws_markState R 1 hlen (by unfold Mk; omega)
  have r3 := c_laws_heldState R 1 hlen (by unfold Mk; omega)
  obtain ⟨M, hM⟩ : ∃ M : Int, M = 1 + ((4 * R.units.length : Nat) : Int) := ⟨_, rfl⟩
  rw [← hM] at r2 r3
  have n2 : ¬ M < 0 := by omega
  have n1 : ¬ K2 < 0 := by omega
  have b0 := c_laws_toBoard b gb
  have d0 := c_laws_eqBoard b gb
  have b1 := c_laws_toState s gs
  have d1 := c_laws_eqState s gs
  clear hK1 hK2 hM
  simp (config := { maxSteps := 4000000 }) [xRun, a_laws_FnExactRetreatUnit, z1, h1', z2, h2', e1, e2, m0, m1, r1, r2, r3, n2, n1, b0, d0, b1, d1, mRules, mMap]
end Go.Abs.W
