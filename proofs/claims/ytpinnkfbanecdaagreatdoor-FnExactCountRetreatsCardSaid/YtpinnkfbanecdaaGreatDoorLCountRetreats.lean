/- The law CountRetreats, run. -/
import Derived.Test.YtpinnkfbanecdaaGreatDoorB1
set_option linter.unusedSimpArgs false
set_option linter.unusedVariables false
set_option maxRecDepth 100000
set_option maxHeartbeats 2000000
namespace Go.Abs.W
open Go Go.Abs Classical
attribute [-simp] Bool.decide_and
theorem c_spec_CountRetreats (b : Board) (s : State) (u n : Int) (gb : LenB b) (gs : Len s.units.length) : C n_spec_CountRetreats [BoardV false b, StateV false s, I u, I n] = some (Tup2 (.int .i64 (if AskOK b s u n then (pathsM b s u n.toNat (unitAt s u).pos []).length else 0)) (.bool (decide (AskOK b s u n)))) := by
  refine callC p_spec_CountRetreats rfl ?_
  have e1 := c_spec_gAsked b s u n gb gs
  by_cases h : AskOK b s u n
  · obtain ⟨k, rfl⟩ : ∃ k : Nat, n = k := ⟨n.toNat, by have := h.2; omega⟩
    have e2 := c_spec_gAll b s u k gb h.1.1 h.1.2.1 h.1.2.2 (by have := h.2; omega)
    simp [xRun, a_spec_CountRetreats, e1, h, e2, rows_length]
  · simp [xRun, a_spec_CountRetreats, e1, h]
theorem c_impl_CountRetreats (b : Board) (s : State) (u n : Int) (gb : LenB b) (gs : Len s.units.length) : C n_impl_CountRetreats [BoardV false b, StateV false s, I u, I n] = some (Tup2 (.int .i64 (if AskOK b s u n then (pathsM b s u n.toNat (unitAt s u).pos []).length else 0)) (.bool (decide (AskOK b s u n)))) := by
  refine callC p_impl_CountRetreats rfl ?_
  have e1 := c_impl_isRetreat b s u n gb gs
  by_cases h : AskOK b s u n
  · obtain ⟨k, rfl⟩ : ∃ k : Nat, n = k := ⟨n.toNat, by have := h.2; omega⟩
    have e2 := c_impl_retreatsOf b s u k gb h.1.1 h.1.2.1 h.1.2.2 (by have := h.2; omega)
    simp [xRun, a_impl_CountRetreats, e1, h, e2, rows_length]
  · simp [xRun, a_impl_CountRetreats, e1, h]
theorem law_CountRetreats (b : Board) (s : State) (u : Int) (n : Int) (wb : WideB b) (ws : Wide s.units.length) : C n_laws_FnExactCountRetreats [BoardV false b, StateV false s, I u, I n] = some (Bo true) := by
  refine callC p_laws_FnExactCountRetreats rfl ?_
  have z1 := c_laws_szBoard b _ left0 wb
  by_cases h1 : (1048576 : Int) < (cntB b : Nat)
  · rw [less_yes h1] at z1
    simp [xRun, a_laws_FnExactCountRetreats, z1]
  rw [less_no h1] at z1
  have h1' : ¬ (1048576 : Int) - (cntB b : Nat) < 0 := by omega
  have z2 := c_laws_szState s _ (less_left left0 h1) ws
  by_cases h2 : (1048576 : Int) - (cntB b : Nat) < (s.units.length : Nat)
  · rw [less_yes h2] at z2
    simp [xRun, a_laws_FnExactCountRetreats, z1, h1', z2]
  rw [less_no h2] at z2
  have h2' : ¬ (1048576 : Int) - (cntB b : Nat) - (s.units.length : Nat) < 0 := by omega
  have gb : LenB b := LenB_of (by omega)
  have gs : Len s.units.length := by unfold Len; omega
  simp [xRun, a_laws_FnExactCountRetreats, z1, h1', z2, h2', c_laws_toBoard b gb, c_laws_eqBoard b gb, c_laws_toState s gs, c_laws_eqState s gs, c_spec_CountRetreats b s u n gb gs, c_impl_CountRetreats b s u n gb gs]
end Go.Abs.W
