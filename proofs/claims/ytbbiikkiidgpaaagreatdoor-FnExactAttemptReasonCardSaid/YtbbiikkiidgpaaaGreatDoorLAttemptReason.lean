/- The law AttemptReason, run. -/
import Derived.Test.YtbbiikkiidgpaaaGreatDoorB6
set_option linter.unusedSimpArgs false
set_option linter.unusedVariables false
set_option maxRecDepth 100000
set_option maxHeartbeats 2000000
namespace Go.Abs.W
open Go Go.Abs Classical
attribute [-simp] Bool.decide_and
theorem c_spec_AttemptReason (b : Board) (s : State) (l : List Attempt) (i : Int) (gb : LenB b) (gs : Len s.units.length) (gl : Len l.length) : C n_spec_AttemptReason [BoardV false b, StateV false s, AttemptsV false l, I i] = some (Tup2 (.int .i64 (if AsksOK b s l ∧ (0 ≤ i ∧ i < l.length) then reasonM b s l (at' l i) else 0)) (.bool (decide (AsksOK b s l ∧ (0 ≤ i ∧ i < l.length))))) := by
  refine callC p_spec_AttemptReason rfl ?_
  have e1 := c_spec_fAsked b s l gb gs gl
  by_cases h : AsksOK b s l
  · have w1 : IntKind.i64.wrap ((l.length : Int) - 1) = (l.length : Int) - 1 := by unfold Len at gl; exact wrap_small (by omega) (by omega)
    by_cases h2 : 0 ≤ i ∧ i < (l.length : Int)
    · have h3 : 0 ≤ i ∧ i ≤ (l.length : Int) - 1 := by omega
      obtain ⟨m, rfl⟩ : ∃ m : Nat, i = m := ⟨i.toNat, by omega⟩
      have ham := at_some h2.1 h2.2
      have e2 := c_spec_fReason b s l m (at' l m) gb h.1 (fun x hx => (h.2.1 x hx).1) (by unfold Len at gl; omega) (by simpa using ham)
      have hP : AsksOK b s l ∧ ((0 : Int) ≤ m ∧ (m : Int) < l.length) := ⟨h, h2⟩
      simp only [if_pos hP, decide_eq_true hP]
      simp [xRun, a_spec_AttemptReason, e1, h, w1, h3, e2]
    · have h3 : ¬ (0 ≤ i ∧ i ≤ (l.length : Int) - 1) := by omega
      have hP : ¬ (AsksOK b s l ∧ (0 ≤ i ∧ i < (l.length : Int))) := fun hh => h2 hh.2
      simp only [if_neg hP, decide_eq_false hP]
      simp [xRun, a_spec_AttemptReason, e1, h, w1, h3]
  · have hP : ¬ (AsksOK b s l ∧ (0 ≤ i ∧ i < (l.length : Int))) := fun hh => h hh.1
    simp only [if_neg hP, decide_eq_false hP]
    simp [xRun, a_spec_AttemptReason, e1, h]
theorem c_impl_AttemptReason (b : Board) (s : State) (l : List Attempt) (i : Int) (gb : LenB b) (gs : Len s.units.length) (gl : Len l.length) : C n_impl_AttemptReason [BoardV false b, StateV false s, AttemptsV false l, I i] = some (Tup2 (.int .i64 (if AsksOK b s l ∧ (0 ≤ i ∧ i < l.length) then reasonM b s l (at' l i) else 0)) (.bool (decide (AsksOK b s l ∧ (0 ≤ i ∧ i < l.length))))) := by
  refine callC p_impl_AttemptReason rfl ?_
  have e1 := c_impl_areAttempts b s l gb gs gl
  by_cases h : AsksOK b s l
  · have e3 := c_impl_isIndex i l.length (by omega) (by unfold Len at gl; omega)
    by_cases h2 : 0 ≤ i ∧ i < (l.length : Int)
    · obtain ⟨m, rfl⟩ : ∃ m : Nat, i = m := ⟨i.toNat, by omega⟩
      have ham := at_some h2.1 h2.2
      have e2 := c_impl_attemptReason b s l m (at' l m) gb h.1 (fun x hx => (h.2.1 x hx).1) (by unfold Len at gl; omega) (by simpa using ham)
      have hP : AsksOK b s l ∧ ((0 : Int) ≤ m ∧ (m : Int) < l.length) := ⟨h, h2⟩
      rw [decide_eq_true h2] at e3
      simp only [if_pos hP, decide_eq_true hP]
      simp [xRun, a_impl_AttemptReason, e1, h, e3, e2]
    · have hP : ¬ (AsksOK b s l ∧ (0 ≤ i ∧ i < (l.length : Int))) := fun hh => h2 hh.2
      rw [decide_eq_false h2] at e3
      simp only [if_neg hP, decide_eq_false hP]
      simp [xRun, a_impl_AttemptReason, e1, h, e3]
  · have hP : ¬ (AsksOK b s l ∧ (0 ≤ i ∧ i < (l.length : Int))) := fun hh => h hh.1
    simp only [if_neg hP, decide_eq_false hP]
    simp [xRun, a_impl_AttemptReason, e1, h]
theorem law_AttemptReason (b : Board) (s : State) (l : List Attempt) (i : Int) (wb : WideB b) (ws : Wide s.units.length) (wl : Wide l.length) : C n_laws_FnExactAttemptReason [BoardV false b, StateV false s, AttemptsV false l, I i] = some (Bo true) := by
  refine callC p_laws_FnExactAttemptReason rfl ?_
  have z1 := c_laws_szBoard b _ left0 wb
  by_cases h1 : (1048576 : Int) < (cntB b : Nat)
  · rw [less_yes h1] at z1
    simp [xRun, a_laws_FnExactAttemptReason, z1]
  rw [less_no h1] at z1
  have h1' : ¬ (1048576 : Int) - (cntB b : Nat) < 0 := by omega
  have z2 := c_laws_szState s _ (less_left left0 h1) ws
  by_cases h2 : (1048576 : Int) - (cntB b : Nat) < (s.units.length : Nat)
  · rw [less_yes h2] at z2
    simp [xRun, a_laws_FnExactAttemptReason, z1, h1', z2]
  rw [less_no h2] at z2
  have h2' : ¬ (1048576 : Int) - (cntB b : Nat) - (s.units.length : Nat) < 0 := by omega
  have z3 := c_laws_szAttemptS l _ (less_left (less_left left0 h1) h2) wl
  by_cases h3 : (1048576 : Int) - (cntB b : Nat) - (s.units.length : Nat) < (l.length : Nat)
  · rw [less_yes h3] at z3
    simp [xRun, a_laws_FnExactAttemptReason, z1, h1', z2, h2', z3]
  rw [less_no h3] at z3
  have h3' : ¬ (1048576 : Int) - (cntB b : Nat) - (s.units.length : Nat) - (l.length : Nat) < 0 := by omega
  have gb : LenB b := LenB_of (by omega)
  have gs : Len s.units.length := by unfold Len; omega
  have gl : Len l.length := by unfold Len; omega
  simp [xRun, a_laws_FnExactAttemptReason, z1, h1', z2, h2', z3, h3', c_laws_toBoard b gb, c_laws_eqBoard b gb, c_laws_toState s gs, c_laws_eqState s gs, c_laws_toAttemptS l gl, c_laws_eqAttemptS l gl, c_spec_AttemptReason b s l i gb gs gl, c_impl_AttemptReason b s l i gb gs gl]
end Go.Abs.W
