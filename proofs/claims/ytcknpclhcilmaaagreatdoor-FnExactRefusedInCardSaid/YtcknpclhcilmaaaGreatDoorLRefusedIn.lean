/- The law RefusedIn, run. -/
import Derived.Test.YtcknpclhcilmaaaGreatDoorB3
import Derived.Test.YtcknpclhcilmaaaGreatDoorB6
import Derived.Test.YtcknpclhcilmaaaGreatDoorB10
set_option linter.unusedSimpArgs false
set_option linter.unusedVariables false
set_option maxRecDepth 100000
set_option maxHeartbeats 8000000
namespace Go.Abs.W
open Go Go.Abs Classical
attribute [-simp] Bool.decide_and
noncomputable def refM (b : Board) (s : State) (l : List Attempt) : List Int := if AsksOK b s l then ixs (fun a => ¬ reasonM b s l a = 0) l else []
theorem c_spec_RefusedIn (b : Board) (s : State) (l : List Attempt) (gb : LenB b) (gs : Len s.units.length) (gl : Len l.length) : C n_spec_RefusedIn [BoardV false b, StateV false s, AttemptsV false l] = some (.tup [some (.one (.list true 1 (ints (refM b s l)))), some (.one (.bool (decide (AsksOK b s l))))]) := by
  refine callC p_spec_RefusedIn rfl ?_
  have e1 := c_spec_fAsked b s l gb gs gl
  unfold refM
  by_cases h : AsksOK b s l
  rotate_left
  · simp [xRun, a_spec_RefusedIn, e1, h, ints_nil]
  unfold Len at gl
  simp [xRun, a_spec_RefusedIn, e1, h, rowsOf]
  refine list_loop l (by omega) (fun n (_ : Unit) => [(8, .own 0 1 (ints (ixs (fun a => ¬ reasonM b s l a = 0) (l.take n)))), (17, I n)]) (fun _ _ => True) default (by simp [ixs_nil, ints_nil]) trivial ?_ ?_
  · intro N E n a z ha hlt hm ht hwi _ hN hE
    have e2 := c_spec_fReason b s l n a gb h.1 (fun x hx => (h.2.1 x hx).1) gl ha
    have hle : (ixs (fun a => ¬ reasonM b s l a = 0) (l.take n)).length + 1 ≤ 68719476736 := by
      have := ixs_length_take (fun a => ¬ reasonM b s l a = 0) l n
      omega
    rw [ixs_take ht hlt] at hN
    generalize ixs (fun a => ¬ reasonM b s l a = 0) (l.take n) = L at *
    by_cases h1 : reasonM b s l a = 0
    · simp only [h1, not_true, if_false] at hN
      simp [bodyF, b_spec_RefusedIn_0, hlt, e2, h1, hwi]
      exact hN _ z (by simp) trivial
    · simp only [h1, not_false_eq_true, if_true] at hN
      simp [bodyF, b_spec_RefusedIn_0, hlt, e2, h1, rowsOf, ints_length, hle, ints_snoc, hwi]
      exact hN _ z (by simp) trivial
  · intro N E z _ hE
    rw [List.take_length]
    simp [bodyF, b_spec_RefusedIn_0]
    exact hE _ _ fun st => by simp
theorem c_impl_RefusedIn (b : Board) (s : State) (l : List Attempt) (gb : LenB b) (gs : Len s.units.length) (gl : Len l.length) : C n_impl_RefusedIn [BoardV false b, StateV false s, AttemptsV false l] = some (.tup [some (.one (.list true 1 (ints (refM b s l)))), some (.one (.bool (decide (AsksOK b s l))))]) := by
  refine callC p_impl_RefusedIn rfl ?_
  have e1 := c_impl_areAttempts b s l gb gs gl
  unfold refM
  by_cases h : AsksOK b s l
  rotate_left
  · simp [xRun, a_impl_RefusedIn, e1, h, ints_nil]
  unfold Len at gl
  simp [xRun, a_impl_RefusedIn, e1, h, rowsOf]
  refine list_loop l (by omega) (fun n (_ : Unit) => [(8, .own 0 1 (ints (ixs (fun a => ¬ reasonM b s l a = 0) (l.take n)))), (18, I n)]) (fun _ _ => True) default (by simp [ixs_nil, ints_nil]) trivial ?_ ?_
  · intro N E n a z ha hlt hm ht hwi _ hN hE
    have e2 := c_impl_attemptReason b s l n a gb h.1 (fun x hx => (h.2.1 x hx).1) gl ha
    have hle : (ixs (fun a => ¬ reasonM b s l a = 0) (l.take n)).length + 1 ≤ 68719476736 := by
      have := ixs_length_take (fun a => ¬ reasonM b s l a = 0) l n
      omega
    rw [ixs_take ht hlt] at hN
    generalize ixs (fun a => ¬ reasonM b s l a = 0) (l.take n) = L at *
    by_cases h1 : reasonM b s l a = 0
    · simp only [h1, not_true, if_false] at hN
      simp [bodyF, b_impl_RefusedIn_0, hlt, e2, h1, hwi]
      exact hN _ z (by simp) trivial
    · simp only [h1, not_false_eq_true, if_true] at hN
      simp [bodyF, b_impl_RefusedIn_0, hlt, e2, h1, rowsOf, ints_length, hle, ints_snoc, hwi]
      exact hN _ z (by simp) trivial
  · intro N E z _ hE
    rw [List.take_length]
    simp [bodyF, b_impl_RefusedIn_0]
    exact hE _ _ fun st => by simp
theorem refM_len {b : Board} {s : State} {l : List Attempt} (gl : Len l.length) : Len (refM b s l).length := by
  unfold refM
  split
  · unfold Len at *; exact Nat.le_trans (ixs_length_le ..) gl
  · unfold Len; simp
theorem law_RefusedIn (b : Board) (s : State) (l : List Attempt) (wb : WideB b) (ws : Wide s.units.length) (wl : Wide l.length) : C n_laws_FnExactRefusedIn [BoardV false b, StateV false s, AttemptsV false l] = some (Bo true) := by
  refine callC p_laws_FnExactRefusedIn rfl ?_
  have z1 := c_laws_szBoard b _ left0 wb
  by_cases h1 : (1048576 : Int) < (cntB b : Nat)
  · rw [less_yes h1] at z1
    simp [xRun, a_laws_FnExactRefusedIn, z1]
  rw [less_no h1] at z1
  have h1' : ¬ (1048576 : Int) - (cntB b : Nat) < 0 := by omega
  have z2 := c_laws_szState s _ (less_left left0 h1) ws
  by_cases h2 : (1048576 : Int) - (cntB b : Nat) < (s.units.length : Nat)
  · rw [less_yes h2] at z2
    simp [xRun, a_laws_FnExactRefusedIn, z1, h1', z2]
  rw [less_no h2] at z2
  have h2' : ¬ (1048576 : Int) - (cntB b : Nat) - (s.units.length : Nat) < 0 := by omega
  have z3 := c_laws_szAttemptS l _ (less_left (less_left left0 h1) h2) wl
  by_cases h3 : (1048576 : Int) - (cntB b : Nat) - (s.units.length : Nat) < (l.length : Nat)
  · rw [less_yes h3] at z3
    simp [xRun, a_laws_FnExactRefusedIn, z1, h1', z2, h2', z3]
  rw [less_no h3] at z3
  have h3' : ¬ (1048576 : Int) - (cntB b : Nat) - (s.units.length : Nat) - (l.length : Nat) < 0 := by omega
  have gb : LenB b := LenB_of (by omega)
  have gs : Len s.units.length := by unfold Len; omega
  have gl : Len l.length := by unfold Len; omega
  have hm0 := marks_le b
  have e1 := c_spec_RefusedIn b s l gb gs gl
  have e2 := c_impl_RefusedIn b s l gb gs gl
  have hlen : Len (refM b s l).length := refM_len gl
  generalize refM b s l = R at *
  generalize decide (AsksOK b s l) = sc0 at *
  have m0 := c_laws_markBoard b 1 gb (by unfold Mk; omega)
  obtain ⟨K1, hK1⟩ : ∃ K : Int, K = 1 + ((cR b.rules + cM b.map : Nat) : Int) := ⟨_, rfl⟩
  rw [← hK1] at m0
  have m1 := c_laws_markState s K1 gs (by unfold Mk; omega)
  obtain ⟨K2, hK2⟩ : ∃ K : Int, K = K1 + ((4 * s.units.length : Nat) : Int) := ⟨_, rfl⟩
  rw [← hK2] at m1
  have m2 := c_laws_markAttemptS l K2 gl (by unfold Mk; omega)
  obtain ⟨K3, hK3⟩ : ∃ K : Int, K = K2 + ((3 * l.length : Nat) : Int) := ⟨_, rfl⟩
  rw [← hK3] at m2
  have hlen2 := hlen
  unfold Len at hlen2
  have r1 := c_laws_eqIntS R hlen
  have r2 := c_laws_markIntS R 1 hlen (by unfold Mk; omega)
  have r3 := c_laws_heldIntS 1 R.length hlen (by unfold Mk; omega)
  obtain ⟨M, hM⟩ : ∃ M : Int, M = 1 + (R.length : Int) := ⟨_, rfl⟩
  rw [← hM] at r2 r3
  have n2 : ¬ M < 0 := by omega
  have n1 : ¬ K3 < 0 := by omega
  have b0 := c_laws_toBoard b gb
  have d0 := c_laws_eqBoard b gb
  have b1 := c_laws_toState s gs
  have d1 := c_laws_eqState s gs
  have b2 := c_laws_toAttemptS l gl
  have d2 := c_laws_eqAttemptS l gl
  clear hK1 hK2 hK3 hM
  simp (config := { maxSteps := 4000000 }) [xRun, a_laws_FnExactRefusedIn, z1, h1', z2, h2', z3, h3', e1, e2, m0, m1, m2, r1, r2, r3, n2, n1, b0, d0, b1, d1, b2, d2, mRules, mMap]
end Go.Abs.W
