/- The law RetreatPath, run. -/
import Derived.Test.YtcknpclhcilmaaaGreatDoorB3
import Derived.Test.YtcknpclhcilmaaaGreatDoorB10
import Derived.Test.YtcknpclhcilmaaaGreatDoorB12
set_option linter.unusedSimpArgs false
set_option linter.unusedVariables false
set_option maxRecDepth 100000
set_option maxHeartbeats 8000000
namespace Go.Abs.W
open Go Go.Abs Classical
attribute [-simp] Bool.decide_and
theorem c_spec_RetreatPath (b : Board) (s : State) (u n : Int) (gb : LenB b) (gs : Len s.units.length) : C n_spec_RetreatPath [BoardV false b, StateV false s, I u, I n] = some (.tup [some (.one (.list true 1 (ints (firstP b s u n)))), some (.one (.bool (decide (GotP b s u n))))]) := by
  refine callC p_spec_RetreatPath rfl ?_
  have e1 := c_spec_gAsked b s u n gb gs
  unfold firstP
  by_cases h : AskOK b s u n
  rotate_left
  · have hP : ¬ GotP b s u n := fun hh => h hh.1
    simp [xRun, a_spec_RetreatPath, e1, h, hP, ints_nil]
  obtain ⟨k, rfl⟩ : ∃ k : Nat, n = k := ⟨n.toNat, by have := h.2; omega⟩
  have e2 := c_spec_gAll b s u k gb h.1.1 h.1.2.1 h.1.2.2 (by have := h.2; omega)
  have hP : GotP b s u k ↔ ¬ pathsM b s u k (unitAt s u).pos [] = [] := ⟨fun hh => hh.2, fun hh => ⟨h, hh⟩⟩
  simp only [hP, h, if_true, Int.toNat_natCast]
  generalize pathsM b s u k (unitAt s u).pos [] = L at *
  cases L with
  | nil =>
    simp only [rows_nil] at e2
    simp [xRun, a_spec_RetreatPath, e1, h, e2, ints_nil]
  | cons p L =>
    have hlen : (rowsOfL true (p :: L)).length = L.length + 1 := by simp [rowsOfL]
    have hrow : (rowsOfL true (p :: L))[0]? = some [D.list true 1 (ints p)] := rfl
    have hrow2 : ∀ h : 0 < (rowsOfL true (p :: L)).length, (rowsOfL true (p :: L))[0]'h = [D.list true 1 (ints p)] := fun _ => rfl
    generalize rowsOfL true (p :: L) = RT at *
    have hl0 : ¬ ((L.length : Int) + 1 = 0) := by omega
    simp [xRun, a_spec_RetreatPath, e1, h, e2, hlen, hrow, hrow2, hl0]
theorem c_impl_RetreatPath (b : Board) (s : State) (u n : Int) (gb : LenB b) (gs : Len s.units.length) : C n_impl_RetreatPath [BoardV false b, StateV false s, I u, I n] = some (.tup [some (.one (.list true 1 (ints (firstP b s u n)))), some (.one (.bool (decide (GotP b s u n))))]) := by
  refine callC p_impl_RetreatPath rfl ?_
  have e1 := c_impl_isRetreat b s u n gb gs
  unfold firstP
  by_cases h : AskOK b s u n
  rotate_left
  · have hP : ¬ GotP b s u n := fun hh => h hh.1
    simp [xRun, a_impl_RetreatPath, e1, h, hP, ints_nil]
  obtain ⟨k, rfl⟩ : ∃ k : Nat, n = k := ⟨n.toNat, by have := h.2; omega⟩
  have e2 := c_impl_retreatsOf b s u k gb h.1.1 h.1.2.1 h.1.2.2 (by have := h.2; omega)
  have hP : GotP b s u k ↔ ¬ pathsM b s u k (unitAt s u).pos [] = [] := ⟨fun hh => hh.2, fun hh => ⟨h, hh⟩⟩
  simp only [hP, h, if_true, Int.toNat_natCast]
  generalize pathsM b s u k (unitAt s u).pos [] = L at *
  cases L with
  | nil =>
    simp only [rows_nil] at e2
    simp [xRun, a_impl_RetreatPath, e1, h, e2, ints_nil]
  | cons p L =>
    have hlen : (rowsOfL true (p :: L)).length = L.length + 1 := by simp [rowsOfL]
    have hrow : (rowsOfL true (p :: L))[0]? = some [D.list true 1 (ints p)] := rfl
    have hrow2 : ∀ h : 0 < (rowsOfL true (p :: L)).length, (rowsOfL true (p :: L))[0]'h = [D.list true 1 (ints p)] := fun _ => rfl
    generalize rowsOfL true (p :: L) = RT at *
    have hl0 : ¬ ((L.length : Int) + 1 = 0) := by omega
    simp [xRun, a_impl_RetreatPath, e1, h, e2, hlen, hrow, hrow2, hl0]
theorem firstP_len {b : Board} {s : State} {u n : Int} : Len (firstP b s u n).length := by
  unfold firstP
  split
  · rename_i h
    cases hL : pathsM b s u n.toNat (unitAt s u).pos [] with
    | nil => unfold Len; simp
    | cons p L =>
      obtain ⟨t, h1, h2, _, _⟩ := pathsM_mem b s u n.toNat (unitAt s u).pos [] p (by rw [hL]; exact List.mem_cons_self ..)
      have := h.2
      subst h1
      unfold Len
      simp [h2]; omega
  · unfold Len; simp
theorem law_RetreatPath (b : Board) (s : State) (u : Int) (n : Int) (wb : WideB b) (ws : Wide s.units.length) : C n_laws_FnExactRetreatPath [BoardV false b, StateV false s, I u, I n] = some (Bo true) := by
  refine callC p_laws_FnExactRetreatPath rfl ?_
  have z1 := c_laws_szBoard b _ left0 wb
  by_cases h1 : (1048576 : Int) < (cntB b : Nat)
  · rw [less_yes h1] at z1
    simp [xRun, a_laws_FnExactRetreatPath, z1]
  rw [less_no h1] at z1
  have h1' : ¬ (1048576 : Int) - (cntB b : Nat) < 0 := by omega
  have z2 := c_laws_szState s _ (less_left left0 h1) ws
  by_cases h2 : (1048576 : Int) - (cntB b : Nat) < (s.units.length : Nat)
  · rw [less_yes h2] at z2
    simp [xRun, a_laws_FnExactRetreatPath, z1, h1', z2]
  rw [less_no h2] at z2
  have h2' : ¬ (1048576 : Int) - (cntB b : Nat) - (s.units.length : Nat) < 0 := by omega
  have gb : LenB b := LenB_of (by omega)
  have gs : Len s.units.length := by unfold Len; omega
  have hm0 := marks_le b
  have e1 := c_spec_RetreatPath b s u n gb gs
  have e2 := c_impl_RetreatPath b s u n gb gs
  have hlen : Len (firstP b s u n).length := firstP_len
  generalize firstP b s u n = R at *
  generalize decide (GotP b s u n) = sc0 at *
  have m0 := c_laws_markBoard b 1 gb (by unfold Mk; omega)
  obtain ⟨K1, hK1⟩ : ∃ K : Int, K = 1 + ((cR b.rules + cM b.map : Nat) : Int) := ⟨_, rfl⟩
  rw [← hK1] at m0
  have m1 := c_laws_markState s K1 gs (by unfold Mk; omega)
  obtain ⟨K2, hK2⟩ : ∃ K : Int, K = K1 + ((4 * s.units.length : Nat) : Int) := ⟨_, rfl⟩
  rw [← hK2] at m1
  have hlen2 := hlen
  unfold Len at hlen2
  have r1 := c_laws_eqIntS R hlen
  have r2 := c_laws_markIntS R 1 hlen (by unfold Mk; omega)
  have r3 := c_laws_heldIntS 1 R.length hlen (by unfold Mk; omega)
  obtain ⟨M, hM⟩ : ∃ M : Int, M = 1 + (R.length : Int) := ⟨_, rfl⟩
  rw [← hM] at r2 r3
  have n2 : ¬ M < 0 := by omega
  have n1 : ¬ K2 < 0 := by omega
  have b0 := c_laws_toBoard b gb
  have d0 := c_laws_eqBoard b gb
  have b1 := c_laws_toState s gs
  have d1 := c_laws_eqState s gs
  clear hK1 hK2 hM
  simp (config := { maxSteps := 4000000 }) [xRun, a_laws_FnExactRetreatPath, z1, h1', z2, h2', e1, e2, m0, m1, r1, r2, r3, n2, n1, b0, d0, b1, d1, mRules, mMap]
end Go.Abs.W
