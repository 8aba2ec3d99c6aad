/- The law AdvanceUnits, run. -/
import Derived.Test.YtcknpclhcilmaaaGreatDoorB3
import Derived.Test.YtcknpclhcilmaaaGreatDoorB10
import Derived.Test.YtcknpclhcilmaaaGreatDoorB11
set_option linter.unusedSimpArgs false
set_option linter.unusedVariables false
set_option maxRecDepth 100000
set_option maxHeartbeats 8000000
namespace Go.Abs.W
open Go Go.Abs Classical
attribute [-simp] Bool.decide_and
def AdvAll (b : Board) (s : State) (l : List Int) (i : Int) : Prop := AdvUnits b s l ∧ On b i
noncomputable def advR (b : Board) (s : State) (l : List Int) (i : Int) : State := if AdvAll b s l i then (advM b i s l).1 else ⟨0, 0, []⟩
noncomputable def advN (b : Board) (s : State) (l : List Int) (i : Int) : Int := if AdvAll b s l i then ((advM b i s l).2 : Int) else 0
theorem c_spec_AdvanceUnits (b : Board) (s : State) (l : List Int) (i : Int) (gb : LenB b) (gs : Len s.units.length) (gl : Len l.length) : C n_spec_AdvanceUnits [BoardV false b, StateV false s, Li l, I i] = some (.tup [some (.agg (StateA true (advR b s l i))), some (.one (.int .i64 (advN b s l i))), some (.one (.bool (decide (AdvAll b s l i))))]) := by
  refine callC p_spec_AdvanceUnits rfl ?_
  have e1 := c_spec_gUnits b s l gb gs gl
  unfold advR advN
  by_cases h : AdvUnits b s l
  rotate_left
  · have hP : ¬ AdvAll b s l i := fun hh => h hh.1
    simp [xRun, a_spec_AdvanceUnits, e1, h, hP]
  have hsz := h.1.board.size_le
  have e2 := c_spec_mSize b.map h.1.board.map.dim
  rw [h.1.board.size_eq] at e2
  have w1 : IntKind.i64.wrap (size b - 1) = size b - 1 := wrap_small (by omega) (by omega)
  by_cases h2 : 0 ≤ i ∧ i ≤ size b - 1
  · have hi : On b i := ⟨h2.1, by omega⟩
    have hP : AdvAll b s l i := ⟨h, hi⟩
    have e3 := c_spec_gAdvance b s l i gb h.1 gl hi (fun u hu => (h.2.2 u hu).1) fun u hu => (h.2.2 u hu).2
    simp [xRun, a_spec_AdvanceUnits, e1, h, e2, w1, h2, hP, e3]
  · have hP : ¬ AdvAll b s l i := fun hh => h2 (by have := hh.2; unfold On at this; omega)
    simp [xRun, a_spec_AdvanceUnits, e1, h, e2, w1, h2, hP]
theorem c_impl_AdvanceUnits (b : Board) (s : State) (l : List Int) (i : Int) (gb : LenB b) (gs : Len s.units.length) (gl : Len l.length) : C n_impl_AdvanceUnits [BoardV false b, StateV false s, Li l, I i] = some (.tup [some (.agg (StateA true (advR b s l i))), some (.one (.int .i64 (advN b s l i))), some (.one (.bool (decide (AdvAll b s l i))))]) := by
  refine callC p_impl_AdvanceUnits rfl ?_
  have e1 := c_impl_areOnMap b s l gb gs gl
  unfold advR advN
  by_cases h : AdvUnits b s l
  rotate_left
  · have hP : ¬ AdvAll b s l i := fun hh => h hh.1
    simp [xRun, a_impl_AdvanceUnits, e1, h, hP]
  have hsz := h.1.board.size_le
  have e2 := c_impl_isIndex i (size b) (by omega) (by omega)
  by_cases h2 : 0 ≤ i ∧ i < size b
  · have hi : On b i := h2
    have hP : AdvAll b s l i := ⟨h, hi⟩
    have e3 := c_impl_advanceUnits b s l i gb h.1 gl hi (fun u hu => (h.2.2 u hu).1) fun u hu => (h.2.2 u hu).2
    rw [decide_eq_true h2] at e2
    simp [xRun, a_impl_AdvanceUnits, e1, h, e2, hP, e3]
  · have hP : ¬ AdvAll b s l i := fun hh => h2 hh.2
    rw [decide_eq_false h2] at e2
    simp [xRun, a_impl_AdvanceUnits, e1, h, e2, hP]
theorem advR_len {b : Board} {s : State} {l : List Int} {i : Int} (gs : Len s.units.length) : Len (advR b s l i).units.length := by
  unfold advR
  split
  · rename_i h
    have := (adv_ok (l := l) h.1.1 h.2 (fun u hu => (h.1.2.2 u hu).1) (fun u hu => (h.1.2.2 u hu).2) l.length).1.len
    rw [List.take_length] at this
    rw [this]; exact gs
  · unfold Len; simp
theorem law_AdvanceUnits (b : Board) (s : State) (l : List Int) (i : Int) (wb : WideB b) (ws : Wide s.units.length) (wl : Wide l.length) : C n_laws_FnExactAdvanceUnits [BoardV false b, StateV false s, Li l, I i] = some (Bo true) := by
  refine callC p_laws_FnExactAdvanceUnits rfl ?_
  by_cases ql : (1048576 : Int) < l.length
  · simp [xRun, a_laws_FnExactAdvanceUnits, ints_length, ql]
  have gl : Len l.length := by unfold Len; omega
  have z1 := c_laws_szBoard b _ left0 wb
  by_cases h1 : (1048576 : Int) < (cntB b : Nat)
  · rw [less_yes h1] at z1
    simp [xRun, a_laws_FnExactAdvanceUnits, ql, ints_length, z1]
  rw [less_no h1] at z1
  have h1' : ¬ (1048576 : Int) - (cntB b : Nat) < 0 := by omega
  have z2 := c_laws_szState s _ (less_left left0 h1) ws
  by_cases h2 : (1048576 : Int) - (cntB b : Nat) < (s.units.length : Nat)
  · rw [less_yes h2] at z2
    simp [xRun, a_laws_FnExactAdvanceUnits, ql, ints_length, z1, h1', z2]
  rw [less_no h2] at z2
  have h2' : ¬ (1048576 : Int) - (cntB b : Nat) - (s.units.length : Nat) < 0 := by omega
  have gb : LenB b := LenB_of (by omega)
  have gs : Len s.units.length := by unfold Len; omega
  have hm0 := marks_le b
  have hul : l.length ≤ 1048576 := gl
  have e1 := c_spec_AdvanceUnits b s l i gb gs gl
  have e2 := c_impl_AdvanceUnits b s l i gb gs gl
  have hlen : Len (advR b s l i).units.length := advR_len gs
  generalize advR b s l i = R at *
  generalize advN b s l i = sc0 at *
  generalize decide (AdvAll b s l i) = sc1 at *
  have m0 := c_laws_markBoard b 1 gb (by unfold Mk; omega)
  obtain ⟨K1, hK1⟩ : ∃ K : Int, K = 1 + ((cR b.rules + cM b.map : Nat) : Int) := ⟨_, rfl⟩
  rw [← hK1] at m0
  have m1 := c_laws_markState s K1 gs (by unfold Mk; omega)
  obtain ⟨K2, hK2⟩ : ∃ K : Int, K = K1 + ((4 * s.units.length : Nat) : Int) := ⟨_, rfl⟩
  rw [← hK2] at m1
  have m2 := c_laws_markIntS l K2 gl (by unfold Mk; omega)
  obtain ⟨K3, hK3⟩ : ∃ K : Int, K = K2 + (l.length : Int) := ⟨_, rfl⟩
  rw [← hK3] at m2
  have hlen2 := hlen
  unfold Len at hlen2
  have r1 := c_laws_eqState R hlen
  have r2 := c_laws_markState R 1 hlen (by unfold Mk; omega)
  have r3 := c_laws_heldState R 1 hlen (by unfold Mk; omega)
  obtain ⟨M, hM⟩ : ∃ M : Int, M = 1 + ((4 * R.units.length : Nat) : Int) := ⟨_, rfl⟩
  rw [← hM] at r2 r3
  have n2 : ¬ M < 0 := by omega
  have n1 : ¬ K3 < 0 := by omega
  have b0 := c_laws_toBoard b gb
  have d0 := c_laws_eqBoard b gb
  have b1 := c_laws_toState s gs
  have d1 := c_laws_eqState s gs
  have b2 := c_laws_toIntS l gl
  have d2 := c_laws_eqIntS l gl
  clear hK1 hK2 hK3 hM
  simp (config := { maxSteps := 4000000 }) [xRun, a_laws_FnExactAdvanceUnits, ql, ints_length, z1, h1', z2, h2', e1, e2, m0, m1, m2, r1, r2, r3, n2, n1, b0, d0, b1, d1, b2, d2, mRules, mMap]
end Go.Abs.W
