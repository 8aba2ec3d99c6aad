/- The law ZoneReason, run. -/
import Derived.Test.YtpinnkfbanecdaaGreatDoorB0
set_option linter.unusedSimpArgs false
set_option linter.unusedVariables false
set_option maxRecDepth 100000
set_option maxHeartbeats 2000000
namespace Go.Abs.W
open Go Go.Abs Classical
attribute [-simp] Bool.decide_and
def ZR (b : Board) (s : State) (u d : Int) : Prop := StateOK b s ∧ Has s u ∧ 0 ≤ (unitAt s u).pos ∧ Dir d ∧ 0 ≤ nextM b.map (unitAt s u).pos d
noncomputable def zr (b : Board) (s : State) (u d : Int) (moved : Bool) : Int := if ZR b s u d then zoneR b s (unitAt s u) (nextM b.map (unitAt s u).pos d) moved else 0
theorem c_spec_ZoneReason (b : Board) (s : State) (u d : Int) (moved : Bool) (hl : LenB b) (hs : Len s.units.length) :
    C n_spec_ZoneReason [BoardV false b, StateV false s, I u, I d, Bo moved] = some (Tup2 (.int .i64 (zr b s u d moved)) (.bool (decide (ZR b s u d)))) := by
  refine callC p_spec_ZoneReason rfl ?_
  have e1 := c_spec_fOn b s u hl hs
  by_cases h1 : StateOK b s ∧ Has s u ∧ 0 ≤ (unitAt s u).pos
  rotate_left
  · have hP : ¬ ZR b s u d := fun h => h1 ⟨h.1, h.2.1, h.2.2.1⟩
    simp [xRun, a_spec_ZoneReason, e1, h1, zr, hP]
  by_cases h2 : 0 ≤ d ∧ d ≤ 5
  rotate_left
  · have hP : ¬ ZR b s u d := fun h => h2 h.2.2.2.1
    simp only [h1] at e1
    simp [xRun, a_spec_ZoneReason, e1, h2, zr, hP]
  obtain ⟨g1, g2, g3⟩ := h1
  have hx : UnitOK b (unitAt s u) := g1.unit _ (at_mem g2.1 g2.2)
  have n0 : ¬ u < 0 := by have := g2.1; omega
  have r1 := at_lt (l := s.units) g2.1 g2.2
  have r2 := unit_row g2
  have e2 := c_spec_mNext b.map (unitAt s u).pos d g1.board.map.dim ((hx.on g3).ix g1.board) h2
  simp only [g1, g2, g3] at e1
  by_cases h3 : nextM b.map (unitAt s u).pos d < 0
  · have hP : ¬ ZR b s u d := fun h => by have := h.2.2.2.2; omega
    simp [xRun, a_spec_ZoneReason, e1, h2, n0, r1, r2, Unit.enc, e2, h3, zr, hP]
  · have hP : ZR b s u d := ⟨g1, g2, g3, h2, by omega⟩
    have e3 := c_spec_fZone b s u d moved hl g1 g2 g3 h2 (by omega)
    simp [xRun, a_spec_ZoneReason, e1, h2, n0, r1, r2, Unit.enc, e2, h3, e3, zr, hP]
theorem c_impl_ZoneReason (b : Board) (s : State) (u d : Int) (moved : Bool) (hl : LenB b) (hs : Len s.units.length) :
    C n_impl_ZoneReason [BoardV false b, StateV false s, I u, I d, Bo moved] = some (Tup2 (.int .i64 (zr b s u d moved)) (.bool (decide (ZR b s u d)))) := by
  refine callC p_impl_ZoneReason rfl ?_
  have e1 := c_impl_hasUnit b s u hl hs
  by_cases h1 : StateOK b s ∧ Has s u
  rotate_left
  · have hP : ¬ ZR b s u d := fun h => h1 ⟨h.1, h.2.1⟩
    simp [xRun, a_impl_ZoneReason, e1, h1, zr, hP]
  obtain ⟨g1, g2⟩ := h1
  have hx : UnitOK b (unitAt s u) := g1.unit _ (at_mem g2.1 g2.2)
  have n0 : ¬ u < 0 := by have := g2.1; omega
  have r1 := at_lt (l := s.units) g2.1 g2.2
  have r2 := unit_row g2
  simp only [g1, g2] at e1
  by_cases h0 : (unitAt s u).pos < 0
  · have hP : ¬ ZR b s u d := fun h => by have := h.2.2.1; omega
    simp [xRun, a_impl_ZoneReason, e1, n0, r1, r2, Unit.enc, h0, zr, hP]
  by_cases h2 : 0 ≤ d ∧ d ≤ 5
  rotate_left
  · have hP : ¬ ZR b s u d := fun h => h2 h.2.2.2.1
    simp [xRun, a_impl_ZoneReason, e1, n0, r1, r2, Unit.enc, h0, h2, zr, hP]
  have g3 : 0 ≤ (unitAt s u).pos := by omega
  have e2 := c_impl_nextTo b.map (unitAt s u).pos d g1.board.map.dim ((hx.on g3).ix g1.board) h2
  by_cases h3 : nextM b.map (unitAt s u).pos d < 0
  · have hP : ¬ ZR b s u d := fun h => by have := h.2.2.2.2; omega
    simp [xRun, a_impl_ZoneReason, e1, n0, r1, r2, Unit.enc, h0, h2, e2, h3, zr, hP]
  · have hP : ZR b s u d := ⟨g1, g2, g3, h2, by omega⟩
    have e3 := c_impl_zoneReason b s (unitAt s u) (nextM b.map (unitAt s u).pos d) moved hl g1 hx g3 (next_on g1.board (by omega))
    simp [xRun, a_impl_ZoneReason, e1, n0, r1, r2, Unit.enc, h0, h2, e2, h3, e3, zr, hP]
theorem law_ZoneReason (b : Board) (s : State) (u d : Int) (moved : Bool) (hl : WideB b) (hs : Wide s.units.length) :
    C n_laws_FnExactZoneReason [BoardV false b, StateV false s, I u, I d, Bo moved] = some (Bo true) := by
  refine callC p_laws_FnExactZoneReason rfl ?_
  have z1 := c_laws_szBoard b 1048576 left0 hl
  by_cases h1 : (1048576 : Int) < cntB b
  · rw [less_yes h1] at z1
    simp [xRun, a_laws_FnExactZoneReason, z1]
  rw [less_no h1] at z1
  have h1' : ¬ (1048576 : Int) - cntB b < 0 := by omega
  have z2 := c_laws_szState s _ (less_left left0 h1) hs
  by_cases h2 : (1048576 : Int) - cntB b < s.units.length
  · rw [less_yes h2] at z2
    simp [xRun, a_laws_FnExactZoneReason, z1, h1', z2]
  rw [less_no h2] at z2
  have h2' : ¬ (1048576 : Int) - cntB b - s.units.length < 0 := by omega
  have gl : LenB b := LenB_of (by omega)
  have gs : Len s.units.length := by unfold Len; omega
  simp [xRun, a_laws_FnExactZoneReason, z1, h1', z2, h2', c_laws_toBoard b gl, c_laws_toState s gs, c_spec_ZoneReason b s u d moved gl gs, c_impl_ZoneReason b s u d moved gl gs, c_laws_eqBoard b gl, c_laws_eqState s gs]
end Go.Abs.W
