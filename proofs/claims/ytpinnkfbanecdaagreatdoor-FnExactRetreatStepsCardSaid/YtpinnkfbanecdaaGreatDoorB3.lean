import Derived.Test.YtpinnkfbanecdaaGreatDoorB2
set_option linter.unusedSimpArgs false
set_option linter.unusedVariables false
set_option maxRecDepth 100000
set_option maxHeartbeats 2000000
namespace Go.Abs.W
open Go Go.Abs Classical
attribute [-simp] Bool.decide_and
theorem ints_nil : ints [] = [] := rfl
def OnOK (b : Board) (s : State) (u : Int) : Prop := StateOK b s ∧ Has s u ∧ 0 ≤ (unitAt s u).pos
noncomputable def stepsM (b : Board) (s : State) (u : Int) (l : List Int) : List Int := l.filter fun d => decide (BackM b s u (nextM b.map (unitAt s u).pos d))
theorem stepsM_snoc (b : Board) (s : State) (u : Int) (l : List Int) (d : Int) : stepsM b s u (l ++ [d]) = if BackM b s u (nextM b.map (unitAt s u).pos d) then stepsM b s u l ++ [d] else stepsM b s u l := by
  unfold stepsM
  rw [List.filter_append]
  by_cases h : BackM b s u (nextM b.map (unitAt s u).pos d) <;> simp [h]
noncomputable def stepsR (b : Board) (s : State) (u : Int) : List Int := if OnOK b s u then stepsM b s u dirsL else []
theorem stepsM_le (b : Board) (s : State) (u : Int) (l : List Int) : (stepsM b s u l).length ≤ l.length := List.length_filter_le ..
theorem c_spec_RetreatSteps (b : Board) (s : State) (u : Int) (hl : LenB b) (hs : Len s.units.length) : C n_spec_RetreatSteps [BoardV false b, StateV false s, I u] = some (.tup [some (.one (.list true 1 (ints (stepsR b s u)))), some (.one (.bool (decide (OnOK b s u))))]) := by
  refine callC p_spec_RetreatSteps rfl ?_
  have e1 : C n_spec_fOn [BoardV false b, StateV false s, I u] = some (Bo (decide (OnOK b s u))) := (c_spec_fOn b s u hl hs).trans (by rw [decide_eq_decide.2 (show (StateOK b s ∧ Has s u ∧ 0 ≤ (unitAt s u).pos) ↔ OnOK b s u from Iff.rfl)])
  unfold stepsR
  by_cases h1 : OnOK b s u
  rotate_left
  · simp [xRun, a_spec_RetreatSteps, e1, h1, ints_nil]
  have h := h1.1
  have hu := h1.2.1
  have n0 : ¬ u < 0 := by have := hu.1; omega
  have r1 := at_lt (l := s.units) hu.1 hu.2
  have r2 := unit_row hu
  have hon := (hu.ok h).on h1.2.2
  simp [xRun, a_spec_RetreatSteps, e1, h1]
  refine list_loop dirsL (by simp [dirsL]) (fun m (_ : Unit) => [(8, .own 0 1 (ints (stepsM b s u (dirsL.take m)))), (9, I m)]) (fun _ _ => True) default (by simp [stepsM, ints]) trivial ?_ ?_
  · intro N E m d z ha hlt hmm ht hwi _ hN hE
    rw [ht, stepsM_snoc] at hN
    have hle : (stepsM b s u (dirsL.take m)).length + 1 ≤ 68719476736 := by
      have := stepsM_le b s u (dirsL.take m)
      rw [List.length_take] at this
      have : dirsL.length = 6 := rfl
      omega
    generalize stepsM b s u (dirsL.take m) = L at *
    obtain ⟨rfl, g2, g3⟩ := dirs_at ha
    have e3 := c_spec_gBack b s u (unitAt s u).pos m hl h hu hon g2
    by_cases h2 : BackM b s u (nextM b.map (unitAt s u).pos m)
    · rw [if_pos h2] at hN
      simp [bodyF, b_spec_RetreatSteps_0, g3, n0, r1, r2, Unit.enc, e3, h2, rowsOf, ints_length, hle, hwi]
      exact hN _ z (by simp [ints]) trivial
    · rw [if_neg h2] at hN
      simp [bodyF, b_spec_RetreatSteps_0, g3, n0, r1, r2, Unit.enc, e3, h2, hwi]
      exact hN _ z (by simp) trivial
  · intro N E z _ hE
    rw [List.take_length]
    simp [bodyF, b_spec_RetreatSteps_0, dirsL]
    exact hE _ _ fun st => by simp [dirsL]
theorem c_impl_RetreatSteps (b : Board) (s : State) (u : Int) (hl : LenB b) (hs : Len s.units.length) : C n_impl_RetreatSteps [BoardV false b, StateV false s, I u] = some (.tup [some (.one (.list true 1 (ints (stepsR b s u)))), some (.one (.bool (decide (OnOK b s u))))]) := by
  refine callC p_impl_RetreatSteps rfl ?_
  have e1 : C n_impl_onMap [BoardV false b, StateV false s, I u] = some (Bo (decide (OnOK b s u))) := (c_impl_onMap b s u hl hs).trans (by rw [decide_eq_decide.2 (show (StateOK b s ∧ Has s u ∧ 0 ≤ (unitAt s u).pos) ↔ OnOK b s u from Iff.rfl)])
  unfold stepsR
  by_cases h1 : OnOK b s u
  rotate_left
  · simp [xRun, a_impl_RetreatSteps, e1, h1, ints_nil]
  have h := h1.1
  have hu := h1.2.1
  have n0 : ¬ u < 0 := by have := hu.1; omega
  have r1 := at_lt (l := s.units) hu.1 hu.2
  have r2 := unit_row hu
  have hon := (hu.ok h).on h1.2.2
  simp [xRun, a_impl_RetreatSteps, e1, h1]
  refine list_loop dirsL (by simp [dirsL]) (fun m (_ : Unit) => [(8, .own 0 1 (ints (stepsM b s u (dirsL.take m)))), (16, I m)]) (fun _ _ => True) default (by simp [stepsM, ints]) trivial ?_ ?_
  · intro N E m d z ha hlt hmm ht hwi _ hN hE
    rw [ht, stepsM_snoc] at hN
    have hle : (stepsM b s u (dirsL.take m)).length + 1 ≤ 68719476736 := by
      have := stepsM_le b s u (dirsL.take m)
      rw [List.length_take] at this
      have : dirsL.length = 6 := rfl
      omega
    generalize stepsM b s u (dirsL.take m) = L at *
    obtain ⟨rfl, g2, g3⟩ := dirs_at ha
    have e4 := c_impl_nextTo b.map (unitAt s u).pos m h.board.map.dim (hon.ix h.board) g2
    have hto : nextM b.map (unitAt s u).pos m < 0 ∨ On b (nextM b.map (unitAt s u).pos m) := by
      by_cases hh : nextM b.map (unitAt s u).pos m < 0
      · exact .inl hh
      · exact .inr (next_on h.board (by omega))
    have e3 := c_impl_canFallBack b s u (nextM b.map (unitAt s u).pos m) hl h hu hto
    by_cases h2 : BackM b s u (nextM b.map (unitAt s u).pos m)
    · rw [if_pos h2] at hN
      simp [bodyF, b_impl_RetreatSteps_0, g3, n0, r1, r2, Unit.enc, e4, e3, h2, rowsOf, ints_length, hle, hwi]
      exact hN _ z (by simp [ints]) trivial
    · rw [if_neg h2] at hN
      simp [bodyF, b_impl_RetreatSteps_0, g3, n0, r1, r2, Unit.enc, e4, e3, h2, hwi]
      exact hN _ z (by simp) trivial
  · intro N E z _ hE
    rw [List.take_length]
    simp [bodyF, b_impl_RetreatSteps_0, dirsL]
    exact hE _ _ fun st => by simp [dirsL]
end Go.Abs.W
