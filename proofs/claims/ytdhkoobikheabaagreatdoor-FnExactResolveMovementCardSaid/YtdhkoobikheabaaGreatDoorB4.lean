import Derived.Test.YtdhkoobikheabaaGreatDoorB1
import Derived.Test.YtdhkoobikheabaaGreatDoorB0
set_option linter.unusedSimpArgs false
set_option linter.unusedVariables false
set_option maxRecDepth 100000
set_option maxHeartbeats 2000000
namespace Go.Abs.W
open Go Go.Abs Classical
attribute [-simp] Bool.decide_and
/-- A unit leaves its hex. -/
def Goes (l : List Attempt) (u : Int) : Prop := ∃ a ∈ l, a.unit = u
theorem c_spec_fLeaves (l : List Attempt) (u : Int) (hl : Len l.length) : C n_spec_fLeaves [AttemptsV false l, I u] = some (Bo (decide (Goes l u))) := by
  refine callC p_spec_fLeaves rfl ?_
  simp [xRun, a_spec_fLeaves]
  refine find_loop l (by unfold Len at hl; omega) 9 (fun a => a.unit = u) (by simp) ?_ ?_
  · intro N E i a ha hi hm hwi hs hN hE
    by_cases hc : a.unit = u
    · have hP : Goes l u := ⟨a, hm, hc⟩
      simp [bodyF, b_spec_fLeaves_0, hi, Attempt.enc, ha, at_of ha, hc]
      exact hE _ _ fun st => by simp [hP]
    · simp [bodyF, b_spec_fLeaves_0, hi, Attempt.enc, ha, at_of ha, hwi, hc]
      exact hN _ (by simp) hc
  · intro N E hs hE
    have hP : ¬ Goes l u := fun ⟨a, h1, h2⟩ => hs a h1 h2
    simp [bodyF, b_spec_fLeaves_0]
    exact hE _ _ fun st => by simp [hP]
theorem c_slices_IndexFunc_Attempt (l : List Attempt) (f : FuncId) (cs : List (List D)) (p : Attempt → Prop) [DecidablePred p] (hl : Len l.length) (hf : ∀ t, C f (AttemptV t :: cs.map .rp) = some (Bo (decide (p t)))) :
    C n_slices_IndexFunc_impl_Attempt_impl_Attempt [AttemptsV false l, .clo f cs] = some (I (firstIx p l)) := by
  refine callC p_slices_IndexFunc_impl_Attempt_impl_Attempt rfl ?_
  simp [xRun, a_slices_IndexFunc_impl_Attempt_impl_Attempt]
  refine find_loop l (by unfold Len at hl; omega) 8 p (by simp) ?_ ?_
  · intro N E i a ha hi hm hwi hs hN hE
    by_cases hc : p a
    · simp [bodyF, b_slices_IndexFunc_impl_Attempt_impl_Attempt_0, hi, Attempt.enc, ha, at_of ha, hf, hc]
      refine hE _ _ fun st => ?_
      rw [firstIx_at ha hc hs]
      simp
    · simp [bodyF, b_slices_IndexFunc_impl_Attempt_impl_Attempt_0, hi, Attempt.enc, ha, at_of ha, hwi, hf, hc]
      exact hN _ (by simp) hc
  · intro N E hs hE
    simp [bodyF, b_slices_IndexFunc_impl_Attempt_impl_Attempt_0]
    refine hE _ _ fun st => ?_
    rw [firstIx_none hs]
    simp
theorem c_impl_leaves (l : List Attempt) (u : Int) (hl : Len l.length) : C n_impl_leaves [AttemptsV false l, I u] = some (Bo (decide (Goes l u))) := by
  have hf : ∀ t, C n_impl_leaves_1 (AttemptV t :: [[.int .i64 u]].map .rp) = some (Bo (decide (t.unit = u))) := by
    intro t
    refine callC p_impl_leaves_1 rfl ?_
    by_cases h : t.unit = u <;> simp [xRun, a_impl_leaves_1, h]
  have hF : C n_slices_ContainsFunc_impl_Attempt_impl_Attempt [AttemptsV false l, .clo n_impl_leaves_1 [[.int .i64 u]]] = some (Bo (decide (Goes l u))) := by
    refine callC p_slices_ContainsFunc_impl_Attempt_impl_Attempt rfl ?_
    have h1 : 0 ≤ firstIx (fun a : Attempt => a.unit = u) l ↔ Goes l u := firstIx_pos
    by_cases h2 : Goes l u
    · have h3 := h1.2 h2
      simp [xRun, a_slices_ContainsFunc_impl_Attempt_impl_Attempt, c_slices_IndexFunc_Attempt l _ _ (fun t => t.unit = u) hl hf, h3, h2]
    · have h3 : ¬ 0 ≤ firstIx (fun a : Attempt => a.unit = u) l := fun hh => h2 (h1.1 hh)
      simp [xRun, a_slices_ContainsFunc_impl_Attempt_impl_Attempt, c_slices_IndexFunc_Attempt l _ _ (fun t => t.unit = u) hl hf, h3, h2]
  refine callC p_impl_leaves rfl ?_
  simp [xRun, a_impl_leaves, hF]
/-- How many units of a list stay. -/
noncomputable def stay (l : List Attempt) (us : List Int) : Nat := us.countP fun k => decide (¬ Goes l k)
theorem stay_nil (l : List Attempt) : stay l [] = 0 := rfl
theorem stay_snoc (l : List Attempt) (us : List Int) (k : Int) : stay l (us ++ [k]) = stay l us + if Goes l k then 0 else 1 := by
  unfold stay
  rw [List.countP_append]
  by_cases h : Goes l k <;> simp [h]
theorem stay_le (l : List Attempt) (us : List Int) : stay l us ≤ us.length := List.countP_le_length
theorem stay_pos {l : List Attempt} {us : List Int} : 0 < stay l us ↔ ∃ k ∈ us, ¬ Goes l k := by
  unfold stay
  rw [List.countP_pos_iff]; simp
/-- Those that stay in a hex, of one side. -/
noncomputable def staysM (s : State) (l : List Attempt) (i side : Int) : Nat := stay l (unitsIn s i side)
theorem stay_all {s : State} {l : List Attempt} {i side : Int} (h : ∀ k ∈ ixs (fun u : Unit => u.pos = i) s.units, Goes l k ∨ (unitAt s k).side = side) : stay l (ixs (fun u : Unit => u.pos = i) s.units) = staysM s l i side := by
  have h1 : unitsIn s i side = (ixs (fun u : Unit => u.pos = i) s.units).filter fun k => decide ((unitAt s k).side = side) := by
    unfold unitsIn ixs
    rw [List.filter_map, List.filter_filter]
    congr 1
    refine List.filter_congr fun x hx => ?_
    obtain ⟨k, hk⟩ := List.mem_iff_getElem?.1 hx
    have h2 : s.units[x.2]? = some x.1 := by
      rw [List.getElem?_zipIdx] at hk
      cases hu : s.units[k]? with
      | none => rw [hu] at hk; cases hk
      | some v => rw [hu] at hk; simp at hk; rw [← hk]; simpa using hu
    have h3 : unitAt s (x.2 : Int) = x.1 := at_nat h2
    by_cases p1 : x.1.pos = i <;> by_cases p2 : x.1.side = side <;> simp [Function.comp, h3, p1, p2]
  unfold staysM stay
  rw [h1, List.countP_filter]
  refine List.countP_congr fun k hk => ?_
  rcases h k hk with h2 | h2 <;> simp [h2]
/-- An attempt of the other side the other way. -/
def SwapM (s : State) (side : Int) (a : Attempt) (l : List Attempt) : Prop := ∃ x ∈ l, ¬ (unitAt s x.unit).side = side ∧ x.src = a.dst ∧ x.dst = a.src
def ClashM (s : State) (side : Int) (a : Attempt) (l : List Attempt) : Prop := ∃ x ∈ l, ¬ (unitAt s x.unit).side = side ∧ x.dst = a.dst
noncomputable def firstM (s : State) (side : Int) (a : Attempt) (l : List Attempt) : Nat := l.countP fun x => decide ((unitAt s x.unit).side = side ∧ x.dst = a.dst ∧ x.unit < a.unit)
theorem firstM_nil (s : State) (side : Int) (a : Attempt) : firstM s side a [] = 0 := rfl
theorem firstM_snoc (s : State) (side : Int) (a : Attempt) (l : List Attempt) (x : Attempt) : firstM s side a (l ++ [x]) = firstM s side a l + if (unitAt s x.unit).side = side ∧ x.dst = a.dst ∧ x.unit < a.unit then 1 else 0 := by
  unfold firstM
  rw [List.countP_append]
  by_cases h : (unitAt s x.unit).side = side ∧ x.dst = a.dst ∧ x.unit < a.unit <;> simp [h]
theorem firstM_le (s : State) (side : Int) (a : Attempt) (l : List Attempt) : firstM s side a l ≤ l.length := List.countP_le_length
theorem SwapM_snoc (s : State) (side : Int) (a : Attempt) (l : List Attempt) (x : Attempt) : SwapM s side a (l ++ [x]) ↔ SwapM s side a l ∨ (¬ (unitAt s x.unit).side = side ∧ x.src = a.dst ∧ x.dst = a.src) := by
  unfold SwapM
  simp only [List.mem_append, List.mem_singleton, or_and_right, exists_or, exists_eq_left]
theorem ClashM_snoc (s : State) (side : Int) (a : Attempt) (l : List Attempt) (x : Attempt) : ClashM s side a (l ++ [x]) ↔ ClashM s side a l ∨ (¬ (unitAt s x.unit).side = side ∧ x.dst = a.dst) := by
  unfold ClashM
  simp only [List.mem_append, List.mem_singleton, or_and_right, exists_or, exists_eq_left]
/-- The reason. -/
noncomputable def reasonM (b : Board) (s : State) (l : List Attempt) (a : Attempt) : Int :=
  if 0 < staysM s l a.dst (1 - (unitAt s a.unit).side) then 1 else
  if SwapM s (unitAt s a.unit).side a l then 2 else
  if ClashM s (unitAt s a.unit).side a l then 3 else
  if b.rules.stack ≤ (staysM s l a.dst (unitAt s a.unit).side : Int) + firstM s (unitAt s a.unit).side a l then 4 else 0
theorem c_spec_fStays (s : State) (l : List Attempt) (i side : Int) (hl : Len l.length) (hs : s.units.length ≤ 1048576) : C n_spec_fStays [StateV false s, AttemptsV false l, I i, I side] = some (I (staysM s l i side)) := by
  refine callC p_spec_fStays rfl ?_
  have e1 := c_spec_sAt s i side (by omega)
  have hle : (unitsIn s i side).length ≤ 1048576 := Nat.le_trans (ixs_length_le ..) hs
  unfold staysM
  generalize unitsIn s i side = L at *
  simp [xRun, a_spec_fStays, e1, ints_length]
  refine list_loop L (by omega) (fun n (_ : Unit) => [(9, I (stay l (L.take n))), (17, I n)]) (fun _ _ => True) default (by simp [stay_nil]) trivial ?_ ?_
  · intro N E n k z hk hlt hm ht hwi _ hN hE
    have e2 := c_spec_fLeaves l k hl
    have hb := stay_le l (L.take n)
    rw [List.length_take] at hb
    rw [ht, stay_snoc] at hN
    have w1 : IntKind.i64.wrap ((stay l (L.take n) : Int) + 1) = ((stay l (L.take n) + 1 : Nat) : Int) := by rw [wrap_small (by omega) (by omega)]; omega
    by_cases h1 : Goes l k
    · simp [bodyF, b_spec_fStays_0, hlt, ints_length, ints_get hk, ints_at hk, e2, h1, hwi]
      exact hN _ z (by simp [h1]) trivial
    · simp [bodyF, b_spec_fStays_0, hlt, ints_length, ints_get hk, ints_at hk, e2, h1, w1, hwi]
      exact hN _ z (by simp [h1]) trivial
  · intro N E z _ hE
    rw [List.take_length]
    simp [bodyF, b_spec_fStays_0, ints_length]
    exact hE _ _ fun st => by simp
theorem c_spec_fReason (b : Board) (s : State) (l : List Attempt) (m : Nat) (a : Attempt) (hl : LenB b) (h : StateW b s) (ho : ∀ x ∈ l, Has s x.unit) (hls : l.length ≤ 1048576) (ham : l[m]? = some a) : C n_spec_fReason [BoardV false b, StateV false s, AttemptsV false l, I m] = some (I (reasonM b s l a)) := by
  refine callC p_spec_fReason rfl ?_
  have hs12 := h.lens
  have hst := h.board.rules.stack
  have ml : m < l.length := (List.getElem?_eq_some_iff.1 ham).1
  have hu : Has s a.unit := ho a (List.mem_of_getElem? ham)
  have n0 : ¬ a.unit < 0 := by have := hu.1; omega
  have r1 := at_lt (l := s.units) hu.1 hu.2
  have r2 := unit_row hu
  have hx : UnitOK b (unitAt s a.unit) := h.unit _ (at_mem hu.1 hu.2)
  have hw := side_wrap hx
  have e1 := c_spec_fStays s l a.dst (1 - (unitAt s a.unit).side) (by unfold Len; omega) (by omega)
  have e2 := c_spec_fStays s l a.dst (unitAt s a.unit).side (by unfold Len; omega) (by omega)
  have hb2 : staysM s l a.dst (unitAt s a.unit).side ≤ 12 := Nat.le_trans (stay_le ..) (Nat.le_trans (ixs_length_le ..) hs12)
  unfold reasonM
  generalize unitAt s a.unit = x at *
  by_cases h1 : 0 < staysM s l a.dst (1 - x.side)
  · simp [xRun, a_spec_fReason, ml, ham, at_of ham, Attempt.enc, n0, r1, r2, Unit.enc, hw, e1, h1]
  generalize staysM s l a.dst x.side = own at *
  have w1 : IntKind.i64.wrap (b.rules.stack - (own : Int)) = b.rules.stack - own := wrap_small (by omega) (by omega)
  simp [xRun, a_spec_fReason, ml, ham, at_of ham, Attempt.enc, n0, r1, r2, Unit.enc, hw, e1, h1, e2, w1]
  refine list_loop l (by omega) (fun n (_ : Unit) => [(11, Bo (decide (SwapM s x.side a (l.take n)))), (12, Bo (decide (ClashM s x.side a (l.take n)))), (13, I (b.rules.stack - own - firstM s x.side a (l.take n))), (47, I n)]) (fun _ _ => True) default (by simp [SwapM, ClashM, firstM_nil]) trivial ?_ ?_
  · intro N E n y z hy hlt hm ht hwi _ hN hE
    have hv : Has s y.unit := ho y hm
    have m0 : ¬ y.unit < 0 := by have := hv.1; omega
    have q1 := at_lt (l := s.units) hv.1 hv.2
    have q2 := unit_row hv
    have hfb := firstM_le s x.side a (l.take n)
    rw [List.length_take] at hfb
    rw [ht] at hN
    have hS := SwapM_snoc s x.side a (l.take n) y
    have hC := ClashM_snoc s x.side a (l.take n) y
    have hF := firstM_snoc s x.side a (l.take n) y
    have w2 : IntKind.i64.wrap (b.rules.stack - own - (firstM s x.side a (l.take n) : Int) - 1) = b.rules.stack - own - ((firstM s x.side a (l.take n) + 1 : Nat) : Int) := by rw [wrap_small (by omega) (by omega)]; omega
    generalize SwapM s x.side a (l.take n) = S at *
    generalize ClashM s x.side a (l.take n) = K at *
    generalize firstM s x.side a (l.take n) = F at *
    generalize unitAt s y.unit = v at *
    by_cases he : v.side = x.side
    · by_cases hd : y.dst = a.dst
      · by_cases hu2 : y.unit < a.unit
        · simp [bodyF, b_spec_fReason_0, hlt, hy, at_of hy, Attempt.enc, m0, q1, q2, Unit.enc, w2, hwi, he, hd, hu2]
          exact hN _ z (by simp [hS, hC, hF, he, hd, hu2]) trivial
        · simp [bodyF, b_spec_fReason_0, hlt, hy, at_of hy, Attempt.enc, m0, q1, q2, Unit.enc, w2, hwi, he, hd, hu2]
          exact hN _ z (by simp [hS, hC, hF, he, hd, hu2]) trivial
      · simp [bodyF, b_spec_fReason_0, hlt, hy, at_of hy, Attempt.enc, m0, q1, q2, Unit.enc, w2, hwi, he, hd]
        exact hN _ z (by simp [hS, hC, hF, he, hd]) trivial
    · by_cases hS1 : S
      · by_cases hC1 : K
        · simp [bodyF, b_spec_fReason_0, hlt, hy, at_of hy, Attempt.enc, m0, q1, q2, Unit.enc, w2, hwi, he, hS1, hC1]
          exact hN _ z (by simp [hS, hC, hF, he, hS1, hC1]) trivial
        · by_cases hd2 : y.dst = a.dst
          · simp [bodyF, b_spec_fReason_0, hlt, hy, at_of hy, Attempt.enc, m0, q1, q2, Unit.enc, w2, hwi, he, hS1, hC1, hd2]
            exact hN _ z (by simp [hS, hC, hF, he, hS1, hC1, hd2]) trivial
          · simp [bodyF, b_spec_fReason_0, hlt, hy, at_of hy, Attempt.enc, m0, q1, q2, Unit.enc, w2, hwi, he, hS1, hC1, hd2]
            exact hN _ z (by simp [hS, hC, hF, he, hS1, hC1, hd2]) trivial
      · by_cases hs2 : y.src = a.dst
        · by_cases hs3 : y.dst = a.src
          · by_cases hC1 : K
            · simp [bodyF, b_spec_fReason_0, hlt, hy, at_of hy, Attempt.enc, m0, q1, q2, Unit.enc, w2, hwi, he, hS1, hs2, hs3, hC1]
              exact hN _ z (by simp [hS, hC, hF, he, hS1, hs2, hs3, hC1]) trivial
            · by_cases hd2 : y.dst = a.dst
              · have hq1 : a.src = a.dst := by omega
                simp [bodyF, b_spec_fReason_0, hlt, hy, at_of hy, Attempt.enc, m0, q1, q2, Unit.enc, w2, hwi, he, hS1, hs2, hs3, hC1, hd2, hq1]
                exact hN _ z (by simp [hS, hC, hF, he, hS1, hs2, hs3, hC1, hd2, hq1]) trivial
              · have hq2 : ¬ a.src = a.dst := by omega
                simp [bodyF, b_spec_fReason_0, hlt, hy, at_of hy, Attempt.enc, m0, q1, q2, Unit.enc, w2, hwi, he, hS1, hs2, hs3, hC1, hd2, hq2]
                exact hN _ z (by simp [hS, hC, hF, he, hS1, hs2, hs3, hC1, hd2, hq2]) trivial
          · by_cases hC1 : K
            · simp [bodyF, b_spec_fReason_0, hlt, hy, at_of hy, Attempt.enc, m0, q1, q2, Unit.enc, w2, hwi, he, hS1, hs2, hs3, hC1]
              exact hN _ z (by simp [hS, hC, hF, he, hS1, hs2, hs3, hC1]) trivial
            · by_cases hd2 : y.dst = a.dst
              · have hq3 : ¬ a.dst = a.src := by omega
                simp [bodyF, b_spec_fReason_0, hlt, hy, at_of hy, Attempt.enc, m0, q1, q2, Unit.enc, w2, hwi, he, hS1, hs2, hs3, hC1, hd2, hq3]
                exact hN _ z (by simp [hS, hC, hF, he, hS1, hs2, hs3, hC1, hd2, hq3]) trivial
              · simp [bodyF, b_spec_fReason_0, hlt, hy, at_of hy, Attempt.enc, m0, q1, q2, Unit.enc, w2, hwi, he, hS1, hs2, hs3, hC1, hd2]
                exact hN _ z (by simp [hS, hC, hF, he, hS1, hs2, hs3, hC1, hd2]) trivial
        · by_cases hC1 : K
          · simp [bodyF, b_spec_fReason_0, hlt, hy, at_of hy, Attempt.enc, m0, q1, q2, Unit.enc, w2, hwi, he, hS1, hs2, hC1]
            exact hN _ z (by simp [hS, hC, hF, he, hS1, hs2, hC1]) trivial
          · by_cases hd2 : y.dst = a.dst
            · simp [bodyF, b_spec_fReason_0, hlt, hy, at_of hy, Attempt.enc, m0, q1, q2, Unit.enc, w2, hwi, he, hS1, hs2, hC1, hd2]
              exact hN _ z (by simp [hS, hC, hF, he, hS1, hs2, hC1, hd2]) trivial
            · simp [bodyF, b_spec_fReason_0, hlt, hy, at_of hy, Attempt.enc, m0, q1, q2, Unit.enc, w2, hwi, he, hS1, hs2, hC1, hd2]
              exact hN _ z (by simp [hS, hC, hF, he, hS1, hs2, hC1, hd2]) trivial
  · intro N E z _ hE
    rw [List.take_length]
    have hfb := firstM_le s x.side a l
    simp [bodyF, b_spec_fReason_0]
    refine hE _ _ fun st => ?_
    have hq : (b.rules.stack - own - (firstM s x.side a l : Int) ≤ 0) = (b.rules.stack ≤ (own : Int) + firstM s x.side a l) := propext ⟨fun h => by omega, fun h => by omega⟩
    by_cases h2 : SwapM s x.side a l
    · simp [h2]
    by_cases h3 : ClashM s x.side a l
    · simp [h2, h3]
    by_cases h4 : b.rules.stack ≤ (own : Int) + firstM s x.side a l
    · simp [h2, h3, hq, h4]
    · simp [h2, h3, hq, h4]
theorem c_impl_attemptReason (b : Board) (s : State) (l : List Attempt) (m : Nat) (a : Attempt) (hl : LenB b) (h : StateW b s) (ho : ∀ x ∈ l, Has s x.unit) (hls : l.length ≤ 1048576) (ham : l[m]? = some a) : C n_impl_attemptReason [BoardV false b, StateV false s, AttemptsV false l, I m] = some (I (reasonM b s l a)) := by
  refine callC p_impl_attemptReason rfl ?_
  have hs12 := h.lens
  have hst := h.board.rules.stack
  have ml : m < l.length := (List.getElem?_eq_some_iff.1 ham).1
  have hu : Has s a.unit := ho a (List.mem_of_getElem? ham)
  have n0 : ¬ a.unit < 0 := by have := hu.1; omega
  have r1 := at_lt (l := s.units) hu.1 hu.2
  have r2 := unit_row hu
  have hx : UnitOK b (unitAt s a.unit) := h.unit _ (at_mem hu.1 hu.2)
  have hxs := hx.side
  have e1 := c_impl_unitsAt s a.dst (by omega)
  have hle : (ixs (fun u : Unit => u.pos = a.dst) s.units).length ≤ 12 := Nat.le_trans (ixs_length_le ..) hs12
  have hmem : ∀ k, k ∈ ixs (fun u : Unit => u.pos = a.dst) s.units ↔ Has s k ∧ (unitAt s k).pos = a.dst := fun k => ixs_unit
  unfold reasonM
  have hall := fun hh => stay_all (s := s) (l := l) (i := a.dst) (side := (unitAt s a.unit).side) hh
  have hother : 0 < staysM s l a.dst (1 - (unitAt s a.unit).side) ↔ ∃ k ∈ ixs (fun u : Unit => u.pos = a.dst) s.units, ¬ Goes l k ∧ ¬ (unitAt s k).side = (unitAt s a.unit).side := by
    unfold staysM
    rw [stay_pos]
    constructor
    · rintro ⟨k, hk, hg⟩
      obtain ⟨g1, g2, g3⟩ := ixs_unit.1 hk
      exact ⟨k, (hmem k).2 ⟨g1, g2⟩, hg, by rw [g3]; omega⟩
    · rintro ⟨k, hk, hg, hne⟩
      obtain ⟨g1, g2⟩ := (hmem k).1 hk
      have := (h.unit _ (at_mem g1.1 g1.2) : UnitOK b (unitAt s k)).side
      exact ⟨k, ixs_unit.2 ⟨g1, g2, by omega⟩, hg⟩
  generalize unitAt s a.unit = x at *
  generalize ixs (fun u : Unit => u.pos = a.dst) s.units = L at *
  simp [xRun, a_impl_attemptReason, ml, ham, at_of ham, Attempt.enc, n0, r1, r2, Unit.enc, e1, ints_length]
  refine list_loop L (by omega) (fun n (_ : Unit) => [(11, I (stay l (L.take n))), (35, I n)]) (fun n _ => ∀ k ∈ L.take n, Goes l k ∨ (unitAt s k).side = x.side) default (by simp [stay_nil]) (by simp) ?_ ?_
  · intro N E n k z hk hlt hm ht hwi hs hN hE
    obtain ⟨hh, hpos⟩ := (hmem k).1 hm
    have m0 : ¬ k < 0 := by have := hh.1; omega
    have q1 := at_lt (l := s.units) hh.1 hh.2
    have q2 := unit_row hh
    have e2 := c_impl_leaves l k (by unfold Len; omega)
    have hb := stay_le l (L.take n)
    rw [List.length_take] at hb
    have w1 : IntKind.i64.wrap ((stay l (L.take n) : Int) + 1) = ((stay l (L.take n) + 1 : Nat) : Int) := by rw [wrap_small (by omega) (by omega)]; omega
    rw [ht, stay_snoc] at hN
    have hnext : (Goes l k ∨ (unitAt s k).side = x.side) → ∀ y ∈ L.take n ++ [k], Goes l y ∨ (unitAt s y).side = x.side := by
      intro hg y hy
      simp at hy
      rcases hy with hy | rfl
      · exact hs y hy
      · exact hg
    by_cases h1 : Goes l k
    · simp [bodyF, b_impl_attemptReason_0, hlt, ints_length, ints_get hk, ints_at hk, e2, h1, hwi]
      exact hN _ z (by simp [h1]) (hnext (.inl h1))
    by_cases h2 : (unitAt s k).side = x.side
    · simp [bodyF, b_impl_attemptReason_0, hlt, ints_length, ints_get hk, ints_at hk, e2, h1, m0, q1, q2, Unit.enc, h2, w1, hwi]
      exact hN _ z (by simp [h1]) (hnext (.inr h2))
    · have hP := hother.2 ⟨k, hm, h1, h2⟩
      simp [bodyF, b_impl_attemptReason_0, hlt, ints_length, ints_get hk, ints_at hk, e2, h1, m0, q1, q2, Unit.enc, h2]
      exact hE _ _ fun st => by simp [hP]
  · intro N E z hs hE
    rw [List.take_length] at hs ⊢
    have hP : ¬ 0 < staysM s l a.dst (1 - x.side) := fun hh => (hother.1 hh).elim fun k hk => (hs k hk.1).elim hk.2.1 hk.2.2
    have hown := hall hs
    have hb2 : staysM s l a.dst x.side ≤ 12 := by rw [← hown]; exact Nat.le_trans (stay_le ..) hle
    rw [hown]
    generalize staysM s l a.dst x.side = own at *
    simp [bodyF, b_impl_attemptReason_0, ints_length]
    refine hE _ _ fun st => ?_
    simp [hP]
    refine list_loop l (by omega) (fun n (_ : Unit) => [(11, I ((own : Int) + firstM s x.side a (l.take n))), (14, Bo (decide (SwapM s x.side a (l.take n)))), (15, Bo (decide (ClashM s x.side a (l.take n)))), (55, I n)]) (fun _ _ => True) default (by simp [SwapM, ClashM, firstM_nil]) trivial ?_ ?_
    · intro N E n y z hy hlt hm ht hwi _ hN hE
      have hv : Has s y.unit := ho y hm
      have m0 : ¬ y.unit < 0 := by have := hv.1; omega
      have q1 := at_lt (l := s.units) hv.1 hv.2
      have q2 := unit_row hv
      have hfb := firstM_le s x.side a (l.take n)
      rw [List.length_take] at hfb
      rw [ht] at hN
      have hS := SwapM_snoc s x.side a (l.take n) y
      have hC := ClashM_snoc s x.side a (l.take n) y
      have hF := firstM_snoc s x.side a (l.take n) y
      have w2 : IntKind.i64.wrap ((own : Int) + (firstM s x.side a (l.take n) : Int) + 1) = (own : Int) + ((firstM s x.side a (l.take n) + 1 : Nat) : Int) := by rw [wrap_small (by omega) (by omega)]; omega
      generalize SwapM s x.side a (l.take n) = S at *
      generalize ClashM s x.side a (l.take n) = K at *
      generalize firstM s x.side a (l.take n) = F at *
      generalize unitAt s y.unit = v at *
      by_cases hS1 : S
      · by_cases hC1 : K
        · by_cases he : v.side = x.side
          · by_cases hd : y.dst = a.dst
            · by_cases hu2 : y.unit < a.unit
              · simp [bodyF, b_impl_attemptReason_1, hlt, hy, at_of hy, Attempt.enc, m0, q1, q2, Unit.enc, w2, hwi, hS1, hC1, he, hd, hu2]
                exact hN _ z (by simp [hS, hC, hF, hS1, hC1, he, hd, hu2]) trivial
              · simp [bodyF, b_impl_attemptReason_1, hlt, hy, at_of hy, Attempt.enc, m0, q1, q2, Unit.enc, w2, hwi, hS1, hC1, he, hd, hu2]
                exact hN _ z (by simp [hS, hC, hF, hS1, hC1, he, hd, hu2]) trivial
            · simp [bodyF, b_impl_attemptReason_1, hlt, hy, at_of hy, Attempt.enc, m0, q1, q2, Unit.enc, w2, hwi, hS1, hC1, he, hd]
              exact hN _ z (by simp [hS, hC, hF, hS1, hC1, he, hd]) trivial
          · simp [bodyF, b_impl_attemptReason_1, hlt, hy, at_of hy, Attempt.enc, m0, q1, q2, Unit.enc, w2, hwi, hS1, hC1, he]
            exact hN _ z (by simp [hS, hC, hF, hS1, hC1, he]) trivial
        · by_cases he : v.side = x.side
          · by_cases hd : y.dst = a.dst
            · by_cases hu2 : y.unit < a.unit
              · simp [bodyF, b_impl_attemptReason_1, hlt, hy, at_of hy, Attempt.enc, m0, q1, q2, Unit.enc, w2, hwi, hS1, hC1, he, hd, hu2]
                exact hN _ z (by simp [hS, hC, hF, hS1, hC1, he, hd, hu2]) trivial
              · simp [bodyF, b_impl_attemptReason_1, hlt, hy, at_of hy, Attempt.enc, m0, q1, q2, Unit.enc, w2, hwi, hS1, hC1, he, hd, hu2]
                exact hN _ z (by simp [hS, hC, hF, hS1, hC1, he, hd, hu2]) trivial
            · simp [bodyF, b_impl_attemptReason_1, hlt, hy, at_of hy, Attempt.enc, m0, q1, q2, Unit.enc, w2, hwi, hS1, hC1, he, hd]
              exact hN _ z (by simp [hS, hC, hF, hS1, hC1, he, hd]) trivial
          · by_cases hd2 : y.dst = a.dst
            · simp [bodyF, b_impl_attemptReason_1, hlt, hy, at_of hy, Attempt.enc, m0, q1, q2, Unit.enc, w2, hwi, hS1, hC1, he, hd2]
              exact hN _ z (by simp [hS, hC, hF, hS1, hC1, he, hd2]) trivial
            · simp [bodyF, b_impl_attemptReason_1, hlt, hy, at_of hy, Attempt.enc, m0, q1, q2, Unit.enc, w2, hwi, hS1, hC1, he, hd2]
              exact hN _ z (by simp [hS, hC, hF, hS1, hC1, he, hd2]) trivial
      · by_cases hC1 : K
        · by_cases he : v.side = x.side
          · by_cases hd : y.dst = a.dst
            · by_cases hu2 : y.unit < a.unit
              · simp [bodyF, b_impl_attemptReason_1, hlt, hy, at_of hy, Attempt.enc, m0, q1, q2, Unit.enc, w2, hwi, hS1, hC1, he, hd, hu2]
                exact hN _ z (by simp [hS, hC, hF, hS1, hC1, he, hd, hu2]) trivial
              · simp [bodyF, b_impl_attemptReason_1, hlt, hy, at_of hy, Attempt.enc, m0, q1, q2, Unit.enc, w2, hwi, hS1, hC1, he, hd, hu2]
                exact hN _ z (by simp [hS, hC, hF, hS1, hC1, he, hd, hu2]) trivial
            · simp [bodyF, b_impl_attemptReason_1, hlt, hy, at_of hy, Attempt.enc, m0, q1, q2, Unit.enc, w2, hwi, hS1, hC1, he, hd]
              exact hN _ z (by simp [hS, hC, hF, hS1, hC1, he, hd]) trivial
          · by_cases hs2 : y.src = a.dst
            · by_cases hs3 : y.dst = a.src
              · simp [bodyF, b_impl_attemptReason_1, hlt, hy, at_of hy, Attempt.enc, m0, q1, q2, Unit.enc, w2, hwi, hS1, hC1, he, hs2, hs3]
                exact hN _ z (by simp [hS, hC, hF, hS1, hC1, he, hs2, hs3]) trivial
              · simp [bodyF, b_impl_attemptReason_1, hlt, hy, at_of hy, Attempt.enc, m0, q1, q2, Unit.enc, w2, hwi, hS1, hC1, he, hs2, hs3]
                exact hN _ z (by simp [hS, hC, hF, hS1, hC1, he, hs2, hs3]) trivial
            · simp [bodyF, b_impl_attemptReason_1, hlt, hy, at_of hy, Attempt.enc, m0, q1, q2, Unit.enc, w2, hwi, hS1, hC1, he, hs2]
              exact hN _ z (by simp [hS, hC, hF, hS1, hC1, he, hs2]) trivial
        · by_cases he : v.side = x.side
          · by_cases hd : y.dst = a.dst
            · by_cases hu2 : y.unit < a.unit
              · simp [bodyF, b_impl_attemptReason_1, hlt, hy, at_of hy, Attempt.enc, m0, q1, q2, Unit.enc, w2, hwi, hS1, hC1, he, hd, hu2]
                exact hN _ z (by simp [hS, hC, hF, hS1, hC1, he, hd, hu2]) trivial
              · simp [bodyF, b_impl_attemptReason_1, hlt, hy, at_of hy, Attempt.enc, m0, q1, q2, Unit.enc, w2, hwi, hS1, hC1, he, hd, hu2]
                exact hN _ z (by simp [hS, hC, hF, hS1, hC1, he, hd, hu2]) trivial
            · simp [bodyF, b_impl_attemptReason_1, hlt, hy, at_of hy, Attempt.enc, m0, q1, q2, Unit.enc, w2, hwi, hS1, hC1, he, hd]
              exact hN _ z (by simp [hS, hC, hF, hS1, hC1, he, hd]) trivial
          · by_cases hs2 : y.src = a.dst
            · by_cases hs3 : y.dst = a.src
              · by_cases hd2 : y.dst = a.dst
                · have hq1 : a.src = a.dst := by omega
                  simp [bodyF, b_impl_attemptReason_1, hlt, hy, at_of hy, Attempt.enc, m0, q1, q2, Unit.enc, w2, hwi, hS1, hC1, he, hs2, hs3, hd2, hq1]
                  exact hN _ z (by simp [hS, hC, hF, hS1, hC1, he, hs2, hs3, hd2, hq1]) trivial
                · have hq2 : ¬ a.src = a.dst := by omega
                  simp [bodyF, b_impl_attemptReason_1, hlt, hy, at_of hy, Attempt.enc, m0, q1, q2, Unit.enc, w2, hwi, hS1, hC1, he, hs2, hs3, hd2, hq2]
                  exact hN _ z (by simp [hS, hC, hF, hS1, hC1, he, hs2, hs3, hd2, hq2]) trivial
              · by_cases hd2 : y.dst = a.dst
                · have hq3 : ¬ a.dst = a.src := by omega
                  simp [bodyF, b_impl_attemptReason_1, hlt, hy, at_of hy, Attempt.enc, m0, q1, q2, Unit.enc, w2, hwi, hS1, hC1, he, hs2, hs3, hd2, hq3]
                  exact hN _ z (by simp [hS, hC, hF, hS1, hC1, he, hs2, hs3, hd2, hq3]) trivial
                · simp [bodyF, b_impl_attemptReason_1, hlt, hy, at_of hy, Attempt.enc, m0, q1, q2, Unit.enc, w2, hwi, hS1, hC1, he, hs2, hs3, hd2]
                  exact hN _ z (by simp [hS, hC, hF, hS1, hC1, he, hs2, hs3, hd2]) trivial
            · by_cases hd2 : y.dst = a.dst
              · simp [bodyF, b_impl_attemptReason_1, hlt, hy, at_of hy, Attempt.enc, m0, q1, q2, Unit.enc, w2, hwi, hS1, hC1, he, hs2, hd2]
                exact hN _ z (by simp [hS, hC, hF, hS1, hC1, he, hs2, hd2]) trivial
              · simp [bodyF, b_impl_attemptReason_1, hlt, hy, at_of hy, Attempt.enc, m0, q1, q2, Unit.enc, w2, hwi, hS1, hC1, he, hs2, hd2]
                exact hN _ z (by simp [hS, hC, hF, hS1, hC1, he, hs2, hd2]) trivial
    · intro N E z _ hE
      rw [List.take_length]
      have hfb := firstM_le s x.side a l
      simp [bodyF, b_impl_attemptReason_1]
      refine hE _ _ fun st => ?_
      by_cases h2 : SwapM s x.side a l
      · simp [h2]
      by_cases h3 : ClashM s x.side a l
      · simp [h2, h3]
      by_cases h4 : b.rules.stack ≤ (own : Int) + firstM s x.side a l
      · simp [h2, h3, h4]
      · simp [h2, h3, h4]
end Go.Abs.W
