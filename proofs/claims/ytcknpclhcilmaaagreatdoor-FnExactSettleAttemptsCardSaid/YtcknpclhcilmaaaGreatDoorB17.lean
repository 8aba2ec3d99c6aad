import Derived.Test.YtcknpclhcilmaaaGreatDoorB6
import Derived.Test.YtcknpclhcilmaaaGreatDoorB11
set_option linter.unusedSimpArgs false
set_option linter.unusedVariables false
set_option maxRecDepth 100000
set_option maxHeartbeats 2000000
namespace Go.Abs.W
open Go Go.Abs Classical
attribute [-simp] Bool.decide_and
/-- Of some attempts, those that are not refused among L. -/
noncomputable def nextL (b : Board) (s : State) (L l : List Attempt) : List Attempt := l.filter fun a => decide (reasonM b s L a = 0)
/-- What is told of those that are. -/
noncomputable def refdL (b : Board) (s : State) (L l : List Attempt) : List (List D) := (l.filter fun a => decide (¬ reasonM b s L a = 0)).map fun a => [.int .i64 a.unit, .int .i64 0, .int .i64 (reasonM b s L a)]
theorem nextL_nil (b : Board) (s : State) (L : List Attempt) : nextL b s L [] = [] := rfl
theorem refdL_nil (b : Board) (s : State) (L : List Attempt) : refdL b s L [] = [] := rfl
theorem nextL_snoc (b : Board) (s : State) (L l : List Attempt) (a : Attempt) : nextL b s L (l ++ [a]) = if reasonM b s L a = 0 then nextL b s L l ++ [a] else nextL b s L l := by
  unfold nextL
  rw [List.filter_append]
  by_cases h : reasonM b s L a = 0 <;> simp [h]
theorem refdL_snoc (b : Board) (s : State) (L l : List Attempt) (a : Attempt) : refdL b s L (l ++ [a]) = if reasonM b s L a = 0 then refdL b s L l else refdL b s L l ++ [[.int .i64 a.unit, .int .i64 0, .int .i64 (reasonM b s L a)]] := by
  unfold refdL
  rw [List.filter_append]
  by_cases h : reasonM b s L a = 0 <;> simp [h]
theorem nextL_sum (b : Board) (s : State) (L l : List Attempt) : (refdL b s L l).length + (nextL b s L l).length = l.length := by
  induction l with
  | nil => rfl
  | cons a l ih =>
    unfold refdL nextL at *
    by_cases h : reasonM b s L a = 0
    · simp [h] at ih ⊢; omega
    · simp [h] at ih ⊢; omega
theorem take_sum (b : Board) (s : State) (L : List Attempt) (i : Nat) : (refdL b s L (L.take i)).length + (nextL b s L (L.take i)).length ≤ L.length := by
  rw [nextL_sum, List.length_take]; omega
/-- Rounds: what is left, what is told of the refused, how many rounds. -/
noncomputable def settleN (b : Board) (s : State) : Nat → List Attempt → List (List D) → Int → List Attempt × List (List D) × Int
  | 0, l, R, k => (l, R, k)
  | n + 1, l, R, k => if (nextL b s l l).length = l.length then (l, R ++ refdL b s l l, k) else settleN b s n (nextL b s l l) (R ++ refdL b s l l) (k + 1)
noncomputable def settleM (b : Board) (s : State) (l : List Attempt) : List Attempt × List (List D) × Int := settleN b s (l.length + 1) l [] 0
theorem settleN_sub (b : Board) (s : State) (n : Nat) (l : List Attempt) (R : List (List D)) (k : Int) : ∀ x ∈ (settleN b s n l R k).1, x ∈ l := by
  induction n generalizing l R k with
  | zero => intro x hx; exact hx
  | succ n ih =>
    intro x hx
    unfold settleN at hx
    split at hx
    · exact hx
    · exact (List.mem_filter.1 (ih _ _ _ x hx)).1
theorem settleN_le (b : Board) (s : State) (n : Nat) (l : List Attempt) (R : List (List D)) (k : Int) : (settleN b s n l R k).1.length ≤ l.length := by
  induction n generalizing l R k with
  | zero => exact Nat.le_refl _
  | succ n ih =>
    unfold settleN
    split
    · exact Nat.le_refl _
    · exact Nat.le_trans (ih _ _ _) (List.length_filter_le ..)
theorem c_spec_fSettle (b : Board) (s : State) (l : List Attempt) (hl : LenB b) (h : StateOK b s) (ho : ∀ x ∈ l, Has s x.unit) (hls : l.length ≤ 1048576) :
    C n_spec_fSettle [BoardV false b, StateV false s, AttemptsV false l] = some (.tup [some (.one (.list true 3 ((settleM b s l).1.map Attempt.enc))), some (.one (.list true 3 (settleM b s l).2.1)), some (.one (.int .i64 (settleM b s l).2.2))]) := by
  refine callC p_spec_fSettle rfl ?_
  have hlm : l.length ≤ 68719476736 := by omega
  simp [xRun, a_spec_fSettle, rowsOf, hlm]
  refine while_loop (fun z : Nat × List Attempt × List (List D) × Int => [(9, .own 0 3 (z.2.1.map Attempt.enc)), (10, .own 0 3 z.2.2.1), (11, I z.2.2.2)])
    (fun z => z.2.1.length < z.1 ∧ (∀ x ∈ z.2.1, Has s x.unit) ∧ settleN b s z.1 z.2.1 z.2.2.1 z.2.2.2 = settleM b s l ∧ z.2.2.1.length + z.2.1.length ≤ l.length ∧ 0 ≤ z.2.2.2 ∧ z.2.2.2 + z.2.1.length ≤ l.length)
    (fun z => z.1) (l.length + 1, l, [], 0) (by simp) ⟨by simp, ho, rfl, by simp, by simp, by simp⟩ ?_
  rintro N E ⟨n, L, R, k⟩ ⟨g1, g2, g3, g4, g5, g6⟩ hN hE
  simp only at g1 g2 g3 g4 g5 g6 hN ⊢
  obtain ⟨n, rfl⟩ : ∃ m, n = m + 1 := ⟨n - 1, by omega⟩
  simp [bodyF, b_spec_fSettle_1]
  refine list_loopR L (by omega) (fun i (_ : Unit) => [(10, .own 0 3 (R ++ refdL b s L (L.take i))), (12, .own 0 3 ((nextL b s L (L.take i)).map Attempt.enc)), (21, I i)]) (fun _ _ => True) default (by simp [nextL_nil, refdL_nil]) trivial ?_ ?_
  · intro N2 E2 i a z ha hi hm ht hwi _ hN2 hE2
    have e2 := c_spec_fReason b s L i a hl h g2 (by omega) ha
    have hsum := take_sum b s L i
    have hle1 : ((R.length : Int) + (refdL b s L (L.take i)).length) + 1 ≤ 68719476736 := by omega
    have hle2 : ((nextL b s L (L.take i)).length : Int) + 1 ≤ 68719476736 := by omega
    have hle3 : R.length + (refdL b s L (L.take i)).length + 1 ≤ 68719476736 := by omega
    have hle4 : (nextL b s L (L.take i)).length + 1 ≤ 68719476736 := by omega
    rw [ht, nextL_snoc, refdL_snoc] at hN2
    generalize nextL b s L (L.take i) = X at *
    generalize refdL b s L (L.take i) = Y at *
    by_cases h1 : reasonM b s L a = 0
    · simp only [if_pos h1] at hN2
      simp [bodyF, b_spec_fSettle_0, hi, ha, at_of ha, Attempt.enc, e2, h1, rowsOf, hle2, hle4, hwi]
      exact hN2 _ z (by simp [Attempt.enc]) trivial
    · simp only [if_neg h1] at hN2
      simp [bodyF, b_spec_fSettle_0, hi, ha, at_of ha, Attempt.enc, e2, h1, rowsOf, hle1, hle3, hwi]
      exact hN2 _ z (by simp [Attempt.enc]) trivial
  · intro N2 E2 z _ hE2
    rw [List.take_length]
    have hsum := nextL_sum b s L L
    have g3' := g3
    unfold settleN at g3'
    have w1 : IntKind.i64.wrap (k + 1) = k + 1 := wrap_small (by omega) (by omega)
    simp [bodyF, b_spec_fSettle_0]
    refine hE2 _ _ fun st => ?_
    by_cases hq : ((nextL b s L L).length : Int) = L.length
    · rw [if_pos (by omega)] at g3'
      rw [← g3'] at hE
      simp [hq]
      exact hE _ _ fun st => by simp
    · rw [if_neg (by omega)] at g3'
      simp [hq, w1]
      refine hN _ (n, nextL b s L L, R ++ refdL b s L L, k + 1) (by simp) ⟨?_, ?_, g3', ?_, ?_, ?_⟩ (by simp)
      · show (nextL b s L L).length < n; omega
      · intro x hx; exact g2 x (List.mem_filter.1 hx).1
      · show (R ++ refdL b s L L).length + (nextL b s L L).length ≤ l.length; rw [List.length_append]; omega
      · show 0 ≤ k + 1; omega
      · show k + 1 + ((nextL b s L L).length : Int) ≤ l.length; omega
@[simp] theorem safe_atts (l : List Attempt) : safeLL (l.map Attempt.enc) = true := by
  induction l with
  | nil => rfl
  | cons x l ih => simp [safeLL, safeL, D.safe, ih, Attempt.enc]
theorem c_slices_Clone_Attempt (l : List Attempt) (hl : l.length ≤ 1048576) : C n_slices_Clone_impl_Attempt_impl_Attempt [AttemptsV false l] = some (Rows true 3 (l.map Attempt.enc)) := by
  refine callC p_slices_Clone_impl_Attempt_impl_Attempt rfl ?_
  have h1 : l.length ≤ 68719476736 := by omega
  by_cases h : l = []
  · subst h
    simp [xRun, a_slices_Clone_impl_Attempt_impl_Attempt, rowsOf]
  · have h2 : ¬ (l.length : Int) = 0 := by
      intro hh; exact h (List.eq_nil_of_length_eq_zero (by omega))
    have h3 : ¬ l.length = 0 := by omega
    simp [xRun, a_slices_Clone_impl_Attempt_impl_Attempt, h2, h3, h, h1, rowsOf]
theorem c_impl_settle (b : Board) (s : State) (l : List Attempt) (hl : LenB b) (h : StateOK b s) (ho : ∀ x ∈ l, Has s x.unit) (hls : l.length ≤ 1048576) :
    C n_impl_settle [BoardV false b, StateV false s, AttemptsV false l] = some (.tup [some (.one (.list true 3 ((settleM b s l).1.map Attempt.enc))), some (.one (.int .i64 (settleM b s l).2.2)), some (.one .gone)]) := by
  refine callC p_impl_settle rfl ?_
  have e0 := c_slices_Clone_Attempt l hls
  simp [xRun, a_impl_settle, e0]
  refine while_loop (fun z : Nat × List Attempt × List (List D) × Int => [(9, .own 0 3 (z.2.1.map Attempt.enc)), (10, I z.2.2.2)])
    (fun z => z.2.1.length < z.1 ∧ (∀ x ∈ z.2.1, Has s x.unit) ∧ settleN b s z.1 z.2.1 z.2.2.1 z.2.2.2 = settleM b s l ∧ z.2.1.length ≤ l.length ∧ 0 ≤ z.2.2.2 ∧ z.2.2.2 + z.2.1.length ≤ l.length)
    (fun z => z.1) (l.length + 1, l, [], 0) (by simp) ⟨by simp, ho, rfl, by simp, by simp, by simp⟩ ?_
  rintro N E ⟨n, L, R, k⟩ ⟨g1, g2, g3, g4, g5, g6⟩ hN hE
  simp only at g1 g2 g3 g4 g5 g6 hN ⊢
  obtain ⟨n, rfl⟩ : ∃ m, n = m + 1 := ⟨n - 1, by omega⟩
  simp [bodyF, b_impl_settle_1, rowsOf]
  refine list_loopR L (by omega) (fun i (_ : Unit) => [(12, .own 0 3 ((nextL b s L (L.take i)).map Attempt.enc)), (22, I i)]) (fun _ _ => True) default (by simp [nextL_nil]) trivial ?_ ?_
  · intro N2 E2 i a z ha hi hm ht hwi _ hN2 hE2
    have e2 := c_impl_attemptReason b s L i a hl h g2 (by omega) ha
    have hsum := take_sum b s L i
    have hle2 : ((nextL b s L (L.take i)).length : Int) + 1 ≤ 68719476736 := by omega
    have hle4 : (nextL b s L (L.take i)).length + 1 ≤ 68719476736 := by omega
    rw [ht, nextL_snoc] at hN2
    generalize nextL b s L (L.take i) = X at *
    by_cases h1 : reasonM b s L a = 0
    · simp only [if_pos h1] at hN2
      simp [bodyF, b_impl_settle_0, hi, ha, at_of ha, Attempt.enc, e2, h1, rowsOf, hle2, hle4, hwi]
      exact hN2 _ z (by simp [Attempt.enc]) trivial
    · simp only [if_neg h1] at hN2
      simp [bodyF, b_impl_settle_0, hi, ha, at_of ha, Attempt.enc, e2, h1, rowsOf, hwi]
      exact hN2 _ z (by simp) trivial
  · intro N2 E2 z _ hE2
    rw [List.take_length]
    have hsum := nextL_sum b s L L
    have g3' := g3
    unfold settleN at g3'
    have w1 : IntKind.i64.wrap (k + 1) = k + 1 := wrap_small (by omega) (by omega)
    simp [bodyF, b_impl_settle_0]
    refine hE2 _ _ fun st => ?_
    by_cases hq : ((nextL b s L L).length : Int) = L.length
    · rw [if_pos (by omega)] at g3'
      rw [← g3'] at hE
      simp [hq]
      exact hE _ _ fun st => by simp
    · rw [if_neg (by omega)] at g3'
      simp [hq, w1]
      refine hN _ (n, nextL b s L L, R ++ refdL b s L L, k + 1) (by simp) ⟨?_, ?_, g3', ?_, ?_, ?_⟩ (by simp)
      · show (nextL b s L L).length < n; omega
      · intro x hx; exact g2 x (List.mem_filter.1 hx).1
      · show (nextL b s L L).length ≤ l.length; omega
      · show 0 ≤ k + 1; omega
      · show k + 1 + ((nextL b s L L).length : Int) ≤ l.length; omega
noncomputable def setR (b : Board) (s : State) (l : List Attempt) : List Attempt := if AsksOK b s l then (settleM b s l).1 else []
noncomputable def setK (b : Board) (s : State) (l : List Attempt) : Int := if AsksOK b s l then (settleM b s l).2.2 else 0
noncomputable def doR (b : Board) (s : State) (l : List Attempt) : State := if AsksOK b s l then doM s (settleM b s l).1 else ⟨0, 0, []⟩
theorem setR_len {b : Board} {s : State} {l : List Attempt} (gl : Len l.length) : Len (setR b s l).length := by
  unfold setR
  split
  · unfold Len at *; exact Nat.le_trans (settleN_le ..) gl
  · unfold Len; simp
theorem doR_len {b : Board} {s : State} {l : List Attempt} (gs : Len s.units.length) : Len (doR b s l).units.length := by
  unfold doR
  split
  · rw [doM_len]; exact gs
  · unfold Len; simp
theorem c_spec_SettleAttempts (b : Board) (s : State) (l : List Attempt) (gb : LenB b) (gs : Len s.units.length) (gl : Len l.length) : C n_spec_SettleAttempts [BoardV false b, StateV false s, AttemptsV false l] = some (.tup [some (.one (.list true 3 ((setR b s l).map Attempt.enc))), some (.one (.int .i64 (setK b s l))), some (.one (.bool (decide (AsksOK b s l))))]) := by
  refine callC p_spec_SettleAttempts rfl ?_
  have e1 := c_spec_fAsked b s l gb gs gl
  unfold setR setK
  by_cases h : AsksOK b s l
  · have e2 := c_spec_fSettle b s l gb h.1 (fun x hx => (h.2.1 x hx).1) (by unfold Len at gl; omega)
    simp [xRun, a_spec_SettleAttempts, e1, h, e2]
  · simp [xRun, a_spec_SettleAttempts, e1, h]
theorem c_impl_SettleAttempts (b : Board) (s : State) (l : List Attempt) (gb : LenB b) (gs : Len s.units.length) (gl : Len l.length) : C n_impl_SettleAttempts [BoardV false b, StateV false s, AttemptsV false l] = some (.tup [some (.one (.list true 3 ((setR b s l).map Attempt.enc))), some (.one (.int .i64 (setK b s l))), some (.one (.bool (decide (AsksOK b s l))))]) := by
  refine callC p_impl_SettleAttempts rfl ?_
  have e1 := c_impl_areAttempts b s l gb gs gl
  unfold setR setK
  by_cases h : AsksOK b s l
  · have e2 := c_impl_settle b s l gb h.1 (fun x hx => (h.2.1 x hx).1) (by unfold Len at gl; omega)
    simp [xRun, a_impl_SettleAttempts, e1, h, e2]
  · simp [xRun, a_impl_SettleAttempts, e1, h]
theorem c_spec_DoAttempts (b : Board) (s : State) (l : List Attempt) (gb : LenB b) (gs : Len s.units.length) (gl : Len l.length) : C n_spec_DoAttempts [BoardV false b, StateV false s, AttemptsV false l] = some (.tup [some (.agg (StateA true (doR b s l))), some (.one (.bool (decide (AsksOK b s l))))]) := by
  refine callC p_spec_DoAttempts rfl ?_
  have e1 := c_spec_fAsked b s l gb gs gl
  unfold doR
  by_cases h : AsksOK b s l
  · have e2 := c_spec_fSettle b s l gb h.1 (fun x hx => (h.2.1 x hx).1) (by unfold Len at gl; omega)
    have e3 := c_spec_fDo s (settleM b s l).1 gs (Nat.le_trans (settleN_le ..) gl) (fun x hx => (h.2.1 x (settleN_sub _ _ _ _ _ _ x hx)).1)
    simp [xRun, a_spec_DoAttempts, e1, h, e2, e3]
  · simp [xRun, a_spec_DoAttempts, e1, h]
theorem c_impl_DoAttempts (b : Board) (s : State) (l : List Attempt) (gb : LenB b) (gs : Len s.units.length) (gl : Len l.length) : C n_impl_DoAttempts [BoardV false b, StateV false s, AttemptsV false l] = some (.tup [some (.agg (StateA true (doR b s l))), some (.one (.bool (decide (AsksOK b s l))))]) := by
  refine callC p_impl_DoAttempts rfl ?_
  have e1 := c_impl_SettleAttempts b s l gb gs gl
  unfold setR setK at e1
  unfold doR
  by_cases h : AsksOK b s l
  · simp only [if_pos h, decide_eq_true h] at e1
    have e3 := c_impl_madeAttempts s (settleM b s l).1 gs (Nat.le_trans (settleN_le ..) gl) (fun x hx => (h.2.1 x (settleN_sub _ _ _ _ _ _ x hx)).1)
    simp [xRun, a_impl_DoAttempts, e1, h, e3]
  · simp only [if_neg h, decide_eq_false h] at e1
    simp [xRun, a_impl_DoAttempts, e1, h]
end Go.Abs.W
