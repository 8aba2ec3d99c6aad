import Derived.Test.YtdhkoobikheabaaGreatDoorB4
import Derived.Test.YtdhkoobikheabaaGreatDoorB8
import Derived.Test.YtdhkoobikheabaaGreatDoorB11
import Derived.Test.YtdhkoobikheabaaGreatDoorB9
set_option linter.unusedSimpArgs false
set_option linter.unusedVariables false
set_option maxRecDepth 100000
set_option maxHeartbeats 2000000
namespace Go.Abs.W
open Go Go.Abs Classical
attribute [-simp] Bool.decide_and
/-- Of some attempts, those that are not refused among L. -/
noncomputable def nextL (b : Board) (s : State) (L l : List Attempt) : List Attempt := l.filter fun a => decide (reasonM b s L a = 0)
/-- What is told of those that are. -/
noncomputable def refdL (b : Board) (s : State) (L l : List Attempt) : List (List D) := (l.filter fun a => decide (¬ reasonM b s L a = 0)).map fun a => [.int .i64 a.unit, .int .i64 0, .int .i64 (reasonM b s L a)]
theorem nextL_nil (b : Board) (s : State) (L : List Attempt) : nextL b s L [] = [] := rfl
theorem refdL_nil (b : Board) (s : State) (L : List Attempt) : refdL b s L [] = [] := rfl
theorem nextL_snoc (b : Board) (s : State) (L l : List Attempt) (a : Attempt) : nextL b s L (l ++ [a]) = if reasonM b s L a = 0 then nextL b s L l ++ [a] else nextL b s L l := by
  unfold nextL
  rw [List.filter_append]
  by_cases h : reasonM b s L a = 0 <;> simp [h]
theorem refdL_snoc (b : Board) (s : State) (L l : List Attempt) (a : Attempt) : refdL b s L (l ++ [a]) = if reasonM b s L a = 0 then refdL b s L l else refdL b s L l ++ [[.int .i64 a.unit, .int .i64 0, .int .i64 (reasonM b s L a)]] := by
  unfold refdL
  rw [List.filter_append]
  by_cases h : reasonM b s L a = 0 <;> simp [h]
theorem nextL_sum (b : Board) (s : State) (L l : List Attempt) : (refdL b s L l).length + (nextL b s L l).length = l.length := by
  induction l with
  | nil => rfl
  | cons a l ih =>
    unfold refdL nextL at *
    by_cases h : reasonM b s L a = 0
    · simp [h] at ih ⊢; omega
    · simp [h] at ih ⊢; omega
theorem take_sum (b : Board) (s : State) (L : List Attempt) (i : Nat) : (refdL b s L (L.take i)).length + (nextL b s L (L.take i)).length ≤ L.length := by
  rw [nextL_sum, List.length_take]; omega
/-- Rounds: what is left, what is told of the refused, how many rounds. -/
noncomputable def settleN (b : Board) (s : State) : Nat → List Attempt → List (List D) → Int → List Attempt × List (List D) × Int
  | 0, l, R, k => (l, R, k)
  | n + 1, l, R, k => if (nextL b s l l).length = l.length then (l, R ++ refdL b s l l, k) else settleN b s n (nextL b s l l) (R ++ refdL b s l l) (k + 1)
noncomputable def settleM (b : Board) (s : State) (l : List Attempt) : List Attempt × List (List D) × Int := settleN b s (l.length + 1) l [] 0
theorem c_spec_fSettle (b : Board) (s : State) (l : List Attempt) (hl : LenB b) (h : StateW b s) (ho : ∀ x ∈ l, Has s x.unit) (hls : l.length ≤ 1048576) :
    C n_spec_fSettle [BoardV false b, StateV false s, AttemptsV false l] = some (.tup [some (.one (.list true 3 ((settleM b s l).1.map Attempt.enc))), some (.one (.list true 3 (settleM b s l).2.1)), some (.one (.int .i64 (settleM b s l).2.2))]) := by
  refine callC p_spec_fSettle rfl ?_
  have hlm : l.length ≤ 68719476736 := by omega
  simp [xRun, a_spec_fSettle, rowsOf, hlm]
  refine while_loop (fun z : Nat × List Attempt × List (List D) × Int => [(9, .own 0 3 (z.2.1.map Attempt.enc)), (10, .own 0 3 z.2.2.1), (11, I z.2.2.2)])
    (fun z => z.2.1.length < z.1 ∧ (∀ x ∈ z.2.1, Has s x.unit) ∧ settleN b s z.1 z.2.1 z.2.2.1 z.2.2.2 = settleM b s l ∧ z.2.2.1.length + z.2.1.length ≤ l.length ∧ 0 ≤ z.2.2.2 ∧ z.2.2.2 + z.2.1.length ≤ l.length)
    (fun z => z.1) (l.length + 1, l, [], 0) (by simp) ⟨by simp, ho, rfl, by simp, by simp, by simp⟩ ?_
  rintro N E ⟨n, L, R, k⟩ ⟨g1, g2, g3, g4, g5, g6⟩ hN hE
  simp only at g1 g2 g3 g4 g5 g6 hN ⊢
  obtain ⟨n, rfl⟩ : ∃ m, n = m + 1 := ⟨n - 1, by omega⟩
  simp [bodyF, b_spec_fSettle_1]
  refine list_loopR L (by omega) (fun i (_ : Unit) => [(10, .own 0 3 (R ++ refdL b s L (L.take i))), (12, .own 0 3 ((nextL b s L (L.take i)).map Attempt.enc)), (21, I i)]) (fun _ _ => True) default (by simp [nextL_nil, refdL_nil]) trivial ?_ ?_
  · intro N2 E2 i a z ha hi hm ht hwi _ hN2 hE2
    have e2 := c_spec_fReason b s L i a hl h g2 (by omega) ha
    have hsum := take_sum b s L i
    have hle1 : ((R.length : Int) + (refdL b s L (L.take i)).length) + 1 ≤ 68719476736 := by omega
    have hle2 : ((nextL b s L (L.take i)).length : Int) + 1 ≤ 68719476736 := by omega
    have hle3 : R.length + (refdL b s L (L.take i)).length + 1 ≤ 68719476736 := by omega
    have hle4 : (nextL b s L (L.take i)).length + 1 ≤ 68719476736 := by omega
    rw [ht, nextL_snoc, refdL_snoc] at hN2
    generalize nextL b s L (L.take i) = X at *
    generalize refdL b s L (L.take i) = Y at *
    by_cases h1 : reasonM b s L a = 0
    · simp only [if_pos h1] at hN2
      simp [bodyF, b_spec_fSettle_0, hi, ha, at_of ha, Attempt.enc, e2, h1, rowsOf, hle2, hle4, hwi]
      exact hN2 _ z (by simp [Attempt.enc]) trivial
    · simp only [if_neg h1] at hN2
      simp [bodyF, b_spec_fSettle_0, hi, ha, at_of ha, Attempt.enc, e2, h1, rowsOf, hle1, hle3, hwi]
      exact hN2 _ z (by simp [Attempt.enc]) trivial
  · intro N2 E2 z _ hE2
    rw [List.take_length]
    have hsum := nextL_sum b s L L
    have g3' := g3
    unfold settleN at g3'
    have w1 : IntKind.i64.wrap (k + 1) = k + 1 := wrap_small (by omega) (by omega)
    simp [bodyF, b_spec_fSettle_0]
    refine hE2 _ _ fun st => ?_
    by_cases hq : ((nextL b s L L).length : Int) = L.length
    · rw [if_pos (by omega)] at g3'
      rw [← g3'] at hE
      simp [hq]
      exact hE _ _ fun st => by simp
    · rw [if_neg (by omega)] at g3'
      simp [hq, w1]
      refine hN _ (n, nextL b s L L, R ++ refdL b s L L, k + 1) (by simp) ⟨?_, ?_, g3', ?_, ?_, ?_⟩ (by simp)
      · show (nextL b s L L).length < n; omega
      · intro x hx; exact g2 x (List.mem_filter.1 hx).1
      · show (R ++ refdL b s L L).length + (nextL b s L L).length ≤ l.length; rw [List.length_append]; omega
      · show 0 ≤ k + 1; omega
      · show k + 1 + ((nextL b s L L).length : Int) ≤ l.length; omega
@[simp] theorem safe_atts (l : List Attempt) : safeLL (l.map Attempt.enc) = true := by
  induction l with
  | nil => rfl
  | cons x l ih => simp [safeLL, safeL, D.safe, ih, Attempt.enc]
theorem c_slices_Clone_Attempt (l : List Attempt) (hl : l.length ≤ 1048576) : C n_slices_Clone_impl_Attempt_impl_Attempt [AttemptsV false l] = some (Rows true 3 (l.map Attempt.enc)) := by
  refine callC p_slices_Clone_impl_Attempt_impl_Attempt rfl ?_
  have h1 : l.length ≤ 68719476736 := by omega
  by_cases h : l = []
  · subst h
    simp [xRun, a_slices_Clone_impl_Attempt_impl_Attempt, rowsOf]
  · have h2 : ¬ (l.length : Int) = 0 := by
      intro hh; exact h (List.eq_nil_of_length_eq_zero (by omega))
    have h3 : ¬ l.length = 0 := by omega
    simp [xRun, a_slices_Clone_impl_Attempt_impl_Attempt, h2, h3, h, h1, rowsOf]
/-- What a map keeps of the refused. -/
noncomputable def refdP (b : Board) (s : State) (L l : List Attempt) : List (Int × Int) := (l.filter fun a => decide (¬ reasonM b s L a = 0)).map fun a => (a.unit, reasonM b s L a)
def rowR (p : Int × Int) : List D := [.int .i64 p.1, .int .i64 0, .int .i64 p.2]
theorem refdP_rows (b : Board) (s : State) (L l : List Attempt) : (refdP b s L l).map rowR = refdL b s L l := by unfold refdP refdL; rw [List.map_map]; rfl
theorem refdP_nil (b : Board) (s : State) (L : List Attempt) : refdP b s L [] = [] := rfl
theorem refdP_snoc (b : Board) (s : State) (L l : List Attempt) (a : Attempt) : refdP b s L (l ++ [a]) = if reasonM b s L a = 0 then refdP b s L l else refdP b s L l ++ [(a.unit, reasonM b s L a)] := by
  unfold refdP
  rw [List.filter_append]
  by_cases h : reasonM b s L a = 0 <;> simp [h]
theorem refdP_mem {b : Board} {s : State} {L l : List Attempt} {p : Int × Int} (h : p ∈ refdP b s L l) : ∃ a ∈ l, a.unit = p.1 ∧ ¬ reasonM b s L a = 0 := by
  unfold refdP at h
  obtain ⟨a, ha, rfl⟩ := List.mem_map.1 h
  obtain ⟨h1, h2⟩ := List.mem_filter.1 ha
  exact ⟨a, h1, rfl, by simpa using h2⟩
noncomputable def settlePN (b : Board) (s : State) : Nat → List Attempt → List (Int × Int) → List (Int × Int)
  | 0, l, R => R
  | n + 1, l, R => if (nextL b s l l).length = l.length then R ++ refdP b s l l else settlePN b s n (nextL b s l l) (R ++ refdP b s l l)
noncomputable def settleP (b : Board) (s : State) (l : List Attempt) : List (Int × Int) := settlePN b s (l.length + 1) l []
theorem settlePN_rows (b : Board) (s : State) (n : Nat) (l : List Attempt) (R : List (Int × Int)) (k : Int) : (settleN b s n l (R.map rowR) k).2.1 = (settlePN b s n l R).map rowR := by
  induction n generalizing l R k with
  | zero => rfl
  | succ n ih =>
    unfold settleN settlePN
    have h : R.map rowR ++ refdL b s l l = (R ++ refdP b s l l).map rowR := by rw [List.map_append, refdP_rows]
    split
    · exact h
    · rw [h]; exact ih _ _ _
theorem settle_rows (b : Board) (s : State) (l : List Attempt) : (settleM b s l).2.1 = (settleP b s l).map rowR := settlePN_rows b s (l.length + 1) l [] 0
/-- No two attempts of one unit. -/
def UsA (l : List Attempt) : Prop := (l.map fun a => a.unit).Nodup
theorem UsA.sub {l L : List Attempt} (h : UsA L) (hs : l.Sublist L) : UsA l := (hs.map _).nodup h
theorem UsA.inj {l : List Attempt} (h : UsA l) {a c : Attempt} (ha : a ∈ l) (hc : c ∈ l) (he : c.unit = a.unit) : c = a := by
  obtain ⟨i, hi, rfl⟩ := List.mem_iff_getElem.1 hc
  obtain ⟨j, hj, rfl⟩ := List.mem_iff_getElem.1 ha
  rcases Nat.lt_trichotomy i j with hl | hl | hl
  · have := List.pairwise_iff_getElem.1 h i j (by simpa using hi) (by simpa using hj) hl
    rw [List.getElem_map, List.getElem_map] at this
    exact absurd he this
  · subst hl; rfl
  · have := List.pairwise_iff_getElem.1 h j i (by simpa using hj) (by simpa using hi) hl
    rw [List.getElem_map, List.getElem_map] at this
    exact absurd he.symm this
/-- What is known behind it. -/
structure Sett (l : List Attempt) (R0 : List (Int × Int)) (left : List Attempt) (R : List (Int × Int)) : Prop where
  sub : left.Sublist l
  nodup : (R.map (·.1)).Nodup
  disj : ∀ p ∈ R, ∀ a ∈ left, p.1 ≠ a.unit
  all : ∀ a ∈ l, a ∈ left ∨ ∃ p ∈ R, p.1 = a.unit
  src : ∀ p ∈ R, p ∈ R0 ∨ ∃ a ∈ l, a.unit = p.1
theorem refdP_nodup {b : Board} {s : State} {L l : List Attempt} (h : UsA l) : ((refdP b s L l).map (·.1)).Nodup := by
  unfold refdP
  rw [List.map_map]
  exact (List.filter_sublist.map _).nodup h
theorem sett_of (b : Board) (s : State) : ∀ (n : Nat) (l : List Attempt) (R : List (Int × Int)) (k : Int) (Q : List (List D)), l.length < n → UsA l → (R.map (·.1)).Nodup → (∀ p ∈ R, ∀ a ∈ l, p.1 ≠ a.unit) → Sett l R (settleN b s n l Q k).1 (settlePN b s n l R)
  | 0, l, R, k, Q, h, _, _, _ => by omega
  | n + 1, l, R, k, Q, h, hU, hR, hd => by
    have hN : ((R ++ refdP b s l l).map (·.1)).Nodup := by
      rw [List.map_append, List.nodup_append]
      refine ⟨hR, refdP_nodup hU, fun x hx y hy hxy => ?_⟩
      obtain ⟨p, hp, rfl⟩ := List.mem_map.1 hx
      obtain ⟨q, hq, rfl⟩ := List.mem_map.1 hy
      obtain ⟨a, ha, he, _⟩ := refdP_mem hq
      exact hd p hp a ha (hxy.trans he.symm)
    have hall : ∀ a ∈ l, a ∈ nextL b s l l ∨ ∃ p ∈ R ++ refdP b s l l, p.1 = a.unit := by
      intro a ha
      by_cases h0 : reasonM b s l a = 0
      · exact .inl (List.mem_filter.2 ⟨ha, by simpa using h0⟩)
      · refine .inr ⟨(a.unit, reasonM b s l a), List.mem_append_right _ ?_, rfl⟩
        unfold refdP
        exact List.mem_map.2 ⟨a, List.mem_filter.2 ⟨ha, by simpa using h0⟩, rfl⟩
    have hnd : ∀ p ∈ R ++ refdP b s l l, ∀ a ∈ nextL b s l l, p.1 ≠ a.unit := by
      intro p hp a ha hpa
      obtain ⟨ha1, ha2⟩ := List.mem_filter.1 ha
      rcases List.mem_append.1 hp with hp | hp
      · exact hd p hp a ha1 hpa
      · obtain ⟨c, hc, he, hr⟩ := refdP_mem hp
        have hca : c = a := hU.inj ha1 hc (he.trans hpa)
        subst hca
        simp at ha2
        exact hr ha2
    have hsub : (nextL b s l l).Sublist l := List.filter_sublist
    have hsrc : ∀ p ∈ R ++ refdP b s l l, p ∈ R ∨ ∃ a ∈ l, a.unit = p.1 := by
      intro p hp
      rcases List.mem_append.1 hp with hp | hp
      · exact .inl hp
      · obtain ⟨a, ha, he, _⟩ := refdP_mem hp
        exact .inr ⟨a, ha, he⟩
    unfold settleN settlePN
    by_cases hq : (nextL b s l l).length = l.length
    · rw [if_pos hq, if_pos hq]
      have he : nextL b s l l = l := hsub.eq_of_length hq
      rw [he] at hnd hall
      exact ⟨List.Sublist.refl _, hN, hnd, hall, hsrc⟩
    · rw [if_neg hq, if_neg hq]
      have hlen := hsub.length_le
      obtain ⟨g1, g2, g3, g4, g5⟩ := sett_of b s n (nextL b s l l) (R ++ refdP b s l l) (k + 1) (Q ++ refdL b s l l) (by omega) (hU.sub hsub) hN hnd
      refine ⟨g1.trans hsub, g2, g3, fun a ha => ?_, fun p hp => ?_⟩
      · rcases hall a ha with h1 | ⟨p, hp, he⟩
        · exact g4 a h1
        · right
          have : ∀ (m : Nat) (l : List Attempt) (R : List (Int × Int)), p ∈ R → p ∈ settlePN b s m l R := by
            intro m
            induction m with
            | zero => intro l R h; exact h
            | succ m ih =>
              intro l R h
              unfold settlePN
              split
              · exact List.mem_append_left _ h
              · exact ih _ _ (List.mem_append_left _ h)
          exact ⟨p, this _ _ _ hp, he⟩
      · rcases g5 p hp with h1 | ⟨a, ha, he⟩
        · exact hsrc p h1
        · exact .inr ⟨a, hsub.subset ha, he⟩
theorem settle_sett (b : Board) (s : State) (l : List Attempt) (h : UsA l) : Sett l [] (settleM b s l).1 (settleP b s l) := sett_of b s (l.length + 1) l [] 0 [] (by omega) h (by simp) (by simp)
theorem c_impl_settle (b : Board) (s : State) (l : List Attempt) (hl : LenB b) (h : StateW b s) (ho : ∀ x ∈ l, Has s x.unit) (hls : l.length ≤ 1048576) (hU : UsA l) :
    C n_impl_settle [BoardV false b, StateV false s, AttemptsV false l] = some (.tup [some (.one (.list true 3 ((settleM b s l).1.map Attempt.enc))), some (.one (.int .i64 (settleM b s l).2.2)), some (.mapv (settleP b s l))]) := by
  refine callC p_impl_settle rfl ?_
  have e0 := c_slices_Clone_Attempt l hls
  simp [xRun, a_impl_settle, e0]
  refine while_loop (fun z : Nat × List Attempt × List (Int × Int) × Int => [(9, .own 0 3 (z.2.1.map Attempt.enc)), (10, I z.2.2.2), (18, .mapv 0 z.2.2.1)])
    (fun z => z.2.1.length < z.1 ∧ (∀ x ∈ z.2.1, Has s x.unit) ∧ settleN b s z.1 z.2.1 (z.2.2.1.map rowR) z.2.2.2 = settleM b s l ∧ z.2.1.length ≤ l.length ∧ 0 ≤ z.2.2.2 ∧ z.2.2.2 + z.2.1.length ≤ l.length ∧
      settlePN b s z.1 z.2.1 z.2.2.1 = settleP b s l ∧ UsA z.2.1 ∧ ∀ p ∈ z.2.2.1, ∀ a ∈ z.2.1, p.1 ≠ a.unit)
    (fun z => z.1) (l.length + 1, l, [], 0) (by simp) ⟨by simp, ho, rfl, by simp, by simp, by simp, rfl, hU, by simp⟩ ?_
  rintro N E ⟨n, L, R, k⟩ ⟨g1, g2, g3, g4, g5, g6, g7, g8, g9⟩ hN hE
  simp only at g1 g2 g3 g4 g5 g6 g7 g8 g9 hN ⊢
  obtain ⟨n, rfl⟩ : ∃ m, n = m + 1 := ⟨n - 1, by omega⟩
  simp [bodyF, b_impl_settle_1, rowsOf]
  refine list_loopR L (by omega) (fun i (_ : Unit) => [(12, .own 0 3 ((nextL b s L (L.take i)).map Attempt.enc)), (22, I i), (18, .mapv 0 (R ++ refdP b s L (L.take i)))]) (fun _ _ => True) default (by simp [nextL_nil, refdP_nil]) trivial ?_ ?_
  · intro N2 E2 i a z ha hi hm ht hwi _ hN2 hE2
    have e2 := c_impl_attemptReason b s L i a hl h g2 (by omega) ha
    have hsum := take_sum b s L i
    have hle2 : ((nextL b s L (L.take i)).length : Int) + 1 ≤ 68719476736 := by omega
    have hle4 : (nextL b s L (L.take i)).length + 1 ≤ 68719476736 := by omega
    have hk : kvSet (R ++ refdP b s L (L.take i)) a.unit (reasonM b s L a) = R ++ (refdP b s L (L.take i) ++ [(a.unit, reasonM b s L a)]) := by
      rw [← List.append_assoc]
      refine (kv_none fun p hp => ?_).2.1 _
      rcases List.mem_append.1 hp with hp | hp
      · exact g9 p hp a hm
      · obtain ⟨c, hc, he, _⟩ := refdP_mem hp
        rw [← he]
        have h8 := g8
        unfold UsA at h8
        rw [← List.take_append_drop i L, List.map_append, List.nodup_append] at h8
        refine h8.2.2 _ (List.mem_map_of_mem hc) _ ?_
        obtain ⟨hlt, rfl⟩ := List.getElem?_eq_some_iff.1 ha
        rw [List.drop_eq_getElem_cons hlt]
        exact List.mem_map_of_mem (List.mem_cons_self ..)
    rw [ht, nextL_snoc, refdP_snoc] at hN2
    generalize nextL b s L (L.take i) = X at *
    generalize refdP b s L (L.take i) = Y at *
    by_cases h1 : reasonM b s L a = 0
    · simp only [if_pos h1] at hN2
      simp [bodyF, b_impl_settle_0, hi, ha, at_of ha, Attempt.enc, e2, h1, rowsOf, hle2, hle4, hwi]
      exact hN2 _ z (by simp [Attempt.enc]) trivial
    · simp only [if_neg h1] at hN2
      simp [bodyF, b_impl_settle_0, hi, ha, at_of ha, Attempt.enc, e2, h1, rowsOf, hk, hwi]
      exact hN2 _ z (by simp) trivial
  · intro N2 E2 z _ hE2
    rw [List.take_length]
    have hsum := nextL_sum b s L L
    have g3' := g3
    have g7' := g7
    unfold settleN at g3'
    unfold settlePN at g7'
    have w1 : IntKind.i64.wrap (k + 1) = k + 1 := wrap_small (by omega) (by omega)
    simp [bodyF, b_impl_settle_0]
    refine hE2 _ _ fun st => ?_
    by_cases hq : ((nextL b s L L).length : Int) = L.length
    · rw [if_pos (by omega)] at g3' g7'
      rw [← g3', ← g7'] at hE
      simp [hq]
      exact hE _ _ fun st => by simp
    · rw [if_neg (by omega)] at g3' g7'
      simp [hq, w1]
      have hsub : (nextL b s L L).Sublist L := List.filter_sublist
      refine hN _ (n, nextL b s L L, R ++ refdP b s L L, k + 1) (by simp) ⟨?_, ?_, ?_, ?_, ?_, ?_, g7', g8.sub hsub, ?_⟩ (by simp)
      · show (nextL b s L L).length < n; omega
      · intro x hx; exact g2 x (List.mem_filter.1 hx).1
      · show settleN b s n (nextL b s L L) ((R ++ refdP b s L L).map rowR) (k + 1) = _
        rw [List.map_append, refdP_rows]; exact g3'
      · show (nextL b s L L).length ≤ l.length; omega
      · show 0 ≤ k + 1; omega
      · show k + 1 + ((nextL b s L L).length : Int) ≤ l.length; omega
      · intro p hp a ha hpa
        obtain ⟨ha1, ha2⟩ := List.mem_filter.1 ha
        rcases List.mem_append.1 hp with hp | hp
        · exact g9 p hp a ha1 hpa
        · obtain ⟨c, hc, he, hr⟩ := refdP_mem hp
          refine hr ?_
          have hca : c = a := g8.inj ha1 hc (he.trans hpa)
          rw [hca]; simpa using ha2
end Go.Abs.W
set_option linter.unusedSimpArgs false
set_option linter.unusedVariables false
set_option maxRecDepth 100000
set_option maxHeartbeats 2000000
namespace Go.Abs.W
open Go Go.Abs Classical
attribute [-simp] Bool.decide_and
/-! ### a list that is worked through up to a place -/
section
variable {α β : Type} {f : α → α} {l : List α} {n : Nat} {a : α}
def upto (f : α → α) (l : List α) (n : Nat) : List α := (l.take n).map f ++ l.drop n
theorem upto_zero : upto f l 0 = l := by simp [upto]
theorem upto_all : upto f l l.length = l.map f := by simp [upto]
theorem upto_length : (upto f l n).length = l.length := by simp [upto]; omega
theorem drop_here (h : l[n]? = some a) : l.drop n = a :: l.drop (n + 1) := by
  obtain ⟨hn, rfl⟩ := List.getElem?_eq_some_iff.1 h
  exact List.drop_eq_getElem_cons hn
theorem take_here (h : l[n]? = some a) : l.take (n + 1) = l.take n ++ [a] := by
  obtain ⟨hn, rfl⟩ := List.getElem?_eq_some_iff.1 h
  simp
theorem upto_here (h : l[n]? = some a) : upto f l n = (l.take n).map f ++ a :: l.drop (n + 1) := by unfold upto; rw [drop_here h]
theorem upto_next (h : l[n]? = some a) : upto f l (n + 1) = (l.take n).map f ++ f a :: l.drop (n + 1) := by unfold upto; rw [take_here h]; simp
theorem take_len (h : l[n]? = some a) : ((l.take n).map f).length = n := by
  have := (List.getElem?_eq_some_iff.1 h).1
  simp; omega
theorem upto_at (h : l[n]? = some a) : (upto f l n)[n]? = some a := by
  have h1 := take_len (f := f) h
  rw [upto_here h, List.getElem?_append_right (by omega), h1]; simp
theorem upto_set (h : l[n]? = some a) : (upto f l n).set n (f a) = upto f l (n + 1) := by
  have h1 := take_len (f := f) h
  rw [upto_here h, upto_next h, List.set_append_right _ _ (by omega), h1]; simp
theorem upto_same (h : l[n]? = some a) (hf : f a = a) : upto f l (n + 1) = upto f l n := by rw [upto_here h, upto_next h, hf]
theorem upto_map (g : α → β) (hg : ∀ a, g (f a) = g a) : (upto f l n).map g = l.map g := by
  unfold upto
  rw [List.map_append, List.map_map, ← List.map_append.symm.trans (congrArg (List.map g) (List.take_append_drop n l))]
  congr 1
  exact List.map_congr_left fun a _ => hg a
end
/-! ### one order under way -/
structure Mv where
  o : Order
  steps : Int
  reason : Int
  act : Bool
  deriving Inhabited
def Mv.row (m : Mv) : List D := [.int .i64 m.o.unit, .int .i64 m.steps, .int .i64 m.reason]
def Mv.moved (m : Mv) : Moved := ⟨m.o.unit, m.steps, m.reason⟩
/-- No two orders of one unit. -/
def Us (T : List Mv) : Prop := (T.map fun m => m.o.unit).Nodup
theorem Us.of_map {T : List Mv} (h : Us T) {f : Mv → Mv} (hf : ∀ m, (f m).o = m.o) : Us (T.map f) := by
  unfold Us at *
  rw [List.map_map]
  rwa [show ((fun m : Mv => m.o.unit) ∘ f) = fun m => m.o.unit from funext fun m => by simp [hf]]
theorem Us.split {A B : List Mv} {m : Mv} (h : Us (A ++ m :: B)) : (∀ x ∈ A, x.o.unit ≠ m.o.unit) ∧ ∀ x ∈ B, x.o.unit ≠ m.o.unit := by
  unfold Us at h
  rw [List.map_append, List.map_cons, List.nodup_append] at h
  obtain ⟨_, h2, h3⟩ := h
  refine ⟨fun x hx => h3 _ (List.mem_map_of_mem hx) _ (List.mem_cons_self ..), fun x hx hh => ?_⟩
  have := (List.nodup_cons.1 h2).1
  exact this (hh ▸ List.mem_map_of_mem hx)
theorem split_here {T : List Mv} {i : Nat} {m : Mv} (h : T[i]? = some m) : ∃ A B, T = A ++ m :: B ∧ A.length = i := by
  refine ⟨T.take i, T.drop (i + 1), ?_, ?_⟩
  · rw [← drop_here h, List.take_append_drop]
  · have := (List.getElem?_eq_some_iff.1 h).1
    simp; omega
/-! ### the map of the orders under way -/
def kvFrom : Nat → List Mv → List (Int × Int)
  | _, [] => []
  | i, m :: T => if m.act = true then (m.o.unit, (i : Int)) :: kvFrom (i + 1) T else kvFrom (i + 1) T
def kvOf (T : List Mv) : List (Int × Int) := kvFrom 0 T
theorem kvFrom_app (i : Nat) (A B : List Mv) : kvFrom i (A ++ B) = kvFrom i A ++ kvFrom (i + A.length) B := by
  induction A generalizing i with
  | nil => simp [kvFrom]
  | cons m A ih =>
    have e : i + 1 + A.length = i + (m :: A).length := by simp; omega
    simp only [List.cons_append, kvFrom, ih, e]
    split <;> simp
theorem mem_kvFrom {p : Int × Int} {i : Nat} {T : List Mv} (h : p ∈ kvFrom i T) : ∃ m ∈ T, m.o.unit = p.1 := by
  induction T generalizing i with
  | nil => cases h
  | cons m T ih =>
    simp only [kvFrom] at h
    split at h
    · rcases List.mem_cons.1 h with rfl | h
      · exact ⟨m, by simp, rfl⟩
      · obtain ⟨x, hx, he⟩ := ih h; exact ⟨x, by simp [hx], he⟩
    · obtain ⟨x, hx, he⟩ := ih h; exact ⟨x, by simp [hx], he⟩
theorem kvGet_right {A B : List (Int × Int)} {n : Int} (h : ∀ p ∈ A, p.1 ≠ n) : kvGet (A ++ B) n = kvGet B n := by
  induction A with
  | nil => rfl
  | cons p A ih =>
    obtain ⟨a, b⟩ := p
    simp only [List.cons_append, kvGet]
    rw [if_neg (h (a, b) (by simp)), ih fun p hp => h p (by simp [hp])]
theorem kvDel_right {A B : List (Int × Int)} {n : Int} (h : ∀ p ∈ A, p.1 ≠ n) : kvDel (A ++ B) n = A ++ kvDel B n := by
  induction A with
  | nil => rfl
  | cons p A ih =>
    obtain ⟨a, b⟩ := p
    simp only [List.cons_append, kvDel]
    rw [if_neg (h (a, b) (by simp)), ih fun p hp => h p (by simp [hp])]
theorem kv_at {T : List Mv} {i : Nat} {m : Mv} (hU : Us T) (h : T[i]? = some m) : kvGet (kvOf T) m.o.unit = if m.act = true then some (i : Int) else none := by
  obtain ⟨A, B, rfl, hA⟩ := split_here h
  obtain ⟨h1, h2⟩ := hU.split
  unfold kvOf
  rw [kvFrom_app, kvGet_right fun p hp => by obtain ⟨x, hx, he⟩ := mem_kvFrom hp; rw [← he]; exact h1 x hx]
  simp only [kvFrom, Nat.zero_add, hA]
  split
  · simp [kvGet]
  · exact (kv_none fun p hp => by obtain ⟨x, hx, he⟩ := mem_kvFrom hp; rw [← he]; exact h2 x hx).1
theorem kv_off {T : List Mv} {i : Nat} {m m' : Mv} (hU : Us T) (h : T[i]? = some m) (ha : m.act = true) (h' : m'.act = false) : kvDel (kvOf T) m.o.unit = kvOf (T.set i m') := by
  obtain ⟨A, B, rfl, rfl⟩ := split_here h
  obtain ⟨h1, h2⟩ := hU.split
  unfold kvOf
  rw [kvFrom_app, kvDel_right fun p hp => by obtain ⟨x, hx, he⟩ := mem_kvFrom hp; rw [← he]; exact h1 x hx, List.set_append_right _ _ (Nat.le_refl _), Nat.sub_self, List.set_cons_zero, kvFrom_app]
  simp [kvFrom, ha, h', kvDel]
theorem kvFrom_length (i : Nat) (T : List Mv) : (kvFrom i T).length = (T.filter fun m => m.act).length := by
  induction T generalizing i with
  | nil => rfl
  | cons m T ih => cases hm : m.act <;> simp [kvFrom, hm, ih]
theorem kv_new {T : List Mv} {m : Mv} (hU : Us (T ++ [m])) (ha : m.act = true) : kvSet (kvOf T) m.o.unit T.length = kvOf (T ++ [m]) := by
  have h1 := hU.split.1
  unfold kvOf
  rw [(kv_none fun p hp => by obtain ⟨x, hx, he⟩ := mem_kvFrom hp; rw [← he]; exact h1 x hx).2.1, kvFrom_app]
  simp [kvFrom, ha]
/-! ### pairs in any order -/
theorem kvGet_mem {kv : List (Int × Int)} (h : (kv.map (·.1)).Nodup) (u r : Int) : kvGet kv u = some r ↔ (u, r) ∈ kv := by
  induction kv with
  | nil => simp [kvGet]
  | cons p kv ih =>
    obtain ⟨a, b⟩ := p
    simp only [List.map_cons, List.nodup_cons] at h
    simp only [kvGet, List.mem_cons, Prod.mk.injEq]
    split
    · rename_i hau
      subst hau
      constructor
      · intro hh; exact .inl ⟨rfl, (Option.some.inj hh).symm⟩
      · rintro (⟨_, rfl⟩ | hh)
        · rfl
        · exact absurd (List.mem_map_of_mem (f := (·.1)) hh) h.1
    · rename_i hau
      rw [ih h.2]
      constructor
      · exact .inr
      · rintro (⟨rfl, _⟩ | hh)
        · exact absurd rfl hau
        · exact hh
theorem kvGet_perm {l kv : List (Int × Int)} (hp : l.Perm kv) (h : (kv.map (·.1)).Nodup) (u : Int) : kvGet l u = kvGet kv u := by
  have h' : (l.map (·.1)).Nodup := (hp.map _).nodup_iff.2 h
  cases hc : kvGet kv u with
  | none =>
    cases hl : kvGet l u with
    | none => rfl
    | some r =>
      rw [kvGet_mem h', hp.mem_iff, ← kvGet_mem h, hc] at hl
      cases hl
  | some r => rw [kvGet_mem h', hp.mem_iff, ← kvGet_mem h, hc]
/-! ### orders that are refused, that take a step -/
def refM (kv : List (Int × Int)) (m : Mv) : Mv := match kvGet kv m.o.unit with
  | some r => { m with act := false, reason := r }
  | none => m
theorem refM_o (kv : List (Int × Int)) (m : Mv) : (refM kv m).o = m.o := by unfold refM; split <;> rfl
theorem refM_nil (m : Mv) : refM [] m = m := rfl
theorem refM_perm {l kv : List (Int × Int)} (hp : l.Perm kv) (h : (kv.map (·.1)).Nodup) (m : Mv) : refM l m = refM kv m := by unfold refM; rw [kvGet_perm hp h]
theorem refM_cons {p : Int × Int} {l : List (Int × Int)} (h : ((p :: l).map (·.1)).Nodup) (m : Mv) : refM l (refM [p] m) = refM (p :: l) m := by
  obtain ⟨a, b⟩ := p
  simp only [List.map_cons, List.nodup_cons] at h
  unfold refM
  simp only [kvGet]
  by_cases hu : a = m.o.unit
  · have : kvGet l m.o.unit = none := by
      cases hc : kvGet l m.o.unit with
      | none => rfl
      | some r => rw [kvGet_mem h.2, ← hu] at hc; exact absurd (List.mem_map_of_mem (f := (·.1)) hc) h.1
    simp [hu, this]
  · simp [hu]
noncomputable def goM (L : List Attempt) (m : Mv) : Mv := if Goes L m.o.unit then { m with steps := m.steps + 1 } else m
theorem goM_o (L : List Attempt) (m : Mv) : (goM L m).o = m.o := by unfold goM; split <;> rfl
theorem goM_act (L : List Attempt) (m : Mv) : (goM L m).act = m.act := by unfold goM; split <;> rfl
theorem goM_nil (m : Mv) : goM [] m = m := by unfold goM; rw [if_neg]; rintro ⟨a, h, _⟩; cases h
theorem goM_snoc {L : List Attempt} {a : Attempt} (h : ¬ Goes L a.unit) (m : Mv) : goM [a] (goM L m) = goM (L ++ [a]) m := by
  have e1 : Goes (L ++ [a]) m.o.unit ↔ Goes L m.o.unit ∨ a.unit = m.o.unit := by simp [Goes, or_and_right, exists_or]
  have e2 : ∀ u, Goes [a] u ↔ a.unit = u := by simp [Goes]
  unfold goM
  by_cases h1 : Goes L m.o.unit
  · have h2 : ¬ a.unit = m.o.unit := fun hh => h (hh ▸ h1)
    simp [e1, e2, h1, h2]
  · simp [e1, e2, h1]
theorem go_ref (L : List Attempt) (kv : List (Int × Int)) (m : Mv) : goM L (refM kv m) = refM kv (goM L m) := by
  unfold goM
  rw [refM_o]
  split
  · unfold refM
    dsimp only
    split <;> rfl
  · rfl
theorem set_here {T : List Mv} {i : Nat} {m : Mv} (hU : Us T) (h : T[i]? = some m) {f : Mv → Mv} (hf : ∀ x, x.o.unit ≠ m.o.unit → f x = x) : T.set i (f m) = T.map f := by
  obtain ⟨A, B, rfl, rfl⟩ := split_here h
  obtain ⟨h1, h2⟩ := hU.split
  rw [List.set_append_right _ _ (Nat.le_refl _), Nat.sub_self, List.set_cons_zero, List.map_append, List.map_cons]
  congr 1
  · exact (List.map_id A).symm.trans (List.map_congr_left fun x hx => (hf x (h1 x hx)).symm)
  · congr 1
    exact (List.map_id B).symm.trans (List.map_congr_left fun x hx => (hf x (h2 x hx)).symm)
end Go.Abs.W
set_option linter.unusedSimpArgs false
set_option linter.unusedVariables false
set_option maxRecDepth 100000
set_option maxHeartbeats 2000000
namespace Go.Abs.W
open Go Go.Abs Classical
attribute [-simp] Bool.decide_and
/-- An order whose unit cannot go on is no longer under way. -/
noncomputable def markOf (b : Board) (s : State) (m : Mv) : Mv := if m.act = true ∧ ¬ GoesA b s m.o m.steps then { m with act := false, reason := if m.steps < m.o.path.length then 5 else m.reason } else m
noncomputable def attM (b : Board) (s : State) (m : Mv) : List Attempt := if m.act = true then nextA b s m.o m.steps else []
noncomputable def attsM (b : Board) (s : State) (T : List Mv) : List Attempt := T.flatMap (attM b s)
noncomputable def roundM (b : Board) (z : State × List Mv) : State × List Mv :=
  (doM z.1 (settleM b z.1 (attsM b z.1 z.2)).1, (z.2.map (markOf b z.1)).map fun m => refM (settleP b z.1 (attsM b z.1 z.2)) (goM (settleM b z.1 (attsM b z.1 z.2)).1 m))
def liveN (T : List Mv) : Nat := (T.filter fun m => m.act).length
noncomputable def runM (b : Board) : Nat → State × List Mv → State × List Mv
  | 0, z => z
  | n + 1, z => if liveN z.2 = 0 then z else runM b n (roundM b z)
theorem markOf_o (b : Board) (s : State) (m : Mv) : (markOf b s m).o = m.o := by unfold markOf; split <;> rfl
theorem markOf_steps (b : Board) (s : State) (m : Mv) : (markOf b s m).steps = m.steps := by unfold markOf; split <;> rfl
theorem attM_mark (b : Board) (s : State) (m : Mv) : attM b s (markOf b s m) = attM b s m := by
  unfold markOf
  split
  · rename_i h
    simp [attM, nextA, h.1, h.2]
  · rfl
theorem attsM_mark (b : Board) (s : State) (T : List Mv) : attsM b s (T.map (markOf b s)) = attsM b s T := by
  unfold attsM
  rw [List.flatMap_map]
  congr 1
  funext m; exact attM_mark b s m
theorem attM_eq {b : Board} {s : State} {m : Mv} {a : Attempt} (h : a ∈ attM b s m) : m.act = true ∧ GoesA b s m.o m.steps ∧ a = goA b s m.o m.steps := by
  unfold attM nextA at h
  split at h
  · split at h
    · simp at h; exact ⟨‹_›, ‹_›, h⟩
    · cases h
  · cases h
theorem attsM_mem {b : Board} {s : State} {T : List Mv} {a : Attempt} (h : a ∈ attsM b s T) : ∃ m ∈ T, m.act = true ∧ GoesA b s m.o m.steps ∧ a = goA b s m.o m.steps := by
  obtain ⟨m, hm, ha⟩ := List.mem_flatMap.1 h
  exact ⟨m, hm, attM_eq ha⟩
theorem attsM_has {b : Board} {s : State} {T : List Mv} {m : Mv} (hm : m ∈ T) (ha : m.act = true) (hg : GoesA b s m.o m.steps) : goA b s m.o m.steps ∈ attsM b s T :=
  List.mem_flatMap.2 ⟨m, hm, by unfold attM nextA; rw [if_pos ha, if_pos hg]; simp⟩
theorem attsM_us {b : Board} {s : State} {T : List Mv} (h : Us T) : UsA (attsM b s T) := by
  induction T with
  | nil => simp [UsA, attsM]
  | cons m T ih =>
    unfold Us at h
    simp only [List.map_cons, List.nodup_cons] at h
    have ih' := ih h.2
    unfold UsA at ih' ⊢
    have e : attsM b s (m :: T) = attM b s m ++ attsM b s T := by simp [attsM]
    rw [e, List.map_append, List.nodup_append]
    refine ⟨?_, ih', fun x hx y hy hxy => ?_⟩
    · unfold attM nextA
      split
      · split <;> simp
      · simp
    · obtain ⟨a, ha, rfl⟩ := List.mem_map.1 hx
      obtain ⟨c, hc, rfl⟩ := List.mem_map.1 hy
      obtain ⟨_, _, rfl⟩ := attM_eq ha
      obtain ⟨m2, hm2, _, _, rfl⟩ := attsM_mem hc
      refine h.1 ?_
      have : m.o.unit = m2.o.unit := hxy
      rw [this]
      exact List.mem_map_of_mem hm2
theorem attsM_le (b : Board) (s : State) (T : List Mv) : (attsM b s T).length ≤ T.length := by
  induction T with
  | nil => simp [attsM]
  | cons m T ih =>
    have e : attsM b s (m :: T) = attM b s m ++ attsM b s T := by simp [attsM]
    have h1 : (attM b s m).length ≤ 1 := by
      unfold attM
      split
      · exact nextA_le ..
      · simp
    rw [e, List.length_append, List.length_cons]; omega
theorem Us.inj {T : List Mv} (h : Us T) {a c : Mv} (ha : a ∈ T) (hc : c ∈ T) (he : c.o.unit = a.o.unit) : c = a := by
  obtain ⟨i, hi, rfl⟩ := List.mem_iff_getElem.1 hc
  obtain ⟨j, hj, rfl⟩ := List.mem_iff_getElem.1 ha
  rcases Nat.lt_trichotomy i j with hl | hl | hl
  · have := List.pairwise_iff_getElem.1 h i j (by simpa using hi) (by simpa using hj) hl
    rw [List.getElem_map, List.getElem_map] at this
    exact absurd he this
  · subst hl; rfl
  · have := List.pairwise_iff_getElem.1 h j i (by simpa using hj) (by simpa using hi) hl
    rw [List.getElem_map, List.getElem_map] at this
    exact absurd he.symm this
theorem attsUp_T (b : Board) (s : State) (T : List Mv) : ∀ n, n ≤ T.length → attsUp b s (T.map (·.o)) (T.map (·.steps)) (T.map (·.act)) n = attsM b s (T.take n)
  | 0, _ => by simp [attsUp_zero, attsM]
  | n + 1, h => by
    obtain ⟨m, hm⟩ : ∃ m, T[n]? = some m := ⟨T[n]'(by omega), by simp⟩
    rw [attsUp_succ b s (o := m.o) (dn := m.steps) (t := m.act) (by rw [List.getElem?_map, hm]; rfl) (by rw [List.getElem?_map, hm]; rfl) (by rw [List.getElem?_map, hm]; rfl), attsUp_T b s T n (by omega), take_here hm]
    unfold attsM
    rw [List.flatMap_append]
    simp [attM]
/-! ### units that are moved -/
theorem unit_put {s : State} {u v p : Int} (hu : Has s u) (hv : Has s v) : unitAt (putS s u p) v = if v = u then posU (unitAt s u) p else unitAt s v := unitAt_set hu hv
theorem unit_doM : ∀ (L : List Attempt) (s : State), UsA L → (∀ a ∈ L, Has s a.unit) → ∀ v, Has s v → (∀ a ∈ L, a.unit = v → unitAt (doM s L) v = posU (unitAt s v) a.dst) ∧ (¬ Goes L v → unitAt (doM s L) v = unitAt s v)
  | [], s, _, _, v, _ => ⟨by simp, fun _ => rfl⟩
  | a :: L, s, hU, hH, v, hv => by
    have hU2 := hU
    unfold UsA at hU2
    simp only [List.map_cons, List.nodup_cons] at hU2
    have ha := hH a (by simp)
    have e : doM s (a :: L) = doM (putS s a.unit a.dst) L := rfl
    obtain ⟨g1, g2⟩ := unit_doM L (putS s a.unit a.dst) hU2.2 (fun c hc => putS_has.2 (hH c (by simp [hc]))) v (putS_has.2 hv)
    refine ⟨fun c hc hcv => ?_, fun hg => ?_⟩
    · rw [e]
      rcases List.mem_cons.1 hc with rfl | hc
      · have hn : ¬ Goes L v := fun ⟨d, hd, hdv⟩ => hU2.1 (by rw [hcv, ← hdv]; exact List.mem_map_of_mem (f := fun a : Attempt => a.unit) hd)
        rw [g2 hn, unit_put ha hv, if_pos hcv.symm, hcv]
      · have hne : ¬ v = a.unit := fun hh => hU2.1 (by rw [← hh, ← hcv]; exact List.mem_map_of_mem (f := fun a : Attempt => a.unit) hc)
        rw [g1 c hc hcv, unit_put ha hv, if_neg hne]
    · have h1 : ¬ Goes L v := fun ⟨d, hd, hdv⟩ => hg ⟨d, by simp [hd], hdv⟩
      have h2 : ¬ v = a.unit := fun hh => hg ⟨a, by simp, hh.symm⟩
      rw [e, g2 h1, unit_put ha hv, if_neg h2]
theorem StateW.put {b : Board} {s : State} (h : StateW b s) {u i : Int} (hu : Has s u) (hst : 0 < (unitAt s u).steps) (hi : On b i) (hc : ¬ cost b (unitAt s u).kind i = 0) : StateW b (putS s u i) := by
  have hx : UnitOK b (unitAt s u) := h.unit _ (at_mem hu.1 hu.2)
  have hnew : UnitOK b (posU (unitAt s u) i) := ⟨hx.side, hx.kind, hx.steps, .inr ⟨hst, hi, hc⟩⟩
  refine ⟨h.board, h.turn, h.weather, by rw [putS_len]; exact h.len, fun v hv => ?_⟩
  rcases List.mem_or_eq_of_mem_set hv with hv | rfl
  · exact h.unit v hv
  · exact hnew
theorem StateW.doM {b : Board} : ∀ (L : List Attempt) (s : State), StateW b s → UsA L → (∀ a ∈ L, Has s a.unit ∧ 0 < (unitAt s a.unit).steps ∧ On b a.dst ∧ ¬ cost b (unitAt s a.unit).kind a.dst = 0) → StateW b (doM s L)
  | [], s, h, _, _ => h
  | a :: L, s, h, hU, hH => by
    have hU2 := hU
    unfold UsA at hU2
    simp only [List.map_cons, List.nodup_cons] at hU2
    obtain ⟨h1, h2, h3, h4⟩ := hH a (by simp)
    refine StateW.doM L (putS s a.unit a.dst) (h.put h1 h2 h3 h4) hU2.2 fun c hc => ?_
    obtain ⟨k1, k2, k3, k4⟩ := hH c (by simp [hc])
    have hne : ¬ c.unit = a.unit := fun hh => hU2.1 (by rw [← hh]; exact List.mem_map_of_mem (f := fun a : Attempt => a.unit) hc)
    rw [unit_put h1 k1, if_neg hne]
    exact ⟨putS_has.2 k1, k2, k3, k4⟩
/-! ### what stays true of an order -/
structure MvOK (b : Board) (s : State) (m : Mv) : Prop where
  has : Has s m.o.unit
  on : 0 ≤ (unitAt s m.o.unit).pos
  path : PathOK m.o.path
  lo : 0 ≤ m.steps
  hi : m.steps ≤ m.o.path.length
  way : StepsOK b (unitAt s m.o.unit).kind s.weather (unitAt s m.o.unit).pos (m.o.path.drop m.steps.toNat)
structure ZOK (b : Board) (s : State) (T : List Mv) : Prop where
  w : StateW b s
  mv : ∀ m ∈ T, MvOK b s m
  nd : Us T
theorem MvOK.ord {b : Board} {s : State} {m : Mv} (h : MvOK b s m) : OrdOK s m.o := ⟨h.has, h.on, h.path⟩
theorem MvOK.split {b : Board} {s : State} {m : Mv} (h : MvOK b s m) (hlt : m.steps < m.o.path.length) : m.o.path.drop m.steps.toNat = at' m.o.path m.steps :: m.o.path.drop (m.steps + 1).toNat := by
  have h0 := h.lo
  rw [drop_here (at_some h0 hlt), show (m.steps + 1).toNat = m.steps.toNat + 1 by omega]
theorem MvOK.can {b : Board} {s : State} {m : Mv} (h : MvOK b s m) (hlt : m.steps < m.o.path.length) : CanStep b s m.o m.steps := by
  have h0 := h.lo
  have h9 := h.path.len
  have hw := h.way
  rw [h.split hlt] at hw
  exact ⟨⟨⟨h0, by omega⟩, hlt⟩, hw.1⟩
theorem MvOK.goes {b : Board} {s : State} {m : Mv} (h : MvOK b s m) (hlt : m.steps < m.o.path.length) : GoesA b s m.o m.steps ↔ zoneA b s m.o m.steps = 0 := ⟨fun hh => hh.2, fun hh => ⟨h.can hlt, hh⟩⟩
theorem MvOK.stays {b : Board} {s : State} {m : Mv} (hlt : ¬ m.steps < m.o.path.length) : ¬ GoesA b s m.o m.steps := fun hh => hlt hh.1.1.2
theorem step_cost {b : Board} {k w i d : Int} (h : ¬ stepM b k w i d = 0) : ¬ cost b k (nextM b.map i d) = 0 := by
  unfold stepM at h
  split at h
  · exact absurd rfl h
  · rename_i hh; exact fun hc => hh (.inr hc)
theorem goA_ok {b : Board} {s : State} {m : Mv} (hw : StateW b s) (h : MvOK b s m) (hg : GoesA b s m.o m.steps) : Has s (goA b s m.o m.steps).unit ∧ 0 < (unitAt s (goA b s m.o m.steps).unit).steps ∧ On b (goA b s m.o m.steps).dst ∧ ¬ cost b (unitAt s (goA b s m.o m.steps).unit).kind (goA b s m.o m.steps).dst = 0 := by
  have hx : UnitOK b (unitAt s m.o.unit) := hw.unit _ (at_mem h.has.1 h.has.2)
  have hst := hg.1.2
  have hp := h.on
  refine ⟨h.has, ?_, next_on hw.board (step_next hst), step_cost hst⟩
  rcases hx.pos with hh | hh
  · have : (unitAt s m.o.unit).pos = -1 := hh
    omega
  · exact hh.1
theorem atts_ok {b : Board} {s : State} {T : List Mv} (h : ZOK b s T) : ∀ a ∈ attsM b s T, Has s a.unit ∧ 0 < (unitAt s a.unit).steps ∧ On b a.dst ∧ ¬ cost b (unitAt s a.unit).kind a.dst = 0 := by
  intro a ha
  obtain ⟨m, hm, _, hg, rfl⟩ := attsM_mem ha
  exact goA_ok h.w (h.mv m hm) hg
theorem left_sub (b : Board) (s : State) (T : List Mv) (h : Us T) : (settleM b s (attsM b s T)).1.Sublist (attsM b s T) := (settle_sett b s _ (attsM_us h)).sub
theorem ZOK.round {b : Board} {s : State} {T : List Mv} (h : ZOK b s T) : ZOK b (roundM b (s, T)).1 (roundM b (s, T)).2 := by
  have hU := attsM_us (b := b) (s := s) h.nd
  have hsub := left_sub b s T h.nd
  have hA := atts_ok h
  have hUL := hU.sub hsub
  have hHL : ∀ a ∈ (settleM b s (attsM b s T)).1, Has s a.unit := fun a ha => (hA a (hsub.subset ha)).1
  have hlen := doM_len s (settleM b s (attsM b s T)).1
  have hwt := doM_turn s (settleM b s (attsM b s T)).1
  refine ⟨StateW.doM _ s h.w hUL fun a ha => hA a (hsub.subset ha), fun m' hm' => ?_, ?_⟩
  · simp only [roundM] at hm' ⊢
    rw [List.map_map] at hm'
    obtain ⟨m, hm, rfl⟩ := List.mem_map.1 hm'
    have hk := h.mv m hm
    have ho : (refM (settleP b s (attsM b s T)) (goM (settleM b s (attsM b s T)).1 (markOf b s m))).o = m.o := by rw [refM_o, goM_o, markOf_o]
    have hst : (refM (settleP b s (attsM b s T)) (goM (settleM b s (attsM b s T)).1 (markOf b s m))).steps = if Goes (settleM b s (attsM b s T)).1 m.o.unit then m.steps + 1 else m.steps := by
      have e1 : ∀ (kv : List (Int × Int)) (m : Mv), (refM kv m).steps = m.steps := fun kv m => by unfold refM; split <;> rfl
      rw [e1]
      unfold goM
      rw [markOf_o]
      split
      · show (markOf b s m).steps + 1 = _; rw [markOf_steps]
      · exact markOf_steps b s m
    show MvOK b (Go.Abs.W.doM s (settleM b s (attsM b s T)).1) (refM (settleP b s (attsM b s T)) (goM (settleM b s (attsM b s T)).1 (markOf b s m)))
    generalize refM (settleP b s (attsM b s T)) (goM (settleM b s (attsM b s T)).1 (markOf b s m)) = m' at ho hst
    generalize hLeft : (settleM b s (attsM b s T)).1 = L at *
    obtain ⟨g1, g2⟩ := unit_doM L s hUL hHL m.o.unit hk.has
    have hhas : Has (Go.Abs.W.doM s L) m.o.unit := by have := hk.has; unfold Has at *; rw [hlen]; exact this
    by_cases hg : Goes L m.o.unit
    · rw [if_pos hg] at hst
      obtain ⟨a, ha, hau⟩ := hg
      obtain ⟨m2, hm2, hact, hgo, rfl⟩ := attsM_mem (hsub.subset ha)
      have hmm : m2 = m := h.nd.inj hm hm2 hau
      subst hmm
      have hu := g1 _ ha rfl
      have hlt := hgo.1.1.2
      have hw := hk.way
      rw [hk.split hlt] at hw
      have h0 := hk.lo
      refine ⟨by rw [ho]; exact hhas, ?_, by rw [ho]; exact hk.path, by rw [hst]; omega, by rw [ho, hst]; omega, ?_⟩
      · rw [ho, hu]
        exact step_next hw.1
      · rw [ho, hu, hst, hwt.2]
        exact hw.2
    · rw [if_neg hg] at hst
      have hu := g2 hg
      exact ⟨by rw [ho]; exact hhas, by rw [ho, hu]; exact hk.on, by rw [ho]; exact hk.path, by rw [hst]; exact hk.lo, by rw [ho, hst]; exact hk.hi, by rw [ho, hu, hst, hwt.2]; exact hk.way⟩
  · simp only [roundM]
    rw [List.map_map]
    exact h.nd.of_map fun m => by show (refM _ (goM _ (markOf b s m))).o = m.o; rw [refM_o, goM_o, markOf_o]
/-! ### the rounds end -/
def wtM (m : Mv) : Nat := if m.act = true then (m.o.path.length - m.steps).toNat + 1 else 0
def wtL (T : List Mv) : Nat := (T.map wtM).sum
theorem sum_less {α : Type} {f g : α → Nat} : ∀ (l : List α), (∀ x ∈ l, g x ≤ f x) → ((l.map g).sum ≤ (l.map f).sum) ∧ ((∃ x ∈ l, g x < f x) → (l.map g).sum < (l.map f).sum)
  | [], _ => ⟨by simp, fun ⟨x, hx, _⟩ => by cases hx⟩
  | a :: l, h => by
    obtain ⟨h1, h2⟩ := sum_less l fun x hx => h x (by simp [hx])
    have h3 := h a (by simp)
    simp only [List.map_cons, List.sum_cons]
    refine ⟨by omega, fun ⟨x, hx, hlt⟩ => ?_⟩
    rcases List.mem_cons.1 hx with rfl | hx
    · omega
    · have := h2 ⟨x, hx, hlt⟩; omega
theorem liveN_zero {T : List Mv} : liveN T = 0 ↔ ∀ m ∈ T, m.act = false := by
  unfold liveN
  rw [List.length_eq_zero_iff, List.filter_eq_nil_iff]
  exact ⟨fun h m hm => by have := h m hm; simpa using this, fun h m hm => by simp [h m hm]⟩
theorem wt_less {b : Board} {s : State} {T : List Mv} (h : ZOK b s T) (hl : ¬ liveN T = 0) : wtL (roundM b (s, T)).2 < wtL T := by
  have hU := attsM_us (b := b) (s := s) h.nd
  have hset := settle_sett b s _ hU
  unfold wtL
  simp only [roundM]
  rw [List.map_map, List.map_map]
  have key : ∀ m ∈ T, wtM (refM (settleP b s (attsM b s T)) (goM (settleM b s (attsM b s T)).1 (markOf b s m))) ≤ wtM m ∧ (m.act = true → wtM (refM (settleP b s (attsM b s T)) (goM (settleM b s (attsM b s T)).1 (markOf b s m))) < wtM m) := by
    intro m hm
    have href : ∀ (kv : List (Int × Int)) (m : Mv), m.act = false → wtM (refM kv m) = 0 := fun kv m hm => by
      unfold refM
      split
      · simp [wtM]
      · simp [wtM, hm]
    cases ha : m.act with
    | false =>
      have h1 : markOf b s m = m := by unfold markOf; simp [ha]
      rw [h1, href _ _ (by rw [goM_act]; exact ha)]
      exact ⟨Nat.zero_le _, fun hh => by cases hh⟩
    | true =>
      have h0 : 0 < wtM m := by simp [wtM, ha]
      by_cases hg : GoesA b s m.o m.steps
      · have h1 : markOf b s m = m := by unfold markOf; simp [hg]
        rw [h1]
        have hlt := hg.1.1.2
        rcases hset.all _ (attsM_has hm ha hg) with hL | ⟨p, hp, hpu⟩
        · have hgo : Goes (settleM b s (attsM b s T)).1 m.o.unit := ⟨_, hL, rfl⟩
          have h2 : goM (settleM b s (attsM b s T)).1 m = { m with steps := m.steps + 1 } := by unfold goM; rw [if_pos hgo]
          have h3 : wtM ({ m with steps := m.steps + 1 } : Mv) < wtM m := by simp [wtM, ha]; omega
          rw [h2]
          have h4 : wtM (refM (settleP b s (attsM b s T)) { m with steps := m.steps + 1 }) ≤ wtM ({ m with steps := m.steps + 1 } : Mv) := by
            unfold refM
            split
            · simp [wtM]
            · exact Nat.le_refl _
          exact ⟨by omega, fun _ => by omega⟩
        · have h2 : kvGet (settleP b s (attsM b s T)) m.o.unit = some p.2 := by
            rw [kvGet_mem hset.nodup]
            have : p = (m.o.unit, p.2) := by rw [show m.o.unit = p.1 from hpu.symm]
            rw [← this]; exact hp
          have h3 : wtM (refM (settleP b s (attsM b s T)) (goM (settleM b s (attsM b s T)).1 m)) = 0 := by
            unfold refM
            rw [goM_o, h2]
            simp [wtM]
          rw [h3]
          exact ⟨Nat.zero_le _, fun _ => h0⟩
      · have h1 : (markOf b s m).act = false := by unfold markOf; simp [ha, hg]
        rw [href _ _ (by rw [goM_act]; exact h1)]
        exact ⟨Nat.zero_le _, fun _ => h0⟩
  obtain ⟨_, k2⟩ := sum_less (f := wtM) (g := wtM ∘ ((fun m => refM (settleP b s (attsM b s T)) (goM (settleM b s (attsM b s T)).1 m)) ∘ markOf b s)) T fun x hx => (key x hx).1
  refine k2 ?_
  have : ∃ m ∈ T, m.act = true := by
    apply Classical.byContradiction
    intro hn
    exact hl (liveN_zero.2 fun m hm => by cases hh : m.act with | false => rfl | true => exact absurd ⟨m, hm, hh⟩ hn)
  obtain ⟨m, hm, ha⟩ := this
  exact ⟨m, hm, (key m hm).2 ha⟩
/-- A round without attempts. -/
theorem settle_nil (b : Board) (s : State) : (settleM b s []).1 = [] ∧ settleP b s [] = [] := by
  have h : Sett [] [] (settleM b s []).1 (settleP b s []) := settle_sett b s [] (by simp [UsA])
  refine ⟨List.sublist_nil.1 h.sub, ?_⟩
  cases hp : settleP b s [] with
  | nil => rfl
  | cons p R =>
    have := h.src p (by rw [hp]; simp)
    simp at this
theorem none_off {b : Board} {s : State} {T : List Mv} (h : attsM b s T = []) : ∀ m ∈ T.map (markOf b s), m.act = false := by
  intro m' hm'
  obtain ⟨m, hm, rfl⟩ := List.mem_map.1 hm'
  unfold markOf
  split
  · rfl
  · rename_i hh
    cases ha : m.act with
    | false => rfl
    | true =>
      have hg : GoesA b s m.o m.steps := Classical.byContradiction fun hn => hh ⟨ha, hn⟩
      have := attsM_has hm ha hg
      rw [h] at this; cases this
theorem round_none {b : Board} {s : State} {T : List Mv} (h : attsM b s T = []) : roundM b (s, T) = (s, T.map (markOf b s)) := by
  obtain ⟨h1, h2⟩ := settle_nil b s
  simp only [roundM, h, h1, h2]
  have e : (fun m => refM [] (goM [] m)) = id := funext fun m => by rw [goM_nil]; rfl
  rw [e, List.map_id]
  rfl
theorem runM_off {b : Board} {n : Nat} {z : State × List Mv} (h : liveN z.2 = 0) : runM b n z = z := by
  cases n with
  | zero => rfl
  | succ n => unfold runM; rw [if_pos h]
/-- The reference's way of stopping. -/
theorem runM_stop {b : Board} {n : Nat} {s : State} {T : List Mv} (h : attsM b s T = []) : runM b (n + 1) (s, T) = (s, T.map (markOf b s)) := by
  by_cases hl : liveN T = 0
  · rw [runM_off hl]
    have e : T.map (markOf b s) = T := (List.map_congr_left fun m hm => by
      unfold markOf; simp [liveN_zero.1 hl m hm]).trans (List.map_id T)
    rw [e]
  · rw [runM, if_neg hl, round_none h]
    exact runM_off (liveN_zero.2 (none_off h))
/-- With attempts, an order is under way. -/
theorem live_of {b : Board} {s : State} {T : List Mv} (h : ¬ attsM b s T = []) : ¬ liveN T = 0 := by
  intro hl
  refine h (List.eq_nil_iff_forall_not_mem.2 fun a ha => ?_)
  obtain ⟨m, hm, hact, _⟩ := attsM_mem ha
  rw [liveN_zero.1 hl m hm] at hact; cases hact
end Go.Abs.W
set_option linter.unusedSimpArgs false
set_option linter.unusedVariables false
set_option maxRecDepth 100000
set_option maxHeartbeats 2000000
namespace Go.Abs.W
open Go Go.Abs Classical
attribute [-simp] Bool.decide_and
/-- What good sheets of the two sides say of their orders. -/
structure TwoL (b : Board) (s : State) (L : List Order) : Prop where
  has : ∀ o ∈ L, Has s o.unit ∧ 0 ≤ (unitAt s o.unit).pos ∧ OWay b s o
  nd : (L.map fun o => o.unit).Nodup
  lt : ∀ o ∈ L, 0 ≤ o.unit ∧ o.unit < 12
  len : L.length ≤ 24
theorem code_ok {b : Board} {s : State} {x : Sheet} (hx : SheetOK b s x) (n : Nat) (hn : n < x.orders.length) : codeM b s x.side x.orders n = 0 := by
  have h2 := hx.2
  unfold firstBad at h2
  split at h2
  · rename_i k hk
    have := List.find?_some hk
    simp only [decide_eq_true_eq] at this
    exact absurd h2 this
  · rename_i hk
    have := List.find?_range_eq_none.1 hk n hn
    simpa using this
theorem fault_ok {b : Board} {s : State} {x : Sheet} (hx : SheetOK b s x) {o : Order} (ho : o ∈ x.orders) : faultM b s x.side o = 0 := by
  obtain ⟨n, hn⟩ := List.mem_iff_getElem?.1 ho
  have hz := code_ok hx n (List.getElem?_eq_some_iff.1 hn).1
  unfold codeM at hz
  rw [hn] at hz
  dsimp only at hz
  split at hz
  · cases hz
  · exact hz
theorem fault_none {b : Board} {s : State} {side : Int} {o : Order} (hf : faultM b s side o = 0) : Placed s side o.unit ∧ OWay b s o := by
  unfold faultM at hf
  by_cases h1 : Placed s side o.unit
  · by_cases h2 : OWay b s o
    · exact ⟨h1, h2⟩
    · simp [h1, h2] at hf
  · simp [h1] at hf
theorem rise_ok {b : Board} {s : State} {x : Sheet} (hx : SheetOK b s x) {k : Nat} {p o : Order} (hp : x.orders[k]? = some p) (ho : x.orders[k + 1]? = some o) : p.unit < o.unit := by
  have hz := code_ok hx (k + 1) (List.getElem?_eq_some_iff.1 ho).1
  have hf := fault_ok hx (List.mem_of_getElem? ho)
  rw [code_succ ho hp, hf] at hz
  by_cases h : o.unit ≤ p.unit
  · rw [if_pos ⟨by decide, h⟩] at hz; cases hz
  · omega
theorem rise_all {l : List Order} (h : ∀ (k : Nat) p o, l[k]? = some p → l[k + 1]? = some o → p.unit < o.unit) : (l.map fun o => o.unit).Pairwise (· < ·) := by
  induction l with
  | nil => simp
  | cons a l ih =>
    have ih' := ih fun k p o hp ho => h (k + 1) p o (by simpa using hp) (by simpa using ho)
    rw [List.map_cons, List.pairwise_cons]
    refine ⟨fun u hu => ?_, ih'⟩
    cases l with
    | nil => cases hu
    | cons c l =>
      have h0 := h 0 a c (by simp) (by simp)
      rcases List.mem_cons.1 hu with rfl | hu
      · exact h0
      · rw [List.map_cons, List.pairwise_cons] at ih'
        have := ih'.1 u hu
        omega
theorem two_list {b : Board} {s : State} {x y : Sheet} (h : TwoOK b s x y) : TwoL b s (x.orders ++ y.orders) := by
  obtain ⟨⟨h1, h2⟩, hs, hx, hy⟩ := h
  have fx : ∀ o ∈ x.orders, Placed s x.side o.unit ∧ OWay b s o := fun o ho => fault_none (fault_ok hx ho)
  have fy : ∀ o ∈ y.orders, Placed s y.side o.unit ∧ OWay b s o := fun o ho => fault_none (fault_ok hy ho)
  have hlen := hs.len
  have hall : ∀ o ∈ x.orders ++ y.orders, Has s o.unit ∧ 0 ≤ (unitAt s o.unit).pos ∧ OWay b s o := by
    intro o ho
    rcases List.mem_append.1 ho with ho | ho
    · obtain ⟨⟨k1, k2, k3⟩, k4⟩ := fx o ho; exact ⟨k1, k3, k4⟩
    · obtain ⟨⟨k1, k2, k3⟩, k4⟩ := fy o ho; exact ⟨k1, k3, k4⟩
  refine ⟨hall, ?_, fun o ho => ?_, ?_⟩
  · rw [List.map_append, List.nodup_append]
    have nx := rise_all (l := x.orders) fun k p o hp ho => rise_ok hx hp ho
    have ny := rise_all (l := y.orders) fun k p o hp ho => rise_ok hy hp ho
    refine ⟨nx.imp fun h => by omega, ny.imp fun h => by omega, fun u hu v hv huv => ?_⟩
    obtain ⟨o, ho, rfl⟩ := List.mem_map.1 hu
    obtain ⟨p, hp, rfl⟩ := List.mem_map.1 hv
    have k1 := (fx o ho).1.2.1
    have k2 := (fy p hp).1.2.1
    rw [huv, k2] at k1
    omega
  · have k1 := (hall o ho).1
    unfold Has at k1
    omega
  · have k1 := hx.1.2
    have k2 := hy.1.2
    rw [List.length_append]; omega
/-! ### one list, however it was put in order -/
theorem ordersU_perm (L : List Order) (hL : ∀ o ∈ L, 0 ≤ o.unit) : ∀ n : Nat, (ordersU L n).Perm (L.filter fun o => decide (o.unit < (n : Int)))
  | 0 => by
    have : L.filter (fun o => decide (o.unit < ((0 : Nat) : Int))) = [] := List.filter_eq_nil_iff.2 fun o ho => by have := hL o ho; simp; omega
    rw [this]; simp [ordersU]
  | n + 1 => by
    rw [ordersU_succ]
    have h1 := List.filter_append_perm (fun o : Order => decide (o.unit < (n : Int))) (L.filter fun o => decide (o.unit < ((n + 1 : Nat) : Int)))
    have e1 : (L.filter fun o => decide (o.unit < ((n + 1 : Nat) : Int))).filter (fun o => decide (o.unit < (n : Int))) = L.filter fun o => decide (o.unit < (n : Int)) := by
      rw [List.filter_filter]
      exact List.filter_congr fun o _ => by
        by_cases h : o.unit < (n : Int)
        · have : o.unit < ((n + 1 : Nat) : Int) := by omega
          rw [decide_eq_true h, decide_eq_true this]; rfl
        · rw [decide_eq_false h]; rfl
    have e2 : (L.filter fun o => decide (o.unit < ((n + 1 : Nat) : Int))).filter (fun o => !decide (o.unit < (n : Int))) = ordU L n := by
      rw [List.filter_filter]
      unfold ordU
      exact List.filter_congr fun o _ => by
        by_cases h : o.unit = (n : Int)
        · have h3 : o.unit < ((n + 1 : Nat) : Int) := by omega
          have h4 : ¬ o.unit < (n : Int) := by omega
          rw [decide_eq_true h3, decide_eq_false h4, decide_eq_true h]; rfl
        · by_cases h3 : o.unit < (n : Int)
          · rw [decide_eq_true h3, decide_eq_false h]; rfl
          · have h4 : ¬ o.unit < ((n + 1 : Nat) : Int) := by omega
            rw [decide_eq_false h3, decide_eq_false h4, decide_eq_false h]; rfl
    rw [e1, e2] at h1
    exact ((ordersU_perm L hL n).append_right _).trans h1
theorem ordersU_rise (L : List Order) : ∀ n : Nat, (ordersU L n).Pairwise (fun a b => a.unit ≤ b.unit) ∧ ∀ o ∈ ordersU L n, o.unit < n
  | 0 => by simp [ordersU]
  | n + 1 => by
    obtain ⟨h1, h2⟩ := ordersU_rise L n
    have h3 : ∀ o ∈ ordU L n, o.unit = n := fun o ho => by have := (List.mem_filter.1 ho).2; simpa using this
    rw [ordersU_succ]
    refine ⟨List.pairwise_append.2 ⟨h1, ?_, fun a ha c hc => by have := h2 a ha; have := h3 c hc; omega⟩, fun o ho => ?_⟩
    · exact List.Pairwise.imp_of_mem (R := fun _ _ => True) (fun {a c} ha hc _ => by have := h3 a ha; have := h3 c hc; omega) (List.pairwise_of_forall fun _ _ => trivial)
    · rcases List.mem_append.1 ho with ho | ho
      · have := h2 o ho; omega
      · have := h3 o ho; omega
theorem nodup_units {L : List Order} (h : (L.map fun o => o.unit).Nodup) {a c : Order} (ha : a ∈ L) (hc : c ∈ L) (he : c.unit = a.unit) : c = a := by
  obtain ⟨i, hi, rfl⟩ := List.mem_iff_getElem.1 hc
  obtain ⟨j, hj, rfl⟩ := List.mem_iff_getElem.1 ha
  rcases Nat.lt_trichotomy i j with hl | hl | hl
  · have := List.pairwise_iff_getElem.1 h i j (by simpa using hi) (by simpa using hj) hl
    rw [List.getElem_map, List.getElem_map] at this
    exact absurd he this
  · subst hl; rfl
  · have := List.pairwise_iff_getElem.1 h j i (by simpa using hj) (by simpa using hi) hl
    rw [List.getElem_map, List.getElem_map] at this
    exact absurd he.symm this
theorem ordersU_all {b : Board} {s : State} {L : List Order} (h : TwoL b s L) : (ordersU L 12).Perm L := by
  have h1 := ordersU_perm L (fun o ho => (h.lt o ho).1) 12
  have h2 : L.filter (fun o => decide (o.unit < ((12 : Nat) : Int))) = L := List.filter_eq_self.2 fun o ho => by have := (h.lt o ho).2; simp; omega
  rwa [h2] at h1
theorem sorted_is {b : Board} {s : State} {L : List Order} (h : TwoL b s L) : L.mergeSort (fun a c => decide (a.unit ≤ c.unit)) = ordersU L 12 := by
  have hp := ordersU_all h
  refine List.Perm.eq_of_pairwise (le := fun a c : Order => a.unit ≤ c.unit) ?_ ?_ (ordersU_rise L 12).1 ((List.mergeSort_perm L _).trans hp.symm)
  · intro a c ha hc h1 h2
    refine nodup_units h.nd ?_ ?_ (by omega)
    · exact hp.subset hc
    · exact (List.mergeSort_perm L _).subset ha
  · have := List.pairwise_mergeSort (le := fun a c : Order => decide (a.unit ≤ c.unit)) (fun a b c h1 h2 => by simp at *; omega) (fun a b => by simp; omega) L
    exact this.imp fun h => by simpa using h
theorem sortD_orders (L : List Order) : sortD (L.map (Order.enc false)) = (L.mergeSort fun a c => decide (a.unit ≤ c.unit)).map (Order.enc false) := by
  unfold sortD
  exact (List.map_mergeSort (f := Order.enc false) (r := fun a c : Order => decide (a.unit ≤ c.unit)) (s := fun a c => decide (keyD a ≤ keyD c)) fun a _ c _ => rfl).symm
theorem fit_orders {b : Board} {s : State} {L : List Order} (h : TwoL b s L) : rowsFit (L.map (Order.enc false)) = true := by
  unfold rowsFit
  simp only [Bool.and_eq_true, decide_eq_true_eq, List.all_eq_true, List.length_map]
  refine ⟨⟨fun r hr => ?_, ?_⟩, by have := h.len; omega⟩
  · obtain ⟨o, ho, rfl⟩ := List.mem_map.1 hr
    have := h.lt o ho
    refine ⟨⟨?_, ?_⟩, ?_⟩
    · simp [plainL, Order.enc]
    · exact this.1
    · show o.unit < 1048576; omega
  · rw [List.map_map]; exact h.nd
theorem c_slices_Grow (n : Int) (h0 : 0 ≤ n) (h1 : n ≤ 68719476736) : C n_slices_Grow_impl_Order_impl_Order [.val (.one (.list true 3 [])), I n] = some (Rows true 3 []) :=
  callF_hand h_slices_Grow_impl_Order_impl_Order (by simp only [hGrow]; rw [if_pos ⟨h0, h1⟩])
theorem c_slices_SortFunc (rows : List (List D)) (h : rowsFit rows = true) : C n_slices_SortFunc_impl_Order_impl_Order [.val (.one (.list true 3 rows)), .clo n_impl_allOrders_1 []] = some (.tup [none, none, some (.one (.list true 3 (sortD rows)))]) :=
  callF_hand h_slices_SortFunc_impl_Order_impl_Order (by simp only [hSort]; rw [if_pos ⟨trivial, h⟩])
/-- The first i of some lists, one behind the other. -/
def cat (LL : List (List Order)) (i : Nat) : List Order := (LL.take i).flatten
theorem cat_zero (LL : List (List Order)) : cat LL 0 = [] := rfl
theorem cat_two (A B : List Order) : cat [A, B] [A, B].length = A ++ B := by simp [cat]
theorem cat_next {LL : List (List Order)} {i : Nat} {X : List Order} (h : LL.take (i + 1) = LL.take i ++ [X]) : cat LL (i + 1) = cat LL i ++ X := by simp [cat, h]
theorem cat_len {LL : List (List Order)} (h : ∀ X ∈ LL, X.length ≤ 1048576) (h2 : LL.length = 2) (i : Nat) : (cat LL i).length ≤ 2097152 := by
  have key : ∀ (l : List (List Order)), (∀ X ∈ l, X.length ≤ 1048576) → l.flatten.length ≤ l.length * 1048576 := by
    intro l
    induction l with
    | nil => simp
    | cons X l ih =>
      intro h
      have h1 := h X (by simp)
      have h2 := ih fun Y hY => h Y (by simp [hY])
      rw [List.flatten_cons, List.length_append, List.length_cons]; omega
  have h1 := key (LL.take i) fun X hx => h X (List.mem_of_mem_take hx)
  have h3 : (LL.take i).length ≤ 2 := by rw [List.length_take]; omega
  unfold cat; omega
theorem c_slices_Concat (A B : List Order) (hA : A.length ≤ 1048576) (hB : B.length ≤ 1048576) : C n_slices_Concat_impl_Order_impl_Order [.val (.one (.list true 1 [[.list false 3 (A.map (Order.enc false))], [.list false 3 (B.map (Order.enc false))]]))] = some (Rows true 3 ((A ++ B).map (Order.enc false))) := by
  refine callC p_slices_Concat_impl_Order_impl_Order rfl ?_
  have hr : ([[.list false 3 (A.map (Order.enc false))], [.list false 3 (B.map (Order.enc false))]] : List (List D)) = [A, B].map fun X => [D.list false 3 (X.map (Order.enc false))] := rfl
  have hX : ∀ X ∈ [A, B], X.length ≤ 1048576 := by simp [hA, hB]
  have hl2 : ([A, B] : List (List Order)).length = 2 := rfl
  rw [hr, ← cat_two A B]
  generalize ([A, B] : List (List Order)) = LL at *
  have hsum := cat_len hX hl2
  simp [xRun, a_slices_Concat_impl_Order_impl_Order]
  refine list_loop LL (by omega) (fun i (_ : Unit) => [(3, I (cat LL i).length), (11, I i)]) (fun _ _ => True) default (by simp [cat_zero]) trivial ?_ ?_
  · intro N E i X z hXi hi hm ht hwi _ hN hE
    have h1 := hsum i
    have h2 := hX X hm
    have hw : IntKind.i64.wrap (((cat LL i).length : Int) + X.length) = (cat LL i).length + X.length := wrap_small (by omega) (by omega)
    rw [cat_next ht, List.length_append] at hN
    have n0 : ¬ (((cat LL i).length : Int) + X.length < 0) := by omega
    generalize (cat LL i).length = q at *
    simp [bodyF, b_slices_Concat_impl_Order_impl_Order_0, hi, hXi, at_of hXi, hw, n0, hwi]
    exact hN _ z (by simp) trivial
  · intro N E z _ hE
    simp [bodyF, b_slices_Concat_impl_Order_impl_Order_0]
    refine hE _ _ fun st => ?_
    have h1 := hsum LL.length
    have e1 := c_slices_Grow (cat LL LL.length).length (by omega) (by omega)
    simp [e1]
    refine list_loop LL (by omega) (fun i (_ : Unit) => [(6, .own 0 3 ((cat LL i).map (Order.enc false))), (27, I i)]) (fun _ _ => True) default (by simp [cat_zero]) trivial ?_ ?_
    · intro N E i X z hXi hi hm ht hwi _ hN hE
      have h1 := hsum i
      have h2 := hX X hm
      have hb : ((cat LL i).length : Int) + X.length ≤ 68719476736 := by omega
      have hb2 : (cat LL i).length + X.length ≤ 68719476736 := by omega
      rw [cat_next ht, List.map_append] at hN
      generalize cat LL i = Q at *
      simp [bodyF, b_slices_Concat_impl_Order_impl_Order_1, hi, hXi, at_of hXi, hb, hb2, hwi]
      exact hN _ z (by simp) trivial
    · intro N E z _ hE
      simp [bodyF, b_slices_Concat_impl_Order_impl_Order_1]
      exact hE _ _ fun st => by simp
theorem c_impl_allOrders (b : Board) (s : State) (x y : Sheet) (h : TwoOK b s x y) : C n_impl_allOrders [SheetV false x, SheetV false y] = some (Rows true 3 ((ordersU (x.orders ++ y.orders) 12).map (Order.enc false))) := by
  refine callC p_impl_allOrders rfl ?_
  have hT := two_list h
  have hl := hT.len
  rw [List.length_append] at hl
  have e1 := c_slices_Concat x.orders y.orders (by omega) (by omega)
  have e2 := c_slices_SortFunc ((x.orders ++ y.orders).map (Order.enc false)) (fit_orders hT)
  rw [sortD_orders, sorted_is hT] at e2
  generalize ordersU (x.orders ++ y.orders) 12 = R at *
  rw [List.map_append] at e1 e2
  simp [xRun, a_impl_allOrders, rowsOf, e1, e2]
end Go.Abs.W
set_option linter.unusedSimpArgs false
set_option linter.unusedVariables false
set_option maxRecDepth 100000
set_option maxHeartbeats 4000000
namespace Go.Abs.W
open Go Go.Abs Classical
attribute [-simp] Bool.decide_and
section
variable {σ R : Type} {P : Option R → Prop} {body : Env → Option (AE × Nat × Env)} {keep : List Nat} {e : Env} {k : AE → Nat → Env → Option R}
/-- A range over a map, in whatever order. -/
theorem each_loopP {dk dv : Nat} (kv : List (Int × Int)) (ch : σ → Upd) (step : σ → Int × Int → σ) (Inv : σ → List (Int × Int) → Prop) (s0 fin : σ)
    (hidem : trim keep (trim keep e) = trim keep e) (he : Env.app (trim keep e) (ch s0) = trim keep e) (h0 : ∀ l : List (Int × Int), l.Perm kv → Inv s0 l) (hfin : ∀ l : List (Int × Int), l.Perm kv → l.foldl step s0 = fin)
    (hround : ∀ (N : Env → Prop) (s : σ) (p : Int × Int) (l : List (Int × Int)), Inv s (p :: l) → (∀ e', trim keep e' = Env.app (trim keep e) (ch (step s p)) → Inv (step s p) l → N e') →
      Round (body (Env.upd (Env.upd (Env.app (trim keep e) (ch s)) dk (I p.1)) dv (I p.2))) N fun _ _ => False)
    (hend : P (k .normal 1 (Env.app (trim keep e) (ch fin)))) : P (eachE (some kv) body dk dv keep keep e k) := by
  have key : ∀ (l : List (Int × Int)) (s : σ) (e1 : Env), Inv s l → trim keep e1 = Env.app (trim keep e) (ch s) → eachN body dk dv keep keep l e1 = some (Env.app (trim keep e) (ch (l.foldl step s))) := by
    intro l
    induction l with
    | nil => intro s e1 _ h1; simp only [eachN, List.foldl_nil]; rw [h1]
    | cons p l ih =>
      intro s e1 hs h1
      simp only [eachN, List.foldl_cons]
      rw [h1]
      have hr := hround (fun e' => trim keep e' = Env.app (trim keep e) (ch (step s p)) ∧ Inv (step s p) l) s p l hs fun e' h2 h3 => ⟨h2, h3⟩
      cases hb : body (Env.upd (Env.upd (Env.app (trim keep e) (ch s)) dk (.val (.one (.int .i64 p.1)))) dv (.val (.one (.int .i64 p.2)))) with
      | none => rw [hb] at hr; exact hr.elim
      | some q =>
        obtain ⟨x, st, e'⟩ := q
        rw [hb] at hr
        cases x with
        | normal => exact ih _ e' hr.2 hr.1
        | exit i => exact hr.elim
        | ret => exact hr.elim
  have hF : eachF body dk dv keep keep kv e = some (Env.app (trim keep e) (ch fin)) := eachF_of fun l hl => by
    rw [key l s0 (trim keep e) (h0 l hl) (hidem.trans he.symm), hfin l hl]
  unfold eachE
  simp only [onSome, hF]
  exact hend
end
/-! ### what the walk reads and writes -/
theorem row_at {T : List Mv} {i : Nat} {m : Mv} (h : T[i]? = some m) : (T.map Mv.row)[i]? = some (Mv.row m) := by rw [List.getElem?_map, h]; rfl
theorem row_get {T : List Mv} {i : Nat} {m : Mv} (h : T[i]? = some m) : ∀ h' : i < (T.map Mv.row).length, (T.map Mv.row)[i]'h' = Mv.row m := at_of (row_at h)
theorem row_set (T : List Mv) (i : Nat) (m : Mv) : (T.map Mv.row).set i (Mv.row m) = (T.set i m).map Mv.row := by rw [List.map_set]
theorem kvFrom_map {f : Mv → Mv} (ho : ∀ m, (f m).o = m.o) (ha : ∀ m, (f m).act = m.act) : ∀ (i : Nat) (T : List Mv), kvFrom i (T.map f) = kvFrom i T
  | i, [] => rfl
  | i, m :: T => by simp only [List.map_cons, kvFrom, ho, ha, kvFrom_map ho ha (i + 1) T]
theorem Us.upto {T : List Mv} (h : Us T) {f : Mv → Mv} (hf : ∀ m, (f m).o = m.o) (n : Nat) : Us (upto f T n) := by
  unfold Us at *
  rwa [upto_map _ fun m => by rw [hf]]
theorem foldl_ref : ∀ (l : List (Int × Int)) (T : List Mv), (l.map (·.1)).Nodup → l.foldl (fun T p => T.map (refM [p])) T = T.map (refM l)
  | [], T, _ => by
    rw [List.foldl_nil, show refM [] = id from funext refM_nil, List.map_id]
  | p :: l, T, h => by
    have h2 := h
    simp only [List.map_cons, List.nodup_cons] at h2
    rw [List.foldl_cons, foldl_ref l _ h2.2, List.map_map]
    exact List.map_congr_left fun m _ => refM_cons h m
/-- An order that attempts something is under way behind the marking. -/
theorem live_in {b : Board} {s : State} {T : List Mv} {a : Attempt} (h : a ∈ attsM b s T) : ∃ (i : Nat) (m : Mv), T[i]? = some m ∧ m.o.unit = a.unit ∧ m.act = true ∧ markOf b s m = m ∧ (T.map (markOf b s))[i]? = some m := by
  obtain ⟨m, hm, ha, hg, rfl⟩ := attsM_mem h
  obtain ⟨i, hi⟩ := List.mem_iff_getElem?.1 hm
  have h1 : markOf b s m = m := by unfold markOf; simp [hg]
  exact ⟨i, m, hi, rfl, ha, h1, by rw [List.getElem?_map, hi, Option.map_some, h1]⟩
def startM (o : Order) : Mv := ⟨o, 0, 0, true⟩
theorem ref_one (T : List Mv) (hU : Us T) {i : Nat} {m : Mv} (h : T[i]? = some m) (r : Int) : T.set i { m with act := false, reason := r } = T.map (refM [(m.o.unit, r)]) := by
  have e : refM [(m.o.unit, r)] m = { m with act := false, reason := r } := by unfold refM; simp [kvGet]
  rw [← e]
  refine set_here hU h fun x hx => ?_
  unfold refM
  have : ¬ m.o.unit = x.o.unit := fun hh => hx hh.symm
  simp [kvGet, this]
theorem go_one (T : List Mv) (hU : Us T) {i : Nat} {m : Mv} (h : T[i]? = some m) (a : Attempt) (ha : a.unit = m.o.unit) : T.set i { m with steps := m.steps + 1 } = T.map (goM [a]) := by
  have e : goM [a] m = { m with steps := m.steps + 1 } := by unfold goM; rw [if_pos ⟨a, by simp, ha⟩]
  rw [← e]
  refine set_here hU h fun x hx => ?_
  unfold goM
  rw [if_neg]
  rintro ⟨c, hc, hcu⟩
  simp at hc
  subst hc
  exact hx (hcu.symm.trans ha)
end Go.Abs.W
