/- The law AttemptsAt, run. -/
import Derived.Test.YtcknpclhcilmaaaGreatDoorB3
import Derived.Test.YtcknpclhcilmaaaGreatDoorB10
import Derived.Test.YtcknpclhcilmaaaGreatDoorB13
set_option linter.unusedSimpArgs false
set_option linter.unusedVariables false
set_option maxRecDepth 100000
set_option maxHeartbeats 8000000
namespace Go.Abs.W
open Go Go.Abs Classical
attribute [-simp] Bool.decide_and
structure AtOK (b : Board) (s : State) (l : List Order) (done : List Int) : Prop where
  st : StateOK b s
  len : (l.length : Int) ≤ 12
  done : done.length = l.length
  ord : ∀ o ∈ l, OrdOK s o
  inc : Rises Order.unit l
noncomputable def atR (b : Board) (s : State) (l : List Order) (done : List Int) : List Attempt := if AtOK b s l done then attsUp b s l done (l.map fun _ => true) l.length else []
theorem bools_true (l : List Order) : bools (l.map fun _ => true) = l.map fun _ => [D.bool true] := by simp [bools]
theorem c_spec_AttemptsAt (b : Board) (s : State) (l : List Order) (done : List Int) (gb : LenB b) (gs : Len s.units.length) (gl : LenO l) (gd : Len done.length) : C n_spec_AttemptsAt [BoardV false b, StateV false s, OrdersV false l, Li done] = some (.tup [some (.one (.list true 3 ((atR b s l done).map Attempt.enc))), some (.one (.bool (decide (AtOK b s l done))))]) := by
  refine callC p_spec_AttemptsAt rfl ?_
  have e1 := c_spec_sGood b s gb gs
  unfold atR
  by_cases h : StateOK b s
  rotate_left
  · have hP : ¬ AtOK b s l done := fun hh => h hh.st
    simp [xRun, a_spec_AttemptsAt, e1, h, hP]
  by_cases h2 : (l.length : Int) ≤ 12
  rotate_left
  · have hP : ¬ AtOK b s l done := fun hh => h2 hh.len
    have h2' : (12 : Int) < l.length := by omega
    simp [xRun, a_spec_AttemptsAt, e1, h, h2', hP]
  have h2' : ¬ (12 : Int) < l.length := by omega
  by_cases h3 : done.length = l.length
  rotate_left
  · have hP : ¬ AtOK b s l done := fun hh => h3 hh.done
    have h3' : ¬ (done.length : Int) = l.length := by omega
    simp [xRun, a_spec_AttemptsAt, e1, h, h2', ints_length, h3', hP]
  have hP : AtOK b s l done ↔ (∀ o ∈ l, OrdOK s o) ∧ Rises Order.unit l := ⟨fun hh => ⟨hh.ord, hh.inc⟩, fun hh => ⟨h, h2, h3, hh.1, hh.2⟩⟩
  have g1 := gl.1
  unfold Len at g1
  have hmk : (l.length : Int) ≤ 68719476736 := by omega
  have hs12 := h.lens
  simp only [hP]
  simp [xRun, a_spec_AttemptsAt, e1, h, h2', ints_length, h3, hmk, -List.replicate]
  refine list_loop l (by omega) (fun n (_ : Unit) => [(10, .own 0 1 (fillR (fun _ => [D.bool true]) [.bool false] l n)), (34, I n)]) (fun n _ => Upto (OrdOK s) Order.unit l n) default (by simp [fillR_zero, -List.replicate]) .zero ?_ ?_
  · intro N E n o z ho hlt hm ht hwi hs hN hE
    have e2 := c_spec_fOn b s o.unit gb gs
    have e3 := c_spec_l1All o.path 0 5 (gl.2 o hm)
    have hset := fillR_set (fun _ : Order => [D.bool true]) [.bool false] ho
    have hRl := fillR_len (fun _ : Order => [D.bool true]) [.bool false] l n
    have hRa := fillR_at (fun _ : Order => [D.bool true]) [.bool false] hlt
    have hRb : (fillR (fun _ : Order => [D.bool true]) [.bool false] l n)[n]? = some [D.bool false] := by rw [List.getElem?_eq_getElem (by rw [hRl]; exact hlt), hRa]
    generalize fillR (fun _ : Order => [D.bool true]) [.bool false] l (n + 1) = R' at *
    generalize fillR (fun _ : Order => [D.bool true]) [.bool false] l n = R at *
    by_cases k1 : StateOK b s ∧ Has s o.unit ∧ 0 ≤ (unitAt s o.unit).pos
    rotate_left
    · have hQ : ¬ ∀ o ∈ l, OrdOK s o := fun hh => k1 ⟨h, (hh o hm).has, (hh o hm).on⟩
      rw [decide_eq_false k1] at e2
      simp [bodyF, b_spec_AttemptsAt_0, hlt, ho, at_of ho, Order.enc, e2]
      exact hE _ _ fun st => by simp only [hQ, false_and]; simp
    rw [decide_eq_true k1] at e2
    have fin : (n = 0 ∨ ∀ k p, k + 1 = n → l[k]? = some p → p.unit < o.unit) → PathOK o.path → Upto (OrdOK s) Order.unit l (n + 1) := fun hp hpath =>
      hs.next ho ht ⟨k1.2.1, k1.2.2, hpath⟩ fun k p hk hpk => hp.elim (fun h0 => by omega) fun hh => hh k p hk hpk
    by_cases h0 : n = 0
    · subst h0
      have hw1 : IntKind.i64.wrap 1 = 1 := by simpa using hwi
      by_cases k2 : (o.path.length : Int) ≤ 9
      rotate_left
      · have hQ : ¬ ∀ o ∈ l, OrdOK s o := fun hh => k2 (hh o hm).path.1
        have k2' : (9 : Int) < o.path.length := by omega
        simp [bodyF, b_spec_AttemptsAt_0, hlt, ho, at_of ho, Order.enc, e2, ints_length, k2']
        exact hE _ _ fun st => by simp only [hQ, false_and]; simp
      have k2' : ¬ (9 : Int) < o.path.length := by omega
      by_cases k3 : AllIn o.path 0 5
      · simp [bodyF, b_spec_AttemptsAt_0, hlt, ho, at_of ho, Order.enc, e2, ints_length, k2', e3, k3, hRl, hRb, hRa, hset, hw1]
        exact hN _ z (by simp) (fin (.inl rfl) ⟨k2, k3⟩)
      · have hQ : ¬ ∀ o ∈ l, OrdOK s o := fun hh => k3 (hh o hm).path.2
        simp [bodyF, b_spec_AttemptsAt_0, hlt, ho, at_of ho, Order.enc, e2, ints_length, k2', e3, k3]
        exact hE _ _ fun st => by simp only [hQ, false_and]; simp
    · obtain ⟨k, rfl⟩ : ∃ k, n = k + 1 := ⟨n - 1, by omega⟩
      obtain ⟨p, hb⟩ : ∃ p, l[k]? = some p := ⟨l[k], by simp⟩
      generalize hii : k + 1 = i at *
      have hw : IntKind.i64.wrap ((i : Int) - 1) = (k : Int) := by rw [wrap_small (by omega) (by omega)]; omega
      have hk : k < l.length := by omega
      have hp : 0 < i := by omega
      by_cases k4 : o.unit ≤ p.unit
      · have hQ : ¬ Rises Order.unit l := fun hh => by have := hh k p o hb (by rw [hii]; exact ho); omega
        simp [bodyF, b_spec_AttemptsAt_0, hlt, ho, at_of ho, Order.enc, e2, hp, hw, hk, hb, at_of hb, k4]
        exact hE _ _ fun st => by simp only [hQ, and_false]; simp
      have hpp : ∀ k' p', k' + 1 = i → l[k']? = some p' → p'.unit < o.unit := fun k' p' hk' hp' => by
        obtain rfl : k' = k := by omega
        rw [hb] at hp'; obtain rfl := Option.some.inj hp'; omega
      by_cases k2 : (o.path.length : Int) ≤ 9
      rotate_left
      · have hQ : ¬ ∀ o ∈ l, OrdOK s o := fun hh => k2 (hh o hm).path.1
        have k2' : (9 : Int) < o.path.length := by omega
        simp [bodyF, b_spec_AttemptsAt_0, hlt, ho, at_of ho, Order.enc, e2, hp, hw, hk, hb, at_of hb, k4, ints_length, k2']
        exact hE _ _ fun st => by simp only [hQ, false_and]; simp
      have k2' : ¬ (9 : Int) < o.path.length := by omega
      by_cases k3 : AllIn o.path 0 5
      · simp [bodyF, b_spec_AttemptsAt_0, hlt, ho, at_of ho, Order.enc, e2, hp, hw, hk, hb, at_of hb, k4, ints_length, k2', e3, k3, hRl, hRb, hRa, hset, hwi]
        exact hN _ z (by simp) (fin (.inr hpp) ⟨k2, k3⟩)
      · have hQ : ¬ ∀ o ∈ l, OrdOK s o := fun hh => k3 (hh o hm).path.2
        simp [bodyF, b_spec_AttemptsAt_0, hlt, ho, at_of ho, Order.enc, e2, hp, hw, hk, hb, at_of hb, k4, ints_length, k2', e3, k3]
        exact hE _ _ fun st => by simp only [hQ, false_and]; simp
  · intro N E z hs hE
    obtain ⟨hQ1, hQ2⟩ := hs.all
    have e4 := c_spec_fAttempts b s l done (l.map fun _ => true) gb h hQ1 h3 (by simp) g1
    rw [bools_true] at e4
    have hfe : fillR (fun _ : Order => [D.bool true]) [.bool false] l l.length = l.map fun _ => [D.bool true] := fillR_end ..
    have hst := stale_bools (l.map fun _ : Order => true)
    rw [bools_true] at hst
    rw [hfe]
    generalize (l.map fun _ => [D.bool true]) = R at *
    simp [bodyF, b_spec_AttemptsAt_0]
    refine hE _ _ fun st => ?_
    have hQ : (∀ o ∈ l, OrdOK s o) ∧ Rises Order.unit l := ⟨hQ1, hQ2⟩
    have hQ' : ((∀ o ∈ l, OrdOK s o) ∧ Rises Order.unit l) = True := eq_true hQ
    simp only [hQ', if_true, decide_true]
    simp [hst, e4]
theorem c_impl_AttemptsAt (b : Board) (s : State) (l : List Order) (done : List Int) (gb : LenB b) (gs : Len s.units.length) (gl : LenO l) (gd : Len done.length) : C n_impl_AttemptsAt [BoardV false b, StateV false s, OrdersV false l, Li done] = some (.tup [some (.one (.list true 3 ((atR b s l done).map Attempt.enc))), some (.one (.bool (decide (AtOK b s l done))))]) := by
  refine callC p_impl_AttemptsAt rfl ?_
  have e1 := c_impl_fits b s gb gs
  unfold atR
  by_cases h : StateOK b s
  rotate_left
  · have hP : ¬ AtOK b s l done := fun hh => h hh.st
    simp [xRun, a_impl_AttemptsAt, e1, h, hP]
  by_cases h2 : (l.length : Int) ≤ 12
  rotate_left
  · have hP : ¬ AtOK b s l done := fun hh => h2 hh.len
    have h2' : (12 : Int) < l.length := by omega
    simp [xRun, a_impl_AttemptsAt, e1, h, h2', hP]
  have h2' : ¬ (12 : Int) < l.length := by omega
  by_cases h3 : done.length = l.length
  rotate_left
  · have hP : ¬ AtOK b s l done := fun hh => h3 hh.done
    have h3' : ¬ (done.length : Int) = l.length := by omega
    simp [xRun, a_impl_AttemptsAt, e1, h, h2', ints_length, h3', hP]
  have hP : AtOK b s l done ↔ (∀ o ∈ l, OrdOK s o) ∧ Rises Order.unit l := ⟨fun hh => ⟨hh.ord, hh.inc⟩, fun hh => ⟨h, h2, h3, hh.1, hh.2⟩⟩
  have g1 := gl.1
  unfold Len at g1
  have hs12 := h.lens
  simp only [hP]
  simp [xRun, a_impl_AttemptsAt, e1, h, h2', ints_length, h3]
  refine list_loop l (by omega) (fun n (_ : Unit) => [(35, I n)]) (fun n _ => Upto (OrdOK s) Order.unit l n) default (by simp) .zero ?_ ?_
  · intro N E n o z ho hlt hm ht hwi hs hN hE
    have e2 := c_impl_isIndex o.unit s.units.length (by omega) (by omega)
    have e3 := c_impl_isPath o.path (gl.2 o hm)
    by_cases k0 : 0 ≤ o.unit ∧ o.unit < (s.units.length : Int)
    rotate_left
    · have hQ : ¬ ∀ o ∈ l, OrdOK s o := fun hh => k0 (hh o hm).has
      rw [decide_eq_false k0] at e2
      simp [bodyF, b_impl_AttemptsAt_0, hlt, ho, at_of ho, Order.enc, e2]
      exact hE _ _ fun st => by simp only [hQ, false_and]; simp
    rw [decide_eq_true k0] at e2
    have hu : Has s o.unit := k0
    have n0 : ¬ o.unit < 0 := by omega
    have r1 := at_lt (l := s.units) hu.1 hu.2
    have r2 := unit_row hu
    by_cases k1 : 0 ≤ (unitAt s o.unit).pos
    rotate_left
    · have hQ : ¬ ∀ o ∈ l, OrdOK s o := fun hh => k1 (hh o hm).on
      have k1' : (unitAt s o.unit).pos < 0 := by omega
      simp [bodyF, b_impl_AttemptsAt_0, hlt, ho, at_of ho, Order.enc, e2, n0, r1, r2, Unit.enc, k1']
      exact hE _ _ fun st => by simp only [hQ, false_and]; simp
    have k1' : ¬ (unitAt s o.unit).pos < 0 := by omega
    have fin : (n = 0 ∨ ∀ k p, k + 1 = n → l[k]? = some p → p.unit < o.unit) → PathOK o.path → Upto (OrdOK s) Order.unit l (n + 1) := fun hp hpath =>
      hs.next ho ht ⟨hu, k1, hpath⟩ fun k p hk hpk => hp.elim (fun h0 => by omega) fun hh => hh k p hk hpk
    by_cases h0 : n = 0
    · subst h0
      have hw1 : IntKind.i64.wrap 1 = 1 := by simpa using hwi
      by_cases k3 : PathOK o.path
      · simp [bodyF, b_impl_AttemptsAt_0, hlt, ho, at_of ho, Order.enc, e2, n0, r1, r2, Unit.enc, k1', e3, k3, hw1]
        exact hN _ z (by simp) (fin (.inl rfl) k3)
      · have hQ : ¬ ∀ o ∈ l, OrdOK s o := fun hh => k3 (hh o hm).path
        simp [bodyF, b_impl_AttemptsAt_0, hlt, ho, at_of ho, Order.enc, e2, n0, r1, r2, Unit.enc, k1', e3, k3]
        exact hE _ _ fun st => by simp only [hQ, false_and]; simp
    · obtain ⟨k, rfl⟩ : ∃ k, n = k + 1 := ⟨n - 1, by omega⟩
      obtain ⟨p, hb⟩ : ∃ p, l[k]? = some p := ⟨l[k], by simp⟩
      generalize hii : k + 1 = i at *
      have hw : IntKind.i64.wrap ((i : Int) - 1) = (k : Int) := by rw [wrap_small (by omega) (by omega)]; omega
      have hk : k < l.length := by omega
      have hp : 0 < i := by omega
      by_cases k4 : o.unit ≤ p.unit
      · have hQ : ¬ Rises Order.unit l := fun hh => by have := hh k p o hb (by rw [hii]; exact ho); omega
        simp [bodyF, b_impl_AttemptsAt_0, hlt, ho, at_of ho, Order.enc, e2, n0, r1, r2, Unit.enc, k1', hp, hw, hk, hb, at_of hb, k4]
        exact hE _ _ fun st => by simp only [hQ, and_false]; simp
      have hpp : ∀ k' p', k' + 1 = i → l[k']? = some p' → p'.unit < o.unit := fun k' p' hk' hp' => by
        obtain rfl : k' = k := by omega
        rw [hb] at hp'; obtain rfl := Option.some.inj hp'; omega
      by_cases k3 : PathOK o.path
      · simp [bodyF, b_impl_AttemptsAt_0, hlt, ho, at_of ho, Order.enc, e2, n0, r1, r2, Unit.enc, k1', hp, hw, hk, hb, at_of hb, k4, e3, k3, hwi]
        exact hN _ z (by simp) (fin (.inr hpp) k3)
      · have hQ : ¬ ∀ o ∈ l, OrdOK s o := fun hh => k3 (hh o hm).path
        simp [bodyF, b_impl_AttemptsAt_0, hlt, ho, at_of ho, Order.enc, e2, n0, r1, r2, Unit.enc, k1', hp, hw, hk, hb, at_of hb, k4, e3, k3]
        exact hE _ _ fun st => by simp only [hQ, false_and]; simp
  · intro N E z hs hE
    obtain ⟨hQ1, hQ2⟩ := hs.all
    simp [bodyF, b_impl_AttemptsAt_0]
    refine hE _ _ fun st => ?_
    have hQ : (∀ o ∈ l, OrdOK s o) ∧ Rises Order.unit l := ⟨hQ1, hQ2⟩
    have hQ' : ((∀ o ∈ l, OrdOK s o) ∧ Rises Order.unit l) = True := eq_true hQ
    simp only [hQ', if_true, decide_true]
    simp [rowsOf]
    refine list_loop l (by omega) (fun n (_ : Unit) => [(12, .own 0 3 ((attsUp b s l done (l.map fun _ => true) n).map Attempt.enc)), (82, I n)]) (fun _ _ => True) default (by simp [attsUp_zero]) trivial ?_ ?_
    · intro N E n o z ho hlt hm ht hwi _ hN hE
      have hltd : n < done.length := by omega
      obtain ⟨dn, hdn⟩ : ∃ dn, done[n]? = some dn := ⟨done[n], by simp⟩
      have hat : (l.map fun _ : Order => true)[n]? = some true := by simp [ho]
      rw [attsUp_succ b s ho hdn hat, if_pos rfl] at hN
      have hle : (attsUp b s l done (l.map fun _ => true) n).length + 1 ≤ 68719476736 := by have := attsUp_le b s l done (l.map fun _ => true) n; omega
      generalize attsUp b s l done (l.map fun _ => true) n = L at *
      have e4 := c_impl_attemptOf b s o dn gb h (hQ1 o hm)
      unfold nextA at hN
      by_cases h4 : GoesA b s o dn
      · have h5 : CanStep b s o dn := h4.1
        rw [if_pos h5, decide_eq_true h4] at e4
        rw [if_pos h4] at hN
        generalize goA b s o dn = a at *
        simp [bodyF, b_impl_AttemptsAt_1, hlt, ho, at_of ho, Order.enc, ints_length, hltd, ints_at hdn, ints_get hdn, e4, Attempt.enc, rowsOf, hle, hwi]
        exact hN _ z (by simp [Attempt.enc]) trivial
      · rw [decide_eq_false h4] at e4
        rw [if_neg h4] at hN
        generalize (if CanStep b s o dn then goA b s o dn else ⟨0, 0, 0⟩) = a at *
        simp [bodyF, b_impl_AttemptsAt_1, hlt, ho, at_of ho, Order.enc, ints_length, hltd, ints_at hdn, ints_get hdn, e4, Attempt.enc, hwi]
        exact hN _ z (by simp) trivial
    · intro N E z _ hE
      simp [bodyF, b_impl_AttemptsAt_1]
      exact hE _ _ fun st => by simp
theorem atR_len {b : Board} {s : State} {l : List Order} {done : List Int} : Len (atR b s l done).length := by
  unfold atR
  split
  · rename_i h
    have h1 := attsUp_le b s l done (l.map fun _ => true) l.length
    have h2 := h.len
    unfold Len; omega
  · unfold Len; simp
theorem law_AttemptsAt (b : Board) (s : State) (l : List Order) (done : List Int) (wb : WideB b) (ws : Wide s.units.length) (wl : WideO l) (wdone : Wide done.length) : C n_laws_FnExactAttemptsAt [BoardV false b, StateV false s, OrdersV false l, Li done] = some (Bo true) := by
  refine callC p_laws_FnExactAttemptsAt rfl ?_
  by_cases qdone : (1048576 : Int) < done.length
  · simp [xRun, a_laws_FnExactAttemptsAt, ints_length, qdone]
  have gdone : Len done.length := by unfold Len; omega
  have z1 := c_laws_szBoard b _ left0 wb
  by_cases h1 : (1048576 : Int) < (cntB b : Nat)
  · rw [less_yes h1] at z1
    simp [xRun, a_laws_FnExactAttemptsAt, qdone, ints_length, z1]
  rw [less_no h1] at z1
  have h1' : ¬ (1048576 : Int) - (cntB b : Nat) < 0 := by omega
  have z2 := c_laws_szState s _ (less_left left0 h1) ws
  by_cases h2 : (1048576 : Int) - (cntB b : Nat) < (s.units.length : Nat)
  · rw [less_yes h2] at z2
    simp [xRun, a_laws_FnExactAttemptsAt, qdone, ints_length, z1, h1', z2]
  rw [less_no h2] at z2
  have h2' : ¬ (1048576 : Int) - (cntB b : Nat) - (s.units.length : Nat) < 0 := by omega
  have z3 := c_laws_szOrderS l _ (less_left (less_left left0 h1) h2) wl
  by_cases h3 : (1048576 : Int) - (cntB b : Nat) - (s.units.length : Nat) < (cntO l : Nat)
  · rw [less_yes h3] at z3
    simp [xRun, a_laws_FnExactAttemptsAt, qdone, ints_length, z1, h1', z2, h2', z3]
  rw [less_no h3] at z3
  have h3' : ¬ (1048576 : Int) - (cntB b : Nat) - (s.units.length : Nat) - (cntO l : Nat) < 0 := by omega
  have gb : LenB b := LenB_of (by omega)
  have gs : Len s.units.length := by unfold Len; omega
  have gl : LenO l := LenO_of (by omega)
  have hm0 := marks_le b
  have hm2 := cOrderS_le l
  have hul : cntO l = l.length + sumN (fun o : Order => o.path.length) l := rfl
  have hudone : done.length ≤ 1048576 := gdone
  have e1 := c_spec_AttemptsAt b s l done gb gs gl gdone
  have e2 := c_impl_AttemptsAt b s l done gb gs gl gdone
  have hlen : Len (atR b s l done).length := atR_len
  generalize atR b s l done = R at *
  generalize decide (AtOK b s l done) = sc0 at *
  have m0 := c_laws_markBoard b 1 gb (by unfold Mk; omega)
  obtain ⟨K1, hK1⟩ : ∃ K : Int, K = 1 + ((cR b.rules + cM b.map : Nat) : Int) := ⟨_, rfl⟩
  rw [← hK1] at m0
  have m1 := c_laws_markState s K1 gs (by unfold Mk; omega)
  obtain ⟨K2, hK2⟩ : ∃ K : Int, K = K1 + ((4 * s.units.length : Nat) : Int) := ⟨_, rfl⟩
  rw [← hK2] at m1
  have m2 := c_laws_markOrderS l K2 gl.1 gl.2 (by unfold Mk; omega)
  obtain ⟨K3, hK3⟩ : ∃ K : Int, K = K2 + (cOrderS l : Int) := ⟨_, rfl⟩
  rw [← hK3] at m2
  have m3 := c_laws_markIntS done K3 gdone (by unfold Mk; omega)
  obtain ⟨K4, hK4⟩ : ∃ K : Int, K = K3 + (done.length : Int) := ⟨_, rfl⟩
  rw [← hK4] at m3
  have hlen2 := hlen
  unfold Len at hlen2
  have r1 := c_laws_eqAttemptS R hlen
  have r2 := c_laws_markAttemptS R 1 hlen (by unfold Mk; omega)
  have r3 := c_laws_heldAttemptS 1 R.length hlen (by unfold Mk; omega)
  obtain ⟨M, hM⟩ : ∃ M : Int, M = 1 + ((3 * R.length : Nat) : Int) := ⟨_, rfl⟩
  rw [← hM] at r2 r3
  have n2 : ¬ M < 0 := by omega
  have n1 : ¬ K4 < 0 := by omega
  have b0 := c_laws_toBoard b gb
  have d0 := c_laws_eqBoard b gb
  have b1 := c_laws_toState s gs
  have d1 := c_laws_eqState s gs
  have b2 := c_laws_toOrderS l gl
  have d2 := c_laws_eqOrderS l gl
  have b3 := c_laws_toIntS done gdone
  have d3 := c_laws_eqIntS done gdone
  clear hK1 hK2 hK3 hK4 hM
  simp (config := { maxSteps := 4000000 }) [xRun, a_laws_FnExactAttemptsAt, qdone, ints_length, z1, h1', z2, h2', z3, h3', e1, e2, m0, m1, m2, m3, r1, r2, r3, n2, n1, b0, d0, b1, d1, b2, d2, b3, d3, mRules, mMap]
end Go.Abs.W
