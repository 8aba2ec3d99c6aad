import Derived.Test.YtdhkoobikheabaaGreatDoorB1
import Derived.Test.YtdhkoobikheabaaGreatDoorB3
import Derived.Test.YtdhkoobikheabaaGreatDoorB6
set_option linter.unusedSimpArgs false
set_option linter.unusedVariables false
set_option maxRecDepth 100000
set_option maxHeartbeats 2000000
namespace Go.Abs.W
open Go Go.Abs Classical
attribute [-simp] Bool.decide_and
@[simp] theorem safe_attempts (l : List Attempt) : safeLL (l.map Attempt.enc) = true := by
  induction l with
  | nil => rfl
  | cons x l ih => simp [safeLL, safeL, D.safe, ih, Attempt.enc]
def InPath (o : Order) (dn : Int) : Prop := (0 ≤ dn ∧ dn ≤ 8) ∧ dn < o.path.length
/-- The next attempt of an order, and whether it is one. -/
noncomputable def goA (b : Board) (s : State) (o : Order) (dn : Int) : Attempt := ⟨o.unit, (unitAt s o.unit).pos, nextM b.map (unitAt s o.unit).pos (at' o.path dn)⟩
def CanStep (b : Board) (s : State) (o : Order) (dn : Int) : Prop := InPath o dn ∧ ¬ stepM b (unitAt s o.unit).kind s.weather (unitAt s o.unit).pos (at' o.path dn) = 0
noncomputable def zoneA (b : Board) (s : State) (o : Order) (dn : Int) : Int := zoneR b s (unitAt s o.unit) (nextM b.map (unitAt s o.unit).pos (at' o.path dn)) (decide (0 < dn))
def GoesA (b : Board) (s : State) (o : Order) (dn : Int) : Prop := CanStep b s o dn ∧ zoneA b s o dn = 0
noncomputable def nextA (b : Board) (s : State) (o : Order) (dn : Int) : List Attempt := if GoesA b s o dn then [goA b s o dn] else []
/-- An order of a unit that is on the map. -/
structure OrdOK (s : State) (o : Order) : Prop where
  has : Has s o.unit
  on : 0 ≤ (unitAt s o.unit).pos
  path : PathOK o.path
theorem c_impl_attemptOf (b : Board) (s : State) (o : Order) (dn : Int) (hl : LenB b) (h : StateW b s) (ho : OrdOK s o) :
    C n_impl_attemptOf [BoardV false b, StateV false s, OrderV false o, I dn] = some (.tup [some (.agg (Attempt.enc (if CanStep b s o dn then goA b s o dn else ⟨0, 0, 0⟩))), some (.one (.bool (decide (GoesA b s o dn))))]) := by
  refine callC p_impl_attemptOf rfl ?_
  have hu := ho.has
  have hp := ho.on
  have hp9 := ho.path.len
  have n0 : ¬ o.unit < 0 := by have := hu.1; omega
  have r1 := at_lt (l := s.units) hu.1 hu.2
  have r2 := unit_row hu
  have hx : UnitOK b (unitAt s o.unit) := h.unit _ (at_mem hu.1 hu.2)
  have hon := hx.on hp
  by_cases h1 : 0 ≤ dn ∧ dn ≤ 8
  rotate_left
  · have hP : ¬ CanStep b s o dn := fun hh => h1 hh.1.1
    have hG : ¬ GoesA b s o dn := fun hh => hP hh.1
    simp [xRun, a_impl_attemptOf, h1, hP, hG, Attempt.enc]
  by_cases h2 : dn < (o.path.length : Int)
  rotate_left
  · have hP : ¬ CanStep b s o dn := fun hh => h2 hh.1.2
    have hG : ¬ GoesA b s o dn := fun hh => hP hh.1
    have h2' : (o.path.length : Int) ≤ dn := by omega
    simp [xRun, a_impl_attemptOf, h1, ints_length, h2', hP, hG, Attempt.enc]
  have hpd := at_some (l := o.path) h1.1 h2
  have p1 : ¬ dn < 0 := by omega
  have p2 : dn.toNat < o.path.length := by omega
  have h2' : ¬ (o.path.length : Int) ≤ dn := by omega
  have hdd : Dir (at' o.path dn) := ho.path.2 _ (at_mem h1.1 h2)
  have e1 := c_impl_stepCost b (unitAt s o.unit).kind s.weather (unitAt s o.unit).pos (at' o.path dn) hl h.board hx.kind hon hdd h.weather
  by_cases h3 : stepM b (unitAt s o.unit).kind s.weather (unitAt s o.unit).pos (at' o.path dn) = 0
  · have hP : ¬ CanStep b s o dn := fun hh => hh.2 h3
    have hG : ¬ GoesA b s o dn := fun hh => hP hh.1
    rw [h3] at e1
    generalize at' o.path dn = d at *
    simp [xRun, a_impl_attemptOf, h1, ints_length, h2', n0, r1, r2, Unit.enc, p1, p2, ints_get hpd, ints_at hpd, e1, hP, hG, Attempt.enc]
  have hP : CanStep b s o dn := ⟨⟨h1, h2⟩, h3⟩
  have hG : GoesA b s o dn ↔ zoneA b s o dn = 0 := ⟨fun hh => hh.2, fun hh => ⟨hP, hh⟩⟩
  have e2 := c_impl_nextTo b.map (unitAt s o.unit).pos (at' o.path dn) h.board.map.dim (hon.ix h.board) hdd
  have hn := next_on h.board (step_next h3)
  have e3 := c_impl_zoneReason b s (unitAt s o.unit) (nextM b.map (unitAt s o.unit).pos (at' o.path dn)) (decide (0 < dn)) hl h hx hp hn
  unfold zoneA at hG
  simp only [hP, if_true, hG]
  unfold goA
  generalize zoneR b s (unitAt s o.unit) (nextM b.map (unitAt s o.unit).pos (at' o.path dn)) (decide (0 < dn)) = zr at *
  generalize at' o.path dn = d at *
  have hz : (zr == 0) = decide (zr = 0) := by by_cases h4 : zr = 0 <;> simp [h4]
  simp [xRun, a_impl_attemptOf, h1, ints_length, h2', n0, r1, r2, Unit.enc, p1, p2, ints_get hpd, ints_at hpd, e1, h3, e2, e3, hz, Attempt.enc]
/-- Lists of truths. -/
def bools (l : List Bool) : List (List D) := l.map fun t => [D.bool t]
theorem bools_length (l : List Bool) : (bools l).length = l.length := by simp [bools]
theorem bools_at {l : List Bool} {i : Nat} {t : Bool} (h : l[i]? = some t) : (bools l)[i]? = some [D.bool t] := by simp [bools, h]
theorem bools_get {l : List Bool} {i : Nat} {t : Bool} (h : l[i]? = some t) : ∀ h' : i < (bools l).length, (bools l)[i]'h' = [D.bool t] := fun _ => (List.getElem?_eq_some_iff.1 (bools_at h)).2
@[simp] theorem stale_bools (l : List Bool) : staleLL (bools l) = bools l := by
  induction l with
  | nil => rfl
  | cons x l ih => simp only [bools, List.map_cons] at ih ⊢; simp [staleLL, staleL, D.stale, ih]
/-- The attempts of the first n orders. -/
noncomputable def attsUp (b : Board) (s : State) (l : List Order) (done : List Int) (act : List Bool) (n : Nat) : List Attempt := (List.range n).flatMap fun k => match l[k]?, done[k]?, act[k]? with
  | some o, some dn, some true => nextA b s o dn
  | _, _, _ => []
theorem attsUp_zero (b : Board) (s : State) (l : List Order) (done : List Int) (act : List Bool) : attsUp b s l done act 0 = [] := rfl
theorem attsUp_succ (b : Board) (s : State) {l : List Order} {done : List Int} {act : List Bool} {n : Nat} {o : Order} {dn : Int} {t : Bool} (h1 : l[n]? = some o) (h2 : done[n]? = some dn) (h3 : act[n]? = some t) :
    attsUp b s l done act (n + 1) = attsUp b s l done act n ++ if t = true then nextA b s o dn else [] := by
  unfold attsUp
  rw [List.range_succ, List.flatMap_append]
  congr 1
  simp only [List.flatMap_cons, List.flatMap_nil, List.append_nil, h1, h2, h3]
  cases t <;> rfl
theorem nextA_le (b : Board) (s : State) (o : Order) (dn : Int) : (nextA b s o dn).length ≤ 1 := by unfold nextA; split <;> simp
theorem attsUp_le (b : Board) (s : State) (l : List Order) (done : List Int) (act : List Bool) (n : Nat) : (attsUp b s l done act n).length ≤ n := by
  induction n with
  | zero => exact Nat.le_refl _
  | succ n ih =>
    have h : (attsUp b s l done act (n + 1)).length ≤ (attsUp b s l done act n).length + 1 := by
      unfold attsUp
      rw [List.range_succ, List.flatMap_append, List.length_append]
      refine Nat.add_le_add_left ?_ _
      simp only [List.flatMap_cons, List.flatMap_nil, List.append_nil]
      split
      · exact nextA_le ..
      · simp
    omega
theorem c_spec_fAttempts (b : Board) (s : State) (l : List Order) (done : List Int) (act : List Bool) (hl : LenB b) (h : StateW b s) (ho : ∀ o ∈ l, OrdOK s o) (hd : done.length = l.length) (ha : act.length = l.length) (hls : l.length ≤ 1048576) :
    C n_spec_fAttempts [BoardV false b, StateV false s, OrdersV false l, Li done, .val (.one (.list false 1 (bools act)))] = some (Rows true 3 ((attsUp b s l done act l.length).map Attempt.enc)) := by
  refine callC p_spec_fAttempts rfl ?_
  simp [xRun, a_spec_fAttempts]
  refine list_loop l (by omega) (fun n (_ : Unit) => [(11, .own 0 3 ((attsUp b s l done act n).map Attempt.enc)), (18, I n)]) (fun _ _ => True) default (by simp [attsUp_zero]) trivial ?_ ?_
  · intro N E n o z hoo hlt hm ht hwi _ hN hE
    obtain ⟨g1, g2, g3⟩ := ho o hm
    have hltd : n < done.length := by omega
    have hlta : n < act.length := by omega
    obtain ⟨dn, hdn⟩ : ∃ dn, done[n]? = some dn := ⟨done[n], by simp⟩
    obtain ⟨t, hat⟩ : ∃ t, act[n]? = some t := ⟨act[n], by simp⟩
    rw [attsUp_succ b s hoo hdn hat] at hN
    have hle : (attsUp b s l done act n).length + 1 ≤ 68719476736 := by have := attsUp_le b s l done act n; omega
    generalize attsUp b s l done act n = L at *
    have hp9 := g3.len
    have n0 : ¬ o.unit < 0 := by have := g1.1; omega
    have r1 := at_lt (l := s.units) g1.1 g1.2
    have r2 := unit_row g1
    have hx : UnitOK b (unitAt s o.unit) := h.unit _ (at_mem g1.1 g1.2)
    have hon := hx.on g2
    cases t with
    | false =>
      simp [bodyF, b_spec_fAttempts_0, hlt, hoo, at_of hoo, Order.enc, bools_length, hlta, bools_at hat, bools_get hat, hwi]
      exact hN _ z (by simp) trivial
    | true =>
      simp only [if_true] at hN
      by_cases h1 : 0 ≤ dn ∧ dn ≤ 8
      rotate_left
      · have hG : ¬ GoesA b s o dn := fun hh => h1 hh.1.1.1
        simp [bodyF, b_spec_fAttempts_0, hlt, hoo, at_of hoo, Order.enc, bools_length, hlta, bools_at hat, bools_get hat, ints_length, hltd, ints_at hdn, ints_get hdn, h1, hwi]
        exact hN _ z (by simp [nextA, hG]) trivial
      by_cases h2 : dn < (o.path.length : Int)
      rotate_left
      · have hG : ¬ GoesA b s o dn := fun hh => h2 hh.1.1.2
        have h2' : (o.path.length : Int) ≤ dn := by omega
        simp [bodyF, b_spec_fAttempts_0, hlt, hoo, at_of hoo, Order.enc, bools_length, hlta, bools_at hat, bools_get hat, ints_length, hltd, ints_at hdn, ints_get hdn, h1, h2', hwi]
        exact hN _ z (by simp [nextA, hG]) trivial
      have hpd := at_some (l := o.path) h1.1 h2
      have p1 : ¬ dn < 0 := by omega
      have p2 : dn.toNat < o.path.length := by omega
      have h2' : ¬ (o.path.length : Int) ≤ dn := by omega
      have hdd : Dir (at' o.path dn) := g3.2 _ (at_mem h1.1 h2)
      have e1 := c_spec_cStep b (unitAt s o.unit).kind (unitAt s o.unit).pos (at' o.path dn) s.weather hl h.board hx.kind hon hdd h.weather
      by_cases h3 : stepM b (unitAt s o.unit).kind s.weather (unitAt s o.unit).pos (at' o.path dn) = 0
      · have hG : ¬ GoesA b s o dn := fun hh => hh.1.2 h3
        have hN' : nextA b s o dn = [] := by unfold nextA; rw [if_neg hG]
        rw [hN'] at hN
        rw [h3] at e1
        clear hG h3 hN' hdd
        generalize at' o.path dn = d at *
        simp [bodyF, b_spec_fAttempts_0, hlt, hoo, at_of hoo, Order.enc, bools_length, hlta, bools_at hat, bools_get hat, ints_length, hltd, ints_at hdn, ints_get hdn, h1, h2', n0, r1, r2, Unit.enc, p1, p2, ints_get hpd, ints_at hpd, e1, hwi]
        exact hN _ z (by simp) trivial
      have hC : CanStep b s o dn := ⟨⟨h1, h2⟩, h3⟩
      have hn := step_next h3
      have e2 := c_spec_mNext b.map (unitAt s o.unit).pos (at' o.path dn) h.board.map.dim (hon.ix h.board) hdd
      have e3 := c_spec_fZone b s o.unit (at' o.path dn) (decide (0 < dn)) hl h g1 g2 hdd hn
      have hz : zoneR b s (unitAt s o.unit) (nextM b.map (unitAt s o.unit).pos (at' o.path dn)) (decide (0 < dn)) = zoneA b s o dn := rfl
      rw [hz] at e3
      by_cases h4 : zoneA b s o dn = 0
      · have hN' : nextA b s o dn = [goA b s o dn] := by unfold nextA; rw [if_pos ⟨hC, h4⟩]
        rw [hN'] at hN
        have hgo : goA b s o dn = ⟨o.unit, (unitAt s o.unit).pos, nextM b.map (unitAt s o.unit).pos (at' o.path dn)⟩ := rfl
        rw [hgo] at hN
        rw [h4] at e3
        clear hC hN' hz h4 hgo
        generalize at' o.path dn = d at *
        simp [bodyF, b_spec_fAttempts_0, hlt, hoo, at_of hoo, Order.enc, bools_length, hlta, bools_at hat, bools_get hat, ints_length, hltd, ints_at hdn, ints_get hdn, h1, h2', n0, r1, r2, Unit.enc, p1, p2, ints_get hpd, ints_at hpd, e1, h3, e2, e3, rowsOf, hle, hwi]
        exact hN _ z (by simp [Attempt.enc]) trivial
      · have hN' : nextA b s o dn = [] := by unfold nextA; rw [if_neg fun hh => h4 hh.2]
        rw [hN'] at hN
        clear hC hN' hz
        generalize zoneA b s o dn = zr at *
        generalize at' o.path dn = d at *
        simp [bodyF, b_spec_fAttempts_0, hlt, hoo, at_of hoo, Order.enc, bools_length, hlta, bools_at hat, bools_get hat, ints_length, hltd, ints_at hdn, ints_get hdn, h1, h2', n0, r1, r2, Unit.enc, p1, p2, ints_get hpd, ints_at hpd, e1, h3, e3, h4, hwi]
        exact hN _ z (by simp) trivial
  · intro N E z _ hE
    simp [bodyF, b_spec_fAttempts_0]
    exact hE _ _ fun st => by simp
/-- What holds of the elements of a list up to a place, and that they rise. -/
def Upto {α : Type} (P : α → Prop) (f : α → Int) (l : List α) (i : Nat) : Prop := (∀ a ∈ l.take i, P a) ∧ ∀ (j : Nat) a c, j + 1 < i → l[j]? = some a → l[j + 1]? = some c → f a < f c
def Rises {α : Type} (f : α → Int) (l : List α) : Prop := ∀ (i : Nat) a b, l[i]? = some a → l[i + 1]? = some b → f a < f b
theorem Upto.zero {α : Type} {P : α → Prop} {f : α → Int} {l : List α} : Upto P f l 0 := ⟨by simp, fun j a c h => by omega⟩
theorem Upto.next {α : Type} {P : α → Prop} {f : α → Int} {l : List α} {i : Nat} {a : α} (h : Upto P f l i) (ha : l[i]? = some a) (ht : l.take (i + 1) = l.take i ++ [a]) (hok : P a) (hp : ∀ k p, k + 1 = i → l[k]? = some p → f p < f a) : Upto P f l (i + 1) := by
  refine ⟨fun x hx => ?_, fun j x y hj hx hy => ?_⟩
  · rw [ht] at hx; simp at hx
    rcases hx with hx | rfl
    · exact h.1 x hx
    · exact hok
  · by_cases hji : j + 1 = i
    · subst hji
      rw [ha] at hy; obtain rfl := Option.some.inj hy
      exact hp j x rfl hx
    · exact h.2 j x y (by omega) hx hy
theorem Upto.all {α : Type} {P : α → Prop} {f : α → Int} {l : List α} (h : Upto P f l l.length) : (∀ a ∈ l, P a) ∧ Rises f l := by
  refine ⟨by simpa using h.1, fun i x y hx hy => h.2 i x y (by have := (List.getElem?_eq_some_iff.1 hy).1; omega) hx hy⟩
end Go.Abs.W
