import Derived.Test.YtdhkoobikheabaaGreatDoorB0
set_option linter.unusedSimpArgs false
set_option linter.unusedVariables false
set_option maxRecDepth 100000
set_option maxHeartbeats 2000000
namespace Go.Abs.W
open Go Go.Abs Classical
attribute [-simp] Bool.decide_and
@[simp] theorem safe_units (l : List Unit) : safeLL (l.map Unit.enc) = true := by
  induction l with
  | nil => rfl
  | cons x l ih => simp [safeLL, safeL, D.safe, ih, Unit.enc]
abbrev StateA (o : Bool) (s : State) : List D := [.int .i64 s.turn, .int .i64 s.weather, .list o 4 (s.units.map Unit.enc)]
theorem c_slices_Clone_Unit (l : List Unit) (hl : Len l.length) : C n_slices_Clone_impl_Unit_impl_Unit [Rows false 4 (l.map Unit.enc)] = some (Rows true 4 (l.map Unit.enc)) := by
  refine callC p_slices_Clone_impl_Unit_impl_Unit rfl ?_
  have h1 : l.length ≤ 68719476736 := by unfold Len at hl; omega
  by_cases h : l = []
  · subst h
    simp [xRun, a_slices_Clone_impl_Unit_impl_Unit, rowsOf]
  · have h2 : ¬ (l.length : Int) = 0 := by
      intro hh; exact h (List.eq_nil_of_length_eq_zero (by omega))
    have h3 : ¬ l.length = 0 := by omega
    simp [xRun, a_slices_Clone_impl_Unit_impl_Unit, h2, h3, h, h1, rowsOf]
theorem c_impl_cloneState (s : State) (hl : Len s.units.length) : C n_impl_cloneState [StateV false s] = some (StateV true s) := by
  refine callC p_impl_cloneState rfl ?_
  simp [xRun, a_impl_cloneState, c_slices_Clone_Unit s.units hl]
/-- A unit loses steps. -/
def loseU (x : Unit) (n : Int) : Unit := { x with steps := if x.steps - n < 0 then 0 else x.steps - n, pos := if x.steps - n ≤ 0 then -1 else x.pos }
def setU (s : State) (u : Int) (x : Unit) : State := { s with units := s.units.set u.toNat x }
def loseS (s : State) (u n : Int) : State := setU s u (loseU (unitAt s u) n)
theorem setU_len (s : State) (u : Int) (x : Unit) : (setU s u x).units.length = s.units.length := by simp [setU]
theorem loseS_len (s : State) (u n : Int) : (loseS s u n).units.length = s.units.length := by simp [loseS, setU]
theorem setU_has {s : State} {u v : Int} {x : Unit} : Has (setU s u x) v ↔ Has s v := by unfold Has; rw [setU_len]
theorem loseS_has {s : State} {u v n : Int} : Has (loseS s u n) v ↔ Has s v := setU_has
theorem unitAt_set {s : State} {u v : Int} {x : Unit} (hu : Has s u) (hv : Has s v) : unitAt (setU s u x) v = if v = u then x else unitAt s v := by
  have h1 := at_lt (l := s.units) hu.1 hu.2
  have h2 := at_lt (l := s.units) hv.1 hv.2
  have h3 := hu.1
  have h4 := hv.1
  unfold unitAt at' setU
  simp only [List.getD_eq_getElem?_getD, List.getElem?_set]
  by_cases h : v = u
  · subst h; simp [h1]
  · have : ¬ u.toNat = v.toNat := by omega
    simp [h, this]
/-- The rows of a state's units that are written. -/
theorem units_at {s : State} {u : Int} (hu : Has s u) : (s.units.map Unit.enc)[u.toNat]? = some (unitAt s u).enc := by
  have := at_some hu.1 hu.2
  simp only [List.getElem?_map, this, Option.map_some]
  rfl
theorem units_set (s : State) (u : Int) (x : Unit) : (s.units.map Unit.enc).set u.toNat x.enc = (setU s u x).units.map Unit.enc := by
  simp [setU, List.map_set]
/-- Units lose all their steps. -/
def loseAll (s : State) (l : List Int) : State := l.foldl (fun s k => loseS s k (unitAt s k).steps) s
/-- The steps are few. -/
def Few (s : State) : Prop := ∀ u ∈ s.units, 0 ≤ u.steps ∧ u.steps ≤ 100
theorem Few.at {s : State} (h : Few s) {u : Int} (hu : Has s u) : 0 ≤ (unitAt s u).steps ∧ (unitAt s u).steps ≤ 100 := h _ (at_mem hu.1 hu.2)
theorem Few.lose {s : State} (h : Few s) {u n : Int} (hu : Has s u) (hn : 0 ≤ n) : Few (loseS s u n) := by
  intro x hx
  have h1 := h.at hu
  rcases List.mem_or_eq_of_mem_set hx with h2 | rfl
  · exact h x h2
  · unfold loseU; simp only; split <;> omega
theorem Few.all {s : State} (h : Few s) {l : List Int} (hl : ∀ k ∈ l, Has s k) : Few (loseAll s l) ∧ (loseAll s l).units.length = s.units.length := by
  induction l generalizing s with
  | nil => exact ⟨h, rfl⟩
  | cons k l ih =>
    have hk := hl k (List.mem_cons_self ..)
    have := ih (s := loseS s k (unitAt s k).steps) (h.lose hk (h.at hk).1) fun j hj => loseS_has.2 (hl j (List.mem_cons_of_mem _ hj))
    exact ⟨this.1, this.2.trans (loseS_len ..)⟩
theorem StateOK.few {b : Board} {s : State} (h : StateOK b s) : Few s := fun u hu => by
  have h1 := h.unit u hu
  have h2 := (h.board.kind h1.kind).steps
  have h3 := h1.steps
  omega
structure Sides (s : State) (x : Battle) : Prop where
  a : ∀ k ∈ x.attackers, Has s k
  d : ∀ k ∈ x.defenders, Has s k
  an : ¬ x.attackers = []
  dn : ¬ x.defenders = []
  al : x.attackers.length ≤ 1048576
  dl : x.defenders.length ≤ 1048576
theorem BattleOK.sides {b : Board} {s : State} {x : Battle} (h : StateOK b s) (hb : BattleOK b s x) (hx : LenBattle x) : Sides s x := by
  refine ⟨fun k hk => (hb.att k hk).1, hb.d_has, hb.ne, fun hd => ?_, by have := hx.a; unfold Len at this; omega, by have := hx.d; unfold Len at this; omega⟩
  rcases owner_cases h hb.pos.1 with ⟨o1, _⟩ | ⟨_, o2, _, _⟩
  · have := hb.own; omega
  · rw [← unitsIn_length, ← hb.dfd, hd] at o2
    simp at o2
end Go.Abs.W
