import Derived.Test.YtcknpclhcilmaaaGreatDoorB0
set_option linter.unusedSimpArgs false
set_option linter.unusedVariables false
set_option maxRecDepth 100000
set_option maxHeartbeats 2000000
namespace Go.Abs.W
open Go Go.Abs Classical
attribute [-simp] Bool.decide_and
@[simp] theorem safe_units (l : List Unit) : safeLL (l.map Unit.enc) = true := by
  induction l with
  | nil => rfl
  | cons x l ih => simp [safeLL, safeL, D.safe, ih, Unit.enc]
abbrev StateA (o : Bool) (s : State) : List D := [.int .i64 s.turn, .int .i64 s.weather, .list o 4 (s.units.map Unit.enc)]
theorem c_slices_Clone_Unit (l : List Unit) (hl : Len l.length) : C n_slices_Clone_impl_Unit_impl_Unit [Rows false 4 (l.map Unit.enc)] = some (Rows true 4 (l.map Unit.enc)) := by
  refine callC p_slices_Clone_impl_Unit_impl_Unit rfl ?_
  have h1 : l.length ≤ 68719476736 := by unfold Len at hl; omega
  by_cases h : l = []
  · subst h
    simp [xRun, a_slices_Clone_impl_Unit_impl_Unit, rowsOf]
  · have h2 : ¬ (l.length : Int) = 0 := by
      intro hh; exact h (List.eq_nil_of_length_eq_zero (by omega))
    have h3 : ¬ l.length = 0 := by omega
    simp [xRun, a_slices_Clone_impl_Unit_impl_Unit, h2, h3, h, h1, rowsOf]
theorem c_impl_cloneState (s : State) (hl : Len s.units.length) : C n_impl_cloneState [StateV false s] = some (StateV true s) := by
  refine callC p_impl_cloneState rfl ?_
  simp [xRun, a_impl_cloneState, c_slices_Clone_Unit s.units hl]
/-- A unit loses steps. -/
def loseU (x : Unit) (n : Int) : Unit := { x with steps := if x.steps - n < 0 then 0 else x.steps - n, pos := if x.steps - n ≤ 0 then -1 else x.pos }
def setU (s : State) (u : Int) (x : Unit) : State := { s with units := s.units.set u.toNat x }
def loseS (s : State) (u n : Int) : State := setU s u (loseU (unitAt s u) n)
theorem setU_len (s : State) (u : Int) (x : Unit) : (setU s u x).units.length = s.units.length := by simp [setU]
theorem loseS_len (s : State) (u n : Int) : (loseS s u n).units.length = s.units.length := by simp [loseS, setU]
theorem setU_has {s : State} {u v : Int} {x : Unit} : Has (setU s u x) v ↔ Has s v := by unfold Has; rw [setU_len]
theorem loseS_has {s : State} {u v n : Int} : Has (loseS s u n) v ↔ Has s v := setU_has
theorem unitAt_set {s : State} {u v : Int} {x : Unit} (hu : Has s u) (hv : Has s v) : unitAt (setU s u x) v = if v = u then x else unitAt s v := by
  have h1 := at_lt (l := s.units) hu.1 hu.2
  have h2 := at_lt (l := s.units) hv.1 hv.2
  have h3 := hu.1
  have h4 := hv.1
  unfold unitAt at' setU
  simp only [List.getD_eq_getElem?_getD, List.getElem?_set]
  by_cases h : v = u
  · subst h; simp [h1]
  · have : ¬ u.toNat = v.toNat := by omega
    simp [h, this]
/-- The rows of a state's units that are written. -/
theorem units_at {s : State} {u : Int} (hu : Has s u) : (s.units.map Unit.enc)[u.toNat]? = some (unitAt s u).enc := by
  have := at_some hu.1 hu.2
  simp only [List.getElem?_map, this, Option.map_some]
  rfl
theorem units_set (s : State) (u : Int) (x : Unit) : (s.units.map Unit.enc).set u.toNat x.enc = (setU s u x).units.map Unit.enc := by
  simp [setU, List.map_set]
theorem setU_setU (s : State) (u : Int) (x y : Unit) : setU (setU s u x) u y = setU s u y := by simp [setU]
/-- The one of them with the most steps. -/
def bestM (s : State) (k0 : Int) (l : List Int) : Int := l.foldl (fun best k => if (unitAt s best).steps < (unitAt s k).steps then k else best) k0
theorem bestM_snoc (s : State) (k0 : Int) (l : List Int) (k : Int) : bestM s k0 (l ++ [k]) = if (unitAt s (bestM s k0 l)).steps < (unitAt s k).steps then k else bestM s k0 l := by unfold bestM; rw [List.foldl_append]; rfl
theorem bestM_mem (s : State) (k0 : Int) (l : List Int) : bestM s k0 l = k0 ∨ bestM s k0 l ∈ l := by
  unfold bestM
  induction l generalizing k0 with
  | nil => simp
  | cons x l ih =>
    simp only [List.foldl_cons]
    rcases ih (if (unitAt s k0).steps < (unitAt s x).steps then x else k0) with h | h
    · rw [h]
      by_cases hc : (unitAt s k0).steps < (unitAt s x).steps <;> simp [hc]
    · exact .inr (List.mem_cons_of_mem _ h)
theorem best_mem {s : State} {k0 : Int} {l : List Int} (h0 : l[0]? = some k0) (n : Nat) : bestM s k0 (l.take n) ∈ l := by
  rcases bestM_mem s k0 (l.take n) with h | h
  · rw [h]; exact List.mem_of_getElem? h0
  · exact List.mem_of_mem_take h
/-- Units lose all their steps. -/
def loseAll (s : State) (l : List Int) : State := l.foldl (fun s k => loseS s k (unitAt s k).steps) s
theorem loseAll_snoc (s : State) (l : List Int) (k : Int) : loseAll s (l ++ [k]) = loseS (loseAll s l) k (unitAt (loseAll s l) k).steps := by simp [loseAll]
/-- The steps are few. -/
def Few (s : State) : Prop := ∀ u ∈ s.units, 0 ≤ u.steps ∧ u.steps ≤ 100
theorem Few.at {s : State} (h : Few s) {u : Int} (hu : Has s u) : 0 ≤ (unitAt s u).steps ∧ (unitAt s u).steps ≤ 100 := h _ (at_mem hu.1 hu.2)
theorem Few.lose {s : State} (h : Few s) {u n : Int} (hu : Has s u) (hn : 0 ≤ n) : Few (loseS s u n) := by
  intro x hx
  have h1 := h.at hu
  rcases List.mem_or_eq_of_mem_set hx with h2 | rfl
  · exact h x h2
  · unfold loseU; simp only; split <;> omega
theorem Few.all {s : State} (h : Few s) {l : List Int} (hl : ∀ k ∈ l, Has s k) : Few (loseAll s l) ∧ (loseAll s l).units.length = s.units.length := by
  induction l generalizing s with
  | nil => exact ⟨h, rfl⟩
  | cons k l ih =>
    have hk := hl k (List.mem_cons_self ..)
    have := ih (s := loseS s k (unitAt s k).steps) (h.lose hk (h.at hk).1) fun j hj => loseS_has.2 (hl j (List.mem_cons_of_mem _ hj))
    exact ⟨this.1, this.2.trans (loseS_len ..)⟩
theorem StateOK.few {b : Board} {s : State} (h : StateOK b s) : Few s := fun u hu => by
  have h1 := h.unit u hu
  have h2 := (h.board.kind h1.kind).steps
  have h3 := h1.steps
  omega
/-- What a result does to a state. -/
def lose1 (s0 s : State) (l : List Int) : State := loseS s (bestM s0 (l.headD 0) l) 1
def goneL (x : Battle) (r : Int) : List Int := if r = 3 then x.defenders else if r = 6 then x.attackers else []
def applyM (s : State) (x : Battle) (r : Int) : State :=
  loseAll (if r = 5 ∨ r = 7 then lose1 s (if r = 2 ∨ r = 7 then lose1 s s x.defenders else s) x.attackers else (if r = 2 ∨ r = 7 then lose1 s s x.defenders else s)) (goneL x r)
theorem head_at {l : List Int} (h : ¬ l = []) : l[0]? = some (l.headD 0) := by
  cases l with
  | nil => exact absurd rfl h
  | cons x l => rfl
structure Sides (s : State) (x : Battle) : Prop where
  a : ∀ k ∈ x.attackers, Has s k
  d : ∀ k ∈ x.defenders, Has s k
  an : ¬ x.attackers = []
  dn : ¬ x.defenders = []
  al : x.attackers.length ≤ 1048576
  dl : x.defenders.length ≤ 1048576
theorem lose1_few {s : State} {l : List Int} (hf : Few s) (hh : ∀ k ∈ l, Has s k) (hn : ¬ l = []) (s0 : State) : Few (lose1 s0 s l) ∧ (lose1 s0 s l).units.length = s.units.length := by
  have hm : Has s (bestM s0 (l.headD 0) l) := hh _ (by have := best_mem (s := s0) (head_at hn) l.length; rwa [List.take_length] at this)
  exact ⟨hf.lose hm (by omega), loseS_len ..⟩
/-- A state, a battle and a result. -/
def ResOK (b : Board) (s : State) (x : Battle) (r : Int) : Prop := (StateOK b s ∧ BattleOK b s x) ∧ 0 ≤ r ∧ r ≤ 7
theorem BattleOK.sides {b : Board} {s : State} {x : Battle} (h : StateOK b s) (hb : BattleOK b s x) (hx : LenBattle x) : Sides s x := by
  refine ⟨fun k hk => (hb.att k hk).1, hb.d_has, hb.ne, fun hd => ?_, by have := hx.a; unfold Len at this; omega, by have := hx.d; unfold Len at this; omega⟩
  rcases owner_cases h hb.pos.1 with ⟨o1, _⟩ | ⟨_, o2, _, _⟩
  · have := hb.own; omega
  · rw [← unitsIn_length, ← hb.dfd, hd] at o2
    simp at o2
/-- The result as a state. -/
noncomputable def resS (b : Board) (s : State) (x : Battle) (r : Int) : State := if ResOK b s x r then applyM s x r else ⟨0, 0, []⟩
/-- The steps of some units. -/
def stepsG (s : State) (l : List Int) : Int := sumI (fun k => (unitAt s k).steps) l
theorem sumI_le' (f : Int → Int) (l : List Int) (c : Int) (h : ∀ a ∈ l, 0 ≤ f a ∧ f a ≤ c) : 0 ≤ sumI f l ∧ sumI f l ≤ c * l.length := by
  induction l with
  | nil => simp [sumI]
  | cons x l ih =>
    have h1 := ih fun a ha => h a (List.mem_cons_of_mem _ ha)
    have h2 := h x (List.mem_cons_self ..)
    have h3 : sumI f (x :: l) = f x + sumI f l := by simp [sumI]
    rw [h3, List.length_cons]
    have : c * ((l.length + 1 : Nat) : Int) = c * l.length + c := by rw [Int.natCast_add, Int.mul_add]; simp
    omega
/-- The units of a side that are on the map. -/
noncomputable def onSide (s : State) (side : Int) : List Int := ixs (fun u : Unit => u.side = side ∧ 0 ≤ u.pos) s.units
end Go.Abs.W
set_option linter.unusedSimpArgs false
set_option linter.unusedVariables false
set_option maxRecDepth 100000
set_option maxHeartbeats 2000000
namespace Go.Abs.W
open Go Go.Abs Classical
attribute [-simp] Bool.decide_and
theorem sum_ixs {l : List Unit} {p : Unit → Prop} {f : Int → Int} {v : Unit → Int} (h : ∀ (i : Nat) a, l[i]? = some a → f i = v a) : sumI f (ixs p l) = (l.map fun a => if p a then v a else 0).sum := by
  have key : ∀ n, n ≤ l.length → sumI f (ixs p (l.take n)) = ((l.take n).map fun a => if p a then v a else 0).sum := by
    intro n
    induction n with
    | zero => intro _; simp [ixs_nil, sumI_nil]
    | succ n ih =>
      intro hn
      have hlt : n < l.length := by omega
      have hl : (l.take n).length = n := by rw [List.length_take]; omega
      have hf := h n l[n] (by simp [hlt])
      rw [List.take_succ_eq_append_getElem hlt, ixs_snoc, hl, List.map_append, List.sum_append, ← ih (by omega)]
      by_cases hp : p l[n]
      · simp [hp, sumI_snoc, hf]
      · simp [hp]
  have := key l.length (Nat.le_refl _)
  rwa [List.take_length] at this
theorem sum_set {α : Type} (f : α → Int) {l : List α} {i : Nat} {a b : α} (h : l[i]? = some a) : ((l.set i b).map f).sum = (l.map f).sum - f a + f b := by
  induction l generalizing i with
  | nil => cases h
  | cons x l ih =>
    cases i with
    | zero =>
      simp at h; subst h
      simp only [List.set_cons_zero, List.map_cons, List.sum_cons]; omega
    | succ i =>
      have := ih (i := i) (by simpa using h)
      simp only [List.set_cons_succ, List.map_cons, List.sum_cons, this]; omega
theorem Inc.pairwise {l : List Int} (h : Inc l) : l.Pairwise (· < ·) := by
  induction l with
  | nil => exact .nil
  | cons x l ih =>
    have ht : Inc l := fun i a b h1 h2 => h (i + 1) a b (by simpa using h1) (by simpa using h2)
    have hp := ih ht
    refine List.pairwise_cons.2 ⟨fun y hy => ?_, hp⟩
    cases l with
    | nil => cases hy
    | cons z l =>
      have hxz := h 0 x z rfl rfl
      rcases List.mem_cons.1 hy with rfl | hy
      · exact hxz
      · have := (List.pairwise_cons.1 hp).1 y hy
        omega
theorem Inc.nodup {l : List Int} (h : Inc l) : l.Nodup := h.pairwise.imp fun hab => by omega
theorem ixs_pairwise {α : Type} (p : α → Prop) (l : List α) : (ixs p l).Pairwise (· < ·) := by
  have key : ∀ n, n ≤ l.length → (ixs p (l.take n)).Pairwise (· < ·) := by
    intro n
    induction n with
    | zero => intro _; exact .nil
    | succ n ih =>
      intro hn
      have hlt : n < l.length := by omega
      have hl : (l.take n).length = n := by rw [List.length_take]; omega
      rw [List.take_succ_eq_append_getElem hlt, ixs_snoc, hl]
      split
      · refine List.pairwise_append.2 ⟨ih (by omega), by simp, fun a ha b hb => ?_⟩
        obtain ⟨i, c, rfl, hi, _⟩ := mem_ixs.1 ha
        have := (List.getElem?_eq_some_iff.1 hi).1
        simp at hb; subst hb
        omega
      · exact ih (by omega)
  have := key l.length (Nat.le_refl _)
  rwa [List.take_length] at this
theorem ixs_nodup {α : Type} (p : α → Prop) (l : List α) : (ixs p l).Nodup := (ixs_pairwise p l).imp fun hab => by omega
/-- The steps of a side that is on the map, another way. -/
noncomputable def sideF (side : Int) (u : Unit) : Int := if u.side = side ∧ 0 ≤ u.pos then u.steps else 0
theorem side_sum (s : State) (side : Int) : stepsG s (onSide s side) = (s.units.map (sideF side)).sum := by
  unfold stepsG onSide
  rw [sum_ixs (f := fun k => (unitAt s k).steps) (v := fun u => u.steps) fun i a ha => by rw [show unitAt s (i : Int) = a from at_nat ha]]
  refine congrArg List.sum (List.map_congr_left fun a _ => ?_)
  unfold sideF
  by_cases h : a.side = side ∧ 0 ≤ a.pos <;> simp [h]
theorem side_set (s : State) (side : Int) {k : Int} (hk : Has s k) (x : Unit) : stepsG (setU s k x) (onSide (setU s k x) side) = stepsG s (onSide s side) - sideF side (unitAt s k) + sideF side x := by
  rw [side_sum, side_sum]
  exact sum_set (sideF side) (at_some hk.1 hk.2)
theorem steps_cons (s : State) (y : Int) (l : List Int) : stepsG s (y :: l) = (unitAt s y).steps + stepsG s l := by simp [stepsG, sumI]
theorem steps_set (s : State) {k : Int} (hk : Has s k) (x : Unit) {l : List Int} (hn : l.Nodup) (hl : ∀ j ∈ l, Has s j) : stepsG (setU s k x) l = if k ∈ l then stepsG s l - (unitAt s k).steps + x.steps else stepsG s l := by
  induction l with
  | nil => simp [stepsG, sumI]
  | cons y l ih =>
    obtain ⟨h1, h2⟩ := List.nodup_cons.1 hn
    have hy := hl y (List.mem_cons_self ..)
    rw [steps_cons, steps_cons, ih h2 fun j hj => hl j (List.mem_cons_of_mem _ hj), unitAt_set hk hy]
    by_cases hyk : y = k
    · subst hyk
      simp only [if_true, if_neg h1, List.mem_cons, true_or]; omega
    · have hky : ¬ k = y := fun h => hyk h.symm
      by_cases hm : k ∈ l
      · simp only [if_neg hyk, if_pos hm, List.mem_cons, hky, false_or]; omega
      · simp only [if_neg hyk, if_neg hm, List.mem_cons, hky, false_or]
/-- What a side lost is what these units of it lost. -/
structure Bal (s s' : State) (l : List Int) (side : Int) : Prop where
  eq : stepsG s' (onSide s' side) - stepsG s (onSide s side) = stepsG s' l - stepsG s l
  u : ∀ k ∈ l, Has s' k ∧ (unitAt s' k).side = side ∧ (0 ≤ (unitAt s' k).pos ∨ (unitAt s' k).steps = 0)
theorem sideF_of {side : Int} {u : Unit} (h1 : u.side = side) (h2 : 0 ≤ u.pos ∨ u.steps = 0) : sideF side u = u.steps := by
  unfold sideF
  by_cases hp : 0 ≤ u.pos
  · simp [h1, hp]
  · rcases h2 with h2 | h2
    · exact absurd h2 hp
    · simp [hp, h2]
theorem sideF_no {side : Int} {u : Unit} (h1 : ¬ u.side = side) : sideF side u = 0 := by simp [sideF, h1]
theorem loseU_side (x : Unit) (n : Int) : (loseU x n).side = x.side := rfl
theorem loseU_pos {x : Unit} {n : Int} (h : 0 ≤ x.pos ∨ x.steps = 0) (hn : 0 ≤ n) : 0 ≤ (loseU x n).pos ∨ (loseU x n).steps = 0 := by
  unfold loseU
  by_cases h1 : x.steps - n ≤ 0
  · right; simp only; split <;> omega
  · left
    simp only [if_neg h1]
    rcases h with h | h
    · exact h
    · omega
theorem Bal.lose {s s' : State} {l : List Int} {side k n : Int} (h : Bal s s' l side) (hd : l.Nodup) (hk : Has s' k) (hn : 0 ≤ n) (hin : k ∈ l ∨ ¬ (unitAt s' k).side = side) : Bal s (loseS s' k n) l side := by
  have hl : ∀ j ∈ l, Has s' j := fun j hj => (h.u j hj).1
  refine ⟨?_, fun j hj => ?_⟩
  · unfold loseS
    rw [side_set s' side hk, steps_set s' hk _ hd hl]
    by_cases hm : k ∈ l
    · obtain ⟨_, g2, g3⟩ := h.u k hm
      have e1 := sideF_of g2 g3
      have e2 := sideF_of (side := side) (u := loseU (unitAt s' k) n) g2 (loseU_pos g3 hn)
      have e := h.eq
      simp only [if_pos hm, e1, e2]; omega
    · have h2 := hin.resolve_left hm
      have e1 := sideF_no h2
      have e2 := sideF_no (side := side) (u := loseU (unitAt s' k) n) h2
      have e := h.eq
      simp only [if_neg hm, e1, e2]; omega
  · obtain ⟨g1, g2, g3⟩ := h.u j hj
    refine ⟨loseS_has.2 g1, ?_⟩
    unfold loseS
    rw [unitAt_set hk g1]
    by_cases hjk : j = k
    · subst hjk
      rw [if_pos rfl]
      exact ⟨g2, loseU_pos g3 hn⟩
    · rw [if_neg hjk]; exact ⟨g2, g3⟩
structure Bal2 (s s' : State) (x : Battle) (own : Int) : Prop where
  a : Bal s s' x.attackers (1 - own)
  d : Bal s s' x.defenders own
  an : x.attackers.Nodup
  dn : x.defenders.Nodup
  f : Few s'
theorem Bal2.lose {s s' : State} {x : Battle} {own k n : Int} (h : Bal2 s s' x own) (hn : 0 ≤ n) (hk : k ∈ x.attackers ∨ k ∈ x.defenders) : Bal2 s (loseS s' k n) x own := by
  rcases hk with hk | hk
  · obtain ⟨g1, g2, _⟩ := h.a.u k hk
    exact ⟨h.a.lose h.an g1 hn (.inl hk), h.d.lose h.dn g1 hn (.inr (by omega)), h.an, h.dn, h.f.lose g1 hn⟩
  · obtain ⟨g1, g2, _⟩ := h.d.u k hk
    exact ⟨h.a.lose h.an g1 hn (.inr (by omega)), h.d.lose h.dn g1 hn (.inl hk), h.an, h.dn, h.f.lose g1 hn⟩
theorem Bal2.all {s s' : State} {x : Battle} {own : Int} {l : List Int} (h : Bal2 s s' x own) (hk : ∀ k ∈ l, k ∈ x.attackers ∨ k ∈ x.defenders) : Bal2 s (loseAll s' l) x own := by
  induction l generalizing s' with
  | nil => exact h
  | cons k l ih =>
    have hm := hk k (List.mem_cons_self ..)
    have hh : Has s' k := hm.elim (fun hm => (h.a.u k hm).1) fun hm => (h.d.u k hm).1
    exact ih (s' := loseS s' k (unitAt s' k).steps) (h.lose (h.f.at hh).1 hm) fun j hj => hk j (List.mem_cons_of_mem _ hj)
theorem Bal2.start {b : Board} {s : State} {x : Battle} (h : StateOK b s) (hb : BattleOK b s x) : Bal2 s s x (ownerM s x.pos) := by
  refine ⟨⟨by omega, fun k hk => ?_⟩, ⟨by omega, fun k hk => ?_⟩, hb.inc.nodup, ?_, h.few⟩
  · obtain ⟨g1, g2, g3⟩ := hb.att k hk
    have h1 := (g1.ok h).side
    have h2 := hb.own
    have h3 : ownerM s x.pos = 0 ∨ ownerM s x.pos = 1 := by
      rcases owner_cases h hb.pos.1 with ⟨o1, _⟩ | ⟨o1, _⟩
      · omega
      · unfold Side at o1; omega
    exact ⟨g1, by omega, .inl g3.1⟩
  · rw [hb.dfd] at hk
    obtain ⟨g1, g2, g3⟩ := ixs_unit.1 hk
    have := hb.pos.1
    exact ⟨g1, g3, .inl (by omega)⟩
  · rw [hb.dfd]; exact ixs_nodup _ _
theorem best_in {s : State} {l : List Int} (h : ¬ l = []) : bestM s (l.headD 0) l ∈ l := by
  have := best_mem (s := s) (head_at h) l.length
  rwa [List.take_length] at this
theorem Bal2.apply {b : Board} {s : State} {x : Battle} (h : StateOK b s) (hb : BattleOK b s x) (hx : Sides s x) (r : Int) : Bal2 s (applyM s x r) x (ownerM s x.pos) := by
  have h0 := Bal2.start h hb
  unfold applyM
  have h1 : Bal2 s (if r = 2 ∨ r = 7 then lose1 s s x.defenders else s) x (ownerM s x.pos) := by
    split
    · exact h0.lose (by decide) (.inr (best_in hx.dn))
    · exact h0
  have h2 : Bal2 s (if r = 5 ∨ r = 7 then lose1 s (if r = 2 ∨ r = 7 then lose1 s s x.defenders else s) x.attackers else (if r = 2 ∨ r = 7 then lose1 s s x.defenders else s)) x (ownerM s x.pos) := by
    split
    · exact h1.lose (by decide) (.inl (best_in hx.an))
    · exact h1
  refine h2.all fun k hk => ?_
  unfold goneL at hk
  split at hk
  · exact .inr hk
  · split at hk
    · exact .inl hk
    · cases hk
theorem apply_len (s : State) (x : Battle) (r : Int) : (applyM s x r).units.length = s.units.length := by
  have h1 : ∀ (l : List Int) (s' : State), (loseAll s' l).units.length = s'.units.length := by
    intro l
    induction l with
    | nil => intro s'; rfl
    | cons k l ih => intro s'; exact (ih _).trans (loseS_len ..)
  unfold applyM
  rw [h1]
  split <;> split <;> simp [lose1, loseS_len]
end Go.Abs.W
