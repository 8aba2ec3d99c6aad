import Derived.Test.YtdhkoobikheabaaGreatDoorB1
import Derived.Test.YtdhkoobikheabaaGreatDoorB5
set_option linter.unusedSimpArgs false
set_option linter.unusedVariables false
set_option maxRecDepth 100000
set_option maxHeartbeats 2000000
namespace Go.Abs.W
open Go Go.Abs Classical
attribute [-simp] Bool.decide_and
/-- A unit is put into a hex. -/
def posU (x : Unit) (p : Int) : Unit := { x with pos := p }
def putS (s : State) (u p : Int) : State := setU s u (posU (unitAt s u) p)
@[simp] theorem setU_turn (s : State) (u : Int) (x : Unit) : (setU s u x).turn = s.turn := rfl
@[simp] theorem setU_weather (s : State) (u : Int) (x : Unit) : (setU s u x).weather = s.weather := rfl
theorem putS_len (s : State) (u p : Int) : (putS s u p).units.length = s.units.length := setU_len ..
theorem putS_has {s : State} {u v p : Int} : Has (putS s u p) v ↔ Has s v := setU_has
theorem putS_turn (s : State) (u p : Int) : (putS s u p).turn = s.turn := rfl
theorem putS_weather (s : State) (u p : Int) : (putS s u p).weather = s.weather := rfl
/-- What the code does to the rows of units. -/
theorem put_set {s : State} {u p : Int} : (s.units.map Unit.enc).set u.toNat [.int .i64 (unitAt s u).side, .int .i64 (unitAt s u).kind, .int .i64 p, .int .i64 (unitAt s u).steps] = (putS s u p).units.map Unit.enc := units_set s u (posU (unitAt s u) p)
/-- Attempts are made. -/
def doM (s : State) (l : List Attempt) : State := l.foldl (fun s a => putS s a.unit a.dst) s
theorem doM_snoc (s : State) (l : List Attempt) (a : Attempt) : doM s (l ++ [a]) = putS (doM s l) a.unit a.dst := by unfold doM; rw [List.foldl_append]; rfl
theorem doM_len (s : State) (l : List Attempt) : (doM s l).units.length = s.units.length := by
  induction l generalizing s with
  | nil => rfl
  | cons a l ih => exact (ih _).trans (putS_len ..)
theorem doM_turn (s : State) (l : List Attempt) : (doM s l).turn = s.turn ∧ (doM s l).weather = s.weather := by
  induction l generalizing s with
  | nil => exact ⟨rfl, rfl⟩
  | cons a l ih => exact ih _
theorem c_spec_fDo (s : State) (l : List Attempt) (hl : Len s.units.length) (hls : l.length ≤ 1048576) (ho : ∀ a ∈ l, Has s a.unit) : C n_spec_fDo [StateV false s, AttemptsV false l] = some (StateV true (doM s l)) := by
  refine callC p_spec_fDo rfl ?_
  have h1 : s.units.length ≤ 68719476736 := by unfold Len at hl; omega
  simp [xRun, a_spec_fDo, h1, rowsOf]
  refine list_loop l (by omega) (fun n (_ : Unit) => [(5, .box 0 0 (StateA true (doM s (l.take n)))), (19, I n)]) (fun _ _ => True) default (by simp [doM]) trivial ?_ ?_
  · intro N E n a z ha hlt hm ht hwi _ hN hE
    rw [ht, doM_snoc] at hN
    have hu0 := ho a hm
    have hlen := doM_len s (l.take n)
    generalize doM s (l.take n) = S at *
    have hu : Has S a.unit := by unfold Has at *; rw [hlen]; exact hu0
    have n0 : ¬ a.unit < 0 := by have := hu.1; omega
    have r1 := at_lt (l := S.units) hu.1 hu.2
    have f0 := units_at hu
    have f1 := put_set (s := S) (u := a.unit) (p := a.dst)
    have r0 : a.unit.toNat < (S.units.map Unit.enc).length := by simpa using r1
    simp only [StateA, putS_turn, putS_weather] at hN ⊢
    generalize (putS S a.unit a.dst).units.map Unit.enc = R1 at *
    generalize S.units.map Unit.enc = R at *
    simp only [Unit.enc] at f0
    simp [bodyF, b_spec_fDo_0, hlt, ha, at_of ha, Attempt.enc, n0, r0, f0, at_of f0, f1, hwi]
    exact hN _ z (by simp) trivial
  · intro N E z _ hE
    rw [List.take_length]
    simp [bodyF, b_spec_fDo_0]
    exact hE _ _ fun st => by simp
theorem c_impl_madeAttempts (s : State) (l : List Attempt) (hl : Len s.units.length) (hls : l.length ≤ 1048576) (ho : ∀ a ∈ l, Has s a.unit) : C n_impl_madeAttempts [StateV false s, AttemptsV false l] = some (StateV true (doM s l)) := by
  refine callC p_impl_madeAttempts rfl ?_
  have h1 : s.units.length ≤ 68719476736 := by unfold Len at hl; omega
  have e0 := c_impl_cloneState s hl
  simp [xRun, a_impl_madeAttempts, h1, rowsOf, e0]
  refine list_loop l (by omega) (fun n (_ : Unit) => [(5, .box 0 0 (StateA true (doM s (l.take n)))), (12, I n)]) (fun _ _ => True) default (by simp [doM]) trivial ?_ ?_
  · intro N E n a z ha hlt hm ht hwi _ hN hE
    rw [ht, doM_snoc] at hN
    have hu0 := ho a hm
    have hlen := doM_len s (l.take n)
    generalize doM s (l.take n) = S at *
    have hu : Has S a.unit := by unfold Has at *; rw [hlen]; exact hu0
    have n0 : ¬ a.unit < 0 := by have := hu.1; omega
    have r1 := at_lt (l := S.units) hu.1 hu.2
    have f0 := units_at hu
    have f1 := put_set (s := S) (u := a.unit) (p := a.dst)
    have r0 : a.unit.toNat < (S.units.map Unit.enc).length := by simpa using r1
    simp only [StateA, putS_turn, putS_weather] at hN ⊢
    generalize (putS S a.unit a.dst).units.map Unit.enc = R1 at *
    generalize S.units.map Unit.enc = R at *
    simp only [Unit.enc] at f0
    simp [bodyF, b_impl_madeAttempts_0, hlt, ha, at_of ha, Attempt.enc, n0, r0, f0, at_of f0, f1, hwi]
    exact hN _ z (by simp) trivial
  · intro N E z _ hE
    rw [List.take_length]
    simp [bodyF, b_impl_madeAttempts_0]
    exact hE _ _ fun st => by simp
/-- A unit is put where there is room: the state stays valid. -/
theorem cnt_set {l : List Unit} {k : Nat} {x y : Unit} (h : l[k]? = some x) (i side : Int) : (cnt (l.set k y) i side : Int) = cnt l i side - (if x.pos = i ∧ x.side = side then 1 else 0) + (if y.pos = i ∧ y.side = side then 1 else 0) := by
  induction l generalizing k with
  | nil => cases h
  | cons z l ih =>
    unfold cnt at *
    cases k with
    | zero =>
      simp at h; subst h
      simp only [List.set_cons_zero, List.countP_cons]
      by_cases h1 : z.pos = i <;> by_cases h2 : z.side = side <;> by_cases h3 : y.pos = i <;> by_cases h4 : y.side = side <;> simp [h1, h2, h3, h4] <;> omega
    | succ k =>
      have := ih (k := k) (by simpa using h)
      simp only [List.set_cons_succ, List.countP_cons]
      by_cases h1 : z.pos = i <;> by_cases h2 : z.side = side <;> simp [h1, h2] <;> omega
theorem StateOK.put {b : Board} {s : State} (h : StateOK b s) {u i : Int} (hu : Has s u) (hp : 0 ≤ (unitAt s u).pos) (hi : On b i) (hc : ¬ cost b (unitAt s u).kind i = 0) (hr : RoomM b s (unitAt s u).side i) : StateOK b (putS s u i) := by
  have hx : UnitOK b (unitAt s u) := h.unit _ (at_mem hu.1 hu.2)
  have hat : s.units[u.toNat]? = some (unitAt s u) := at_some hu.1 hu.2
  obtain ⟨hr1, hr2⟩ := hr
  have hxs := hx.side
  have hmem : ∀ v ∈ (putS s u i).units, v ∈ s.units ∨ v = posU (unitAt s u) i := fun v hv => List.mem_or_eq_of_mem_set hv
  have hcnt : ∀ (j side : Int), (cnt (putS s u i).units j side : Int) = cnt s.units j side - (if (unitAt s u).pos = j ∧ (unitAt s u).side = side then 1 else 0) + (if i = j ∧ (unitAt s u).side = side then 1 else 0) := fun j side => cnt_set hat j side
  have hnew : UnitOK b (posU (unitAt s u) i) := ⟨hx.side, hx.kind, hx.steps, .inr ⟨hx.pos.elim (fun hh => by omega) fun hh => hh.1, hi, hc⟩⟩
  generalize unitAt s u = x at *
  have hst := h.board.rules.stack
  refine ⟨h.board, h.turn, h.weather, by rw [putS_len]; exact h.len, fun v hv => ?_, fun v hv hv0 => ?_⟩
  · rcases hmem v hv with hv | rfl
    · exact h.unit v hv
    · exact hnew
  · have hin : cnt (putS s u i).units i (1 - x.side) = 0 ∧ (cnt (putS s u i).units i x.side : Int) ≤ b.rules.stack := by
      have h1 := hcnt i (1 - x.side)
      have h2 := hcnt i x.side
      have h3 : ¬ x.side = 1 - x.side := by omega
      simp only [h3, and_false, if_false] at h1
      simp only [and_true, if_true] at h2
      refine ⟨by omega, ?_⟩
      split at h2 <;> omega
    rcases hmem v hv with hv | rfl
    rotate_left
    · exact hin
    have h4 := h.stack v hv hv0
    have hvs := (h.unit v hv).side
    by_cases h5 : v.pos = i
    · have h6 : v.side = x.side := by
        apply Classical.byContradiction
        intro hne
        have : 0 < cnt s.units i (1 - x.side) := cnt_pos.2 ⟨v, hv, h5, by omega⟩
        omega
      rw [h5, h6]; exact hin
    · have h7 : ¬ i = v.pos := fun hh => h5 hh.symm
      have h1 := hcnt v.pos (1 - v.side)
      have h2 := hcnt v.pos v.side
      simp only [h7, false_and, if_false] at h1 h2
      refine ⟨?_, ?_⟩
      · split at h1 <;> omega
      · split at h2 <;> omega
theorem CanM.cost {b : Board} {s : State} {x : Unit} {i : Int} (h : CanM b s x i) : ¬ cost b x.kind i = 0 := by
  intro hc
  have h1 := (dirTo_next h.1).1
  have h2 := h.2.1
  unfold stepM at h2
  rw [h1, if_pos (.inr hc)] at h2
  omega
end Go.Abs.W
