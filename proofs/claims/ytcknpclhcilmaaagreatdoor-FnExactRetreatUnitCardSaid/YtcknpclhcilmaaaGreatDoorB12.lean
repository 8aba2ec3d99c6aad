import Derived.Test.YtcknpclhcilmaaaGreatDoorB2
import Derived.Test.YtcknpclhcilmaaaGreatDoorB5
import Derived.Test.YtcknpclhcilmaaaGreatDoorB11
set_option linter.unusedSimpArgs false
set_option linter.unusedVariables false
set_option maxRecDepth 100000
set_option maxHeartbeats 2000000
namespace Go.Abs.W
open Go Go.Abs Classical
attribute [-simp] Bool.decide_and
/-- The paths of retreats stay on the map. -/
theorem pathsM_mem (b : Board) (s : State) (u : Int) : ∀ (n : Nat) (i : Int) (p q : List Int), q ∈ pathsM b s u n i p → ∃ t, q = p ++ t ∧ t.length = n ∧ Stays b i t ∧ AllIn t 0 5
  | 0, i, p, q, h => by
    unfold pathsM at h
    split at h
    · simp at h; subst h
      exact ⟨[], by simp, rfl, trivial, fun _ hh => by cases hh⟩
    · cases h
  | n + 1, i, p, q, h => by
    unfold pathsM at h
    rw [List.mem_flatMap] at h
    obtain ⟨d, hd, hq⟩ := h
    split at hq
    · rename_i hg
      obtain ⟨t, h1, h2, h3, h4⟩ := pathsM_mem b s u n _ _ _ hq
      have hdd : 0 ≤ d ∧ d ≤ 5 := by
        obtain ⟨k, hk⟩ := List.mem_iff_getElem?.1 hd
        exact (dirs_at hk).2.1
      refine ⟨d :: t, by rw [h1]; simp, by simp [h2], ⟨hg.1.1, h3⟩, fun x hx => ?_⟩
      rcases List.mem_cons.1 hx with rfl | hx
      · exact hdd
      · exact h4 x hx
    · cases hq
/-- A unit retreats: where to. -/
noncomputable def retreatM (b : Board) (s : State) (u : Int) (n : Nat) : State := match pathsM b s u n (unitAt s u).pos [] with
  | [] => loseS s u 1
  | p :: _ => putS s u (posL b.map (unitAt s u).pos p)
noncomputable def wentM (b : Board) (s : State) (u : Int) (n : Nat) : Bool := match pathsM b s u n (unitAt s u).pos [] with
  | [] => false
  | _ :: _ => true
theorem retreatM_len (b : Board) (s : State) (u : Int) (n : Nat) : (retreatM b s u n).units.length = s.units.length := by
  unfold retreatM
  split
  · exact loseS_len ..
  · exact putS_len ..
noncomputable abbrev RetRes (b : Board) (s : State) (u : Int) (n : Nat) : AV := .tup [some (.agg (StateA true (retreatM b s u n))), some (.one (.bool (wentM b s u n)))]
theorem c_spec_gRetreat (b : Board) (s : State) (u : Int) (n : Nat) (hl : LenB b) (h : StateOK b s) (hu : Has s u) (hp : 0 ≤ (unitAt s u).pos) (hn : 1 ≤ n ∧ n ≤ 3) :
    C n_spec_gRetreat [BoardV false b, StateV false s, I u, I n] = some (RetRes b s u n) := by
  refine callC p_spec_gRetreat rfl ?_
  have hs12 := h.lens
  have e0 := c_spec_fDo_nil s (by unfold Len; omega)
  have e1 := c_spec_gAll b s u n hl h hu hp hn.2
  have n0 : ¬ u < 0 := by have := hu.1; omega
  have hx : UnitOK b (unitAt s u) := h.unit _ (at_mem hu.1 hu.2)
  have hon := hx.on hp
  have hfew := h.few.at hu
  have e2 := c_spec_sLose s u 1 hu (by omega) (by omega)
  have hmem := pathsM_mem b s u n (unitAt s u).pos []
  have hle := pathsM_le b s u n (unitAt s u).pos []
  have hpw := pow6 hn.2
  simp only [RetRes]
  unfold retreatM wentM
  generalize pathsM b s u n (unitAt s u).pos [] = L at *
  cases L with
  | nil =>
    simp only [rows_nil] at e1
    simp [xRun, a_spec_gRetreat, e0, e1, e2]
  | cons p L =>
    obtain ⟨t, htp, ht1, ht2, ht3⟩ := hmem p (List.mem_cons_self ..)
    obtain rfl : t = p := by simpa using htp.symm
    simp only [List.nil_append] at *
    have hlen : (rowsOfL false (t :: L)).length = L.length + 1 := by simp [rowsOfL]
    have hrow : (rowsOfL false (t :: L))[0]? = some [D.list false 1 (ints t)] := rfl
    have hrow2 : ∀ h : 0 < (rowsOfL false (t :: L)).length, (rowsOfL false (t :: L))[0]'h = [D.list false 1 (ints t)] := fun _ => rfl
    have hst := stale_rows (t :: L) true
    generalize rowsOfL true (t :: L) = RT at *
    generalize rowsOfL false (t :: L) = RF at *
    have hl0 : ¬ ((L.length : Int) + 1 = 0) := by omega
    simp [xRun, a_spec_gRetreat, e0, e1, hst, hlen, hrow, hrow2, hl0, ints_length]
    refine list_loop t (by omega) (fun k (_ : Unit) => [(10, .box 0 0 (StateA true (putS s u (posL b.map (unitAt s u).pos (t.take k))))), (32, I k)]) (fun _ _ => True) default (by simp [posL_nil, putS_same hu]) trivial ?_ ?_
    · intro N E k d z hd hlt hm htk hwi _ hN hE
      have hon2 := (ht2.take k).on h.board hon
      rw [htk, posL_snoc] at hN
      generalize posL b.map (unitAt s u).pos (t.take k) = P at *
      have e3 := c_spec_mNext b.map P d h.board.map.dim (hon2.ix h.board) (ht3 d hm)
      have hv : Has (putS s u P) u := putS_has.2 hu
      have hat : unitAt (putS s u P) u = posU (unitAt s u) P := by unfold putS; rw [unitAt_set hu hu, if_pos rfl]
      have f0 := units_at hv
      have f1 := put_set (s := putS s u P) (u := u) (p := nextM b.map P d)
      rw [putS_putS hu] at f1
      rw [hat] at f0 f1
      have r0 : u.toNat < ((putS s u P).units.map Unit.enc).length := by simpa using at_lt (l := (putS s u P).units) hv.1 hv.2
      simp only [StateA, putS_turn, putS_weather] at hN ⊢
      generalize (putS s u (nextM b.map P d)).units.map Unit.enc = R1 at *
      generalize (putS s u P).units.map Unit.enc = R at *
      simp only [Unit.enc, posU] at f0 f1
      simp [bodyF, b_spec_gRetreat_0, hlt, ints_length, ints_get hd, ints_at hd, n0, r0, f0, at_of f0, e3, f1, hwi]
      exact hN _ z (by simp) trivial
    · intro N E z _ hE
      rw [List.take_length]
      simp [bodyF, b_spec_gRetreat_0, ints_length]
      exact hE _ _ fun st => by simp
theorem c_impl_retreatUnit (b : Board) (s : State) (u : Int) (n : Nat) (hl : LenB b) (h : StateOK b s) (hu : Has s u) (hp : 0 ≤ (unitAt s u).pos) (hn : 1 ≤ n ∧ n ≤ 3) :
    C n_impl_retreatUnit [BoardV false b, StateV false s, I u, I n] = some (RetRes b s u n) := by
  refine callC p_impl_retreatUnit rfl ?_
  have hs12 := h.lens
  have e0 := c_impl_cloneState s (by unfold Len; omega)
  have e1 := c_impl_retreatsOf b s u n hl h hu hp hn.2
  have n0 : ¬ u < 0 := by have := hu.1; omega
  have hx : UnitOK b (unitAt s u) := h.unit _ (at_mem hu.1 hu.2)
  have hon := hx.on hp
  have hfew := h.few.at hu
  have e2 := c_impl_loseSteps s u 1 hu (by omega) (by omega)
  have hmem := pathsM_mem b s u n (unitAt s u).pos []
  simp only [RetRes]
  unfold retreatM wentM
  generalize pathsM b s u n (unitAt s u).pos [] = L at *
  cases L with
  | nil =>
    simp only [rows_nil] at e1
    simp [xRun, a_impl_retreatUnit, e0, e1, e2]
  | cons p L =>
    obtain ⟨t, htp, ht1, ht2, ht3⟩ := hmem p (List.mem_cons_self ..)
    obtain rfl : t = p := by simpa using htp.symm
    simp only [List.nil_append] at *
    have hlen : (rowsOfL false (t :: L)).length = L.length + 1 := by simp [rowsOfL]
    have hrow : (rowsOfL false (t :: L))[0]? = some [D.list false 1 (ints t)] := rfl
    have hrow2 : ∀ h : 0 < (rowsOfL false (t :: L)).length, (rowsOfL false (t :: L))[0]'h = [D.list false 1 (ints t)] := fun _ => rfl
    have hst := stale_rows (t :: L) true
    generalize rowsOfL true (t :: L) = RT at *
    generalize rowsOfL false (t :: L) = RF at *
    have hl0 : ¬ ((L.length : Int) + 1 = 0) := by omega
    have hpo : PathOK t := ⟨by omega, ht3⟩
    have e3 := c_impl_pathHexes b (unitAt s u).pos t h.board hon hpo ht2
    obtain ⟨q, d, rfl⟩ : ∃ q d, t = q ++ [d] := by
      rcases List.eq_nil_or_concat t with h0 | ⟨q, d, h0⟩
      · rw [h0] at ht1; simp at ht1; omega
      · exact ⟨q, d, by rw [h0, List.concat_eq_append]⟩
    rw [hexesL_snoc] at e3
    have hql : (hexesL b.map (unitAt s u).pos q).length + 1 ≤ 9 := by rw [hexesL_length]; simp at ht1; omega
    generalize posL b.map (unitAt s u).pos (q ++ [d]) = e at *
    generalize hexesL b.map (unitAt s u).pos q = H at *
    have w1 : IntKind.i64.wrap (H.length : Int) = (H.length : Int) := wrap_small (by omega) (by omega)
    have hg : (H ++ [e])[H.length]? = some e := by simp
    have hlt : (H.length : Int) < (H.length : Int) + 1 := by omega
    have f0 := units_at hu
    have f1 := put_set (s := s) (u := u) (p := e)
    have r1 := at_lt (l := s.units) hu.1 hu.2
    have r0 : u.toNat < (s.units.map Unit.enc).length := by simpa using r1
    simp only [StateA, StateV, putS_turn, putS_weather] at e0 e1 ⊢
    generalize (putS s u e).units.map Unit.enc = R1 at *
    generalize s.units.map Unit.enc = R at *
    simp only [Unit.enc] at f0 f1
    simp [xRun, a_impl_retreatUnit, e0, e1, hst, hlen, hrow, hrow2, hl0, n0, r0, f0, at_of f0, e3, ints_length, w1, hlt, ints_get hg, ints_at hg, f1]
/-- The first of the paths of retreats. -/
noncomputable def firstP (b : Board) (s : State) (u n : Int) : List Int := if AskOK b s u n then (pathsM b s u n.toNat (unitAt s u).pos []).headD [] else []
def GotP (b : Board) (s : State) (u n : Int) : Prop := AskOK b s u n ∧ ¬ pathsM b s u n.toNat (unitAt s u).pos [] = []
end Go.Abs.W
