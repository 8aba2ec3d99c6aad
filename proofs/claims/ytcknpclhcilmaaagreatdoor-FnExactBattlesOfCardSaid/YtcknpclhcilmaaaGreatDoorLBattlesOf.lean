/- The law BattlesOf, run. -/
import Derived.Test.YtcknpclhcilmaaaGreatDoorB3
import Derived.Test.YtcknpclhcilmaaaGreatDoorB10
import Derived.Test.YtcknpclhcilmaaaGreatDoorB20
set_option linter.unusedSimpArgs false
set_option linter.unusedVariables false
set_option maxRecDepth 100000
set_option maxHeartbeats 8000000
namespace Go.Abs.W
open Go Go.Abs Classical
attribute [-simp] Bool.decide_and
@[simp] theorem stale_battles3 (l : List Battle) : staleLL (l.map (Battle.enc3 true)) = l.map (Battle.enc3 false) := by
  induction l with
  | nil => rfl
  | cons x l ih => simp [staleLL, staleL, D.stale, ih, Battle.enc3]
@[simp] theorem safe_battles3 (l : List Battle) : safeLL (l.map (Battle.enc3 true)) = true := by
  induction l with
  | nil => rfl
  | cons x l ih => simp [safeLL, safeL, D.safe, ih, Battle.enc3]
def LenBs (R : List Battle) : Prop := Len R.length ∧ ∀ t ∈ R, Len t.attackers.length ∧ Len t.defenders.length
theorem c_laws_eqBattleS (R : List Battle) (hl : LenBs R) : C n_laws_eqBattleS [Rows false 3 (R.map (Battle.enc3 false)), Rows false 3 (R.map (Battle.enc3 false))] = some (Bo true) := by
  refine callC p_laws_eqBattleS rfl ?_
  have hl1 := hl.1
  unfold Len at hl1
  simp [xRun, a_laws_eqBattleS]
  refine list_loop R (by omega) (fun i (_ : Unit) => [(5, I i)]) (fun _ _ => True) default (by simp) trivial ?_ ?_
  · intro N E i a z ha hi hm ht hwi _ hN hE
    have e := c_laws_eqBattle a ⟨(hl.2 a hm).1, (hl.2 a hm).2⟩
    simp [bodyF, b_laws_eqBattleS_0, hi, ha, at_of ha, hwi, Battle.enc3, e]
    exact hN _ z (by simp) trivial
  · intro N E z _ hE
    simp [bodyF, b_laws_eqBattleS_0]
    exact hE _ _ fun st => by simp
def BatOK (b : Board) (s : State) (l : List Attack) : Prop := StateOK b s ∧ (l.length : Int) ≤ 24
noncomputable def bsR (b : Board) (s : State) (l : List Attack) : List Battle := if BatOK b s l then battlesU b s l b.map.terrain.length else []
theorem battlesU_mem {b : Board} {s : State} (l : List Attack) (n : Nat) : ∀ t ∈ battlesU b s l n, t.attackers.length ≤ s.units.length ∧ t.defenders.length ≤ s.units.length := by
  induction n with
  | zero => simp [battlesU]
  | succ n ih =>
    intro t ht
    unfold battlesU at ht
    split at ht
    · exact ih t ht
    · rcases List.mem_append.1 ht with ht | ht
      · exact ih t ht
      · simp at ht; subst ht
        exact ⟨attU_le .., ixs_length_le (fun u : Unit => u.pos = (n : Int)) s.units⟩
theorem bsR_len {b : Board} {s : State} {l : List Attack} : LenBs (bsR b s l) := by
  unfold bsR
  split
  · rename_i h
    have h1 := battlesU_le b s l b.map.terrain.length
    have h2 := h.1.board.size_le
    have h3 : (b.map.terrain.length : Int) = size b := rfl
    have h4 := h.1.lens
    refine ⟨by unfold Len; omega, fun t ht => ?_⟩
    have := battlesU_mem l _ t ht
    unfold Len; omega
  · exact ⟨by unfold Len; simp, by simp⟩
theorem bsR_small {b : Board} {s : State} {l : List Attack} : cBattleS (bsR b s l) ≤ 1000000 := by
  have key : ∀ (R : List Battle), (∀ t ∈ R, t.attackers.length ≤ 12 ∧ t.defenders.length ≤ 12) → cBattleS R ≤ 25 * R.length := by
    intro R hR
    induction R with
    | nil => simp [cBattleS]
    | cons t R ih =>
      have h1 : cBattleS (t :: R) = szBattleS t + cBattleS R := by simp [cBattleS]
      have h2 := ih fun x hx => hR x (List.mem_cons_of_mem _ hx)
      have h3 := hR t (List.mem_cons_self ..)
      have h4 : szBattleS t = 1 + t.attackers.length + t.defenders.length := rfl
      rw [h1, h4, List.length_cons]; omega
  unfold bsR
  split
  · rename_i h
    have h1 := battlesU_le b s l b.map.terrain.length
    have h2 := h.1.board.size_le
    have h3 : (b.map.terrain.length : Int) = size b := rfl
    have h4 := h.1.lens
    have := key (battlesU b s l b.map.terrain.length) fun t ht => by have := battlesU_mem l _ t ht; omega
    omega
  · simp [cBattleS]
theorem c_spec_BattlesOf (b : Board) (s : State) (l : List Attack) (gb : LenB b) (gs : Len s.units.length) (gl : Len l.length) : C n_spec_BattlesOf [BoardV false b, StateV false s, AttacksV false l] = some (.tup [some (.one (.list true 3 ((bsR b s l).map (Battle.enc3 true)))), some (.one (.bool (decide (BatOK b s l))))]) := by
  refine callC p_spec_BattlesOf rfl ?_
  have e1 := c_spec_sGood b s gb gs
  unfold bsR
  by_cases h : StateOK b s
  · by_cases h2 : (24 : Int) < l.length
    · have hP : ¬ BatOK b s l := fun hh => by have := hh.2; omega
      simp [xRun, a_spec_BattlesOf, e1, h, h2, hP]
    · have hP : BatOK b s l := ⟨h, by omega⟩
      have e2 := c_spec_aBattles b s l gb h (by omega)
      rw [battles_same h] at e2
      simp [xRun, a_spec_BattlesOf, e1, h, h2, hP, e2]
  · have hP : ¬ BatOK b s l := fun hh => h hh.1
    simp [xRun, a_spec_BattlesOf, e1, h, hP]
theorem c_impl_BattlesOf (b : Board) (s : State) (l : List Attack) (gb : LenB b) (gs : Len s.units.length) (gl : Len l.length) : C n_impl_BattlesOf [BoardV false b, StateV false s, AttacksV false l] = some (.tup [some (.one (.list true 3 ((bsR b s l).map (Battle.enc3 true)))), some (.one (.bool (decide (BatOK b s l))))]) := by
  refine callC p_impl_BattlesOf rfl ?_
  have e1 := c_impl_fits b s gb gs
  unfold bsR
  by_cases h : StateOK b s
  · by_cases h2 : (24 : Int) < l.length
    · have hP : ¬ BatOK b s l := fun hh => by have := hh.2; omega
      simp [xRun, a_impl_BattlesOf, e1, h, h2, hP]
    · have hP : BatOK b s l := ⟨h, by omega⟩
      have e2 := c_impl_battlesOf b s l gb h (by omega)
      simp [xRun, a_impl_BattlesOf, e1, h, h2, hP, e2]
  · have hP : ¬ BatOK b s l := fun hh => h hh.1
    simp [xRun, a_impl_BattlesOf, e1, h, hP]
theorem law_BattlesOf (b : Board) (s : State) (l : List Attack) (wb : WideB b) (ws : Wide s.units.length) (wl : Wide l.length) : C n_laws_FnExactBattlesOf [BoardV false b, StateV false s, AttacksV false l] = some (Bo true) := by
  refine callC p_laws_FnExactBattlesOf rfl ?_
  have z1 := c_laws_szBoard b _ left0 wb
  by_cases h1 : (1048576 : Int) < (cntB b : Nat)
  · rw [less_yes h1] at z1
    simp [xRun, a_laws_FnExactBattlesOf, z1]
  rw [less_no h1] at z1
  have h1' : ¬ (1048576 : Int) - (cntB b : Nat) < 0 := by omega
  have z2 := c_laws_szState s _ (less_left left0 h1) ws
  by_cases h2 : (1048576 : Int) - (cntB b : Nat) < (s.units.length : Nat)
  · rw [less_yes h2] at z2
    simp [xRun, a_laws_FnExactBattlesOf, z1, h1', z2]
  rw [less_no h2] at z2
  have h2' : ¬ (1048576 : Int) - (cntB b : Nat) - (s.units.length : Nat) < 0 := by omega
  have z3 := c_laws_szAttackS l _ (less_left (less_left left0 h1) h2) wl
  by_cases h3 : (1048576 : Int) - (cntB b : Nat) - (s.units.length : Nat) < (l.length : Nat)
  · rw [less_yes h3] at z3
    simp [xRun, a_laws_FnExactBattlesOf, z1, h1', z2, h2', z3]
  rw [less_no h3] at z3
  have h3' : ¬ (1048576 : Int) - (cntB b : Nat) - (s.units.length : Nat) - (l.length : Nat) < 0 := by omega
  have gb : LenB b := LenB_of (by omega)
  have gs : Len s.units.length := by unfold Len; omega
  have gl : Len l.length := by unfold Len; omega
  have hm0 := marks_le b
  have e1 := c_spec_BattlesOf b s l gb gs gl
  have e2 := c_impl_BattlesOf b s l gb gs gl
  have hlen : LenBs (bsR b s l) := bsR_len
  have hsm : cBattleS (bsR b s l) ≤ 1000000 := bsR_small
  generalize bsR b s l = R at *
  generalize decide (BatOK b s l) = sc0 at *
  have m0 := c_laws_markBoard b 1 gb (by unfold Mk; omega)
  obtain ⟨K1, hK1⟩ : ∃ K : Int, K = 1 + ((cR b.rules + cM b.map : Nat) : Int) := ⟨_, rfl⟩
  rw [← hK1] at m0
  have m1 := c_laws_markState s K1 gs (by unfold Mk; omega)
  obtain ⟨K2, hK2⟩ : ∃ K : Int, K = K1 + ((4 * s.units.length : Nat) : Int) := ⟨_, rfl⟩
  rw [← hK2] at m1
  have m2 := c_laws_markAttackS l K2 gl (by unfold Mk; omega)
  obtain ⟨K3, hK3⟩ : ∃ K : Int, K = K2 + ((2 * l.length : Nat) : Int) := ⟨_, rfl⟩
  rw [← hK3] at m2
  have r1 := c_laws_eqBattleS R hlen
  have r2 := c_laws_markBattleS R 1 hlen.1 hlen.2 (by unfold Mk; omega)
  have r3 := c_laws_heldBattleS R 1 hlen.1 hlen.2 (by unfold Mk; omega)
  obtain ⟨M, hM⟩ : ∃ M : Int, M = 1 + (cBattleS R : Int) := ⟨_, rfl⟩
  rw [← hM] at r2 r3
  have n2 : ¬ M < 0 := by omega
  have n1 : ¬ K3 < 0 := by omega
  have b0 := c_laws_toBoard b gb
  have d0 := c_laws_eqBoard b gb
  have b1 := c_laws_toState s gs
  have d1 := c_laws_eqState s gs
  have b2 := c_laws_toAttackS l gl
  have d2 := c_laws_eqAttackS l gl
  clear hK1 hK2 hK3 hM
  simp (config := { maxSteps := 4000000 }) [xRun, a_laws_FnExactBattlesOf, z1, h1', z2, h2', z3, h3', e1, e2, m0, m1, m2, r1, r2, r3, n2, n1, b0, d0, b1, d1, b2, d2, mRules, mMap]
end Go.Abs.W
