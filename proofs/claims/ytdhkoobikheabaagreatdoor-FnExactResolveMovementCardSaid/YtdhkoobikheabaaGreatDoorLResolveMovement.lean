/- The law ResolveMovement, run. -/
import Derived.Test.YtdhkoobikheabaaGreatDoorB2
import Derived.Test.YtdhkoobikheabaaGreatDoorB10
import Derived.Test.YtdhkoobikheabaaGreatDoorB15
set_option linter.unusedSimpArgs false
set_option linter.unusedVariables false
set_option maxRecDepth 100000
set_option maxHeartbeats 8000000
namespace Go.Abs.W
open Go Go.Abs Classical
attribute [-simp] Bool.decide_and
theorem law_ResolveMovement (b : Board) (s : State) (x : Sheet) (y : Sheet) (wb : WideB b) (ws : Wide s.units.length) (wx : WideSheet x) (wy : WideSheet y) : C n_laws_FnExactResolveMovement [BoardV false b, StateV false s, SheetV false x, SheetV false y] = some (Bo true) := by
  refine callC p_laws_FnExactResolveMovement rfl ?_
  have z1 := c_laws_szBoard b _ left0 wb
  by_cases h1 : (1048576 : Int) < (cntB b : Nat)
  · rw [less_yes h1] at z1
    simp [xRun, a_laws_FnExactResolveMovement, z1]
  rw [less_no h1] at z1
  have h1' : ¬ (1048576 : Int) - (cntB b : Nat) < 0 := by omega
  have z2 := c_laws_szState s _ (less_left left0 h1) ws
  by_cases h2 : (1048576 : Int) - (cntB b : Nat) < (s.units.length : Nat)
  · rw [less_yes h2] at z2
    simp [xRun, a_laws_FnExactResolveMovement, z1, h1', z2]
  rw [less_no h2] at z2
  have h2' : ¬ (1048576 : Int) - (cntB b : Nat) - (s.units.length : Nat) < 0 := by omega
  have z3 := c_laws_szSheet x _ (less_left (less_left left0 h1) h2) wx
  by_cases h3 : (1048576 : Int) - (cntB b : Nat) - (s.units.length : Nat) < (cntSheet x : Nat)
  · rw [less_yes h3] at z3
    simp [xRun, a_laws_FnExactResolveMovement, z1, h1', z2, h2', z3]
  rw [less_no h3] at z3
  have h3' : ¬ (1048576 : Int) - (cntB b : Nat) - (s.units.length : Nat) - (cntSheet x : Nat) < 0 := by omega
  have z4 := c_laws_szSheet y _ (less_left (less_left (less_left left0 h1) h2) h3) wy
  by_cases h4 : (1048576 : Int) - (cntB b : Nat) - (s.units.length : Nat) - (cntSheet x : Nat) < (cntSheet y : Nat)
  · rw [less_yes h4] at z4
    simp [xRun, a_laws_FnExactResolveMovement, z1, h1', z2, h2', z3, h3', z4]
  rw [less_no h4] at z4
  have h4' : ¬ (1048576 : Int) - (cntB b : Nat) - (s.units.length : Nat) - (cntSheet x : Nat) - (cntSheet y : Nat) < 0 := by omega
  have gb : LenB b := LenB_of (by omega)
  have gs : Len s.units.length := by unfold Len; omega
  have gx : LenSheet x := LenSheet_of (by omega)
  have gy : LenSheet y := LenSheet_of (by omega)
  have hm0 := marks_le b
  have hm2 := cOrderS_le x.orders
  have hm3 := cOrderS_le y.orders
  have hux : cntSheet x = x.orders.length + sumN (fun o : Order => o.path.length) x.orders := rfl
  have huy : cntSheet y = y.orders.length + sumN (fun o : Order => o.path.length) y.orders := rfl
  have e1 := c_spec_ResolveMovement b s x y gb gs gx gy
  have e2 := c_impl_ResolveMovement b s x y gb gs gx gy
  have hlen : Len (movS b s x y).units.length := movS_len gs
  have hq := movL_len (b := b) (s := s) (x := x) (y := y)
  generalize movS b s x y = R at *
  generalize movL b s x y = Q at *
  generalize decide (TwoOK b s x y) = sc0 at *
  have m0 := c_laws_markBoard b 1 gb (by unfold Mk; omega)
  obtain ⟨K1, hK1⟩ : ∃ K : Int, K = 1 + ((cR b.rules + cM b.map : Nat) : Int) := ⟨_, rfl⟩
  rw [← hK1] at m0
  have m1 := c_laws_markState s K1 gs (by unfold Mk; omega)
  obtain ⟨K2, hK2⟩ : ∃ K : Int, K = K1 + ((4 * s.units.length : Nat) : Int) := ⟨_, rfl⟩
  rw [← hK2] at m1
  have m2 := c_laws_markSheet x K2 gx.l gx.o (by unfold Mk; omega)
  obtain ⟨K3, hK3⟩ : ∃ K : Int, K = K2 + (cOrderS x.orders : Int) := ⟨_, rfl⟩
  rw [← hK3] at m2
  have m3 := c_laws_markSheet y K3 gy.l gy.o (by unfold Mk; omega)
  obtain ⟨K4, hK4⟩ : ∃ K : Int, K = K3 + (cOrderS y.orders : Int) := ⟨_, rfl⟩
  rw [← hK4] at m3
  have hlen2 := hlen
  unfold Len at hlen2
  have r1 := c_laws_eqState R hlen
  have r2 := c_laws_markState R 1 hlen (by unfold Mk; omega)
  have r3 := c_laws_heldState R 1 hlen (by unfold Mk; omega)
  obtain ⟨M, hM⟩ : ∃ M : Int, M = 1 + ((4 * R.units.length : Nat) : Int) := ⟨_, rfl⟩
  rw [← hM] at r2 r3
  have hlenQ : Len Q.length := by unfold Len; omega
  have r4 := c_laws_eqMovedS Q hlenQ
  have r5 := c_laws_markMovedS Q M hlenQ (by unfold Mk; omega)
  have r6 := c_laws_heldMovedS M Q.length hlenQ (by unfold Mk; omega)
  obtain ⟨M2, hM2⟩ : ∃ K : Int, K = M + ((3 * Q.length : Nat) : Int) := ⟨_, rfl⟩
  rw [← hM2] at r5 r6
  have n3 : ¬ M2 < 0 := by omega
  have n2 : ¬ M < 0 := by omega
  have n1 : ¬ K4 < 0 := by omega
  have b0 := c_laws_toBoard b gb
  have d0 := c_laws_eqBoard b gb
  have b1 := c_laws_toState s gs
  have d1 := c_laws_eqState s gs
  have b2 := c_laws_toSheet x gx
  have d2 := c_laws_eqSheet x gx
  have b3 := c_laws_toSheet y gy
  have d3 := c_laws_eqSheet y gy
  clear hK1 hK2 hK3 hK4 hM2 hM
  simp (config := { maxSteps := 4000000 }) [xRun, a_laws_FnExactResolveMovement, z1, h1', z2, h2', z3, h3', z4, h4', e1, e2, m0, m1, m2, m3, r1, r2, r3, r4, r5, r6, n3, n2, n1, b0, d0, b1, d1, b2, d2, b3, d3, mRules, mMap]
end Go.Abs.W
