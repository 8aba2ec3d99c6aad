/- The law PutOrder, run. -/
import Derived.Test.YtijnjfcblkbdbaaGreatDoorB1
import Derived.Test.YtijnjfcblkbdbaaGreatDoorB8
import Derived.Test.YtijnjfcblkbdbaaGreatDoorB10
set_option linter.unusedSimpArgs false
set_option linter.unusedVariables false
set_option maxRecDepth 100000
set_option maxHeartbeats 8000000
namespace Go.Abs.W
open Go Go.Abs Classical
attribute [-simp] Bool.decide_and
theorem law_PutOrder (b : Board) (s : State) (x : Sheet) (o : Order) (wb : WideB b) (ws : Wide s.units.length) (wx : WideSheet x) (wo : Wide o.path.length) : C n_laws_FnExactPutOrder [BoardV false b, StateV false s, SheetV false x, OrderV false o] = some (Bo true) := by
  refine callC p_laws_FnExactPutOrder rfl ?_
  have z1 := c_laws_szBoard b _ left0 wb
  by_cases h1 : (1048576 : Int) < (cntB b : Nat)
  · rw [less_yes h1] at z1
    simp [xRun, a_laws_FnExactPutOrder, z1]
  rw [less_no h1] at z1
  have h1' : ¬ (1048576 : Int) - (cntB b : Nat) < 0 := by omega
  have z2 := c_laws_szState s _ (less_left left0 h1) ws
  by_cases h2 : (1048576 : Int) - (cntB b : Nat) < (s.units.length : Nat)
  · rw [less_yes h2] at z2
    simp [xRun, a_laws_FnExactPutOrder, z1, h1', z2]
  rw [less_no h2] at z2
  have h2' : ¬ (1048576 : Int) - (cntB b : Nat) - (s.units.length : Nat) < 0 := by omega
  have z3 := c_laws_szSheet x _ (less_left (less_left left0 h1) h2) wx
  by_cases h3 : (1048576 : Int) - (cntB b : Nat) - (s.units.length : Nat) < (cntSheet x : Nat)
  · rw [less_yes h3] at z3
    simp [xRun, a_laws_FnExactPutOrder, z1, h1', z2, h2', z3]
  rw [less_no h3] at z3
  have h3' : ¬ (1048576 : Int) - (cntB b : Nat) - (s.units.length : Nat) - (cntSheet x : Nat) < 0 := by omega
  have z4 := c_laws_szOrder o _ (less_left (less_left (less_left left0 h1) h2) h3) wo
  by_cases h4 : (1048576 : Int) - (cntB b : Nat) - (s.units.length : Nat) - (cntSheet x : Nat) < (o.path.length : Nat)
  · rw [less_yes h4] at z4
    simp [xRun, a_laws_FnExactPutOrder, z1, h1', z2, h2', z3, h3', z4]
  rw [less_no h4] at z4
  have h4' : ¬ (1048576 : Int) - (cntB b : Nat) - (s.units.length : Nat) - (cntSheet x : Nat) - (o.path.length : Nat) < 0 := by omega
  have gb : LenB b := LenB_of (by omega)
  have gs : Len s.units.length := by unfold Len; omega
  have gx : LenSheet x := LenSheet_of (by omega)
  have go : Len o.path.length := by unfold Len; omega
  have hm0 := marks_le b
  have hm2 := cOrderS_le x.orders
  have hux : cntSheet x = x.orders.length + sumN (fun o : Order => o.path.length) x.orders := rfl
  have e1 := c_spec_PutOrder b s x o gb gs gx go
  have e2 := c_impl_PutOrder b s x o gb gs gx go
  have hlen : LenSheet (putR b s x o) := putR_len gx go
  have hsm := putR_cnt (b := b) (s := s) (x := x) (o := o)
  generalize putR b s x o = R at *
  generalize decide (PutOK b s x o) = sc0 at *
  have m0 := c_laws_markBoard b 1 gb (by unfold Mk; omega)
  obtain ⟨K1, hK1⟩ : ∃ K : Int, K = 1 + ((cR b.rules + cM b.map : Nat) : Int) := ⟨_, rfl⟩
  rw [← hK1] at m0
  have m1 := c_laws_markState s K1 gs (by unfold Mk; omega)
  obtain ⟨K2, hK2⟩ : ∃ K : Int, K = K1 + ((4 * s.units.length : Nat) : Int) := ⟨_, rfl⟩
  rw [← hK2] at m1
  have m2 := c_laws_markSheet x K2 gx.l gx.o (by unfold Mk; omega)
  obtain ⟨K3, hK3⟩ : ∃ K : Int, K = K2 + (cOrderS x.orders : Int) := ⟨_, rfl⟩
  rw [← hK3] at m2
  have m3 := c_laws_markOrder o K3 go (by unfold Mk; omega)
  obtain ⟨K4, hK4⟩ : ∃ K : Int, K = K3 + (o.path.length : Int) := ⟨_, rfl⟩
  rw [← hK4] at m3
  have hmr := cOrderS_le R.orders
  have hur : cntSheet R = R.orders.length + sumN (fun o : Order => o.path.length) R.orders := rfl
  have r1 := c_laws_eqSheet R hlen
  have r2 := c_laws_markSheet R 1 hlen.l hlen.o (by unfold Mk; omega)
  have r3 := c_laws_heldSheet R 1 hlen.l hlen.o (by unfold Mk; omega)
  obtain ⟨M, hM⟩ : ∃ M : Int, M = 1 + (cOrderS R.orders : Int) := ⟨_, rfl⟩
  rw [← hM] at r2 r3
  have n2 : ¬ M < 0 := by omega
  have n1 : ¬ K4 < 0 := by omega
  have b0 := c_laws_toBoard b gb
  have d0 := c_laws_eqBoard b gb
  have b1 := c_laws_toState s gs
  have d1 := c_laws_eqState s gs
  have b2 := c_laws_toSheet x gx
  have d2 := c_laws_eqSheet x gx
  have b3 := c_laws_toOrder o go
  have d3 := c_laws_eqOrder o go
  clear hK1 hK2 hK3 hK4 hM
  simp (config := { maxSteps := 4000000 }) [xRun, a_laws_FnExactPutOrder, z1, h1', z2, h2', z3, h3', z4, h4', e1, e2, m0, m1, m2, m3, r1, r2, r3, n2, n1, b0, d0, b1, d1, b2, d2, b3, d3, mRules, mMap]
end Go.Abs.W
