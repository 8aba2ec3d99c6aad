/- The law OrderOf, run. -/
import Derived.Test.YtcknpclhcilmaabB10
import Derived.Test.YtcknpclhcilmaabB14
set_option linter.unusedSimpArgs false
set_option linter.unusedVariables false
set_option maxRecDepth 100000
set_option maxHeartbeats 8000000
namespace Go.Abs.W
open Go Go.Abs Classical
attribute [-simp] Bool.decide_and
theorem law_OrderOf (x : Sheet) (u : Int) (wx : WideSheet x) : C n_laws_FnExactOrderOf [SheetV false x, I u] = some (Bo true) := by
  refine callC p_laws_FnExactOrderOf rfl ?_
  have z1 := c_laws_szSheet x _ left0 wx
  by_cases h1 : (1048576 : Int) < (cntSheet x : Nat)
  · rw [less_yes h1] at z1
    simp [xRun, a_laws_FnExactOrderOf, z1]
  rw [less_no h1] at z1
  have h1' : ¬ (1048576 : Int) - (cntSheet x : Nat) < 0 := by omega
  have gx : LenSheet x := LenSheet_of (by omega)
  have hm0 := cOrderS_le x.orders
  have hux : cntSheet x = x.orders.length + sumN (fun o : Order => o.path.length) x.orders := rfl
  have e1 := c_spec_OrderOf x u gx
  have e2 := c_impl_OrderOf x u gx
  have hlen : Len (ordR x.orders u).path.length := ordR_len gx
  generalize ordR x.orders u = R at *
  generalize decide (HasO x.orders u) = sc0 at *
  have m0 := c_laws_markSheet x 1 gx.l gx.o (by unfold Mk; omega)
  obtain ⟨K1, hK1⟩ : ∃ K : Int, K = 1 + (cOrderS x.orders : Int) := ⟨_, rfl⟩
  rw [← hK1] at m0
  have hlen2 := hlen
  unfold Len at hlen2
  have r1 := c_laws_eqOrder R hlen
  have r2 := c_laws_markOrder R 1 hlen (by unfold Mk; omega)
  have r3 := c_laws_heldOrder R.unit R.attack 1 R.path.length hlen (by unfold Mk; omega)
  obtain ⟨M, hM⟩ : ∃ M : Int, M = 1 + (R.path.length : Int) := ⟨_, rfl⟩
  rw [← hM] at r2 r3
  have n2 : ¬ M < 0 := by omega
  have n1 : ¬ K1 < 0 := by omega
  have b0 := c_laws_toSheet x gx
  have d0 := c_laws_eqSheet x gx
  dsimp only [OrderV, Order.enc] at e1 e2 r1 r2 r3
  clear hK1 hM
  simp (config := { maxSteps := 4000000 }) [xRun, a_laws_FnExactOrderOf, z1, h1', e1, e2, m0, r1, r2, r3, n2, n1, b0, d0, Order.enc]
end Go.Abs.W
