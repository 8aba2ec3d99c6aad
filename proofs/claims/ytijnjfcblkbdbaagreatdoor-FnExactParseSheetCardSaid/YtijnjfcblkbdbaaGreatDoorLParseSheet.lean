/- The law ParseSheet, run. -/
import Derived.Test.YtijnjfcblkbdbaaGreatDoorB1
import Derived.Test.YtijnjfcblkbdbaaGreatDoorB10
import Derived.Test.YtijnjfcblkbdbaaGreatDoorB14
set_option linter.unusedSimpArgs false
set_option linter.unusedVariables false
set_option maxRecDepth 100000
set_option maxHeartbeats 8000000
namespace Go.Abs.W
open Go Go.Abs Classical
attribute [-simp] Bool.decide_and
theorem law_ParseSheet (b : Board) (s : State) (t : ByteArray) (wb : WideB b) (ws : Wide s.units.length) (G : t.size ≤ maxLen) : C n_laws_FnExactParseSheet [BoardV false b, StateV false s, St t] = some (Bo true) := by
  refine callC p_laws_FnExactParseSheet rfl ?_
  have hsz : t.size = t.data.toList.length := Array.length_toList.symm
  by_cases h : t.size ≤ 1048576
  rotate_left
  · have h' : (1048576 : Int) < t.size := by omega
    simp [xRun, a_laws_FnExactParseSheet, h']
  have h' : ¬ (1048576 : Int) < t.size := by omega
  have ht : t.data.toList.length ≤ 1048576 := by omega
  have z1 := c_laws_szBoard b _ left0 wb
  by_cases h1 : (1048576 : Int) < (cntB b : Nat)
  · rw [less_yes h1] at z1
    simp [xRun, a_laws_FnExactParseSheet, h', z1]
  rw [less_no h1] at z1
  have h1' : ¬ (1048576 : Int) - (cntB b : Nat) < 0 := by omega
  have z2 := c_laws_szState s _ (less_left left0 h1) ws
  by_cases h2 : (1048576 : Int) - (cntB b : Nat) < (s.units.length : Nat)
  · rw [less_yes h2] at z2
    simp [xRun, a_laws_FnExactParseSheet, h', z1, h1', z2]
  rw [less_no h2] at z2
  have h2' : ¬ (1048576 : Int) - (cntB b : Nat) - (s.units.length : Nat) < 0 := by omega
  have gb : LenB b := LenB_of (by omega)
  have gs : Len s.units.length := by unfold Len; omega
  have hm0 := marks_le b
  have e1 := c_spec_ParseSheet b s t.data.toList gb gs ht
  have e2 := c_impl_ParseSheet b s t.data.toList gb gs ht
  rw [bs_of] at e1 e2
  have hsm := parR_cnt (b := b) (s := s) (l := t.data.toList)
  have hlen : LenSheet (parR b s t.data.toList) := parR_len (b := b) (s := s) ht
  generalize parR b s t.data.toList = R at *
  generalize decide (ParOK b s t.data.toList) = sc0 at *
  have m0 := c_laws_markBoard b 1 gb (by unfold Mk; omega)
  obtain ⟨K1, hK1⟩ : ∃ K : Int, K = 1 + ((cR b.rules + cM b.map : Nat) : Int) := ⟨_, rfl⟩
  rw [← hK1] at m0
  have m1 := c_laws_markState s K1 gs (by unfold Mk; omega)
  obtain ⟨K2, hK2⟩ : ∃ K : Int, K = K1 + ((4 * s.units.length : Nat) : Int) := ⟨_, rfl⟩
  rw [← hK2] at m1
  have hmr := cOrderS_le R.orders
  have hur : cntSheet R = R.orders.length + sumN (fun o : Order => o.path.length) R.orders := rfl
  have r1 := c_laws_eqSheet R hlen
  have r2 := c_laws_markSheet R 1 hlen.l hlen.o (by unfold Mk; omega)
  have r3 := c_laws_heldSheet R 1 hlen.l hlen.o (by unfold Mk; omega)
  obtain ⟨M, hM⟩ : ∃ M : Int, M = 1 + (cOrderS R.orders : Int) := ⟨_, rfl⟩
  rw [← hM] at r2 r3
  have n2 : ¬ M < 0 := by omega
  have n1 : ¬ K2 < 0 := by omega
  have b0 := c_laws_toBoard b gb
  have d0 := c_laws_eqBoard b gb
  have b1 := c_laws_toState s gs
  have d1 := c_laws_eqState s gs
  clear hK1 hK2 hM
  simp (config := { maxSteps := 4000000 }) [xRun, a_laws_FnExactParseSheet, h', z1, h1', z2, h2', e1, e2, m0, m1, r1, r2, r3, n2, n1, b0, d0, b1, d1, mRules, mMap]
end Go.Abs.W
