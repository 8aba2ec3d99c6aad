/- The law ParseSealed, run. -/
import Derived.Test.YtijnjfcblkbdbaaDoorB4
set_option linter.unusedSimpArgs false
set_option linter.unusedVariables false
set_option maxRecDepth 100000
set_option maxHeartbeats 2000000
namespace Go.Abs.W
open Go Go.Abs Classical
attribute [-simp] Bool.decide_and
theorem law_ParseSealed (s : ByteArray) (G : s.size ≤ maxLen) : C n_laws_FnExactParseSealed [St s] = some (Bo true) := by
  refine callC p_laws_FnExactParseSealed rfl ?_
  have hsz : s.size = s.data.toList.length := Array.length_toList.symm
  by_cases h : s.size ≤ 1048576
  rotate_left
  · have h' : (1048576 : Int) < s.size := by omega
    simp [xRun, a_laws_FnExactParseSealed, h']
  have h' : ¬ (1048576 : Int) < s.size := by omega
  have e1 := c_spec_ParseSealed s.data.toList (by omega)
  have e2 := c_impl_ParseSealed s.data.toList (by omega)
  rw [bs_of] at e1 e2
  unfold sealAV at e1 e2
  have e3 := c_laws_eqSealed (sealOf s.data.toList)
  generalize sealOf s.data.toList = x at e1 e2 e3
  generalize decide (IsSealText s.data.toList) = b at e1 e2
  dsimp only [SealedV, Sealed.enc] at e1 e2 e3
  simp [xRun, a_laws_FnExactParseSealed, h', e1, e2, e3]
end Go.Abs.W
