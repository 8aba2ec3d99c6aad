/- The law SealedText, run. -/
import Derived.Test.YtijnjfcblkbdbaaDoorB2
set_option linter.unusedSimpArgs false
set_option linter.unusedVariables false
set_option maxRecDepth 100000
set_option maxHeartbeats 2000000
namespace Go.Abs.W
open Go Go.Abs Classical
attribute [-simp] Bool.decide_and
theorem law_SealedText (x : Sealed) (G : True) : C n_laws_FnExactSealedText [SealedV x] = some (Bo true) := by
  refine callC p_laws_FnExactSealedText rfl ?_
  have e1 := c_laws_toSealed x
  have e2 := c_spec_SealedText x
  have e3 := c_impl_SealedText x
  generalize (if SealedOK x then bs (sealB x) else ⟨#[]⟩) = t at e2 e3
  generalize decide (SealedOK x) = b at e2 e3
  dsimp only [SealedV, Sealed.enc] at e1 e2 e3
  simp [xRun, a_laws_FnExactSealedText, Sealed.enc, e1, e2, e3]
end Go.Abs.W
