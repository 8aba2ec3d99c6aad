/- The program's MixText returns what the reference's returns, for every text. -/
import Derived.Test.YtgjdonadnofdlaaPx9
import Derived.Test.YtgjdonadnofdlaaLibA
import Derived.Test.YtgjdonadnofdlaaLibI
import Derived.Test.YtgjdonadnofdlaaOpenT
namespace Go.Proofs.Ytgjdonadnofdlaa.Pure
open Go.RowKit Go.Proofs.Ytgjdonadnofdlaa.P Go.Proofs.YtgjdonadnofdlaaW.PrintWords Go.Proofs.YtgjdonadnofdlaaW.PrintLast
set_option linter.unusedVariables false
set_option linter.unusedSimpArgs false

theorem FnExactMixText : laws_FnExactMixText.Pure := by
  intro s _
  by_cases hs : (s.size : Int) > 1048576
  · exact ⟨0, by unfold laws_FnExactMixText.f; rw [if_pos hs]⟩
  obtain ⟨K1, h1⟩ := dBytes_ev s (by omega)
  obtain ⟨K2, h2⟩ := dHash_ev (bytesV s) (by rw [bytesV_length]; omega)
  obtain ⟨K3, h3⟩ := withBytes_ev [] s (by simp) (by omega)
  rw [List.nil_append] at h3
  have h4 := mix_f (bytesV s) (by rw [bytesV_length]; omega)
  have hl := bytesV_length s
  refine ⟨K1 + K2 + K3, ?_⟩
  dsimp only at h1 h2 h3
  unfold laws_FnExactMixText.f spec_MixText.f spec_MixNumbers.f impl_MixText.f
  rw [if_neg hs, h1 _ (by omega)]
  by_cases c : (s.size : Int) > 200
  · simp [hl, c]
  · simp [hl, c, h2 _ (show K2 ≤ K1 + K2 + K3 by omega), h3 _ (show K3 ≤ K1 + K2 + K3 by omega), h4]

end Go.Proofs.Ytgjdonadnofdlaa.Pure
