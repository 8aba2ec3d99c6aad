/- The program's MixNumbers returns what the reference's returns, for every list of numbers, and leaves the list alone. -/
import Derived.Test.YtgjdonadnofdlaaPx10
import Derived.Test.YtgjdonadnofdlaaLibA
import Derived.Test.YtgjdonadnofdlaaLibI
import Derived.Test.YtgjdonadnofdlaaOpenT
namespace Go.Proofs.Ytgjdonadnofdlaa.Pure
open Go.RowKit Go.Proofs.Ytgjdonadnofdlaa.P Go.Proofs.YtgjdonadnofdlaaW.PrintWords Go.Proofs.YtgjdonadnofdlaaW.PrintLast
set_option linter.unusedVariables false
set_option linter.unusedSimpArgs false

theorem FnExactMixNumbers : ∀ (x0 : List Int), (x0.length ≤ maxLen ∧ ∀ a ∈ x0, Rd.I64 a) → ∃ k, laws_FnExactMixNumbers.f k x0 = some true := by
  intro l _
  by_cases hs : (l.length : Int) > 1048576
  · exact ⟨0, by unfold laws_FnExactMixNumbers.f; rw [if_pos hs]⟩
  obtain ⟨K1, h1⟩ := toIntS_ev l (by omega)
  obtain ⟨K2, h2⟩ := dHash_ev l (by omega)
  obtain ⟨K3, h3⟩ := eqIntS_ev l (by omega)
  have h4 := mix_f l (by omega)
  refine ⟨K1 + K2 + K3 + 1, ?_⟩
  dsimp only at h1 h2 h3
  unfold laws_FnExactMixNumbers.f spec_MixNumbers.f impl_MixNumbers.f
  rw [if_neg hs, h1 _ (by omega)]
  by_cases c : (l.length : Int) > 200
  · simp [c, laws_FnExactMixNumbers.j0, h1 _ (show K1 ≤ K1 + K2 + K3 by omega), h3 _ (show K3 ≤ K1 + K2 + K3 by omega)]
  · simp [c, laws_FnExactMixNumbers.j0, h1 _ (show K1 ≤ K1 + K2 + K3 by omega), h2 _ (show K2 ≤ K1 + K2 + K3 + 1 by omega), h3 _ (show K3 ≤ K1 + K2 + K3 by omega), h4]

end Go.Proofs.Ytgjdonadnofdlaa.Pure
