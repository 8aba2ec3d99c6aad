/- The program's ChildSeed returns what the reference's returns, for every number and text. -/
import Derived.Test.YtgjdonadnofdlaaPx27
import Derived.Test.YtgjdonadnofdlaaLibA
import Derived.Test.YtgjdonadnofdlaaLibI
import Derived.Test.YtgjdonadnofdlaaOpenT
namespace Go.Proofs.Ytgjdonadnofdlaa.Pure
open Go.RowKit Go.Proofs.Ytgjdonadnofdlaa.P Go.Proofs.YtgjdonadnofdlaaW.PrintWords Go.Proofs.YtgjdonadnofdlaaW.PrintLast
set_option linter.unusedVariables false
set_option linter.unusedSimpArgs false

theorem FnExactChildSeed : laws_FnExactChildSeed.Pure := by
  intro a s _ _
  by_cases hs : (s.size : Int) > 1048576
  · exact ⟨0, by unfold laws_FnExactChildSeed.f; rw [if_pos hs]⟩
  obtain ⟨K1, h1⟩ := dBytes_ev s (by omega)
  obtain ⟨K2, h2⟩ := dHash_ev ([a] ++ bytesV s) (by rw [List.length_append, bytesV_length]; simp; omega)
  obtain ⟨K3, h3⟩ := withBytes_ev [a] s (by simp) (by omega)
  have h4 := mix_f ([a] ++ bytesV s) (by rw [List.length_append, bytesV_length]; simp; omega)
  have hl := bytesV_length s
  refine ⟨K1 + K2 + K3 + 1, ?_⟩
  dsimp only at h1 h2 h3
  unfold laws_FnExactChildSeed.f spec_ChildSeed.f spec_dChild.f impl_ChildSeed.f
  rw [if_neg hs]
  have e1 := h1 _ (show K1 ≤ K1 + K2 + K3 + 1 by omega)
  have e2 := h2 _ (show K2 ≤ K1 + K2 + K3 + 1 by omega)
  have e3 := h3 _ (show K3 ≤ K1 + K2 + K3 by omega)
  by_cases c0 : 0 ≤ a ∧ a ≤ 4611686016279904236
  · by_cases c1 : (s.size : Int) > 40
    · simp [dSeed_f, isSeed_f, c0, c1, impl_ChildSeed.j0]
    · simp only [dSeed_f, isSeed_f, c0, c1, impl_ChildSeed.j0, Option.bind_some, and_self, decide_true, decide_false, if_true, if_false, Bool.false_eq_true, e1, e3, h4]
      rw [if_pos (by simp [hl]; omega), e2]
      simp
  · simp [dSeed_f, isSeed_f, c0, impl_ChildSeed.j0]

end Go.Proofs.Ytgjdonadnofdlaa.Pure
