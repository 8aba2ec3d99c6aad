/- The program's NumberBelow returns what the reference's returns, for every three numbers. -/
import Derived.Test.YtgjdonadnofdlaaPx8
import Derived.Test.YtgjdonadnofdlaaLibA
import Derived.Test.YtgjdonadnofdlaaLibI
import Derived.Test.YtgjdonadnofdlaaOpenT
namespace Go.Proofs.Ytgjdonadnofdlaa.Pure
open Go.RowKit Go.Proofs.Ytgjdonadnofdlaa.P Go.Proofs.YtgjdonadnofdlaaW.PrintWords Go.Proofs.YtgjdonadnofdlaaW.PrintLast
set_option linter.unusedVariables false
set_option linter.unusedSimpArgs false

theorem FnExactNumberBelow : laws_FnExactNumberBelow.Pure := by
  intro a0 a1 a2 _ _ _
  by_cases c2 : 1 ≤ a2 ∧ a2 ≤ 1000000
  · obtain ⟨K, hK⟩ := dBelow_ev a0 a1 a2 (by omega)
    refine ⟨K, ?_⟩
    have h := hK K (Nat.le_refl _)
    unfold laws_FnExactNumberBelow.f spec_NumberBelow.f impl_NumberBelow.f
    dsimp only at h
    have h2 := numberBelow_f a0 a1 a2 (by omega)
    by_cases c0 : 0 ≤ a0 ∧ a0 ≤ 4611686016279904236 <;> by_cases c1 : 0 ≤ a1 ∧ a1 ≤ 1000000 <;> simp [dAsked_f, isSeed_f, isPlace_f, in_f, range_f, c0, c1, c2, h, h2]
  · refine ⟨0, ?_⟩
    unfold laws_FnExactNumberBelow.f spec_NumberBelow.f impl_NumberBelow.f
    by_cases c0 : 0 ≤ a0 ∧ a0 ≤ 4611686016279904236 <;> by_cases c1 : 0 ≤ a1 ∧ a1 ≤ 1000000 <;> simp [dAsked_f, isSeed_f, isPlace_f, in_f, range_f, c0, c1, c2]

end Go.Proofs.Ytgjdonadnofdlaa.Pure
