/- The program's DieAt returns what the reference's returns, for every two numbers. -/
import Derived.Test.YtgjdonadnofdlaaPx7
import Derived.Test.YtgjdonadnofdlaaLibA
import Derived.Test.YtgjdonadnofdlaaLibI
import Derived.Test.YtgjdonadnofdlaaOpenT
namespace Go.Proofs.Ytgjdonadnofdlaa.Pure
open Go.RowKit Go.Proofs.Ytgjdonadnofdlaa.P Go.Proofs.YtgjdonadnofdlaaW.PrintWords Go.Proofs.YtgjdonadnofdlaaW.PrintLast
set_option linter.unusedVariables false
set_option linter.unusedSimpArgs false

theorem FnExactDieAt : laws_FnExactDieAt.Pure := by
  intro a0 a1 _ _
  obtain ⟨K, hK⟩ := dDie_ev a0 a1
  refine ⟨K, ?_⟩
  have h := hK K (Nat.le_refl _)
  unfold laws_FnExactDieAt.f spec_DieAt.f impl_DieAt.f
  dsimp only at h
  by_cases c0 : 0 ≤ a0 ∧ a0 ≤ 4611686016279904236 <;> by_cases c1 : 0 ≤ a1 ∧ a1 ≤ 1000000 <;> simp [dAsked_f, isSeed_f, isPlace_f, c0, c1, h, dieAt_f]

end Go.Proofs.Ytgjdonadnofdlaa.Pure
