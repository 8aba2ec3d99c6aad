/- The program's IsSealed returns what the reference's returns, for every seal. -/
import Derived.Test.YtgjdonadnofdlaaPx5
import Derived.Test.YtgjdonadnofdlaaLibA
import Derived.Test.YtgjdonadnofdlaaLibI
import Derived.Test.YtgjdonadnofdlaaOpenT
namespace Go.Proofs.Ytgjdonadnofdlaa.Pure
open Go.RowKit Go.Proofs.Ytgjdonadnofdlaa.P Go.Proofs.YtgjdonadnofdlaaW.PrintWords Go.Proofs.YtgjdonadnofdlaaW.PrintLast
set_option linter.unusedVariables false
set_option linter.unusedSimpArgs false

theorem FnExactIsSealed : ∀ (x0 : S23), (Rd.G23 x0) → laws_FnExactIsSealed.f x0.f0 x0.f1 x0.f2 = some true := by
  intro x _
  unfold laws_FnExactIsSealed.f laws_toSealed.f spec_IsSealed.f spec_eGood.f impl_IsSealed.f impl_isTurn.f impl_isSide.f
  by_cases c0 : 0 ≤ x.f0 ∧ x.f0 ≤ 30 <;> by_cases c1 : 0 ≤ x.f1 ∧ x.f1 ≤ 1 <;> by_cases c2 : 0 ≤ x.f2 ∧ x.f2 ≤ 4611686016279904236 <;> simp [in_f, range_f, dSeed_f, isSeed_f, c0, c1, c2]

end Go.Proofs.Ytgjdonadnofdlaa.Pure
