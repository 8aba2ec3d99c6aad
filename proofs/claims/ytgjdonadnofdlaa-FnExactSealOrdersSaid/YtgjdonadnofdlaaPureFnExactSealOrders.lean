/- The program's SealOrders returns what the reference's returns, for all arguments. -/
import Derived.Test.YtgjdonadnofdlaaPx36
import Derived.Test.YtgjdonadnofdlaaLibA
import Derived.Test.YtgjdonadnofdlaaLibS
import Derived.Test.YtgjdonadnofdlaaLibI
import Derived.Test.YtgjdonadnofdlaaOpenT
namespace Go.Proofs.Ytgjdonadnofdlaa.Pure
open Go.RowKit Go.Proofs.Ytgjdonadnofdlaa.P Go.Proofs.YtgjdonadnofdlaaW.PrintWords Go.Proofs.YtgjdonadnofdlaaW.PrintLast
set_option linter.unusedVariables false
set_option linter.unusedSimpArgs false

theorem FnExactSealOrders : ∀ (a0 : Int) (a1 : Int) (x2 : S51), ((Lit.int .i64 a0).wf = true) → ((Lit.int .i64 a1).wf = true) → (Rd.G51 x2) → ∃ k, laws_FnExactSealOrders.f k a0 a1 x2.f0 x2.f1 = some true := by
  intro a b o _ _ _
  obtain ⟨K1, h1⟩ := specSO_ev a b o.f0 o.f1
  obtain ⟨K2, h2⟩ := implSO_ev a b o.f0 o.f1
  refine ⟨K1 + K2, ?_⟩
  dsimp only at h1 h2
  have e1 := h1 (K1 + K2) (by omega)
  have e2 := h2 (K1 + K2) (by omega)
  unfold laws_FnExactSealOrders.f
  cases hz : laws_szOpening.f o.f0 o.f1 1048576 with
  | none => unfold laws_szOpening.f at hz; split at hz <;> simp at hz
  | some z =>
    simp only [Option.bind_some]
    by_cases c : z < 0
    · rw [if_pos c]
    · rw [if_neg c]
      simp [laws_toOpening.f, e1, e2, laws_eqSealed.f]

end Go.Proofs.Ytgjdonadnofdlaa.Pure
