/- The program's ReasonName returns what the reference's returns, for every number. -/
import Derived.Test.YtfldlagiiidebaaPFnExactReasonNamex1
namespace Go.Proofs.Ytfldlagiiidebaa.Pure
open Go.RowKit Go.Proofs.Ytfldlagiiidebaa.PFnExactReasonName Go.Proofs.YtfldlagiiidebaaW.PrintWords Go.Proofs.YtfldlagiiidebaaW.PrintLast

/-- YOURS: ∀ (a0 : Int), (Lit.int .i64 a0).wf = true → laws_FnExactReasonName.f a0 = some true
What it reaches (each with k first where it has rounds; `.mono`: more rounds tell the same; `.l0`, ..: its loops, with `.mono_l`): spec_l1In.f, spec_ReasonName.f, impl_ReasonName.f, laws_FnExactReasonName.f -/
theorem FnExactReasonName : laws_FnExactReasonName.Pure := by
  intro a0 _
  unfold laws_FnExactReasonName.f spec_ReasonName.f impl_ReasonName.f spec_l1In.f
  by_cases h0 : a0 = 0
  · subst h0; decide +kernel
  by_cases h1 : a0 = 1
  · subst h1; decide +kernel
  by_cases h2 : a0 = 2
  · subst h2; decide +kernel
  by_cases h3 : a0 = 3
  · subst h3; decide +kernel
  by_cases h4 : a0 = 4
  · subst h4; decide +kernel
  by_cases h5 : a0 = 5
  · subst h5; decide +kernel
  rw [if_neg h0, if_neg h1, if_neg h2, if_neg h3, if_neg h4, if_neg h5]
  by_cases hg : a0 ≥ 0
  · have hd : decide (a0 ≤ 5) = false := decide_eq_false (by omega)
    rw [if_pos hg, hd]; simp
  · rw [if_neg hg]; simp

end Go.Proofs.Ytfldlagiiidebaa.Pure
