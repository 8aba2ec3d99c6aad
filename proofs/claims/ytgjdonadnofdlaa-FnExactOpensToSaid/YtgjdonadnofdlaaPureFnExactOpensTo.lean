/- The program's OpensTo returns what the reference's returns, for all arguments. -/
import Derived.Test.YtgjdonadnofdlaaPx42
import Derived.Test.YtgjdonadnofdlaaLibA
import Derived.Test.YtgjdonadnofdlaaLibS
import Derived.Test.YtgjdonadnofdlaaLibI
import Derived.Test.YtgjdonadnofdlaaOpenT
namespace Go.Proofs.Ytgjdonadnofdlaa.Pure
open Go.RowKit Go.Proofs.Ytgjdonadnofdlaa.P Go.Proofs.YtgjdonadnofdlaaW.PrintWords Go.Proofs.YtgjdonadnofdlaaW.PrintLast
set_option linter.unusedVariables false
set_option linter.unusedSimpArgs false

theorem FnExactOpensTo : ∀ (x0 : S23) (x1 : S51), (Rd.G23 x0) → (Rd.G51 x1) → ∃ k, laws_FnExactOpensTo.f k x0.f0 x0.f1 x0.f2 x1.f0 x1.f1 = some true := by
  intro x o _ _
  have key : ∃ r, Ev (fun k => spec_OpensTo.f k x.f0 x.f1 x.f2 o.f0 o.f1) r ∧ Ev (fun k => impl_OpensTo.f k x.f0 x.f1 x.f2 o.f0 o.f1) r := by
    by_cases c0 : 0 ≤ x.f0 ∧ x.f0 ≤ 30
    · by_cases c1 : 0 ≤ x.f1 ∧ x.f1 ≤ 1
      · by_cases c2 : 0 ≤ x.f2 ∧ x.f2 ≤ 4611686016279904236
        · by_cases c3 : 0 ≤ o.f0 ∧ o.f0 ≤ 4611686016279904236
          · by_cases c4 : (o.f1.size : Int) ≤ 150
            · obtain ⟨K1, h1⟩ := eSeal_ev x.f0 x.f1 o.f0 o.f1 c4
              obtain ⟨K2, h2⟩ := implSO_ev x.f0 x.f1 o.f0 o.f1
              have hv : soV x.f0 x.f1 o.f0 o.f1 = (x.f0, x.f1, sealV x.f0 x.f1 o.f0 o.f1, true) := by unfold soV; rw [if_pos ⟨c0.1, c0.2, c1.1, c1.2, c3.1, c3.2, c4⟩]
              rw [hv] at h2
              dsimp only at h1 h2
              refine ⟨(sealV x.f0 x.f1 o.f0 o.f1 == x.f2, true), ⟨K1, fun k hk => ?_⟩, ⟨K2, fun k hk => ?_⟩⟩
              · simp [spec_OpensTo.f, spec_eGood.f, in_f, dSeed_f, eOpening_f, c0, c1, c2, c3, c4, spec_eOpens.f, h1 k hk]
              · have hc : (x.f2 == sealV x.f0 x.f1 o.f0 o.f1) = (sealV x.f0 x.f1 o.f0 o.f1 == x.f2) := Bool.beq_comm
                simp [impl_OpensTo.f, impl_IsSealed.f, isTurn_f, isSide_f, isSeed_f, goodOpening_f, c0, c1, c2, c3, c4, h2 k hk, hc]
            · exact ⟨(false, false), ⟨0, fun k _ => by simp [spec_OpensTo.f, spec_eGood.f, in_f, dSeed_f, eOpening_f, c0, c1, c2, c3, c4]⟩, ⟨0, fun k _ => by simp [impl_OpensTo.f, impl_IsSealed.f, isTurn_f, isSide_f, isSeed_f, goodOpening_f, c0, c1, c2, c3, c4]⟩⟩
          · exact ⟨(false, false), ⟨0, fun k _ => by simp [spec_OpensTo.f, spec_eGood.f, in_f, dSeed_f, eOpening_f, c0, c1, c2, c3]⟩, ⟨0, fun k _ => by simp [impl_OpensTo.f, impl_IsSealed.f, isTurn_f, isSide_f, isSeed_f, goodOpening_f, c0, c1, c2, c3]⟩⟩
        · exact ⟨(false, false), ⟨0, fun k _ => by simp [spec_OpensTo.f, spec_eGood.f, in_f, dSeed_f, eOpening_f, c0, c1, c2]⟩, ⟨0, fun k _ => by simp [impl_OpensTo.f, impl_IsSealed.f, isTurn_f, isSide_f, isSeed_f, goodOpening_f, c0, c1, c2]⟩⟩
      · exact ⟨(false, false), ⟨0, fun k _ => by simp [spec_OpensTo.f, spec_eGood.f, in_f, dSeed_f, eOpening_f, c0, c1]⟩, ⟨0, fun k _ => by simp [impl_OpensTo.f, impl_IsSealed.f, isTurn_f, isSide_f, isSeed_f, goodOpening_f, c0, c1]⟩⟩
    · exact ⟨(false, false), ⟨0, fun k _ => by simp [spec_OpensTo.f, spec_eGood.f, in_f, dSeed_f, eOpening_f, c0]⟩, ⟨0, fun k _ => by simp [impl_OpensTo.f, impl_IsSealed.f, isTurn_f, isSide_f, isSeed_f, goodOpening_f, c0]⟩⟩
  obtain ⟨r, ⟨K1, h1⟩, ⟨K2, h2⟩⟩ := key
  refine ⟨K1 + K2, ?_⟩
  dsimp only at h1 h2
  have e1 := h1 (K1 + K2) (by omega)
  have e2 := h2 (K1 + K2) (by omega)
  unfold laws_FnExactOpensTo.f
  cases hz : laws_szOpening.f o.f0 o.f1 1048576 with
  | none => unfold laws_szOpening.f at hz; split at hz <;> simp at hz
  | some z =>
    simp only [Option.bind_some]
    by_cases c : z < 0
    · rw [if_pos c]
    · rw [if_neg c]
      simp [laws_toOpening.f, laws_toSealed.f, e1, e2]

end Go.Proofs.Ytgjdonadnofdlaa.Pure
