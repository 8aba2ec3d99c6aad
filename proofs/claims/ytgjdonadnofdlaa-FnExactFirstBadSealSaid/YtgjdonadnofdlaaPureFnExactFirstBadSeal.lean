/- The program's FirstBadSeal returns what the reference's returns, for all arguments, and leaves the lists alone. -/
import Derived.Test.YtgjdonadnofdlaaPx47
import Derived.Test.YtgjdonadnofdlaaLibA
import Derived.Test.YtgjdonadnofdlaaLibC
import Derived.Test.YtgjdonadnofdlaaLibI
import Derived.Test.YtgjdonadnofdlaaOpenT
namespace Go.Proofs.Ytgjdonadnofdlaa.Pure
open Go.RowKit Go.Proofs.Ytgjdonadnofdlaa.P Go.Proofs.YtgjdonadnofdlaaW.PrintWords Go.Proofs.YtgjdonadnofdlaaW.PrintLast
set_option linter.unusedVariables false
set_option linter.unusedSimpArgs false

theorem same_fbs : ∀ (k : Nat) (x0 : List S25) (x1 x2 : List Int) (a b : Int), spec_FirstBadSeal.l0 k x0 x1 x2 a b = impl_FirstBadSeal.l0 k x0 x1 x2 a b
  | 0, _, _, _, _, _ => rfl
  | k + 1, _, _, _, _, _ => by simp only [spec_FirstBadSeal.l0, impl_FirstBadSeal.l0, same_fbs k]
theorem fbs_some (x0 : List S25) (x1 c : List Int) (hc : c.length ≤ 1048576) (h1 : x1.length = c.length) (d : Nat) : ∀ (k i : Nat), i + d = c.length → d < k → ∃ r, impl_FirstBadSeal.l0 k x0 x1 c (c.length : Int) (i : Int) = some r := by
  induction d with
  | zero =>
    intro k i hi hk
    obtain ⟨k, rfl⟩ : ∃ m, k = m + 1 := ⟨k - 1, by omega⟩
    exact ⟨_, by simp only [impl_FirstBadSeal.l0]; rw [if_neg (by omega)]⟩
  | succ d ih =>
    intro k i hi hk
    obtain ⟨k, rfl⟩ : ∃ m, k = m + 1 := ⟨k - 1, by omega⟩
    simp only [impl_FirstBadSeal.l0]
    rw [if_pos (by omega), if_pos (by omega), if_pos (by omega), if_pos (by omega), w64 (by omega) (by omega), show ((i : Int) + 1) = ((i + 1 : Nat) : Int) from by omega]
    split
    · exact ih k (i + 1) (by omega) (by omega)
    · exact ⟨_, rfl⟩
theorem FnExactFirstBadSeal : ∀ (x0 : List (S23)) (x1 : List Int), (x0.length ≤ maxLen ∧ ∀ a ∈ x0, Rd.G23 a) → (x1.length ≤ maxLen ∧ ∀ a ∈ x1, Rd.I64 a) → ∃ k, laws_FnExactFirstBadSeal.f k x0 x1 = some true := by
  intro l c hl0 _
  unfold maxLen at hl0
  by_cases hs : (c.length : Int) > 1048576
  · exact ⟨0, by unfold laws_FnExactFirstBadSeal.f; rw [if_pos hs]⟩
  by_cases hz : (1048576 : Int) - (l.length : Int) < 0
  · exact ⟨0, by unfold laws_FnExactFirstBadSeal.f laws_szSealedS.f; rw [if_neg hs, w64 (by omega) (by omega), if_pos hz]; rfl⟩
  have hlen : (l.map toSealed).length = l.length := by simp
  generalize hm : l.map toSealed = m at *
  have key : ∃ r, Ev (fun k => spec_FirstBadSeal.f k m c) r ∧ Ev (fun k => impl_FirstBadSeal.f k m c) r := by
    obtain ⟨K1, h1⟩ := eList_ev m (by omega)
    obtain ⟨K2, h2⟩ := areSealed_ev m (by omega)
    obtain ⟨K3, h3⟩ := specChain_ev m (by omega)
    obtain ⟨K4, h4⟩ := implChain_ev m (by omega)
    have hcl := chainFrom_length m 0
    dsimp only at h1 h2 h3 h4
    have J : ∀ k : Nat, 1 ≤ k → ∃ m, k = m + 1 := fun k hk => ⟨k - 1, by omega⟩
    cases c1 : listB m with
    | false =>
      rw [c1] at h1 h2
      exact ⟨(0, false), ⟨K1 + 1, fun k hk => by obtain ⟨k, rfl⟩ := J k (by omega); simp (disch := omega) [spec_FirstBadSeal.f, h1, spec_FirstBadSeal.j0]⟩, ⟨K2 + 1, fun k hk => by obtain ⟨k, rfl⟩ := J k (by omega); simp (disch := omega) [impl_FirstBadSeal.f, h2, impl_FirstBadSeal.j0]⟩⟩
    | true =>
      rw [c1] at h1 h2
      by_cases c2 : (c.length : Int) = (m.length : Int)
      · obtain ⟨r, hr⟩ := fbs_some m c (chainFrom m 0) (by omega) (by omega) m.length (m.length + 1) 0 (by omega) (by omega)
        rw [show ((0 : Nat) : Int) = 0 from rfl] at hr
        have hr' : ∀ k, m.length + 1 ≤ k → impl_FirstBadSeal.l0 k m c (chainFrom m 0) ((chainFrom m 0).length : Int) 0 = some r := fun k hk => at_rounds (fun k => (impl_FirstBadSeal.mono_l k).2 m c (chainFrom m 0) ((chainFrom m 0).length : Int) 0) hk hr
        refine ⟨r, ⟨K1 + K3 + m.length + 2, fun k hk => ?_⟩, ⟨K2 + K4 + m.length + 2, fun k hk => ?_⟩⟩
        · obtain ⟨k, rfl⟩ := J k (by omega)
          simp (disch := omega) [spec_FirstBadSeal.f, h1, spec_FirstBadSeal.j0, c2, h3, same_fbs, hr']
        · obtain ⟨k, rfl⟩ := J k (by omega)
          simp (disch := omega) [impl_FirstBadSeal.f, h2, impl_FirstBadSeal.j0, c2, h4, hr']
      · have hb : ((c.length : Int) != (m.length : Int)) = true := bne_iff_ne.mpr c2
        exact ⟨(0, false), ⟨K1 + 1, fun k hk => by obtain ⟨k, rfl⟩ := J k (by omega); simp only [spec_FirstBadSeal.f, h1 (k + 1) (by omega), Option.bind_some, if_true, hb, spec_FirstBadSeal.j0]⟩, ⟨K2 + 1, fun k hk => by obtain ⟨k, rfl⟩ := J k (by omega); simp only [impl_FirstBadSeal.f, h2 (k + 1) (by omega), Option.bind_some, if_true, hb, impl_FirstBadSeal.j0]⟩⟩
  obtain ⟨r, ⟨K1, h1⟩, ⟨K2, h2⟩⟩ := key
  obtain ⟨K3, h3⟩ := toIntS_ev c (by omega)
  obtain ⟨K4, h4⟩ := eqIntS_ev c (by omega)
  obtain ⟨K5, h5⟩ := toSealedS_ev l (by omega)
  obtain ⟨K6, h6⟩ := eqSealedS_ev m (by omega)
  rw [hm] at h5
  dsimp only at h1 h2 h3 h4 h5 h6
  have hz' : laws_szSealedS.f l 1048576 = some (1048576 - (l.length : Int)) := by unfold laws_szSealedS.f; rw [w64 (by omega) (by omega), if_neg hz]
  refine ⟨K1 + K2 + K3 + K4 + K5 + K6 + 1, ?_⟩
  simp (disch := omega) only [laws_FnExactFirstBadSeal.f, laws_FnExactFirstBadSeal.j0, hs, if_false, hz', hz, h1, h2, h3, h4, h5, h6, Option.bind_some, if_true, bne_self_eq_false]
  simp (disch := omega) [laws_FnExactFirstBadSeal.j0, h3, h4, h5, h6]

end Go.Proofs.Ytgjdonadnofdlaa.Pure
