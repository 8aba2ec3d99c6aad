/- The program's SealChain returns what the reference's returns, for every list of seals; it leaves the list alone, and its result is new memory each time. -/
import Derived.Test.YtgjdonadnofdlaaPx49
import Derived.Test.YtgjdonadnofdlaaLibA
import Derived.Test.YtgjdonadnofdlaaLibC
import Derived.Test.YtgjdonadnofdlaaLibI
import Derived.Test.YtgjdonadnofdlaaOpenT
namespace Go.Proofs.Ytgjdonadnofdlaa.Pure
open Go.RowKit Go.Proofs.Ytgjdonadnofdlaa.P Go.Proofs.YtgjdonadnofdlaaW.PrintWords Go.Proofs.YtgjdonadnofdlaaW.PrintLast
set_option linter.unusedVariables false
set_option linter.unusedSimpArgs false

theorem markSealed_l (n : Nat) (hn : n ≤ 1048576) (d : Nat) : ∀ (k i : Nat) (x : List S25) (m : Int), i + d = n → d < k → x.length = n → 1 ≤ m → m ≤ 1 + 3 * i → ∃ r, 0 ≤ r.1 ∧ laws_markSealedS.l0 k x m (i : Int) = some r := by
  induction d with
  | zero =>
    intro k i x m hi hk hx h0 h1
    obtain ⟨k, rfl⟩ : ∃ m, k = m + 1 := ⟨k - 1, by omega⟩
    refine ⟨(m, x), by simp; omega, ?_⟩
    simp only [laws_markSealedS.l0]; rw [if_neg (by omega)]
  | succ d ih =>
    intro k i x m hi hk hx h0 h1
    obtain ⟨k, rfl⟩ : ∃ m, k = m + 1 := ⟨k - 1, by omega⟩
    simp only [laws_markSealedS.l0, Option.bind_some]
    simp (disch := omega) only [hx, List.length_set, w64, show (i : Int) < (n : Int) from by omega, show (0 : Int) ≤ (i : Int) from by omega, if_true]
    rw [show ((i : Int) + 1) = ((i + 1 : Nat) : Int) from by omega]
    exact ih k (i + 1) _ _ (by omega) (by omega) (by simp; omega) (by omega) (by omega)
theorem FnExactSealChain : ∀ (x0 : List (S23)), (x0.length ≤ maxLen ∧ ∀ a ∈ x0, Rd.G23 a) → ∃ k, laws_FnExactSealChain.f k x0 = some true := by
  intro l hl0
  unfold maxLen at hl0
  by_cases hz : (1048576 : Int) - (l.length : Int) < 0
  · exact ⟨0, by unfold laws_FnExactSealChain.f laws_szSealedS.f; rw [w64 (by omega) (by omega), if_pos hz]; rfl⟩
  have hlen : (l.map toSealed).length = l.length := by simp
  generalize hm : l.map toSealed = m at *
  have key : ∃ r b, r.length ≤ 1048576 ∧ Ev (fun k => spec_SealChain.f k m) (r, b) ∧ Ev (fun k => impl_SealChain.f k m) (r, b) := by
    obtain ⟨K1, h1⟩ := eList_ev m (by omega)
    obtain ⟨K2, h2⟩ := areSealed_ev m (by omega)
    obtain ⟨K3, h3⟩ := specChain_ev m (by omega)
    obtain ⟨K4, h4⟩ := implChain_ev m (by omega)
    have hcl := chainFrom_length m 0
    dsimp only at h1 h2 h3 h4
    cases c1 : listB m with
    | false =>
      rw [c1] at h1 h2
      exact ⟨[], false, by simp, ⟨K1, fun k hk => by simp (disch := omega) [spec_SealChain.f, h1]⟩, ⟨K2, fun k hk => by simp (disch := omega) [impl_SealChain.f, h2]⟩⟩
    | true =>
      rw [c1] at h1 h2
      exact ⟨chainFrom m 0, true, by omega, ⟨K1 + K3, fun k hk => by simp (disch := omega) [spec_SealChain.f, h1, h3]⟩, ⟨K2 + K4, fun k hk => by simp (disch := omega) [impl_SealChain.f, h2, h4]⟩⟩
  obtain ⟨r, b, hr, ⟨K1, h1⟩, ⟨K2, h2⟩⟩ := key
  obtain ⟨K3, h3⟩ := eqIntS_ev r (by omega)
  obtain ⟨K4, h4⟩ := markIntS_ev r 1 (by omega) (by omega) (by omega)
  obtain ⟨K7, h7⟩ := heldIntS_ev r.length 1 (by omega) (by omega) (by omega)
  obtain ⟨K5, h5⟩ := toSealedS_ev l (by omega)
  obtain ⟨K6, h6⟩ := eqSealedS_ev m (by omega)
  obtain ⟨q, hq0, hq⟩ := markSealed_l m.length (by omega) m.length (m.length + 1) 0 m 1 (by omega) (by omega) rfl (by omega) (by omega)
  have h8 : ∀ k, m.length + 1 ≤ k → laws_markSealedS.f k m 1 = some q := fun k hk => at_rounds (laws_markSealedS.mono m 1) hk hq
  rw [hm] at h5
  dsimp only at h1 h2 h3 h4 h5 h6 h7
  have hz' : laws_szSealedS.f l 1048576 = some (1048576 - (l.length : Int)) := by unfold laws_szSealedS.f; rw [w64 (by omega) (by omega), if_neg hz]
  have hq1 : ¬ q.1 < 0 := by omega
  have hq2 : ¬ (1 + (r.length : Int) < 0) := by omega
  refine ⟨K1 + K2 + K3 + K4 + K5 + K6 + K7 + m.length + 4, ?_⟩
  simp (disch := omega) only [laws_FnExactSealChain.f, hz', hz, if_false, h1, h2, h3, h5, Option.bind_some, if_true, bne_self_eq_false]
  simp (disch := omega) only [laws_FnExactSealChain.j0, h3, h5, h6, h8, hq1, if_false, Bool.false_eq_true, Option.bind_some, if_true, bne_self_eq_false]
  simp (disch := omega) only [laws_FnExactSealChain.j1, h2, h3, h4, h5, h7, hq2, if_false, Bool.false_eq_true, Option.bind_some, if_true, bne_self_eq_false]
  simp (disch := omega) only [laws_FnExactSealChain.j2, h7, hq2, if_false, Bool.false_eq_true, Option.bind_some, if_true]

end Go.Proofs.Ytgjdonadnofdlaa.Pure
