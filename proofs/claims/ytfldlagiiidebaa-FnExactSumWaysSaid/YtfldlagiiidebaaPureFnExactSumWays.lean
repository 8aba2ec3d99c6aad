/- The program's SumWays returns what the reference's returns, for every two numbers. -/
import Derived.Test.YtfldlagiiidebaaPFnExactSumWaysx2
namespace Go.Proofs.Ytfldlagiiidebaa.Pure
open Go.RowKit Go.Proofs.Ytfldlagiiidebaa.PFnExactSumWays Go.Proofs.YtfldlagiiidebaaW.PrintWords Go.Proofs.YtfldlagiiidebaaW.PrintLast

theorem in_f (a b c : Int) : spec_l1In.f a b c = some (decide (b ≤ a ∧ a ≤ c)) := by
  unfold spec_l1In.f
  by_cases h : a ≥ b <;> simp [h]
theorem range_f (a b c : Int) : impl_inRange.f a b c = some (decide (b ≤ a ∧ a ≤ c)) := by
  unfold impl_inRange.f
  by_cases h : b ≤ a <;> simp [h]
set_option maxRecDepth 100000 in
/-- The lists of ways are equal for each of the nine numbers of dice. -/
theorem ways_eq (n : Int) (h0 : 0 ≤ n) (h8 : n ≤ 8) : ∃ l, spec_dWays.f 2000 n = some l ∧ impl_waysOf.f 2000 n = some l ∧ l.length ≤ 100 := by
  have h : n = 0 ∨ n = 1 ∨ n = 2 ∨ n = 3 ∨ n = 4 ∨ n = 5 ∨ n = 6 ∨ n = 7 ∨ n = 8 := by omega
  have key : ∀ m : Int, (match spec_dWays.f 2000 m with | some l => decide (impl_waysOf.f 2000 m = some l ∧ l.length ≤ 100) | none => false) = true → ∃ l, spec_dWays.f 2000 m = some l ∧ impl_waysOf.f 2000 m = some l ∧ l.length ≤ 100 := by
    intro m hm
    cases e : spec_dWays.f 2000 m with
    | none => rw [e] at hm; cases hm
    | some l => rw [e] at hm; exact ⟨l, rfl, of_decide_eq_true hm⟩
  rcases h with rfl | rfl | rfl | rfl | rfl | rfl | rfl | rfl | rfl <;> exact key _ (by decide +kernel)

theorem FnExactSumWays : laws_FnExactSumWays.Pure := by
  intro a0 a1 _ _
  refine ⟨2001, ?_⟩
  unfold laws_FnExactSumWays.f spec_SumWays.f impl_SumWays.f spec_dSumAsked.f
  by_cases h : 0 ≤ a0 ∧ a0 ≤ 8
  · by_cases h1 : -100 ≤ a1 ∧ a1 ≤ 100
    · obtain ⟨l, hs, hi, hl⟩ := ways_eq a0 h.1 h.2
      have hs' := at_rounds (spec_dWays.mono a0) (Nat.le_succ 2000) hs
      have hw : wrap64 ((l.length : Int) - 1) = (l.length : Int) - 1 := by unfold wrap64; omega
      simp only [in_f, range_f, h, h1, impl_SumWays.j0, impl_isIndex.f, hs', hi, hw, Option.bind_some, and_self, decide_true, if_true, Bool.not_true, Bool.false_eq_true, if_false]
      by_cases hc : 0 ≤ a1 ∧ a1 ≤ (l.length : Int) - 1
      · simp [hc, show a1 < (l.length : Int) from by omega]
      · simp [hc]
    · simp [in_f, range_f, h, h1, impl_SumWays.j0]
  · simp [in_f, range_f, h, impl_SumWays.j0]

end Go.Proofs.Ytfldlagiiidebaa.Pure
