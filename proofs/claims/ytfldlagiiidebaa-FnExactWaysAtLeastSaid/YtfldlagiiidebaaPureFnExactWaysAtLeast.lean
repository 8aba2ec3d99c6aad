/- The program's WaysAtLeast returns what the reference's returns, for every two numbers. -/
import Derived.Test.YtfldlagiiidebaaPFnExactWaysAtLeastx2
namespace Go.Proofs.Ytfldlagiiidebaa.Pure
open Go.RowKit Go.Proofs.Ytfldlagiiidebaa.PFnExactWaysAtLeast Go.Proofs.YtfldlagiiidebaaW.PrintWords Go.Proofs.YtfldlagiiidebaaW.PrintLast

theorem in_f (a b c : Int) : spec_l1In.f a b c = some (decide (b ≤ a ∧ a ≤ c)) := by
  unfold spec_l1In.f
  by_cases h : a ≥ b <;> simp [h]
theorem range_f (a b c : Int) : impl_inRange.f a b c = some (decide (b ≤ a ∧ a ≤ c)) := by
  unfold impl_inRange.f
  by_cases h : b ≤ a <;> simp [h]
set_option maxRecDepth 100000 in
/-- The lists of ways are equal for each of the nine numbers of dice. -/
theorem ways_eq (n : Int) (h0 : 0 ≤ n) (h8 : n ≤ 8) : ∃ l, spec_dWays.f 2000 n = some l ∧ impl_waysOf.f 2000 n = some l ∧ l.length ≤ 100 := by
  have h : n = 0 ∨ n = 1 ∨ n = 2 ∨ n = 3 ∨ n = 4 ∨ n = 5 ∨ n = 6 ∨ n = 7 ∨ n = 8 := by omega
  have key : ∀ m : Int, (match spec_dWays.f 2000 m with | some l => decide (impl_waysOf.f 2000 m = some l ∧ l.length ≤ 100) | none => false) = true → ∃ l, spec_dWays.f 2000 m = some l ∧ impl_waysOf.f 2000 m = some l ∧ l.length ≤ 100 := by
    intro m hm
    cases e : spec_dWays.f 2000 m with
    | none => rw [e] at hm; cases hm
    | some l => rw [e] at hm; exact ⟨l, rfl, of_decide_eq_true hm⟩
  rcases h with rfl | rfl | rfl | rfl | rfl | rfl | rfl | rfl | rfl <;> exact key _ (by decide +kernel)

theorem sum_eq : ∀ (k : Nat) (a b : Int) (c : List Int) (d e : Int), spec_WaysAtLeast.l0 k a b c d e = impl_WaysAtLeast.l0 k a b c d e
  | 0, _, _, _, _, _ => rfl
  | k + 1, a, b, c, d, e => by simp only [spec_WaysAtLeast.l0, impl_WaysAtLeast.l0, sum_eq k]
theorem sum_some (l : List Int) (hl : l.length ≤ 100) (a : Int) (d : Nat) : ∀ (k : Nat) (b e : Int), 0 ≤ e → e ≤ l.length → (l.length : Int) - e = d → d < k →
    ∃ r, impl_WaysAtLeast.l0 k a b l (l.length : Int) e = some r := by
  induction d with
  | zero =>
    intro k b e h0 h1 hd hk
    obtain ⟨k, rfl⟩ : ∃ m, k = m + 1 := ⟨k - 1, by omega⟩
    exact ⟨(b, true), by simp only [impl_WaysAtLeast.l0]; rw [if_neg (by omega)]⟩
  | succ d ih =>
    intro k b e h0 h1 hd hk
    obtain ⟨k, rfl⟩ : ∃ m, k = m + 1 := ⟨k - 1, by omega⟩
    have hw : wrap64 (e + 1) = e + 1 := by unfold wrap64; omega
    have hlt : e < (l.length : Int) := by omega
    simp only [impl_WaysAtLeast.l0]
    rw [if_pos hlt, if_pos h0, if_pos hlt, hw]
    split
    · exact ih k _ (e + 1) (by omega) (by omega) (by omega) (by omega)
    · exact ih k _ (e + 1) (by omega) (by omega) (by omega) (by omega)

theorem FnExactWaysAtLeast : laws_FnExactWaysAtLeast.Pure := by
  intro a0 a1 _ _
  refine ⟨2001, ?_⟩
  unfold laws_FnExactWaysAtLeast.f spec_WaysAtLeast.f impl_WaysAtLeast.f spec_dSumAsked.f
  by_cases h : 0 ≤ a0 ∧ a0 ≤ 8
  · by_cases h1 : -100 ≤ a1 ∧ a1 ≤ 100
    · obtain ⟨l, hs, hi, hl⟩ := ways_eq a0 h.1 h.2
      have hs' := at_rounds (spec_dWays.mono a0) (Nat.le_succ 2000) hs
      obtain ⟨r, hr⟩ := sum_some l hl a1 l.length 2000 0 0 (by omega) (by omega) (by omega) (by omega)
      have hr' := at_rounds (fun k => (impl_WaysAtLeast.mono_l k).2 a1 0 l (l.length : Int) 0) (Nat.le_succ 2000) hr
      simp [in_f, range_f, h, h1, impl_WaysAtLeast.j0, hs', hi, sum_eq, hr, hr']
    · simp [in_f, range_f, h, h1, impl_WaysAtLeast.j0]
  · simp [in_f, range_f, h, impl_WaysAtLeast.j0]

end Go.Proofs.Ytfldlagiiidebaa.Pure
