/- The program's DiceFrom returns what the reference's returns, for every three numbers; its result is new memory each time. -/
import Derived.Test.YtgjdonadnofdlaaPx15
import Derived.Test.YtgjdonadnofdlaaLibA
import Derived.Test.YtgjdonadnofdlaaLibI
import Derived.Test.YtgjdonadnofdlaaOpenT
namespace Go.Proofs.Ytgjdonadnofdlaa.Pure
open Go.RowKit Go.Proofs.Ytgjdonadnofdlaa.P Go.Proofs.YtgjdonadnofdlaaW.PrintWords Go.Proofs.YtgjdonadnofdlaaW.PrintLast
set_option linter.unusedVariables false
set_option linter.unusedSimpArgs false

theorem dice_l (seed i n : Int) (hi0 : 0 ≤ i) (hi : i ≤ 1000001) (hn : n ≤ 8) (d : Nat) : ∀ (k : Nat) (j : Int) (l : List Int), 0 ≤ j → n - j = d → d < k → l.length + d ≤ 8 →
    ∃ r, r.length ≤ 8 ∧ impl_DiceFrom.l0 k seed i l n j = some (r, true) ∧ Ev (fun k => spec_DiceFrom.l0 k seed i n l j) (r, true) := by
  induction d with
  | zero =>
    intro k j l h0 hd hk hl
    obtain ⟨k, rfl⟩ : ∃ m, k = m + 1 := ⟨k - 1, by omega⟩
    refine ⟨l, by omega, ?_, 1, fun k hk => ?_⟩
    · simp only [impl_DiceFrom.l0]; rw [if_neg (by omega)]
    · obtain ⟨k, rfl⟩ : ∃ m, k = m + 1 := ⟨k - 1, by omega⟩
      simp only [spec_DiceFrom.l0]; rw [if_neg (by omega)]
  | succ d ih =>
    intro k j l h0 hd hk hl
    obtain ⟨k, rfl⟩ : ∃ m, k = m + 1 := ⟨k - 1, by omega⟩
    have hw : wrap64 (i + j) = i + j := w64 (by omega) (by omega)
    have hw2 : wrap64 (j + 1) = j + 1 := w64 (by omega) (by omega)
    obtain ⟨r, hr, h1, h2⟩ := ih k (j + 1) (l ++ [dieV seed (i + j)]) (by omega) (by omega) (by omega) (by simp; omega)
    refine ⟨r, hr, ?_, ?_⟩
    · simp only [impl_DiceFrom.l0]
      rw [if_pos (by omega), hw, dieAt_f, Option.bind_some, hw2, if_pos (by omega), h1]
    · refine Ev.step (f := fun k => (spec_dDie.f k seed (i + j)).bind fun t => if l.length < 17592186044416 then spec_DiceFrom.l0 k seed i n (l ++ [t]) (j + 1) else none) (fun k => ?_) ?_
      · simp only [spec_DiceFrom.l0]; rw [if_pos (by omega), hw, hw2]
      · refine Ev.bind (f := fun k t => if l.length < 17592186044416 then spec_DiceFrom.l0 k seed i n (l ++ [t]) (j + 1) else none) (dDie_ev seed (i + j)) ?_
        refine Ev.congr (f := fun k => spec_DiceFrom.l0 k seed i n (l ++ [dieV seed (i + j)]) (j + 1)) (fun k => ?_) h2
        rw [if_pos (by omega)]
theorem FnExactDiceFrom : laws_FnExactDiceFrom.Pure := by
  intro a i n _ _ _
  have key : ∃ l b, l.length ≤ 8 ∧ Ev (fun k => spec_DiceFrom.f k a i n) (l, b) ∧ Ev (fun k => impl_DiceFrom.f k a i n) (l, b) := by
    by_cases c0 : 0 ≤ a ∧ a ≤ 4611686016279904236
    · by_cases c1 : 0 ≤ i ∧ i ≤ 1000000
      · by_cases c2 : 0 ≤ n ∧ n ≤ 8
        · have hw : wrap64 (i + n) = i + n := w64 (by omega) (by omega)
          by_cases c3 : i + n > 1000001
          · exact ⟨[], false, by simp, ⟨1, fun k hk => by obtain ⟨k, rfl⟩ : ∃ m, k = m + 1 := ⟨k - 1, by omega⟩; simp [spec_DiceFrom.f, dAsked_f, in_f, c0, c1, c2, hw, c3, spec_DiceFrom.j0]⟩, ⟨1, fun k hk => by obtain ⟨k, rfl⟩ : ∃ m, k = m + 1 := ⟨k - 1, by omega⟩; simp [impl_DiceFrom.f, isSeed_f, isPlace_f, range_f, c0, c1, c2, hw, c3, impl_DiceFrom.j0]⟩⟩
          · obtain ⟨r, hr, h1, K2, h2⟩ := dice_l a i n c1.1 (by omega) c2.2 n.toNat (n.toNat + 1) 0 [] (by omega) (by omega) (by omega) (by simp; omega)
            dsimp only at h2
            refine ⟨r, true, by omega, ⟨K2 + 1, fun k hk => ?_⟩, ⟨n.toNat + 2, fun k hk => ?_⟩⟩
            · obtain ⟨k, rfl⟩ : ∃ m, k = m + 1 := ⟨k - 1, by omega⟩
              simp [spec_DiceFrom.f, dAsked_f, in_f, c0, c1, c2, hw, c3, spec_DiceFrom.j0]
              simpa using h2 k (by omega)
            · obtain ⟨k, rfl⟩ : ∃ m, k = m + 1 := ⟨k - 1, by omega⟩
              have h3 := at_rounds (fun k => (impl_DiceFrom.mono_l k).2 a i [] n 0) (show n.toNat + 1 ≤ k by omega) h1
              simp [impl_DiceFrom.f, isSeed_f, isPlace_f, range_f, c0, c1, c2, hw, c3, impl_DiceFrom.j0]
              simpa using h3
        · exact ⟨[], false, by simp, ⟨1, fun k hk => by obtain ⟨k, rfl⟩ : ∃ m, k = m + 1 := ⟨k - 1, by omega⟩; simp [spec_DiceFrom.f, dAsked_f, in_f, c0, c1, c2, spec_DiceFrom.j0]⟩, ⟨1, fun k hk => by obtain ⟨k, rfl⟩ : ∃ m, k = m + 1 := ⟨k - 1, by omega⟩; simp [impl_DiceFrom.f, isSeed_f, isPlace_f, range_f, c0, c1, c2, impl_DiceFrom.j0]⟩⟩
      · exact ⟨[], false, by simp, ⟨1, fun k hk => by obtain ⟨k, rfl⟩ : ∃ m, k = m + 1 := ⟨k - 1, by omega⟩; simp [spec_DiceFrom.f, dAsked_f, in_f, c0, c1, spec_DiceFrom.j0]⟩, ⟨1, fun k hk => by obtain ⟨k, rfl⟩ : ∃ m, k = m + 1 := ⟨k - 1, by omega⟩; simp [impl_DiceFrom.f, isSeed_f, isPlace_f, range_f, c0, c1, impl_DiceFrom.j0]⟩⟩
    · exact ⟨[], false, by simp, ⟨1, fun k hk => by obtain ⟨k, rfl⟩ : ∃ m, k = m + 1 := ⟨k - 1, by omega⟩; simp [spec_DiceFrom.f, dAsked_f, in_f, c0, spec_DiceFrom.j0]⟩, ⟨1, fun k hk => by obtain ⟨k, rfl⟩ : ∃ m, k = m + 1 := ⟨k - 1, by omega⟩; simp [impl_DiceFrom.f, isSeed_f, isPlace_f, range_f, c0, impl_DiceFrom.j0]⟩⟩
  obtain ⟨l, b, hl, ⟨K1, h1⟩, ⟨K2, h2⟩⟩ := key
  obtain ⟨K3, h3⟩ := eqIntS_ev l (by omega)
  obtain ⟨K4, h4⟩ := markIntS_ev l 1 (by omega) (by omega) (by omega)
  obtain ⟨K5, h5⟩ := heldIntS_ev l.length 1 (by omega) (by omega) (by omega)
  refine ⟨K1 + K2 + K3 + K4 + K5 + 2, ?_⟩
  dsimp only at h1 h2 h3 h4 h5
  simp (disch := omega) only [laws_FnExactDiceFrom.f, laws_FnExactDiceFrom.j0, laws_FnExactDiceFrom.j1, h1, h2, h3, h4, h5, Option.bind_some, bne_self_eq_false, if_true, Bool.false_eq_true, if_false]
  simp (disch := omega) [show ¬ (1 + (l.length : Int) < 0) by omega, laws_FnExactDiceFrom.j0, laws_FnExactDiceFrom.j1, h1, h2, h3, h4, h5]

end Go.Proofs.Ytgjdonadnofdlaa.Pure
