/- The program's ShuffleBy returns what the reference's returns, for every two numbers; its result is new memory each time. -/
import Derived.Test.YtgjdonadnofdlaaPx21
import Derived.Test.YtgjdonadnofdlaaLibA
import Derived.Test.YtgjdonadnofdlaaLibI
import Derived.Test.YtgjdonadnofdlaaOpenT
namespace Go.Proofs.Ytgjdonadnofdlaa.Pure
open Go.RowKit Go.Proofs.Ytgjdonadnofdlaa.P Go.Proofs.YtgjdonadnofdlaaW.PrintWords Go.Proofs.YtgjdonadnofdlaaW.PrintLast
set_option linter.unusedVariables false
set_option linter.unusedSimpArgs false

theorem shuffle_b (seed : Int) (d : Nat) : ∀ (k : Nat) (l : List Int) (i : Int), i ≤ d → i < l.length → l.length ≤ 40 → -1 ≤ i → d + 1 < k →
    ∃ r, r.length = l.length ∧ impl_ShuffleBy.l1 k seed l i = some (r, true) ∧ Ev (fun k => spec_dShuffle.l1 k seed l i) r := by
  induction d with
  | zero =>
    intro k l i h0 h1 hl hi hk
    obtain ⟨k, rfl⟩ : ∃ m, k = m + 1 := ⟨k - 1, by omega⟩
    refine ⟨l, rfl, ?_, 1, fun k hk => ?_⟩
    · simp only [impl_ShuffleBy.l1]; rw [if_neg (by omega)]
    · obtain ⟨k, rfl⟩ : ∃ m, k = m + 1 := ⟨k - 1, by omega⟩
      simp only [spec_dShuffle.l1]; rw [if_neg (by omega)]
  | succ d ih =>
    intro k l i h0 h1 hl hi hk
    obtain ⟨k, rfl⟩ : ∃ m, k = m + 1 := ⟨k - 1, by omega⟩
    rcases Int.lt_or_le i 1 with hlt | hge
    · refine ⟨l, rfl, ?_, 1, fun k hk => ?_⟩
      · simp only [impl_ShuffleBy.l1]; rw [if_neg (by omega)]
      · obtain ⟨k, rfl⟩ : ∃ m, k = m + 1 := ⟨k - 1, by omega⟩
        simp only [spec_dShuffle.l1]; rw [if_neg (by omega)]
    · have hw : wrap64 (i + 1) = i + 1 := w64 (by omega) (by omega)
      have hw2 : wrap64 (i - 1) = i - 1 := w64 (by omega) (by omega)
      obtain ⟨b0, b1⟩ := belowV_bd seed i (i + 1) (by omega)
      obtain ⟨r, hr, e1, e2⟩ := ih k ((l.set i.toNat (rd l (belowV seed i (i + 1)))).set (belowV seed i (i + 1)).toNat (rd l i)) (i - 1) (by omega) (by simp; omega) (by simp; omega) (by omega) (by omega)
      refine ⟨r, by simpa using hr, ?_, ?_⟩
      · simp only [impl_ShuffleBy.l1]
        rw [if_pos hge, hw, numberBelow_f _ _ _ (by omega), Option.bind_some, if_pos (by omega), if_pos (by omega), if_pos (by omega), if_pos (by omega), hw2, e1]
      · refine Ev.step (f := fun k => (spec_dBelow.f k seed i (i + 1)).bind fun t => (if 0 ≤ i then (if i < (l.length : Int) then (if 0 ≤ t then (if t < (l.length : Int) then (spec_dShuffle.l1 k seed ((l.set (i : Int).toNat (rd l t)).set (t : Int).toNat (rd l i)) (i - 1)) else (none)) else (none)) else (none)) else (none))) (fun k => ?_) ?_
        · simp only [spec_dShuffle.l1]; rw [if_pos hge, hw, hw2]
        · refine Ev.bind (f := fun k t => (if 0 ≤ i then (if i < (l.length : Int) then (if 0 ≤ t then (if t < (l.length : Int) then (spec_dShuffle.l1 k seed ((l.set (i : Int).toNat (rd l t)).set (t : Int).toNat (rd l i)) (i - 1)) else (none)) else (none)) else (none)) else (none))) (dBelow_ev seed i (i + 1) (by omega)) ?_
          refine Ev.congr (fun k => ?_) e2
          rw [if_pos (by omega), if_pos (by omega), if_pos (by omega), if_pos (by omega)]
theorem shuffle_a (seed n : Int) (hn0 : 0 ≤ n) (hn : n ≤ 40) (d : Nat) : ∀ (k : Nat) (l : List Int) (i : Int), i = l.length → n - i = d → d + 43 < k →
    ∃ r, r.length ≤ 40 ∧ impl_ShuffleBy.l0 k seed n l n i = some (r, true) ∧ Ev (fun k => spec_dShuffle.l0 k seed n l i) r := by
  induction d with
  | zero =>
    intro k l i hi hd hk
    obtain ⟨k, rfl⟩ : ∃ m, k = m + 1 := ⟨k - 1, by omega⟩
    have hw : wrap64 (n - 1) = n - 1 := w64 (by omega) (by omega)
    obtain ⟨r, hr, e1, e2⟩ := shuffle_b seed 40 k l (n - 1) (by omega) (by omega) (by omega) (by omega) (by omega)
    refine ⟨r, by omega, ?_, ?_⟩
    · simp only [impl_ShuffleBy.l0]; rw [if_neg (by omega), hw, e1]
    · refine Ev.step (fun k => ?_) e2
      simp only [spec_dShuffle.l0]; rw [if_neg (by omega), hw]
  | succ d ih =>
    intro k l i hi hd hk
    obtain ⟨k, rfl⟩ : ∃ m, k = m + 1 := ⟨k - 1, by omega⟩
    have hw : wrap64 (i + 1) = i + 1 := w64 (by omega) (by omega)
    obtain ⟨r, hr, e1, e2⟩ := ih k (l ++ [i]) (i + 1) (by simp; omega) (by omega) (by omega)
    refine ⟨r, hr, ?_, ?_⟩
    · simp only [impl_ShuffleBy.l0]; rw [if_pos (by omega), if_pos (by omega), hw, e1]
    · refine Ev.step (fun k => ?_) e2
      simp only [spec_dShuffle.l0]; rw [if_pos (by omega), if_pos (by omega), hw]
theorem FnExactShuffleBy : laws_FnExactShuffleBy.Pure := by
  intro a n _ _
  have key : ∃ l b, l.length ≤ 40 ∧ Ev (fun k => spec_ShuffleBy.f k a n) (l, b) ∧ Ev (fun k => impl_ShuffleBy.f k a n) (l, b) := by
    by_cases c0 : 0 ≤ a ∧ a ≤ 4611686016279904236
    · by_cases c1 : 0 ≤ n ∧ n ≤ 40
      · obtain ⟨r, hr, h1, K2, h2⟩ := shuffle_a a n c1.1 c1.2 n.toNat (n.toNat + 44) [] 0 rfl (by omega) (by omega)
        dsimp only at h2
        refine ⟨r, true, by omega, ⟨K2 + 1, fun k hk => ?_⟩, ⟨n.toNat + 45, fun k hk => ?_⟩⟩
        · simp [spec_ShuffleBy.f, spec_dShuffle.f, dSeed_f, in_f, c0, c1, h2 k (by omega)]
        · obtain ⟨k, rfl⟩ : ∃ m, k = m + 1 := ⟨k - 1, by omega⟩
          have h3 := at_rounds (fun k => (impl_ShuffleBy.mono_l k).2.1 a n [] n 0) (show n.toNat + 44 ≤ k by omega) h1
          simp [impl_ShuffleBy.f, isSeed_f, range_f, c0, c1, impl_ShuffleBy.j0]
          simpa using h3
      · exact ⟨[], false, by simp, ⟨1, fun k hk => by simp [spec_ShuffleBy.f, dSeed_f, in_f, c0, c1]⟩, ⟨1, fun k hk => by obtain ⟨k, rfl⟩ : ∃ m, k = m + 1 := ⟨k - 1, by omega⟩; simp [impl_ShuffleBy.f, isSeed_f, range_f, c0, c1, impl_ShuffleBy.j0]⟩⟩
    · exact ⟨[], false, by simp, ⟨1, fun k hk => by simp [spec_ShuffleBy.f, dSeed_f, in_f, c0]⟩, ⟨1, fun k hk => by obtain ⟨k, rfl⟩ : ∃ m, k = m + 1 := ⟨k - 1, by omega⟩; simp [impl_ShuffleBy.f, isSeed_f, range_f, c0, impl_ShuffleBy.j0]⟩⟩
  obtain ⟨l, b, hl, ⟨K1, h1⟩, ⟨K2, h2⟩⟩ := key
  obtain ⟨K3, h3⟩ := eqIntS_ev l (by omega)
  obtain ⟨K4, h4⟩ := markIntS_ev l 1 (by omega) (by omega) (by omega)
  obtain ⟨K5, h5⟩ := heldIntS_ev l.length 1 (by omega) (by omega) (by omega)
  refine ⟨K1 + K2 + K3 + K4 + K5 + 2, ?_⟩
  dsimp only at h1 h2 h3 h4 h5
  simp (disch := omega) only [laws_FnExactShuffleBy.f, laws_FnExactShuffleBy.j0, laws_FnExactShuffleBy.j1, h1, h2, h3, h4, h5, Option.bind_some, bne_self_eq_false, if_true, Bool.false_eq_true, if_false]
  simp (disch := omega) [show ¬ (1 + (l.length : Int) < 0) by omega, laws_FnExactShuffleBy.j0, laws_FnExactShuffleBy.j1, h1, h2, h3, h4, h5]

end Go.Proofs.Ytgjdonadnofdlaa.Pure
