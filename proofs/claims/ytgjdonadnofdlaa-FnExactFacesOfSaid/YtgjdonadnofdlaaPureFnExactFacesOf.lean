/- The program's FacesOf returns what the reference's returns, for every two numbers; its result is new memory each time. -/
import Derived.Test.YtgjdonadnofdlaaPx13
import Derived.Test.YtgjdonadnofdlaaLibA
import Derived.Test.YtgjdonadnofdlaaLibI
import Derived.Test.YtgjdonadnofdlaaOpenT
namespace Go.Proofs.Ytgjdonadnofdlaa.Pure
open Go.RowKit Go.Proofs.Ytgjdonadnofdlaa.P Go.Proofs.YtgjdonadnofdlaaW.PrintWords Go.Proofs.YtgjdonadnofdlaaW.PrintLast
set_option linter.unusedVariables false
set_option linter.unusedSimpArgs false

theorem faces_l (seed n : Int) (hn : n ≤ 600) (d : Nat) : ∀ (k : Nat) (i : Int) (l : List Int), 0 ≤ i → n - i = d → d < k → l.length = 6 →
    ∃ r, r.length = 6 ∧ impl_FacesOf.l0 k seed l n i = some (r, true) ∧ Ev (fun k => spec_FacesOf.l0 k seed n l i) (r, true) := by
  induction d with
  | zero =>
    intro k i l h0 hd hk hl
    obtain ⟨k, rfl⟩ : ∃ m, k = m + 1 := ⟨k - 1, by omega⟩
    refine ⟨l, hl, ?_, 1, fun k hk => ?_⟩
    · simp only [impl_FacesOf.l0]; rw [if_neg (by omega)]
    · obtain ⟨k, rfl⟩ : ∃ m, k = m + 1 := ⟨k - 1, by omega⟩
      simp only [spec_FacesOf.l0]; rw [if_neg (by omega)]
  | succ d ih =>
    intro k i l h0 hd hk hl
    obtain ⟨k, rfl⟩ : ∃ m, k = m + 1 := ⟨k - 1, by omega⟩
    have hb := dieV_bd seed i
    have hw : wrap64 (dieV seed i - 1) = dieV seed i - 1 := w64 (by omega) (by omega)
    have hw2 : wrap64 (i + 1) = i + 1 := w64 (by omega) (by omega)
    obtain ⟨r, hr, h1, h2⟩ := ih k (i + 1) (l.set (dieV seed i - 1).toNat (wrap64 (rd l (dieV seed i - 1) + 1))) (by omega) (by omega) (by omega) (by simp; exact hl)
    refine ⟨r, hr, ?_, ?_⟩
    · simp only [impl_FacesOf.l0]
      rw [if_pos (by omega), dieAt_f, Option.bind_some, hw, hw2, if_pos (by omega), if_pos (by omega), h1]
    · refine Ev.step (f := fun k => (spec_dDie.f k seed i).bind fun t => if 0 ≤ wrap64 (t - 1) then (if wrap64 (t - 1) < (l.length : Int) then spec_FacesOf.l0 k seed n (l.set (wrap64 (t - 1) : Int).toNat (wrap64 ((rd l (wrap64 (t - 1))) + 1))) (wrap64 (i + 1)) else none) else none) (fun k => ?_) ?_
      · simp only [spec_FacesOf.l0]; rw [if_pos (by omega)]
      · refine Ev.bind (f := fun k t => if 0 ≤ wrap64 (t - 1) then (if wrap64 (t - 1) < (l.length : Int) then spec_FacesOf.l0 k seed n (l.set (wrap64 (t - 1) : Int).toNat (wrap64 ((rd l (wrap64 (t - 1))) + 1))) (wrap64 (i + 1)) else none) else none) (dDie_ev seed i) ?_
        refine Ev.congr (f := fun k => spec_FacesOf.l0 k seed n (l.set (dieV seed i - 1).toNat (wrap64 (rd l (dieV seed i - 1) + 1))) (i + 1)) (fun k => ?_) h2
        rw [hw, hw2, if_pos (by omega), if_pos (by omega)]
theorem FnExactFacesOf : laws_FnExactFacesOf.Pure := by
  intro a n _ _
  have key : ∃ l b, l.length ≤ 6 ∧ Ev (fun k => spec_FacesOf.f k a n) (l, b) ∧ Ev (fun k => impl_FacesOf.f k a n) (l, b) := by
    by_cases c0 : 0 ≤ a ∧ a ≤ 4611686016279904236
    · by_cases c1 : 0 ≤ n ∧ n ≤ 600
      · obtain ⟨r, hr, h1, K2, h2⟩ := faces_l a n c1.2 n.toNat (n.toNat + 1) 0 (List.replicate 6 0) (by omega) (by omega) (by omega) (by simp)
        dsimp only at h2
        refine ⟨r, true, by omega, ⟨K2 + 1, fun k hk => ?_⟩, ⟨n.toNat + 2, fun k hk => ?_⟩⟩
        · obtain ⟨k, rfl⟩ : ∃ m, k = m + 1 := ⟨k - 1, by omega⟩
          simp [spec_FacesOf.f, dSeed_f, in_f, c0, c1, spec_FacesOf.j0]
          simpa using h2 k (by omega)
        · obtain ⟨k, rfl⟩ : ∃ m, k = m + 1 := ⟨k - 1, by omega⟩
          have h3 := at_rounds (fun k => (impl_FacesOf.mono_l k).2 a (List.replicate 6 0) n 0) (show n.toNat + 1 ≤ k by omega) h1
          simp [impl_FacesOf.f, isSeed_f, range_f, c0, c1, impl_FacesOf.j0]
          simpa using h3
      · exact ⟨[], false, by simp, ⟨1, fun k hk => by obtain ⟨k, rfl⟩ : ∃ m, k = m + 1 := ⟨k - 1, by omega⟩; simp [spec_FacesOf.f, dSeed_f, in_f, c0, c1, spec_FacesOf.j0]⟩, ⟨1, fun k hk => by obtain ⟨k, rfl⟩ : ∃ m, k = m + 1 := ⟨k - 1, by omega⟩; simp [impl_FacesOf.f, isSeed_f, range_f, c0, c1, impl_FacesOf.j0]⟩⟩
    · exact ⟨[], false, by simp, ⟨1, fun k hk => by obtain ⟨k, rfl⟩ : ∃ m, k = m + 1 := ⟨k - 1, by omega⟩; simp [spec_FacesOf.f, dSeed_f, in_f, c0, spec_FacesOf.j0]⟩, ⟨1, fun k hk => by obtain ⟨k, rfl⟩ : ∃ m, k = m + 1 := ⟨k - 1, by omega⟩; simp [impl_FacesOf.f, isSeed_f, range_f, c0, impl_FacesOf.j0]⟩⟩
  obtain ⟨l, b, hl, ⟨K1, h1⟩, ⟨K2, h2⟩⟩ := key
  obtain ⟨K3, h3⟩ := eqIntS_ev l (by omega)
  obtain ⟨K4, h4⟩ := markIntS_ev l 1 (by omega) (by omega) (by omega)
  obtain ⟨K5, h5⟩ := heldIntS_ev l.length 1 (by omega) (by omega) (by omega)
  refine ⟨K1 + K2 + K3 + K4 + K5 + 2, ?_⟩
  dsimp only at h1 h2 h3 h4 h5
  simp (disch := omega) only [laws_FnExactFacesOf.f, laws_FnExactFacesOf.j0, laws_FnExactFacesOf.j1, h1, h2, h3, h4, h5, Option.bind_some, bne_self_eq_false, if_true, Bool.false_eq_true, if_false]
  simp (disch := omega) [show ¬ (1 + (l.length : Int) < 0) by omega, laws_FnExactFacesOf.j0, laws_FnExactFacesOf.j1, h1, h2, h3, h4, h5]

end Go.Proofs.Ytgjdonadnofdlaa.Pure
