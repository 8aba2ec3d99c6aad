/- The program's JointSeed returns what the reference's returns, for all arguments, and leaves the list alone. -/
import Derived.Test.YtgjdonadnofdlaaPx34
import Derived.Test.YtgjdonadnofdlaaLibA
import Derived.Test.YtgjdonadnofdlaaLibI
import Derived.Test.YtgjdonadnofdlaaOpenT
namespace Go.Proofs.Ytgjdonadnofdlaa.Pure
open Go.RowKit Go.Proofs.Ytgjdonadnofdlaa.P Go.Proofs.YtgjdonadnofdlaaW.PrintWords Go.Proofs.YtgjdonadnofdlaaW.PrintLast
set_option linter.unusedVariables false
set_option linter.unusedSimpArgs false

theorem all_l (l : List Int) (hl : l.length ≤ 1048576) (d : Nat) : ∀ (k i : Nat), i + d = l.length → d < k → spec_l1All.l0 k 0 4611686016279904236 l (l.length : Int) (i : Int) = some ((l.drop i).all fun a => decide (0 ≤ a ∧ a ≤ 4611686016279904236)) := by
  induction d with
  | zero =>
    intro k i hi hk
    obtain ⟨k, rfl⟩ : ∃ m, k = m + 1 := ⟨k - 1, by omega⟩
    simp only [spec_l1All.l0]; rw [if_neg (by omega), List.drop_of_length_le (by omega)]; simp
  | succ d ih =>
    intro k i hi hk
    obtain ⟨k, rfl⟩ : ∃ m, k = m + 1 := ⟨k - 1, by omega⟩
    have hi' : i < l.length := by omega
    have e : rd l (i : Int) = l[i] := by rw [rd_nat]; simp [hi']
    simp only [spec_l1All.l0]
    rw [if_pos (by omega), if_pos (by omega), if_pos (by omega), e, in_f, Option.bind_some, w64 (by omega) (by omega), show ((i : Int) + 1) = ((i + 1 : Nat) : Int) from by omega, ih k (i + 1) (by omega) (by omega), List.drop_eq_getElem_cons hi', List.all_cons]
    by_cases c : 0 ≤ l[i] ∧ l[i] ≤ 4611686016279904236 <;> simp [c]
theorem bad_j (l : List Int) (hl : l.length ≤ 1048576) (d : Nat) : ∀ (k i : Nat), i + d = l.length → d < k → ∃ r, slices_IndexFunc_impl_JointSeed_1.l0 k l (l.length : Int) (i : Int) = some r ∧ decide (r ≥ 0) = !((l.drop i).all fun a => decide (0 ≤ a ∧ a ≤ 4611686016279904236)) := by
  induction d with
  | zero =>
    intro k i hi hk
    obtain ⟨k, rfl⟩ : ∃ m, k = m + 1 := ⟨k - 1, by omega⟩
    refine ⟨-1, ?_, ?_⟩
    · simp only [slices_IndexFunc_impl_JointSeed_1.l0]; rw [if_neg (by omega)]
    · rw [List.drop_of_length_le (by omega)]; simp
  | succ d ih =>
    intro k i hi hk
    obtain ⟨k, rfl⟩ : ∃ m, k = m + 1 := ⟨k - 1, by omega⟩
    have hi' : i < l.length := by omega
    have e : rd l (i : Int) = l[i] := by rw [rd_nat]; simp [hi']
    obtain ⟨r, h1, h2⟩ := ih k (i + 1) (by omega) (by omega)
    simp only [slices_IndexFunc_impl_JointSeed_1.l0]
    rw [if_pos (by omega), if_pos (by omega), if_pos (by omega), e, show impl_JointSeed_1.f l[i] = some (!decide (0 ≤ l[i] ∧ l[i] ≤ 4611686016279904236)) from by unfold impl_JointSeed_1.f; rw [isSeed_f]; rfl, Option.bind_some, w64 (by omega) (by omega), show ((i : Int) + 1) = ((i + 1 : Nat) : Int) from by omega, List.drop_eq_getElem_cons hi', List.all_cons]
    by_cases c : 0 ≤ l[i] ∧ l[i] ≤ 4611686016279904236
    · exact ⟨r, by simpa [c] using h1, by simpa [c] using h2⟩
    · exact ⟨(i : Int), by simp [c], by simp [c]⟩
theorem FnExactJointSeed : ∀ (a0 : Int) (x1 : List Int), ((Lit.int .i64 a0).wf = true) → (x1.length ≤ maxLen ∧ ∀ a ∈ x1, Rd.I64 a) → ∃ k, laws_FnExactJointSeed.f k a0 x1 = some true := by
  intro t l _ _
  by_cases hs : (l.length : Int) > 1048576
  · exact ⟨0, by unfold laws_FnExactJointSeed.f; rw [if_pos hs]⟩
  have key : ∃ r, Ev (fun k => spec_JointSeed.f k t l) r ∧ Ev (fun k => impl_JointSeed.f k t l) r := by
    by_cases c0 : 0 ≤ t ∧ t ≤ 30
    · by_cases c1 : 1 ≤ (l.length : Int) ∧ (l.length : Int) ≤ 4
      · have hl : ([12, t] ++ l).length ≤ 2000000 := by simp; omega
        obtain ⟨K, h⟩ := dHash_ev ([12, t] ++ l) hl
        have h4 := mix_f ([12, t] ++ l) hl
        have hlt : ([12, t] : List Int).length + l.length < 17592186044416 := by simp; omega
        dsimp only at h
        by_cases c2 : (l.all fun a => decide (0 ≤ a ∧ a ≤ 4611686016279904236)) = true
        · refine ⟨(hashV ([12, t] ++ l), true), ⟨K + l.length + 1, fun k hk => ?_⟩, ⟨l.length + 1, fun k hk => ?_⟩⟩
          · have e := all_l l (by omega) l.length k 0 (by omega) (by omega)
            rw [show ((0 : Nat) : Int) = 0 from rfl, List.drop_zero, c2] at e
            simp only [spec_JointSeed.f, in_f, c0, c1, and_self, decide_true, Option.bind_some, if_true, spec_l1All.f, e, spec_eJoint.f, hlt, h k (by omega)]
          · obtain ⟨r, e1, e2⟩ := bad_j l (by omega) l.length k 0 (by omega) (by omega)
            rw [show ((0 : Nat) : Int) = 0 from rfl] at e1
            rw [List.drop_zero, c2] at e2
            simp only [impl_JointSeed.f, impl_isTurn.f, range_f, c0, c1, and_self, decide_true, Option.bind_some, if_true, slices_ContainsFunc_impl_JointSeed_1.f, slices_IndexFunc_impl_JointSeed_1.f, e1, e2, Bool.not_true, Bool.false_eq_true, if_false, hlt, h4]
        · rw [Bool.not_eq_true] at c2
          refine ⟨(0, false), ⟨l.length + 1, fun k hk => ?_⟩, ⟨l.length + 1, fun k hk => ?_⟩⟩
          · have e := all_l l (by omega) l.length k 0 (by omega) (by omega)
            rw [show ((0 : Nat) : Int) = 0 from rfl, List.drop_zero, c2] at e
            simp only [spec_JointSeed.f, in_f, c0, c1, and_self, decide_true, Option.bind_some, if_true, spec_l1All.f, e, Bool.false_eq_true, if_false]
          · obtain ⟨r, e1, e2⟩ := bad_j l (by omega) l.length k 0 (by omega) (by omega)
            rw [show ((0 : Nat) : Int) = 0 from rfl] at e1
            rw [List.drop_zero, c2] at e2
            simp only [impl_JointSeed.f, impl_isTurn.f, range_f, c0, c1, and_self, decide_true, Option.bind_some, if_true, slices_ContainsFunc_impl_JointSeed_1.f, slices_IndexFunc_impl_JointSeed_1.f, e1, e2, Bool.not_false]
      · exact ⟨(0, false), ⟨0, fun k _ => by simp only [spec_JointSeed.f, in_f, c0, c1]; simp⟩, ⟨0, fun k _ => by simp only [impl_JointSeed.f, impl_isTurn.f, range_f, c0, c1]; simp⟩⟩
    · exact ⟨(0, false), ⟨0, fun k _ => by simp [spec_JointSeed.f, in_f, c0]⟩, ⟨0, fun k _ => by simp [impl_JointSeed.f, impl_isTurn.f, range_f, c0]⟩⟩
  obtain ⟨r, ⟨K1, h1⟩, ⟨K2, h2⟩⟩ := key
  obtain ⟨K3, h3⟩ := toIntS_ev l (by omega)
  obtain ⟨K4, h4⟩ := eqIntS_ev l (by omega)
  dsimp only at h1 h2 h3 h4
  refine ⟨K1 + K2 + K3 + K4 + 1, ?_⟩
  simp (disch := omega) only [laws_FnExactJointSeed.f, laws_FnExactJointSeed.j0, hs, if_false, h1, h2, h3, h4, Option.bind_some, if_true, bne_self_eq_false]
  simp (disch := omega) [laws_FnExactJointSeed.j0, h3, h4]

end Go.Proofs.Ytgjdonadnofdlaa.Pure
