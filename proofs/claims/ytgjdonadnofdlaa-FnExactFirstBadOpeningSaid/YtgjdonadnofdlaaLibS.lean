/- Plain lemmas on seals: what SealOrders comes to in the reference and in the program. -/
import Derived.Test.YtgjdonadnofdlaaPx35
import Derived.Test.YtgjdonadnofdlaaPx36
import Derived.Test.YtgjdonadnofdlaaLibA
namespace Go.Proofs.Ytgjdonadnofdlaa.Pure
open Go.RowKit Go.Proofs.Ytgjdonadnofdlaa.P Go.Proofs.YtgjdonadnofdlaaW.PrintWords Go.Proofs.YtgjdonadnofdlaaW.PrintLast
set_option linter.unusedVariables false
set_option linter.unusedSimpArgs false

theorem isTurn_f (a : Int) : impl_isTurn.f a = some (decide (0 ≤ a ∧ a ≤ 30)) := by unfold impl_isTurn.f; rw [range_f]; rfl
theorem isSide_f (a : Int) : impl_isSide.f a = some (decide (0 ≤ a ∧ a ≤ 1)) := by unfold impl_isSide.f; rw [range_f]; rfl
theorem eOpening_f (n : Int) (s : ByteArray) : spec_eOpening.f n s = some (decide (0 ≤ n ∧ n ≤ 4611686016279904236) && decide ((s.size : Int) ≤ 150)) := by
  unfold spec_eOpening.f
  rw [dSeed_f]
  by_cases h : 0 ≤ n ∧ n ≤ 4611686016279904236 <;> simp [h]
theorem goodOpening_f (n : Int) (s : ByteArray) : impl_goodOpening.f n s = some (decide (0 ≤ n ∧ n ≤ 4611686016279904236) && decide ((s.size : Int) ≤ 150)) := by
  unfold impl_goodOpening.f
  rw [isSeed_f]
  by_cases h : 0 ≤ n ∧ n ≤ 4611686016279904236 <;> simp [h]
/-- The number of a seal. -/
def sealV (turn side nonce : Int) (s : ByteArray) : Int := hashV ([11, turn, side, nonce] ++ bytesV s)
theorem eSeal_ev (turn side nonce : Int) (s : ByteArray) (hs : (s.size : Int) ≤ 150) : Ev (fun k => spec_eSeal.f k turn side nonce s) (turn, side, sealV turn side nonce s) := by
  have hl : ([11, turn, side, nonce] ++ bytesV s).length ≤ 2000000 := by rw [List.length_append, bytesV_length]; simp; omega
  obtain ⟨K1, h1⟩ := dBytes_ev s (by omega)
  obtain ⟨K2, h2⟩ := dHash_ev ([11, turn, side, nonce] ++ bytesV s) hl
  refine ⟨K1 + K2, fun k hk => ?_⟩
  dsimp only at h1 h2
  have e : ([11, turn, side, nonce] : List Int).length + (bytesV s).length < 17592186044416 := by rw [bytesV_length]; simp; omega
  simp only [spec_eSeal.f, Option.bind_some, h1 k (by omega), e, if_true, h2 k (by omega), sealV]
/-- What SealOrders comes to. -/
def soV (turn side nonce : Int) (s : ByteArray) : Int × Int × Int × Bool :=
  if 0 ≤ turn ∧ turn ≤ 30 ∧ 0 ≤ side ∧ side ≤ 1 ∧ 0 ≤ nonce ∧ nonce ≤ 4611686016279904236 ∧ (s.size : Int) ≤ 150 then (turn, side, sealV turn side nonce s, true) else (0, 0, 0, false)
theorem specSO_ev (turn side nonce : Int) (s : ByteArray) : Ev (fun k => spec_SealOrders.f k turn side nonce s) (soV turn side nonce s) := by
  unfold soV
  by_cases c0 : 0 ≤ turn ∧ turn ≤ 30
  · by_cases c1 : 0 ≤ side ∧ side ≤ 1
    · by_cases c2 : 0 ≤ nonce ∧ nonce ≤ 4611686016279904236
      · by_cases c3 : (s.size : Int) ≤ 150
        · obtain ⟨K, h⟩ := eSeal_ev turn side nonce s c3
          dsimp only at h
          exact ⟨K, fun k hk => by simp [spec_SealOrders.f, in_f, eOpening_f, c0, c1, c2, c3, h k hk]⟩
        · exact ⟨0, fun k hk => by simp [spec_SealOrders.f, in_f, eOpening_f, c0, c1, c2, c3]⟩
      · exact ⟨0, fun k hk => by simp [spec_SealOrders.f, in_f, eOpening_f, c0, c1, c2]; omega⟩
    · exact ⟨0, fun k hk => by simp [spec_SealOrders.f, in_f, eOpening_f, c0, c1]; omega⟩
  · exact ⟨0, fun k hk => by simp [spec_SealOrders.f, in_f, eOpening_f, c0]; omega⟩
theorem implSO_ev (turn side nonce : Int) (s : ByteArray) : Ev (fun k => impl_SealOrders.f k turn side nonce s) (soV turn side nonce s) := by
  unfold soV
  have J : ∀ k : Nat, 1 ≤ k → ∃ m, k = m + 1 := fun k hk => ⟨k - 1, by omega⟩
  by_cases c0 : 0 ≤ turn ∧ turn ≤ 30
  · by_cases c1 : 0 ≤ side ∧ side ≤ 1
    · by_cases c2 : 0 ≤ nonce ∧ nonce ≤ 4611686016279904236
      · by_cases c3 : (s.size : Int) ≤ 150
        · obtain ⟨K, h⟩ := withBytes_ev [11, turn, side, nonce] s (by simp) (by omega)
          have h2 := mix_f ([11, turn, side, nonce] ++ bytesV s) (by rw [List.length_append, bytesV_length]; simp; omega)
          dsimp only at h
          refine ⟨K + 1, fun k hk => ?_⟩
          obtain ⟨k, rfl⟩ := J k (by omega)
          simp only [impl_SealOrders.f, isTurn_f, isSide_f, goodOpening_f, c0, c1, c2, c3, impl_SealOrders.j0, h k (by omega), h2, Option.bind_some, and_self, decide_true, if_true, Bool.and_self, Bool.not_true, Bool.false_eq_true, if_false, sealV]
        · exact ⟨1, fun k hk => by obtain ⟨k, rfl⟩ := J k hk; simp [impl_SealOrders.f, isTurn_f, isSide_f, goodOpening_f, c0, c1, c2, c3, impl_SealOrders.j0]⟩
      · exact ⟨1, fun k hk => by obtain ⟨k, rfl⟩ := J k hk; simp [impl_SealOrders.f, isTurn_f, isSide_f, goodOpening_f, c0, c1, c2, impl_SealOrders.j0]; omega⟩
    · exact ⟨1, fun k hk => by obtain ⟨k, rfl⟩ := J k hk; simp [impl_SealOrders.f, isTurn_f, isSide_f, goodOpening_f, c0, c1, impl_SealOrders.j0]; omega⟩
  · exact ⟨1, fun k hk => by obtain ⟨k, rfl⟩ := J k hk; simp [impl_SealOrders.f, isTurn_f, isSide_f, goodOpening_f, c0, impl_SealOrders.j0]; omega⟩

end Go.Proofs.Ytgjdonadnofdlaa.Pure
