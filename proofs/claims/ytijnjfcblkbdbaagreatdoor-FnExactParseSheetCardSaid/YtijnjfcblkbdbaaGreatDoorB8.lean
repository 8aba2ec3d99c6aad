import Derived.Test.YtijnjfcblkbdbaaGreatDoorB6
import Derived.Test.YtijnjfcblkbdbaaGreatDoorB7
set_option linter.unusedSimpArgs false
set_option linter.unusedVariables false
set_option maxRecDepth 100000
set_option maxHeartbeats 2000000
namespace Go.Abs.W
open Go Go.Abs Classical
attribute [-simp] Bool.decide_and
theorem wrap_id {n : Int} (h0 : -9223372036854775808 ≤ n) (h1 : n < 9223372036854775808) : IntKind.i64.wrap n = n := by rw [IntKind.wrap_i64]; omega
/-- One round of the reference's reading of digits, whatever the byte. -/
def eStep (n : Int) (c : UInt8) : Int := IntKind.i64.wrap (IntKind.i64.wrap (IntKind.i64.wrap (10 * n) + c.toNat) - 48)
def eDig (l : List UInt8) : Int := l.foldl eStep 0
theorem eDig_dec (l : List UInt8) (hd : ∀ c ∈ l, Dig c) (hv : valD 0 l < 4611686018427387904) : eDig l = (valD 0 l : Int) := by
  have key : ∀ (l : List UInt8) (acc : Nat), (∀ c ∈ l, Dig c) → valD acc l < 4611686018427387904 → l.foldl eStep (acc : Int) = (valD acc l : Int) := by
    intro l
    induction l with
    | nil => intro acc _ _; simp [valD_nil]
    | cons c l ih =>
      intro acc hd hv
      have hc := hd c (by simp)
      unfold Dig at hc
      rw [valD_cons] at hv ⊢
      have h2 := valD_ge l (stepD acc c)
      have h3 : stepD acc c < 4611686018427387904 := Nat.lt_of_le_of_lt h2 hv
      have h4 : stepD acc c = acc * 10 + (c.toNat - 48) := by unfold stepD; rfl
      have h5 : eStep (acc : Int) c = ((stepD acc c : Nat) : Int) := by
        unfold eStep
        rw [wrap_id (n := 10 * (acc : Int)) (by omega) (by omega), wrap_id (n := 10 * (acc : Int) + c.toNat) (by omega) (by omega), wrap_id (by omega) (by omega)]
        omega
      rw [List.foldl_cons, h5]
      exact ih _ (fun d hd' => hd d (by simp [hd'])) hv
  exact key l 0 hd hv
theorem readP_dec (n : Nat) (h : n < 1000000) : readP (Lib.decDigits n) = n := by
  have h1 := decDigits_len n 5 (by simpa using h)
  have h2 := decDigits_ne n
  have h3 := decDigits_dig n
  have h4 : 1 ≤ (Lib.decDigits n).length := by
    cases hh : Lib.decDigits n with
    | nil => exact absurd hh h2
    | cons => simp
  have hz : ¬ ((Lib.decDigits n)[0]? = some 48 ∧ 1 < (Lib.decDigits n).length) := by
    rintro ⟨h5, h6⟩
    have key : ∀ n, 10 ≤ n → ∃ c r, Lib.decDigits n = c :: r ∧ c ≠ 48 := by
      intro n
      induction n using Nat.strongRecOn with
      | _ n ih =>
        intro hn
        rw [decDigits_big (by omega)]
        by_cases hs : n / 10 < 10
        · rw [decDigits_small hs]
          refine ⟨_, _, rfl, fun hh => ?_⟩
          have := (dig_of (n / 10) hs).2
          rw [hh] at this
          have h48 : (48 : UInt8).toNat = 48 := rfl
          omega
        · obtain ⟨c, r, hr, hc⟩ := ih (n / 10) (by omega) (by omega)
          exact ⟨c, r ++ _, by rw [hr]; rfl, hc⟩
    by_cases hn : n < 10
    · rw [decDigits_small hn] at h6; simp at h6
    · obtain ⟨c, r, hr, hc⟩ := key n (by omega)
      rw [hr] at h5
      exact hc (Option.some.inj h5)
  have hv := valD_dec n
  unfold readP
  rw [if_pos ⟨⟨h4, h1⟩, hz, h3⟩, hv]
/-- A seal's text, cut. -/
theorem cut_seal (x : Sealed) (h : SealedOK x) : cutAt 32 (sealB x) = [[115, 101, 97, 108], Lib.itoa x.turn, Lib.itoa x.side, Lib.itoa x.code] := by
  obtain ⟨h1, h2, h3⟩ := h
  obtain ⟨a, ha⟩ : ∃ k : Nat, x.turn = k := ⟨x.turn.toNat, by omega⟩
  obtain ⟨b, hb⟩ : ∃ k : Nat, x.side = k := ⟨x.side.toNat, by omega⟩
  obtain ⟨c, hc⟩ : ∃ k : Nat, x.code = k := ⟨x.code.toNat, by omega⟩
  rw [sealB_eq, ha, hb, hc, itoa_nat, itoa_nat, itoa_nat]
  have e1 : [115, 101, 97, 108, 32] ++ Lib.decDigits a ++ [32] ++ Lib.decDigits b ++ [32] ++ Lib.decDigits c = [115, 101, 97, 108] ++ 32 :: (Lib.decDigits a ++ 32 :: (Lib.decDigits b ++ 32 :: Lib.decDigits c)) := by simp
  rw [e1, cutAt_append 32 _ _ (by decide), cutAt_append 32 _ _ (notin_dec a 32 (by decide)), cutAt_append 32 _ _ (notin_dec b 32 (by decide)), cutAt_none 32 _ (notin_dec c 32 (by decide))]
theorem atoi_seal (n : Int) (h0 : 0 ≤ n) (h1 : n ≤ 4611686016279904236) : Lib.atoiAll (Lib.itoa n) = .ok n := by
  obtain ⟨a, rfl⟩ : ∃ k : Nat, n = k := ⟨n.toNat, by omega⟩
  rw [itoa_nat]
  exact atoi_itoa a (by omega)
theorem sealB_inj {x y : Sealed} (hx : SealedOK x) (hy : SealedOK y) (h : sealB x = sealB y) : x = y := by
  have h1 := cut_seal x hx
  rw [h, cut_seal y hy] at h1
  simp only [List.cons.injEq, and_true, true_and] at h1
  obtain ⟨a, b, c⟩ := h1
  obtain ⟨x1, x2, x3⟩ := hx
  obtain ⟨y1, y2, y3⟩ := hy
  have e1 := atoi_seal x.turn x1.1 (by omega)
  have e2 := atoi_seal x.side x2.1 (by omega)
  have e3 := atoi_seal x.code x3.1 (by omega)
  rw [← a, atoi_seal y.turn y1.1 (by omega)] at e1
  rw [← b, atoi_seal y.side y2.1 (by omega)] at e2
  rw [← c, atoi_seal y.code y3.1 (by omega)] at e3
  cases x; cases y
  injection e1 with e1; injection e2 with e2; injection e3 with e3
  simp_all
open Classical in
/-- The seal that a text tells. -/
noncomputable def sealOf (l : List UInt8) : Sealed := if h : ∃ x, SealedOK x ∧ sealB x = l then h.choose else ⟨0, 0, 0⟩
def IsSealText (l : List UInt8) : Prop := ∃ x, SealedOK x ∧ sealB x = l
theorem sealOf_eq {x : Sealed} {l : List UInt8} (h : SealedOK x) (ht : sealB x = l) : sealOf l = x := by
  have hex : ∃ x, SealedOK x ∧ sealB x = l := ⟨x, h, ht⟩
  unfold sealOf
  rw [dif_pos hex]
  exact sealB_inj hex.choose_spec.1 h (hex.choose_spec.2.trans ht.symm)
theorem sealOf_none {l : List UInt8} (h : ¬ IsSealText l) : sealOf l = ⟨0, 0, 0⟩ := by
  unfold sealOf
  exact dif_neg h
noncomputable def sealAV (l : List UInt8) : AV := .tup [some (.agg (sealOf l).enc), some (.one (.bool (decide (IsSealText l))))]
theorem sealAV_yes {x : Sealed} {l : List UInt8} (h : SealedOK x) (ht : sealB x = l) : sealAV l = .tup [some (.agg [.int .i64 x.turn, .int .i64 x.side, .int .i64 x.code]), some (.one (.bool true))] := by
  have : IsSealText l := ⟨x, h, ht⟩
  unfold sealAV
  rw [sealOf_eq h ht, decide_eq_true this]; rfl
theorem sealAV_no {l : List UInt8} (h : ¬ IsSealText l) : sealAV l = .tup [some (.agg [.int .i64 0, .int .i64 0, .int .i64 0]), some (.one (.bool false))] := by
  unfold sealAV
  rw [sealOf_none h, decide_eq_false h]; rfl
theorem len4 {α : Type} {l : List α} (h : l.length = 4) : ∃ a b c d, l = [a, b, c, d] := by
  match l, h with
  | [a, b, c, d], _ => exact ⟨a, b, c, d, rfl⟩
theorem cut_len (c : UInt8) (l : List UInt8) : ∀ w ∈ cutAt c l, w.length ≤ l.length := by
  induction l with
  | nil => intro w hw; simp [cutAt] at hw; subst hw; simp
  | cons b l ih =>
    intro w hw
    unfold cutAt at hw
    split at hw
    · rcases List.mem_cons.1 hw with rfl | hw
      · simp
      · have := ih w hw; simp; omega
    · split at hw
      · rename_i h t heq
        rcases List.mem_cons.1 hw with rfl | hw
        · have := ih h (by rw [heq]; simp); simp; omega
        · have := ih w (by rw [heq]; simp [hw]); simp; omega
      · simp at hw; subst hw; simp
end Go.Abs.W
