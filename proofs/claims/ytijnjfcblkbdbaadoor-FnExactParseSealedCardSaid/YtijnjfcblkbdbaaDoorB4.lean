import Derived.Test.YtijnjfcblkbdbaaDoorB2
import Derived.Test.YtijnjfcblkbdbaaDoorB3
set_option linter.unusedSimpArgs false
set_option linter.unusedVariables false
set_option maxRecDepth 100000
set_option maxHeartbeats 2000000
namespace Go.Abs.W
open Go Go.Abs Classical
attribute [-simp] Bool.decide_and
theorem wrap_id {n : Int} (h0 : -9223372036854775808 ≤ n) (h1 : n < 9223372036854775808) : IntKind.i64.wrap n = n := by rw [IntKind.wrap_i64]; omega
/-- One round of the reference's reading of digits, whatever the byte. -/
def eStep (n : Int) (c : UInt8) : Int := IntKind.i64.wrap (IntKind.i64.wrap (IntKind.i64.wrap (10 * n) + c.toNat) - 48)
def eDig (l : List UInt8) : Int := l.foldl eStep 0
theorem c_spec_eDigits (l : List UInt8) (hl : l.length ≤ 19) : C n_spec_eDigits [St (bs l)] = some (I (eDig l)) := by
  refine callC p_spec_eDigits rfl ?_
  simp [xRun, a_spec_eDigits]
  refine list_loop l (by omega) (fun i (n : Int) => [(3, I n), (4, I (i : Int))]) (fun i n => n = eDig (l.take i)) 0 (by simp) (by simp [eDig]) ?_ ?_
  · intro N E i a n ha hi hm ht hwi hn hN hE
    have h1 : (i : Int) < 19 := by omega
    have hc : IntKind.i64.wrap (a.toNat : Int) = (a.toNat : Int) := wrap_small (by omega) (by have := a.toNat_lt; omega)
    have hs : IntKind.i64.wrap (IntKind.i64.wrap (IntKind.i64.wrap (10 * n) + (a.toNat : Int)) - 48) = eStep n a := rfl
    simp [bodyF, b_spec_eDigits_0, hi, ha, at_of ha, hwi, bs_size, h1, hc, hs]
    refine hN _ (eStep n a) (by simp) ?_
    rw [ht, hn]; simp [eDig]
  · intro N E n hn hE
    rw [List.take_length] at hn
    simp [bodyF, b_spec_eDigits_0, bs_size]
    exact hE _ _ fun st => by simp [hn]
theorem eDig_dec (l : List UInt8) (hd : ∀ c ∈ l, Dig c) (hv : valD 0 l < 4611686018427387904) : eDig l = (valD 0 l : Int) := by
  have key : ∀ (l : List UInt8) (acc : Nat), (∀ c ∈ l, Dig c) → valD acc l < 4611686018427387904 → l.foldl eStep (acc : Int) = (valD acc l : Int) := by
    intro l
    induction l with
    | nil => intro acc _ _; simp [valD_nil]
    | cons c l ih =>
      intro acc hd hv
      have hc := hd c (by simp)
      unfold Dig at hc
      rw [valD_cons] at hv ⊢
      have h2 := valD_ge l (stepD acc c)
      have h3 : stepD acc c < 4611686018427387904 := Nat.lt_of_le_of_lt h2 hv
      have h4 : stepD acc c = acc * 10 + (c.toNat - 48) := by unfold stepD; rfl
      have h5 : eStep (acc : Int) c = ((stepD acc c : Nat) : Int) := by
        unfold eStep
        rw [wrap_id (n := 10 * (acc : Int)) (by omega) (by omega), wrap_id (n := 10 * (acc : Int) + c.toNat) (by omega) (by omega), wrap_id (by omega) (by omega)]
        omega
      rw [List.foldl_cons, h5]
      exact ih _ (fun d hd' => hd d (by simp [hd'])) hv
  exact key l 0 hd hv
theorem readP_dec (n : Nat) (h : n < 1000000) : readP (Lib.decDigits n) = n := by
  have h1 := decDigits_len n 5 (by simpa using h)
  have h2 := decDigits_ne n
  have h3 := decDigits_dig n
  have h4 : 1 ≤ (Lib.decDigits n).length := by
    cases hh : Lib.decDigits n with
    | nil => exact absurd hh h2
    | cons => simp
  have hz : ¬ ((Lib.decDigits n)[0]? = some 48 ∧ 1 < (Lib.decDigits n).length) := by
    rintro ⟨h5, h6⟩
    have key : ∀ n, 10 ≤ n → ∃ c r, Lib.decDigits n = c :: r ∧ c ≠ 48 := by
      intro n
      induction n using Nat.strongRecOn with
      | _ n ih =>
        intro hn
        rw [decDigits_big (by omega)]
        by_cases hs : n / 10 < 10
        · rw [decDigits_small hs]
          refine ⟨_, _, rfl, fun hh => ?_⟩
          have := (dig_of (n / 10) hs).2
          rw [hh] at this
          have h48 : (48 : UInt8).toNat = 48 := rfl
          omega
        · obtain ⟨c, r, hr, hc⟩ := ih (n / 10) (by omega) (by omega)
          exact ⟨c, r ++ _, by rw [hr]; rfl, hc⟩
    by_cases hn : n < 10
    · rw [decDigits_small hn] at h6; simp at h6
    · obtain ⟨c, r, hr, hc⟩ := key n (by omega)
      rw [hr] at h5
      exact hc (Option.some.inj h5)
  have hv := valD_dec n
  unfold readP
  rw [if_pos ⟨⟨h4, h1⟩, hz, h3⟩, hv]
/-- A seal's text, cut. -/
theorem cut_seal (x : Sealed) (h : SealedOK x) : cutAt 32 (sealB x) = [[115, 101, 97, 108], Lib.itoa x.turn, Lib.itoa x.side, Lib.itoa x.code] := by
  obtain ⟨h1, h2, h3⟩ := h
  obtain ⟨a, ha⟩ : ∃ k : Nat, x.turn = k := ⟨x.turn.toNat, by omega⟩
  obtain ⟨b, hb⟩ : ∃ k : Nat, x.side = k := ⟨x.side.toNat, by omega⟩
  obtain ⟨c, hc⟩ : ∃ k : Nat, x.code = k := ⟨x.code.toNat, by omega⟩
  rw [sealB_eq, ha, hb, hc, itoa_nat, itoa_nat, itoa_nat]
  have e1 : [115, 101, 97, 108, 32] ++ Lib.decDigits a ++ [32] ++ Lib.decDigits b ++ [32] ++ Lib.decDigits c = [115, 101, 97, 108] ++ 32 :: (Lib.decDigits a ++ 32 :: (Lib.decDigits b ++ 32 :: Lib.decDigits c)) := by simp
  rw [e1, cutAt_append 32 _ _ (by decide), cutAt_append 32 _ _ (notin_dec a 32 (by decide)), cutAt_append 32 _ _ (notin_dec b 32 (by decide)), cutAt_none 32 _ (notin_dec c 32 (by decide))]
theorem atoi_seal (n : Int) (h0 : 0 ≤ n) (h1 : n ≤ 4611686016279904236) : Lib.atoiAll (Lib.itoa n) = .ok n := by
  obtain ⟨a, rfl⟩ : ∃ k : Nat, n = k := ⟨n.toNat, by omega⟩
  rw [itoa_nat]
  exact atoi_itoa a (by omega)
theorem sealB_inj {x y : Sealed} (hx : SealedOK x) (hy : SealedOK y) (h : sealB x = sealB y) : x = y := by
  have h1 := cut_seal x hx
  rw [h, cut_seal y hy] at h1
  simp only [List.cons.injEq, and_true, true_and] at h1
  obtain ⟨a, b, c⟩ := h1
  obtain ⟨x1, x2, x3⟩ := hx
  obtain ⟨y1, y2, y3⟩ := hy
  have e1 := atoi_seal x.turn x1.1 (by omega)
  have e2 := atoi_seal x.side x2.1 (by omega)
  have e3 := atoi_seal x.code x3.1 (by omega)
  rw [← a, atoi_seal y.turn y1.1 (by omega)] at e1
  rw [← b, atoi_seal y.side y2.1 (by omega)] at e2
  rw [← c, atoi_seal y.code y3.1 (by omega)] at e3
  cases x; cases y
  injection e1 with e1; injection e2 with e2; injection e3 with e3
  simp_all
open Classical in
/-- The seal that a text tells. -/
noncomputable def sealOf (l : List UInt8) : Sealed := if h : ∃ x, SealedOK x ∧ sealB x = l then h.choose else ⟨0, 0, 0⟩
def IsSealText (l : List UInt8) : Prop := ∃ x, SealedOK x ∧ sealB x = l
theorem sealOf_eq {x : Sealed} {l : List UInt8} (h : SealedOK x) (ht : sealB x = l) : sealOf l = x := by
  have hex : ∃ x, SealedOK x ∧ sealB x = l := ⟨x, h, ht⟩
  unfold sealOf
  rw [dif_pos hex]
  exact sealB_inj hex.choose_spec.1 h (hex.choose_spec.2.trans ht.symm)
theorem sealOf_none {l : List UInt8} (h : ¬ IsSealText l) : sealOf l = ⟨0, 0, 0⟩ := by
  unfold sealOf
  exact dif_neg h
noncomputable def sealAV (l : List UInt8) : AV := .tup [some (.agg (sealOf l).enc), some (.one (.bool (decide (IsSealText l))))]
theorem sealAV_yes {x : Sealed} {l : List UInt8} (h : SealedOK x) (ht : sealB x = l) : sealAV l = .tup [some (.agg [.int .i64 x.turn, .int .i64 x.side, .int .i64 x.code]), some (.one (.bool true))] := by
  have : IsSealText l := ⟨x, h, ht⟩
  unfold sealAV
  rw [sealOf_eq h ht, decide_eq_true this]; rfl
theorem sealAV_no {l : List UInt8} (h : ¬ IsSealText l) : sealAV l = .tup [some (.agg [.int .i64 0, .int .i64 0, .int .i64 0]), some (.one (.bool false))] := by
  unfold sealAV
  rw [sealOf_none h, decide_eq_false h]; rfl
theorem len4 {α : Type} {l : List α} (h : l.length = 4) : ∃ a b c d, l = [a, b, c, d] := by
  match l, h with
  | [a, b, c, d], _ => exact ⟨a, b, c, d, rfl⟩
theorem c_spec_ParseSealed (l : List UInt8) (hl : l.length ≤ 1048576) : C n_spec_ParseSealed [St (bs l)] = some (sealAV l) := by
  refine callC p_spec_ParseSealed rfl ?_
  have e1 := c_spec_l1Split l 32 hl
  have h32 : ((32 : UInt8).toNat : Int) = 32 := rfl
  dsimp only [Byt] at e1
  rw [h32] at e1
  by_cases h4 : (cutAt 32 l).length = 4
  rotate_left
  · have hno : ¬ IsSealText l := fun ⟨x, hx, ht⟩ => h4 (by rw [← ht, cut_seal x hx]; rfl)
    have h4' : ¬ (((strR ((cutAt 32 l).map bs)).length : Nat) : Int) = 4 := by rw [strR_length, List.length_map]; omega
    rw [sealAV_no hno]
    dsimp only [StrsV] at e1
    generalize strR ((cutAt 32 l).map bs) = R at e1 h4'
    simp [xRun, a_spec_ParseSealed, e1, h4']
  obtain ⟨w0, w1, w2, w3, hw⟩ := len4 h4
  rw [hw] at e1
  simp only [StrsV, List.map_cons, List.map_nil, strR] at e1
  by_cases h19 : w3.length ≤ 19
  rotate_left
  · have hno : ¬ IsSealText l := fun ⟨x, hx, ht⟩ => by
      have h5 := cut_seal x hx
      rw [ht, hw] at h5
      simp only [List.cons.injEq, and_true] at h5
      obtain ⟨_, _, _, h6⟩ := h5
      obtain ⟨_, _, x3⟩ := hx
      have h7 := decDigits_len x.code.toNat 18 (by simp; omega)
      rw [← itoa_nat, show ((x.code.toNat : Nat) : Int) = x.code by omega, ← h6] at h7
      omega
    have h19' : (19 : Int) < w3.length := by omega
    rw [sealAV_no hno]
    simp [xRun, a_spec_ParseSealed, e1, bs_size, h19']
  have h19' : ¬ (19 : Int) < w3.length := by omega
  have hlen : ∀ w ∈ [w0, w1, w2, w3], w.length ≤ 1048576 := by
    have key : ∀ l : List UInt8, ∀ w ∈ cutAt 32 l, w.length ≤ l.length := by
      intro l
      induction l with
      | nil => intro w hw; simp [cutAt] at hw; subst hw; simp
      | cons b l ih =>
        intro w hw
        unfold cutAt at hw
        split at hw
        · rcases List.mem_cons.1 hw with rfl | hw
          · simp
          · have := ih w hw; simp; omega
        · split at hw
          · rename_i h t heq
            rcases List.mem_cons.1 hw with rfl | hw
            · have := ih h (by rw [heq]; simp); simp; omega
            · have := ih w (by rw [heq]; simp [hw]); simp; omega
          · simp at hw; subst hw; simp
    intro w hw'
    have := key l w (by rw [hw]; exact hw')
    omega
  have r1 := c_spec_l1Read w1 (hlen w1 (by simp))
  have r2 := c_spec_l1Read w2 (hlen w2 (by simp))
  have r3 := c_spec_eDigits w3 h19
  have hx : ∀ x, SealedOK x → sealB x = l → x = ⟨readP w1, readP w2, eDig w3⟩ := by
    intro x hx ht
    have h5 := cut_seal x hx
    rw [ht, hw] at h5
    simp only [List.cons.injEq, and_true] at h5
    obtain ⟨_, h6, h7, h8⟩ := h5
    obtain ⟨x1, x2, x3⟩ := hx
    obtain ⟨a, ha⟩ : ∃ k : Nat, x.turn = k := ⟨x.turn.toNat, by omega⟩
    obtain ⟨b, hb⟩ : ∃ k : Nat, x.side = k := ⟨x.side.toNat, by omega⟩
    obtain ⟨c, hc⟩ : ∃ k : Nat, x.code = k := ⟨x.code.toNat, by omega⟩
    rw [h6, h7, h8, ha, hb, hc, itoa_nat, itoa_nat, itoa_nat, readP_dec a (by omega), readP_dec b (by omega), eDig_dec _ (decDigits_dig c) (by rw [valD_dec]; omega), valD_dec]
    cases x; simp_all
  generalize readP w1 = n1 at r1 hx
  generalize readP w2 = n2 at r2 hx
  generalize eDig w3 = n3 at r3 hx
  have g1 := c_spec_eGood ⟨n1, n2, n3⟩
  dsimp only [SealedV, Sealed.enc] at g1
  by_cases hok : SealedOK ⟨n1, n2, n3⟩
  rotate_left
  · have hno : ¬ IsSealText l := fun ⟨x, h1, h2⟩ => hok (hx x h1 h2 ▸ h1)
    rw [sealAV_no hno]
    simp [xRun, a_spec_ParseSealed, e1, bs_size, h19', r1, r2, r3, g1, hok]
  have g2 := c_spec_eText ⟨n1, n2, n3⟩ hok
  dsimp only [SealedV, Sealed.enc] at g2
  by_cases ht : sealB ⟨n1, n2, n3⟩ = l
  · rw [sealAV_yes hok ht]
    rw [ht] at g2
    simp [xRun, a_spec_ParseSealed, e1, bs_size, h19', r1, r2, r3, g1, g2, hok]
  · have hno : ¬ IsSealText l := fun ⟨x, h1, h2⟩ => ht (hx x h1 h2 ▸ h2)
    have ht' : ¬ bs (sealB ⟨n1, n2, n3⟩) = bs l := fun h => ht (bs_inj h)
    rw [sealAV_no hno]
    generalize bs (sealB ⟨n1, n2, n3⟩) = T at g2 ht'
    simp [xRun, a_spec_ParseSealed, e1, bs_size, h19', r1, r2, r3, g1, g2, hok, ht']
theorem cut_len (c : UInt8) (l : List UInt8) : ∀ w ∈ cutAt c l, w.length ≤ l.length := by
  induction l with
  | nil => intro w hw; simp [cutAt] at hw; subst hw; simp
  | cons b l ih =>
    intro w hw
    unfold cutAt at hw
    split at hw
    · rcases List.mem_cons.1 hw with rfl | hw
      · simp
      · have := ih w hw; simp; omega
    · split at hw
      · rename_i h t heq
        rcases List.mem_cons.1 hw with rfl | hw
        · have := ih h (by rw [heq]; simp); simp; omega
        · have := ih w (by rw [heq]; simp [hw]); simp; omega
      · simp at hw; subst hw; simp
theorem c_impl_ParseSealed (l : List UInt8) (hl : l.length ≤ 1048576) : C n_impl_ParseSealed [St (bs l)] = some (sealAV l) := by
  refine callC p_impl_ParseSealed rfl ?_
  have e1 := c_strings_Split l 32 hl
  by_cases h4 : (cutAt 32 l).length = 4
  rotate_left
  · have hno : ¬ IsSealText l := fun ⟨x, hx, ht⟩ => h4 (by rw [← ht, cut_seal x hx]; rfl)
    have h4' : ¬ (((strR ((cutAt 32 l).map bs)).length : Nat) : Int) = 4 := by rw [strR_length, List.length_map]; omega
    rw [sealAV_no hno]
    dsimp only [StrsV] at e1
    generalize strR ((cutAt 32 l).map bs) = R at e1 h4'
    simp [xRun, a_impl_ParseSealed, e1, h4']
  obtain ⟨w0, w1, w2, w3, hw⟩ := len4 h4
  have hlen : ∀ w ∈ [w1, w2, w3], w.length ≤ 1048576 := fun w hw' => by
    have := cut_len 32 l w (by rw [hw]; exact List.mem_cons_of_mem _ hw')
    omega
  rw [hw] at e1
  simp only [StrsV, List.map_cons, List.map_nil, strR] at e1
  have hall : IsSealText l → ∀ w ∈ [w1, w2, w3], ∃ v, Lib.atoiAll w = .ok v := by
    rintro ⟨x, hx, ht⟩ w hw'
    have h5 := cut_seal x hx
    rw [ht, hw] at h5
    simp only [List.cons.injEq, and_true] at h5
    obtain ⟨_, h6, h7, h8⟩ := h5
    obtain ⟨x1, x2, x3⟩ := hx
    simp at hw'
    rcases hw' with rfl | rfl | rfl
    · exact ⟨_, h6 ▸ atoi_seal x.turn x1.1 (by omega)⟩
    · exact ⟨_, h7 ▸ atoi_seal x.side x2.1 (by omega)⟩
    · exact ⟨_, h8 ▸ atoi_seal x.code x3.1 (by omega)⟩
  simp [xRun, a_impl_ParseSealed, e1]
  refine list_loop [w1, w2, w3] (by simp) (fun i (st : List Int) => [(5, .own 0 1 (ints st)), (21, I (i : Int))]) (fun i st => st.length = i ∧ ∀ (j : Nat) w v, [w1, w2, w3][j]? = some w → st[j]? = some v → Lib.atoiAll w = .ok v) [] (by simp [ints]) (by simp) ?_ ?_
  · intro N E i a st ha hi hm ht hwi ⟨hs1, hs2⟩ hN hE
    have e2 := c_strconv_Atoi a (hlen a hm)
    have hR : [[D.str (bs w1)], [D.str (bs w2)], [D.str (bs w3)]][i]? = some [D.str (bs a)] := by
      have : [[D.str (bs w1)], [D.str (bs w2)], [D.str (bs w3)]] = [w1, w2, w3].map fun w => [D.str (bs w)] := rfl
      rw [this, List.getElem?_map, ha]; rfl
    have hi3 : (i : Int) < 3 := by simp at hi; omega
    generalize [[D.str (bs w1)], [D.str (bs w2)], [D.str (bs w3)]] = R at hR hN hE ⊢
    cases hat : Lib.atoiAll a with
    | ok v =>
      rw [hat] at e2
      dsimp only at e2
      have e3 : (ints st).length + 1 ≤ 68719476736 := by rw [ints_length]; simp at hi; omega
      have e4 : ints (st ++ [v]) = ints st ++ [[D.int .i64 v]] := by simp [ints]
      generalize ints st = RS at e3 e4
      simp [bodyF, b_impl_ParseSealed_0, hi3, hR, at_of hR, hwi, e2, e3]
      refine hN _ (st ++ [v]) (by simp [e4]) ⟨by simp [hs1], fun j w u hj hu => ?_⟩
      by_cases hji : j < st.length
      · rw [List.getElem?_append_left hji] at hu
        exact hs2 j w u hj hu
      · rw [List.getElem?_append_right (by omega)] at hu
        have hj0 : j - st.length = 0 := by
          have := (List.getElem?_eq_some_iff.1 hu).1
          simp at this; omega
        rw [hj0] at hu
        have hji2 : j = i := by omega
        rw [hji2, ha] at hj
        simp at hu hj
        rw [← hj, ← hu]; exact hat
    | range =>
      have hno : ¬ IsSealText l := fun h => by obtain ⟨v, hv⟩ := hall h a hm; rw [hat] at hv; cases hv
      rw [hat] at e2
      dsimp only at e2
      simp [bodyF, b_impl_ParseSealed_0, hi3, hR, at_of hR, hwi, e2]
      exact hE _ _ fun st => by simp [sealAV_no hno]
    | _ =>
      have hno : ¬ IsSealText l := fun h => by obtain ⟨v, hv⟩ := hall h a hm; rw [hat] at hv; cases hv
      rw [hat] at e2
      dsimp only at e2
      simp [bodyF, b_impl_ParseSealed_0, hi3, hR, at_of hR, hwi, e2]
      exact hE _ _ fun st => by simp [sealAV_no hno]
  · intro N E st ⟨hs1, hs2⟩ hE
    obtain ⟨n1, n2, n3, rfl⟩ : ∃ a b c, st = [a, b, c] := by
      match st, hs1 with
      | [a, b, c], _ => exact ⟨a, b, c, rfl⟩
    have q1 := hs2 0 w1 n1 rfl rfl
    have q2 := hs2 1 w2 n2 rfl rfl
    have q3 := hs2 2 w3 n3 rfl rfl
    have hx : ∀ x, SealedOK x → sealB x = l → x = ⟨n1, n2, n3⟩ := by
      intro x hx ht
      have h5 := cut_seal x hx
      rw [ht, hw] at h5
      simp only [List.cons.injEq, and_true] at h5
      obtain ⟨_, h6, h7, h8⟩ := h5
      obtain ⟨x1, x2, x3⟩ := hx
      rw [h6, atoi_seal x.turn x1.1 (by omega)] at q1
      rw [h7, atoi_seal x.side x2.1 (by omega)] at q2
      rw [h8, atoi_seal x.code x3.1 (by omega)] at q3
      injection q1 with q1; injection q2 with q2; injection q3 with q3
      cases x; simp_all
    have g1 := c_impl_IsSealed ⟨n1, n2, n3⟩
    dsimp only [SealedV, Sealed.enc] at g1
    simp [bodyF, b_impl_ParseSealed_0]
    refine hE _ _ fun st => ?_
    by_cases hok : SealedOK ⟨n1, n2, n3⟩
    rotate_left
    · have hno : ¬ IsSealText l := fun ⟨x, h1, h2⟩ => hok (hx x h1 h2 ▸ h1)
      rw [sealAV_no hno]
      simp [ints, g1, hok]
    have g2 := c_impl_sealedText ⟨n1, n2, n3⟩ hok
    dsimp only [SealedV, Sealed.enc] at g2
    by_cases ht : sealB ⟨n1, n2, n3⟩ = l
    · rw [sealAV_yes hok ht]
      rw [ht] at g2
      simp [ints, g1, g2, hok]
    · have hno : ¬ IsSealText l := fun ⟨x, h1, h2⟩ => ht (hx x h1 h2 ▸ h2)
      have ht' : ¬ bs (sealB ⟨n1, n2, n3⟩) = bs l := fun h => ht (bs_inj h)
      rw [sealAV_no hno]
      generalize bs (sealB ⟨n1, n2, n3⟩) = T at g2 ht'
      simp [ints, g1, g2, hok, ht']
end Go.Abs.W
