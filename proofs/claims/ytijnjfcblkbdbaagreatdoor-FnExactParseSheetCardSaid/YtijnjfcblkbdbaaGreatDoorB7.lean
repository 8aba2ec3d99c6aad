import Derived.Test.YtijnjfcblkbdbaaGreatDoorB5
set_option linter.unusedSimpArgs false
set_option linter.unusedVariables false
set_option maxRecDepth 100000
set_option maxHeartbeats 2000000
namespace Go.Abs.W
open Go Go.Abs Classical
attribute [-simp] Bool.decide_and
abbrev StrsV (l : List (List UInt8)) : AV := .val (.one (.list true 1 (strR (l.map bs))))
abbrev Byt (c : UInt8) : AV := .val (.one (.int .u8 c.toNat))
theorem bs_ext (l : List UInt8) (i j : Nat) : (bs l).extract i j = bs ((l.drop i).take (j - i)) := by rw [bs_extract, bs_data]
theorem c_strings_Split (l : List UInt8) (c : UInt8) (hl : l.length ≤ 1048576) : C n_strings_Split [St (bs l), St ⟨#[c]⟩] = some (StrsV (cutAt c l)) := by
  refine callF_hand h_strings_Split ?_
  have h1 : (bs l).size < 4294967281 := by rw [bs_size]; omega
  have h2 : 1 ≤ (⟨#[c]⟩ : ByteArray).size := Nat.le_refl 1
  have h3 := split_bs c (bs l)
  rw [bs_data] at h3
  unfold hSplit
  simp only [h1, h2, and_self, if_true]
  rw [h3]
  rfl
theorem c_spec_l1Split (l : List UInt8) (c : UInt8) (hl : l.length ≤ 1048576) : C n_spec_l1Split [St (bs l), Byt c] = some (StrsV (cutAt c l)) := by
  refine callC p_spec_l1Split rfl ?_
  simp [xRun, a_spec_l1Split]
  refine list_loop l (by omega) (fun i (st : List (List UInt8) × Nat) => [(5, .own 0 1 (strR (st.1.map bs))), (6, I (st.2 : Int)), (7, I (i : Int))]) (fun i st => st.2 ≤ i ∧ c ∉ ((l.drop st.2).take (i - st.2)) ∧ cutAt c l = st.1 ++ cutAt c (l.drop st.2) ∧ st.1.length ≤ i) ([], 0) (by simp [strR]) (by simp) ?_ ?_
  · intro N E i a st ha hi hm ht hwi ⟨h1, h2, h3, h4⟩ hN hE
    obtain ⟨P, f⟩ := st
    dsimp only at h1 h2 h3 h4
    by_cases hc : a = c
    · have e1 : (strR (P.map bs)).length + 1 ≤ 68719476736 := by rw [strR_length]; simp; omega
      have e2 : (f : Int) ≤ i := by omega
      have e3 : (i : Int) ≤ l.length := by omega
      have e4 := bs_ext l f i
      have e5 : strR (P.map bs ++ [bs ((l.drop f).take (i - f))]) = strR (P.map bs) ++ [[D.str (bs ((l.drop f).take (i - f)))]] := strR_snoc _ _
      have e6 : cutAt c (l.drop f) = (l.drop f).take (i - f) :: cutAt c (l.drop (i + 1)) := by
        have h5 : l.drop f = (l.drop f).take (i - f) ++ c :: l.drop (i + 1) := by
          have h6 := (List.take_append_drop (i - f) (l.drop f)).symm
          rw [List.drop_drop, show f + (i - f) = i by omega] at h6
          have h7 : l.drop i = a :: l.drop (i + 1) := by rw [List.drop_eq_getElem_cons hi, at_of ha]
          rw [h7, hc] at h6
          exact h6
        conv => lhs; rw [h5]
        exact cutAt_append c _ _ h2
      generalize strR (P.map bs) = R at e1 e5
      simp [bodyF, b_spec_l1Split_0, hi, ha, at_of ha, hc, hwi, bs_size, e1, e2, e3, e4]
      refine hN _ (P ++ [(l.drop f).take (i - f)], i + 1) (by simp [e5]) ⟨Nat.le_refl _, by simp, ?_, by simp; omega⟩
      rw [h3, e6]; simp
    · have hc' : ¬ (a.toNat : Int) = c.toNat := fun h => hc (UInt8.toNat_inj.1 (by exact_mod_cast h))
      simp [bodyF, b_spec_l1Split_0, hi, ha, at_of ha, hc, hc', hwi, bs_size]
      refine hN _ (P, f) (by simp) ⟨by dsimp only; omega, ?_, h3, by dsimp only; omega⟩
      have : (l.drop f).take (i + 1 - f) = (l.drop f).take (i - f) ++ [a] := by
        rw [show i + 1 - f = (i - f) + 1 by omega, List.take_add_one, List.getElem?_drop, show f + (i - f) = i by omega, ha]; rfl
      rw [this]
      intro hh
      rcases List.mem_append.1 hh with hh | hh
      · exact h2 hh
      · simp at hh; exact hc hh.symm
  · intro N E st ⟨h1, h2, h3, h4⟩ hE
    obtain ⟨P, f⟩ := st
    dsimp only at h1 h2 h3 h4
    have e1 : (strR (P.map bs)).length + 1 ≤ 68719476736 := by rw [strR_length]; simp; omega
    have e2 : (f : Int) ≤ l.length := by omega
    have e4 := bs_ext l f l.length
    have e7 : (l.drop f).take (l.length - f) = l.drop f := List.take_of_length_le (by simp)
    rw [e7] at e4 h2
    have e5 : strR (P.map bs ++ [bs (l.drop f)]) = strR (P.map bs) ++ [[D.str (bs (l.drop f))]] := strR_snoc _ _
    rw [cutAt_none c _ h2] at h3
    simp [bodyF, b_spec_l1Split_0, bs_size]
    refine hE _ _ fun st => ?_
    rw [h3]
    generalize strR (P.map bs) = R at e1 e5
    simp [bs_size, e1, e2, e4, e5]
theorem c_strconv_Atoi (l : List UInt8) (hl : l.length ≤ 1048576) : C n_strconv_Atoi [St (bs l)] = some (match Lib.atoiAll l with
      | .ok v => .tup [some (.one (.int .i64 v)), some (.one (.err false))]
      | .range => .tup [some (.one (.int .i64 (Lib.atoiSat l))), some (.one (.err true))]
      | _ => .tup [some (.one (.int .i64 0)), some (.one (.err true))]) := by
  refine callF_hand h_strconv_Atoi ?_
  have h1 : (bs l).size ≤ 281474976710656 := by rw [bs_size]; omega
  unfold hAtoi
  simp only [h1, if_true, bs_data]
  cases Lib.atoiAll l <;> rfl
instance (c : UInt8) : Decidable (Dig c) := by unfold Dig; infer_instance
/-- A numeral of at most six digits, read; or -1. -/
def readP (l : List UInt8) : Int := if (1 ≤ l.length ∧ l.length ≤ 6) ∧ ¬ (l[0]? = some 48 ∧ 1 < l.length) ∧ (∀ c ∈ l, Dig c) then (valD 0 l : Int) else -1
theorem valD_lt (l : List UInt8) (h : ∀ c ∈ l, Dig c) : ∀ acc k, acc < 10 ^ k → valD acc l < 10 ^ (k + l.length) := by
  induction l with
  | nil => intro acc k h; simpa [valD_nil] using h
  | cons c l ih =>
    intro acc k hk
    rw [valD_cons]
    have hc := h c (by simp)
    unfold Dig at hc
    have h1 : stepD acc c < 10 ^ (k + 1) := by
      unfold stepD
      rw [Nat.pow_succ]
      omega
    have := ih (fun d hd => h d (by simp [hd])) (stepD acc c) (k + 1) h1
    rw [List.length_cons, show k + (l.length + 1) = k + 1 + l.length by omega]
    exact this
theorem valD_snoc (l : List UInt8) (c : UInt8) : valD 0 (l ++ [c]) = valD 0 l * 10 + (c.toNat - 48) := by
  rw [valD_append, valD_cons, valD_nil]
  unfold stepD
  rfl
theorem c_spec_l1Read (l : List UInt8) (hl : l.length ≤ 1048576) : C n_spec_l1Read [St (bs l)] = some (I (readP l)) := by
  refine callC p_spec_l1Read rfl ?_
  unfold readP
  by_cases h1 : 1 ≤ l.length ∧ l.length ≤ 6
  rotate_left
  · have h1' : ¬ ((1 : Int) ≤ l.length ∧ (l.length : Int) ≤ 6) := by omega
    simp [xRun, a_spec_l1Read, bs_size, h1, h1']
  have h1' : ((1 : Int) ≤ l.length ∧ (l.length : Int) ≤ 6) := by omega
  obtain ⟨b, hb⟩ : ∃ b, l[0]? = some b := ⟨l[0], List.getElem?_eq_getElem (by omega)⟩
  by_cases h2 : b = 48 ∧ 1 < l.length
  · obtain ⟨rfl, h2⟩ := h2
    have h2' : (1 : Int) < l.length := by omega
    simp [xRun, a_spec_l1Read, bs_size, h1, h1', hb, h2, h2']
  have hnot : ¬ (l[0]? = some 48 ∧ 1 < l.length) := fun ⟨h, h3⟩ => h2 ⟨by rw [hb] at h; exact Option.some.inj h, h3⟩
  simp only [h1, hnot, and_self, not_false_eq_true, true_and]
  by_cases h3 : b = 48
  · have h4 : ¬ (1 : Int) < l.length := fun h => h2 ⟨h3, by omega⟩
    subst h3
    simp [xRun, a_spec_l1Read, bs_size, h1', hb, h4]
    refine list_loop l (by omega) (fun i (n : Nat) => [(3, I (n : Int)), (4, I (i : Int))]) (fun i n => n = valD 0 (l.take i) ∧ n < 10 ^ i ∧ ∀ c ∈ l.take i, Dig c) 0 (by simp) (by simp [valD_nil]) ?_ ?_
    · intro N E i a n ha hi hm ht hwi ⟨hn1, hn2, hn3⟩ hN hE
      by_cases hd : Dig a
      · have hd' := hd
        unfold Dig at hd'
        have hp : 10 ^ i ≤ 10 ^ 5 := Nat.pow_le_pow_right (by omega) (by omega)
        have hs : n * 10 + (a.toNat - 48) = valD 0 (l.take (i + 1)) := by rw [ht, valD_snoc, ← hn1]
        have hlo : ¬ (a.toNat : Int) < 48 := by omega
        have hhi : ¬ (57 : Int) < a.toNat := by omega
        have hsub : IntKind.u8.wrap ((a.toNat : Int) - 48) = ((a.toNat - 48 : Nat) : Int) := by rw [IntKind.wrap_u8]; omega
        have hcv : IntKind.i64.wrap ((a.toNat - 48 : Nat) : Int) = ((a.toNat - 48 : Nat) : Int) := wrap_small (by omega) (by omega)
        have hmul : IntKind.i64.wrap (10 * (n : Int)) = 10 * (n : Int) := wrap_small (by omega) (by omega)
        have hadd : IntKind.i64.wrap (10 * (n : Int) + ((a.toNat - 48 : Nat) : Int)) = ((n * 10 + (a.toNat - 48) : Nat) : Int) := by rw [wrap_small (by omega) (by omega)]; omega
        have hlt2 : n * 10 + (a.toNat - 48) < 10 ^ (i + 1) := by rw [Nat.pow_succ]; omega
        generalize hm2 : n * 10 + (a.toNat - 48) = m at hs hadd hlt2
        generalize hk2 : ((a.toNat - 48 : Nat) : Int) = kk at hsub hcv hadd
        simp [bodyF, b_spec_l1Read_0, hi, ha, at_of ha, hwi, bs_size, hlo, hhi, hsub, hcv, hmul, hadd]
        refine hN _ m (by simp) ⟨hs, hlt2, fun c hc => ?_⟩
        rw [ht] at hc
        rcases List.mem_append.1 hc with hc | hc
        · exact hn3 c hc
        · simp at hc; subst hc; exact hd
      · have hbad : ¬ ∀ c ∈ l, Dig c := fun h => hd (h a hm)
        by_cases hlo : (a.toNat : Int) < 48
        · simp [bodyF, b_spec_l1Read_0, hi, ha, at_of ha, hwi, bs_size, hlo]
          exact hE _ _ fun st => by simp [hbad]
        · have hhi : (57 : Int) < a.toNat := by unfold Dig at hd; omega
          simp [bodyF, b_spec_l1Read_0, hi, ha, at_of ha, hwi, bs_size, hlo, hhi]
          exact hE _ _ fun st => by simp [hbad]
    · intro N E n ⟨hn1, hn2, hn3⟩ hE
      rw [List.take_length] at hn1 hn3
      simp [bodyF, b_spec_l1Read_0, bs_size]
      exact hE _ _ fun st => by rw [if_pos hn3, hn1]; simp
  · have h3' : ¬ (b.toNat : Int) = 48 := fun h => h3 (UInt8.toNat_inj.1 (by exact_mod_cast h))
    simp [xRun, a_spec_l1Read, bs_size, h1', hb, h3, h3']
    refine list_loop l (by omega) (fun i (n : Nat) => [(3, I (n : Int)), (4, I (i : Int))]) (fun i n => n = valD 0 (l.take i) ∧ n < 10 ^ i ∧ ∀ c ∈ l.take i, Dig c) 0 (by simp) (by simp [valD_nil]) ?_ ?_
    · intro N E i a n ha hi hm ht hwi ⟨hn1, hn2, hn3⟩ hN hE
      by_cases hd : Dig a
      · have hd' := hd
        unfold Dig at hd'
        have hp : 10 ^ i ≤ 10 ^ 5 := Nat.pow_le_pow_right (by omega) (by omega)
        have hs : n * 10 + (a.toNat - 48) = valD 0 (l.take (i + 1)) := by rw [ht, valD_snoc, ← hn1]
        have hlo : ¬ (a.toNat : Int) < 48 := by omega
        have hhi : ¬ (57 : Int) < a.toNat := by omega
        have hsub : IntKind.u8.wrap ((a.toNat : Int) - 48) = ((a.toNat - 48 : Nat) : Int) := by rw [IntKind.wrap_u8]; omega
        have hcv : IntKind.i64.wrap ((a.toNat - 48 : Nat) : Int) = ((a.toNat - 48 : Nat) : Int) := wrap_small (by omega) (by omega)
        have hmul : IntKind.i64.wrap (10 * (n : Int)) = 10 * (n : Int) := wrap_small (by omega) (by omega)
        have hadd : IntKind.i64.wrap (10 * (n : Int) + ((a.toNat - 48 : Nat) : Int)) = ((n * 10 + (a.toNat - 48) : Nat) : Int) := by rw [wrap_small (by omega) (by omega)]; omega
        have hlt2 : n * 10 + (a.toNat - 48) < 10 ^ (i + 1) := by rw [Nat.pow_succ]; omega
        generalize hm2 : n * 10 + (a.toNat - 48) = m at hs hadd hlt2
        generalize hk2 : ((a.toNat - 48 : Nat) : Int) = kk at hsub hcv hadd
        simp [bodyF, b_spec_l1Read_0, hi, ha, at_of ha, hwi, bs_size, hlo, hhi, hsub, hcv, hmul, hadd]
        refine hN _ m (by simp) ⟨hs, hlt2, fun c hc => ?_⟩
        rw [ht] at hc
        rcases List.mem_append.1 hc with hc | hc
        · exact hn3 c hc
        · simp at hc; subst hc; exact hd
      · have hbad : ¬ ∀ c ∈ l, Dig c := fun h => hd (h a hm)
        by_cases hlo : (a.toNat : Int) < 48
        · simp [bodyF, b_spec_l1Read_0, hi, ha, at_of ha, hwi, bs_size, hlo]
          exact hE _ _ fun st => by simp [hbad]
        · have hhi : (57 : Int) < a.toNat := by unfold Dig at hd; omega
          simp [bodyF, b_spec_l1Read_0, hi, ha, at_of ha, hwi, bs_size, hlo, hhi]
          exact hE _ _ fun st => by simp [hbad]
    · intro N E n ⟨hn1, hn2, hn3⟩ hE
      rw [List.take_length] at hn1 hn3
      simp [bodyF, b_spec_l1Read_0, bs_size]
      exact hE _ _ fun st => by rw [if_pos hn3, hn1]; simp
end Go.Abs.W
