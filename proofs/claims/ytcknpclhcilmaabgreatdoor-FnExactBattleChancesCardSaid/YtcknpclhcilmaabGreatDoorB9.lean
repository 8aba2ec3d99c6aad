import Derived.Test.YtcknpclhcilmaabGreatDoorB0
set_option linter.unusedSimpArgs false
set_option linter.unusedVariables false
set_option maxRecDepth 100000
set_option maxHeartbeats 2000000
namespace Go.Abs.W
open Go Go.Abs Classical
attribute [-simp] Bool.decide_and
abbrev IntSSV (o : Bool) (l : List (List Int)) : AV := Rows o 1 (rowsOfL o l)
structure LenTable (t : CombatTable) : Prop where
  c : Len t.columns.length
  r : Len t.results.length
  rs : ∀ l ∈ t.results, Len l.length
def cntSS (l : List (List Int)) : Nat := l.length + sumN List.length l
def cntTable (t : CombatTable) : Nat := t.columns.length + cntSS t.results
theorem LenTable_of {t : CombatTable} (h : cntTable t ≤ 1048576) : LenTable t := by
  unfold cntTable cntSS at h
  refine ⟨by unfold Len; omega, by unfold Len; omega, fun l hl => ?_⟩
  have := sumN_mem List.length hl
  unfold Len; omega
theorem rows_at {o : Bool} {l : List (List Int)} {i : Nat} {r : List Int} (h : l[i]? = some r) : (rowsOfL o l)[i]? = some [D.list o 1 (ints r)] := by simp [rowsOfL, h]
theorem rows_get {o : Bool} {l : List (List Int)} {i : Nat} {r : List Int} (h : l[i]? = some r) : ∀ h' : i < (rowsOfL o l).length, (rowsOfL o l)[i]'h' = [D.list o 1 (ints r)] := fun _ => (List.getElem?_eq_some_iff.1 (rows_at h)).2
theorem c_laws_szOddsS (l : List Odds) (n : Int) (hn : Left n) (hl : Wide l.length) : C n_laws_szOddsS [Rows false 2 (l.map Odds.enc), I n] = some (I (less n l.length)) := by
  refine callC p_laws_szOddsS rfl ?_
  have hw := less_small hn hl
  by_cases hc : n < l.length
  · have : n - (l.length : Int) < 0 := by omega
    simp [xRun, a_laws_szOddsS, less, hw, hc, this]
  · have : ¬ n - (l.length : Int) < 0 := by omega
    simp [xRun, a_laws_szOddsS, less, hw, hc, this]
theorem c_laws_toOdds (t : Odds) : C n_laws_toOdds [OddsV t] = some (OddsV t) := by
  refine callC p_laws_toOdds rfl ?_
  simp [xRun, a_laws_toOdds]
theorem c_laws_toOddsS (l : List Odds) (hl : Len l.length) : C n_laws_toOddsS [Rows false 2 (l.map Odds.enc)] = some (Rows true 2 (l.map Odds.enc)) := by
  refine callC p_laws_toOddsS rfl ?_
  have h0 := make_ok hl
  simp [xRun, a_laws_toOddsS, h0, -List.replicate]
  refine list_loop l (by unfold Len at hl; omega) (fun i (_ : Unit) => [(3, .own 0 2 (fillR Odds.enc [.int .i64 0, .int .i64 0] l i)), (4, I i)]) (fun _ _ => True) default (by simp [fillR_zero, -List.replicate]) trivial ?_ ?_
  · intro N E i a s ha hi hm ht hwi _ hN hE
    have hset := fillR_set Odds.enc [.int .i64 0, .int .i64 0] ha
    rw [Odds.enc] at hset
    simp [bodyF, b_laws_toOddsS_0, hi, ha, at_of ha, hwi, Odds.enc, c_laws_toOdds a, fillR_at _ _ hi, hset]
    exact hN _ s (by simp) trivial
  · intro N E s _ hE
    simp [bodyF, b_laws_toOddsS_0]
    refine hE _ _ fun st => ?_
    simp [fillR_end]
theorem c_laws_eqOdds (t : Odds) : C n_laws_eqOdds [OddsV t, OddsV t] = some (Bo true) := by
  refine callC p_laws_eqOdds rfl ?_
  simp [xRun, a_laws_eqOdds]
theorem c_laws_eqOddsS (l : List Odds) (hl : Len l.length) : C n_laws_eqOddsS [Rows false 2 (l.map Odds.enc), Rows false 2 (l.map Odds.enc)] = some (Bo true) := by
  refine callC p_laws_eqOddsS rfl ?_
  simp [xRun, a_laws_eqOddsS]
  refine list_loop l (by unfold Len at hl; omega) (fun i (_ : Unit) => [(5, I i)]) (fun _ _ => True) default (by simp) trivial ?_ ?_
  · intro N E i a s ha hi hm ht hwi _ hN hE
    simp [bodyF, b_laws_eqOddsS_0, hi, ha, at_of ha, hwi, Odds.enc, c_laws_eqOdds a]
    exact hN _ s (by simp) trivial
  · intro N E s _ hE
    simp [bodyF, b_laws_eqOddsS_0]
    exact hE _ _ fun st => by simp
theorem c_laws_szIntSS (l : List (List Int)) (n : Int) (hn : Left n) (hl : Wide l.length) (hls : ∀ r ∈ l, Wide r.length) : C n_laws_szIntSS [IntSSV false l, I n] = some (I (less n (cntSS l))) := by
  refine callC p_laws_szIntSS rfl ?_
  have hw := less_small hn hl
  unfold cntSS
  by_cases hc : n < l.length
  · have h1 : n - (l.length : Int) < 0 := by omega
    have h2 : n < (l.length + sumN List.length l : Nat) := by omega
    simp [xRun, a_laws_szIntSS, rows_length, hw, h1, less_yes h2]
  · have h1 : ¬ n - (l.length : Int) < 0 := by omega
    simp [xRun, a_laws_szIntSS, rows_length, hw, h1]
    refine list_loop l (by unfold Left at hn; omega) (fun i (s : Int) => [(1, I s), (5, I i)]) (fun i s => s = n - l.length - sumN List.length (l.take i) ∧ 0 ≤ s) (n - l.length) (by simp) (by simp [sumN_nil]; omega) ?_ ?_
    · intro N E i a s ha hi hm ht hwi ⟨hs, hs0⟩ hN hE
      have hb := sumN_take List.length l (i + 1)
      rw [ht, sumN_app, sumN_one] at hb
      have hz := c_laws_szIntS a s (by unfold Left at *; omega) (hls a hm)
      by_cases hd : s < a.length
      · have h2 : n < (l.length + sumN List.length l : Nat) := by omega
        rw [less_yes hd] at hz
        simp [bodyF, b_laws_szIntSS_0, rows_length, hi, rows_at ha, rows_get ha, hz]
        refine hE _ _ fun st => ?_
        simp [less_yes h2]
      · have h3 : ¬ s - (a.length : Int) < 0 := by omega
        rw [less_no hd] at hz
        simp [bodyF, b_laws_szIntSS_0, rows_length, hi, rows_at ha, rows_get ha, hz, h3, hwi]
        refine hN _ (s - a.length) (by simp) ⟨?_, by omega⟩
        rw [ht, sumN_app, sumN_one]; omega
    · intro N E s ⟨hs, hs0⟩ hE
      simp [bodyF, b_laws_szIntSS_0, rows_length]
      refine hE _ _ fun st => ?_
      rw [List.take_length] at hs
      have h2 : ¬ n < (l.length + sumN List.length l : Nat) := by omega
      simp [less_no h2]; omega
theorem c_laws_szCombatTable (t : CombatTable) (n : Int) (hn : Left n) (hl : WideTable t) : C n_laws_szCombatTable [CombatTableV false t, I n] = some (I (less n (cntTable t))) := by
  refine callC p_laws_szCombatTable rfl ?_
  have h1 := c_laws_szOddsS t.columns n hn hl.c
  by_cases hc : n < t.columns.length
  · have h2 : n < cntTable t := by unfold cntTable; omega
    rw [less_yes hc] at h1
    simp [xRun, a_laws_szCombatTable, h1, less_yes h2]
  · rw [less_no hc] at h1
    have h3 : ¬ n - (t.columns.length : Int) < 0 := by omega
    have h4 := c_laws_szIntSS t.results _ (less_left hn hc) hl.n hl.r
    by_cases hd : n - (t.columns.length : Int) < (cntSS t.results : Nat)
    · have h2 : n < cntTable t := by unfold cntTable; omega
      rw [less_yes hd] at h4
      simp [xRun, a_laws_szCombatTable, h1, h3, h4, less_yes h2]
    · have h2 : ¬ n < cntTable t := by unfold cntTable; omega
      have h5 : ¬ n - (cntTable t : Int) < 0 := by omega
      rw [less_no hd, show n - (t.columns.length : Int) - (cntSS t.results : Nat) = n - (cntTable t : Int) by unfold cntTable; omega] at h4
      simp [xRun, a_laws_szCombatTable, h1, h3, h4, h5, less_no h2]
theorem c_laws_toIntSS (l : List (List Int)) (hl : Len l.length) (hls : ∀ r ∈ l, Len r.length) : C n_laws_toIntSS [IntSSV false l] = some (IntSSV true l) := by
  refine callC p_laws_toIntSS rfl ?_
  have h0 := make_ok hl
  simp [xRun, a_laws_toIntSS, rows_length, h0, -List.replicate]
  refine list_loop l (by unfold Len at hl; omega) (fun i (_ : Unit) => [(3, .own 0 1 (fillR (fun r => [.list true 1 (ints r)]) [.list true 1 []] l i)), (4, I i)]) (fun _ _ => True) default (by simp [fillR_zero, -List.replicate]) trivial ?_ ?_
  · intro N E i a s ha hi hm ht hwi _ hN hE
    have hset := fillR_set (fun r => [D.list true 1 (ints r)]) [.list true 1 []] ha
    simp [bodyF, b_laws_toIntSS_0, rows_length, hi, rows_at ha, rows_get ha, hwi, c_laws_toIntS a (hls a hm), fillR_at _ _ hi, hset]
    exact hN _ s (by simp) trivial
  · intro N E s _ hE
    simp [bodyF, b_laws_toIntSS_0, rows_length]
    refine hE _ _ fun st => ?_
    simp [fillR_end, rowsOfL]
theorem c_laws_toCombatTable (t : CombatTable) (hl : LenTable t) : C n_laws_toCombatTable [CombatTableV false t] = some (CombatTableV true t) := by
  refine callC p_laws_toCombatTable rfl ?_
  simp [xRun, a_laws_toCombatTable, c_laws_toOddsS _ hl.c, c_laws_toIntSS _ hl.r hl.rs]
theorem c_laws_eqIntSS (l : List (List Int)) (hl : Len l.length) (hls : ∀ r ∈ l, Len r.length) : C n_laws_eqIntSS [IntSSV false l, IntSSV false l] = some (Bo true) := by
  refine callC p_laws_eqIntSS rfl ?_
  simp [xRun, a_laws_eqIntSS, rows_length]
  refine list_loop l (by unfold Len at hl; omega) (fun i (_ : Unit) => [(5, I i)]) (fun _ _ => True) default (by simp) trivial ?_ ?_
  · intro N E i a s ha hi hm ht hwi _ hN hE
    simp [bodyF, b_laws_eqIntSS_0, rows_length, hi, rows_at ha, rows_get ha, hwi, c_laws_eqIntS a (hls a hm)]
    exact hN _ s (by simp) trivial
  · intro N E s _ hE
    simp [bodyF, b_laws_eqIntSS_0, rows_length]
    exact hE _ _ fun st => by simp
theorem c_laws_eqCombatTable (t : CombatTable) (hl : LenTable t) : C n_laws_eqCombatTable [CombatTableV false t, CombatTableV false t] = some (Bo true) := by
  refine callC p_laws_eqCombatTable rfl ?_
  simp [xRun, a_laws_eqCombatTable, c_laws_eqOddsS _ hl.c, c_laws_eqIntSS _ hl.r hl.rs]
/-- One column's odds. -/
def OddsOK (c : Odds) : Prop := (1 ≤ c.num ∧ c.num ≤ 20) ∧ 1 ≤ c.den ∧ c.den ≤ 20
/-- The odds rise. -/
def IncC (l : List Odds) : Prop := ∀ (i : Nat) a b, l[i]? = some a → l[i + 1]? = some b → a.num * b.den < b.num * a.den
structure TableOK (t : CombatTable) : Prop where
  cs : 1 ≤ (t.columns.length : Int) ∧ (t.columns.length : Int) ≤ 8
  dice : 1 ≤ t.dice ∧ t.dice ≤ 2
  rs : (t.results.length : Int) = 5 * t.dice + 1
  odds : ∀ c ∈ t.columns, OddsOK c
  inc : IncC t.columns
  row : ∀ r ∈ t.results, r.length = t.columns.length ∧ AllIn r 0 7
theorem mul400 {a b : Int} (h1 : 1 ≤ a ∧ a ≤ 20) (h2 : 1 ≤ b ∧ b ≤ 20) : 0 ≤ a * b ∧ a * b ≤ 400 := by
  have := mul_bounds (a := a) (b := b) (x := 20) (y := 20) (by omega) (by omega)
  omega
def ColsUpto (l : List Odds) (i : Nat) : Prop := (∀ c ∈ l.take i, OddsOK c) ∧ ∀ (j : Nat) a c, j + 1 < i → l[j]? = some a → l[j + 1]? = some c → a.num * c.den < c.num * a.den
theorem ColsUpto.zero {l : List Odds} : ColsUpto l 0 := ⟨by simp, fun j a c h => by omega⟩
theorem ColsUpto.next {l : List Odds} {i : Nat} {a : Odds} (h : ColsUpto l i) (ha : l[i]? = some a) (ht : l.take (i + 1) = l.take i ++ [a]) (hok : OddsOK a) (hp : ∀ k p, k + 1 = i → l[k]? = some p → p.num * a.den < a.num * p.den) : ColsUpto l (i + 1) := by
  refine ⟨fun x hx => ?_, fun j x y hj hx hy => ?_⟩
  · rw [ht] at hx; simp at hx
    rcases hx with hx | rfl
    · exact h.1 x hx
    · exact hok
  · by_cases hji : j + 1 = i
    · subst hji
      rw [ha] at hy; obtain rfl := Option.some.inj hy
      exact hp j x rfl hx
    · exact h.2 j x y (by omega) hx hy
theorem ColsUpto.all {l : List Odds} (h : ColsUpto l l.length) : (∀ c ∈ l, OddsOK c) ∧ IncC l := by
  refine ⟨by simpa using h.1, fun i x y hx hy => h.2 i x y (by have := (List.getElem?_eq_some_iff.1 hy).1; omega) hx hy⟩
theorem c_spec_kRows (n : Int) (h : 0 ≤ n ∧ n ≤ 1000) : C n_spec_kRows [I n] = some (I (5 * n + 1)) := by
  refine callC p_spec_kRows rfl ?_
  have w1 : IntKind.i64.wrap (5 * n) = 5 * n := wrap_small (by omega) (by omega)
  have w2 : IntKind.i64.wrap (5 * n + 1) = 5 * n + 1 := wrap_small (by omega) (by omega)
  simp [xRun, a_spec_kRows, w1, w2]
theorem c_spec_kGood (t : CombatTable) (hl : LenTable t) : C n_spec_kGood [CombatTableV false t] = some (Bo (decide (TableOK t))) := by
  refine callC p_spec_kGood rfl ?_
  have hlc := hl.c
  have hlr := hl.r
  unfold Len at hlc hlr
  by_cases g1 : 1 ≤ (t.columns.length : Int) ∧ (t.columns.length : Int) ≤ 8
  rotate_left
  · have hP : ¬ TableOK t := fun h => g1 h.cs
    simp [xRun, a_spec_kGood, g1, hP]
  by_cases g2 : 1 ≤ t.dice ∧ t.dice ≤ 2
  rotate_left
  · have hP : ¬ TableOK t := fun h => g2 h.dice
    simp [xRun, a_spec_kGood, g1, g2, hP]
  have e0 := c_spec_kRows t.dice (by omega)
  by_cases g3 : (t.results.length : Int) = 5 * t.dice + 1
  rotate_left
  · have hP : ¬ TableOK t := fun h => g3 h.rs
    simp [xRun, a_spec_kGood, g1, g2, e0, rows_length, g3, hP]
  have hP : TableOK t ↔ (∀ c ∈ t.columns, OddsOK c) ∧ IncC t.columns ∧ ∀ r ∈ t.results, r.length = t.columns.length ∧ AllIn r 0 7 :=
    ⟨fun h => ⟨h.odds, h.inc, h.row⟩, fun h => ⟨g1, g2, g3, h.1, h.2.1, h.2.2⟩⟩
  have hrs := hl.rs
  simp only [hP]
  simp [xRun, a_spec_kGood, g1, g2, e0, rows_length, g3]
  refine list_loop t.columns (by omega) (fun n (_ : Unit) => [(30, I n)]) (fun n _ => ColsUpto t.columns n) default (by simp) .zero ?_ ?_
  · intro N E n c z hc hlt hm ht hwi hs hN hE
    by_cases k1 : 1 ≤ c.num ∧ c.num ≤ 20
    rotate_left
    · have hQ : ¬ ∀ c ∈ t.columns, OddsOK c := fun h => k1 (h c hm).1
      simp [bodyF, b_spec_kGood_0, hlt, hc, at_of hc, Odds.enc, k1]
      exact hE _ _ fun st => by simp only [hQ, false_and]; simp
    by_cases k2 : 1 ≤ c.den ∧ c.den ≤ 20
    rotate_left
    · have hQ : ¬ ∀ c ∈ t.columns, OddsOK c := fun h => k2 (h c hm).2
      simp [bodyF, b_spec_kGood_0, hlt, hc, at_of hc, Odds.enc, k1, k2]
      exact hE _ _ fun st => by simp only [hQ, false_and]; simp
    by_cases h0 : n = 0
    · subst h0
      have hw1 : IntKind.i64.wrap 1 = 1 := by simpa using hwi
      simp [bodyF, b_spec_kGood_0, hlt, hc, at_of hc, Odds.enc, k1, k2, hw1]
      exact hN _ z (by simp) (hs.next hc ht ⟨k1, k2⟩ fun k p hk => by omega)
    · obtain ⟨k, rfl⟩ : ∃ k, n = k + 1 := ⟨n - 1, by omega⟩
      obtain ⟨p, hb⟩ : ∃ p, t.columns[k]? = some p := ⟨t.columns[k], by simp⟩
      have hpo : OddsOK p := hs.1 p (List.mem_of_getElem? (by rw [List.getElem?_take_of_lt (Nat.lt_succ_self k)]; exact hb))
      generalize hii : k + 1 = i at *
      have hw : IntKind.i64.wrap ((i : Int) - 1) = (k : Int) := by rw [wrap_small (by omega) (by omega)]; omega
      have hk : k < t.columns.length := by omega
      have hp : 0 < i := by omega
      have m1 := mul400 hpo.1 k2
      have m2 := mul400 k1 hpo.2
      have w1 : IntKind.i64.wrap (p.num * c.den) = p.num * c.den := wrap_small (by omega) (by omega)
      have w2 : IntKind.i64.wrap (c.num * p.den) = c.num * p.den := wrap_small (by omega) (by omega)
      by_cases hd : c.num * p.den ≤ p.num * c.den
      · have hQ : ¬ IncC t.columns := fun h => by have := h k p c hb (by rw [hii]; exact hc); omega
        simp [bodyF, b_spec_kGood_0, hlt, hc, at_of hc, Odds.enc, k1, k2, hw, hk, hb, at_of hb, hp, w1, w2, hd]
        exact hE _ _ fun st => by simp only [hQ, false_and, and_false]; simp
      · simp [bodyF, b_spec_kGood_0, hlt, hc, at_of hc, Odds.enc, k1, k2, hw, hk, hb, at_of hb, hp, w1, w2, hd, hwi]
        exact hN _ z (by simp) (hs.next hc ht ⟨k1, k2⟩ fun k' p' hk' hp' => by
          obtain rfl : k' = k := by omega
          rw [hb] at hp'; obtain rfl := Option.some.inj hp'; omega)
  · intro N E z hs hE
    obtain ⟨hQ1, hQ2⟩ := hs.all
    simp [bodyF, b_spec_kGood_0]
    refine hE _ _ fun st => ?_
    simp only [hQ1, hQ2, true_and]
    simp [rows_length]
    refine find_loop t.results (by omega) 74 (fun r => ¬ (r.length = t.columns.length ∧ AllIn r 0 7)) (by simp) ?_ ?_
    · intro N E n r hr hlt hm hwi hs hN hE
      have hrl := hrs r hm
      have e1 := c_spec_l1All r 0 7 hrl
      by_cases k1 : r.length = t.columns.length
      · have k1' : (r.length : Int) = t.columns.length := by omega
        by_cases k2 : AllIn r 0 7
        · simp [bodyF, b_spec_kGood_1, rows_length, hlt, rows_at hr, rows_get hr, ints_length, k1, e1, k2, hwi]
          exact hN _ (by simp) (fun h => h ⟨k1, k2⟩)
        · have hQ : ¬ ∀ r ∈ t.results, r.length = t.columns.length ∧ AllIn r 0 7 := fun h => k2 (h r hm).2
          simp [bodyF, b_spec_kGood_1, rows_length, hlt, rows_at hr, rows_get hr, ints_length, k1, e1, k2]
          exact hE _ _ fun st => by simp only [hQ]; simp
      · have hQ : ¬ ∀ r ∈ t.results, r.length = t.columns.length ∧ AllIn r 0 7 := fun h => k1 (h r hm).1
        have k1' : ¬ (r.length : Int) = t.columns.length := by omega
        simp [bodyF, b_spec_kGood_1, rows_length, hlt, rows_at hr, rows_get hr, ints_length, k1, k1']
        exact hE _ _ fun st => by simp only [hQ]; simp
    · intro N E hs hE
      have hQ : ∀ r ∈ t.results, r.length = t.columns.length ∧ AllIn r 0 7 := fun r hr => Classical.not_not.1 (hs r hr)
      simp [bodyF, b_spec_kGood_1, rows_length]
      exact hE _ _ fun st => by
        simp only [hQ]; simp [hQ]
        exact ⟨hQ1, hQ⟩
theorem c_impl_IsCombatTable_1 (c : Int) : C n_impl_IsCombatTable_1 (I c :: ([] : List (List D)).map .rp) = some (Bo (decide (¬ (0 ≤ c ∧ c ≤ 7)))) := by
  refine callC p_impl_IsCombatTable_1 rfl ?_
  by_cases h : 0 ≤ c ∧ c ≤ 7 <;> simp [xRun, a_impl_IsCombatTable_1, h]
theorem c_impl_IsCombatTable (t : CombatTable) (hl : LenTable t) : C n_impl_IsCombatTable [CombatTableV false t] = some (Bo (decide (TableOK t))) := by
  refine callC p_impl_IsCombatTable rfl ?_
  have hlc := hl.c
  have hlr := hl.r
  unfold Len at hlc hlr
  by_cases g1 : 1 ≤ (t.columns.length : Int) ∧ (t.columns.length : Int) ≤ 8
  rotate_left
  · have hP : ¬ TableOK t := fun h => g1 h.cs
    simp [xRun, a_impl_IsCombatTable, g1, hP]
  by_cases g2 : 1 ≤ t.dice ∧ t.dice ≤ 2
  rotate_left
  · have hP : ¬ TableOK t := fun h => g2 h.dice
    simp [xRun, a_impl_IsCombatTable, g1, g2, hP]
  have w5 : IntKind.i64.wrap (5 * t.dice) = 5 * t.dice := wrap_small (by omega) (by omega)
  have w6 : IntKind.i64.wrap (5 * t.dice + 1) = 5 * t.dice + 1 := wrap_small (by omega) (by omega)
  by_cases g3 : (t.results.length : Int) = 5 * t.dice + 1
  rotate_left
  · have hP : ¬ TableOK t := fun h => g3 h.rs
    simp [xRun, a_impl_IsCombatTable, g1, g2, w5, w6, rows_length, g3, hP]
  have hP : TableOK t ↔ (∀ c ∈ t.columns, OddsOK c) ∧ IncC t.columns ∧ ∀ r ∈ t.results, r.length = t.columns.length ∧ AllIn r 0 7 :=
    ⟨fun h => ⟨h.odds, h.inc, h.row⟩, fun h => ⟨g1, g2, g3, h.1, h.2.1, h.2.2⟩⟩
  have hrs := hl.rs
  simp only [hP]
  simp [xRun, a_impl_IsCombatTable, g1, g2, w5, w6, rows_length, g3]
  refine list_loop t.columns (by omega) (fun n (_ : Unit) => [(31, I n)]) (fun n _ => ColsUpto t.columns n) default (by simp) .zero ?_ ?_
  · intro N E n c z hc hlt hm ht hwi hs hN hE
    by_cases k1 : 1 ≤ c.num ∧ c.num ≤ 20
    rotate_left
    · have hQ : ¬ ∀ c ∈ t.columns, OddsOK c := fun h => k1 (h c hm).1
      simp [bodyF, b_impl_IsCombatTable_0, hlt, hc, at_of hc, Odds.enc, k1]
      exact hE _ _ fun st => by simp only [hQ, false_and]; simp
    by_cases k2 : 1 ≤ c.den ∧ c.den ≤ 20
    rotate_left
    · have hQ : ¬ ∀ c ∈ t.columns, OddsOK c := fun h => k2 (h c hm).2
      simp [bodyF, b_impl_IsCombatTable_0, hlt, hc, at_of hc, Odds.enc, k1, k2]
      exact hE _ _ fun st => by simp only [hQ, false_and]; simp
    by_cases h0 : n = 0
    · subst h0
      have hw1 : IntKind.i64.wrap 1 = 1 := by simpa using hwi
      simp [bodyF, b_impl_IsCombatTable_0, hlt, hc, at_of hc, Odds.enc, k1, k2, hw1]
      exact hN _ z (by simp) (hs.next hc ht ⟨k1, k2⟩ fun k p hk => by omega)
    · obtain ⟨k, rfl⟩ : ∃ k, n = k + 1 := ⟨n - 1, by omega⟩
      obtain ⟨p, hb⟩ : ∃ p, t.columns[k]? = some p := ⟨t.columns[k], by simp⟩
      have hpo : OddsOK p := hs.1 p (List.mem_of_getElem? (by rw [List.getElem?_take_of_lt (Nat.lt_succ_self k)]; exact hb))
      generalize hii : k + 1 = i at *
      have hw : IntKind.i64.wrap ((i : Int) - 1) = (k : Int) := by rw [wrap_small (by omega) (by omega)]; omega
      have hk : k < t.columns.length := by omega
      have hp : 0 < i := by omega
      have m1 := mul400 hpo.1 k2
      have m2 := mul400 k1 hpo.2
      have w1 : IntKind.i64.wrap (p.num * c.den) = p.num * c.den := wrap_small (by omega) (by omega)
      have w2 : IntKind.i64.wrap (c.num * p.den) = c.num * p.den := wrap_small (by omega) (by omega)
      by_cases hd : c.num * p.den ≤ p.num * c.den
      · have hQ : ¬ IncC t.columns := fun h => by have := h k p c hb (by rw [hii]; exact hc); omega
        simp [bodyF, b_impl_IsCombatTable_0, hlt, hc, at_of hc, Odds.enc, k1, k2, hw, hk, hb, at_of hb, hp, w1, w2, hd]
        exact hE _ _ fun st => by simp only [hQ, false_and, and_false]; simp
      · simp [bodyF, b_impl_IsCombatTable_0, hlt, hc, at_of hc, Odds.enc, k1, k2, hw, hk, hb, at_of hb, hp, w1, w2, hd, hwi]
        exact hN _ z (by simp) (hs.next hc ht ⟨k1, k2⟩ fun k' p' hk' hp' => by
          obtain rfl : k' = k := by omega
          rw [hb] at hp'; obtain rfl := Option.some.inj hp'; omega)
  · intro N E z hs hE
    obtain ⟨hQ1, hQ2⟩ := hs.all
    simp [bodyF, b_impl_IsCombatTable_0]
    refine hE _ _ fun st => ?_
    simp only [hQ1, hQ2, true_and]
    simp [rows_length]
    refine find_loop t.results (by omega) 75 (fun r => ¬ (r.length = t.columns.length ∧ AllIn r 0 7)) (by simp) ?_ ?_
    · intro N E n r hr hlt hm hwi hs hN hE
      have hrl := hrs r hm
      have e1 := c_slices_ContainsFunc_int r n_impl_IsCombatTable_1 [] (fun c => ¬ (0 ≤ c ∧ c ≤ 7)) hrl c_impl_IsCombatTable_1
      rw [not_ex] at e1
      by_cases k1 : r.length = t.columns.length
      · have k1' : (r.length : Int) = t.columns.length := by omega
        by_cases k2 : AllIn r 0 7
        · have k3 := k2
          unfold AllIn at k3
          rw [decide_eq_true k3] at e1
          simp [bodyF, b_impl_IsCombatTable_1, rows_length, hlt, rows_at hr, rows_get hr, ints_length, k1, e1, hwi]
          exact hN _ (by simp) (fun h => h ⟨k1, k2⟩)
        · have hQ : ¬ ∀ r ∈ t.results, r.length = t.columns.length ∧ AllIn r 0 7 := fun h => k2 (h r hm).2
          have k3 := k2
          unfold AllIn at k3
          rw [decide_eq_false k3] at e1
          simp [bodyF, b_impl_IsCombatTable_1, rows_length, hlt, rows_at hr, rows_get hr, ints_length, k1, e1]
          exact hE _ _ fun st => by simp only [hQ]; simp
      · have hQ : ¬ ∀ r ∈ t.results, r.length = t.columns.length ∧ AllIn r 0 7 := fun h => k1 (h r hm).1
        have k1' : ¬ (r.length : Int) = t.columns.length := by omega
        simp [bodyF, b_impl_IsCombatTable_1, rows_length, hlt, rows_at hr, rows_get hr, ints_length, k1, k1']
        exact hE _ _ fun st => by simp only [hQ]; simp
    · intro N E hs hE
      have hQ : ∀ r ∈ t.results, r.length = t.columns.length ∧ AllIn r 0 7 := fun r hr => Classical.not_not.1 (hs r hr)
      simp [bodyF, b_impl_IsCombatTable_1, rows_length]
      exact hE _ _ fun st => by
        simp only [hQ]; simp [hQ]
        exact ⟨hQ1, hQ⟩
/-- The column for two strengths. -/
noncomputable def colL (A F : Int) (l : List Odds) : Nat := l.zipIdx.foldl (fun best x => if F * x.1.num ≤ A * x.1.den then x.2 else best) 0
theorem colL_nil (A F : Int) : colL A F [] = 0 := rfl
theorem colL_snoc (A F : Int) (l : List Odds) (c : Odds) : colL A F (l ++ [c]) = if F * c.num ≤ A * c.den then l.length else colL A F l := by
  unfold colL
  rw [List.zipIdx_append, List.foldl_append]
  simp
theorem colL_le (A F : Int) (l : List Odds) (n : Nat) : colL A F (l.take n) ≤ l.length - 1 := by
  induction n with
  | zero => simp [colL_nil]
  | succ n ih =>
    by_cases hn : n < l.length
    · rw [List.take_succ_eq_append_getElem hn, colL_snoc]
      split
      · rw [List.length_take]; omega
      · exact ih
    · rw [List.take_of_length_le (by omega)] at ih ⊢
      exact ih
theorem c_spec_kColumn (t : CombatTable) (A F : Int) (h : TableOK t) (hA : 0 ≤ A ∧ A ≤ 100000000) (hF : 0 ≤ F ∧ F ≤ 100000000) : C n_spec_kColumn [CombatTableV false t, I A, I F] = some (I (colL A F t.columns)) := by
  refine callC p_spec_kColumn rfl ?_
  have hcs := h.cs
  simp [xRun, a_spec_kColumn]
  refine list_loop t.columns (by omega) (fun n (_ : Unit) => [(7, I (colL A F (t.columns.take n))), (13, I n)]) (fun _ _ => True) default (by simp [colL_nil]) trivial ?_ ?_
  · intro N E n c z hc hlt hm ht hwi _ hN hE
    have hok := h.odds c hm
    have b1 := mul_bounds (a := A) (b := c.den) (x := 100000000) (y := 20) hA (by have := hok.2; omega)
    have b2 := mul_bounds (a := F) (b := c.num) (x := 100000000) (y := 20) hF (by have := hok.1; omega)
    have w1 : IntKind.i64.wrap (A * c.den) = A * c.den := wrap_small (by omega) (by omega)
    have w2 : IntKind.i64.wrap (F * c.num) = F * c.num := wrap_small (by omega) (by omega)
    have hl : (t.columns.take n).length = n := by rw [List.length_take]; omega
    rw [ht, colL_snoc, hl] at hN
    by_cases h1 : F * c.num ≤ A * c.den
    · simp [bodyF, b_spec_kColumn_0, hlt, hc, at_of hc, Odds.enc, w1, w2, h1, hwi]
      exact hN _ z (by simp [h1]) trivial
    · simp [bodyF, b_spec_kColumn_0, hlt, hc, at_of hc, Odds.enc, w1, w2, h1, hwi]
      exact hN _ z (by simp [h1]) trivial
  · intro N E z _ hE
    rw [List.take_length]
    simp [bodyF, b_spec_kColumn_0]
    exact hE _ _ fun st => by simp
theorem c_impl_columnFor (t : CombatTable) (A F : Int) (h : TableOK t) (hA : 0 ≤ A ∧ A ≤ 100000000) (hF : 0 ≤ F ∧ F ≤ 100000000) : C n_impl_columnFor [CombatTableV false t, I A, I F] = some (I (colL A F t.columns)) := by
  refine callC p_impl_columnFor rfl ?_
  have hcs := h.cs
  simp [xRun, a_impl_columnFor]
  refine list_loop t.columns (by omega) (fun n (_ : Unit) => [(7, I (colL A F (t.columns.take n))), (13, I n)]) (fun _ _ => True) default (by simp [colL_nil]) trivial ?_ ?_
  · intro N E n c z hc hlt hm ht hwi _ hN hE
    have hok := h.odds c hm
    have b1 := mul_bounds (a := A) (b := c.den) (x := 100000000) (y := 20) hA (by have := hok.2; omega)
    have b2 := mul_bounds (a := F) (b := c.num) (x := 100000000) (y := 20) hF (by have := hok.1; omega)
    have w1 : IntKind.i64.wrap (A * c.den) = A * c.den := wrap_small (by omega) (by omega)
    have w2 : IntKind.i64.wrap (F * c.num) = F * c.num := wrap_small (by omega) (by omega)
    have hl : (t.columns.take n).length = n := by rw [List.length_take]; omega
    rw [ht, colL_snoc, hl] at hN
    by_cases h1 : F * c.num ≤ A * c.den
    · simp [bodyF, b_impl_columnFor_0, hlt, hc, at_of hc, Odds.enc, w1, w2, h1, hwi]
      exact hN _ z (by simp [h1]) trivial
    · simp [bodyF, b_impl_columnFor_0, hlt, hc, at_of hc, Odds.enc, w1, w2, h1, hwi]
      exact hN _ z (by simp [h1]) trivial
  · intro N E z _ hE
    rw [List.take_length]
    simp [bodyF, b_impl_columnFor_0]
    exact hE _ _ fun st => by simp
/-- A column, shifted. -/
def shiftC (n c : Int) : Int := if c < 0 then 0 else if n - 1 < c then n - 1 else c
theorem c_spec_l1Least (a b : Int) : C n_spec_l1Least [I a, I b] = some (I (if a < b then a else b)) := by
  refine callC p_spec_l1Least rfl ?_
  by_cases h : a < b <;> simp [xRun, a_spec_l1Least, h]
theorem c_spec_kShift (t : CombatTable) (c sh : Int) (h : TableOK t) (hc : 0 ≤ c ∧ c ≤ 1000) (hs : -1000 ≤ sh ∧ sh ≤ 1000) : C n_spec_kShift [CombatTableV false t, I c, I sh] = some (I (shiftC t.columns.length (c + sh))) := by
  refine callC p_spec_kShift rfl ?_
  have hcs := h.cs
  have w1 : IntKind.i64.wrap (c + sh) = c + sh := wrap_small (by omega) (by omega)
  have w2 : IntKind.i64.wrap ((t.columns.length : Int) - 1) = (t.columns.length : Int) - 1 := wrap_small (by omega) (by omega)
  have e1 := c_spec_l1Least ((t.columns.length : Int) - 1) (c + sh)
  have e2 := c_spec_l1Most 0 (if (t.columns.length : Int) - 1 < c + sh then (t.columns.length : Int) - 1 else c + sh)
  have hv : (if (if (t.columns.length : Int) - 1 < c + sh then (t.columns.length : Int) - 1 else c + sh) < 0 then 0 else (if (t.columns.length : Int) - 1 < c + sh then (t.columns.length : Int) - 1 else c + sh)) = shiftC t.columns.length (c + sh) := by
    have p3 : ¬ (t.columns.length : Int) - 1 < 0 := by omega
    unfold shiftC
    by_cases p1 : (t.columns.length : Int) - 1 < c + sh <;> by_cases p2 : c + sh < 0 <;> simp [p1, p2, p3] <;> omega
  rw [hv] at e2
  generalize shiftC t.columns.length (c + sh) = r at *
  generalize (if (t.columns.length : Int) - 1 < c + sh then (t.columns.length : Int) - 1 else c + sh) = q at *
  simp [xRun, a_spec_kShift, w1, w2, e1, e2]
theorem c_impl_shiftColumn (t : CombatTable) (c sh : Int) (h : TableOK t) (hc : 0 ≤ c ∧ c ≤ 1000) (hs : -1000 ≤ sh ∧ sh ≤ 1000) : C n_impl_shiftColumn [CombatTableV false t, I c, I sh] = some (I (shiftC t.columns.length (c + sh))) := by
  refine callC p_impl_shiftColumn rfl ?_
  have hcs := h.cs
  have w1 : IntKind.i64.wrap (c + sh) = c + sh := wrap_small (by omega) (by omega)
  have w2 : IntKind.i64.wrap ((t.columns.length : Int) - 1) = (t.columns.length : Int) - 1 := wrap_small (by omega) (by omega)
  have hv : mmI false (mmI true (c + sh) 0) ((t.columns.length : Int) - 1) = shiftC t.columns.length (c + sh) := by
    have p3 : ¬ (t.columns.length : Int) - 1 < 0 := by omega
    unfold shiftC mmI
    by_cases p1 : (t.columns.length : Int) - 1 < c + sh <;> by_cases p2 : c + sh < 0 <;> simp [p1, p2, p3] <;> omega
  generalize shiftC t.columns.length (c + sh) = r at *
  simp [xRun, a_impl_shiftColumn, w1, w2, hv, -mmI]
theorem shiftC_in {n c : Int} (h : 1 ≤ n) : 0 ≤ shiftC n c ∧ shiftC n c < n := by
  unfold shiftC; split
  · omega
  · split <;> omega
/-- The column of a battle. -/
noncomputable def columnM (b : Board) (s : State) (t : CombatTable) (x : Battle) : Int := shiftC t.columns.length (colL (sumI (attF b s x.pos) x.attackers) (sumI (fun k => force b (unitAt s k)) x.defenders) t.columns + shiftM b s x)
theorem shiftM_le {b : Board} {s : State} {x : Battle} (h : StateOK b s) (hb : BattleOK b s x) : -1000 ≤ shiftM b s x ∧ shiftM b s x ≤ 1000 := by
  have ht := (h.board.t2 hb.pos).shift
  unfold shiftM
  split <;> split <;> omega
theorem strengths {b : Board} {s : State} {x : Battle} (h : StateOK b s) (hb : BattleOK b s x) (hx : LenBattle x) : (0 ≤ sumI (attF b s x.pos) x.attackers ∧ sumI (attF b s x.pos) x.attackers ≤ 100000000) ∧ 0 ≤ sumI (fun k => force b (unitAt s k)) x.defenders ∧ sumI (fun k => force b (unitAt s k)) x.defenders ≤ 100000000 := by
  have h1 := sumI_le (attF b s x.pos) x.attackers fun k hk => attF_le h (hb.att k hk).1
  have h2 := sumI_le (fun k => force b (unitAt s k)) x.defenders fun k hk => force_le h.board ((hb.d_has k hk).ok h)
  have h3 := hx.a
  have h4 := hx.d
  unfold Len at h3 h4
  omega
theorem c_spec_aColumn (b : Board) (s : State) (t : CombatTable) (x : Battle) (hl : LenB b) (h : StateOK b s) (hb : BattleOK b s x) (hx : LenBattle x) (ht : TableOK t) : C n_spec_aColumn [BoardV false b, StateV false s, CombatTableV false t, BattleV false x] = some (I (columnM b s t x)) := by
  refine callC p_spec_aColumn rfl ?_
  obtain ⟨b1, b2⟩ := strengths h hb hx
  have e1 := c_spec_aAttack b s x hl h hb hx
  have e2 := c_spec_aDefence b s x h hb hx
  have e3 := c_spec_aShift b s x h hb hx
  have e4 := c_spec_kColumn t _ _ ht b1 b2
  have hle := colL_le (sumI (attF b s x.pos) x.attackers) (sumI (fun k => force b (unitAt s k)) x.defenders) t.columns t.columns.length
  rw [List.take_length] at hle
  have hcs := ht.cs
  have e5 := c_spec_kShift t (colL (sumI (attF b s x.pos) x.attackers) (sumI (fun k => force b (unitAt s k)) x.defenders) t.columns) (shiftM b s x) ht (by omega) (shiftM_le h hb)
  unfold columnM
  simp [xRun, a_spec_aColumn, e1, e2, e3, e4, e5]
theorem c_impl_battleColumn (b : Board) (s : State) (t : CombatTable) (x : Battle) (hl : LenB b) (h : StateOK b s) (hb : BattleOK b s x) (hx : LenBattle x) (ht : TableOK t) : C n_impl_battleColumn [BoardV false b, StateV false s, CombatTableV false t, BattleV false x] = some (I (columnM b s t x)) := by
  refine callC p_impl_battleColumn rfl ?_
  obtain ⟨b1, b2⟩ := strengths h hb hx
  have e1 := c_impl_attackStrength b s x hl h hb hx
  have e2 := c_impl_defenceStrength b s x h hb hx
  have e3 := c_impl_battleShift b s x h hb hx
  have e4 := c_impl_columnFor t _ _ ht b1 b2
  have hle := colL_le (sumI (attF b s x.pos) x.attackers) (sumI (fun k => force b (unitAt s k)) x.defenders) t.columns t.columns.length
  rw [List.take_length] at hle
  have hcs := ht.cs
  have e5 := c_impl_shiftColumn t (colL (sumI (attF b s x.pos) x.attackers) (sumI (fun k => force b (unitAt s k)) x.defenders) t.columns) (shiftM b s x) ht (by omega) (shiftM_le h hb)
  unfold columnM
  simp [xRun, a_impl_battleColumn, e1, e2, e3, e4, e5]
/-- A state, a battle and a table. -/
def ColOK (b : Board) (s : State) (t : CombatTable) (x : Battle) : Prop := (StateOK b s ∧ BattleOK b s x) ∧ TableOK t
theorem c_impl_BattleColumn (b : Board) (s : State) (t : CombatTable) (x : Battle) (gb : LenB b) (gs : Len s.units.length) (gt : LenTable t) (gx : LenBattle x) : C n_impl_BattleColumn [BoardV false b, StateV false s, CombatTableV false t, BattleV false x] = some (Tup2 (.int .i64 (if ColOK b s t x then columnM b s t x else 0)) (.bool (decide (ColOK b s t x)))) := by
  refine callC p_impl_BattleColumn rfl ?_
  have e1 := c_impl_hasBattle b s x gb gs gx
  have e2 := c_impl_IsCombatTable t gt
  by_cases h : StateOK b s ∧ BattleOK b s x
  · rw [decide_eq_true h] at e1
    by_cases h2 : TableOK t
    · have hP : ColOK b s t x := ⟨h, h2⟩
      have e3 := c_impl_battleColumn b s t x gb h.1 h.2 gx h2
      simp [xRun, a_impl_BattleColumn, e1, e2, h2, hP, e3]
    · have hP : ¬ ColOK b s t x := fun hh => h2 hh.2
      simp [xRun, a_impl_BattleColumn, e1, e2, h2, hP]
  · rw [decide_eq_false h] at e1
    have hP : ¬ ColOK b s t x := fun hh => h hh.1
    simp [xRun, a_impl_BattleColumn, e1, hP]
/-- A column of a table. -/
def InCol (t : CombatTable) (c : Int) : Prop := TableOK t ∧ 0 ≤ c ∧ c < t.columns.length
theorem c_impl_isColumn (t : CombatTable) (c : Int) (hl : LenTable t) : C n_impl_isColumn [CombatTableV false t, I c] = some (Bo (decide (InCol t c))) := by
  refine callC p_impl_isColumn rfl ?_
  have e1 := c_impl_IsCombatTable t hl
  by_cases h : TableOK t
  · have hcs := h.cs
    have e2 := c_impl_isIndex c t.columns.length (by omega) (by omega)
    by_cases h2 : 0 ≤ c ∧ c < (t.columns.length : Int)
    · have hP : InCol t c := ⟨h, h2⟩
      simp [xRun, a_impl_isColumn, e1, h, e2, h2, hP]
    · have hP : ¬ InCol t c := fun hh => h2 hh.2
      simp [xRun, a_impl_isColumn, e1, h, e2, h2, hP]
  · have hP : ¬ InCol t c := fun hh => h hh.1
    simp [xRun, a_impl_isColumn, e1, h, hP]
theorem columnM_in {b : Board} {s : State} {t : CombatTable} {x : Battle} (h : TableOK t) : InCol t (columnM b s t x) := ⟨h, shiftC_in h.cs.1⟩
/-- The result of a roll. -/
def resultM (t : CombatTable) (roll c : Int) : Int := at' (at' t.results (roll - t.dice)) c
structure RollOK (t : CombatTable) (roll : Int) : Prop where
  lo : t.dice ≤ roll
  hi : roll ≤ 6 * t.dice
theorem roll_row {t : CombatTable} {roll c : Int} (h : InCol t c) (hr : RollOK t roll) : 0 ≤ roll - t.dice ∧ roll - t.dice < t.results.length ∧ t.results[(roll - t.dice).toNat]? = some (at' t.results (roll - t.dice)) ∧ (at' t.results (roll - t.dice))[c.toNat]? = some (resultM t roll c) ∧ c.toNat < (at' t.results (roll - t.dice)).length := by
  have h1 := h.1.rs
  have h2 := hr.lo
  have h3 := hr.hi
  have h4 : roll - t.dice < t.results.length := by omega
  have h5 := at_some (l := t.results) (i := roll - t.dice) (by omega) h4
  have h6 := h.1.row _ (at_mem (l := t.results) (i := roll - t.dice) (by omega) h4)
  have h7 := h.2
  exact ⟨by omega, h4, h5, at_some h7.1 (by omega), by omega⟩
theorem c_spec_kResult (t : CombatTable) (roll c : Int) (h : InCol t c) (hr : RollOK t roll) : C n_spec_kResult [CombatTableV false t, I roll, I c] = some (I (resultM t roll c)) := by
  refine callC p_spec_kResult rfl ?_
  obtain ⟨g1, g2, g3, g4, g5⟩ := roll_row h hr
  have hd := h.1.dice
  have hlo := hr.lo
  have hhi := hr.hi
  have w1 : IntKind.i64.wrap (roll - t.dice) = roll - t.dice := wrap_small (by omega) (by omega)
  have n0 : ¬ roll - t.dice < 0 := by omega
  have n1 : ¬ c < 0 := by have := h.2; omega
  have g6 : (roll - t.dice).toNat < t.results.length := by omega
  generalize at' t.results (roll - t.dice) = row at *
  generalize resultM t roll c = R at *
  simp [xRun, a_spec_kResult, w1, n0, n1, rows_length, g6, rows_at g3, rows_get g3, ints_length, g5, ints_at g4, ints_get g4]
end Go.Abs.W
