import Derived.Test.YtcknpclhcilmaabGreatDoorB9
import Derived.Test.YtcknpclhcilmaabGreatDoorB10
set_option linter.unusedSimpArgs false
set_option linter.unusedVariables false
set_option maxRecDepth 100000
set_option maxHeartbeats 2000000
namespace Go.Abs.W
open Go Go.Abs Classical
attribute [-simp] Bool.decide_and
/-- A marked Odds. -/
def mOdds (k : Int) (j : Nat) : List D := [D.int .i64 (k + ((2 * j : Nat) : Int)), D.int .i64 (k + ((2 * j : Nat) : Int) + 1)]
theorem c_laws_markOddsS (l : List Odds) (k : Int) (hl : Len l.length) (hk : Mk k (2 * l.length)) :
    C n_laws_markOddsS [Rows true 2 (l.map Odds.enc), I k] = some (.tup [none, some (.one (.int .i64 (k + (2 * l.length : Nat)))), some (.one (.list true 2 ((List.range l.length).map (mOdds k))))]) := by
  refine callC p_laws_markOddsS rfl ?_
  simp [xRun, a_laws_markOddsS]
  refine list_loop l (by unfold Len at hl; omega) (fun i (_ : Unit) => [(0, .own 0 2 (mix (mOdds k) Odds.enc l i)), (1, I (k + (2 * i : Nat))), (5, I i)]) (fun _ _ => True) default (by simp [mix_zero]) trivial ?_ ?_
  · intro N E i a s ha hi hm ht hwi _ hN hE
    have hR := mix_at (mOdds k) Odds.enc ha
    have hRl := mix_len (mOdds k) Odds.enc (Nat.le_of_lt hi)
    have hset := mix_set (mOdds k) Odds.enc hi
    generalize mix (mOdds k) Odds.enc l i = R at *
    generalize mix (mOdds k) Odds.enc l (i + 1) = R' at *
    rw [show mOdds k i = [D.int .i64 (k + ((2 * i : Nat) : Int)), D.int .i64 (k + ((2 * i : Nat) : Int) + 1)] from rfl] at hset
    rw [show k + ((2 * (i + 1) : Nat) : Int) = k + ((2 * i : Nat) : Int) + 2 by omega] at hN
    have hb : 0 < k + ((2 * i : Nat) : Int) ∧ k + ((2 * i : Nat) : Int) ≤ 1000000000000 := by unfold Mk at hk; omega
    generalize k + ((2 * i : Nat) : Int) = K at *
    have w0 : IntKind.i64.wrap (K + 1) = K + 1 := (wrap_small (by omega) (by omega)).trans (by omega)
    have w1 : IntKind.i64.wrap (K + 1 + 1) = K + 2 := (wrap_small (by omega) (by omega)).trans (by omega)
    rw [Odds.enc] at hR
    simp [bodyF, b_laws_markOddsS_0, hRl, hi, hR, at_of hR, hset, w0, w1, hwi]
    exact hN _ s (by simp) trivial
  · intro N E s _ hE
    have hRl := mix_len (mOdds k) Odds.enc (Nat.le_refl l.length)
    have he := mix_end (mOdds k) Odds.enc l
    generalize mix (mOdds k) Odds.enc l l.length = R at *
    simp [bodyF, b_laws_markOddsS_0, hRl]
    refine hE _ _ fun st => ?_
    simp [he, flatD]
def rowE (o : Bool) (r : List Int) : List D := [.list o 1 (ints r)]
/-- How far the marks of rows go (IntSS). -/
def szIntSS (t : List Int) : Nat := t.length
def cIntSS (l : List (List Int)) : Nat := (l.map szIntSS).sum
theorem cIntSS_nil : cIntSS [] = 0 := rfl
theorem cIntSS_snoc (l : List (List Int)) (t : List Int) : cIntSS (l ++ [t]) = cIntSS l + szIntSS t := by simp [cIntSS]
theorem cIntSS_take (l : List (List Int)) (i : Nat) : cIntSS (l.take i) ≤ cIntSS l := by
  conv => rhs; rw [← List.take_append_drop i l]
  unfold cIntSS
  rw [List.map_append, List.sum_append]
  omega
/-- A marked row; the marked rows. -/
def mIntSS1 (o : Bool) (K : Int) (t : List Int) : List D := [D.list o 1 (ints (upI K t.length))]
def mIntSS (o : Bool) (k : Int) : List (List Int) → List (List D)
  | [] => []
  | t :: l => mIntSS1 o k t :: mIntSS o (k + (szIntSS t : Nat)) l
theorem mIntSS_snoc (o : Bool) (k : Int) (l : List (List Int)) (t : List Int) : mIntSS o k (l ++ [t]) = mIntSS o k l ++ [mIntSS1 o (k + cIntSS l) t] := by
  induction l generalizing k with
  | nil => simp [mIntSS, cIntSS_nil]
  | cons x l ih =>
    have hc : cIntSS (x :: l) = szIntSS x + cIntSS l := by simp [cIntSS]
    simp only [List.cons_append, mIntSS, ih]
    rw [show k + ((szIntSS x : Nat) : Int) + (cIntSS l : Int) = k + (cIntSS (x :: l) : Int) by rw [hc]; omega]
theorem mIntSS_length (o : Bool) (k : Int) (l : List (List Int)) : (mIntSS o k l).length = l.length := by
  induction l generalizing k with
  | nil => rfl
  | cons x l ih => simp [mIntSS, ih]
theorem mIntSS_at (o : Bool) (k : Int) {l : List (List Int)} {i : Nat} {t : List Int} (h : l[i]? = some t) : (mIntSS o k l)[i]? = some (mIntSS1 o (k + cIntSS (l.take i)) t) := by
  induction l generalizing k i with
  | nil => cases h
  | cons x l ih =>
    cases i with
    | zero =>
      simp at h; subst h
      simp [mIntSS, cIntSS_nil]
    | succ i =>
      have := ih (k + (szIntSS x : Nat)) (i := i) (by simpa using h)
      simp only [mIntSS, List.getElem?_cons_succ, this, List.take_succ_cons]
      have hc : cIntSS (x :: l.take i) = szIntSS x + cIntSS (l.take i) := by simp [cIntSS]
      rw [hc, show k + ((szIntSS x : Nat) : Int) + (cIntSS (l.take i) : Int) = k + ((szIntSS x + cIntSS (l.take i) : Nat) : Int) by omega]
@[simp] theorem stale_mIntSS (o : Bool) (k : Int) (l : List (List Int)) : staleLL (mIntSS o k l) = mIntSS false k l := by
  induction l generalizing k with
  | nil => rfl
  | cons x l ih => simp [mIntSS, mIntSS1, staleLL, staleL, D.stale, ih]
@[simp] theorem safe_mIntSS (k : Int) (l : List (List Int)) : safeLL (mIntSS true k l) = true := by
  induction l generalizing k with
  | nil => rfl
  | cons x l ih => simp [mIntSS, mIntSS1, safeLL, safeL, D.safe, ih]
theorem c_laws_markIntSS (l : List (List Int)) (k : Int) (hl : Len l.length) (hls : ∀ t ∈ l, Len t.length) (hk : Mk k (cIntSS l)) :
    C n_laws_markIntSS [Rows true 1 (l.map (rowE true)), I k] = some (.tup [none, some (.one (.int .i64 (k + cIntSS l))), some (.one (.list true 1 (mIntSS true k l)))]) := by
  refine callC p_laws_markIntSS rfl ?_
  simp [xRun, a_laws_markIntSS]
  refine list_loop l (by unfold Len at hl; omega) (fun i (_ : Unit) => [(0, .own 0 1 (mIntSS true k (l.take i) ++ (l.drop i).map (rowE true))), (1, I (k + cIntSS (l.take i))), (5, I i)]) (fun _ _ => True) default (by simp [mIntSS, cIntSS_nil]) trivial ?_ ?_
  · intro N E i a s ha hi hm ht hwi _ hN hE
    rw [ht, mIntSS_snoc, cIntSS_snoc] at hN
    have hcb := cIntSS_take l (i + 1)
    rw [ht, cIntSS_snoc] at hcb
    have hlen : (mIntSS true k (l.take i)).length = i := by rw [mIntSS_length, List.length_take]; omega
    have hd : l.drop i = a :: l.drop (i + 1) := by rw [List.drop_eq_getElem_cons hi, at_of ha]
    have hR : (mIntSS true k (l.take i) ++ (l.drop i).map (rowE true))[i]? = some ((rowE true) a) := by
      rw [List.getElem?_append_right (by omega), hlen, Nat.sub_self, hd]; rfl
    have hRl : (mIntSS true k (l.take i) ++ (l.drop i).map (rowE true)).length = l.length := by
      rw [List.length_append, hlen, List.length_map, List.length_drop]; omega
    have hset : ∀ row, (mIntSS true k (l.take i) ++ (l.drop i).map (rowE true)).set i row = mIntSS true k (l.take i) ++ [row] ++ (l.drop (i + 1)).map (rowE true) := by
      intro row
      rw [List.set_append_right _ _ (by omega), hlen, Nat.sub_self, hd, List.map_cons, List.set_cons_zero, List.append_assoc]; rfl
    have hN' : ∀ e', trim [0, 1, 5] e' = _ → N e' := fun e' he => hN e' s he trivial
    clear hN
    generalize mIntSS true k (l.take i) ++ (l.drop i).map (rowE true) = R at *
    rw [show k + ((cIntSS (l.take i) + szIntSS a : Nat) : Int) = k + cIntSS (l.take i) + (szIntSS a : Int) by omega] at hN'
    have hb : 0 < k + cIntSS (l.take i) ∧ k + cIntSS (l.take i) + (szIntSS a : Int) ≤ 1000000000000 := by unfold Mk at hk; omega
    generalize k + (cIntSS (l.take i) : Int) = K at *
    unfold szIntSS at hN' hb
    unfold mIntSS1 at hN'
    try simp only [Order.enc, Battle.enc3] at hR
    try simp only [rowE] at hR
    have e1 := c_laws_markIntS a K (hls a hm) (by unfold Mk; omega)
    generalize hk1 : K + (a.length : Int) = K1 at *
    obtain ⟨R1, s1⟩ : ∃ R', R.set i [D.list true 1 (ints (upI K a.length))] = R' := ⟨_, rfl⟩
    have l1 : R1.length = l.length := by rw [← s1, List.length_set]; exact hRl
    have q1 : R1[i]? = some [D.list true 1 (ints (upI K a.length))] := by rw [← s1, List.getElem?_set_self (by rw [hRl]; exact hi)]
    have sN := hset [D.list true 1 (ints (upI K a.length))]
    have sM : R1 = R.set i [D.list true 1 (ints (upI K a.length))] := by rw [← s1]
    rw [← sM] at sN
    have hlast : K + ((a.length : Nat) : Int) = K1 := by omega
    try rw [hlast] at hN'
    clear hset sM
    simp [bodyF, b_laws_markIntSS_0, hRl, hi, hR, at_of hR, hk1, e1, l1, q1, at_of q1, s1, hwi]
    exact hN' _ (by simp [sN])
  · intro N E s _ hE
    have hRl := mIntSS_length true k l
    rw [List.take_length, List.drop_length]
    simp [bodyF, b_laws_markIntSS_0, hRl]
    refine hE _ _ fun st => ?_
    simp [flatD]
def cTable (t : CombatTable) : Nat := 2 * t.columns.length + cIntSS t.results
theorem cIntSS_le (l : List (List Int)) : cIntSS l ≤ cntSS l := by
  unfold cntSS
  induction l with
  | nil => simp [cIntSS]
  | cons t l ih =>
    have h1 : cIntSS (t :: l) = szIntSS t + cIntSS l := by simp [cIntSS]
    have h2 : sumN List.length (t :: l) = t.length + sumN List.length l := by rw [show t :: l = [t] ++ l from rfl, sumN_app, sumN_one]
    have h3 : szIntSS t = t.length := by simp [szIntSS]
    rw [h1, h2, h3, List.length_cons]; omega
theorem cTable_le (t : CombatTable) : cTable t ≤ 2 * cntTable t := by
  have := cIntSS_le t.results
  unfold cTable cntTable; omega
theorem c_laws_markCombatTable (t : CombatTable) (k : Int) (hl : LenTable t) (hk : Mk k (cTable t)) :
    C n_laws_markCombatTable [CombatTableV true t, I k] = some (.tup [none, some (.one (.int .i64 (k + cTable t))), some (.agg [.list true 2 ((List.range t.columns.length).map (mOdds k)), .int .i64 t.dice, .list true 1 (mIntSS true (k + ((2 * t.columns.length : Nat) : Int)) t.results)])]) := by
  refine callC p_laws_markCombatTable rfl ?_
  unfold cTable at hk ⊢
  have e1 := c_laws_markOddsS t.columns k hl.c (by unfold Mk at *; omega)
  have e2 := c_laws_markIntSS t.results (k + ((2 * t.columns.length : Nat) : Int)) hl.r hl.rs (by unfold Mk at *; omega)
  change C n_laws_markIntSS [Rows true 1 (rowsOfL true t.results), _] = _ at e2
  rw [show k + ((2 * t.columns.length + cIntSS t.results : Nat) : Int) = k + ((2 * t.columns.length : Nat) : Int) + (cIntSS t.results : Int) by omega]
  generalize k + ((2 * t.columns.length : Nat) : Int) = K at *
  simp [xRun, a_laws_markCombatTable, e1, e2, flatD]
end Go.Abs.W
