import Derived.Test.YtcknpclhcilmaaaGreatDoorB3
import Derived.Test.YtcknpclhcilmaaaGreatDoorB0
set_option linter.unusedSimpArgs false
set_option linter.unusedVariables false
set_option maxRecDepth 100000
set_option maxHeartbeats 2000000
namespace Go.Abs.W
open Go Go.Abs Classical
attribute [-simp] Bool.decide_and
@[simp] theorem stale_mUnit (k : Int) (n : Nat) : staleLL ((List.range n).map (mUnit k)) = (List.range n).map (mUnit k) := by
  generalize List.range n = l
  induction l with
  | nil => rfl
  | cons x l ih => simp [staleLL, staleL, D.stale, ih, mUnit]
@[simp] theorem safe_mUnit (k : Int) (n : Nat) : safeLL ((List.range n).map (mUnit k)) = true := by
  generalize List.range n = l
  induction l with
  | nil => rfl
  | cons x l ih => simp [safeLL, safeL, D.safe, ih, mUnit]
theorem c_laws_heldUnitS (k : Int) (n : Nat) (hl : Len n) (hk : Mk k (4 * n)) : C n_laws_heldUnitS [Rows false 4 ((List.range n).map (mUnit k)), I k] = some (I (k + (4 * n : Nat))) := by
  refine callC p_laws_heldUnitS rfl ?_
  have hn : (List.range n).length = n := by simp
  simp [xRun, a_laws_heldUnitS]
  refine list_loop (List.range n) (by rw [hn]; unfold Len at hl; omega) (fun i (_ : Unit) => [(1, I (k + (4 * i : Nat))), (5, I i)]) (fun _ _ => True) default (by simp) trivial ?_ ?_
  · intro N E i a s ha hi hm ht hwi _ hN hE
    rw [hn] at hi
    have hai : a = i := by
      have := (List.getElem?_eq_some_iff.1 ha).2
      simpa using this.symm
    subst hai
    have hR : ((List.range n).map (mUnit k))[a]? = some (mUnit k a) := by simp [ha]
    have hRl : ((List.range n).map (mUnit k)).length = n := by simp
    generalize (List.range n).map (mUnit k) = R at *
    rw [show mUnit k a = [D.int .i64 (k + ((4 * a : Nat) : Int)), D.int .i64 (k + ((4 * a : Nat) : Int) + 1), D.int .i64 (k + ((4 * a : Nat) : Int) + 2), D.int .i64 (k + ((4 * a : Nat) : Int) + 3)] from rfl] at hR
    rw [show k + ((4 * (a + 1) : Nat) : Int) = k + ((4 * a : Nat) : Int) + 4 by omega] at hN
    have hb : 0 < k + ((4 * a : Nat) : Int) ∧ k + ((4 * a : Nat) : Int) + 4 ≤ 1000000000000 := by unfold Mk at hk; omega
    generalize k + ((4 * a : Nat) : Int) = K at *
    have w0 : IntKind.i64.wrap (K + 1) = K + 1 := (wrap_small (by omega) (by omega)).trans (by omega)
    have w1 : IntKind.i64.wrap (K + 1 + 1) = K + 2 := (wrap_small (by omega) (by omega)).trans (by omega)
    have w2 : IntKind.i64.wrap (K + 2 + 1) = K + 3 := (wrap_small (by omega) (by omega)).trans (by omega)
    have w3 : IntKind.i64.wrap (K + 3 + 1) = K + 4 := (wrap_small (by omega) (by omega)).trans (by omega)
    simp [bodyF, b_laws_heldUnitS_0, hRl, hi, hR, at_of hR, w0, w1, w2, w3, hwi]
    exact hN _ s (by simp) trivial
  · intro N E s _ hE
    rw [hn]
    simp [bodyF, b_laws_heldUnitS_0]
    exact hE _ _ fun st => by simp
/-- A marked Attempt. -/
def mAttempt (k : Int) (j : Nat) : List D := [D.int .i64 (k + ((3 * j : Nat) : Int)), D.int .i64 (k + ((3 * j : Nat) : Int) + 1), D.int .i64 (k + ((3 * j : Nat) : Int) + 2)]
theorem c_laws_markAttemptS (l : List Attempt) (k : Int) (hl : Len l.length) (hk : Mk k (3 * l.length)) :
    C n_laws_markAttemptS [Rows true 3 (l.map Attempt.enc), I k] = some (.tup [none, some (.one (.int .i64 (k + (3 * l.length : Nat)))), some (.one (.list true 3 ((List.range l.length).map (mAttempt k))))]) := by
  refine callC p_laws_markAttemptS rfl ?_
  simp [xRun, a_laws_markAttemptS]
  refine list_loop l (by unfold Len at hl; omega) (fun i (_ : Unit) => [(0, .own 0 3 (mix (mAttempt k) Attempt.enc l i)), (1, I (k + (3 * i : Nat))), (5, I i)]) (fun _ _ => True) default (by simp [mix_zero]) trivial ?_ ?_
  · intro N E i a s ha hi hm ht hwi _ hN hE
    have hR := mix_at (mAttempt k) Attempt.enc ha
    have hRl := mix_len (mAttempt k) Attempt.enc (Nat.le_of_lt hi)
    have hset := mix_set (mAttempt k) Attempt.enc hi
    generalize mix (mAttempt k) Attempt.enc l i = R at *
    generalize mix (mAttempt k) Attempt.enc l (i + 1) = R' at *
    rw [show mAttempt k i = [D.int .i64 (k + ((3 * i : Nat) : Int)), D.int .i64 (k + ((3 * i : Nat) : Int) + 1), D.int .i64 (k + ((3 * i : Nat) : Int) + 2)] from rfl] at hset
    rw [show k + ((3 * (i + 1) : Nat) : Int) = k + ((3 * i : Nat) : Int) + 3 by omega] at hN
    have hb : 0 < k + ((3 * i : Nat) : Int) ∧ k + ((3 * i : Nat) : Int) ≤ 1000000000000 := by unfold Mk at hk; omega
    generalize k + ((3 * i : Nat) : Int) = K at *
    have w0 : IntKind.i64.wrap (K + 1) = K + 1 := (wrap_small (by omega) (by omega)).trans (by omega)
    have w1 : IntKind.i64.wrap (K + 1 + 1) = K + 2 := (wrap_small (by omega) (by omega)).trans (by omega)
    have w2 : IntKind.i64.wrap (K + 2 + 1) = K + 3 := (wrap_small (by omega) (by omega)).trans (by omega)
    rw [Attempt.enc] at hR
    simp [bodyF, b_laws_markAttemptS_0, hRl, hi, hR, at_of hR, hset, w0, w1, w2, hwi]
    exact hN _ s (by simp) trivial
  · intro N E s _ hE
    have hRl := mix_len (mAttempt k) Attempt.enc (Nat.le_refl l.length)
    have he := mix_end (mAttempt k) Attempt.enc l
    generalize mix (mAttempt k) Attempt.enc l l.length = R at *
    simp [bodyF, b_laws_markAttemptS_0, hRl]
    refine hE _ _ fun st => ?_
    simp [he, flatD]
@[simp] theorem stale_mAttempt (k : Int) (n : Nat) : staleLL ((List.range n).map (mAttempt k)) = (List.range n).map (mAttempt k) := by
  generalize List.range n = l
  induction l with
  | nil => rfl
  | cons x l ih => simp [staleLL, staleL, D.stale, ih, mAttempt]
@[simp] theorem safe_mAttempt (k : Int) (n : Nat) : safeLL ((List.range n).map (mAttempt k)) = true := by
  generalize List.range n = l
  induction l with
  | nil => rfl
  | cons x l ih => simp [safeLL, safeL, D.safe, ih, mAttempt]
theorem c_laws_heldAttemptS (k : Int) (n : Nat) (hl : Len n) (hk : Mk k (3 * n)) : C n_laws_heldAttemptS [Rows false 3 ((List.range n).map (mAttempt k)), I k] = some (I (k + (3 * n : Nat))) := by
  refine callC p_laws_heldAttemptS rfl ?_
  have hn : (List.range n).length = n := by simp
  simp [xRun, a_laws_heldAttemptS]
  refine list_loop (List.range n) (by rw [hn]; unfold Len at hl; omega) (fun i (_ : Unit) => [(1, I (k + (3 * i : Nat))), (5, I i)]) (fun _ _ => True) default (by simp) trivial ?_ ?_
  · intro N E i a s ha hi hm ht hwi _ hN hE
    rw [hn] at hi
    have hai : a = i := by
      have := (List.getElem?_eq_some_iff.1 ha).2
      simpa using this.symm
    subst hai
    have hR : ((List.range n).map (mAttempt k))[a]? = some (mAttempt k a) := by simp [ha]
    have hRl : ((List.range n).map (mAttempt k)).length = n := by simp
    generalize (List.range n).map (mAttempt k) = R at *
    rw [show mAttempt k a = [D.int .i64 (k + ((3 * a : Nat) : Int)), D.int .i64 (k + ((3 * a : Nat) : Int) + 1), D.int .i64 (k + ((3 * a : Nat) : Int) + 2)] from rfl] at hR
    rw [show k + ((3 * (a + 1) : Nat) : Int) = k + ((3 * a : Nat) : Int) + 3 by omega] at hN
    have hb : 0 < k + ((3 * a : Nat) : Int) ∧ k + ((3 * a : Nat) : Int) + 3 ≤ 1000000000000 := by unfold Mk at hk; omega
    generalize k + ((3 * a : Nat) : Int) = K at *
    have w0 : IntKind.i64.wrap (K + 1) = K + 1 := (wrap_small (by omega) (by omega)).trans (by omega)
    have w1 : IntKind.i64.wrap (K + 1 + 1) = K + 2 := (wrap_small (by omega) (by omega)).trans (by omega)
    have w2 : IntKind.i64.wrap (K + 2 + 1) = K + 3 := (wrap_small (by omega) (by omega)).trans (by omega)
    simp [bodyF, b_laws_heldAttemptS_0, hRl, hi, hR, at_of hR, w0, w1, w2, hwi]
    exact hN _ s (by simp) trivial
  · intro N E s _ hE
    rw [hn]
    simp [bodyF, b_laws_heldAttemptS_0]
    exact hE _ _ fun st => by simp
/-- A marked Attack. -/
def mAttack (k : Int) (j : Nat) : List D := [D.int .i64 (k + ((2 * j : Nat) : Int)), D.int .i64 (k + ((2 * j : Nat) : Int) + 1)]
theorem c_laws_heldState (s : State) (k : Int) (hl : Len s.units.length) (hk : Mk k (4 * s.units.length)) :
    C n_laws_heldState [.val (.agg [.int .i64 s.turn, .int .i64 s.weather, .list false 4 ((List.range s.units.length).map (mUnit k))]), I k] = some (I (k + (4 * s.units.length : Nat))) := by
  refine callC p_laws_heldState rfl ?_
  have e1 := c_laws_heldUnitS k s.units.length hl hk
  have h0 : ¬ k + ((4 * s.units.length : Nat) : Int) < 0 := by unfold Mk at hk; omega
  generalize k + ((4 * s.units.length : Nat) : Int) = K at *
  simp [xRun, a_laws_heldState, e1, h0]
end Go.Abs.W
set_option linter.unusedSimpArgs false
set_option linter.unusedVariables false
set_option maxRecDepth 100000
set_option maxHeartbeats 2000000
namespace Go.Abs.W
open Go Go.Abs Classical
attribute [-simp] Bool.decide_and
def Battle.enc3 (o : Bool) (x : Battle) : List D := [.int .i64 x.pos, .list o 1 (ints x.attackers), .list o 1 (ints x.defenders)]
/-- How far the marks of rows go (OrderS). -/
def szOrderS (t : Order) : Nat := 2 + t.path.length
def cOrderS (l : List (Order)) : Nat := (l.map szOrderS).sum
theorem cOrderS_nil : cOrderS [] = 0 := rfl
theorem cOrderS_snoc (l : List (Order)) (t : Order) : cOrderS (l ++ [t]) = cOrderS l + szOrderS t := by simp [cOrderS]
theorem cOrderS_take (l : List (Order)) (i : Nat) : cOrderS (l.take i) ≤ cOrderS l := by
  conv => rhs; rw [← List.take_append_drop i l]
  unfold cOrderS
  rw [List.map_append, List.sum_append]
  omega
/-- A marked row; the marked rows. -/
def mOrderS1 (o : Bool) (K : Int) (t : Order) : List D := [D.int .i64 K, D.list o 1 (ints (upI (K + 1) t.path.length)), D.int .i64 (K + 1 + t.path.length)]
def mOrderS (o : Bool) (k : Int) : List (Order) → List (List D)
  | [] => []
  | t :: l => mOrderS1 o k t :: mOrderS o (k + (szOrderS t : Nat)) l
theorem mOrderS_snoc (o : Bool) (k : Int) (l : List (Order)) (t : Order) : mOrderS o k (l ++ [t]) = mOrderS o k l ++ [mOrderS1 o (k + cOrderS l) t] := by
  induction l generalizing k with
  | nil => simp [mOrderS, cOrderS_nil]
  | cons x l ih =>
    have hc : cOrderS (x :: l) = szOrderS x + cOrderS l := by simp [cOrderS]
    simp only [List.cons_append, mOrderS, ih]
    rw [show k + ((szOrderS x : Nat) : Int) + (cOrderS l : Int) = k + (cOrderS (x :: l) : Int) by rw [hc]; omega]
theorem mOrderS_length (o : Bool) (k : Int) (l : List (Order)) : (mOrderS o k l).length = l.length := by
  induction l generalizing k with
  | nil => rfl
  | cons x l ih => simp [mOrderS, ih]
theorem mOrderS_at (o : Bool) (k : Int) {l : List (Order)} {i : Nat} {t : Order} (h : l[i]? = some t) : (mOrderS o k l)[i]? = some (mOrderS1 o (k + cOrderS (l.take i)) t) := by
  induction l generalizing k i with
  | nil => cases h
  | cons x l ih =>
    cases i with
    | zero =>
      simp at h; subst h
      simp [mOrderS, cOrderS_nil]
    | succ i =>
      have := ih (k + (szOrderS x : Nat)) (i := i) (by simpa using h)
      simp only [mOrderS, List.getElem?_cons_succ, this, List.take_succ_cons]
      have hc : cOrderS (x :: l.take i) = szOrderS x + cOrderS (l.take i) := by simp [cOrderS]
      rw [hc, show k + ((szOrderS x : Nat) : Int) + (cOrderS (l.take i) : Int) = k + ((szOrderS x + cOrderS (l.take i) : Nat) : Int) by omega]
@[simp] theorem stale_mOrderS (o : Bool) (k : Int) (l : List (Order)) : staleLL (mOrderS o k l) = mOrderS false k l := by
  induction l generalizing k with
  | nil => rfl
  | cons x l ih => simp [mOrderS, mOrderS1, staleLL, staleL, D.stale, ih]
@[simp] theorem safe_mOrderS (k : Int) (l : List (Order)) : safeLL (mOrderS true k l) = true := by
  induction l generalizing k with
  | nil => rfl
  | cons x l ih => simp [mOrderS, mOrderS1, safeLL, safeL, D.safe, ih]
/-- How far the marks of rows go (BattleS). -/
def szBattleS (t : Battle) : Nat := 1 + t.attackers.length + t.defenders.length
def cBattleS (l : List (Battle)) : Nat := (l.map szBattleS).sum
theorem cBattleS_nil : cBattleS [] = 0 := rfl
theorem cBattleS_snoc (l : List (Battle)) (t : Battle) : cBattleS (l ++ [t]) = cBattleS l + szBattleS t := by simp [cBattleS]
theorem cBattleS_take (l : List (Battle)) (i : Nat) : cBattleS (l.take i) ≤ cBattleS l := by
  conv => rhs; rw [← List.take_append_drop i l]
  unfold cBattleS
  rw [List.map_append, List.sum_append]
  omega
/-- A marked row; the marked rows. -/
def mBattleS1 (o : Bool) (K : Int) (t : Battle) : List D := [D.int .i64 K, D.list o 1 (ints (upI (K + 1) t.attackers.length)), D.list o 1 (ints (upI (K + 1 + t.attackers.length) t.defenders.length))]
def mBattleS (o : Bool) (k : Int) : List (Battle) → List (List D)
  | [] => []
  | t :: l => mBattleS1 o k t :: mBattleS o (k + (szBattleS t : Nat)) l
theorem mBattleS_snoc (o : Bool) (k : Int) (l : List (Battle)) (t : Battle) : mBattleS o k (l ++ [t]) = mBattleS o k l ++ [mBattleS1 o (k + cBattleS l) t] := by
  induction l generalizing k with
  | nil => simp [mBattleS, cBattleS_nil]
  | cons x l ih =>
    have hc : cBattleS (x :: l) = szBattleS x + cBattleS l := by simp [cBattleS]
    simp only [List.cons_append, mBattleS, ih]
    rw [show k + ((szBattleS x : Nat) : Int) + (cBattleS l : Int) = k + (cBattleS (x :: l) : Int) by rw [hc]; omega]
theorem mBattleS_length (o : Bool) (k : Int) (l : List (Battle)) : (mBattleS o k l).length = l.length := by
  induction l generalizing k with
  | nil => rfl
  | cons x l ih => simp [mBattleS, ih]
theorem mBattleS_at (o : Bool) (k : Int) {l : List (Battle)} {i : Nat} {t : Battle} (h : l[i]? = some t) : (mBattleS o k l)[i]? = some (mBattleS1 o (k + cBattleS (l.take i)) t) := by
  induction l generalizing k i with
  | nil => cases h
  | cons x l ih =>
    cases i with
    | zero =>
      simp at h; subst h
      simp [mBattleS, cBattleS_nil]
    | succ i =>
      have := ih (k + (szBattleS x : Nat)) (i := i) (by simpa using h)
      simp only [mBattleS, List.getElem?_cons_succ, this, List.take_succ_cons]
      have hc : cBattleS (x :: l.take i) = szBattleS x + cBattleS (l.take i) := by simp [cBattleS]
      rw [hc, show k + ((szBattleS x : Nat) : Int) + (cBattleS (l.take i) : Int) = k + ((szBattleS x + cBattleS (l.take i) : Nat) : Int) by omega]
@[simp] theorem stale_mBattleS (o : Bool) (k : Int) (l : List (Battle)) : staleLL (mBattleS o k l) = mBattleS false k l := by
  induction l generalizing k with
  | nil => rfl
  | cons x l ih => simp [mBattleS, mBattleS1, staleLL, staleL, D.stale, ih]
@[simp] theorem safe_mBattleS (k : Int) (l : List (Battle)) : safeLL (mBattleS true k l) = true := by
  induction l generalizing k with
  | nil => rfl
  | cons x l ih => simp [mBattleS, mBattleS1, safeLL, safeL, D.safe, ih]
theorem cOrderS_le (l : List Order) : cOrderS l ≤ 2 * (l.length + sumN (fun o : Order => o.path.length) l) := by
  induction l with
  | nil => simp [cOrderS]
  | cons t l ih =>
    have h1 : cOrderS (t :: l) = szOrderS t + cOrderS l := by simp [cOrderS]
    have h2 : sumN (fun o : Order => o.path.length) (t :: l) = t.path.length + sumN (fun o : Order => o.path.length) l := by rw [show t :: l = [t] ++ l from rfl, sumN_app, sumN_one]
    have h3 : szOrderS t = 2 + t.path.length := rfl
    rw [h1, h2, h3, List.length_cons]; omega
end Go.Abs.W
