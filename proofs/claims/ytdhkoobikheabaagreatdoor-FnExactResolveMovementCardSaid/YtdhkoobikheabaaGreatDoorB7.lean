import Derived.Test.YtdhkoobikheabaaGreatDoorB2
import Derived.Test.YtdhkoobikheabaaGreatDoorB0
set_option linter.unusedSimpArgs false
set_option linter.unusedVariables false
set_option maxRecDepth 100000
set_option maxHeartbeats 2000000
namespace Go.Abs.W
open Go Go.Abs Classical
attribute [-simp] Bool.decide_and
@[simp] theorem stale_mUnit (k : Int) (n : Nat) : staleLL ((List.range n).map (mUnit k)) = (List.range n).map (mUnit k) := by
  generalize List.range n = l
  induction l with
  | nil => rfl
  | cons x l ih => simp [staleLL, staleL, D.stale, ih, mUnit]
@[simp] theorem safe_mUnit (k : Int) (n : Nat) : safeLL ((List.range n).map (mUnit k)) = true := by
  generalize List.range n = l
  induction l with
  | nil => rfl
  | cons x l ih => simp [safeLL, safeL, D.safe, ih, mUnit]
theorem c_laws_heldUnitS (k : Int) (n : Nat) (hl : Len n) (hk : Mk k (4 * n)) : C n_laws_heldUnitS [Rows false 4 ((List.range n).map (mUnit k)), I k] = some (I (k + (4 * n : Nat))) := by
  refine callC p_laws_heldUnitS rfl ?_
  have hn : (List.range n).length = n := by simp
  simp [xRun, a_laws_heldUnitS]
  refine list_loop (List.range n) (by rw [hn]; unfold Len at hl; omega) (fun i (_ : Unit) => [(1, I (k + (4 * i : Nat))), (5, I i)]) (fun _ _ => True) default (by simp) trivial ?_ ?_
  · intro N E i a s ha hi hm ht hwi _ hN hE
    rw [hn] at hi
    have hai : a = i := by
      have := (List.getElem?_eq_some_iff.1 ha).2
      simpa using this.symm
    subst hai
    have hR : ((List.range n).map (mUnit k))[a]? = some (mUnit k a) := by simp [ha]
    have hRl : ((List.range n).map (mUnit k)).length = n := by simp
    generalize (List.range n).map (mUnit k) = R at *
    rw [show mUnit k a = [D.int .i64 (k + ((4 * a : Nat) : Int)), D.int .i64 (k + ((4 * a : Nat) : Int) + 1), D.int .i64 (k + ((4 * a : Nat) : Int) + 2), D.int .i64 (k + ((4 * a : Nat) : Int) + 3)] from rfl] at hR
    rw [show k + ((4 * (a + 1) : Nat) : Int) = k + ((4 * a : Nat) : Int) + 4 by omega] at hN
    have hb : 0 < k + ((4 * a : Nat) : Int) ∧ k + ((4 * a : Nat) : Int) + 4 ≤ 1000000000000 := by unfold Mk at hk; omega
    generalize k + ((4 * a : Nat) : Int) = K at *
    have w0 : IntKind.i64.wrap (K + 1) = K + 1 := (wrap_small (by omega) (by omega)).trans (by omega)
    have w1 : IntKind.i64.wrap (K + 1 + 1) = K + 2 := (wrap_small (by omega) (by omega)).trans (by omega)
    have w2 : IntKind.i64.wrap (K + 2 + 1) = K + 3 := (wrap_small (by omega) (by omega)).trans (by omega)
    have w3 : IntKind.i64.wrap (K + 3 + 1) = K + 4 := (wrap_small (by omega) (by omega)).trans (by omega)
    simp [bodyF, b_laws_heldUnitS_0, hRl, hi, hR, at_of hR, w0, w1, w2, w3, hwi]
    exact hN _ s (by simp) trivial
  · intro N E s _ hE
    rw [hn]
    simp [bodyF, b_laws_heldUnitS_0]
    exact hE _ _ fun st => by simp
/-- A marked Attempt. -/
def mAttempt (k : Int) (j : Nat) : List D := [D.int .i64 (k + ((3 * j : Nat) : Int)), D.int .i64 (k + ((3 * j : Nat) : Int) + 1), D.int .i64 (k + ((3 * j : Nat) : Int) + 2)]
@[simp] theorem stale_mAttempt (k : Int) (n : Nat) : staleLL ((List.range n).map (mAttempt k)) = (List.range n).map (mAttempt k) := by
  generalize List.range n = l
  induction l with
  | nil => rfl
  | cons x l ih => simp [staleLL, staleL, D.stale, ih, mAttempt]
@[simp] theorem safe_mAttempt (k : Int) (n : Nat) : safeLL ((List.range n).map (mAttempt k)) = true := by
  generalize List.range n = l
  induction l with
  | nil => rfl
  | cons x l ih => simp [safeLL, safeL, D.safe, ih, mAttempt]
theorem c_laws_heldState (s : State) (k : Int) (hl : Len s.units.length) (hk : Mk k (4 * s.units.length)) :
    C n_laws_heldState [.val (.agg [.int .i64 s.turn, .int .i64 s.weather, .list false 4 ((List.range s.units.length).map (mUnit k))]), I k] = some (I (k + (4 * s.units.length : Nat))) := by
  refine callC p_laws_heldState rfl ?_
  have e1 := c_laws_heldUnitS k s.units.length hl hk
  have h0 : ¬ k + ((4 * s.units.length : Nat) : Int) < 0 := by unfold Mk at hk; omega
  generalize k + ((4 * s.units.length : Nat) : Int) = K at *
  simp [xRun, a_laws_heldState, e1, h0]
end Go.Abs.W
set_option linter.unusedSimpArgs false
set_option linter.unusedVariables false
set_option maxRecDepth 100000
set_option maxHeartbeats 2000000
namespace Go.Abs.W
open Go Go.Abs Classical
attribute [-simp] Bool.decide_and
def Battle.enc3 (o : Bool) (x : Battle) : List D := [.int .i64 x.pos, .list o 1 (ints x.attackers), .list o 1 (ints x.defenders)]
/-- How far the marks of rows go (OrderS). -/
def szOrderS (t : Order) : Nat := 2 + t.path.length
def cOrderS (l : List (Order)) : Nat := (l.map szOrderS).sum
theorem cOrderS_nil : cOrderS [] = 0 := rfl
theorem cOrderS_snoc (l : List (Order)) (t : Order) : cOrderS (l ++ [t]) = cOrderS l + szOrderS t := by simp [cOrderS]
theorem cOrderS_take (l : List (Order)) (i : Nat) : cOrderS (l.take i) ≤ cOrderS l := by
  conv => rhs; rw [← List.take_append_drop i l]
  unfold cOrderS
  rw [List.map_append, List.sum_append]
  omega
/-- A marked row; the marked rows. -/
def mOrderS1 (o : Bool) (K : Int) (t : Order) : List D := [D.int .i64 K, D.list o 1 (ints (upI (K + 1) t.path.length)), D.int .i64 (K + 1 + t.path.length)]
def mOrderS (o : Bool) (k : Int) : List (Order) → List (List D)
  | [] => []
  | t :: l => mOrderS1 o k t :: mOrderS o (k + (szOrderS t : Nat)) l
theorem mOrderS_snoc (o : Bool) (k : Int) (l : List (Order)) (t : Order) : mOrderS o k (l ++ [t]) = mOrderS o k l ++ [mOrderS1 o (k + cOrderS l) t] := by
  induction l generalizing k with
  | nil => simp [mOrderS, cOrderS_nil]
  | cons x l ih =>
    have hc : cOrderS (x :: l) = szOrderS x + cOrderS l := by simp [cOrderS]
    simp only [List.cons_append, mOrderS, ih]
    rw [show k + ((szOrderS x : Nat) : Int) + (cOrderS l : Int) = k + (cOrderS (x :: l) : Int) by rw [hc]; omega]
theorem mOrderS_length (o : Bool) (k : Int) (l : List (Order)) : (mOrderS o k l).length = l.length := by
  induction l generalizing k with
  | nil => rfl
  | cons x l ih => simp [mOrderS, ih]
@[simp] theorem stale_mOrderS (o : Bool) (k : Int) (l : List (Order)) : staleLL (mOrderS o k l) = mOrderS false k l := by
  induction l generalizing k with
  | nil => rfl
  | cons x l ih => simp [mOrderS, mOrderS1, staleLL, staleL, D.stale, ih]
@[simp] theorem safe_mOrderS (k : Int) (l : List (Order)) : safeLL (mOrderS true k l) = true := by
  induction l generalizing k with
  | nil => rfl
  | cons x l ih => simp [mOrderS, mOrderS1, safeLL, safeL, D.safe, ih]
theorem c_laws_markOrderS (l : List (Order)) (k : Int) (hl : Len l.length) (hls : ∀ t ∈ l, Len t.path.length) (hk : Mk k (cOrderS l)) :
    C n_laws_markOrderS [Rows true 3 (l.map (Order.enc true)), I k] = some (.tup [none, some (.one (.int .i64 (k + cOrderS l))), some (.one (.list true 3 (mOrderS true k l)))]) := by
  refine callC p_laws_markOrderS rfl ?_
  simp [xRun, a_laws_markOrderS]
  refine list_loop l (by unfold Len at hl; omega) (fun i (_ : Unit) => [(0, .own 0 3 (mOrderS true k (l.take i) ++ (l.drop i).map (Order.enc true))), (1, I (k + cOrderS (l.take i))), (5, I i)]) (fun _ _ => True) default (by simp [mOrderS, cOrderS_nil]) trivial ?_ ?_
  · intro N E i a s ha hi hm ht hwi _ hN hE
    rw [ht, mOrderS_snoc, cOrderS_snoc] at hN
    have hcb := cOrderS_take l (i + 1)
    rw [ht, cOrderS_snoc] at hcb
    have hlen : (mOrderS true k (l.take i)).length = i := by rw [mOrderS_length, List.length_take]; omega
    have hd : l.drop i = a :: l.drop (i + 1) := by rw [List.drop_eq_getElem_cons hi, at_of ha]
    have hR : (mOrderS true k (l.take i) ++ (l.drop i).map (Order.enc true))[i]? = some ((Order.enc true) a) := by
      rw [List.getElem?_append_right (by omega), hlen, Nat.sub_self, hd]; rfl
    have hRl : (mOrderS true k (l.take i) ++ (l.drop i).map (Order.enc true)).length = l.length := by
      rw [List.length_append, hlen, List.length_map, List.length_drop]; omega
    have hset : ∀ row, (mOrderS true k (l.take i) ++ (l.drop i).map (Order.enc true)).set i row = mOrderS true k (l.take i) ++ [row] ++ (l.drop (i + 1)).map (Order.enc true) := by
      intro row
      rw [List.set_append_right _ _ (by omega), hlen, Nat.sub_self, hd, List.map_cons, List.set_cons_zero, List.append_assoc]; rfl
    have hN' : ∀ e', trim [0, 1, 5] e' = _ → N e' := fun e' he => hN e' s he trivial
    clear hN
    generalize mOrderS true k (l.take i) ++ (l.drop i).map (Order.enc true) = R at *
    rw [show k + ((cOrderS (l.take i) + szOrderS a : Nat) : Int) = k + cOrderS (l.take i) + (szOrderS a : Int) by omega] at hN'
    have hb : 0 < k + cOrderS (l.take i) ∧ k + cOrderS (l.take i) + (szOrderS a : Int) ≤ 1000000000000 := by unfold Mk at hk; omega
    generalize k + (cOrderS (l.take i) : Int) = K at *
    unfold szOrderS at hN' hb
    unfold mOrderS1 at hN'
    try simp only [Order.enc, Battle.enc3] at hR
    try simp only [rowE] at hR
    have w1 : IntKind.i64.wrap (K + 1) = K + 1 := wrap_small (by omega) (by omega)
    generalize hk1 : K + 1 = K1 at *
    have e2 := c_laws_markIntS a.path K1 (hls a hm) (by unfold Mk; omega)
    generalize hk2 : K1 + (a.path.length : Int) = K2 at *
    have w3 : IntKind.i64.wrap (K2 + 1) = K2 + 1 := wrap_small (by omega) (by omega)
    generalize hk3 : K2 + 1 = K3 at *
    obtain ⟨R1, s1⟩ : ∃ R', R.set i [D.int .i64 K, D.list true 1 (ints a.path), D.int .i64 a.attack] = R' := ⟨_, rfl⟩
    have l1 : R1.length = l.length := by rw [← s1, List.length_set]; exact hRl
    have q1 : R1[i]? = some [D.int .i64 K, D.list true 1 (ints a.path), D.int .i64 a.attack] := by rw [← s1, List.getElem?_set_self (by rw [hRl]; exact hi)]
    obtain ⟨R2, s2⟩ : ∃ R', R1.set i [D.int .i64 K, D.list true 1 (ints (upI K1 a.path.length)), D.int .i64 a.attack] = R' := ⟨_, rfl⟩
    have l2 : R2.length = l.length := by rw [← s2, List.length_set]; exact l1
    have q2 : R2[i]? = some [D.int .i64 K, D.list true 1 (ints (upI K1 a.path.length)), D.int .i64 a.attack] := by rw [← s2, List.getElem?_set_self (by rw [l1]; exact hi)]
    obtain ⟨R3, s3⟩ : ∃ R', R2.set i [D.int .i64 K, D.list true 1 (ints (upI K1 a.path.length)), D.int .i64 K2] = R' := ⟨_, rfl⟩
    have l3 : R3.length = l.length := by rw [← s3, List.length_set]; exact l2
    have q3 : R3[i]? = some [D.int .i64 K, D.list true 1 (ints (upI K1 a.path.length)), D.int .i64 K2] := by rw [← s3, List.getElem?_set_self (by rw [l2]; exact hi)]
    have sN := hset [D.int .i64 K, D.list true 1 (ints (upI K1 a.path.length)), D.int .i64 K2]
    have sM : R3 = R.set i [D.int .i64 K, D.list true 1 (ints (upI K1 a.path.length)), D.int .i64 K2] := by rw [← s3, ← s2, ← s1, List.set_set, List.set_set]
    rw [← sM] at sN
    have hlast : K + ((2 + a.path.length : Nat) : Int) = K3 := by omega
    try rw [hlast] at hN'
    clear hset sM
    simp [bodyF, b_laws_markOrderS_0, hRl, hi, hR, at_of hR, hk1, hk2, hk3, w1, e2, w3, l1, q1, at_of q1, s1, l2, q2, at_of q2, s2, l3, q3, at_of q3, s3, hwi]
    exact hN' _ (by simp [sN])
  · intro N E s _ hE
    have hRl := mOrderS_length true k l
    rw [List.take_length, List.drop_length]
    simp [bodyF, b_laws_markOrderS_0, hRl]
    refine hE _ _ fun st => ?_
    simp [flatD]
/-- How far the marks of rows go (BattleS). -/
def szBattleS (t : Battle) : Nat := 1 + t.attackers.length + t.defenders.length
/-- A marked row; the marked rows. -/
def mBattleS1 (o : Bool) (K : Int) (t : Battle) : List D := [D.int .i64 K, D.list o 1 (ints (upI (K + 1) t.attackers.length)), D.list o 1 (ints (upI (K + 1 + t.attackers.length) t.defenders.length))]
def mBattleS (o : Bool) (k : Int) : List (Battle) → List (List D)
  | [] => []
  | t :: l => mBattleS1 o k t :: mBattleS o (k + (szBattleS t : Nat)) l
@[simp] theorem stale_mBattleS (o : Bool) (k : Int) (l : List (Battle)) : staleLL (mBattleS o k l) = mBattleS false k l := by
  induction l generalizing k with
  | nil => rfl
  | cons x l ih => simp [mBattleS, mBattleS1, staleLL, staleL, D.stale, ih]
@[simp] theorem safe_mBattleS (k : Int) (l : List (Battle)) : safeLL (mBattleS true k l) = true := by
  induction l generalizing k with
  | nil => rfl
  | cons x l ih => simp [mBattleS, mBattleS1, safeLL, safeL, D.safe, ih]
theorem cOrderS_le (l : List Order) : cOrderS l ≤ 2 * (l.length + sumN (fun o : Order => o.path.length) l) := by
  induction l with
  | nil => simp [cOrderS]
  | cons t l ih =>
    have h1 : cOrderS (t :: l) = szOrderS t + cOrderS l := by simp [cOrderS]
    have h2 : sumN (fun o : Order => o.path.length) (t :: l) = t.path.length + sumN (fun o : Order => o.path.length) l := by rw [show t :: l = [t] ++ l from rfl, sumN_app, sumN_one]
    have h3 : szOrderS t = 2 + t.path.length := rfl
    rw [h1, h2, h3, List.length_cons]; omega
theorem c_laws_markSheet (x : Sheet) (k : Int) (hl : Len x.orders.length) (hls : ∀ t ∈ x.orders, Len t.path.length) (hk : Mk k (cOrderS x.orders)) :
    C n_laws_markSheet [SheetV true x, I k] = some (.tup [none, some (.one (.int .i64 (k + cOrderS x.orders))), some (.agg [.int .i64 x.side, .list true 3 (mOrderS true k x.orders)])]) := by
  refine callC p_laws_markSheet rfl ?_
  have e1 := c_laws_markOrderS x.orders k hl hls hk
  simp [xRun, a_laws_markSheet, e1, flatD]
end Go.Abs.W
