import Derived.Test.YtdhkoobikheabaaGreatDoorB6
import Derived.Test.YtdhkoobikheabaaGreatDoorB7
set_option linter.unusedSimpArgs false
set_option linter.unusedVariables false
set_option maxRecDepth 100000
set_option maxHeartbeats 2000000
namespace Go.Abs.W
open Go Go.Abs Classical
attribute [-simp] Bool.decide_and
structure Moved where
  unit : Int
  steps : Int
  reason : Int
  deriving Inhabited
def Moved.enc (m : Moved) : List D := [.int .i64 m.unit, .int .i64 m.steps, .int .i64 m.reason]
abbrev MovedV (m : Moved) : AV := .val (.agg [.int .i64 m.unit, .int .i64 m.steps, .int .i64 m.reason])
@[simp] theorem stale_moved (l : List Moved) : staleLL (l.map Moved.enc) = l.map Moved.enc := by
  induction l with
  | nil => rfl
  | cons x l ih => simp [staleLL, staleL, D.stale, ih, Moved.enc]
@[simp] theorem safe_moved (l : List Moved) : safeLL (l.map Moved.enc) = true := by
  induction l with
  | nil => rfl
  | cons x l ih => simp [safeLL, safeL, D.safe, ih, Moved.enc]
theorem c_laws_eqMoved (t : Moved) : C n_laws_eqMoved [MovedV t, MovedV t] = some (Bo true) := by
  refine callC p_laws_eqMoved rfl ?_
  simp [xRun, a_laws_eqMoved]
theorem c_laws_eqMovedS (l : List Moved) (hl : Len l.length) : C n_laws_eqMovedS [Rows false 3 (l.map Moved.enc), Rows false 3 (l.map Moved.enc)] = some (Bo true) := by
  refine callC p_laws_eqMovedS rfl ?_
  simp [xRun, a_laws_eqMovedS]
  refine list_loop l (by unfold Len at hl; omega) (fun i (_ : Unit) => [(5, I i)]) (fun _ _ => True) default (by simp) trivial ?_ ?_
  · intro N E i a s ha hi hm ht hwi _ hN hE
    simp [bodyF, b_laws_eqMovedS_0, hi, ha, at_of ha, hwi, Moved.enc, c_laws_eqMoved a]
    exact hN _ s (by simp) trivial
  · intro N E s _ hE
    simp [bodyF, b_laws_eqMovedS_0]
    exact hE _ _ fun st => by simp
/-- A marked Moved. -/
def mMoved (k : Int) (j : Nat) : List D := [D.int .i64 (k + ((3 * j : Nat) : Int)), D.int .i64 (k + ((3 * j : Nat) : Int) + 1), D.int .i64 (k + ((3 * j : Nat) : Int) + 2)]
theorem c_laws_markMovedS (l : List Moved) (k : Int) (hl : Len l.length) (hk : Mk k (3 * l.length)) :
    C n_laws_markMovedS [Rows true 3 (l.map Moved.enc), I k] = some (.tup [none, some (.one (.int .i64 (k + (3 * l.length : Nat)))), some (.one (.list true 3 ((List.range l.length).map (mMoved k))))]) := by
  refine callC p_laws_markMovedS rfl ?_
  simp [xRun, a_laws_markMovedS]
  refine list_loop l (by unfold Len at hl; omega) (fun i (_ : Unit) => [(0, .own 0 3 (mix (mMoved k) Moved.enc l i)), (1, I (k + (3 * i : Nat))), (5, I i)]) (fun _ _ => True) default (by simp [mix_zero]) trivial ?_ ?_
  · intro N E i a s ha hi hm ht hwi _ hN hE
    have hR := mix_at (mMoved k) Moved.enc ha
    have hRl := mix_len (mMoved k) Moved.enc (Nat.le_of_lt hi)
    have hset := mix_set (mMoved k) Moved.enc hi
    generalize mix (mMoved k) Moved.enc l i = R at *
    generalize mix (mMoved k) Moved.enc l (i + 1) = R' at *
    rw [show mMoved k i = [D.int .i64 (k + ((3 * i : Nat) : Int)), D.int .i64 (k + ((3 * i : Nat) : Int) + 1), D.int .i64 (k + ((3 * i : Nat) : Int) + 2)] from rfl] at hset
    rw [show k + ((3 * (i + 1) : Nat) : Int) = k + ((3 * i : Nat) : Int) + 3 by omega] at hN
    have hb : 0 < k + ((3 * i : Nat) : Int) ∧ k + ((3 * i : Nat) : Int) ≤ 1000000000000 := by unfold Mk at hk; omega
    generalize k + ((3 * i : Nat) : Int) = K at *
    have w0 : IntKind.i64.wrap (K + 1) = K + 1 := (wrap_small (by omega) (by omega)).trans (by omega)
    have w1 : IntKind.i64.wrap (K + 1 + 1) = K + 2 := (wrap_small (by omega) (by omega)).trans (by omega)
    have w2 : IntKind.i64.wrap (K + 2 + 1) = K + 3 := (wrap_small (by omega) (by omega)).trans (by omega)
    rw [Moved.enc] at hR
    simp [bodyF, b_laws_markMovedS_0, hRl, hi, hR, at_of hR, hset, w0, w1, w2, hwi]
    exact hN _ s (by simp) trivial
  · intro N E s _ hE
    have hRl := mix_len (mMoved k) Moved.enc (Nat.le_refl l.length)
    have he := mix_end (mMoved k) Moved.enc l
    generalize mix (mMoved k) Moved.enc l l.length = R at *
    simp [bodyF, b_laws_markMovedS_0, hRl]
    refine hE _ _ fun st => ?_
    simp [he, flatD]
@[simp] theorem stale_mMoved (k : Int) (n : Nat) : staleLL ((List.range n).map (mMoved k)) = (List.range n).map (mMoved k) := by
  generalize List.range n = l
  induction l with
  | nil => rfl
  | cons x l ih => simp [staleLL, staleL, D.stale, ih, mMoved]
@[simp] theorem safe_mMoved (k : Int) (n : Nat) : safeLL ((List.range n).map (mMoved k)) = true := by
  generalize List.range n = l
  induction l with
  | nil => rfl
  | cons x l ih => simp [safeLL, safeL, D.safe, ih, mMoved]
theorem c_laws_heldMovedS (k : Int) (n : Nat) (hl : Len n) (hk : Mk k (3 * n)) : C n_laws_heldMovedS [Rows false 3 ((List.range n).map (mMoved k)), I k] = some (I (k + (3 * n : Nat))) := by
  refine callC p_laws_heldMovedS rfl ?_
  have hn : (List.range n).length = n := by simp
  simp [xRun, a_laws_heldMovedS]
  refine list_loop (List.range n) (by rw [hn]; unfold Len at hl; omega) (fun i (_ : Unit) => [(1, I (k + (3 * i : Nat))), (5, I i)]) (fun _ _ => True) default (by simp) trivial ?_ ?_
  · intro N E i a s ha hi hm ht hwi _ hN hE
    rw [hn] at hi
    have hai : a = i := by
      have := (List.getElem?_eq_some_iff.1 ha).2
      simpa using this.symm
    subst hai
    have hR : ((List.range n).map (mMoved k))[a]? = some (mMoved k a) := by simp [ha]
    have hRl : ((List.range n).map (mMoved k)).length = n := by simp
    generalize (List.range n).map (mMoved k) = R at *
    rw [show mMoved k a = [D.int .i64 (k + ((3 * a : Nat) : Int)), D.int .i64 (k + ((3 * a : Nat) : Int) + 1), D.int .i64 (k + ((3 * a : Nat) : Int) + 2)] from rfl] at hR
    rw [show k + ((3 * (a + 1) : Nat) : Int) = k + ((3 * a : Nat) : Int) + 3 by omega] at hN
    have hb : 0 < k + ((3 * a : Nat) : Int) ∧ k + ((3 * a : Nat) : Int) + 3 ≤ 1000000000000 := by unfold Mk at hk; omega
    generalize k + ((3 * a : Nat) : Int) = K at *
    have w0 : IntKind.i64.wrap (K + 1) = K + 1 := (wrap_small (by omega) (by omega)).trans (by omega)
    have w1 : IntKind.i64.wrap (K + 1 + 1) = K + 2 := (wrap_small (by omega) (by omega)).trans (by omega)
    have w2 : IntKind.i64.wrap (K + 2 + 1) = K + 3 := (wrap_small (by omega) (by omega)).trans (by omega)
    simp [bodyF, b_laws_heldMovedS_0, hRl, hi, hR, at_of hR, w0, w1, w2, hwi]
    exact hN _ s (by simp) trivial
  · intro N E s _ hE
    rw [hn]
    simp [bodyF, b_laws_heldMovedS_0]
    exact hE _ _ fun st => by simp
/-- The sheets of both sides are good. -/
def TwoOK (b : Board) (s : State) (x y : Sheet) : Prop := (x.side = 0 ∧ y.side = 1) ∧ StateOK b s ∧ SheetOK b s x ∧ SheetOK b s y
theorem c_spec_fSheets (b : Board) (s : State) (x y : Sheet) (gb : LenB b) (gs : Len s.units.length) (gx : LenSheet x) (gy : LenSheet y) : C n_spec_fSheets [BoardV false b, StateV false s, SheetV false x, SheetV false y] = some (Bo (decide (TwoOK b s x y))) := by
  refine callC p_spec_fSheets rfl ?_
  have e1 := c_spec_oGood b s x gb gs gx
  have e2 := c_spec_oGood b s y gb gs gy
  by_cases h1 : x.side = 0
  rotate_left
  · have hP : ¬ TwoOK b s x y := fun h => h1 h.1.1
    simp [xRun, a_spec_fSheets, h1, hP]
  by_cases h2 : y.side = 1
  rotate_left
  · have hP : ¬ TwoOK b s x y := fun h => h2 h.1.2
    simp [xRun, a_spec_fSheets, h1, h2, hP]
  dsimp only [SheetV] at e1 e2
  rw [h1] at e1
  rw [h2] at e2
  by_cases h3 : StateOK b s ∧ SheetOK b s x
  rotate_left
  · have hP : ¬ TwoOK b s x y := fun h => h3 ⟨h.2.1, h.2.2.1⟩
    rw [decide_eq_false h3] at e1
    simp [xRun, a_spec_fSheets, h1, h2, e1, hP]
  rw [decide_eq_true h3] at e1
  by_cases h4 : StateOK b s ∧ SheetOK b s y
  rotate_left
  · have hP : ¬ TwoOK b s x y := fun h => h4 ⟨h.2.1, h.2.2.2⟩
    rw [decide_eq_false h4] at e2
    simp [xRun, a_spec_fSheets, h1, h2, e1, e2, hP]
  have hP : TwoOK b s x y := ⟨⟨h1, h2⟩, h3.1, h3.2, h4.2⟩
  rw [decide_eq_true h4] at e2
  simp [xRun, a_spec_fSheets, h1, h2, e1, e2, hP]
theorem c_impl_areSheets (b : Board) (s : State) (x y : Sheet) (gb : LenB b) (gs : Len s.units.length) (gx : LenSheet x) (gy : LenSheet y) : C n_impl_areSheets [BoardV false b, StateV false s, SheetV false x, SheetV false y] = some (Bo (decide (TwoOK b s x y))) := by
  refine callC p_impl_areSheets rfl ?_
  have e0 := c_impl_fits b s gb gs
  by_cases h0 : StateOK b s
  rotate_left
  · have hP : ¬ TwoOK b s x y := fun h => h0 h.2.1
    simp [xRun, a_impl_areSheets, e0, h0, hP]
  have e1 := c_impl_goodSheet b s x gb h0 gx
  have e2 := c_impl_goodSheet b s y gb h0 gy
  by_cases h1 : x.side = 0
  rotate_left
  · have hP : ¬ TwoOK b s x y := fun h => h1 h.1.1
    simp [xRun, a_impl_areSheets, e0, h0, h1, hP]
  by_cases h2 : y.side = 1
  rotate_left
  · have hP : ¬ TwoOK b s x y := fun h => h2 h.1.2
    simp [xRun, a_impl_areSheets, e0, h0, h1, h2, hP]
  dsimp only [SheetV] at e1 e2
  rw [h1] at e1
  rw [h2] at e2
  by_cases h3 : SheetOK b s x
  rotate_left
  · have hP : ¬ TwoOK b s x y := fun h => h3 h.2.2.1
    rw [decide_eq_false h3] at e1
    simp [xRun, a_impl_areSheets, e0, h0, h1, h2, e1, hP]
  rw [decide_eq_true h3] at e1
  by_cases h4 : SheetOK b s y
  rotate_left
  · have hP : ¬ TwoOK b s x y := fun h => h4 h.2.2.2
    rw [decide_eq_false h4] at e2
    simp [xRun, a_impl_areSheets, e0, h0, h1, h2, e1, e2, hP]
  have hP : TwoOK b s x y := ⟨⟨h1, h2⟩, h0, h3, h4⟩
  rw [decide_eq_true h4] at e2
  simp [xRun, a_impl_areSheets, e0, h0, h1, h2, e1, e2, hP]
end Go.Abs.W
set_option linter.unusedSimpArgs false
set_option linter.unusedVariables false
set_option maxRecDepth 100000
set_option maxHeartbeats 2000000
namespace Go.Abs.W
open Go Go.Abs Classical
attribute [-simp] Bool.decide_and
/-- The orders of the units below n, unit by unit. -/
noncomputable def ordU (L : List Order) (u : Nat) : List Order := L.filter fun o => decide (o.unit = u)
noncomputable def ordersU (L : List Order) (n : Nat) : List Order := (List.range n).flatMap (ordU L)
theorem ordersU_succ (L : List Order) (n : Nat) : ordersU L (n + 1) = ordersU L n ++ ordU L n := by simp [ordersU, List.range_succ]
theorem ordersU_len (L : List Order) (n : Nat) : (ordersU L n).length ≤ n * L.length := by
  induction n with
  | zero => simp [ordersU]
  | succ n ih =>
    have h1 : (ordU L n).length ≤ L.length := List.length_filter_le ..
    rw [ordersU_succ, List.length_append, Nat.succ_mul]; omega
theorem c_spec_fOrders (x y : Sheet) (gx : LenSheet x) (gy : LenSheet y) : C n_spec_fOrders [SheetV false x, SheetV false y] = some (.val (.one (.list true 3 ((ordersU (x.orders ++ y.orders) 12).map (Order.enc false))))) := by
  refine callC p_spec_fOrders rfl ?_
  have lx := gx.l
  have ly := gy.l
  unfold Len at lx ly
  obtain ⟨L, hL⟩ : ∃ L, L = x.orders ++ y.orders := ⟨_, rfl⟩
  have hLl : L.length ≤ 2097152 := by rw [hL, List.length_append]; omega
  rw [← hL]
  have hm : x.orders.map (Order.enc false) ++ y.orders.map (Order.enc false) = L.map (Order.enc false) := by rw [hL, List.map_append]
  have b1 : x.orders.length ≤ 68719476736 := by omega
  have b2 : x.orders.length + y.orders.length ≤ 68719476736 := by omega
  simp [xRun, a_spec_fOrders]
  refine list_loop (List.range 12) (by simp) (fun u (_ : Unit) => [(5, .own 0 3 ((ordersU L u).map (Order.enc false))), (6, I (u : Int))]) (fun _ _ => True) default (by simp [ordersU]) trivial ?_ ?_
  · intro N E u a s ha hu hmu ht hwu _ hN hE
    simp at hu
    have hu12 : (u : Int) < 12 := by omega
    have hlen := ordersU_len L u
    have hlen2 : (ordersU L u).length ≤ 12 * 2097152 := Nat.le_trans hlen (Nat.mul_le_mul (by omega) hLl)
    rw [ordersU_succ] at hN
    have hLL : x.orders.length + y.orders.length = L.length := by rw [hL, List.length_append]
    simp [bodyF, b_spec_fOrders_1, hu12, b1, b2, hm]
    refine list_loopR L (by omega) (fun i (_ : Unit) => [(5, .own 0 3 ((ordersU L u ++ ordU (L.take i) u).map (Order.enc false))), (21, I (i : Int))]) (fun _ _ => True) default (by simp [ordU, hm]) trivial ?_ ?_
    · intro N2 E2 i o s2 ho hi hm2 ht2 hwi _ hN2 hE2
      have hb : (ordersU L u).length + (ordU (L.take i) u).length + 1 ≤ 68719476736 := by
        have h1 : (ordU (L.take i) u).length ≤ (L.take i).length := List.length_filter_le ..
        rw [List.length_take] at h1
        omega
      by_cases hc : o.unit = u
      · have h3 : ordU (L.take (i + 1)) u = ordU (L.take i) u ++ [o] := by rw [ht2]; simp [ordU, hc]
        simp [bodyF, b_spec_fOrders_0, hi, Order.enc, ho, at_of ho, hwi, hc, hb]
        exact hN2 _ s2 (by simp [h3, Order.enc, hc]) trivial
      · have h3 : ordU (L.take (i + 1)) u = ordU (L.take i) u := by rw [ht2]; simp [ordU, hc]
        simp [bodyF, b_spec_fOrders_0, hi, Order.enc, ho, at_of ho, hwi, hc]
        exact hN2 _ s2 (by simp [h3]) trivial
    · intro N2 E2 s2 _ hE2
      rw [List.take_length]
      simp [bodyF, b_spec_fOrders_0]
      refine hE2 _ _ fun st => ?_
      simp [hwu]
      exact hN _ s (by simp) trivial
  · intro N E s _ hE
    simp [bodyF, b_spec_fOrders_1]
    exact hE _ _ fun st => by simp
end Go.Abs.W
