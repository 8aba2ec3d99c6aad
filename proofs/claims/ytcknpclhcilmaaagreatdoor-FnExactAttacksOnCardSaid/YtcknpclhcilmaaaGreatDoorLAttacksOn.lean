/- The law AttacksOn, run. -/
import Derived.Test.YtcknpclhcilmaaaGreatDoorB3
import Derived.Test.YtcknpclhcilmaaaGreatDoorB8
import Derived.Test.YtcknpclhcilmaaaGreatDoorB10
set_option linter.unusedSimpArgs false
set_option linter.unusedVariables false
set_option maxRecDepth 100000
set_option maxHeartbeats 8000000
namespace Go.Abs.W
open Go Go.Abs Classical
attribute [-simp] Bool.decide_and
def OnSheet (b : Board) (s : State) (x : Sheet) (i : Int) : Prop := (StateOK b s ∧ SheetOK b s x) ∧ On b i
def attsL (i : Int) (l : List Order) : List Int := (l.filter fun o => decide (o.attack = i)).map Order.unit
theorem attsL_snoc (i : Int) (l : List Order) (o : Order) : attsL i (l ++ [o]) = if o.attack = i then attsL i l ++ [o.unit] else attsL i l := by
  unfold attsL
  rw [List.filter_append]
  by_cases h : o.attack = i <;> simp [h]
theorem attsL_le (i : Int) (l : List Order) : (attsL i l).length ≤ l.length := by unfold attsL; rw [List.length_map]; exact List.length_filter_le ..
noncomputable def attR (b : Board) (s : State) (x : Sheet) (i : Int) : List Int := if OnSheet b s x i then attsL i x.orders else []
theorem c_impl_hasSheet (b : Board) (s : State) (x : Sheet) (gb : LenB b) (gs : Len s.units.length) (gx : LenSheet x) : C n_impl_hasSheet [BoardV false b, StateV false s, SheetV false x] = some (Bo (decide (StateOK b s ∧ SheetOK b s x))) := by
  refine callC p_impl_hasSheet rfl ?_
  have e1 := c_impl_fits b s gb gs
  by_cases h : StateOK b s
  · have e2 := c_impl_goodSheet b s x gb h gx
    by_cases h2 : SheetOK b s x <;> simp [xRun, a_impl_hasSheet, e1, h, e2, h2]
  · simp [xRun, a_impl_hasSheet, e1, h]
theorem c_spec_AttacksOn (b : Board) (s : State) (x : Sheet) (i : Int) (gb : LenB b) (gs : Len s.units.length) (gx : LenSheet x) : C n_spec_AttacksOn [BoardV false b, StateV false s, SheetV false x, I i] = some (.tup [some (.one (.list true 1 (ints (attR b s x i)))), some (.one (.bool (decide (OnSheet b s x i))))]) := by
  refine callC p_spec_AttacksOn rfl ?_
  have e1 := c_spec_oGood b s x gb gs gx
  unfold attR
  by_cases h : StateOK b s ∧ SheetOK b s x
  rotate_left
  · have hP : ¬ OnSheet b s x i := fun hh => h hh.1
    rw [decide_eq_false h] at e1
    simp [xRun, a_spec_AttacksOn, e1, hP, ints_nil]
  rw [decide_eq_true h] at e1
  have hsz := h.1.board.size_le
  have e2 := c_spec_mSize b.map h.1.board.map.dim
  rw [h.1.board.size_eq] at e2
  have w1 : IntKind.i64.wrap (size b - 1) = size b - 1 := wrap_small (by omega) (by omega)
  by_cases h2 : 0 ≤ i ∧ i ≤ size b - 1
  rotate_left
  · have hP : ¬ OnSheet b s x i := fun hh => h2 (by have := hh.2; unfold On at this; omega)
    simp [xRun, a_spec_AttacksOn, e1, e2, w1, h2, hP, ints_nil]
  have hP : OnSheet b s x i := ⟨h, h2.1, by omega⟩
  have gl := gx.l
  unfold Len at gl
  simp [xRun, a_spec_AttacksOn, e1, e2, w1, h2, hP]
  refine list_loop x.orders (by omega) (fun n (_ : Unit) => [(10, .own 0 1 (ints (attsL i (x.orders.take n)))), (30, I n)]) (fun _ _ => True) default (by simp [attsL, ints_nil]) trivial ?_ ?_
  · intro N E n o z ho hlt hm ht hwi _ hN hE
    have hle : (attsL i (x.orders.take n)).length + 1 ≤ 68719476736 := by
      have := attsL_le i (x.orders.take n)
      rw [List.length_take] at this
      omega
    rw [ht, attsL_snoc] at hN
    generalize attsL i (x.orders.take n) = L at *
    by_cases h1 : o.attack = i
    · rw [if_pos h1] at hN
      simp [bodyF, b_spec_AttacksOn_0, hlt, ho, at_of ho, Order.enc, h1, rowsOf, ints_length, hle, ints_snoc, hwi]
      exact hN _ z (by simp) trivial
    · rw [if_neg h1] at hN
      simp [bodyF, b_spec_AttacksOn_0, hlt, ho, at_of ho, Order.enc, h1, hwi]
      exact hN _ z (by simp) trivial
  · intro N E z _ hE
    rw [List.take_length]
    simp [bodyF, b_spec_AttacksOn_0]
    exact hE _ _ fun st => by simp
theorem c_impl_AttacksOn (b : Board) (s : State) (x : Sheet) (i : Int) (gb : LenB b) (gs : Len s.units.length) (gx : LenSheet x) : C n_impl_AttacksOn [BoardV false b, StateV false s, SheetV false x, I i] = some (.tup [some (.one (.list true 1 (ints (attR b s x i)))), some (.one (.bool (decide (OnSheet b s x i))))]) := by
  refine callC p_impl_AttacksOn rfl ?_
  have e1 := c_impl_hasSheet b s x gb gs gx
  unfold attR
  by_cases h : StateOK b s ∧ SheetOK b s x
  rotate_left
  · have hP : ¬ OnSheet b s x i := fun hh => h hh.1
    rw [decide_eq_false h] at e1
    simp [xRun, a_impl_AttacksOn, e1, hP, ints_nil]
  rw [decide_eq_true h] at e1
  have hsz := h.1.board.size_le
  have e2 := c_impl_isIndex i (size b) (by omega) (by omega)
  by_cases h2 : 0 ≤ i ∧ i < size b
  rotate_left
  · have hP : ¬ OnSheet b s x i := fun hh => h2 hh.2
    rw [decide_eq_false h2] at e2
    simp [xRun, a_impl_AttacksOn, e1, e2, hP, ints_nil]
  rw [decide_eq_true h2] at e2
  have hP : OnSheet b s x i := ⟨h, h2⟩
  have gl := gx.l
  unfold Len at gl
  simp [xRun, a_impl_AttacksOn, e1, e2, hP, rowsOf]
  refine list_loop x.orders (by omega) (fun n (_ : Unit) => [(10, .own 0 1 (ints (attsL i (x.orders.take n)))), (29, I n)]) (fun _ _ => True) default (by simp [attsL, ints_nil]) trivial ?_ ?_
  · intro N E n o z ho hlt hm ht hwi _ hN hE
    have hle : (attsL i (x.orders.take n)).length + 1 ≤ 68719476736 := by
      have := attsL_le i (x.orders.take n)
      rw [List.length_take] at this
      omega
    rw [ht, attsL_snoc] at hN
    generalize attsL i (x.orders.take n) = L at *
    by_cases h1 : o.attack = i
    · rw [if_pos h1] at hN
      simp [bodyF, b_impl_AttacksOn_0, hlt, ho, at_of ho, Order.enc, h1, rowsOf, ints_length, hle, ints_snoc, hwi]
      exact hN _ z (by simp) trivial
    · rw [if_neg h1] at hN
      simp [bodyF, b_impl_AttacksOn_0, hlt, ho, at_of ho, Order.enc, h1, hwi]
      exact hN _ z (by simp) trivial
  · intro N E z _ hE
    rw [List.take_length]
    simp [bodyF, b_impl_AttacksOn_0]
    exact hE _ _ fun st => by simp
theorem attR_len {b : Board} {s : State} {x : Sheet} {i : Int} (gx : LenSheet x) : Len (attR b s x i).length := by
  unfold attR
  split
  · have := attsL_le i x.orders; have := gx.l; unfold Len at *; omega
  · unfold Len; simp
theorem law_AttacksOn (b : Board) (s : State) (x : Sheet) (i : Int) (wb : WideB b) (ws : Wide s.units.length) (wx : WideSheet x) : C n_laws_FnExactAttacksOn [BoardV false b, StateV false s, SheetV false x, I i] = some (Bo true) := by
  refine callC p_laws_FnExactAttacksOn rfl ?_
  have z1 := c_laws_szBoard b _ left0 wb
  by_cases h1 : (1048576 : Int) < (cntB b : Nat)
  · rw [less_yes h1] at z1
    simp [xRun, a_laws_FnExactAttacksOn, z1]
  rw [less_no h1] at z1
  have h1' : ¬ (1048576 : Int) - (cntB b : Nat) < 0 := by omega
  have z2 := c_laws_szState s _ (less_left left0 h1) ws
  by_cases h2 : (1048576 : Int) - (cntB b : Nat) < (s.units.length : Nat)
  · rw [less_yes h2] at z2
    simp [xRun, a_laws_FnExactAttacksOn, z1, h1', z2]
  rw [less_no h2] at z2
  have h2' : ¬ (1048576 : Int) - (cntB b : Nat) - (s.units.length : Nat) < 0 := by omega
  have z3 := c_laws_szSheet x _ (less_left (less_left left0 h1) h2) wx
  by_cases h3 : (1048576 : Int) - (cntB b : Nat) - (s.units.length : Nat) < (cntSheet x : Nat)
  · rw [less_yes h3] at z3
    simp [xRun, a_laws_FnExactAttacksOn, z1, h1', z2, h2', z3]
  rw [less_no h3] at z3
  have h3' : ¬ (1048576 : Int) - (cntB b : Nat) - (s.units.length : Nat) - (cntSheet x : Nat) < 0 := by omega
  have gb : LenB b := LenB_of (by omega)
  have gs : Len s.units.length := by unfold Len; omega
  have gx : LenSheet x := LenSheet_of (by omega)
  have hm0 := marks_le b
  have hm2 := cOrderS_le x.orders
  have hux : cntSheet x = x.orders.length + sumN (fun o : Order => o.path.length) x.orders := rfl
  have e1 := c_spec_AttacksOn b s x i gb gs gx
  have e2 := c_impl_AttacksOn b s x i gb gs gx
  have hlen : Len (attR b s x i).length := attR_len gx
  generalize attR b s x i = R at *
  generalize decide (OnSheet b s x i) = sc0 at *
  have m0 := c_laws_markBoard b 1 gb (by unfold Mk; omega)
  obtain ⟨K1, hK1⟩ : ∃ K : Int, K = 1 + ((cR b.rules + cM b.map : Nat) : Int) := ⟨_, rfl⟩
  rw [← hK1] at m0
  have m1 := c_laws_markState s K1 gs (by unfold Mk; omega)
  obtain ⟨K2, hK2⟩ : ∃ K : Int, K = K1 + ((4 * s.units.length : Nat) : Int) := ⟨_, rfl⟩
  rw [← hK2] at m1
  have m2 := c_laws_markSheet x K2 gx.l gx.o (by unfold Mk; omega)
  obtain ⟨K3, hK3⟩ : ∃ K : Int, K = K2 + (cOrderS x.orders : Int) := ⟨_, rfl⟩
  rw [← hK3] at m2
  have hlen2 := hlen
  unfold Len at hlen2
  have r1 := c_laws_eqIntS R hlen
  have r2 := c_laws_markIntS R 1 hlen (by unfold Mk; omega)
  have r3 := c_laws_heldIntS 1 R.length hlen (by unfold Mk; omega)
  obtain ⟨M, hM⟩ : ∃ M : Int, M = 1 + (R.length : Int) := ⟨_, rfl⟩
  rw [← hM] at r2 r3
  have n2 : ¬ M < 0 := by omega
  have n1 : ¬ K3 < 0 := by omega
  have b0 := c_laws_toBoard b gb
  have d0 := c_laws_eqBoard b gb
  have b1 := c_laws_toState s gs
  have d1 := c_laws_eqState s gs
  have b2 := c_laws_toSheet x gx
  have d2 := c_laws_eqSheet x gx
  clear hK1 hK2 hK3 hM
  simp (config := { maxSteps := 4000000 }) [xRun, a_laws_FnExactAttacksOn, z1, h1', z2, h2', z3, h3', e1, e2, m0, m1, m2, r1, r2, r3, n2, n1, b0, d0, b1, d1, b2, d2, mRules, mMap]
end Go.Abs.W
