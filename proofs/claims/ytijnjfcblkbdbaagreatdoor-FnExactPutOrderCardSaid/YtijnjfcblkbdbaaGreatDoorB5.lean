import Derived.Test.YtijnjfcblkbdbaaGreatDoorB3
import Derived.Test.YtijnjfcblkbdbaaGreatDoorB1
set_option linter.unusedSimpArgs false
set_option linter.unusedVariables false
set_option maxRecDepth 100000
set_option maxHeartbeats 2000000
namespace Go.Abs.W
open Go Go.Abs Classical
attribute [-simp] Bool.decide_and
/-- The first order of a unit, or the empty one. -/
noncomputable def ordR (l : List Order) (u : Int) : Order := match l.find? (fun o => decide (o.unit = u)) with
  | some o => o
  | none => ⟨0, [], 0⟩
def HasO (l : List Order) (u : Int) : Prop := ∃ o ∈ l, o.unit = u
theorem ordR_at {l : List Order} {u : Int} {i : Nat} {a : Order} (ha : l[i]? = some a) (hp : a.unit = u) (hs : ∀ b ∈ l.take i, ¬ b.unit = u) : ordR l u = a := by
  have : l.find? (fun o => decide (o.unit = u)) = some a := by
    rw [List.find?_eq_some_iff_getElem]
    obtain ⟨h1, h2⟩ := List.getElem?_eq_some_iff.1 ha
    refine ⟨by simpa using hp, i, h1, h2, fun j hj => ?_⟩
    have hm : l[j] ∈ l.take i := List.mem_iff_getElem.2 ⟨j, by rw [List.length_take]; omega, by simp⟩
    simpa using hs _ hm
  unfold ordR
  rw [this]
theorem ordR_none {l : List Order} {u : Int} (hs : ∀ b ∈ l, ¬ b.unit = u) : ordR l u = ⟨0, [], 0⟩ := by
  have : l.find? (fun o => decide (o.unit = u)) = none := List.find?_eq_none.2 fun b hb => by simpa using hs b hb
  unfold ordR
  rw [this]
theorem c_spec_oOwn (o : Order) (hl : Len o.path.length) : C n_spec_oOwn [OrderV false o] = some (OrderV true o) := by
  refine callC p_spec_oOwn rfl ?_
  have e1 := c_spec_l1Own o.path hl
  simp [xRun, a_spec_oOwn, e1]
theorem c_slices_IndexFunc_Order (l : List Order) (f : FuncId) (cs : List (List D)) (p : Order → Prop) [DecidablePred p] (hl : Len l.length) (hf : ∀ t, C f (OrderV false t :: cs.map .rp) = some (Bo (decide (p t)))) :
    C n_slices_IndexFunc_impl_Order_impl_Order [OrdersV false l, .clo f cs] = some (I (firstIx p l)) := by
  refine callC p_slices_IndexFunc_impl_Order_impl_Order rfl ?_
  simp [xRun, a_slices_IndexFunc_impl_Order_impl_Order]
  refine find_loop l (by unfold Len at hl; omega) 8 p (by simp) ?_ ?_
  · intro N E i a ha hi hm hwi hs hN hE
    have hfa := hf a
    dsimp only [OrderV, Order.enc] at hfa
    by_cases hc : p a
    · simp [bodyF, b_slices_IndexFunc_impl_Order_impl_Order_0, hi, Order.enc, ha, at_of ha, hfa, hc]
      refine hE _ _ fun st => ?_
      rw [firstIx_at ha hc hs]
      simp
    · simp [bodyF, b_slices_IndexFunc_impl_Order_impl_Order_0, hi, Order.enc, ha, at_of ha, hwi, hfa, hc]
      exact hN _ (by simp) hc
  · intro N E hs hE
    simp [bodyF, b_slices_IndexFunc_impl_Order_impl_Order_0]
    refine hE _ _ fun st => ?_
    rw [firstIx_none hs]
    simp
theorem c_impl_orderPlace (x : Sheet) (u : Int) (hl : LenSheet x) : C n_impl_orderPlace [SheetV false x, I u] = some (I (firstIx (fun o : Order => o.unit = u) x.orders)) := by
  have hf : ∀ t, C n_impl_orderPlace_1 (OrderV false t :: [[.int .i64 u]].map .rp) = some (Bo (decide (t.unit = u))) := by
    intro t
    refine callC p_impl_orderPlace_1 rfl ?_
    by_cases h : t.unit = u <;> simp [xRun, a_impl_orderPlace_1, h, Order.enc]
  have e1 := c_slices_IndexFunc_Order x.orders n_impl_orderPlace_1 [[.int .i64 u]] (fun o => o.unit = u) hl.l hf
  refine callC p_impl_orderPlace rfl ?_
  simp [xRun, a_impl_orderPlace, e1]
theorem c_impl_cloneOrder (o : Order) (hl : Len o.path.length) : C n_impl_cloneOrder [OrderV false o] = some (OrderV true o) := by
  refine callC p_impl_cloneOrder rfl ?_
  have e1 := c_slices_Clone o.path hl
  simp [xRun, a_impl_cloneOrder, e1]
theorem c_laws_markOrder (o : Order) (k : Int) (hl : Len o.path.length) (hk : Mk k o.path.length) : C n_laws_markOrder [OrderV true o, I k] = some (.tup [none, some (.one (.int .i64 (k + o.path.length))), some (.agg [.int .i64 o.unit, .list true 1 (ints (upI k o.path.length)), .int .i64 o.attack])]) := by
  refine callC p_laws_markOrder rfl ?_
  have e1 := c_laws_markIntS o.path k hl hk
  simp [xRun, a_laws_markOrder, e1, flatD]
theorem ordR_len {x : Sheet} {u : Int} (hl : LenSheet x) : Len (ordR x.orders u).path.length := by
  unfold ordR
  split
  · rename_i o ho
    exact hl.o o (List.mem_of_find?_eq_some ho)
  · unfold Len; simp
end Go.Abs.W
