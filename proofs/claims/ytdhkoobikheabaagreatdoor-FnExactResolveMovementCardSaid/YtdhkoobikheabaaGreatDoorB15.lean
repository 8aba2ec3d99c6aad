import Derived.Test.YtdhkoobikheabaaGreatDoorB13
import Derived.Test.YtdhkoobikheabaaGreatDoorB14
set_option linter.unusedSimpArgs false
set_option linter.unusedVariables false
set_option maxRecDepth 100000
set_option maxHeartbeats 4000000
namespace Go.Abs.W
open Go Go.Abs Classical
attribute [-simp] Bool.decide_and
noncomputable def movOs (x y : Sheet) : List Order := ordersU (x.orders ++ y.orders) 12
noncomputable def movZ (b : Board) (s : State) (x y : Sheet) : State × List Mv := runM b (wtL ((movOs x y).map startM) + 1) (s, (movOs x y).map startM)
/-- What a movement leaves; what it tells of each order. -/
noncomputable def movS (b : Board) (s : State) (x y : Sheet) : State := if TwoOK b s x y then (movZ b s x y).1 else ⟨0, 0, []⟩
noncomputable def movL (b : Board) (s : State) (x y : Sheet) : List Moved := if TwoOK b s x y then (movZ b s x y).2.map Mv.moved else []
theorem moved_rows (T : List Mv) : (T.map Mv.moved).map Moved.enc = T.map Mv.row := by rw [List.map_map]; rfl
theorem movOs_len {b : Board} {s : State} {x y : Sheet} (h : TwoOK b s x y) : (movOs x y).length ≤ 24 := by
  have hT := two_list h
  have := (ordersU_all hT).length_eq
  have h2 := hT.len
  unfold movOs; omega
theorem movOs_ok {b : Board} {s : State} {x y : Sheet} (h : TwoOK b s x y) : ZOK b s ((movOs x y).map startM) := by
  have hT := two_list h
  have hp := ordersU_all hT
  refine ⟨h.2.1.toW, fun m hm => ?_, ?_⟩
  · obtain ⟨o, ho, rfl⟩ := List.mem_map.1 hm
    obtain ⟨h1, h2, h3⟩ := hT.has o (hp.subset ho)
    exact ⟨h1, h2, h3.1, Int.le_refl _, Int.natCast_nonneg _, h3.2⟩
  · unfold Us
    rw [List.map_map]
    exact (hp.map fun o : Order => o.unit).nodup_iff.2 hT.nd
theorem runM_len (b : Board) : ∀ (n : Nat) (z : State × List Mv), (runM b n z).1.units.length = z.1.units.length ∧ (runM b n z).2.length = z.2.length
  | 0, z => ⟨rfl, rfl⟩
  | n + 1, z => by
    unfold runM
    split
    · exact ⟨rfl, rfl⟩
    · obtain ⟨h1, h2⟩ := runM_len b n (roundM b z)
      rw [h1, h2]
      simp only [roundM]
      exact ⟨doM_len _ _, by rw [List.length_map, List.length_map]⟩
theorem movS_len {b : Board} {s : State} {x y : Sheet} (gs : Len s.units.length) : Len (movS b s x y).units.length := by
  unfold movS
  split
  · unfold movZ; rw [(runM_len b _ _).1]; exact gs
  · unfold Len; simp
theorem movL_len {b : Board} {s : State} {x y : Sheet} : (movL b s x y).length ≤ 24 := by
  unfold movL
  split
  · rename_i h
    unfold movZ
    rw [List.length_map, (runM_len b _ _).2, List.length_map]
    exact movOs_len h
  · simp
theorem c_spec_ResolveMovement (b : Board) (s : State) (x y : Sheet) (gb : LenB b) (gs : Len s.units.length) (gx : LenSheet x) (gy : LenSheet y) :
    C n_spec_ResolveMovement [BoardV false b, StateV false s, SheetV false x, SheetV false y] = some (.tup [some (.agg (StateA true (movS b s x y))), some (.one (.list true 3 ((movL b s x y).map Moved.enc))), some (.one (.bool (decide (TwoOK b s x y))))]) := by
  refine callC p_spec_ResolveMovement rfl ?_
  have e1 := c_spec_fSheets b s x y gb gs gx gy
  unfold movS movL
  by_cases h : TwoOK b s x y
  · have e2 := c_spec_fResolve b s x y (movOs x y) gb gx gy rfl (movOs_len h) (movOs_ok h)
    change C n_spec_fResolve [BoardV false b, StateV false s, SheetV false x, SheetV false y] = some (.tup [some (.agg (StateA true (movZ b s x y).1)), some (.one (.list true 3 ((movZ b s x y).2.map Mv.row)))]) at e2
    rw [← moved_rows] at e2
    simp only [if_pos h]
    generalize movZ b s x y = Z at *
    generalize (Z.2.map Mv.moved).map Moved.enc = R at *
    simp [xRun, a_spec_ResolveMovement, e1, h, e2]
  · simp [xRun, a_spec_ResolveMovement, e1, h]
theorem c_impl_ResolveMovement (b : Board) (s : State) (x y : Sheet) (gb : LenB b) (gs : Len s.units.length) (gx : LenSheet x) (gy : LenSheet y) :
    C n_impl_ResolveMovement [BoardV false b, StateV false s, SheetV false x, SheetV false y] = some (.tup [some (.agg (StateA true (movS b s x y))), some (.one (.list true 3 ((movL b s x y).map Moved.enc))), some (.one (.bool (decide (TwoOK b s x y))))]) := by
  refine callC p_impl_ResolveMovement rfl ?_
  have e1 := c_impl_areSheets b s x y gb gs gx gy
  unfold movS movL
  by_cases h : TwoOK b s x y
  · have e2 := c_impl_resolveMovement b s (movOs x y) gb (movOs_len h) (movOs_ok h)
    have e3 := c_impl_allOrders b s x y h
    change C n_impl_allOrders [SheetV false x, SheetV false y] = some (Rows true 3 ((movOs x y).map (Order.enc false))) at e3
    change C n_impl_resolveMovement [BoardV false b, StateV false s, Rows false 3 ((movOs x y).map (Order.enc false))] = some (.tup [some (.agg (StateA true (movZ b s x y).1)), some (.one (.list true 3 ((movZ b s x y).2.map Mv.row)))]) at e2
    rw [← moved_rows] at e2
    simp only [if_pos h]
    have hsafe : safeLL (((movZ b s x y).2.map Mv.moved).map Moved.enc) = true := safe_moved _
    generalize movZ b s x y = Z at *
    generalize (Z.2.map Mv.moved).map Moved.enc = R at *
    simp [xRun, a_impl_ResolveMovement, e1, h, e2, e3, hsafe]
  · simp [xRun, a_impl_ResolveMovement, e1, h]
end Go.Abs.W
