import Derived.Test.YtijnjfcblkbdbaaGreatDoorB9
set_option linter.unusedSimpArgs false
set_option linter.unusedVariables false
set_option maxRecDepth 100000
set_option maxHeartbeats 2000000
namespace Go.Abs.W
open Go Go.Abs Classical
attribute [-simp] Bool.decide_and
/-- One round of the reference's walk. -/
noncomputable def stepP (o : Order) (z : List Order × Bool) (y : Order) : List Order × Bool :=
  if z.2 = false ∧ o.unit ≤ y.unit then (if y.unit = o.unit then (z.1 ++ [o], true) else (z.1 ++ [o] ++ [y], true)) else (if y.unit = o.unit then z else (z.1 ++ [y], z.2))
theorem step_both {o a : Order} {acc : List Order} (h : o.unit ≤ a.unit) (hc : ¬ a.unit = o.unit) : stepP o (acc, false) a = (acc ++ [o] ++ [a], true) := by simp [stepP, h, hc]
theorem step_new {o a : Order} {acc : List Order} (hc : a.unit = o.unit) : stepP o (acc, false) a = (acc ++ [o], true) := by simp [stepP, hc]
theorem step_out {o a : Order} {acc : List Order} (hc : a.unit = o.unit) : stepP o (acc, true) a = (acc, true) := by simp [stepP, hc]
theorem step_own {o a : Order} {acc : List Order} (hc : ¬ a.unit = o.unit) : stepP o (acc, true) a = (acc ++ [a], true) := by simp [stepP, hc]
theorem step_low {o a : Order} {acc : List Order} (h : ¬ o.unit ≤ a.unit) : stepP o (acc, false) a = (acc ++ [a], false) := by
  have hc : ¬ a.unit = o.unit := fun hh => h (by omega)
  simp [stepP, h, hc]
theorem foldP_lo {o : Order} : ∀ {A acc : List Order}, (∀ y ∈ A, y.unit < o.unit) → A.foldl (stepP o) (acc, false) = (acc ++ A, false)
  | [], acc, _ => by simp
  | a :: A, acc, h => by
    have h1 := h a (by simp)
    have h2 : stepP o (acc, false) a = (acc ++ [a], false) := step_low (by omega)
    rw [List.foldl_cons, h2, foldP_lo fun y hy => h y (by simp [hy])]
    simp
theorem foldP_hi {o : Order} : ∀ {B acc : List Order}, (∀ y ∈ B, ¬ y.unit = o.unit) → B.foldl (stepP o) (acc, true) = (acc ++ B, true)
  | [], acc, _ => by simp
  | a :: B, acc, h => by
    have h1 := h a (by simp)
    have h2 : stepP o (acc, true) a = (acc ++ [a], true) := step_own h1
    rw [List.foldl_cons, h2, foldP_hi fun y hy => h y (by simp [hy])]
    simp
noncomputable def putF (l : List Order) (o : Order) : List Order × Bool := l.foldl (stepP o) ([], false)
noncomputable def putL (l : List Order) (o : Order) : List Order := if (putF l o).2 = true then (putF l o).1 else (putF l o).1 ++ [o]
theorem putL_new {A B : List Order} {o : Order} (hA : ∀ y ∈ A, y.unit < o.unit) (hB : ∀ y ∈ B, o.unit < y.unit) : putL (A ++ B) o = A ++ [o] ++ B := by
  cases B with
  | nil =>
    have h1 : putF (A ++ []) o = (A, false) := by
      unfold putF
      rw [List.append_nil, foldP_lo hA]; simp
    unfold putL
    rw [h1]; simp
  | cons b B =>
    have hb := hB b (by simp)
    have h2 : stepP o (A, false) b = (A ++ [o] ++ [b], true) := step_both (by omega) (by omega)
    have h1 : putF (A ++ b :: B) o = (A ++ [o] ++ [b] ++ B, true) := by
      unfold putF
      rw [List.foldl_append, foldP_lo hA, List.nil_append, List.foldl_cons, h2, foldP_hi fun y hy => by have := hB y (by simp [hy]); omega]
    unfold putL
    rw [h1]; simp
theorem putL_old {A B : List Order} {a o : Order} (hA : ∀ y ∈ A, y.unit < o.unit) (ha : a.unit = o.unit) (hB : ∀ y ∈ B, o.unit < y.unit) : putL (A ++ a :: B) o = A ++ [o] ++ B := by
  have h2 : stepP o (A, false) a = (A ++ [o], true) := step_new ha
  have h1 : putF (A ++ a :: B) o = (A ++ [o] ++ B, true) := by
    unfold putF
    rw [List.foldl_append, foldP_lo hA, List.nil_append, List.foldl_cons, h2, foldP_hi fun y hy => by have := hB y hy; omega]
  unfold putL
  rw [h1]; simp
theorem putF_snoc {l : List Order} {a o : Order} : putF (l ++ [a]) o = stepP o (putF l o) a := by simp [putF]
theorem putF_len (l : List Order) (o : Order) : (putF l o).1.length ≤ 2 * l.length := by
  unfold putF
  have key : ∀ (l : List Order) (z : List Order × Bool), (l.foldl (stepP o) z).1.length ≤ z.1.length + 2 * l.length := by
    intro l
    induction l with
    | nil => intro z; simp
    | cons a l ih =>
      intro z
      have h1 := ih (stepP o z a)
      have h2 : (stepP o z a).1.length ≤ z.1.length + 2 := by
        unfold stepP
        split <;> split <;> simp
      rw [List.foldl_cons, List.length_cons]
      omega
  have := key l ([], false)
  simpa using this
theorem put_at {b : Board} {s : State} {x : Sheet} (hx : SheetOK b s x) {i : Nat} {a o : Order} (ha : x.orders[i]? = some a) (hu : a.unit = o.unit) : putL x.orders o = x.orders.set i o := by
  have hlt := (List.getElem?_eq_some_iff.1 ha).1
  have e1 : x.orders = x.orders.take i ++ (a :: x.orders.drop (i + 1)) := by
    have hd : x.orders[i] = a := (List.getElem?_eq_some_iff.1 ha).2
    rw [← hd]; simp
  have h := putL_old (A := x.orders.take i) (B := x.orders.drop (i + 1)) (a := a) (o := o) (fun y hy => ?_) hu (fun y hy => ?_)
  · rw [← e1] at h
    rw [h, List.set_eq_take_append_cons_drop, if_pos hlt]
    simp
  · obtain ⟨j, hj⟩ := List.mem_iff_getElem?.1 hy
    rw [List.getElem?_take] at hj
    split at hj
    · have := asc_all hx (show j < i by omega) hj ha
      omega
    · cases hj
  · obtain ⟨j, hj⟩ := List.mem_iff_getElem?.1 hy
    rw [List.getElem?_drop] at hj
    have := asc_all hx (show i < i + 1 + j by omega) ha hj
    omega
theorem put_before {b : Board} {s : State} {x : Sheet} (hx : SheetOK b s x) {i : Nat} {o : Order} (hn : ¬ HasO x.orders o.unit) (hlo : ∀ y ∈ x.orders.take i, y.unit < o.unit) (hhi : ∀ a, x.orders[i]? = some a → ¬ a.unit < o.unit) :
    putL x.orders o = x.orders.take i ++ [o] ++ x.orders.drop i := by
  have h := putL_new (A := x.orders.take i) (B := x.orders.drop i) (o := o) hlo (fun y hy => ?_)
  · rwa [List.take_append_drop] at h
  · have hne : ¬ y.unit = o.unit := fun hh => hn ⟨y, List.mem_of_mem_drop hy, hh⟩
    obtain ⟨j, hj⟩ := List.mem_iff_getElem?.1 hy
    rw [List.getElem?_drop] at hj
    have hlt := (List.getElem?_eq_some_iff.1 hj).1
    have h2 : x.orders[i]? = some x.orders[i] := List.getElem?_eq_getElem (by omega)
    have h3 := hhi _ h2
    cases j with
    | zero => rw [Nat.add_zero] at hj; rw [hj] at h2; cases h2; omega
    | succ j =>
      have := asc_all hx (show i < i + (j + 1) by omega) h2 hj
      omega
/-- The sheet with the order on it. -/
noncomputable def putX (x : Sheet) (o : Order) : Sheet := ⟨x.side, putL x.orders o⟩
def PutOK (b : Board) (s : State) (x : Sheet) (o : Order) : Prop := (StateOK b s ∧ SheetOK b s x) ∧ SheetOK b s (putX x o)
noncomputable def putR (b : Board) (s : State) (x : Sheet) (o : Order) : Sheet := if PutOK b s x o then putX x o else ⟨0, []⟩
theorem stepP_mem {o : Order} : ∀ (l : List Order) (z : List Order × Bool), ∀ y ∈ (l.foldl (stepP o) z).1, y ∈ z.1 ∨ y = o ∨ y ∈ l
  | [], z, y, hy => .inl hy
  | a :: l, z, y, hy => by
    rw [List.foldl_cons] at hy
    rcases stepP_mem l _ y hy with h | h | h
    · unfold stepP at h
      split at h <;> split at h
      · rcases List.mem_append.1 h with h | h
        · exact .inl h
        · simp at h; exact .inr (.inl h)
      · rcases List.mem_append.1 h with h | h
        · rcases List.mem_append.1 h with h | h
          · exact .inl h
          · simp at h; exact .inr (.inl h)
        · simp at h; exact .inr (.inr (by simp [h]))
      · exact .inl h
      · rcases List.mem_append.1 h with h | h
        · exact .inl h
        · simp at h; exact .inr (.inr (by simp [h]))
    · exact .inr (.inl h)
    · exact .inr (.inr (by simp [h]))
theorem putX_len {x : Sheet} {o : Order} (hx : LenSheet x) (h12 : x.orders.length ≤ 12) (ho : Len o.path.length) : LenSheet (putX x o) := by
  have h1 := putF_len x.orders o
  have h2 := stepP_mem (o := o) x.orders ([], false)
  have h3 : ∀ y ∈ (putF x.orders o).1, Len y.path.length := fun y hy => by
    rcases h2 y hy with h | rfl | h
    · cases h
    · exact ho
    · exact hx.o y h
  refine ⟨?_, fun y hy => ?_⟩
  · show Len (putL x.orders o).length
    unfold Len putL
    split
    · omega
    · rw [List.length_append, List.length_singleton]; omega
  · replace hy : y ∈ putL x.orders o := hy
    unfold putL at hy
    split at hy
    · exact h3 y hy
    · rcases List.mem_append.1 hy with h | h
      · exact h3 y h
      · simp at h; subst h; exact ho
theorem staleLL_app (a b : List (List D)) : staleLL (a ++ b) = staleLL a ++ staleLL b := by
  induction a with
  | nil => rfl
  | cons x a ih => simp [staleLL, ih]
theorem stale_enc (l : List Order) : staleLL (l.map (Order.enc true)) = l.map (Order.enc false) := by simp
theorem stale_snoc (l : List Order) (u a : Int) (p : List Int) : staleLL (l.map (Order.enc true) ++ [[.int .i64 u, .list true 1 (ints p), .int .i64 a]]) = l.map (Order.enc false) ++ [[.int .i64 u, .list false 1 (ints p), .int .i64 a]] := by
  rw [staleLL_app, stale_enc]
  simp [staleLL, staleL, D.stale]
theorem c_spec_PutOrder (b : Board) (s : State) (x : Sheet) (o : Order) (gb : LenB b) (gs : Len s.units.length) (gx : LenSheet x) (go : Len o.path.length) :
    C n_spec_PutOrder [BoardV false b, StateV false s, SheetV false x, OrderV false o] = some (.tup [some (.agg [.int .i64 (putR b s x o).side, .list true 3 ((putR b s x o).orders.map (Order.enc true))]), some (.one (.bool (decide (PutOK b s x o))))]) := by
  refine callC p_spec_PutOrder rfl ?_
  have e2 := c_spec_oGood b s x gb gs gx
  by_cases h2 : StateOK b s ∧ SheetOK b s x
  rotate_left
  · have h3 : ¬ PutOK b s x o := fun h => h2 h.1
    simp [xRun, a_spec_PutOrder, e2, h2, h3, putR, Order.enc]
  have h12 : x.orders.length ≤ 12 := by have := h2.2.1.2; omega
  have hX := putX_len (o := o) gx h12 go
  have e4 := c_spec_oGood b s (putX x o) gb gs hX
  have e5 := c_spec_oOwn o go
  dsimp only [OrderV, Order.enc] at e5
  simp [xRun, a_spec_PutOrder, e2, h2, Order.enc]
  refine list_loop x.orders (by omega) (fun i (_ : Unit) => [(10, .box 0 0 [.int .i64 x.side, .list true 3 ((putF (x.orders.take i) o).1.map (Order.enc true))]), (11, Bo (putF (x.orders.take i) o).2), (26, I i)]) (fun _ _ => True) default (by simp [putF]) trivial ?_ ?_
  · intro N E i a st ha hi hm ht hwi _ hN hE
    have e3 := c_spec_oOwn a (gx.o a hm)
    dsimp only [OrderV, Order.enc] at e3
    rw [ht, putF_snoc] at hN
    have hlen := putF_len (x.orders.take i) o
    rw [List.length_take] at hlen
    generalize putF (x.orders.take i) o = z at hN hlen ⊢
    obtain ⟨acc, dn⟩ := z
    dsimp only at hN hlen ⊢
    have hb : acc.length + 1 ≤ 68719476736 := by omega
    have hb2 : acc.length + 1 + 1 ≤ 68719476736 := by omega
    by_cases hd : dn = false ∧ o.unit ≤ a.unit
    · obtain ⟨rfl, hd⟩ := hd
      by_cases hc : a.unit = o.unit
      · have h1 : stepP o (acc, false) a = (acc ++ [o], true) := step_new hc
        rw [h1] at hN
        simp [bodyF, b_spec_PutOrder_0, hi, Order.enc, ha, at_of ha, hwi, hc, e3, e5, hb, hb2]
        exact hN _ st (by simp [Order.enc]) trivial
      · have h1 : stepP o (acc, false) a = (acc ++ [o] ++ [a], true) := step_both hd hc
        rw [h1] at hN
        simp [bodyF, b_spec_PutOrder_0, hi, Order.enc, ha, at_of ha, hwi, hc, hd, e3, e5, hb, hb2]
        exact hN _ st (by simp [Order.enc]) trivial
    · by_cases hc : a.unit = o.unit
      · have hdn : dn = true := by
          cases dn with
          | true => rfl
          | false => exact absurd ⟨rfl, by omega⟩ hd
        subst hdn
        have h1 : stepP o (acc, true) a = (acc, true) := step_out hc
        rw [h1] at hN
        simp [bodyF, b_spec_PutOrder_0, hi, Order.enc, ha, at_of ha, hwi, hc, e3, e5, hb, hb2]
        exact hN _ st (by simp [Order.enc]) trivial
      · cases dn with
        | true =>
          have h1 : stepP o (acc, true) a = (acc ++ [a], true) := step_own hc
          rw [h1] at hN
          simp [bodyF, b_spec_PutOrder_0, hi, Order.enc, ha, at_of ha, hwi, hc, e3, e5, hb, hb2]
          exact hN _ st (by simp [Order.enc]) trivial
        | false =>
          have hd2 : ¬ o.unit ≤ a.unit := fun h => hd ⟨rfl, h⟩
          have h1 : stepP o (acc, false) a = (acc ++ [a], false) := step_low hd2
          rw [h1] at hN
          simp [bodyF, b_spec_PutOrder_0, hi, Order.enc, ha, at_of ha, hwi, hc, hd2, e3, e5, hb, hb2]
          exact hN _ st (by simp [Order.enc]) trivial
  · intro N E st _ hE
    rw [List.take_length]
    simp [bodyF, b_spec_PutOrder_0]
    refine hE _ _ fun st => ?_
    have hlen := putF_len x.orders o
    have hL : putL x.orders o = if (putF x.orders o).2 = true then (putF x.orders o).1 else (putF x.orders o).1 ++ [o] := rfl
    generalize hz : putF x.orders o = z at hL hlen ⊢
    obtain ⟨acc, dn⟩ := z
    dsimp only at hL hlen ⊢
    have hb : acc.length + 1 ≤ 68719476736 := by omega
    by_cases hp : SheetOK b s (putX x o)
    · have hP : PutOK b s x o := ⟨h2, hp⟩
      have hR : putR b s x o = putX x o := if_pos hP
      rw [hR, decide_eq_true hP]
      rw [decide_eq_true (⟨h2.1, hp⟩ : StateOK b s ∧ SheetOK b s (putX x o))] at e4
      dsimp only [SheetV, putX] at e4 ⊢
      cases dn with
      | true =>
        rw [if_pos rfl] at hL
        rw [hL] at e4 ⊢
        simp [e4]
      | false =>
        rw [if_neg (by simp)] at hL
        rw [hL] at e4 ⊢
        simp [Order.enc] at e4
        simp [e4, e5, hb, Order.enc, stale_snoc]
    · have hP : ¬ PutOK b s x o := fun h => hp h.2
      have hR : putR b s x o = ⟨0, []⟩ := if_neg hP
      rw [hR, decide_eq_false hP]
      rw [decide_eq_false (fun h => hp h.2 : ¬ (StateOK b s ∧ SheetOK b s (putX x o)))] at e4
      dsimp only [SheetV, putX] at e4 ⊢
      cases dn with
      | true =>
        rw [if_pos rfl] at hL
        rw [hL] at e4
        simp [e4]
      | false =>
        rw [if_neg (by simp)] at hL
        rw [hL] at e4
        simp [Order.enc] at e4
        simp [e4, e5, hb, Order.enc, stale_snoc]
end Go.Abs.W
set_option linter.unusedSimpArgs false
set_option linter.unusedVariables false
set_option maxRecDepth 100000
set_option maxHeartbeats 4000000
namespace Go.Abs.W
open Go Go.Abs Classical
attribute [-simp] Bool.decide_and
theorem c_slices_Insert (l m : List (List D)) (i : Nat) (hi : i ≤ l.length) (hm : 0 < m.length) (hb : l.length + m.length ≤ 68719476736) :
    C n_slices_Insert_impl_Order_impl_Order [.val (.one (.list true 3 l)), I i, .val (.one (.list true 3 m))] = some (.val (.one (.list true 3 (l.take i ++ m ++ l.drop i)))) :=
  callF_hand h_slices_Insert_impl_Order_impl_Order (by
    have h1 : (0 : Int) ≤ (i : Int) ∧ (i : Int) ≤ (l.length : Int) ∧ 0 < m.length ∧ l.length + m.length ≤ 68719476736 := by omega
    simp only [hInsert]
    rw [if_pos h1]
    rfl)
theorem c_impl_PutOrder (b : Board) (s : State) (x : Sheet) (o : Order) (gb : LenB b) (gs : Len s.units.length) (gx : LenSheet x) (go : Len o.path.length) :
    C n_impl_PutOrder [BoardV false b, StateV false s, SheetV false x, OrderV false o] = some (.tup [some (.agg [.int .i64 (putR b s x o).side, .list true 3 ((putR b s x o).orders.map (Order.enc true))]), some (.one (.bool (decide (PutOK b s x o))))]) := by
  refine callC p_impl_PutOrder rfl ?_
  have e2 := c_impl_hasSheet b s x gb gs gx
  by_cases h2 : StateOK b s ∧ SheetOK b s x
  rotate_left
  · have h3 : ¬ PutOK b s x o := fun h => h2 h.1
    simp [xRun, a_impl_PutOrder, e2, h2, h3, putR, Order.enc]
  have h12 : x.orders.length ≤ 12 := by have := h2.2.1.2; omega
  have hX := putX_len (o := o) gx h12 go
  have e4 := c_impl_goodSheet b s (putX x o) gb h2.1 hX
  have e5 := c_impl_cloneOrder o go
  have e6 := c_impl_cloneSheet x gx
  have e1 := c_impl_orderPlace x o.unit gx
  dsimp only [OrderV, Order.enc] at e5
  dsimp only [SheetV] at e6
  have hend : (decide (PutOK b s x o) = decide (SheetOK b s (putX x o))) := by
    by_cases hp : SheetOK b s (putX x o)
    · have hP : PutOK b s x o := ⟨h2, hp⟩
      rw [decide_eq_true hp, decide_eq_true hP]
    · have hP : ¬ PutOK b s x o := fun h => hp h.2
      rw [decide_eq_false hp, decide_eq_false hP]
  have hR : putR b s x o = if SheetOK b s (putX x o) then putX x o else ⟨0, []⟩ := by
    by_cases hp : SheetOK b s (putX x o)
    · have hP : PutOK b s x o := ⟨h2, hp⟩
      rw [if_pos hp]; exact if_pos hP
    · have hP : ¬ PutOK b s x o := fun h => hp h.2
      rw [if_neg hp]; exact if_neg hP
  rw [hend, hR]
  clear hend hR
  by_cases h1 : HasO x.orders o.unit
  · obtain ⟨i, a, ha, hu, hs⟩ := HasO_ix h1
    have h3 := firstIx_at (p := fun y : Order => y.unit = o.unit) ha hu hs
    have hlt := (List.getElem?_eq_some_iff.1 ha).1
    have hP := put_at h2.2 ha hu
    rw [h3] at e1
    have n0 : ¬ (i : Int) < 0 := by omega
    have hX2 : putX x o = ⟨x.side, x.orders.set i o⟩ := by unfold putX; rw [hP]
    rw [hX2] at e4 ⊢
    have hset : (x.orders.map (Order.enc true)).set i [.int .i64 o.unit, .list true 1 (ints o.path), .int .i64 o.attack] = (x.orders.set i o).map (Order.enc true) := by rw [List.map_set]; rfl
    dsimp only [SheetV] at e4
    generalize x.orders.set i o = L at e4 hset ⊢
    by_cases hp : SheetOK b s ⟨x.side, L⟩
    · rw [decide_eq_true hp] at e4 ⊢
      rw [if_pos hp]
      simp [xRun, a_impl_PutOrder, e1, e2, h2, n0, e6, e5, Order.enc, ha, at_of ha, hlt, hset, e4]
    · rw [decide_eq_false hp] at e4 ⊢
      rw [if_neg hp]
      simp [xRun, a_impl_PutOrder, e1, e2, h2, n0, e6, e5, Order.enc, ha, at_of ha, hlt, hset, e4]
  · have hs : ∀ y ∈ x.orders, ¬ y.unit = o.unit := fun y hy hu => h1 ⟨y, hy, hu⟩
    have h3 := firstIx_none (p := fun y : Order => y.unit = o.unit) hs
    rw [h3] at e1
    have key : ∀ i : Nat, i ≤ x.orders.length → (∀ y ∈ x.orders.take i, y.unit < o.unit) → (∀ a, x.orders[i]? = some a → ¬ a.unit < o.unit) →
        putX x o = ⟨x.side, x.orders.take i ++ [o] ++ x.orders.drop i⟩ := fun i _ hlo hhi => by unfold putX; rw [put_before h2.2 h1 hlo hhi]
    simp [xRun, a_impl_PutOrder, e1, e2, h2, e6]
    refine find_loop x.orders (by omega) 12 (fun y : Order => ¬ y.unit < o.unit) (by simp) ?_ ?_
    · intro N E i a ha hi hm hwi hs' hN hE
      by_cases hc : a.unit < o.unit
      · simp [bodyF, b_impl_PutOrder_0, hi, Order.enc, ha, at_of ha, hwi, hc]
        exact hN _ (by simp) (by simpa using hc)
      · simp [bodyF, b_impl_PutOrder_0, hi, Order.enc, ha, at_of ha, hwi, hc]
        refine hE _ _ fun st => ?_
        have hk := key i (Nat.le_of_lt hi) (fun y hy => by have := hs' y hy; omega) (fun a' ha' => by rw [ha] at ha'; cases ha'; exact hc)
        rw [hk] at e4 ⊢
        have e7 := c_slices_Insert (x.orders.map (Order.enc true)) [[.int .i64 o.unit, .list true 1 (ints o.path), .int .i64 o.attack]] i (by rw [List.length_map]; exact (Nat.le_of_lt hi)) (by simp) (by rw [List.length_map, List.length_singleton]; omega)
        have hL : (x.orders.map (Order.enc true)).take i ++ [[.int .i64 o.unit, .list true 1 (ints o.path), .int .i64 o.attack]] ++ (x.orders.map (Order.enc true)).drop i = (x.orders.take i ++ [o] ++ x.orders.drop i).map (Order.enc true) := by rw [List.map_append, List.map_append, List.map_take, List.map_drop]; rfl
        rw [hL] at e7
        dsimp only [SheetV] at e4
        generalize (x.orders.take i ++ [o] ++ x.orders.drop i) = L at e4 e7 ⊢
        by_cases hp : SheetOK b s ⟨x.side, L⟩
        · rw [decide_eq_true hp] at e4 ⊢
          rw [if_pos hp]
          simp [e5, e7, e4, Order.enc]
        · rw [decide_eq_false hp] at e4 ⊢
          rw [if_neg hp]
          simp [e5, e7, e4, Order.enc]
    · intro N E hs' hE
      simp [bodyF, b_impl_PutOrder_0]
      refine hE _ _ fun st => ?_
      have hk := key x.orders.length (Nat.le_refl _) (fun y hy => by have := hs' y (List.mem_of_mem_take hy); omega) (fun a' ha' => by have := (List.getElem?_eq_some_iff.1 ha').1; omega)
      rw [hk] at e4 ⊢
      have e7 := c_slices_Insert (x.orders.map (Order.enc true)) [[.int .i64 o.unit, .list true 1 (ints o.path), .int .i64 o.attack]] x.orders.length (by rw [List.length_map]; exact (Nat.le_refl _)) (by simp) (by rw [List.length_map, List.length_singleton]; omega)
      have hL : (x.orders.map (Order.enc true)).take x.orders.length ++ [[.int .i64 o.unit, .list true 1 (ints o.path), .int .i64 o.attack]] ++ (x.orders.map (Order.enc true)).drop x.orders.length = (x.orders.take x.orders.length ++ [o] ++ x.orders.drop x.orders.length).map (Order.enc true) := by rw [List.map_append, List.map_append, List.map_take, List.map_drop]; rfl
      rw [hL] at e7
      dsimp only [SheetV] at e4
      generalize (x.orders.take x.orders.length ++ [o] ++ x.orders.drop x.orders.length) = L at e4 e7 ⊢
      by_cases hp : SheetOK b s ⟨x.side, L⟩
      · rw [decide_eq_true hp] at e4 ⊢
        rw [if_pos hp]
        simp [e5, e7, e4, Order.enc]
      · rw [decide_eq_false hp] at e4 ⊢
        rw [if_neg hp]
        simp [e5, e7, e4, Order.enc]
theorem putR_len {b : Board} {s : State} {x : Sheet} {o : Order} (hx : LenSheet x) (ho : Len o.path.length) : LenSheet (putR b s x o) := by
  unfold putR
  split
  · rename_i h
    exact putX_len hx (by have := h.1.2.1.2; omega) ho
  · exact ⟨by simp [Len], by simp⟩
theorem putF_cnt (o : Order) : ∀ (l : List Order) (z : List Order × Bool), cntO (l.foldl (stepP o) z).1 + (if (l.foldl (stepP o) z).2 = true then 0 else 1 + o.path.length) ≤ cntO z.1 + (if z.2 = true then 0 else 1 + o.path.length) + cntO l
  | [], z => Nat.le_add_right _ _
  | a :: l, z => by
    have h0 : ∀ (r : List Order) (y : Order), cntO (r ++ [y]) = cntO r + (1 + y.path.length) := fun r y => by
      unfold cntO
      rw [sumN_app, sumN_one, List.length_append, List.length_singleton]; omega
    have h1 : cntO (a :: l) = 1 + a.path.length + cntO l := by
      have h0 : sumN (fun o : Order => o.path.length) (a :: l) = a.path.length + sumN (fun o : Order => o.path.length) l := by rw [show a :: l = [a] ++ l from rfl, sumN_app, sumN_one]
      unfold cntO
      rw [h0, List.length_cons]; omega
    have ih := putF_cnt o l (stepP o z a)
    rw [List.foldl_cons]
    refine Nat.le_trans ih ?_
    rw [h1]
    obtain ⟨acc, dn⟩ := z
    cases dn with
    | true =>
      by_cases hc : a.unit = o.unit
      · rw [step_out hc]; simp <;> omega
      · rw [step_own hc]; simp [h0] <;> omega
    | false =>
      by_cases hc : a.unit = o.unit
      · rw [step_new hc]; simp [h0] <;> omega
      · by_cases hd : o.unit ≤ a.unit
        · rw [step_both hd hc]
          have e1 := h0 (acc ++ [o]) a
          have e2 := h0 acc o
          simp only [Bool.false_eq_true, if_false, if_true, e1, e2]; omega
        · rw [step_low hd]; simp [h0] <;> omega
theorem putR_cnt {b : Board} {s : State} {x : Sheet} {o : Order} : cntSheet (putR b s x o) ≤ cntSheet x + (1 + o.path.length) := by
  unfold putR
  split
  · show cntO (putL x.orders o) ≤ cntO x.orders + (1 + o.path.length)
    have h := putF_cnt o x.orders ([], false)
    have h2 : cntO ([] : List Order) = 0 := rfl
    have h0 : ∀ (r : List Order) (y : Order), cntO (r ++ [y]) = cntO r + (1 + y.path.length) := fun r y => by
      unfold cntO
      rw [sumN_app, sumN_one, List.length_append, List.length_singleton]; omega
    unfold putL putF
    split
    · rename_i hh
      rw [if_pos hh] at h
      simp only [Bool.false_eq_true, if_false, h2] at h
      omega
    · rename_i hh
      rw [if_neg hh] at h
      simp only [Bool.false_eq_true, if_false, h2] at h
      rw [h0]; omega
  · exact Nat.zero_le _
end Go.Abs.W
