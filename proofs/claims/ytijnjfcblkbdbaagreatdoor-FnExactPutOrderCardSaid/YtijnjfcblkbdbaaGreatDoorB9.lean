import Derived.Test.YtijnjfcblkbdbaaGreatDoorB5
import Derived.Test.YtijnjfcblkbdbaaGreatDoorB7
set_option linter.unusedSimpArgs false
set_option linter.unusedVariables false
set_option maxRecDepth 100000
set_option maxHeartbeats 2000000
namespace Go.Abs.W
open Go Go.Abs Classical
attribute [-simp] Bool.decide_and
theorem c_impl_cloneSheet (x : Sheet) (hl : LenSheet x) : C n_impl_cloneSheet [SheetV false x] = some (SheetV true x) := by
  refine callC p_impl_cloneSheet rfl ?_
  have gl := hl.l
  unfold Len at gl
  simp [xRun, a_impl_cloneSheet]
  refine list_loop x.orders (by omega) (fun i (_ : Unit) => [(3, .box 0 0 [.int .i64 x.side, .list true 3 ((x.orders.take i).map (Order.enc true))]), (12, I i)]) (fun _ _ => True) default (by simp) trivial ?_ ?_
  · intro N E i a s ha hi hm ht hwi _ hN hE
    have e1 := c_impl_cloneOrder a (hl.o a hm)
    dsimp only [OrderV, Order.enc] at e1
    have hb : min i x.orders.length + 1 ≤ 68719476736 := by omega
    simp [bodyF, b_impl_cloneSheet_0, hi, Order.enc, ha, at_of ha, hwi, e1, hb]
    exact hN _ s (by simp [ht, Order.enc]) trivial
  · intro N E s _ hE
    simp [bodyF, b_impl_cloneSheet_0]
    exact hE _ _ fun st => by simp
/-- What stands in order. -/
theorem asc_of {b : Board} {s : State} {x : Sheet} (hx : SheetOK b s x) : ∀ (k : Nat) (p o : Order), x.orders[k]? = some p → x.orders[k + 1]? = some o → p.unit < o.unit := by
  intro k p o hp ho
  have hlt := (List.getElem?_eq_some_iff.1 ho).1
  have hz : codeM b s x.side x.orders (k + 1) = 0 := by
    have h2 := hx.2
    unfold firstBad at h2
    split at h2
    · rename_i k hk
      have := List.find?_some hk
      simp only [decide_eq_true_eq] at this
      exact absurd h2 this
    · rename_i hk
      have := List.find?_range_eq_none.1 hk (k + 1) hlt
      simpa using this
  unfold codeM at hz
  rw [ho] at hz
  dsimp only at hz
  split at hz
  · cases hz
  · rename_i h
    by_cases hc : p.unit < o.unit
    · exact hc
    · exact absurd ⟨by rw [hz]; decide, k, p, rfl, hp, by omega⟩ h
theorem asc_all {b : Board} {s : State} {x : Sheet} (hx : SheetOK b s x) {i j : Nat} {p o : Order} (hij : i < j) (hp : x.orders[i]? = some p) (ho : x.orders[j]? = some o) : p.unit < o.unit := by
  induction j generalizing o with
  | zero => omega
  | succ j ih =>
    by_cases h : i = j
    · subst h; exact asc_of hx i p o hp ho
    · have hlt := (List.getElem?_eq_some_iff.1 ho).1
      have hq : x.orders[j]? = some x.orders[j] := List.getElem?_eq_getElem (by omega)
      have h1 := ih (by omega) hq
      have h2 := asc_of hx j _ o hq ho
      omega
/-- The orders of the other units. -/
noncomputable def dropM (l : List Order) (u : Int) : List Order := l.filter fun o => decide (¬ o.unit = u)
theorem filter_all {l : List Order} {u : Int} (h : ∀ o ∈ l, ¬ o.unit = u) : dropM l u = l := by
  unfold dropM
  exact List.filter_eq_self.2 fun o ho => by simpa using h o ho
theorem dropM_app (l r : List Order) (u : Int) : dropM (l ++ r) u = dropM l u ++ dropM r u := by simp [dropM]
theorem drop_at {b : Board} {s : State} {x : Sheet} (hx : SheetOK b s x) {i : Nat} {a : Order} {u : Int} (ha : x.orders[i]? = some a) (hu : a.unit = u) : dropM x.orders u = x.orders.take i ++ x.orders.drop (i + 1) := by
  have hlt := (List.getElem?_eq_some_iff.1 ha).1
  have e1 : x.orders = x.orders.take i ++ (a :: x.orders.drop (i + 1)) := by
    have hd : x.orders[i] = a := (List.getElem?_eq_some_iff.1 ha).2
    rw [← hd]; simp
  have e2 : dropM x.orders u = dropM (x.orders.take i) u ++ dropM (x.orders.drop (i + 1)) u := by
    conv => lhs; rw [e1]
    rw [dropM_app, show a :: x.orders.drop (i + 1) = [a] ++ x.orders.drop (i + 1) from rfl, dropM_app]
    have : dropM [a] u = [] := by simp [dropM, hu]
    rw [this]; rfl
  rw [e2, filter_all fun o ho => ?_, filter_all fun o ho => ?_]
  · obtain ⟨j, hj⟩ := List.mem_iff_getElem?.1 ho
    rw [List.getElem?_drop] at hj
    have := asc_all hx (show i < i + 1 + j by omega) ha hj
    omega
  · obtain ⟨j, hj⟩ := List.mem_iff_getElem?.1 ho
    rw [List.getElem?_take] at hj
    split at hj
    · have := asc_all hx (show j < i by omega) hj ha
      omega
    · cases hj
theorem HasO_ix {l : List Order} {u : Int} (h : HasO l u) : ∃ (i : Nat) (a : Order), l[i]? = some a ∧ a.unit = u ∧ ∀ b ∈ l.take i, ¬ b.unit = u := by
  have hsome : (l.findIdx? fun o => decide (o.unit = u)).isSome := by
    rw [List.findIdx?_isSome]
    obtain ⟨o, ho, hu⟩ := h
    exact List.any_eq_true.2 ⟨o, ho, by simpa using hu⟩
  obtain ⟨i, hi⟩ := Option.isSome_iff_exists.1 hsome
  obtain ⟨h1, h2, h3⟩ := List.findIdx?_eq_some_iff_getElem.1 hi
  refine ⟨i, l[i], List.getElem?_eq_getElem h1, by simpa using h2, fun b hb => ?_⟩
  obtain ⟨j, hj, rfl⟩ := List.mem_iff_getElem.1 hb
  rw [List.length_take] at hj
  have := h3 j (by omega)
  simpa using this
/-- The sheet with an order dropped. -/
noncomputable def dropR (b : Board) (s : State) (x : Sheet) (u : Int) : Sheet := if HasO x.orders u ∧ StateOK b s ∧ SheetOK b s x then ⟨x.side, dropM x.orders u⟩ else ⟨0, []⟩
theorem dropR_len {b : Board} {s : State} {x : Sheet} {u : Int} (hl : LenSheet x) : LenSheet (dropR b s x u) := by
  unfold dropR
  split
  · exact ⟨Nat.le_trans (List.length_filter_le ..) hl.l, fun o ho => hl.o o (List.mem_filter.1 ho).1⟩
  · exact ⟨by simp [Len], by simp⟩
theorem dropR_cnt {b : Board} {s : State} {x : Sheet} {u : Int} : cntSheet (dropR b s x u) ≤ cntSheet x := by
  unfold dropR
  split
  · have key : ∀ l : List Order, cntO (dropM l u) ≤ cntO l := by
      intro l
      induction l with
      | nil => simp [dropM]
      | cons o l ih =>
        have h1 : cntO (o :: l) = 1 + o.path.length + cntO l := by
          have h0 : sumN (fun o : Order => o.path.length) (o :: l) = o.path.length + sumN (fun o : Order => o.path.length) l := by rw [show o :: l = [o] ++ l from rfl, sumN_app, sumN_one]
          unfold cntO
          rw [h0, List.length_cons]
          omega
        have h2 : dropM (o :: l) u = dropM [o] u ++ dropM l u := dropM_app [o] l u
        by_cases hc : o.unit = u
        · have h3 : dropM [o] u = [] := by simp [dropM, hc]
          rw [h2, h3, List.nil_append]; omega
        · have h3 : dropM [o] u = [o] := by simp [dropM, hc]
          have h4 : cntO ([o] ++ dropM l u) = 1 + o.path.length + cntO (dropM l u) := by
            unfold cntO
            rw [sumN_app, sumN_one, List.length_append, List.length_singleton]
            omega
          rw [h2, h3, h4, h1]; omega
    exact key x.orders
  · exact Nat.zero_le _
end Go.Abs.W
