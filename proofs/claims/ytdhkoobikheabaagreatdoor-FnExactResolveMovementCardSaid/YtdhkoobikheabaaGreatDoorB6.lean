import Derived.Test.YtdhkoobikheabaaGreatDoorB3
set_option linter.unusedSimpArgs false
set_option linter.unusedVariables false
set_option maxRecDepth 100000
set_option maxHeartbeats 2000000
namespace Go.Abs.W
open Go Go.Abs Classical
attribute [-simp] Bool.decide_and
abbrev OrdersV (o : Bool) (l : List Order) : AV := Rows o 3 (l.map (Order.enc o))
def WideO (l : List Order) : Prop := Wide l.length ∧ ∀ o ∈ l, Wide o.path.length
def LenO (l : List Order) : Prop := Len l.length ∧ ∀ o ∈ l, Len o.path.length
def cntO (l : List Order) : Nat := l.length + sumN (fun o : Order => o.path.length) l
structure LenSheet (x : Sheet) : Prop where
  l : Len x.orders.length
  o : ∀ a ∈ x.orders, Len a.path.length
def cntSheet (x : Sheet) : Nat := cntO x.orders
theorem LenO_of {l : List Order} (h : cntO l ≤ 1048576) : LenO l := by
  unfold cntO at h
  refine ⟨by unfold Len; omega, fun a ha => ?_⟩
  have := sumN_mem (fun o : Order => o.path.length) ha
  unfold Len; omega
theorem LenSheet_of {x : Sheet} (h : cntSheet x ≤ 1048576) : LenSheet x := ⟨(LenO_of h).1, (LenO_of h).2⟩
theorem c_laws_szOrderS (l : List Order) (n : Int) (hn : Left n) (hl : WideO l) : C n_laws_szOrderS [OrdersV false l, I n] = some (I (less n (cntO l))) := by
  refine callC p_laws_szOrderS rfl ?_
  have hw := less_small hn hl.1
  unfold cntO
  by_cases hc : n < l.length
  · have h1 : n - (l.length : Int) < 0 := by omega
    have h2 : n < (l.length + sumN (fun o : Order => o.path.length) l : Nat) := by omega
    simp [xRun, a_laws_szOrderS, hw, h1, less_yes h2]
  · have h1 : ¬ n - (l.length : Int) < 0 := by omega
    simp [xRun, a_laws_szOrderS, hw, h1]
    refine list_loop l (by unfold Left at hn; omega) (fun i (s : Int) => [(1, I s), (5, I i)]) (fun i s => s = n - l.length - sumN (fun o : Order => o.path.length) (l.take i) ∧ 0 ≤ s) (n - l.length) (by simp) (by simp [sumN_nil]; omega) ?_ ?_
    · intro N E i a s ha hi hm ht hwi ⟨hs, hs0⟩ hN hE
      have hb := sumN_take (fun o : Order => o.path.length) l (i + 1)
      rw [ht, sumN_app, sumN_one] at hb
      have hz := c_laws_szOrder a s (by unfold Left at *; omega) (hl.2 a hm)
      by_cases hd : s < a.path.length
      · have h2 : n < (l.length + sumN (fun o : Order => o.path.length) l : Nat) := by omega
        rw [less_yes hd] at hz
        simp [bodyF, b_laws_szOrderS_0, hi, ha, at_of ha, Order.enc, hz]
        refine hE _ _ fun st => ?_
        simp [less_yes h2]
      · have h3 : ¬ s - (a.path.length : Int) < 0 := by omega
        rw [less_no hd] at hz
        simp [bodyF, b_laws_szOrderS_0, hi, ha, at_of ha, Order.enc, hz, h3, hwi]
        refine hN _ (s - a.path.length) (by simp) ⟨?_, by omega⟩
        rw [ht, sumN_app, sumN_one]; omega
    · intro N E s ⟨hs, hs0⟩ hE
      simp [bodyF, b_laws_szOrderS_0]
      refine hE _ _ fun st => ?_
      rw [List.take_length] at hs
      have h2 : ¬ n < (l.length + sumN (fun o : Order => o.path.length) l : Nat) := by omega
      simp [less_no h2]; omega
theorem c_laws_szSheet (x : Sheet) (n : Int) (hn : Left n) (hl : WideSheet x) : C n_laws_szSheet [SheetV false x, I n] = some (I (less n (cntSheet x))) := by
  refine callC p_laws_szSheet rfl ?_
  have h1 := c_laws_szOrderS x.orders n hn ⟨hl.n, hl.o⟩
  unfold cntSheet
  by_cases hc : n < (cntO x.orders : Nat)
  · rw [less_yes hc] at h1
    simp [xRun, a_laws_szSheet, h1, less_yes hc]
  · rw [less_no hc] at h1
    have h3 : ¬ n - (cntO x.orders : Int) < 0 := by omega
    simp [xRun, a_laws_szSheet, h1, h3, less_no hc]
theorem c_laws_toOrderS (l : List Order) (hl : LenO l) : C n_laws_toOrderS [OrdersV false l] = some (OrdersV true l) := by
  refine callC p_laws_toOrderS rfl ?_
  have h0 := make_ok hl.1
  simp [xRun, a_laws_toOrderS, h0, -List.replicate]
  refine list_loop l (by have := hl.1; unfold Len at this; omega) (fun i (_ : Unit) => [(3, .own 0 3 (fillR (Order.enc true) [.int .i64 0, .list true 1 [], .int .i64 0] l i)), (4, I i)]) (fun _ _ => True) default (by simp [fillR_zero, -List.replicate]) trivial ?_ ?_
  · intro N E i a s ha hi hm ht hwi _ hN hE
    have hset := fillR_set (Order.enc true) [.int .i64 0, .list true 1 [], .int .i64 0] ha
    rw [Order.enc] at hset
    simp [bodyF, b_laws_toOrderS_0, hi, ha, at_of ha, hwi, Order.enc, c_laws_toOrder a (hl.2 a hm), fillR_at _ _ hi, hset]
    exact hN _ s (by simp) trivial
  · intro N E s _ hE
    simp [bodyF, b_laws_toOrderS_0]
    refine hE _ _ fun st => ?_
    simp [fillR_end]
theorem c_laws_toSheet (x : Sheet) (hl : LenSheet x) : C n_laws_toSheet [SheetV false x] = some (SheetV true x) := by
  refine callC p_laws_toSheet rfl ?_
  simp [xRun, a_laws_toSheet, c_laws_toOrderS _ ⟨hl.l, hl.o⟩]
theorem c_laws_eqOrderS (l : List Order) (hl : LenO l) : C n_laws_eqOrderS [OrdersV false l, OrdersV false l] = some (Bo true) := by
  refine callC p_laws_eqOrderS rfl ?_
  simp [xRun, a_laws_eqOrderS]
  refine list_loop l (by have := hl.1; unfold Len at this; omega) (fun i (_ : Unit) => [(5, I i)]) (fun _ _ => True) default (by simp) trivial ?_ ?_
  · intro N E i a s ha hi hm ht hwi _ hN hE
    simp [bodyF, b_laws_eqOrderS_0, hi, ha, at_of ha, hwi, Order.enc, c_laws_eqOrder a (hl.2 a hm)]
    exact hN _ s (by simp) trivial
  · intro N E s _ hE
    simp [bodyF, b_laws_eqOrderS_0]
    exact hE _ _ fun st => by simp
theorem c_laws_eqSheet (x : Sheet) (hl : LenSheet x) : C n_laws_eqSheet [SheetV false x, SheetV false x] = some (Bo true) := by
  refine callC p_laws_eqSheet rfl ?_
  simp [xRun, a_laws_eqSheet, c_laws_eqOrderS _ ⟨hl.l, hl.o⟩]
/-- What is wrong with the order at a place of a sheet. -/
noncomputable def codeM (b : Board) (s : State) (side : Int) (l : List Order) (n : Nat) : Int := match l[n]? with
  | none => 0
  | some o => if ¬ faultM b s side o = 1 ∧ ∃ k p, k + 1 = n ∧ l[k]? = some p ∧ o.unit ≤ p.unit then 2 else faultM b s side o
/-- The first fault of a sheet. -/
noncomputable def firstBad (b : Board) (s : State) (x : Sheet) : Int × Int := match (List.range x.orders.length).find? (fun n => decide (¬ codeM b s x.side x.orders n = 0)) with
  | some n => (n, codeM b s x.side x.orders n)
  | none => (x.orders.length, 0)
theorem firstBad_at {b : Board} {s : State} {x : Sheet} {n : Nat} (hn : n < x.orders.length) (h0 : ∀ j, j < n → codeM b s x.side x.orders j = 0) (h1 : ¬ codeM b s x.side x.orders n = 0) : firstBad b s x = ((n : Int), codeM b s x.side x.orders n) := by
  have : (List.range x.orders.length).find? (fun n => decide (¬ codeM b s x.side x.orders n = 0)) = some n := by
    rw [List.find?_range_eq_some]
    exact ⟨by simpa using h1, by simpa using hn, fun j hj => by simpa using h0 j hj⟩
  unfold firstBad
  rw [this]
theorem firstBad_none {b : Board} {s : State} {x : Sheet} (h0 : ∀ j, j < x.orders.length → codeM b s x.side x.orders j = 0) : firstBad b s x = ((x.orders.length : Int), 0) := by
  have : (List.range x.orders.length).find? (fun n => decide (¬ codeM b s x.side x.orders n = 0)) = none := by
    rw [List.find?_range_eq_none]
    exact fun j hj => by simpa using h0 j hj
  unfold firstBad
  rw [this]
theorem fault_placed {b : Board} {s : State} {side : Int} {o : Order} : faultM b s side o = 1 ↔ ¬ Placed s side o.unit := by
  unfold faultM
  by_cases h1 : Placed s side o.unit
  · simp only [h1, not_true, if_false, iff_false]
    repeat' split
    all_goals decide
  · simp [h1]
theorem code_zero {b : Board} {s : State} {side : Int} {l : List Order} {o : Order} (h : l[0]? = some o) : codeM b s side l 0 = faultM b s side o := by
  unfold codeM; rw [h]; simp
theorem code_succ {b : Board} {s : State} {side : Int} {l : List Order} {o p : Order} {k : Nat} (h : l[k + 1]? = some o) (hp : l[k]? = some p) : codeM b s side l (k + 1) = if ¬ faultM b s side o = 1 ∧ o.unit ≤ p.unit then 2 else faultM b s side o := by
  unfold codeM; rw [h]
  have : (∃ j q, j + 1 = k + 1 ∧ l[j]? = some q ∧ o.unit ≤ q.unit) ↔ o.unit ≤ p.unit := by
    constructor
    · rintro ⟨j, q, hj, hq, hle⟩
      obtain rfl : j = k := by omega
      rw [hp] at hq; obtain rfl := Option.some.inj hq; exact hle
    · exact fun hle => ⟨k, p, rfl, hp, hle⟩
  simp only [this]
noncomputable abbrev SheetRes (b : Board) (s : State) (x : Sheet) : AV := .tup [some (.one (.int .i64 (firstBad b s x).1)), some (.one (.int .i64 (firstBad b s x).2))]
theorem c_impl_sheetFault (b : Board) (s : State) (x : Sheet) (hl : LenB b) (h : StateOK b s) (hx : LenSheet x) : C n_impl_sheetFault [BoardV false b, StateV false s, SheetV false x] = some (SheetRes b s x) := by
  refine callC p_impl_sheetFault rfl ?_
  have hxl := hx.l
  unfold Len at hxl
  have hat := fun n => firstBad_at (b := b) (s := s) (x := x) (n := n)
  have hno := firstBad_none (b := b) (s := s) (x := x)
  simp only [SheetRes]
  generalize firstBad b s x = R at *
  have hxo := hx.o
  obtain ⟨side, l⟩ := x
  simp only at *
  simp [xRun, a_impl_sheetFault]
  refine list_loop l (by omega) (fun n (_ : Unit) => [(14, I n)]) (fun n _ => ∀ j, j < n → codeM b s side l j = 0) default (by simp) (fun j hj => by omega) ?_ ?_
  · intro N E n o z ho hlt hm ht hwi hs hN hE
    have e1 := c_impl_orderFault b s side o hl h (hxo o hm)
    have hR := hat n hlt hs
    have hnext : codeM b s side l n = 0 → ∀ j, j < n + 1 → codeM b s side l j = 0 := fun h0 j hj => by
      by_cases hj2 : j < n
      · exact hs j hj2
      · obtain rfl : j = n := by omega
        exact h0
    by_cases h0 : n = 0
    · subst h0
      have hw1 : IntKind.i64.wrap 1 = 1 := by simpa using hwi
      rw [code_zero ho] at hR hnext
      generalize faultM b s side o = F at *
      by_cases h1 : F = 0
      · simp [bodyF, b_impl_sheetFault_0, hlt, ho, at_of ho, Order.enc, e1, h1, hw1]
        exact hN _ z (by simp) (hnext h1)
      · have hR1 := hR h1
        by_cases h2 : F = 1
        · simp [bodyF, b_impl_sheetFault_0, hlt, ho, at_of ho, Order.enc, e1, h2]
          exact hE _ _ fun st => by simp [hR1, h2]
        · simp [bodyF, b_impl_sheetFault_0, hlt, ho, at_of ho, Order.enc, e1, h1, h2]
          exact hE _ _ fun st => by simp [hR1]
    · obtain ⟨k, rfl⟩ : ∃ k, n = k + 1 := ⟨n - 1, by omega⟩
      obtain ⟨p, hb⟩ : ∃ p, l[k]? = some p := ⟨l[k], by simp⟩
      rw [code_succ ho hb] at hR hnext
      generalize hii : k + 1 = i at *
      have hw : IntKind.i64.wrap ((i : Int) - 1) = (k : Int) := by rw [wrap_small (by omega) (by omega)]; omega
      have hk : k < l.length := by omega
      have hp : 0 < i := by omega
      generalize faultM b s side o = F at *
      by_cases h2 : F = 1
      · have hc : (if ¬ F = 1 ∧ o.unit ≤ p.unit then 2 else F) = 1 := by simp [h2]
        rw [hc] at hR
        have hR1 := hR (by decide)
        simp [bodyF, b_impl_sheetFault_0, hlt, ho, at_of ho, Order.enc, e1, h2]
        exact hE _ _ fun st => by simp [hR1]
      by_cases h3 : o.unit ≤ p.unit
      · have hc : (if ¬ F = 1 ∧ o.unit ≤ p.unit then 2 else F) = 2 := by simp [h2, h3]
        rw [hc] at hR
        have hR1 := hR (by decide)
        simp [bodyF, b_impl_sheetFault_0, hlt, ho, at_of ho, Order.enc, e1, h2, hw, hk, hb, at_of hb, hp, h3]
        exact hE _ _ fun st => by simp [hR1]
      · have hc : (if ¬ F = 1 ∧ o.unit ≤ p.unit then 2 else F) = F := by simp [h3]
        rw [hc] at hR hnext
        by_cases h1 : F = 0
        · simp [bodyF, b_impl_sheetFault_0, hlt, ho, at_of ho, Order.enc, e1, h1, hw, hk, hb, at_of hb, hp, h3, hwi]
          exact hN _ z (by simp) (hnext h1)
        · have hR1 := hR h1
          simp [bodyF, b_impl_sheetFault_0, hlt, ho, at_of ho, Order.enc, e1, h1, h2, hw, hk, hb, at_of hb, hp, h3]
          exact hE _ _ fun st => by simp [hR1]
  · intro N E z hs hE
    have hR := hno hs
    simp [bodyF, b_impl_sheetFault_0]
    exact hE _ _ fun st => by simp [hR]
theorem c_spec_oFirst (b : Board) (s : State) (x : Sheet) (hl : LenB b) (h : StateOK b s) (hx : LenSheet x) : C n_spec_oFirst [BoardV false b, StateV false s, SheetV false x] = some (SheetRes b s x) := by
  refine callC p_spec_oFirst rfl ?_
  have hxl := hx.l
  unfold Len at hxl
  have hs12 := h.lens
  have hat := fun n => firstBad_at (b := b) (s := s) (x := x) (n := n)
  have hno := firstBad_none (b := b) (s := s) (x := x)
  simp only [SheetRes]
  generalize firstBad b s x = R at *
  have hxo := hx.o
  obtain ⟨side, l⟩ := x
  simp only at *
  simp [xRun, a_spec_oFirst]
  refine list_loop l (by omega) (fun n (_ : Unit) => [(14, I n)]) (fun n _ => ∀ j, j < n → codeM b s side l j = 0) default (by simp) (fun j hj => by omega) ?_ ?_
  · intro N E n o z ho hlt hm ht hwi hs hN hE
    have e1 := c_spec_oFault b s side o hl h (hxo o hm)
    have e2 := c_spec_oPlaced s side o.unit (by omega)
    have hR := hat n hlt hs
    have hnext : codeM b s side l n = 0 → ∀ j, j < n + 1 → codeM b s side l j = 0 := fun h0 j hj => by
      by_cases hj2 : j < n
      · exact hs j hj2
      · obtain rfl : j = n := by omega
        exact h0
    have hpl := fault_placed (b := b) (s := s) (side := side) (o := o)
    by_cases h0 : n = 0
    · subst h0
      have hw1 : IntKind.i64.wrap 1 = 1 := by simpa using hwi
      rw [code_zero ho] at hR hnext
      generalize faultM b s side o = F at *
      by_cases h2 : Placed s side o.unit
      · by_cases h1 : F = 0
        · simp [bodyF, b_spec_oFirst_0, hlt, ho, at_of ho, Order.enc, e2, h2, e1, h1, hw1]
          exact hN _ z (by simp) (hnext h1)
        · have hR1 := hR h1
          simp [bodyF, b_spec_oFirst_0, hlt, ho, at_of ho, Order.enc, e2, h2, e1, h1]
          exact hE _ _ fun st => by simp [hR1]
      · have h1 := hpl.2 h2
        have hR1 := hR (by rw [h1]; decide)
        rw [h1] at hR1
        simp [bodyF, b_spec_oFirst_0, hlt, ho, at_of ho, Order.enc, e2, h2, e1, h1]
        exact hE _ _ fun st => by simp [hR1]
    · obtain ⟨k, rfl⟩ : ∃ k, n = k + 1 := ⟨n - 1, by omega⟩
      obtain ⟨p, hb⟩ : ∃ p, l[k]? = some p := ⟨l[k], by simp⟩
      rw [code_succ ho hb] at hR hnext
      generalize hii : k + 1 = i at *
      have hw : IntKind.i64.wrap ((i : Int) - 1) = (k : Int) := by rw [wrap_small (by omega) (by omega)]; omega
      have hk : k < l.length := by omega
      have hp : 0 < i := by omega
      generalize faultM b s side o = F at *
      by_cases h2 : Placed s side o.unit
      · have h2' : ¬ F = 1 := fun hh => hpl.1 hh h2
        by_cases h3 : o.unit ≤ p.unit
        · have hc : (if ¬ F = 1 ∧ o.unit ≤ p.unit then 2 else F) = 2 := by simp [h2', h3]
          rw [hc] at hR
          have hR1 := hR (by decide)
          simp [bodyF, b_spec_oFirst_0, hlt, ho, at_of ho, Order.enc, e2, h2, hw, hk, hb, at_of hb, hp, h3]
          exact hE _ _ fun st => by simp [hR1]
        · have hc : (if ¬ F = 1 ∧ o.unit ≤ p.unit then 2 else F) = F := by simp [h3]
          rw [hc] at hR hnext
          by_cases h1 : F = 0
          · simp [bodyF, b_spec_oFirst_0, hlt, ho, at_of ho, Order.enc, e2, h2, e1, h1, hw, hk, hb, at_of hb, hp, h3, hwi]
            exact hN _ z (by simp) (hnext h1)
          · have hR1 := hR h1
            simp [bodyF, b_spec_oFirst_0, hlt, ho, at_of ho, Order.enc, e2, h2, e1, h1, hw, hk, hb, at_of hb, hp, h3]
            exact hE _ _ fun st => by simp [hR1]
      · have h1 := hpl.2 h2
        have hc : (if ¬ F = 1 ∧ o.unit ≤ p.unit then 2 else F) = 1 := by simp [h1]
        rw [hc] at hR
        have hR1 := hR (by decide)
        simp [bodyF, b_spec_oFirst_0, hlt, ho, at_of ho, Order.enc, e2, h2, e1, h1]
        exact hE _ _ fun st => by simp [hR1]
  · intro N E z hs hE
    have hR := hno hs
    simp [bodyF, b_spec_oFirst_0]
    exact hE _ _ fun st => by simp [hR]
/-- A sheet's form; a sheet without a fault. -/
def FormOK (x : Sheet) : Prop := (0 ≤ x.side ∧ x.side ≤ 1) ∧ (x.orders.length : Int) ≤ 12
def SheetOK (b : Board) (s : State) (x : Sheet) : Prop := FormOK x ∧ (firstBad b s x).2 = 0
theorem c_spec_oForm (x : Sheet) : C n_spec_oForm [SheetV false x] = some (Bo (decide (FormOK x))) := by
  refine callC p_spec_oForm rfl ?_
  by_cases h1 : 0 ≤ x.side ∧ x.side ≤ 1
  · by_cases h2 : (x.orders.length : Int) ≤ 12
    · have hP : FormOK x := ⟨h1, h2⟩
      simp [xRun, a_spec_oForm, h1, h2, hP]
    · have hP : ¬ FormOK x := fun h => h2 h.2
      simp [xRun, a_spec_oForm, h1, h2, hP]
  · have hP : ¬ FormOK x := fun h => h1 h.1
    simp [xRun, a_spec_oForm, h1, hP]
theorem c_spec_oGood (b : Board) (s : State) (x : Sheet) (hl : LenB b) (hs : Len s.units.length) (hx : LenSheet x) : C n_spec_oGood [BoardV false b, StateV false s, SheetV false x] = some (Bo (decide (StateOK b s ∧ SheetOK b s x))) := by
  refine callC p_spec_oGood rfl ?_
  have e1 := c_spec_sGood b s hl hs
  have e2 := c_spec_oForm x
  by_cases h : StateOK b s
  · by_cases h2 : FormOK x
    · have e3 := c_spec_oFirst b s x hl h hx
      by_cases h3 : (firstBad b s x).2 = 0
      · have hP : SheetOK b s x := ⟨h2, h3⟩
        simp [xRun, a_spec_oGood, e1, h, e2, h2, e3, h3, hP]
      · have hP : ¬ SheetOK b s x := fun hh => h3 hh.2
        simp [xRun, a_spec_oGood, e1, h, e2, h2, e3, h3, hP]
    · have hP : ¬ SheetOK b s x := fun hh => h2 hh.1
      simp [xRun, a_spec_oGood, e1, h, e2, h2, hP]
  · simp [xRun, a_spec_oGood, e1, h]
theorem c_impl_goodSheet (b : Board) (s : State) (x : Sheet) (hl : LenB b) (h : StateOK b s) (hx : LenSheet x) : C n_impl_goodSheet [BoardV false b, StateV false s, SheetV false x] = some (Bo (decide (SheetOK b s x))) := by
  refine callC p_impl_goodSheet rfl ?_
  have e3 := c_impl_sheetFault b s x hl h hx
  by_cases h1 : 0 ≤ x.side ∧ x.side ≤ 1
  · by_cases h2 : (x.orders.length : Int) ≤ 12
    · have h2' : ¬ (12 : Int) < x.orders.length := by omega
      by_cases h3 : (firstBad b s x).2 = 0
      · have hP : SheetOK b s x := ⟨⟨h1, h2⟩, h3⟩
        simp [xRun, a_impl_goodSheet, h1, h2', e3, h3, hP]
      · have hP : ¬ SheetOK b s x := fun hh => h3 hh.2
        simp [xRun, a_impl_goodSheet, h1, h2', e3, h3, hP]
    · have h2' : (12 : Int) < x.orders.length := by omega
      have hP : ¬ SheetOK b s x := fun h => h2 h.1.2
      simp [xRun, a_impl_goodSheet, h1, h2', hP]
  · have hP : ¬ SheetOK b s x := fun h => h1 h.1.1
    simp [xRun, a_impl_goodSheet, h1, hP]
end Go.Abs.W
