import Derived.Test.YtijnjfcblkbdbaaGreatDoorB13
set_option linter.unusedSimpArgs false
set_option linter.unusedVariables false
set_option maxRecDepth 100000
set_option maxHeartbeats 4000000
namespace Go.Abs.W
open Go Go.Abs Classical
attribute [-simp] Bool.decide_and
theorem c_spec_ParseSheet (b : Board) (s : State) (l : List UInt8) (gb : LenB b) (gs : Len s.units.length) (hl : l.length ≤ 1048576) :
    C n_spec_ParseSheet [BoardV false b, StateV false s, St (bs l)] = some (.tup [some (.agg [.int .i64 (parR b s l).side, .list true 3 ((parR b s l).orders.map (Order.enc true))]), some (.one (.bool (decide (ParOK b s l))))]) := by
  refine callC p_spec_ParseSheet rfl ?_
  have e1 := c_spec_sGood b s gb gs
  by_cases h : StateOK b s
  · have e2 := c_spec_oParse b s l gb gs hl h
    rw [decide_eq_true h] at e1
    simp [xRun, a_spec_ParseSheet, e1, e2]
  · have hno : ¬ ParOK b s l := fun hp => h hp.1
    rw [decide_eq_false h] at e1
    rw [par_no hno, decide_eq_false hno]
    simp [xRun, a_spec_ParseSheet, e1]
theorem ordI_len {a : List UInt8} : (ordI a).1.path.length ≤ a.length := by
  unfold ordI
  split
  · rename_i w0 w1 w2 heq
    have h4 := pathB_len w1
    have h5 := wordLen 32 a w1 (by rw [heq]; simp)
    exact Nat.le_trans h4 h5
  · exact Nat.zero_le _
theorem sub_rows {R : List (List D)} {n : Nat} (h : R.length = n) : True := trivial
theorem c_impl_ParseSheet (b : Board) (s : State) (l : List UInt8) (gb : LenB b) (gs : Len s.units.length) (hl : l.length ≤ 1048576) :
    C n_impl_ParseSheet [BoardV false b, StateV false s, St (bs l)] = some (.tup [some (.agg [.int .i64 (parR b s l).side, .list true 3 ((parR b s l).orders.map (Order.enc true))]), some (.one (.bool (decide (ParOK b s l))))]) := by
  refine callC p_impl_ParseSheet rfl ?_
  have e1 := c_strings_Split l 10 hl
  obtain ⟨h, rest, hlines⟩ := cut_cons 10 l
  have hh : h.length ≤ 1048576 := by
    have := wordLen 10 l h (by rw [hlines]; simp)
    omega
  have e2 := c_impl_readWords h hh
  have e3 := c_impl_fits b s gb gs
  have hcl := cutLen 10 l
  have hml := mid_len l
  have hn1 : 1 ≤ (cutAt 10 l).length := by rw [hlines]; simp
  have hR1 : (strR ((cutAt 10 l).map bs))[0]? = some [D.str (bs h)] := by rw [hlines]; rfl
  have hR1l : (strR ((cutAt 10 l).map bs)).length = (cutAt 10 l).length := by rw [strR_length, List.length_map]
  have hR1s : staleLL (strR ((cutAt 10 l).map bs)) = strR ((cutAt 10 l).map bs) := strR_stale _
  have hp1 : 0 < (cutAt 10 l).length := by omega
  have c4 : (⟨#[115, 105, 100, 101]⟩ : ByteArray) = bs [115, 105, 100, 101] := rfl
  have hgood : ParOK b s l → wordsI h = ([(parR b s l).side], true) := fun hp => by
    obtain ⟨g1, g2, g3, g4⟩ := par_mid hp
    rw [hlines, List.headD_cons] at g2
    rw [g2]; exact wordsI_head g3.1 g3.2
  have hM : (strR ((cutAt 10 l).map bs)).tail.take (midL l).length = strR ((midL l).map bs) := by
    have h1 : (midL l).length = (cutAt 10 l).length - 1 - 1 := by omega
    rw [h1]
    unfold midL strR
    rw [List.dropLast_eq_take, List.length_drop, ← List.drop_one]
    simp only [List.map_take, List.map_drop]
  have hmin : min (midL l).length ((cutAt 10 l).length - 1) = (midL l).length := by omega
  have hR3l : (strR ((midL l).map bs)).length = (midL l).length := by rw [strR_length, List.length_map]
  have hR3a : ∀ {i : Nat} {a : List UInt8}, (midL l)[i]? = some a → (strR ((midL l).map bs))[i]? = some [D.str (bs a)] := fun ha => strR_at ha
  dsimp only [StrsV] at e1
  generalize wordsI h = wi at e2 hgood
  obtain ⟨hd, hok⟩ := wi
  dsimp only at e2
  by_cases hst : StateOK b s
  rotate_left
  · have hno : ¬ ParOK b s l := fun hp => hst hp.1
    rw [par_no hno, decide_eq_false hno]
    generalize strR ((cutAt 10 l).map bs) = R1 at *
    simp [xRun, a_impl_ParseSheet, e1, hR1, at_of hR1, hp1, hR1l, e2, c4, e3, hst]
  cases hok with
  | false =>
    have hno : ¬ ParOK b s l := fun hp => by have := hgood hp; cases this
    rw [par_no hno, decide_eq_false hno]
    generalize strR ((cutAt 10 l).map bs) = R1 at *
    simp [xRun, a_impl_ParseSheet, e1, hR1, at_of hR1, hp1, hR1l, e2, c4, e3, hst]
  | true =>
    by_cases hd1 : hd.length = 1
    rotate_left
    · have hno : ¬ ParOK b s l := fun hp => hd1 (by rw [(Prod.mk.inj (hgood hp)).1]; rfl)
      have hd1' : ¬ (hd.length : Int) = 1 := by omega
      rw [par_no hno, decide_eq_false hno]
      generalize strR ((cutAt 10 l).map bs) = R1 at *
      simp [xRun, a_impl_ParseSheet, e1, hR1, at_of hR1, hp1, hR1l, e2, c4, e3, hst, ints_length, hd1, hd1']
    obtain ⟨sd, rfl⟩ : ∃ a, hd = [a] := by
      match hd, hd1 with
      | [a], _ => exact ⟨a, rfl⟩
    generalize strR ((midL l).map bs) = R3 at *
    generalize strR ((cutAt 10 l).map bs) = R1 at *
    rw [show ints [sd] = [[.int .i64 sd]] from rfl] at e2
    have hwn : IntKind.i64.wrap (((cutAt 10 l).length : Int) - 1) = ((cutAt 10 l).length : Int) - 1 := wrap_id (by omega) (by omega)
    have hmx : (if ((cutAt 10 l).length : Int) - 1 < 1 then (1 : Int) else ((cutAt 10 l).length : Int) - 1) = ((midL l).length : Int) + 1 := by split <;> omega
    have hm1 : (1 : Int) ≤ ((midL l).length : Int) + 1 := by omega
    have hm2 : ((midL l).length : Int) + 1 ≤ ((cutAt 10 l).length : Int) := by omega
    have hml2 : (midL l).length ≤ 1048576 := by omega
    have hmw := midW l
    obtain ⟨X, hX⟩ : ∃ X : Sheet, X = ⟨sd, (midL l).map fun a => (ordI a).1⟩ := ⟨_, rfl⟩
    have hXl : LenSheet X := by
      rw [hX]
      refine ⟨by show Len ((midL l).map _).length; rw [List.length_map]; exact hml2, fun o ho => ?_⟩
      obtain ⟨a, ha, rfl⟩ := List.mem_map.1 ho
      have h1 := ordI_len (a := a)
      have h2 := hmw a ha
      show Len _
      unfold Len; omega
    have hXp : ParOK b s l → X = parR b s l := fun hp => by
      obtain ⟨g1, g2, g3, g4⟩ := par_mid hp
      have h1 : sd = (parR b s l).side := by
        have := (Prod.mk.inj (hgood hp)).1
        injection this
      have h2 : ((parR b s l).orders.map bodyB).map (fun a => (ordI a).1) = (parR b s l).orders := by
        rw [List.map_map]
        conv => rhs; rw [← List.map_id (parR b s l).orders]
        refine List.map_congr_left fun o ho => ?_
        show (ordI (bodyB o)).1 = o
        rw [ordI_body (g4 o ho)]
      rw [hX, g1, h2, h1]
    have hok : ParOK b s l ↔ SheetOK b s X ∧ sheetB X = l := by
      refine ⟨fun hp => ?_, fun hg => (par_of hst hg.1 hg.2).1⟩
      have hr : parR b s l = backS l := if_pos hp
      rw [hXp hp, hr]
      exact hp.2
    have e4 := c_impl_goodSheet b s X gb hst hXl
    simp [xRun, a_impl_ParseSheet, e1, hR1, at_of hR1, hp1, hR1l, e2, c4, e3, hst, hwn, hR1s, hmx, hm1, hm2, hM, hmin, hR3l]
    refine list_loop (midL l) (by omega) (fun i (_ : Unit) => [(11, .box 0 0 [.int .i64 sd, .list true 3 (((midL l).take i).map fun a => Order.enc true (ordI a).1)]), (50, I (i : Int))])
      (fun i _ => ∀ a ∈ (midL l).take i, (ordI a).2 = true) default (by simp) (by simp) ?_ ?_
    · intro N E i a st ha hi hm ht hwi hall hN hE
      have hR := hR3a ha
      have e5 := c_impl_readOrder a (by have := hmw a hm; omega)
      by_cases hc : (ordI a).2 = true
      · rw [hc] at e5
        have f4 : ((midL l).take (i + 1)).map (fun a => Order.enc true (ordI a).1) = ((midL l).take i).map (fun a => Order.enc true (ordI a).1) ++ [Order.enc true (ordI a).1] := by rw [ht]; simp
        have f3 : (((midL l).take i).map fun a => Order.enc true (ordI a).1).length + 1 ≤ 68719476736 := by rw [List.length_map, List.length_take]; omega
        generalize ((midL l).take i).map (fun a => Order.enc true (ordI a).1) = RS at f3 f4 ⊢
        generalize (ordI a).1 = o at e5 f4
        have f5 : List.map (fun a => Order.enc true (ordI a).1) ((midL l).take (i + 1)) = RS ++ [[.int .i64 o.unit, .list true 1 (ints o.path), .int .i64 o.attack]] := f4
        dsimp only [Order.enc] at e5
        simp [bodyF, b_impl_ParseSheet_0, hi, hR, at_of hR, hwi, e5, f3]
        refine hN _ st (by simp [f5, -List.map_take]) fun w hw' => ?_
        rw [ht] at hw'
        rcases List.mem_append.1 hw' with hw' | hw'
        · exact hall w hw'
        · rw [List.mem_singleton] at hw'; subst hw'; exact hc
      · have hno : ¬ ParOK b s l := fun hp => by
          obtain ⟨g1, g2, g3, g4⟩ := par_mid hp
          rw [g1] at hm
          obtain ⟨o, ho, rfl⟩ := List.mem_map.1 hm
          rw [ordI_body (g4 o ho)] at hc
          exact hc rfl
        have hc' : (ordI a).2 = false := by simpa using hc
        rw [hc'] at e5
        generalize (ordI a).1 = o at e5
        dsimp only [Order.enc] at e5
        simp [bodyF, b_impl_ParseSheet_0, hi, hR, at_of hR, hwi, e5]
        exact hE _ _ fun st => by simp [par_no hno, hno]
    · intro N E st hall hE
      rw [List.take_length]
      have hXe : (midL l).map (fun a => Order.enc true (ordI a).1) = X.orders.map (Order.enc true) := by rw [hX, List.map_map]; rfl
      have hXs : sd = X.side := by rw [hX]
      rw [hXe, hXs]
      clear hX hXe hXs
      simp [bodyF, b_impl_ParseSheet_0]
      refine hE _ _ fun st => ?_
      by_cases hg : SheetOK b s X
      rotate_left
      · have hno : ¬ ParOK b s l := fun h => hg (hok.1 h).1
        rw [decide_eq_false hg] at e4
        dsimp only [SheetV] at e4
        rw [par_no hno, decide_eq_false hno]
        simp [e4]
      · rw [decide_eq_true hg] at e4
        obtain ⟨g1, g2⟩ := sheet_parts hst hg
        have e6 := c_impl_sheetText X g1 (by have := hg.1.2; omega) g2
        dsimp only [SheetV] at e4 e6
        by_cases htx : sheetB X = l
        · have hyes : ParOK b s l := hok.2 ⟨hg, htx⟩
          rw [htx] at e6
          rw [← hXp hyes, decide_eq_true hyes]
          simp [e4, e6]
        · have hno : ¬ ParOK b s l := fun h => htx (hok.1 h).2
          have htx' : ¬ bs (sheetB X) = bs l := fun h => htx (bs_inj h)
          generalize bs (sheetB X) = T at e6 htx'
          rw [par_no hno, decide_eq_false hno]
          simp [e4, e6, htx']
theorem parR_len {b : Board} {s : State} {l : List UInt8} (hl : l.length ≤ 1048576) : LenSheet (parR b s l) := by
  unfold parR
  split
  · exact backS_len hl
  · exact ⟨by simp [Len], by simp⟩
theorem parR_cnt {b : Board} {s : State} {l : List UInt8} : cntSheet (parR b s l) ≤ 1000 := by
  by_cases h : ParOK b s l
  rotate_left
  · rw [par_no h]; exact Nat.zero_le _
  obtain ⟨_, _, _, g4⟩ := par_mid h
  have hr : parR b s l = backS l := if_pos h
  have h12 := h.2.1.1.2
  rw [← hr] at h12
  have key : ∀ L : List Order, (∀ o ∈ L, OrdT o) → sumN (fun o : Order => o.path.length) L ≤ 9 * L.length := by
    intro L
    induction L with
    | nil => intro _; simp [sumN_nil]
    | cons o L ih =>
      intro hL
      have h1 := ih fun e he => hL e (by simp [he])
      have h2 := (hL o (by simp)).path.len
      rw [show o :: L = [o] ++ L from rfl, sumN_app, sumN_one, List.length_append, List.length_singleton]
      omega
  have h3 := key _ g4
  show cntO (parR b s l).orders ≤ 1000
  unfold cntO
  omega
end Go.Abs.W
