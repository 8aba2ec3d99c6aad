import Derived.Test.YtijnjfcblkbdbaaGreatDoorB12
set_option linter.unusedSimpArgs false
set_option linter.unusedVariables false
set_option maxRecDepth 100000
set_option maxHeartbeats 4000000
namespace Go.Abs.W
open Go Go.Abs Classical
attribute [-simp] Bool.decide_and
theorem mid_at {l : List UInt8} {i : Nat} {a : List UInt8} (ha : (cutAt 10 l)[i]? = some a) (h0 : 0 < i) (h1 : i + 1 < (cutAt 10 l).length) : (midL l)[i - 1]? = some a := by
  unfold midL
  rw [List.getElem?_dropLast, List.getElem?_drop, show 1 + (i - 1) = i by omega, if_pos (by simp; omega)]
  exact ha
theorem mid_len (l : List UInt8) : (midL l).length = (cutAt 10 l).length - 2 := by
  unfold midL
  rw [List.length_dropLast, List.length_drop]; omega
theorem midW (l : List UInt8) : ∀ w ∈ midL l, w.length ≤ l.length := fun w hw => wordLen 10 l w (List.mem_of_mem_drop (List.dropLast_subset _ hw))
theorem backS_len {l : List UInt8} (hl : l.length ≤ 1048576) : LenSheet (backS l) := by
  have h1 := cutLen 10 l
  have h2 := mid_len l
  refine ⟨?_, fun o ho => ?_⟩
  · show Len ((midL l).filterMap ordS).length
    have := List.length_filterMap_le ordS (midL l)
    unfold Len; omega
  · replace ho : o ∈ (midL l).filterMap ordS := ho
    obtain ⟨a, ha, hao⟩ := List.mem_filterMap.1 ho
    have h3 := midW l a ha
    unfold ordS at hao
    split at hao
    · rename_i w0 w1 w2 heq
      cases hao
      have h4 := pathB_len w1
      have h5 := wordLen 32 a w1 (by rw [heq]; simp)
      show Len (pathB w1).length
      unfold Len; omega
    · cases hao
theorem ordS_none {l : List UInt8} (h : ¬ (cutAt 32 l).length = 3) : ordS l = none := by
  unfold ordS
  split
  · rename_i heq; rw [heq] at h; exact absurd rfl h
  · rfl
theorem c_spec_oParse (b : Board) (s : State) (l : List UInt8) (gb : LenB b) (gs : Len s.units.length) (hl : l.length ≤ 1048576) (hst : StateOK b s) :
    C n_spec_oParse [BoardV false b, StateV false s, St (bs l)] = some (.tup [some (.agg [.int .i64 (parR b s l).side, .list true 3 ((parR b s l).orders.map (Order.enc true))]), some (.one (.bool (decide (ParOK b s l))))]) := by
  refine callC p_spec_oParse rfl ?_
  have e1 := c_spec_l1Split l 10 hl
  obtain ⟨h, rest, hlines⟩ := cut_cons 10 l
  have hh : h.length ≤ 1048576 := by
    have := wordLen 10 l h (by rw [hlines]; simp)
    omega
  have e2 := c_spec_l1Split h 32 hh
  obtain ⟨k, hk⟩ : ∃ k, (cutAt 32 h).length = k + 1 := by
    have := cutAt_ne 32 h
    cases hc : cutAt 32 h with
    | nil => exact absurd hc this
    | cons x r => exact ⟨r.length, rfl⟩
  obtain ⟨wl, hwl⟩ : ∃ wl, (cutAt 32 h)[k]? = some wl := ⟨_, List.getElem?_eq_getElem (by omega)⟩
  have hlast : (cutAt 32 h).getLastD [] = wl := by
    rw [List.getLastD_eq_getLast?, List.getLast?_eq_getElem?, hk, Nat.add_sub_cancel, hwl]; rfl
  have e3 := c_spec_l1Read wl (by
    have := wordLen 32 h wl (List.mem_of_getElem? hwl)
    omega)
  have hside : (backS l).side = readP wl := by
    unfold backS
    rw [hlines, List.headD_cons, hlast]
  have hk2 : k ≤ 1048576 := by
    have := cutLen 32 h
    omega
  have hR2l : (strR ((cutAt 32 h).map bs)).length = k + 1 := by rw [strR_length, List.length_map, hk]
  have hR2a := strR_at hwl
  have hwk : IntKind.i64.wrap (k : Int) = k := wrap_small (by omega) (by omega)
  have hX := backS_len hl
  have e4 := c_spec_oGood b s (backS l) gb gs hX
  have hcl := cutLen 10 l
  have hml := mid_len l
  have ho : (backS l).orders = (midL l).filterMap ordS := rfl
  have hn1 : 1 ≤ (cutAt 10 l).length := by rw [hlines]; simp
  have hR1 : (strR ((cutAt 10 l).map bs))[0]? = some [D.str (bs h)] := by rw [hlines]; rfl
  have hR1l : (strR ((cutAt 10 l).map bs)).length = (cutAt 10 l).length := by rw [strR_length, List.length_map]
  have hR1a : ∀ {i : Nat} {a : List UInt8}, (cutAt 10 l)[i]? = some a → (strR ((cutAt 10 l).map bs))[i]? = some [D.str (bs a)] := fun ha => strR_at ha
  have q10 : ((10 : UInt8).toNat : Int) = 10 := rfl
  have q32 : ((32 : UInt8).toNat : Int) = 32 := rfl
  dsimp only [StrsV, Byt] at e1 e2
  rw [q10] at e1
  rw [q32] at e2
  generalize strR ((cutAt 32 h).map bs) = R2 at e2 hR2l hR2a
  generalize strR ((cutAt 10 l).map bs) = R1 at e1 hR1 hR1l hR1a
  have hp1 : 0 < (cutAt 10 l).length := by omega
  simp [xRun, a_spec_oParse, e1, hR1, at_of hR1, hp1, e2, hR2l, hwk, hR2a, at_of hR2a, e3, hR1l]
  refine list_loop (cutAt 10 l) (by omega) (fun i (acc : List Order) => [(10, .box 0 0 [.int .i64 (readP wl), .list true 3 (acc.map (Order.enc true))]), (31, I (i : Int))])
    (fun i acc => acc = ((midL l).take (i - 1)).filterMap ordS) [] (by simp) (by simp) ?_ ?_
  · intro N E i a acc ha hi hm ht hwi hacc hN hE
    have hR := hR1a ha
    have haccl : acc.length ≤ 1048577 := by
      rw [hacc]
      have h1 := List.length_filterMap_le ordS ((midL l).take (i - 1))
      rw [List.length_take] at h1
      omega
    have hb : acc.length + 1 ≤ 68719476736 := by omega
    have hwn : IntKind.i64.wrap (((cutAt 10 l).length : Int) - 1) = ((cutAt 10 l).length : Int) - 1 := wrap_id (by omega) (by omega)
    cases i with
    | zero =>
      have hw1 : IntKind.i64.wrap 1 = 1 := rfl
      have hp0 : 0 < (cutAt 10 l).length := hi
      simp [bodyF, b_spec_oParse_1, hR1l, hp0, hR, at_of hR, hw1]
      exact hN _ acc (by simp) (by simpa using hacc)
    | succ i =>
      have hi0 : ¬ (i + 1) = 0 := by omega
      generalize hj : i + 1 = j at *
      by_cases hlst : (j : Int) = ((cutAt 10 l).length : Int) - 1
      · have hq : ((j : Int) = ((cutAt 10 l).length : Int) - 1) = True := eq_true hlst
        simp [bodyF, b_spec_oParse_1, hR1l, hi, hR, at_of hR, hi0, hwn, hq, hwi]
        refine hN _ acc (by simp) ?_
        rw [hacc, List.take_of_length_le (by omega), List.take_of_length_le (by omega)]
      · have haw : a.length ≤ 1048576 := by
          have := wordLen 10 l a hm
          omega
        have e5 := c_spec_l1Split a 32 haw
        dsimp only [StrsV, Byt] at e5
        rw [q32] at e5
        have hmid := mid_at ha (by omega) (by omega)
        by_cases h3 : (cutAt 32 a).length = 3
        rotate_left
        · have hno : ¬ ParOK b s l := fun hp => by
            obtain ⟨g1, g2, g3, g4⟩ := par_mid hp
            have hmem := List.mem_of_getElem? hmid
            rw [g1] at hmem
            obtain ⟨o, ho, rfl⟩ := List.mem_map.1 hmem
            have := ordS_body (g4 o ho)
            rw [ordS_none h3] at this
            cases this
          have hR3l : ¬ (((strR ((cutAt 32 a).map bs)).length : Nat) : Int) = 3 := by rw [strR_length, List.length_map]; omega
          generalize strR ((cutAt 32 a).map bs) = R3 at e5 hR3l
          simp [bodyF, b_spec_oParse_1, hR1l, hi, hR, at_of hR, hi0, hwn, hlst, e5, hR3l]
          exact hE _ _ fun st => by simp [par_no hno, hno]
        · obtain ⟨w0, w1, w2, hw⟩ := len3 h3
          have hao : ordS a = some ⟨readP w0, pathB w1, readP w2⟩ := by unfold ordS; rw [hw]
          have hlen : ∀ w ∈ [w0, w1, w2], w.length ≤ 1048576 := fun w hw' => by
            have := wordLen 32 a w (by rw [hw]; exact hw')
            omega
          have r0 := c_spec_l1Read w0 (hlen w0 (by simp))
          have r2 := c_spec_l1Read w2 (hlen w2 (by simp))
          have hl1 := hlen w1 (by simp)
          rw [hw] at e5
          simp only [List.map_cons, List.map_nil, strR] at e5
          have hstep : acc ++ [⟨readP w0, pathB w1, readP w2⟩] = ((midL l).take (j + 1 - 1)).filterMap ordS := by
            rw [hacc, ← hj, Nat.add_sub_cancel, Nat.add_sub_cancel, List.take_add_one, show i = j - 1 by omega, hmid, List.filterMap_append]
            simp [hao]
          have hfin : ∀ o : Order, o = ⟨readP w0, pathB w1, readP w2⟩ → acc.map (Order.enc true) ++ [[.int .i64 (readP w0), .list true 1 (ints (pathB w1)), .int .i64 (readP w2)]] = (acc ++ [o]).map (Order.enc true) := fun o ho => by rw [ho]; simp [Order.enc]
          have hfin := hfin _ rfl
          have c45 : (⟨#[45]⟩ : ByteArray) = bs [45] := rfl
          by_cases hp : w1 = [45]
          · subst hp
            have hP : pathB [45] = [] := rfl
            rw [hP] at hfin hstep
            rw [show ints [] = [] from rfl] at hfin
            simp [bodyF, b_spec_oParse_1, hR1l, hi, hR, at_of hR, hi0, hwn, hlst, e5, r0, r2]
            refine list_loopR ([45] : List UInt8) (by simp) (fun i (_ : Unit) => [(14, I (i : Int))]) (fun i _ => i = 0) default (by simp) rfl ?_ ?_
            · intro N2 E2 i2 x s2 ha2 hi2 hm2 ht2 hwi2 h00 hN2 hE2
              subst h00
              simp [bodyF, b_spec_oParse_0, bs_size, c45]
              refine hE2 _ _ fun st => ?_
              simp [hwi, hb, hfin, -List.map_append]
              exact hN _ (acc ++ [⟨readP w0, [], readP w2⟩]) (by simp [hfin]) hstep
            · intro N2 E2 s2 h00 _
              cases h00
          · have hP : pathB w1 = w1.map fun c => (c.toNat : Int) - 48 := by unfold pathB; rw [if_neg hp]
            have hp' : ¬ bs w1 = bs [45] := fun h => hp (bs_inj h)
            rw [hP] at hfin hstep
            simp [bodyF, b_spec_oParse_1, hR1l, hi, hR, at_of hR, hi0, hwn, hlst, e5, r0, r2]
            refine list_loopR w1 (by omega) (fun i (_ : Unit) => [(13, .box 0 0 [.int .i64 (readP w0), .list true 1 (ints ((w1.take i).map fun c => (c.toNat : Int) - 48)), .int .i64 (readP w2)]), (14, I (i : Int))]) (fun _ _ => True) default (by simp [ints_nil]) trivial ?_ ?_
            · intro N2 E2 i2 x s2 ha2 hi2 hm2 ht2 hwi2 _ hN2 hE2
              have hcv : IntKind.i64.wrap (x.toNat : Int) = (x.toNat : Int) := wrap_small (by omega) (by have := x.toNat_lt; omega)
              have hsb : IntKind.i64.wrap ((x.toNat : Int) - 48) = (x.toNat : Int) - 48 := by rw [IntKind.wrap_i64]; have := x.toNat_lt; omega
              have f4 : ints ((w1.take (i2 + 1)).map fun c => (c.toNat : Int) - 48) = ints ((w1.take i2).map fun c => (c.toNat : Int) - 48) ++ [[.int .i64 ((x.toNat : Int) - 48)]] := by rw [ht2]; simp [ints]
              have f3 : (ints ((w1.take i2).map fun c => (c.toNat : Int) - 48)).length + 1 ≤ 68719476736 := by rw [ints_length, List.length_map, List.length_take]; omega
              generalize ints ((w1.take i2).map fun c => (c.toNat : Int) - 48) = RS at f3 f4 ⊢
              simp [bodyF, b_spec_oParse_0, hi2, ha2, at_of ha2, hwi2, bs_size, hcv, hsb, f3, c45, hp']
              exact hN2 _ s2 (by simp [f4, -List.map_take]) trivial
            · intro N2 E2 s2 _ hE2
              rw [List.take_length]
              simp [bodyF, b_spec_oParse_0, bs_size]
              refine hE2 _ _ fun st => ?_
              simp [hwi, hb, hfin, -List.map_append]
              exact hN _ (acc ++ [⟨readP w0, w1.map fun c => (c.toNat : Int) - 48, readP w2⟩]) (by simp [hfin]) hstep
  · intro N E acc hacc hE
    have hB : backS l = ⟨readP wl, acc⟩ := by
      have h1 : acc = (backS l).orders := by rw [hacc, List.take_of_length_le (by omega), ho]
      rw [← hside, h1]
    have hpar : parR b s l = if ParOK b s l then ⟨readP wl, acc⟩ else ⟨0, []⟩ := by unfold parR; rw [hB]
    have hok : ParOK b s l ↔ SheetOK b s ⟨readP wl, acc⟩ ∧ sheetB ⟨readP wl, acc⟩ = l := by
      unfold ParOK; rw [hB]; exact ⟨fun h => h.2, fun h => ⟨hst, h⟩⟩
    rw [hB] at e4
    simp [bodyF, b_spec_oParse_1, hR1l]
    refine hE _ _ fun st => ?_
    by_cases hg : SheetOK b s ⟨readP wl, acc⟩
    rotate_left
    · have hno : ¬ ParOK b s l := fun h => hg (hok.1 h).1
      have hg2 : ¬ (StateOK b s ∧ SheetOK b s ⟨readP wl, acc⟩) := fun h => hg h.2
      rw [decide_eq_false hg2] at e4
      dsimp only [SheetV] at e4
      rw [hpar, if_neg hno, decide_eq_false hno]
      simp [e4]
    · rw [decide_eq_true (⟨hst, hg⟩ : StateOK b s ∧ SheetOK b s ⟨readP wl, acc⟩)] at e4
      obtain ⟨g1, g2⟩ := sheet_parts hst hg
      have e6 := c_spec_oText ⟨readP wl, acc⟩ g1 (by have := hg.1.2; omega) g2
      dsimp only [SheetV] at e4 e6
      by_cases htx : sheetB ⟨readP wl, acc⟩ = l
      · have hyes : ParOK b s l := hok.2 ⟨hg, htx⟩
        rw [htx] at e6
        rw [hpar, if_pos hyes, decide_eq_true hyes]
        simp [e4, e6]
      · have hno : ¬ ParOK b s l := fun h => htx (hok.1 h).2
        have htx' : ¬ bs (sheetB ⟨readP wl, acc⟩) = bs l := fun h => htx (bs_inj h)
        generalize bs (sheetB ⟨readP wl, acc⟩) = T at e6 htx'
        rw [hpar, if_neg hno, decide_eq_false hno]
        simp [e4, e6, htx']
end Go.Abs.W
