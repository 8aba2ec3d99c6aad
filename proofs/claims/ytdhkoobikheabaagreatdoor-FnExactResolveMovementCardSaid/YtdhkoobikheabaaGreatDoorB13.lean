import Derived.Test.YtdhkoobikheabaaGreatDoorB12
set_option linter.unusedSimpArgs false
set_option linter.unusedVariables false
set_option maxRecDepth 100000
set_option maxHeartbeats 4000000
namespace Go.Abs.W
open Go Go.Abs Classical
attribute [-simp] Bool.decide_and
theorem start_row (os : List Order) {i : Nat} {o : Order} (h : os[i]? = some o) (ht : os.take (i + 1) = os.take i ++ [o]) : ((os.take (i + 1)).map startM).map Mv.row = ((os.take i).map startM).map Mv.row ++ [[.int .i64 o.unit, .int .i64 0, .int .i64 0]] := by rw [ht]; simp [startM, Mv.row]
theorem start_kv (os : List Order) (hn : (os.map fun o => o.unit).Nodup) {i : Nat} {o : Order} (h : os[i]? = some o) (ht : os.take (i + 1) = os.take i ++ [o]) : kvSet (kvOf ((os.take i).map startM)) o.unit (i : Int) = kvOf ((os.take (i + 1)).map startM) := by
  have hi := (List.getElem?_eq_some_iff.1 h).1
  have hl : ((os.take i).map startM).length = i := by simp; omega
  have e : (os.take (i + 1)).map startM = (os.take i).map startM ++ [startM o] := by rw [ht]; simp
  have hU : Us ((os.take i).map startM ++ [startM o]) := by
    rw [← e]
    unfold Us
    rw [List.map_map]
    exact ((List.take_sublist (i + 1) os).map _).nodup hn
  have := kv_new hU rfl
  rw [hl] at this
  rw [e, ← this]
  rfl
theorem c_impl_resolveMovement (b : Board) (s : State) (os : List Order) (gb : LenB b) (hlen : os.length ≤ 24) (hZ : ZOK b s (os.map startM)) :
    C n_impl_resolveMovement [BoardV false b, StateV false s, Rows false 3 (os.map (Order.enc false))] = some (.tup [some (.agg (StateA true (runM b (wtL (os.map startM) + 1) (s, os.map startM)).1)), some (.one (.list true 3 ((runM b (wtL (os.map startM) + 1) (s, os.map startM)).2.map Mv.row)))]) := by
  refine callC p_impl_resolveMovement rfl ?_
  have hnd : (os.map fun o => o.unit).Nodup := by
    have := hZ.nd
    unfold Us at this
    rwa [List.map_map] at this
  have hsl := hZ.w.lens
  have e0 := c_impl_cloneState s (by unfold Len; omega)
  simp [xRun, a_impl_resolveMovement, rowsOf]
  refine list_loop os (by omega) (fun i (_ : Unit) => [(8, .own 0 3 (((os.take i).map startM).map Mv.row)), (27, .mapv 0 (kvOf ((os.take i).map startM))), (30, I i)]) (fun _ _ => True) default (by simp [kvOf, kvFrom]) trivial ?_ ?_
  · intro N E i o z ho hi hm ht hwi _ hN hE
    have h1 := start_row os ho ht
    have h2 := start_kv os hnd ho ht
    rw [h1, ← h2] at hN
    have hb : ((((os.take i).map startM).map Mv.row).length : Int) + 1 ≤ 68719476736 := by simp; omega
    have hb2 : (((os.take i).map startM).map Mv.row).length + 1 ≤ 68719476736 := by simp; omega
    generalize ((os.take i).map startM).map Mv.row = R at *
    generalize kvOf ((os.take i).map startM) = K at *
    simp [bodyF, b_impl_resolveMovement_0, hi, Order.enc, ho, at_of ho, rowsOf, hb, hb2, hwi]
    exact hN _ z (by simp) trivial
  · intro N E z _ hE
    rw [List.take_length]
    simp [bodyF, b_impl_resolveMovement_0]
    refine hE _ _ fun st => ?_
    simp [e0]
    obtain ⟨z0, hz0⟩ : ∃ z0, z0 = runM b (wtL (os.map startM) + 1) (s, os.map startM) := ⟨_, rfl⟩
    rw [← hz0]
    refine while_loop (fun z : Nat × State × List Mv => [(4, .box 0 0 (StateA true z.2.1)), (8, .own 0 3 (z.2.2.map Mv.row)), (27, .mapv 0 (kvOf z.2.2))])
      (fun z => ZOK b z.2.1 z.2.2 ∧ wtL z.2.2 < z.1 ∧ runM b z.1 z.2 = z0 ∧ z.2.2.map (fun m => m.o) = os)
      (fun z => z.1) (wtL (os.map startM) + 1, s, os.map startM) (by simp) ⟨hZ, Nat.lt_succ_self _, hz0.symm, by rw [List.map_map]; exact List.map_id os⟩ ?_
    rintro N E ⟨n, S, T⟩ ⟨g1, g2, g3, g4⟩ hN hE
    simp only at g1 g2 g3 g4 hN ⊢
    obtain ⟨n, rfl⟩ : ∃ m, n = m + 1 := ⟨n - 1, by omega⟩
    have hkl : (kvOf T).length = liveN T := kvFrom_length 0 T
    have hTl : T.length = os.length := by rw [← g4, List.length_map]
    by_cases hl : liveN T = 0
    · rw [runM_off hl] at g3
      subst g3
      have hkl0 : ¬ 0 < (kvOf T).length := by omega
      generalize kvOf T = K at *
      generalize T.map Mv.row = R at *
      simp [bodyF, b_impl_resolveMovement_4, hkl0]
      exact hE _ _ fun st => by simp
    have hl' : 0 < (kvOf T).length := by omega
    simp [bodyF, b_impl_resolveMovement_4, hl', rowsOf]
    have hmo : ∀ m, (markOf b S m).o = m.o := markOf_o b S
    have hAle := attsM_le b S T
    refine list_loopR T (by omega) (fun i (_ : Unit) => [(8, .own 0 3 ((upto (markOf b S) T i).map Mv.row)), (12, .own 0 3 ((attsM b S (T.take i)).map Attempt.enc)), (27, .mapv 0 (kvOf (upto (markOf b S) T i))), (54, I i)]) (fun _ _ => True) default (by simp [upto_zero, attsM, hTl]) trivial ?_ ?_
    · intro N2 E2 i m z hm hi hmm ht hwi _ hN2 hE2
      have hk := g1.mv m hmm
      have hoi : os[i]? = some m.o := by rw [← g4, List.getElem?_map, hm]; rfl
      have hio : i < os.length := by omega
      have hrow := row_at (upto_at (f := markOf b S) hm)
      have hrowg := row_get (upto_at (f := markOf b S) hm)
      have hrl : i < (upto (markOf b S) T i).length := by rw [upto_length]; exact hi
      have hkv := kv_at (g1.nd.upto hmo i) (upto_at (f := markOf b S) hm)
      have e1 := c_impl_attemptOf b S m.o m.steps gb g1.w hk.ord
      have hset := upto_set (f := markOf b S) hm
      have hoff : ∀ m', m.act = true → m'.act = false → kvDel (kvOf (upto (markOf b S) T i)) m.o.unit = kvOf ((upto (markOf b S) T i).set i m') := fun m' ha ha' => kv_off (g1.nd.upto hmo i) (upto_at (f := markOf b S) hm) ha ha'
      have hatt : attsM b S (T.take (i + 1)) = attsM b S (T.take i) ++ attM b S m := by rw [ht]; unfold attsM; rw [List.flatMap_append]; simp
      have hatl : (attsM b S (T.take i)).length + 1 ≤ 68719476736 := by
        have := attsM_le b S (T.take i)
        rw [List.length_take] at this
        omega
      have hatl2 : ((attsM b S (T.take i)).length : Int) + 1 ≤ 68719476736 := by omega
      rw [hatt, List.map_append] at hN2
      simp only [Mv.row] at hrow hrowg
      by_cases ha : m.act = true
      rotate_left
      · -- not under way
        have ha' : m.act = false := by simpa using ha
        have h1 : markOf b S m = m := by unfold markOf; simp [ha']
        have h2 : attM b S m = [] := by unfold attM; simp [ha']
        rw [upto_same hm h1, h2, List.map_nil, List.append_nil] at hN2
        rw [if_neg ha] at hkv
        generalize (attsM b S (T.take i)).map Attempt.enc = X at *
        generalize kvOf (upto (markOf b S) T i) = K at *
        generalize (upto (markOf b S) T i).map Mv.row = R at *
        simp [bodyF, b_impl_resolveMovement_1, hio, Order.enc, hoi, at_of hoi, hkv, hwi]
        exact hN2 _ z (by simp) trivial
      rw [if_pos ha] at hkv
      by_cases hg : GoesA b S m.o m.steps
      · have h1 : markOf b S m = m := by unfold markOf; simp [hg]
        have h2 : attM b S m = [goA b S m.o m.steps] := by unfold attM nextA; rw [if_pos ha, if_pos hg]
        rw [upto_same hm h1, h2] at hN2
        rw [if_pos hg.1, decide_eq_true hg] at e1
        have hXl : ((attsM b S (T.take i)).map Attempt.enc).length + 1 ≤ 68719476736 := by rw [List.length_map]; exact hatl
        have hXl2 : (((attsM b S (T.take i)).map Attempt.enc).length : Int) + 1 ≤ 68719476736 := by rw [List.length_map]; exact hatl2
        generalize (attsM b S (T.take i)).map Attempt.enc = X at *
        generalize kvOf (upto (markOf b S) T i) = K at *
        have hRl : i < ((upto (markOf b S) T i).map Mv.row).length := by rw [List.length_map]; exact hrl
        generalize (upto (markOf b S) T i).map Mv.row = R at *
        generalize goA b S m.o m.steps = q at *
        simp only [Attempt.enc] at e1
        simp [bodyF, b_impl_resolveMovement_1, hio, Order.enc, hoi, at_of hoi, hkv, hrow, hrowg, hRl, e1, rowsOf, hXl, hXl2, hwi]
        exact hN2 _ z (by simp [Attempt.enc]) trivial
      have h2 : attM b S m = [] := by unfold attM nextA; rw [if_pos ha, if_neg hg]
      rw [h2, List.map_nil, List.append_nil, ← hset, ← row_set, ← hoff (markOf b S m) ha (by unfold markOf; simp [ha, hg])] at hN2
      rw [decide_eq_false hg] at e1
      generalize (if CanStep b S m.o m.steps then goA b S m.o m.steps else ⟨0, 0, 0⟩ : Attempt) = q at *
      generalize (attsM b S (T.take i)).map Attempt.enc = X at *
      generalize hKK : kvOf (upto (markOf b S) T i) = K at *
      have hRl : i < ((upto (markOf b S) T i).map Mv.row).length := by rw [List.length_map]; exact hrl
      generalize (upto (markOf b S) T i).map Mv.row = R at *
      simp only [Attempt.enc] at e1
      by_cases hlt : m.steps < m.o.path.length
      · have h1 : Mv.row (markOf b S m) = [.int .i64 m.o.unit, .int .i64 m.steps, .int .i64 5] := by unfold markOf Mv.row; simp [ha, hg, hlt]
        rw [h1] at hN2
        simp [bodyF, b_impl_resolveMovement_1, hio, Order.enc, hoi, at_of hoi, hkv, hrow, hrowg, hRl, e1, ints_length, hlt, hwi]
        exact hN2 _ z (by simp) trivial
      · have h1 : Mv.row (markOf b S m) = [.int .i64 m.o.unit, .int .i64 m.steps, .int .i64 m.reason] := by unfold markOf Mv.row; simp [ha, hg, hlt]
        have h3 : R.set i [.int .i64 m.o.unit, .int .i64 m.steps, .int .i64 m.reason] = R := by
          apply List.ext_getElem?
          intro j
          rw [List.getElem?_set]
          split
          · rename_i hij
            subst hij
            simp [hRl, hrowg]
          · rfl
        rw [h1, h3] at hN2
        simp [bodyF, b_impl_resolveMovement_1, hio, Order.enc, hoi, at_of hoi, hkv, hrow, hrowg, hRl, e1, ints_length, hlt, hwi]
        exact hN2 _ z (by simp) trivial
    · intro N2 E2 z _ hE2
      rw [List.take_length, upto_all]
      simp [bodyF, b_impl_resolveMovement_1, hTl]
      refine hE2 _ _ fun st => ?_
      have hU := attsM_us (b := b) (s := S) g1.nd
      have hA := atts_ok g1
      have e2 := c_impl_settle b S (attsM b S T) gb g1.w (fun x hx => (hA x hx).1) (by omega) hU
      have hset := settle_sett b S (attsM b S T) hU
      have hsub := hset.sub
      have hleftl := hsub.length_le
      have hgr : roundM b (S, T) = (doM S (settleM b S (attsM b S T)).1, (T.map (markOf b S)).map fun m => refM (settleP b S (attsM b S T)) (goM (settleM b S (attsM b S T)).1 m)) := rfl
      have hlive : ∀ a ∈ attsM b S T, ∃ (i : Nat) (m : Mv), T[i]? = some m ∧ m.o.unit = a.unit ∧ m.act = true ∧ markOf b S m = m ∧ (T.map (markOf b S))[i]? = some m := fun a ha => live_in ha
      have hmvs : ∀ m ∈ T, MvOK b S m := g1.mv
      have hround := g1.round
      have hwless := wt_less g1 hl
      have hsll := g1.w.lens
      have e3 := c_impl_madeAttempts S (settleM b S (attsM b S T)).1 (by unfold Len; omega) (by omega) (fun a ha => (hA a (hsub.subset ha)).1)
      have g3' := g3
      rw [runM, if_neg hl] at g3'
      have g4' : (roundM b (S, T)).2.map (fun m => m.o) = os := by
        rw [← g4]
        simp only [roundM]
        rw [List.map_map, List.map_map]
        exact List.map_congr_left fun m _ => by show (refM _ (goM _ (markOf b S m))).o = m.o; rw [refM_o, goM_o, markOf_o]
      rw [hgr] at hround hwless g3' g4'
      have hU1 : Us (T.map (markOf b S)) := g1.nd.of_map hmo
      generalize hLq : attsM b S T = L at *
      generalize hlq : (settleM b S L).1 = left at *
      generalize hRq : settleP b S L = KR at *
      generalize hkq : (settleM b S L).2.2 = kk at *
      simp [e2, mapAt]
      have hlR : ∀ p ∈ KR, ∃ a ∈ L, a.unit = p.1 := fun p hp => (hset.src p hp).elim (fun h => by cases h) id
      obtain ⟨T2, hT2⟩ : ∃ T2, T2 = (T.map (markOf b S)).map (refM KR) := ⟨_, rfl⟩
      have hU2 : Us T2 := by rw [hT2]; exact hU1.of_map (refM_o _)
      have hT3 : T2.map (goM left) = (T.map (markOf b S)).map fun m => refM KR (goM left m) := by
        rw [hT2, List.map_map]
        exact List.map_congr_left fun m _ => go_ref left KR m
      have hfound : ∀ a ∈ left, ∃ (i : Nat) (m : Mv), T2[i]? = some m ∧ m.o.unit = a.unit ∧ m.act = true ∧ MvOK b S m := by
        intro a ha
        obtain ⟨j, m, h1, h2, h3, _, h5⟩ := hlive a (hsub.subset ha)
        have hn : kvGet KR m.o.unit = none := (kv_none fun p hp hh => hset.disj p hp a ha (hh.trans h2)).1
        have h6 : refM KR m = m := by unfold refM; rw [hn]
        exact ⟨j, m, by rw [hT2, List.getElem?_map, h5, Option.map_some, h6], h2, h3, hmvs m (List.mem_of_getElem? h1)⟩
      have hkT : kvOf (T2.map (goM left)) = kvOf T2 := kvFrom_map (goM_o left) (goM_act left) 0 T2
      refine each_loopP (P := fun o => Round o N E) KR (fun T' => [(8, .own 0 3 (T'.map Mv.row)), (27, .mapv 0 (kvOf T'))]) (fun T' p => T'.map (refM [p]))
        (fun T' l => Us T' ∧ (l.map (·.1)).Nodup ∧ ∀ p ∈ l, ∃ (i : Nat) (m : Mv), T'[i]? = some m ∧ m.o.unit = p.1 ∧ m.act = true) (T.map (markOf b S)) T2 (by simp) (by simp) ?_ ?_ ?_ ?_
      · intro l hl
        refine ⟨hU1, (hl.map _).nodup_iff.2 hset.nodup, fun p hp => ?_⟩
        obtain ⟨a, ha, hau⟩ := hlR p (hl.subset hp)
        obtain ⟨j, m, _, h2, h3, _, h5⟩ := hlive a ha
        exact ⟨j, m, h5, h2.trans hau, h3⟩
      · intro l hl
        rw [foldl_ref l _ ((hl.map _).nodup_iff.2 hset.nodup), hT2]
        exact List.map_congr_left fun m _ => refM_perm hl hset.nodup m
      · rintro N3 T' ⟨u, r⟩ l ⟨k1, k2, k3⟩ hN3
        obtain ⟨j, m, hj, hu, ha⟩ := k3 (u, r) (by simp)
        have hu' : m.o.unit = u := hu
        subst hu'
        have hkv := kv_at k1 hj
        rw [if_pos ha] at hkv
        have hrow := row_at hj
        have hrowg := row_get hj
        have hRl : j < (T'.map Mv.row).length := (List.getElem?_eq_some_iff.1 hrow).1
        have hR := row_set T' j { m with act := false, reason := r }
        have hK := kv_off k1 hj ha (m' := { m with act := false, reason := r }) rfl
        rw [ref_one T' k1 hj r] at hR hK
        simp only [Mv.row] at hR hrow hrowg
        simp only [List.map_cons, List.nodup_cons] at k2
        have hinv : Us (T'.map (refM [(m.o.unit, r)])) ∧ (l.map (·.1)).Nodup ∧ ∀ p ∈ l, ∃ (i : Nat) (m_1 : Mv), (T'.map (refM [(m.o.unit, r)]))[i]? = some m_1 ∧ m_1.o.unit = p.1 ∧ m_1.act = true := by
          refine ⟨k1.of_map (refM_o _), k2.2, fun p hp => ?_⟩
          obtain ⟨i2, m2, q1, q2, q3⟩ := k3 p (by simp [hp])
          have hne : ¬ m.o.unit = m2.o.unit := fun hh => k2.1 (by rw [hh, q2]; exact List.mem_map_of_mem (f := (·.1)) hp)
          have h6 : refM [(m.o.unit, r)] m2 = m2 := by unfold refM; simp [kvGet, hne]
          exact ⟨i2, m2, by rw [List.getElem?_map, q1, Option.map_some, h6], q2, q3⟩
        rw [← hR, ← hK] at hN3
        generalize kvOf T' = K at *
        generalize T'.map Mv.row = R at *
        simp [bodyF, b_impl_resolveMovement_2, hkv, hrow, hrowg, hRl]
        exact hN3 _ (by simp) hinv
      · have hUL : UsA left := hU.sub hsub
        rw [← hT3] at hround hwless g3' g4'
        have hgo0 : T2.map (goM []) = T2 := by rw [show goM [] = id from funext goM_nil, List.map_id]
        simp
        refine list_loopR left (by omega) (fun i (_ : Unit) => [(8, .own 0 3 ((T2.map (goM (left.take i))).map Mv.row)), (127, I i)]) (fun _ _ => True) default (by simp [hgo0]) trivial ?_ ?_
        · intro N4 E4 i a z ha hi hm ht hwi _ hN4 hE4
          obtain ⟨j, m, hj, hu, hact, hmv⟩ := hfound a hm
          have hkv := kv_at hU2 hj
          rw [if_pos hact, hu] at hkv
          have hng : ¬ Goes (left.take i) a.unit := by
            rintro ⟨c, hc, hcu⟩
            have h8 := hUL
            unfold UsA at h8
            rw [← List.take_append_drop i left, List.map_append, List.nodup_append] at h8
            refine h8.2.2 _ (List.mem_map_of_mem hc) a.unit ?_ hcu
            obtain ⟨hlt, rfl⟩ := List.getElem?_eq_some_iff.1 ha
            rw [List.drop_eq_getElem_cons hlt]
            exact List.mem_map_of_mem (List.mem_cons_self ..)
          have hj3 : (T2.map (goM (left.take i)))[j]? = some m := by
            rw [List.getElem?_map, hj, Option.map_some]
            unfold goM
            rw [if_neg (by rw [hu]; exact hng)]
          have hnext : T2.map (goM (left.take (i + 1))) = (T2.map (goM (left.take i))).map (goM [a]) := by
            rw [List.map_map, ht]
            exact List.map_congr_left fun x _ => (goM_snoc hng x).symm
          have hR := row_set (T2.map (goM (left.take i))) j { m with steps := m.steps + 1 }
          rw [go_one _ (hU2.of_map (goM_o _)) hj3 a hu.symm, ← hnext] at hR
          rw [← hR] at hN4
          have hrow := row_at hj3
          have hrowg := row_get hj3
          simp only [Mv.row] at hN4 hrow hrowg
          have hRl : j < ((T2.map (goM (left.take i))).map fun m => Mv.row m).length := (List.getElem?_eq_some_iff.1 hrow).1
          have h9 := hmv.path.len
          have h91 := hmv.lo
          have h92 := hmv.hi
          have hw : IntKind.i64.wrap (m.steps + 1) = m.steps + 1 := wrap_small (by omega) (by omega)
          generalize kvOf T2 = K at *
          generalize (T2.map (goM (left.take i))).map Mv.row = R at *
          simp [bodyF, b_impl_resolveMovement_3, hi, ha, at_of ha, Attempt.enc, hkv, hrow, hrowg, hRl, hw, hwi]
          exact hN4 _ z (by simp) trivial
        · intro N4 E4 z _ hE4
          rw [List.take_length]
          simp [bodyF, b_impl_resolveMovement_3]
          refine hE4 _ _ fun st => ?_
          simp [e3]
          refine hN _ (n, doM S left, T2.map (goM left)) (by simp [hkT]) ⟨hround, ?_, g3', g4'⟩ (by simp)
          show wtL (T2.map (goM left)) < n
          have : wtL (T2.map (goM left)) < wtL T := hwless
          omega
end Go.Abs.W
