import Derived.Test.YtdhkoobikheabaaGreatDoorB12
set_option linter.unusedSimpArgs false
set_option linter.unusedVariables false
set_option maxRecDepth 100000
set_option maxHeartbeats 4000000
namespace Go.Abs.W
open Go Go.Abs Classical
attribute [-simp] Bool.decide_and
theorem start_rowS (os : List Order) {i : Nat} {o : Order} (h : os[i]? = some o) (ht : os.take (i + 1) = os.take i ++ [o]) : ((os.take (i + 1)).map startM).map Mv.row = ((os.take i).map startM).map Mv.row ++ [[.int .i64 o.unit, .int .i64 0, .int .i64 0]] := by rw [ht]; simp [startM, Mv.row]
theorem refM_snoc {A : List (Int × Int)} {p : Int × Int} (h : ((A ++ [p]).map (·.1)).Nodup) (m : Mv) : refM (A ++ [p]) m = if p.1 = m.o.unit then { refM A m with act := false, reason := p.2 } else refM A m := by
  obtain ⟨u, r⟩ := p
  rw [List.map_append, List.nodup_append] at h
  by_cases hu : u = m.o.unit
  · rw [if_pos hu]
    have hn : ∀ q ∈ A, q.1 ≠ m.o.unit := fun q hq hh => h.2.2 q.1 (List.mem_map_of_mem hq) u (by simp) (hh.trans hu.symm)
    have h1 : kvGet A m.o.unit = none := (kv_none hn).1
    have h2 : kvGet (A ++ [(u, r)]) m.o.unit = some r := by rw [kvGet_right hn]; simp [kvGet, hu]
    unfold refM
    rw [h1, h2]
  · rw [if_neg hu]
    have h2 : kvGet (A ++ [(u, r)]) m.o.unit = kvGet A m.o.unit := by
      clear h
      induction A with
      | nil => simp [kvGet, hu]
      | cons q A ih =>
        obtain ⟨a, c⟩ := q
        simp only [List.cons_append, kvGet, ih]
    unfold refM
    rw [h2]
@[simp] theorem safe_rowR (l : List (Int × Int)) : safeLL (l.map rowR) = true := by
  induction l with
  | nil => rfl
  | cons x l ih => simp [safeLL, safeL, D.safe, ih, rowR]
theorem settlePN_le (b : Board) (s : State) : ∀ (n : Nat) (l : List Attempt) (R : List (Int × Int)), (settlePN b s n l R).length ≤ R.length + l.length
  | 0, l, R => by simp [settlePN]
  | n + 1, l, R => by
    have h1 := nextL_sum b s l l
    rw [← refdP_rows, List.length_map] at h1
    unfold settlePN
    split
    · rw [List.length_append]; omega
    · have := settlePN_le b s n (nextL b s l l) (R ++ refdP b s l l)
      rw [List.length_append] at this
      omega
theorem settleP_le (b : Board) (s : State) (l : List Attempt) : (settleP b s l).length ≤ l.length := by
  have := settlePN_le b s (l.length + 1) l []
  rw [List.length_nil, Nat.zero_add] at this
  exact this
theorem refM_steps (kv : List (Int × Int)) (m : Mv) : (refM kv m).steps = m.steps := by unfold refM; split <;> rfl
theorem steps_at {T : List Mv} {i : Nat} {m : Mv} (h : T[i]? = some m) : (T.map fun m => m.steps)[i]? = some m.steps := by rw [List.getElem?_map, h]; rfl
theorem act_at {T : List Mv} {i : Nat} {m : Mv} (h : T[i]? = some m) : (T.map fun m => m.act)[i]? = some m.act := by rw [List.getElem?_map, h]; rfl
theorem steps_set (T : List Mv) (i : Nat) (m : Mv) : (ints (T.map fun m => m.steps)).set i [.int .i64 m.steps] = ints ((T.set i m).map fun m => m.steps) := by unfold ints; rw [List.map_set, List.map_set]
theorem act_set (T : List Mv) (i : Nat) (m : Mv) : (bools (T.map fun m => m.act)).set i [.bool m.act] = bools ((T.set i m).map fun m => m.act) := by unfold bools; rw [List.map_set, List.map_set]
theorem c_spec_fResolve (b : Board) (s : State) (x y : Sheet) (os : List Order) (gb : LenB b) (gx : LenSheet x) (gy : LenSheet y) (hos : os = ordersU (x.orders ++ y.orders) 12) (hlen : os.length ≤ 24) (hZ : ZOK b s (os.map startM)) :
    C n_spec_fResolve [BoardV false b, StateV false s, SheetV false x, SheetV false y] = some (.tup [some (.agg (StateA true (runM b (wtL (os.map startM) + 1) (s, os.map startM)).1)), some (.one (.list true 3 ((runM b (wtL (os.map startM) + 1) (s, os.map startM)).2.map Mv.row)))]) := by
  refine callC p_spec_fResolve rfl ?_
  have e1 := c_spec_fOrders x y gx gy
  rw [← hos] at e1
  have hsl := hZ.w.lens
  have e0 : C n_spec_fDo [StateV false s, Rows false 3 []] = some (StateV true s) := c_spec_fDo s [] (by unfold Len; omega) (by simp) (by simp)
  have hb0 : (os.length : Int) ≤ 68719476736 := by omega
  have hb1 : os.length ≤ 68719476736 := by omega
  have h11 : List.replicate os.length [D.int .i64 0] = ints ((os.map startM).map fun m => m.steps) := by
    unfold ints
    rw [List.map_map, List.map_map]
    exact (List.map_const' (l := os) (b := [D.int .i64 0])).symm
  simp [xRun, a_spec_fResolve, e1, hb0, hb1, -List.replicate]
  rw [h11]
  have h12 : os.map (fun _ => [D.bool true]) = bools ((os.map startM).map fun m => m.act) := by
    unfold bools
    rw [List.map_map, List.map_map]
    rfl
  refine list_loop os (by omega) (fun i (_ : Unit) => [(12, .own 0 1 (fillR (fun _ => [.bool true]) [.bool false] os i)), (13, .own 0 3 (((os.take i).map startM).map Mv.row)), (37, I i)]) (fun _ _ => True) default (by simp [fillR_zero, -List.replicate]) trivial ?_ ?_
  · intro N E i o z ho hi hm ht hwi _ hN hE
    have h1 := start_rowS os ho ht
    rw [h1] at hN
    have hb : (((os.take i).map startM).map Mv.row).length + 1 ≤ 68719476736 := by simp; omega
    have hb2 : ((((os.take i).map startM).map Mv.row).length : Int) + 1 ≤ 68719476736 := by omega
    generalize ((os.take i).map startM).map Mv.row = R at *
    simp [bodyF, b_spec_fResolve_0, hi, Order.enc, ho, at_of ho, rowsOf, hb, hb2, hwi, fillR_at _ _ hi, fillR_set (fun _ => [D.bool true]) [.bool false] ho]
    exact hN _ z (by simp) trivial
  · intro N E z _ hE
    rw [List.take_length]
    simp [bodyF, b_spec_fResolve_0]
    refine hE _ _ fun st => ?_
    rw [fillR_end, h12]
    simp [e0]
    obtain ⟨z0, hz0⟩ : ∃ z0, z0 = runM b (wtL (os.map startM) + 1) (s, os.map startM) := ⟨_, rfl⟩
    rw [← hz0]
    refine while_loop (fun z : Nat × State × List Mv => [(5, .box 0 0 (StateA true z.2.1)), (11, .own 0 1 (ints (z.2.2.map fun m => m.steps))), (12, .own 0 1 (bools (z.2.2.map fun m => m.act))), (13, .own 0 3 (z.2.2.map Mv.row))])
      (fun z => ZOK b z.2.1 z.2.2 ∧ wtL z.2.2 < z.1 ∧ runM b z.1 z.2 = z0 ∧ z.2.2.map (fun m => m.o) = os)
      (fun z => z.1) (wtL (os.map startM) + 1, s, os.map startM) (by simp) ⟨hZ, Nat.lt_succ_self _, hz0.symm, by rw [List.map_map]; exact List.map_id os⟩ ?_
    rintro N E ⟨n, S, T⟩ ⟨g1, g2, g3, g4⟩ hN hE
    simp only at g1 g2 g3 g4 hN ⊢
    obtain ⟨n, rfl⟩ : ∃ m, n = m + 1 := ⟨n - 1, by omega⟩
    have hTl : T.length = os.length := by rw [← g4, List.length_map]
    have hmo : ∀ m, (markOf b S m).o = m.o := markOf_o b S
    have hms : ∀ m, (markOf b S m).steps = m.steps := markOf_steps b S
    have hAle := attsM_le b S T
    simp [bodyF, b_spec_fResolve_4]
    refine list_loopR T (by omega) (fun i (_ : Unit) => [(12, .own 0 1 (bools ((upto (markOf b S) T i).map fun m => m.act))), (13, .own 0 3 ((upto (markOf b S) T i).map Mv.row)), (56, I i)]) (fun _ _ => True) default (by simp [upto_zero, hTl]) trivial ?_ ?_
    · intro N2 E2 i m z hm hi hmm ht hwi _ hN2 hE2
      have hk := g1.mv m hmm
      have hoi : os[i]? = some m.o := by rw [← g4, List.getElem?_map, hm]; rfl
      have hio : i < os.length := by omega
      have hrow := row_at (upto_at (f := markOf b S) hm)
      have hrowg := row_get (upto_at (f := markOf b S) hm)
      have hRl := (List.getElem?_eq_some_iff.1 hrow).1
      have hact := act_at (upto_at (f := markOf b S) hm)
      have hsteps := steps_at hm
      have hsl2 : i < (T.map fun m => m.steps).length := by rw [List.length_map]; exact hi
      have hal2 : i < ((upto (markOf b S) T i).map fun m => m.act).length := by rw [List.length_map, upto_length]; exact hi
      have hset := upto_set (f := markOf b S) hm
      simp only [Mv.row] at hrow hrowg
      by_cases ha : m.act = true
      rotate_left
      · have ha' : m.act = false := by simpa using ha
        have h1 : markOf b S m = m := by unfold markOf; simp [ha']
        rw [upto_same hm h1] at hN2
        rw [ha'] at hact
        generalize (upto (markOf b S) T i).map (fun m => m.act) = A at *
        generalize (upto (markOf b S) T i).map Mv.row = R at *
        simp [bodyF, b_spec_fResolve_1, hio, Order.enc, hoi, at_of hoi, bools_length, hal2, bools_at hact, bools_get hact, hwi]
        exact hN2 _ z (by simp) trivial
      rw [ha] at hact
      have hR := row_set (upto (markOf b S) T i) i (markOf b S m)
      have hA := act_set (upto (markOf b S) T i) i (markOf b S m)
      rw [hset] at hR hA
      have hRsame : ∀ (R : List (List D)) (q : List D), R[i]? = some q → R.set i q = R := by
        intro R q hq
        apply List.ext_getElem?
        intro j
        rw [List.getElem?_set]
        split
        · rename_i hij; subst hij; obtain ⟨hl, rfl⟩ := List.getElem?_eq_some_iff.1 hq; simp [hl]
        · rfl
      have hASame : ∀ (A : List Bool) (q : Bool), A[i]? = some q → (bools A).set i [.bool q] = bools A := fun A q hq => hRsame (bools A) _ (bools_at hq)
      rw [← hR, ← hA] at hN2
      have hlo := hk.lo
      have hhi := hk.hi
      by_cases hlt : m.steps < m.o.path.length
      rotate_left
      · -- the path is gone
        have heq : m.steps = m.o.path.length := by omega
        have hng := MvOK.stays (b := b) (s := S) hlt
        have h1 : Mv.row (markOf b S m) = [.int .i64 m.o.unit, .int .i64 m.steps, .int .i64 m.reason] := by unfold markOf Mv.row; simp [ha, hng, hlt]
        have h2 : (markOf b S m).act = false := by unfold markOf; simp [ha, hng]
        rw [h1, h2, hRsame _ _ hrow] at hN2
        generalize (upto (markOf b S) T i).map (fun m => m.act) = A at *
        generalize (upto (markOf b S) T i).map Mv.row = R at *
        generalize T.map (fun m => m.steps) = Q at *
        rw [heq] at hsteps
        simp [bodyF, b_spec_fResolve_1, hio, Order.enc, hoi, at_of hoi, bools_length, hal2, bools_at hact, bools_get hact, ints_length, hsl2, ints_at hsteps, ints_get hsteps, hwi]
        exact hN2 _ z (by simp) trivial
      have hne : ¬ m.steps = m.o.path.length := by omega
      have hpd := at_some (l := m.o.path) hlo hlt
      have p1 : ¬ m.steps < 0 := by omega
      have p2 : m.steps.toNat < m.o.path.length := by omega
      have hdd : Dir (at' m.o.path m.steps) := hk.path.2 _ (at_mem hlo hlt)
      have hcan := hk.can hlt
      have e3 := c_spec_fZone b S m.o.unit (at' m.o.path m.steps) (decide (0 < m.steps)) gb g1.w hk.has hk.on hdd (step_next hcan.2)
      have hz : zoneR b S (unitAt S m.o.unit) (nextM b.map (unitAt S m.o.unit).pos (at' m.o.path m.steps)) (decide (0 < m.steps)) = zoneA b S m.o m.steps := rfl
      rw [hz] at e3
      have hgo := hk.goes hlt
      by_cases h4 : zoneA b S m.o m.steps = 0
      · have hg := hgo.2 h4
        have h1 : markOf b S m = m := by unfold markOf; simp [hg]
        rw [h1, ha, hRsame _ _ (row_at (upto_at (f := markOf b S) hm)), hASame _ _ hact] at hN2
        rw [h4] at e3
        clear hdd hcan hz hgo hg
        generalize at' m.o.path m.steps = d at *
        generalize (upto (markOf b S) T i).map (fun m => m.act) = A at *
        generalize (upto (markOf b S) T i).map Mv.row = R at *
        generalize T.map (fun m => m.steps) = Q at *
        simp [bodyF, b_spec_fResolve_1, hio, Order.enc, hoi, at_of hoi, bools_length, hal2, bools_at hact, bools_get hact, ints_length, hsl2, ints_at hsteps, ints_get hsteps, hne, p1, p2, ints_get hpd, ints_at hpd, e3, hwi]
        exact hN2 _ z (by simp) trivial
      · have hng : ¬ GoesA b S m.o m.steps := fun hh => h4 (hgo.1 hh)
        have h1 : Mv.row (markOf b S m) = [.int .i64 m.o.unit, .int .i64 m.steps, .int .i64 5] := by unfold markOf Mv.row; simp [ha, hng, hlt]
        have h2 : (markOf b S m).act = false := by unfold markOf; simp [ha, hng]
        rw [h1, h2] at hN2
        clear hdd hcan hz hgo hng h1 h2
        generalize zoneA b S m.o m.steps = zr at *
        generalize at' m.o.path m.steps = d at *
        generalize (upto (markOf b S) T i).map (fun m => m.act) = A at *
        generalize (upto (markOf b S) T i).map Mv.row = R at *
        generalize T.map (fun m => m.steps) = Q at *
        simp [bodyF, b_spec_fResolve_1, hio, Order.enc, hoi, at_of hoi, bools_length, hal2, bools_at hact, bools_get hact, ints_length, hsl2, ints_at hsteps, ints_get hsteps, hne, p1, p2, ints_get hpd, ints_at hpd, e3, h4, hrow, hrowg, hRl, hwi]
        exact hN2 _ z (by simp) trivial
    · intro N2 E2 z _ hE2
      rw [upto_all]
      simp [bodyF, b_spec_fResolve_1, hTl]
      refine hE2 _ _ fun st => ?_
      have hU := attsM_us (b := b) (s := S) g1.nd
      have hA := atts_ok g1
      have hordOK : ∀ o ∈ os, OrdOK S o := fun o ho => by
        rw [← g4] at ho
        obtain ⟨m, hm, rfl⟩ := List.mem_map.1 ho
        exact (g1.mv m hm).ord
      have hst1 : (T.map (markOf b S)).map (fun m => m.steps) = T.map fun m => m.steps := by
        rw [List.map_map]; exact List.map_congr_left fun m _ => hms m
      have hor1 : (T.map (markOf b S)).map (fun m => m.o) = os := by
        rw [List.map_map, ← g4]; exact List.map_congr_left fun m _ => hmo m
      obtain ⟨T1, hT1⟩ : ∃ T1, T1 = T.map (markOf b S) := ⟨_, rfl⟩
      have e4 := c_spec_fAttempts b S os (T.map fun m => m.steps) (T1.map fun m => m.act) gb g1.w hordOK (by rw [List.length_map, hTl]) (by rw [hT1, List.length_map, List.length_map, hTl]) (by omega)
      have hatts : attsUp b S os (T.map fun m => m.steps) (T1.map fun m => m.act) os.length = attsM b S T := by
        have h1 := attsUp_T b S T1 T1.length (Nat.le_refl _)
        have h2 : T1.length = os.length := by rw [hT1, List.length_map, hTl]
        rw [hT1, hor1, hst1, ← hT1, List.take_length, h2] at h1
        rw [h1, hT1, attsM_mark]
      rw [hatts] at e4
      have hT1s : T.map (fun m => m.steps) = T1.map fun m => m.steps := by rw [hT1, hst1]
      have hT1o : T1.map (fun m => m.o) = os := by rw [hT1]; exact hor1
      have hT1l : T1.length = os.length := by rw [hT1, List.length_map, hTl]
      have hrow1 : T.map (Mv.row ∘ markOf b S) = T1.map Mv.row := by rw [hT1, List.map_map]
      have hact1 : T.map ((fun m => m.act) ∘ markOf b S) = T1.map fun m => m.act := by rw [hT1, List.map_map]
      rw [hrow1, hact1]
      by_cases hn0 : attsM b S T = []
      · have hstop := runM_stop (n := n) hn0
        rw [g3, ← hT1] at hstop
        rw [hn0] at e4
        subst hstop
        generalize T.map (fun m => m.steps) = Q at *
        generalize T1.map (fun m => m.act) = A at *
        generalize T1.map Mv.row = R at *
        simp at e4
        simp [e4]
        exact hE _ _ fun st => by simp
      have hl := live_of hn0
      have e2 := c_spec_fSettle b S (attsM b S T) gb g1.w (fun x hx => (hA x hx).1) (by omega)
      rw [settle_rows] at e2
      have hset := settle_sett b S (attsM b S T) hU
      have hsub := hset.sub
      have hleftl := hsub.length_le
      have hgr : roundM b (S, T) = (doM S (settleM b S (attsM b S T)).1, T1.map fun m => refM (settleP b S (attsM b S T)) (goM (settleM b S (attsM b S T)).1 m)) := by rw [hT1]; rfl
      have hround := g1.round
      have hwless := wt_less g1 hl
      have hsll := g1.w.lens
      have e3 := c_spec_fDo S (settleM b S (attsM b S T)).1 (by unfold Len; omega) (by omega) (fun a ha => (hA a (hsub.subset ha)).1)
      have g3' := g3
      rw [runM, if_neg hl] at g3'
      have g4' : (roundM b (S, T)).2.map (fun m => m.o) = os := by
        rw [← g4]
        simp only [roundM]
        rw [List.map_map, List.map_map]
        exact List.map_congr_left fun m _ => by show (refM _ (goM _ (markOf b S m))).o = m.o; rw [refM_o, goM_o, markOf_o]
      rw [hgr] at hround hwless g3' g4'
      have hmvs : ∀ m ∈ T1, 0 ≤ m.steps ∧ m.steps ≤ 9 := by
        intro m hm
        rw [hT1] at hm
        obtain ⟨q, hq, rfl⟩ := List.mem_map.1 hm
        have hk := g1.mv q hq
        have h9 := hk.path.len
        have h91 := hk.lo
        have h92 := hk.hi
        rw [hms]
        omega
      have hAl : ¬ ((attsM b S T).length : Int) = 0 := by
        intro hh
        exact hn0 (List.eq_nil_of_length_eq_zero (by omega))
      have hKl : (settleP b S (attsM b S T)).length ≤ 4611686018427387000 := by
        have := settleP_le b S (attsM b S T)
        omega
      rw [hT1s] at e4 ⊢
      generalize hLq : attsM b S T = L at *
      generalize hlq : (settleM b S L).1 = left at *
      generalize hRq : settleP b S L = KR at *
      generalize hkq : (settleM b S L).2.2 = kk at *
      simp [e4, hAl, hn0, e2, e3]
      have hleft2 : left.length ≤ 1048576 := by omega
      have hU1 : Us T1 := by rw [hT1]; exact g1.nd.of_map hmo
      have hgo : ∀ m, (fun m => refM KR (goM left m)) m = refM KR (goM left m) := fun _ => rfl
      obtain ⟨g, hg⟩ : ∃ g : Mv → Mv, g = fun m => refM KR (goM left m) := ⟨_, rfl⟩
      rw [← hg] at hround hwless g3' g4'
      refine list_loopR T1 (by omega) (fun i (_ : Unit) => [(11, .own 0 1 (ints ((upto g T1 i).map fun m => m.steps))), (12, .own 0 1 (bools ((upto g T1 i).map fun m => m.act))), (13, .own 0 3 ((upto g T1 i).map Mv.row)), (128, I i)]) (fun _ _ => True) default (by simp [upto_zero]) trivial ?_ ?_
      · intro N3 E3 i m z hm hi hmm ht hwi _ hN3 hE3
        have hoi : os[i]? = some m.o := by rw [← hT1o, List.getElem?_map, hm]; rfl
        have hio : i < os.length := by omega
        have hup := upto_at (f := g) hm
        have hset3 := upto_set (f := g) hm
        have e5 := c_spec_fLeaves left m.o.unit (by unfold Len; omega)
        obtain ⟨h91, h92⟩ := hmvs m hmm
        have hw : IntKind.i64.wrap (m.steps + 1) = m.steps + 1 := wrap_small (by omega) (by omega)
        rw [← hset3] at hN3
        have hUp : (upto g T1 i).length = T1.length := upto_length
        generalize upto g T1 i = Z at *
        have hgm : g m = refM KR (goM left m) := by rw [hg]
        rw [hgm] at hN3
        obtain ⟨m2, hm2⟩ : ∃ m2, m2 = goM left m := ⟨_, rfl⟩
        rw [← hm2] at hN3
        have hm2o : m2.o = m.o := by rw [hm2]; exact goM_o left m
        have hrow := row_at hup
        have hrowg := row_get hup
        have hRl := (List.getElem?_eq_some_iff.1 hrow).1
        have hsteps := steps_at hup
        have hsl2 : i < (Z.map fun m => m.steps).length := by rw [List.length_map, hUp]; exact hi
        have hS2 := steps_set Z i m2
        have hR2 := row_set Z i m2
        have hZi : (Z.set i m2)[i]? = some m2 := by rw [List.getElem?_set_self (by rw [hUp]; exact hi)]
        have hact2 : (Z.set i m2).map (fun m => m.act) = Z.map fun m => m.act := by
          apply List.ext_getElem?
          intro j
          rw [List.getElem?_map, List.getElem?_map, List.getElem?_set]
          split
          · rename_i hij
            subst hij
            rw [hup]
            simp [hUp, hi, hm2, goM_act]
          · rfl
        have hZl : i < Z.length := by rw [hUp]; exact hi
        have hS3 : (Z.set i (refM KR m2)).map (fun m => m.steps) = (Z.set i m2).map fun m => m.steps := by rw [List.map_set, List.map_set, refM_steps]
        rw [hS3] at hN3
        have hnn : ∀ (j : Nat) (p : Int × Int), KR.take (j + 1) = KR.take j ++ [p] → ((KR.take j ++ [p]).map (·.1)).Nodup := fun j p hp => by rw [← hp]; exact ((List.take_sublist (j + 1) KR).map _).nodup hset.nodup
        simp only [Mv.row] at hrow hrowg
        by_cases hgoes : Goes left m.o.unit
        case' pos =>
          have hm2e : m2 = { m with steps := m.steps + 1 } := by rw [hm2]; unfold goM; rw [if_pos hgoes]
          have hst2 : m2.steps = m.steps + 1 := by rw [hm2e]
          have hr2 : Mv.row m2 = [.int .i64 m.o.unit, .int .i64 (m.steps + 1), .int .i64 m.reason] := by rw [hm2e]; rfl
          rw [hst2] at hS2
          rw [hr2] at hR2
          rw [decide_eq_true hgoes] at e5
          simp [bodyF, b_spec_fResolve_3, hio, Order.enc, hoi, at_of hoi, e5, ints_length, hsl2, ints_at hsteps, ints_get hsteps, hw, hrow, hrowg, hZl]
          rw [hS2, hR2]
        case' neg =>
          have hm2e : m2 = m := by rw [hm2]; unfold goM; rw [if_neg hgoes]
          have hZ2 : Z.set i m2 = Z := by
            rw [hm2e]
            apply List.ext_getElem?
            intro j
            rw [List.getElem?_set]
            split
            · rename_i hij; subst hij; rw [hup]
            · rfl
          rw [decide_eq_false hgoes] at e5
          simp [bodyF, b_spec_fResolve_3, hio, Order.enc, hoi, at_of hoi, e5]
          have e7 : ints (Z.map fun m => m.steps) = ints ((Z.set i m2).map fun m => m.steps) := by rw [hZ2]
          have e8 : Z.map Mv.row = (Z.set i m2).map Mv.row := by rw [hZ2]
          rw [e7, e8]
        all_goals
          rw [← hact2]
          refine list_loopR KR (by omega) (fun j (_ : Unit) => [(12, .own 0 1 (bools ((Z.set i (refM (KR.take j) m2)).map fun m => m.act))), (13, .own 0 3 ((Z.set i (refM (KR.take j) m2)).map Mv.row)), (153, I j)]) (fun _ _ => True) default (by simp [refM_nil]) trivial ?_ ?_
          · intro N4 E4 j p z4 hp hj hpm htp hwj _ hN4 hE4
            have hsn := refM_snoc (hnn j p htp) m2
            rw [htp, hsn, hm2o] at hN4
            have hZj : (Z.set i (refM (KR.take j) m2))[i]? = some (refM (KR.take j) m2) := by rw [List.getElem?_set_self hZl]
            have hact4 := act_at hZj
            have hrow4 := row_at hZj
            have hrowg4 := row_get hZj
            have hZl4 : i < (Z.set i (refM (KR.take j) m2)).length := by rw [List.length_set]; exact hZl
            have hal4 : i < ((Z.set i (refM (KR.take j) m2)).map fun m => m.act).length := by rw [List.length_map]; exact hZl4
            have hRl4 : i < ((Z.set i (refM (KR.take j) m2)).map Mv.row).length := by rw [List.length_map]; exact hZl4
            have hA4 := act_set (Z.set i (refM (KR.take j) m2)) i { refM (KR.take j) m2 with act := false, reason := p.2 }
            have hR4 := row_set (Z.set i (refM (KR.take j) m2)) i { refM (KR.take j) m2 with act := false, reason := p.2 }
            rw [List.set_set] at hA4 hR4
            simp only [Mv.row] at hrow4 hrowg4 hR4
            generalize (refM (KR.take j) m2).act = qa at *
            by_cases hu : p.1 = m.o.unit
            · rw [if_pos hu, ← hA4, ← hR4] at hN4
              generalize (Z.set i (refM (KR.take j) m2)).map (fun m => m.act) = A at *
              generalize (Z.set i (refM (KR.take j) m2)).map (fun m => Mv.row m) = R at *
              simp [bodyF, b_spec_fResolve_2, hj, hp, at_of hp, rowR, hu, bools_length, hal4, bools_at hact4, bools_get hact4, hrow4, hrowg4, hRl4, hwj]
              exact hN4 _ z4 (by simp) trivial
            · rw [if_neg hu] at hN4
              generalize (Z.set i (refM (KR.take j) m2)).map (fun m => m.act) = A at *
              generalize (Z.set i (refM (KR.take j) m2)).map (fun m => Mv.row m) = R at *
              simp [bodyF, b_spec_fResolve_2, hj, hp, at_of hp, rowR, hu, hwj]
              exact hN4 _ z4 (by simp) trivial
          · intro N4 E4 z4 _ hE4
            rw [List.take_length]
            simp [bodyF, b_spec_fResolve_2]
            refine hE4 _ _ fun st => ?_
            simp [hwi]
            exact hN3 _ z (by simp) trivial
      · intro N3 E3 z _ hE3
        rw [upto_all]
        simp [bodyF, b_spec_fResolve_3, hT1l]
        refine hE3 _ _ fun st => ?_
        simp
        refine hN _ (n, doM S left, T1.map g) (by simp) ⟨hround, ?_, g3', g4'⟩ (by simp)
        show wtL (T1.map g) < n
        have : wtL (T1.map g) < wtL T := hwless
        omega
end Go.Abs.W
