-- Printed by this session's own driver (wip/tool/myprint.py) over the kit's print.
import Derived.Test.YtgjdonadnofdlaaPx0
import Derived.Test.YtgjdonadnofdlaaPx2
import Derived.Test.YtgjdonadnofdlaaPx6
namespace Go.Proofs.Ytgjdonadnofdlaa.P
open Go.RowKit Go.Proofs.YtgjdonadnofdlaaW.PrintWords Go.Proofs.YtgjdonadnofdlaaW.PrintLast Go.Proofs.YtgjdonadnofdlaaW.PrintMore
attribute [local go_sem] max2_int min2_int max_two min_two max_three min_three max_four min_four   -- for this text's walks alone
set_option linter.unusedVariables false
set_option linter.unusedSimpArgs false

/-! ### impl_mixParts: function 128 -/
-- HAND rounds=0 making=1 deps=~impl.residue
def mixRes (x m : Int) : Int := (Int.tmod x m + m) % m
theorem mixRes_bd (x m : Int) (h0 : 0 < m) : 0 ≤ mixRes x m ∧ mixRes x m < m := by
  unfold mixRes
  exact ⟨Int.emod_nonneg _ (by omega), Int.emod_lt_of_pos _ h0⟩
set_option maxHeartbeats 400000 in
theorem mixRes_same (x m : Int) (w : World) (h0 : 0 < m) (h1 : m ≤ 2147483647) :
    Calls Try.prog 141 #[.int .i64 x, .int .i64 m] w fun e w' => e = .returned (.int .i64 (mixRes x m)) ∧ w' = w := by
  unfold mixRes
  have h2 := Int.tmod_lt_of_pos x h0
  have h3 := Int.lt_tmod_of_pos x h0
  have hm : (m == 0) = false := beq_eq_false_iff_ne.mpr (by omega)
  go_enter Try.func141, Try.ntmps141
  go_wp2
  go_ret
  exact ⟨rfl, rfl⟩

set_option maxHeartbeats 4000000 in
set_option maxRecDepth 100000 in
theorem step_any (x a b : Int) (B : Nat) (w : World) (ha : w.heap[B]? = some (.cells #[.int .i64 a] 3 (0, 0))) (hb : w.heap[B + 1]? = some (.cells #[.int .i64 b] 3 (0, 0)))
    (a0 : 0 ≤ a) (a1 : a < 2147483647) (b0 : 0 ≤ b) (b1 : b ≤ 100000000000) :
    Calls Try.prog 140 #[.int .i64 x, .pointer (some ⟨B, 0, none⟩), .pointer (some ⟨B + 1, 0, none⟩)] w fun e w' => e = .returned (.tuple #[]) ∧
      w'.heap[B]? = some (.cells #[.int .i64 ((16807 * a + mixRes x 2147483647 + b) % 2147483647)] 3 (0, 0)) ∧
      w'.heap[B + 1]? = some (.cells #[.int .i64 ((39373 * b + mixRes x 2147483629 + (16807 * a + mixRes x 2147483647 + b) % 2147483647) % 2147483629)] 3 (0, 0)) ∧ Below B w w' := by
  have r1 := mixRes_bd x 2147483647 (by omega)
  have r2 := mixRes_bd x 2147483629 (by omega)
  have c1 := fun W => mixRes_same x 2147483647 W (by omega) (by omega)
  have c2 := fun W => mixRes_same x 2147483629 W (by omega) (by omega)
  have C1 := Lib.hid c1
  have C2 := Lib.hid c2
  clear c1 c2
  generalize mixRes x 2147483647 = p1 at *
  generalize mixRes x 2147483629 = p2 at *
  obtain ⟨r10, r11⟩ := r1
  obtain ⟨r20, r21⟩ := r2
  have ca := cell_of_one ha
  have cb := cell_of_one hb
  have fa := free_of_one ha
  have fb := free_of_one hb
  have Ha := Lib.hid ha
  have Hb := Lib.hid hb
  clear ha hb
  go_enter Try.func140, Try.ntmps140
  go_wp2_with (fail)
  go_still_tail 8, (by kernel_rfl)
  still_call (C1.out _)
  repeat still_step
  refine wpStill_nil ?_
  change wpList _ _ _ _ _ w.drew
  obtain ⟨w2, hw2⟩ : ∃ w2, w2 = w.drew := ⟨_, rfl⟩
  rw [← hw2]
  have ha2 : w2.heap[B]? = some (.cells #[.int .i64 a] 3 (0, 0)) := by rw [hw2]; exact blk_drew Ha.out
  have hb2 : w2.heap[B + 1]? = some (.cells #[.int .i64 b] 3 (0, 0)) := by rw [hw2]; exact blk_drew Hb.out
  have hl2 : Below B w w2 := by rw [hw2]; exact (Below.refl _ _).drew
  clear hw2 ca cb fa fb Ha Hb
  have ca := cell_of_one ha2
  have cb := cell_of_one hb2
  have fa := free_of_one ha2
  have fb := free_of_one hb2
  have Ha := Lib.hid ha2
  have Hb := Lib.hid hb2
  have Hl := Lib.hid hl2
  clear ha2 hb2 hl2
  go_wp2_with (fail)
  have q0 : 0 ≤ (16807 * a + p1 + b) % 2147483647 := by omega
  have q1 : (16807 * a + p1 + b) % 2147483647 < 2147483647 := by omega
  generalize hae : (16807 * a + p1 + b) % 2147483647 = a' at *
  have HAE := Lib.hid hae
  clear hae
  obtain ⟨w3, hw3⟩ : ∃ w3, w3 = w2.setCell ⟨B, 0, none⟩ (.int .i64 a') := ⟨_, rfl⟩
  rw [← hw3]
  have ha2 : w3.heap[B]? = some (.cells #[.int .i64 a'] 3 (0, 0)) := by rw [hw3]; exact one_setCell Ha.out
  have hb2 : w3.heap[B + 1]? = some (.cells #[.int .i64 b] 3 (0, 0)) := by rw [hw3]; exact blk_far Hb.out (by simp) _
  have hl2 : Below B w w3 := by rw [hw3]; exact Hl.out.setCell (Nat.le_refl _) _
  clear hw3 ca cb fa fb Ha Hb
  have ca := cell_of_one ha2
  have cb := cell_of_one hb2
  have fa := free_of_one ha2
  have fb := free_of_one hb2
  have Ha := Lib.hid ha2
  have Hb := Lib.hid hb2
  have Hl := Lib.hid hl2
  clear ha2 hb2 hl2
  go_still_tail 8, (by kernel_rfl)
  still_call (C2.out _)
  repeat still_step
  refine wpStill_nil ?_
  change wpList _ _ _ _ _ w3.drew
  obtain ⟨w4, hw4⟩ : ∃ w4, w4 = w3.drew := ⟨_, rfl⟩
  rw [← hw4]
  have ha2 : w4.heap[B]? = some (.cells #[.int .i64 a'] 3 (0, 0)) := by rw [hw4]; exact blk_drew Ha.out
  have hb2 : w4.heap[B + 1]? = some (.cells #[.int .i64 b] 3 (0, 0)) := by rw [hw4]; exact blk_drew Hb.out
  have hl2 : Below B w w4 := by rw [hw4]; exact Hl.out.drew
  clear hw4 ca cb fa fb Ha Hb
  have ca := cell_of_one ha2
  have cb := cell_of_one hb2
  have fa := free_of_one ha2
  have fb := free_of_one hb2
  have Ha := Lib.hid ha2
  have Hb := Lib.hid hb2
  have Hl := Lib.hid hl2
  clear ha2 hb2 hl2
  go_wp2
  go_end0
  rw [HAE.out]
  exact ⟨rfl, blk_far Ha.out (by simp) _, one_setCell Hb.out, Hl.out.setCell (Nat.le_succ _) _⟩

/-- One step of the mix: the numbers a and b behind x. -/
def mixStep (ab : Int × Int) (x : Int) : Int × Int :=
  ((16807 * ab.1 + mixRes x 2147483647 + ab.2) % 2147483647, (39373 * ab.2 + mixRes x 2147483629 + (16807 * ab.1 + mixRes x 2147483647 + ab.2) % 2147483647) % 2147483629)
def mixAll (l : List Int) (n : Nat) : Int × Int := (l.take n).foldl mixStep (7, (l.length : Int) + 1)
def mixOnes : Nat → Int × Int → Int × Int
  | 0, ab => ab
  | n + 1, ab => mixStep (mixOnes n ab) 1
def mixOk (ab : Int × Int) : Prop := 0 ≤ ab.1 ∧ ab.1 < 2147483647 ∧ 0 ≤ ab.2 ∧ ab.2 ≤ 100000000000
theorem mixOk_step {ab : Int × Int} (x : Int) : mixOk (mixStep ab x) := by
  unfold mixOk mixStep
  dsimp only
  refine ⟨?_, ?_, ?_, ?_⟩ <;> omega
theorem mixAll_succ (l : List Int) (n : Nat) (h : n < l.length) : mixAll l (n + 1) = mixStep (mixAll l n) (l.getD n 0) := by
  unfold mixAll
  rw [List.take_succ_eq_append_getElem h, List.foldl_append]
  simp [List.getD_eq_getElem?_getD, h]
theorem mixAll_ok (l : List Int) (hl : l.length ≤ 2000000) : ∀ n, n ≤ l.length → mixOk (mixAll l n)
  | 0, _ => by unfold mixOk mixAll; simp; omega
  | n + 1, h => by rw [mixAll_succ l n h]; exact mixOk_step _
theorem mixOnes_ok {ab : Int × Int} (h : mixOk ab) : ∀ n, mixOk (mixOnes n ab)
  | 0 => h
  | _ + 1 => mixOk_step _
def impl_mixParts.f (l0 : List Int) : Option (Int × Int) := if l0.length ≤ 2000000 then some (mixOnes 3 (mixAll l0 l0.length)) else none

set_option maxHeartbeats 4000000 in
set_option maxRecDepth 100000 in
theorem impl_mixParts.calls (A0 : Option Addr) (c0 : Nat) (l0 : List Int) (r1 r2 : Int) (w : World) (hr0 : Kd.C (Kd.int .i64) w A0 l0.length l0) (hc0 : l0.length ≤ c0) (h : impl_mixParts.f l0 = some (r1, r2)) :
    Calls Try.prog 128 #[.slice A0 l0.length c0] w fun e w' => e = .returned (.tuple #[.int .i64 r1, .int .i64 r2]) ∧ Below w.heap.size w w' := by
  unfold impl_mixParts.f at h
  rcases Nat.lt_or_ge 2000000 l0.length with hlen | hlen
  · rw [if_neg (by omega)] at h; cases h
  rw [if_pos hlen] at h
  have h := Option.some.inj h
  have H := Lib.hid h
  have HR := Lib.hid hr0
  clear h hr0 hc0
  have hmf : ∀ (fn : Fn) (first cap : Array Value) (w : World), (Instr.makeFunc fn first cap).run Try.prog w = .ok (.func fn first cap) w := fun _ _ _ _ => rfl
  obtain ⟨B, hB⟩ : ∃ B, B = w.heap.size := ⟨_, rfl⟩
  have HBB := Lib.hid hB
  clear hB
  go_enter Try.func128, Try.ntmps128
  go_wp2_with fail
  go_loopw [15] (fun i wr => ∃ n : Nat, n ≤ l0.length ∧ i = .int .i64 n ∧ wr.heap[w.heap.size]? = some (.cells #[.int .i64 (mixAll l0 n).1] 3 (0, 0)) ∧ wr.heap[w.heap.size + 1]? = some (.cells #[.int .i64 (mixAll l0 n).2] 3 (0, 0)) ∧ Below w.heap.size w wr)
    (fun i _ => l0.length - (intOf i).toNat)
  case atStart =>
    refine ⟨0, Nat.zero_le _, rfl, ?_, ?_, ?_⟩
    · exact blk_alloc (blk_new w _) _
    · rw [show w.heap.size + 1 = (w.alloc (Obj.cells #[Value.int IntKind.i64 7] 3)).heap.size from by simp]; exact blk_new _ _
    · exact ((Below.refl _ _).alloc (Nat.le_refl _) _).alloc (by simp) _
  case round =>
    obtain ⟨n, hn, rfl, ha, hb, hl⟩ := hrel
    have hok := mixAll_ok l0 hlen n hn
    unfold mixOk at hok
    obtain ⟨o1, o2, o3, o4⟩ := hok
    rcases Nat.lt_or_ge n l0.length with hlt | hge
    · have hs := mixAll_succ l0 n hlt
      obtain ⟨ad, e, hx⟩ := Kd.at_int (Kd.C_below HR.out hl) (n : Int) (by omega) (by omega)
      have hrd : rd l0 (n : Int) = l0.getD n 0 := by unfold rd; simp
      rw [hrd, Int.toNat_natCast] at hx
      generalize l0.getD n 0 = x at *
      have hstep := fun W hA hB => step_any x (mixAll l0 n).1 (mixAll l0 n).2 w.heap.size W hA hB o1 o2 o3 o4
      have HS := Lib.hid hs
      have HST := Lib.hid hstep
      have Ha := Lib.hid ha
      have Hb := Lib.hid hb
      have Hl := Lib.hid hl
      clear hs hstep ha hb hl hrd
      cases e
      go_wp2_with fail
      refine (HST.out _ Ha.out Hb.out).mono ?_
      rintro e w1 ⟨rfl, ha1, hb1, hl1⟩
      have Ha1 := Lib.hid ha1
      have Hb1 := Lib.hid hb1
      have Hl1 := Lib.hid hl1
      clear ha1 hb1 hl1 hx HST
      go_wp2
      go_roundw
      case rel => exact ⟨n + 1, by omega, by go_num, by rw [HS.out]; exact Ha1.out, by rw [HS.out]; exact Hb1.out, Hl.out.trans Hl1.out⟩
      case measure => simp [intOf]; omega
    · obtain rfl : n = l0.length := by omega
      have hok3 := mixOnes_ok (show mixOk (mixAll l0 l0.length) from ⟨o1, o2, o3, o4⟩)
      have Ha := Lib.hid ha
      have Hb := Lib.hid hb
      have Hl := Lib.hid hl
      have HOK := Lib.hid hok3
      clear ha hb hl hok3
      go_wp2_with fail
      go_loopw [23] (fun i ws => ∃ j : Nat, j ≤ 3 ∧ i = .int .i64 j ∧ ws.heap[w.heap.size]? = some (.cells #[.int .i64 (mixOnes j (mixAll l0 l0.length)).1] 3 (0, 0)) ∧ ws.heap[w.heap.size + 1]? = some (.cells #[.int .i64 (mixOnes j (mixAll l0 l0.length)).2] 3 (0, 0)) ∧ Below w.heap.size w ws)
        (fun i _ => 3 - (intOf i).toNat)
      case atStart => exact ⟨0, by omega, rfl, Ha.out, Hb.out, Hl.out⟩
      case round =>
        clear Ha Hb Hl
        obtain ⟨j, hj, rfl, ha, hb, hl⟩ := hrel
        have hok := HOK.out j
        unfold mixOk at hok
        obtain ⟨o1, o2, o3, o4⟩ := hok
        rcases Nat.lt_or_ge j 3 with hlt | hge
        · have hstep := fun W hA hB => step_any 1 (mixOnes j (mixAll l0 l0.length)).1 (mixOnes j (mixAll l0 l0.length)).2 w.heap.size W hA hB o1 o2 o3 o4
          have HST := Lib.hid hstep
          have Ha := Lib.hid ha
          have Hb := Lib.hid hb
          have Hl := Lib.hid hl
          clear hstep ha hb hl
          go_wp2_with fail
          refine (HST.out _ Ha.out Hb.out).mono ?_
          rintro e w1 ⟨rfl, ha1, hb1, hl1⟩
          have Ha1 := Lib.hid ha1
          have Hb1 := Lib.hid hb1
          have Hl1 := Lib.hid hl1
          clear ha1 hb1 hl1 HST
          go_wp2
          go_roundw
          case rel => exact ⟨j + 1, by omega, by go_num, Ha1.out, Hb1.out, Hl.out.trans Hl1.out⟩
          case measure => simp [intOf]; omega
        · obtain rfl : j = 3 := by omega
          have ca := cell_of_one ha
          have cb := cell_of_one hb
          rw [H.out] at ca cb
          have Hl := Lib.hid hl
          clear ha hb hl
          go_wp2_with fail
          go_quiet (fail)
          go_wp2
          go_ret2
          exact ⟨rfl, pw_below_drewN Hl.out _⟩

/-! ### impl_dieAt: function 95 -/
def impl_dieAt.f (a0 : Int) (a1 : Int) : Option (Int) := (impl_mixParts.f (([a0, a1] : List Int))).bind fun bt205 => (some (wrap64 (1 + (Int.tmod bt205.1 6))))
set_option maxHeartbeats 8000000 in
set_option maxRecDepth 100000 in
theorem impl_dieAt.calls (a0 : Int) (a1 : Int) (r : Int) (w : World) (h : impl_dieAt.f a0 a1 = some r) :
    Calls Try.prog 95 #[.int .i64 a0, .int .i64 a1] w fun e w' => e = .returned (.int .i64 r) ∧ Below w.heap.size w w' := by
  have HB := Aside0.mk (Below.refl w.heap.size w)
  have H : ((impl_mixParts.f (([a0, a1] : List Int))).bind fun bt205 => (some (wrap64 (1 + (Int.tmod bt205.1 6))))) = some r := h
  clear h
  obtain ⟨y202, hy202⟩ : ∃ y_ : List Int, y_ = (([a0, a1] : List Int)) := ⟨_, rfl⟩
  replace H : ((impl_mixParts.f y202).bind fun bt205 => (some (wrap64 (1 + (Int.tmod bt205.1 6))))) = some r := by first | (rw [hy202]; with_reducible exact H) | (have H2_ := (Option.bind_some _ _).symm.trans H; rw [hy202]; with_reducible exact H2_) | (have H2_ := (Option.bind_some _ _).symm.trans H; with_reducible exact H2_) | with_reducible exact H | (rw [hy202]; exact H) | exact H
  have Ny202 := Aside0.mk hy202
  clear hy202
  replace H := Option.bind_eq_some_iff.mp H
  obtain ⟨⟨t205, t206⟩, A30, H⟩ := H
  replace H : (some (wrap64 (1 + (Int.tmod t205 6)))) = some r := H
  have A3 := Aside0.mk A30
  clear A30
  obtain rfl := Option.some.inj H
  go_enter Try.func95, Try.ntmps95
  go_wp2_with (first | ((with_reducible refine gate_dst (N := 10) rfl ?_); refine Kd.R_lit (Kd.int .i64) _ 3 ?hg (N := 10) ?hd (xs := ([a0, a1] : List Int)) (inner := [.int .i64 a0, .int .i64 a1]) (ok := fun _ => True) (okp := fun _ => True) ?hr ?hp (fun _ hk => hk) trivial (Below.refl _ _) (Nat.le_refl _) (by simp) ?_; (case hd => rfl); (case hg => rfl); (case hr => first | (go_simp; done) | (go_simp; rfl)); (case hp => exact (Reps.one (show Kd.M (Kd.int .i64) _ _ _ a0 [.int .i64 a0] from rfl) (Reps.one (show Kd.M (Kd.int .i64) _ _ _ a1 [.int .i64 a1] from rfl) (Reps.none _ _)))); intro v203 w4 ho5 hb hg_ hnew_; clear hg_ hnew_; (first | rw [← Ny202.out] at ho5 | (simp only [Int.reduceToNat] at ho5; rw [← Ny202.out] at ho5)); have n0_ := Aside0.mk (Kd.R_lower ho5 (below_size (by repeat (first | (with_reducible first | exact HB.out | apply below_alloc | apply pw_below_drewN | apply below_drew1) | exact HB.out)))); have n1_ := Aside0.mk (below_step (by repeat (first | (with_reducible first | exact HB.out | apply below_alloc | apply pw_below_drewN | apply below_drew1) | exact HB.out)) hb); clear HB; have HO204 := n0_; have HB := n1_; clear n0_ n1_; clear hb ho5; obtain ⟨Ao6, co6, eo6⟩ := Kd.R_slice HO204.out; subst eo6) | ((with_reducible refine gate_callee (f := 128) rfl ?_); refine goesL_ (some 11) rfl rfl Try.func128 (by kernel_rfl) rfl #[.slice Ao6 y202.length co6] rfl (by (try simp only [List.map_toArray, List.map_cons, List.map_nil]); first | done | rfl | (simp only [List.length_drop, List.length_take]; rfl)) ?_; (with_reducible refine (impl_mixParts.calls _ _ y202 t205 t206 _ ?side1 ?side2 A3.out).mono ?_); (case side1 => repeat (first | exact (Kd.R_reads' HO204.out).2.2 | (with_reducible refine Kd.C_alloc ?_ _) | (with_reducible refine Kd.C_drewN ?_ _) | (with_reducible refine Kd.C_drew ?_))); (case side2 => exact (Kd.R_reads' HO204.out).2.1); rintro e w7 ⟨rfl, hb⟩; refine ⟨_, rfl, ?_⟩; have n0_ := Aside0.mk (Kd.R_below (by (with_reducible repeat (first | apply Kd.R_alloc | apply Kd.R_drewN | apply Kd.R_drew)); exact HO204.out) hb); have n1_ := Aside0.mk (below_step (by repeat (first | (with_reducible first | exact HB.out | apply below_alloc | apply pw_below_drewN | apply below_drew1) | exact HB.out)) hb); clear HO204; clear HB; have HO204 := n0_; have HB := n1_; clear n0_ n1_; (try clear hb); (try clear hb2); (try clear hk); (try clear hi)))
  go_ret
  exact ⟨by first | rfl | (simp [errW_none, errW_some] <;> rfl) | (simp [*, errW_none, errW_some] <;> rfl), by repeat (first | (with_reducible first | exact HB.out | apply below_alloc | apply pw_below_drewN | apply below_drew1) | exact HB.out)⟩

/-! ### impl_DieAt: function 32 -/
def impl_DieAt.f (a0 : Int) (a1 : Int) : Option (Int × Bool) := (impl_isSeed.f a0).bind fun t207 => (if t207 = true then ((impl_isPlaceOfDie.f a1).bind fun t208 => (if t208 = true then ((impl_dieAt.f a0 a1).bind fun t209 => (some (t209, true))) else (some (0, false)))) else (some (0, false)))
set_option maxHeartbeats 8000000 in
set_option maxRecDepth 100000 in
theorem impl_DieAt.calls (a0 : Int) (a1 : Int) (r1 : Int) (r2 : Bool) (w : World) (h : impl_DieAt.f a0 a1 = some (r1, r2)) :
    Calls Try.prog 32 #[.int .i64 a0, .int .i64 a1] w fun e w' => e = .returned (.tuple #[.int .i64 r1, .bool r2]) ∧ Below w.heap.size w w' := by
  have HB := Aside0.mk (Below.refl w.heap.size w)
  have H : ((impl_isSeed.f a0).bind fun t207 => (if t207 = true then ((impl_isPlaceOfDie.f a1).bind fun t208 => (if t208 = true then ((impl_dieAt.f a0 a1).bind fun t209 => (some (t209, true))) else (some (0, false)))) else (some (0, false)))) = some (r1, r2) := h
  clear h
  replace H := Option.bind_eq_some_iff.mp H
  obtain ⟨t207, A30, H⟩ := H
  replace H : (if t207 = true then ((impl_isPlaceOfDie.f a1).bind fun t208 => (if t208 = true then ((impl_dieAt.f a0 a1).bind fun t209 => (some (t209, true))) else (some (0, false)))) else (some (0, false))) = some (r1, r2) := H
  have A3 := Aside0.mk A30
  clear A30
  by_cases c4 : t207 = true
  · subst c4
    have H1 : ((impl_isPlaceOfDie.f a1).bind fun t208 => (if t208 = true then ((impl_dieAt.f a0 a1).bind fun t209 => (some (t209, true))) else (some (0, false)))) = some (r1, r2) := by rw [if_pos rfl] at H; exact H
    clear H
    have H := H1
    clear H1
    replace H := Option.bind_eq_some_iff.mp H
    obtain ⟨t208, A50, H⟩ := H
    replace H : (if t208 = true then ((impl_dieAt.f a0 a1).bind fun t209 => (some (t209, true))) else (some (0, false))) = some (r1, r2) := H
    have A5 := Aside0.mk A50
    clear A50
    by_cases c6 : t208 = true
    · subst c6
      have H1 : ((impl_dieAt.f a0 a1).bind fun t209 => (some (t209, true))) = some (r1, r2) := by rw [if_pos rfl] at H; exact H
      clear H
      have H := H1
      clear H1
      replace H := Option.bind_eq_some_iff.mp H
      obtain ⟨t209, A70, H⟩ := H
      replace H : (some (t209, true)) = some (r1, r2) := H
      have A7 := Aside0.mk A70
      clear A70
      simp only [Option.some.injEq, Prod.mk.injEq] at H
      obtain ⟨rfl, rfl⟩ := H
      go_enter Try.func32, Try.ntmps32
      go_wp2_with (first | ((with_reducible refine gate_callee (f := 85) rfl ?_); refine goesL_ (some 7) rfl rfl Try.func85 (by kernel_rfl) rfl #[.int .i64 a0] rfl (by (try simp only [List.map_toArray, List.map_cons, List.map_nil]); first | done | rfl | (simp only [List.length_drop, List.length_take]; rfl)) ?_; (with_reducible refine (impl_isSeed.calls a0 true _ A3.out).mono ?_); rintro e w' ⟨rfl, ⟨nd, rfl⟩⟩; refine ⟨_, rfl, ?_⟩) | (go_at_call 94; (with_reducible refine (impl_isPlaceOfDie.calls a1 true _ A5.out).mono ?_); rintro e w' ⟨rfl, ⟨nd, rfl⟩⟩) | ((with_reducible refine gate_callee (f := 95) rfl ?_); refine goesL_ (some 16) rfl rfl Try.func95 (by kernel_rfl) rfl #[.int .i64 a0, .int .i64 a1] rfl (by (try simp only [List.map_toArray, List.map_cons, List.map_nil]); first | done | rfl | (simp only [List.length_drop, List.length_take]; rfl)) ?_; (with_reducible refine (impl_dieAt.calls a0 a1 t209 _ A7.out).mono ?_); rintro e w8 ⟨rfl, hb⟩; refine ⟨_, rfl, ?_⟩; have n0_ := Aside0.mk (below_step (by repeat (first | (with_reducible first | exact HB.out | apply below_alloc | apply pw_below_drewN | apply below_drew1) | exact HB.out)) hb); clear HB; have HB := n0_; clear n0_; (try clear hb); (try clear hb2); (try clear hk); (try clear hi)))
      go_ret2
      exact ⟨by first | rfl | (simp [errW_none, errW_some] <;> rfl) | (simp [*, errW_none, errW_some] <;> rfl), by repeat (first | (with_reducible first | exact HB.out | apply below_alloc | apply pw_below_drewN | apply below_drew1) | exact HB.out)⟩
    · replace c6 := Bool.eq_false_iff.mpr c6
      subst c6
      have H1 : (some (0, false)) = some (r1, r2) := by rw [if_neg (show ¬ (false = true) by decide)] at H; exact H
      clear H
      have H := H1
      clear H1
      simp only [Option.some.injEq, Prod.mk.injEq] at H
      obtain ⟨rfl, rfl⟩ := H
      go_enter Try.func32, Try.ntmps32
      go_wp2_with (first | ((with_reducible refine gate_callee (f := 85) rfl ?_); refine goesL_ (some 7) rfl rfl Try.func85 (by kernel_rfl) rfl #[.int .i64 a0] rfl (by (try simp only [List.map_toArray, List.map_cons, List.map_nil]); first | done | rfl | (simp only [List.length_drop, List.length_take]; rfl)) ?_; (with_reducible refine (impl_isSeed.calls a0 true _ A3.out).mono ?_); rintro e w' ⟨rfl, ⟨nd, rfl⟩⟩; refine ⟨_, rfl, ?_⟩) | (go_at_call 94; (with_reducible refine (impl_isPlaceOfDie.calls a1 false _ A5.out).mono ?_); rintro e w' ⟨rfl, ⟨nd, rfl⟩⟩))
      go_ret2
      exact ⟨by first | rfl | (simp [errW_none, errW_some] <;> rfl) | (simp [*, errW_none, errW_some] <;> rfl), by repeat (first | (with_reducible first | exact HB.out | apply below_alloc | apply pw_below_drewN | apply below_drew1) | exact HB.out)⟩
  · replace c4 := Bool.eq_false_iff.mpr c4
    subst c4
    have H1 : (some (0, false)) = some (r1, r2) := by rw [if_neg (show ¬ (false = true) by decide)] at H; exact H
    clear H
    have H := H1
    clear H1
    simp only [Option.some.injEq, Prod.mk.injEq] at H
    obtain ⟨rfl, rfl⟩ := H
    go_enter Try.func32, Try.ntmps32
    go_wp2_with (first | ((with_reducible refine gate_callee (f := 85) rfl ?_); refine goesL_ (some 7) rfl rfl Try.func85 (by kernel_rfl) rfl #[.int .i64 a0] rfl (by (try simp only [List.map_toArray, List.map_cons, List.map_nil]); first | done | rfl | (simp only [List.length_drop, List.length_take]; rfl)) ?_; (with_reducible refine (impl_isSeed.calls a0 false _ A3.out).mono ?_); rintro e w' ⟨rfl, ⟨nd, rfl⟩⟩; refine ⟨_, rfl, ?_⟩))
    go_ret2
    exact ⟨by first | rfl | (simp [errW_none, errW_some] <;> rfl) | (simp [*, errW_none, errW_some] <;> rfl), by repeat (first | (with_reducible first | exact HB.out | apply below_alloc | apply pw_below_drewN | apply below_drew1) | exact HB.out)⟩

/-! ### laws_FnExactDieAt: function 7 -/
def laws_FnExactDieAt.f (k : Nat) (a0 : Int) (a1 : Int) : Option (Bool) := (spec_DieAt.f k a0 a1).bind fun bt210 => ((impl_DieAt.f a0 a1).bind fun bt212 => (if bt212.1 = bt210.1 then (if (bt212.2 != bt210.2) = true then (some false) else (some true)) else (some false)))
theorem laws_FnExactDieAt.mono : ∀ a0 a1 k, LeO (laws_FnExactDieAt.f k a0 a1) (laws_FnExactDieAt.f (k + 1) a0 a1) := by
  intro a0 a1 k
  unfold laws_FnExactDieAt.f
  repeat' first
      | (with_reducible exact spec_DieAt.mono _ _ _)
      | (with_reducible exact LeO.refl _)
      | (with_reducible exact LeO.none _)
      | (with_reducible refine LeO.ite ?_ ?_)
      | (with_reducible refine LeO.bind ?_ (fun _ => ?_))
      | exact spec_DieAt.mono _ _ _
      | exact LeO.none _
      | refine LeO.ite ?_ ?_
      | refine LeO.bind ?_ (fun _ => ?_)
set_option maxHeartbeats 8000000 in
set_option maxRecDepth 100000 in
theorem laws_FnExactDieAt.calls (k : Nat) (a0 : Int) (a1 : Int) (r : Bool) (w : World) (h : laws_FnExactDieAt.f k a0 a1 = some r) :
    Calls Try.prog 7 #[.int .i64 a0, .int .i64 a1] w fun e w' => e = .returned (.bool r) ∧ Below w.heap.size w w' := by
  have HB := Aside0.mk (Below.refl w.heap.size w)
  have H : ((spec_DieAt.f k a0 a1).bind fun bt210 => ((impl_DieAt.f a0 a1).bind fun bt212 => (if bt212.1 = bt210.1 then (if (bt212.2 != bt210.2) = true then (some false) else (some true)) else (some false)))) = some r := h
  clear h
  replace H := Option.bind_eq_some_iff.mp H
  obtain ⟨⟨t210, t211⟩, A30, H⟩ := H
  replace H : ((impl_DieAt.f a0 a1).bind fun bt212 => (if bt212.1 = t210 then (if (bt212.2 != t211) = true then (some false) else (some true)) else (some false))) = some r := H
  have A3 := Aside0.mk A30
  clear A30
  replace H := Option.bind_eq_some_iff.mp H
  obtain ⟨⟨t212, t213⟩, A40, H⟩ := H
  replace H : (if t212 = t210 then (if (t213 != t211) = true then (some false) else (some true)) else (some false)) = some r := H
  have A4 := Aside0.mk A40
  clear A40
  by_cases c5 : t212 = t210
  · rw [if_pos c5] at H
    have c5b0 : (t212 == t210) = true := beq_iff_eq.mpr c5
    have c5b1 : (t212 != t210) = false := bne_eq_false_iff_eq.mpr c5
    clear c5
    by_cases c6 : (t213 != t211) = true
    · rw [if_pos c6] at H
      have c6b0 : (t213 != t211) = true := c6
      (try (have c6b1 : decide (t213 = t211) = false := by simpa using c6))
      (try (have c6b2 : (t213 == t211) = false := by simpa using c6))
      (try (have c6b3 : ¬ (t213 = t211) := by simpa using c6))
      clear c6
      obtain rfl := Option.some.inj H
      go_enter Try.func7, Try.ntmps7
      go_wp2_with (first | ((with_reducible refine gate_callee (f := 31) rfl ?_); refine goesL_ (some 12) rfl rfl Try.func31 (by kernel_rfl) rfl #[.int .i64 a0, .int .i64 a1] rfl (by (try simp only [List.map_toArray, List.map_cons, List.map_nil]); first | done | rfl | (simp only [List.length_drop, List.length_take]; rfl)) ?_; (with_reducible refine (spec_DieAt.calls k a0 a1 t210 t211 _ A3.out).mono ?_); rintro e w7 ⟨rfl, hb⟩; refine ⟨_, rfl, ?_⟩; have n0_ := Aside0.mk (below_step (by repeat (first | (with_reducible first | exact HB.out | apply below_alloc | apply pw_below_drewN | apply below_drew1) | exact HB.out)) hb); clear HB; have HB := n0_; clear n0_; (try clear hb); (try clear hb2); (try clear hk); (try clear hi)) | ((with_reducible refine gate_callee (f := 32) rfl ?_); refine goesL_ (some 18) rfl rfl Try.func32 (by kernel_rfl) rfl #[.int .i64 a0, .int .i64 a1] rfl (by (try simp only [List.map_toArray, List.map_cons, List.map_nil]); first | done | rfl | (simp only [List.length_drop, List.length_take]; rfl)) ?_; (with_reducible refine (impl_DieAt.calls a0 a1 t212 t213 _ A4.out).mono ?_); rintro e w8 ⟨rfl, hb⟩; refine ⟨_, rfl, ?_⟩; have n0_ := Aside0.mk (below_step (by repeat (first | (with_reducible first | exact HB.out | apply below_alloc | apply pw_below_drewN | apply below_drew1) | exact HB.out)) hb); clear HB; have HB := n0_; clear n0_; (try clear hb); (try clear hb2); (try clear hk); (try clear hi)))
      go_ret
      exact ⟨by first | rfl | (simp [errW_none, errW_some] <;> rfl) | (simp [*, errW_none, errW_some] <;> rfl), by repeat (first | (with_reducible first | exact HB.out | apply below_alloc | apply pw_below_drewN | apply below_drew1) | exact HB.out)⟩
    · rw [if_neg c6] at H
      have c6b0 : (t213 != t211) = false := by simpa using c6
      (try (have c6b1 : decide (t213 = t211) = true := by simpa using c6))
      (try (have c6b2 : (t213 == t211) = true := by simpa using c6))
      clear c6
      obtain rfl := Option.some.inj H
      go_enter Try.func7, Try.ntmps7
      go_wp2_with (first | ((with_reducible refine gate_callee (f := 31) rfl ?_); refine goesL_ (some 12) rfl rfl Try.func31 (by kernel_rfl) rfl #[.int .i64 a0, .int .i64 a1] rfl (by (try simp only [List.map_toArray, List.map_cons, List.map_nil]); first | done | rfl | (simp only [List.length_drop, List.length_take]; rfl)) ?_; (with_reducible refine (spec_DieAt.calls k a0 a1 t210 t211 _ A3.out).mono ?_); rintro e w9 ⟨rfl, hb⟩; refine ⟨_, rfl, ?_⟩; have n0_ := Aside0.mk (below_step (by repeat (first | (with_reducible first | exact HB.out | apply below_alloc | apply pw_below_drewN | apply below_drew1) | exact HB.out)) hb); clear HB; have HB := n0_; clear n0_; (try clear hb); (try clear hb2); (try clear hk); (try clear hi)) | ((with_reducible refine gate_callee (f := 32) rfl ?_); refine goesL_ (some 18) rfl rfl Try.func32 (by kernel_rfl) rfl #[.int .i64 a0, .int .i64 a1] rfl (by (try simp only [List.map_toArray, List.map_cons, List.map_nil]); first | done | rfl | (simp only [List.length_drop, List.length_take]; rfl)) ?_; (with_reducible refine (impl_DieAt.calls a0 a1 t212 t213 _ A4.out).mono ?_); rintro e w10 ⟨rfl, hb⟩; refine ⟨_, rfl, ?_⟩; have n0_ := Aside0.mk (below_step (by repeat (first | (with_reducible first | exact HB.out | apply below_alloc | apply pw_below_drewN | apply below_drew1) | exact HB.out)) hb); clear HB; have HB := n0_; clear n0_; (try clear hb); (try clear hb2); (try clear hk); (try clear hi)))
      go_ret
      exact ⟨by first | rfl | (simp [errW_none, errW_some] <;> rfl) | (simp [*, errW_none, errW_some] <;> rfl), by repeat (first | (with_reducible first | exact HB.out | apply below_alloc | apply pw_below_drewN | apply below_drew1) | exact HB.out)⟩
  · rw [if_neg c5] at H
    have c5b0 : (t212 == t210) = false := beq_eq_false_iff_ne.mpr c5
    have c5b1 : (t212 != t210) = true := bne_iff_ne.mpr c5
    obtain rfl := Option.some.inj H
    go_enter Try.func7, Try.ntmps7
    go_wp2_with (first | ((with_reducible refine gate_callee (f := 31) rfl ?_); refine goesL_ (some 12) rfl rfl Try.func31 (by kernel_rfl) rfl #[.int .i64 a0, .int .i64 a1] rfl (by (try simp only [List.map_toArray, List.map_cons, List.map_nil]); first | done | rfl | (simp only [List.length_drop, List.length_take]; rfl)) ?_; (with_reducible refine (spec_DieAt.calls k a0 a1 t210 t211 _ A3.out).mono ?_); rintro e w11 ⟨rfl, hb⟩; refine ⟨_, rfl, ?_⟩; have n0_ := Aside0.mk (below_step (by repeat (first | (with_reducible first | exact HB.out | apply below_alloc | apply pw_below_drewN | apply below_drew1) | exact HB.out)) hb); clear HB; have HB := n0_; clear n0_; (try clear hb); (try clear hb2); (try clear hk); (try clear hi)) | ((with_reducible refine gate_callee (f := 32) rfl ?_); refine goesL_ (some 18) rfl rfl Try.func32 (by kernel_rfl) rfl #[.int .i64 a0, .int .i64 a1] rfl (by (try simp only [List.map_toArray, List.map_cons, List.map_nil]); first | done | rfl | (simp only [List.length_drop, List.length_take]; rfl)) ?_; (with_reducible refine (impl_DieAt.calls a0 a1 t212 t213 _ A4.out).mono ?_); rintro e w12 ⟨rfl, hb⟩; refine ⟨_, rfl, ?_⟩; have n0_ := Aside0.mk (below_step (by repeat (first | (with_reducible first | exact HB.out | apply below_alloc | apply pw_below_drewN | apply below_drew1) | exact HB.out)) hb); clear HB; have HB := n0_; clear n0_; (try clear hb); (try clear hb2); (try clear hk); (try clear hi)))
    go_ret
    exact ⟨by first | rfl | (simp [errW_none, errW_some] <;> rfl) | (simp [*, errW_none, errW_some] <;> rfl), by repeat (first | (with_reducible first | exact HB.out | apply below_alloc | apply pw_below_drewN | apply below_drew1) | exact HB.out)⟩

/-- THE ONE PURE STATEMENT of laws_FnExactDieAt: yours. -/
def laws_FnExactDieAt.Pure : Prop := ∀ (a0 : Int) (a1 : Int), (Lit.int .i64 a0).wf = true → (Lit.int .i64 a1).wf = true → ∃ k, laws_FnExactDieAt.f k a0 a1 = some true
theorem laws_FnExactDieAt.walk (P : laws_FnExactDieAt.Pure) (a0 : Int) (a1 : Int) (w : World) (w0 : (Lit.int .i64 a0).wf = true) (w1 : (Lit.int .i64 a1).wf = true) :
    Calls Try.prog 7 #[.int .i64 a0, .int .i64 a1] w fun e w' => e = .returned (.bool true) ∧ Below w.heap.size w w' := by
  obtain ⟨k, h⟩ := P a0 a1 w0 w1
  refine (laws_FnExactDieAt.calls k a0 a1 true w h).mono ?_
  rintro e w' ⟨rfl, hd⟩
  exact ⟨rfl, hd⟩

/-! ### spec_dBelow: function 96 -/
def spec_dBelow.f (k : Nat) (a0 : Int) (a1 : Int) (a2 : Int) : Option (Int) := (spec_dMix.f k (([a0, a1, a2] : List Int))).bind fun bt217 => (if a2 = 0 then (none) else (some (Int.tmod bt217.1 a2)))
theorem spec_dBelow.mono : ∀ a0 a1 a2 k, LeO (spec_dBelow.f k a0 a1 a2) (spec_dBelow.f (k + 1) a0 a1 a2) := by
  intro a0 a1 a2 k
  unfold spec_dBelow.f
  repeat' first
      | (with_reducible exact spec_dMix.mono _ _)
      | (with_reducible exact LeO.refl _)
      | (with_reducible exact LeO.none _)
      | (with_reducible refine LeO.ite ?_ ?_)
      | (with_reducible refine LeO.bind ?_ (fun _ => ?_))
      | exact spec_dMix.mono _ _
      | exact LeO.none _
      | refine LeO.ite ?_ ?_
      | refine LeO.bind ?_ (fun _ => ?_)
set_option maxHeartbeats 8000000 in
set_option maxRecDepth 100000 in
theorem spec_dBelow.calls (k : Nat) (a0 : Int) (a1 : Int) (a2 : Int) (r : Int) (w : World) (h : spec_dBelow.f k a0 a1 a2 = some r) :
    Calls Try.prog 96 #[.int .i64 a0, .int .i64 a1, .int .i64 a2] w fun e w' => e = .returned (.int .i64 r) ∧ Below w.heap.size w w' := by
  have HB := Aside0.mk (Below.refl w.heap.size w)
  have H : ((spec_dMix.f k (([a0, a1, a2] : List Int))).bind fun bt217 => (if a2 = 0 then (none) else (some (Int.tmod bt217.1 a2)))) = some r := h
  clear h
  obtain ⟨y214, hy214⟩ : ∃ y_ : List Int, y_ = (([a0, a1, a2] : List Int)) := ⟨_, rfl⟩
  replace H : ((spec_dMix.f k y214).bind fun bt217 => (if a2 = 0 then (none) else (some (Int.tmod bt217.1 a2)))) = some r := by first | (rw [hy214]; with_reducible exact H) | (have H2_ := (Option.bind_some _ _).symm.trans H; rw [hy214]; with_reducible exact H2_) | (have H2_ := (Option.bind_some _ _).symm.trans H; with_reducible exact H2_) | with_reducible exact H | (rw [hy214]; exact H) | exact H
  have Ny214 := Aside0.mk hy214
  clear hy214
  replace H := Option.bind_eq_some_iff.mp H
  obtain ⟨⟨t217, t218⟩, A40, H⟩ := H
  replace H : (if a2 = 0 then (none) else (some (Int.tmod t217 a2))) = some r := H
  have A4 := Aside0.mk A40
  clear A40
  by_cases c5 : a2 = 0
  · rw [if_pos c5] at H
    exact absurd H (by simp)
  · rw [if_neg c5] at H
    have c5b0 : (a2 == 0) = false := beq_eq_false_iff_ne.mpr c5
    have c5b1 : (a2 != 0) = true := bne_iff_ne.mpr c5
    obtain rfl := Option.some.inj H
    go_enter Try.func96, Try.ntmps96
    go_wp2_with (first | ((with_reducible refine gate_dst (N := 13) rfl ?_); refine Kd.R_lit (Kd.int .i64) _ 3 ?hg (N := 13) ?hd (xs := ([a0, a1, a2] : List Int)) (inner := [.int .i64 a0, .int .i64 a1, .int .i64 a2]) (ok := fun _ => True) (okp := fun _ => True) ?hr ?hp (fun _ hk => hk) trivial (Below.refl _ _) (Nat.le_refl _) (by simp) ?_; (case hd => rfl); (case hg => rfl); (case hr => first | (go_simp; done) | (go_simp; rfl)); (case hp => exact (Reps.one (show Kd.M (Kd.int .i64) _ _ _ a0 [.int .i64 a0] from rfl) (Reps.one (show Kd.M (Kd.int .i64) _ _ _ a1 [.int .i64 a1] from rfl) (Reps.one (show Kd.M (Kd.int .i64) _ _ _ a2 [.int .i64 a2] from rfl) (Reps.none _ _))))); intro v215 w6 ho7 hb hg_ hnew_; clear hg_ hnew_; (first | rw [← Ny214.out] at ho7 | (simp only [Int.reduceToNat] at ho7; rw [← Ny214.out] at ho7)); have n0_ := Aside0.mk (Kd.R_lower ho7 (below_size (by repeat (first | (with_reducible first | exact HB.out | apply below_alloc | apply pw_below_drewN | apply below_drew1) | exact HB.out)))); have n1_ := Aside0.mk (below_step (by repeat (first | (with_reducible first | exact HB.out | apply below_alloc | apply pw_below_drewN | apply below_drew1) | exact HB.out)) hb); clear HB; have HO216 := n0_; have HB := n1_; clear n0_ n1_; clear hb ho7; obtain ⟨Ao8, co8, eo8⟩ := Kd.R_slice HO216.out; subst eo8) | ((with_reducible refine gate_callee (f := 127) rfl ?_); refine goesL_ (some 14) rfl rfl Try.func127 (by kernel_rfl) rfl #[.slice Ao8 y214.length co8] rfl (by (try simp only [List.map_toArray, List.map_cons, List.map_nil]); first | done | rfl | (simp only [List.length_drop, List.length_take]; rfl)) ?_; (with_reducible refine (spec_dMix.calls k _ _ y214 t217 t218 _ ?side1 ?side2 A4.out).mono ?_); (case side1 => repeat (first | exact (Kd.R_reads' HO216.out).2.2 | (with_reducible refine Kd.C_alloc ?_ _) | (with_reducible refine Kd.C_drewN ?_ _) | (with_reducible refine Kd.C_drew ?_))); (case side2 => exact (Kd.R_reads' HO216.out).2.1); rintro e w' ⟨rfl, ⟨nd, rfl⟩⟩; refine ⟨_, rfl, ?_⟩))
    go_ret
    exact ⟨by first | rfl | (simp [errW_none, errW_some] <;> rfl) | (simp [*, errW_none, errW_some] <;> rfl), by repeat (first | (with_reducible first | exact HB.out | apply below_alloc | apply pw_below_drewN | apply below_drew1) | exact HB.out)⟩

end Go.Proofs.Ytgjdonadnofdlaa.P
