-- Printed by this session's own driver (wip/tool/myprint.py) over the kit's print.
import Derived.Test.YtgjdonadnofdlaaPx0
import Derived.Test.YtgjdonadnofdlaaPx40
import Derived.Test.YtgjdonadnofdlaaPx43
import Derived.Test.YtgjdonadnofdlaaPx55
namespace Go.Proofs.Ytgjdonadnofdlaa.P
open Go.RowKit Go.Proofs.YtgjdonadnofdlaaW.PrintWords Go.Proofs.YtgjdonadnofdlaaW.PrintLast Go.Proofs.YtgjdonadnofdlaaW.PrintMore
attribute [local go_sem] max2_int min2_int max_two min_two max_three min_three max_four min_four   -- for this text's walks alone
set_option linter.unusedVariables false
set_option linter.unusedSimpArgs false

/-! ### impl_FirstBadOpening: function 80 -/
mutual
def impl_FirstBadOpening.j0 : Nat → List (S25) → List (S55) → Bool → Option (Int × Bool)
  | 0, _, _, _ => none
  | k + 1, x0, x1, x23 => if x23 = true then (some (0, false)) else (impl_FirstBadOpening.l0 k x0 x1 x0 (x0.length : Int) 0)
def impl_FirstBadOpening.l0 : Nat → List (S25) → List (S55) → List (S25) → Int → Int → Option (Int × Bool)
  | 0, _, _, _, _, _ => none
  | k + 1, x0, x1, x24, x25, x26 => if x26 < x25 then (if 0 ≤ x26 then (if x26 < (x24.length : Int) then (if x26 < (x1.length : Int) then ((impl_OpensTo.f k ((rd_T25 x24 x26).f0) ((rd_T25 x24 x26).f1) ((rd_T25 x24 x26).f2) ((rd_T55 x1 x26).f0) ((rd_T55 x1 x26).f1)).bind fun bt792 => (if bt792.1 = true then (impl_FirstBadOpening.l0 k x0 x1 x24 x25 (wrap64 (x26 + 1))) else (some (x26, true)))) else (none)) else (none)) else (none)) else (some ((x0.length : Int), true))
end
def impl_FirstBadOpening.f (k : Nat) (l0 : List (S25)) (l1 : List (S55)) : Option (Int × Bool) := (impl_areSealed.f k l0).bind fun t787 => (if t787 = true then (if (l1.length : Int) = (l0.length : Int) then ((slices_ContainsFunc_impl_FirstBadOpening_1.f k l1 ()).bind fun t788 => (impl_FirstBadOpening.j0 k l0 l1 t788)) else (impl_FirstBadOpening.j0 k l0 l1 true)) else (impl_FirstBadOpening.j0 k l0 l1 true))
theorem impl_FirstBadOpening.mono_l : ∀ k, (∀ y0 y1 y2, LeO (impl_FirstBadOpening.j0 k y0 y1 y2) (impl_FirstBadOpening.j0 (k + 1) y0 y1 y2)) ∧ (∀ y0 y1 y2 y3 y4, LeO (impl_FirstBadOpening.l0 k y0 y1 y2 y3 y4) (impl_FirstBadOpening.l0 (k + 1) y0 y1 y2 y3 y4))
  | 0 => ⟨fun _ _ _ r h => by simp [impl_FirstBadOpening.j0] at h, fun _ _ _ _ _ r h => by simp [impl_FirstBadOpening.l0] at h⟩
  | k + 1 => by
    obtain ⟨ih0, ih1⟩ := impl_FirstBadOpening.mono_l k
    refine ⟨?_, ?_⟩
    · intro y0 y1 y2
      unfold impl_FirstBadOpening.j0
      repeat' first
      | (with_reducible exact ih0 _ _ _)
      | (with_reducible exact ih1 _ _ _ _ _)
      | (with_reducible exact impl_OpensTo.mono _ _ _ _ _ _)
      | (with_reducible exact impl_areSealed.mono _ _)
      | (with_reducible exact slices_ContainsFunc_impl_FirstBadOpening_1.mono _ _ _)
      | (with_reducible exact LeO.refl _)
      | (with_reducible exact LeO.none _)
      | (with_reducible refine LeO.ite ?_ ?_)
      | (with_reducible refine LeO.bind ?_ (fun _ => ?_))
      | exact ih0 _ _ _
      | exact ih1 _ _ _ _ _
      | exact impl_OpensTo.mono _ _ _ _ _ _
      | exact impl_areSealed.mono _ _
      | exact slices_ContainsFunc_impl_FirstBadOpening_1.mono _ _ _
      | exact LeO.none _
      | refine LeO.ite ?_ ?_
      | refine LeO.bind ?_ (fun _ => ?_)
    · intro y0 y1 y2 y3 y4
      unfold impl_FirstBadOpening.l0
      repeat' first
      | (with_reducible exact ih0 _ _ _)
      | (with_reducible exact ih1 _ _ _ _ _)
      | (with_reducible exact impl_OpensTo.mono _ _ _ _ _ _)
      | (with_reducible exact impl_areSealed.mono _ _)
      | (with_reducible exact slices_ContainsFunc_impl_FirstBadOpening_1.mono _ _ _)
      | (with_reducible exact LeO.refl _)
      | (with_reducible exact LeO.none _)
      | (with_reducible refine LeO.ite ?_ ?_)
      | (with_reducible refine LeO.bind ?_ (fun _ => ?_))
      | exact ih0 _ _ _
      | exact ih1 _ _ _ _ _
      | exact impl_OpensTo.mono _ _ _ _ _ _
      | exact impl_areSealed.mono _ _
      | exact slices_ContainsFunc_impl_FirstBadOpening_1.mono _ _ _
      | exact LeO.none _
      | refine LeO.ite ?_ ?_
      | refine LeO.bind ?_ (fun _ => ?_)
theorem impl_FirstBadOpening.mono : ∀ a0 a1 k, LeO (impl_FirstBadOpening.f k a0 a1) (impl_FirstBadOpening.f (k + 1) a0 a1) := by
  intro a0 a1 k
  obtain ⟨ih0, ih1⟩ := impl_FirstBadOpening.mono_l k
  unfold impl_FirstBadOpening.f
  repeat' first
      | (with_reducible exact ih0 _ _ _)
      | (with_reducible exact ih1 _ _ _ _ _)
      | (with_reducible exact impl_OpensTo.mono _ _ _ _ _ _)
      | (with_reducible exact impl_areSealed.mono _ _)
      | (with_reducible exact slices_ContainsFunc_impl_FirstBadOpening_1.mono _ _ _)
      | (with_reducible exact LeO.refl _)
      | (with_reducible exact LeO.none _)
      | (with_reducible refine LeO.ite ?_ ?_)
      | (with_reducible refine LeO.bind ?_ (fun _ => ?_))
      | exact ih0 _ _ _
      | exact ih1 _ _ _ _ _
      | exact impl_OpensTo.mono _ _ _ _ _ _
      | exact impl_areSealed.mono _ _
      | exact slices_ContainsFunc_impl_FirstBadOpening_1.mono _ _ _
      | exact LeO.none _
      | refine LeO.ite ?_ ?_
      | refine LeO.bind ?_ (fun _ => ?_)
def impl_FirstBadOpening.T6 : Bool × List (List Nat × List Nat) := (true, [([], []), ([], []), ([], []), ([1, 2], [1, 2]), ([3], [3]), ([0, 4], [0, 4]), ([5], [5]), ([6], [6]), ([6], [6]), ([7, 5, 0, 1, 2, 3, 4, 5, 6, 7], [7]), ([8, 9, 0, 1, 2, 3, 4, 5, 6, 7, 8, 9], [8])])
def impl_FirstBadOpening.B6 : List Nat := [0, 0, 0, 6, 14, 31, 63, 127, 127, 255, 1023]
theorem impl_FirstBadOpening.tab6 : rtab .any (opsOf Try.f80 6) = impl_FirstBadOpening.T6 := by kernel_rfl
theorem impl_FirstBadOpening.bits6 : waitsOk impl_FirstBadOpening.T6.2 impl_FirstBadOpening.B6 = true := by kernel_rfl
set_option maxHeartbeats 8000000 in
set_option maxRecDepth 100000 in
theorem impl_FirstBadOpening.calls (k : Nat) (A0 : Option Addr) (c0 : Nat) (l0 : List (S25)) (A1 : Option Addr) (c1 : Nat) (l1 : List (S55)) (r1 : Int) (r2 : Bool) (w : World) (hr0 : Kd.C k25 w A0 l0.length l0) (hc0 : l0.length ≤ c0) (hr1 : Kd.C k55 w A1 l1.length l1) (hc1 : l1.length ≤ c1) (h : impl_FirstBadOpening.f k l0 l1 = some (r1, r2)) :
    Calls Try.prog 80 #[.slice A0 l0.length c0, .slice A1 l1.length c1] w fun e w' => e = .returned (.tuple #[.int .i64 r1, .bool r2]) ∧ Below w.heap.size w w' := by
  have hu25 := Try.underlying25
  have hu55 := Try.underlying55
  have HR0 := Aside0.mk hr0
  have HC0 := Aside0.mk hc0
  clear hr0 hc0
  have HR1 := Aside0.mk hr1
  have HC1 := Aside0.mk hc1
  clear hr1 hc1
  have HB := Aside0.mk (Below.refl w.heap.size w)
  have H : ((impl_areSealed.f k l0).bind fun t787 => (if t787 = true then (if (l1.length : Int) = (l0.length : Int) then ((slices_ContainsFunc_impl_FirstBadOpening_1.f k l1 ()).bind fun t788 => (impl_FirstBadOpening.j0 k l0 l1 t788)) else (impl_FirstBadOpening.j0 k l0 l1 true)) else (impl_FirstBadOpening.j0 k l0 l1 true))) = some (r1, r2) := h
  clear h
  have HC3 := Aside0.mk H
  clear H
  go_enter Try.func80, Try.ntmps80
  go_upto_region 1 with (fail)
  go_cut [23] (fun v23 wc => ∃ (kq : Nat) (x23_2 : Bool), v23 = .bool x23_2 ∧ Aside0 (impl_FirstBadOpening.j0 kq l0 l1 x23_2 = some (r1, r2)) ∧ Aside0 (kq ≤ k) ∧ Aside0 (Below w.heap.size w wc))
  case first =>
    have H := HC3.out
    clear HC3
    replace H := Option.bind_eq_some_iff.mp H
    obtain ⟨t787, A40, H⟩ := H
    replace H : (if t787 = true then (if (l1.length : Int) = (l0.length : Int) then ((slices_ContainsFunc_impl_FirstBadOpening_1.f k l1 ()).bind fun t788 => (impl_FirstBadOpening.j0 k l0 l1 t788)) else (impl_FirstBadOpening.j0 k l0 l1 true)) else (impl_FirstBadOpening.j0 k l0 l1 true)) = some (r1, r2) := H
    have A4 := Aside0.mk A40
    clear A40
    by_cases c5 : t787 = true
    · subst c5
      have H1 : (if (l1.length : Int) = (l0.length : Int) then ((slices_ContainsFunc_impl_FirstBadOpening_1.f k l1 ()).bind fun t788 => (impl_FirstBadOpening.j0 k l0 l1 t788)) else (impl_FirstBadOpening.j0 k l0 l1 true)) = some (r1, r2) := by rw [if_pos rfl] at H; exact H
      clear H
      have H := H1
      clear H1
      by_cases c6 : (l1.length : Int) = (l0.length : Int)
      · rw [if_pos c6] at H
        have c6b0 : ((l1.length : Int) == (l0.length : Int)) = true := beq_iff_eq.mpr c6
        have c6b1 : ((l1.length : Int) != (l0.length : Int)) = false := bne_eq_false_iff_eq.mpr c6
        have c6b2 : (l1.length == l0.length) = true := by first | simpa using c6 | (simp at c6 ⊢; omega)
        clear c6
        (first | rw [c6b0] | (simp only [i64_w, i32_w]; rw [c6b0]) | skip)
        replace H := Option.bind_eq_some_iff.mp H
        obtain ⟨t788, A70, H⟩ := H
        replace H : (impl_FirstBadOpening.j0 k l0 l1 t788) = some (r1, r2) := H
        have A7 := Aside0.mk A70
        clear A70
        have H' := Aside0.mk H
        clear H
        go_wp2_with (first | ((with_reducible refine gate_callee (f := 115) rfl ?_); refine goesL_ (some 11) rfl rfl Try.func115 (by kernel_rfl) rfl #[.slice A0 l0.length c0] rfl (by (try simp only [List.map_toArray, List.map_cons, List.map_nil]); first | done | rfl | (simp only [List.length_drop, List.length_take]; rfl)) ?_; (with_reducible refine (impl_areSealed.calls k _ _ l0 true _ ?side1 ?side2 A4.out).mono ?_); (case side1 => repeat (first | exact (Kd.C_below HR0.out HB.out) | (with_reducible refine Kd.C_alloc ?_ _) | (with_reducible refine Kd.C_drewN ?_ _) | (with_reducible refine Kd.C_drew ?_))); (case side2 => exact HC0.out); rintro e w8 ⟨rfl, hb⟩; refine ⟨_, rfl, ?_⟩; have n0_ := Aside0.mk (below_step (by repeat (first | (with_reducible first | exact HB.out | apply below_alloc | apply pw_below_drewN | apply below_drew1) | exact HB.out)) hb); clear HB; have HB := n0_; clear n0_; (try clear hb); (try clear hb2); (try clear hk); (try clear hi)) | (go_at_call 124; (with_reducible refine (slices_ContainsFunc_impl_FirstBadOpening_1.calls k _ _ l1 () t788 _ ?side1 ?side2 A7.out).mono ?_); (case side1 => repeat (first | exact (Kd.C_below HR1.out HB.out) | (with_reducible refine Kd.C_alloc ?_ _) | (with_reducible refine Kd.C_drewN ?_ _) | (with_reducible refine Kd.C_drew ?_))); (case side2 => exact HC1.out); rintro e w9 ⟨rfl, hb⟩; have n0_ := Aside0.mk (below_step (by repeat (first | (with_reducible first | exact HB.out | apply below_alloc | apply pw_below_drewN | apply below_drew1) | exact HB.out)) hb); clear HB; have HB := n0_; clear n0_; (try clear hb); (try clear hb2); (try clear hk); (try clear hi)))
        go_meet
        case rel => exact ⟨_, (t788), (by first | rfl | (simp; done) | (simp [*]; done)), H', ⟨by first | omega | exact Nat.le_refl _⟩, ⟨by repeat (first | (with_reducible first | exact HB.out | apply below_alloc | apply pw_below_drewN | apply below_drew1) | exact HB.out)⟩⟩
      · rw [if_neg c6] at H
        have c6b0 : ((l1.length : Int) == (l0.length : Int)) = false := beq_eq_false_iff_ne.mpr c6
        have c6b1 : ((l1.length : Int) != (l0.length : Int)) = true := bne_iff_ne.mpr c6
        have c6b2 : (l1.length == l0.length) = false := by first | simpa using c6 | (simp at c6 ⊢; omega)
        (first | rw [c6b0] | (simp only [i64_w, i32_w]; rw [c6b0]) | skip)
        have H' := Aside0.mk H
        clear H
        go_wp2_with (first | ((with_reducible refine gate_callee (f := 115) rfl ?_); refine goesL_ (some 11) rfl rfl Try.func115 (by kernel_rfl) rfl #[.slice A0 l0.length c0] rfl (by (try simp only [List.map_toArray, List.map_cons, List.map_nil]); first | done | rfl | (simp only [List.length_drop, List.length_take]; rfl)) ?_; (with_reducible refine (impl_areSealed.calls k _ _ l0 true _ ?side1 ?side2 A4.out).mono ?_); (case side1 => repeat (first | exact (Kd.C_below HR0.out HB.out) | (with_reducible refine Kd.C_alloc ?_ _) | (with_reducible refine Kd.C_drewN ?_ _) | (with_reducible refine Kd.C_drew ?_))); (case side2 => exact HC0.out); rintro e w10 ⟨rfl, hb⟩; refine ⟨_, rfl, ?_⟩; have n0_ := Aside0.mk (below_step (by repeat (first | (with_reducible first | exact HB.out | apply below_alloc | apply pw_below_drewN | apply below_drew1) | exact HB.out)) hb); clear HB; have HB := n0_; clear n0_; (try clear hb); (try clear hb2); (try clear hk); (try clear hi)))
        go_meet
        case rel => exact ⟨_, (true), (by first | rfl | (simp; done) | (simp [*]; done)), H', ⟨by first | omega | exact Nat.le_refl _⟩, ⟨by repeat (first | (with_reducible first | exact HB.out | apply below_alloc | apply pw_below_drewN | apply below_drew1) | exact HB.out)⟩⟩
    · replace c5 := Bool.eq_false_iff.mpr c5
      subst c5
      have H1 : (impl_FirstBadOpening.j0 k l0 l1 true) = some (r1, r2) := by rw [if_neg (show ¬ (false = true) by decide)] at H; exact H
      clear H
      have H := H1
      clear H1
      have H' := Aside0.mk H
      clear H
      go_wp2_with (first | ((with_reducible refine gate_callee (f := 115) rfl ?_); refine goesL_ (some 11) rfl rfl Try.func115 (by kernel_rfl) rfl #[.slice A0 l0.length c0] rfl (by (try simp only [List.map_toArray, List.map_cons, List.map_nil]); first | done | rfl | (simp only [List.length_drop, List.length_take]; rfl)) ?_; (with_reducible refine (impl_areSealed.calls k _ _ l0 false _ ?side1 ?side2 A4.out).mono ?_); (case side1 => repeat (first | exact (Kd.C_below HR0.out HB.out) | (with_reducible refine Kd.C_alloc ?_ _) | (with_reducible refine Kd.C_drewN ?_ _) | (with_reducible refine Kd.C_drew ?_))); (case side2 => exact HC0.out); rintro e w11 ⟨rfl, hb⟩; refine ⟨_, rfl, ?_⟩; have n0_ := Aside0.mk (below_step (by repeat (first | (with_reducible first | exact HB.out | apply below_alloc | apply pw_below_drewN | apply below_drew1) | exact HB.out)) hb); clear HB; have HB := n0_; clear n0_; (try clear hb); (try clear hb2); (try clear hk); (try clear hi)))
      go_meet
      case rel => exact ⟨_, (true), (by first | rfl | (simp; done) | (simp [*]; done)), H', ⟨by first | omega | exact Nat.le_refl _⟩, ⟨by repeat (first | (with_reducible first | exact HB.out | apply below_alloc | apply pw_below_drewN | apply below_drew1) | exact HB.out)⟩⟩
  case rest =>
    clear HC3
    try clear c1
    try clear p2
    try clear c5
    try clear c6
    try clear c6b0
    try clear c6b1
    try clear c6b2
    try clear c8
    try clear c11
    obtain ⟨kq, x23_2, rfl, HA, HJ2, HB⟩ := hcut
    cases kq with
    | zero => exact absurd HA.out (by simp [impl_FirstBadOpening.j0])
    | succ kj2 =>
      have H := HA.out
      clear HA
      simp only [impl_FirstBadOpening.j0] at H
      by_cases c12 : x23_2 = true
      · subst c12
        have H1 : (some (0, false)) = some (r1, r2) := by rw [if_pos rfl] at H; exact H
        clear H
        have H := H1
        clear H1
        simp only [Option.some.injEq, Prod.mk.injEq] at H
        obtain ⟨rfl, rfl⟩ := H
        go_wp2
        go_ret2
        exact ⟨by first | rfl | (simp [errW_none, errW_some] <;> rfl) | (simp [*, errW_none, errW_some] <;> rfl), by repeat (first | (with_reducible first | exact HB.out | apply below_alloc | apply pw_below_drewN | apply below_drew1) | exact HB.out)⟩
      · replace c12 := Bool.eq_false_iff.mpr c12
        subst c12
        have H1 : (impl_FirstBadOpening.l0 kj2 l0 l1 l0 (l0.length : Int) 0) = some (r1, r2) := by rw [if_neg (show ¬ (false = true) by decide)] at H; exact H
        clear H
        have H := H1
        clear H1
        have H' := Aside0.mk H
        clear H
        go_wp2
        go_loopg [26] kj2 (fun kq v26 w' => ∃ (x26_2 : Int), v26 = .int .i64 x26_2 ∧ Aside0 (impl_FirstBadOpening.l0 kq l0 l1 l0 (l0.length : Int) x26_2 = some (r1, r2)) ∧ Aside0 (kq ≤ kj2) ∧ Aside0 (Below w.heap.size w w'))
        case atStart => exact ⟨(0), (by first | rfl | (simp; done) | (simp [*]; done)), H', ⟨Nat.le_refl _⟩, ⟨by repeat (first | (with_reducible first | exact HB.out | apply below_alloc | apply pw_below_drewN | apply below_drew1) | exact HB.out)⟩⟩
        case round =>
          clear H'
          try clear c1
          try clear p2
          try clear c5
          try clear c6
          try clear c6b0
          try clear c6b1
          try clear c6b2
          try clear c8
          try clear c11
          try clear c12
          try clear p2
          obtain ⟨x26_2, rfl, HA, HK2, HB⟩ := hrel
          cases gk with
          | zero => exact absurd HA.out (by simp [impl_FirstBadOpening.l0])
          | succ k2 =>
            have H := HA.out
            clear HA
            simp only [impl_FirstBadOpening.l0] at H
            by_cases c13 : x26_2 < (l0.length : Int)
            · rw [if_pos c13] at H
              have c13b0 : decide (x26_2 < (l0.length : Int)) = true := decide_eq_true c13
              clear c13
              by_cases c14 : 0 ≤ x26_2
              · rw [if_pos c14] at H
                have c14b0 : decide (0 ≤ x26_2) = true := decide_eq_true c14
                clear c14
                by_cases c15 : x26_2 < (l0.length : Int)
                · rw [if_pos c15] at H
                  have c15b0 : decide (x26_2 < (l0.length : Int)) = true := decide_eq_true c15
                  clear c15
                  by_cases c16 : x26_2 < (l1.length : Int)
                  · rw [if_pos c16] at H
                    have c16b0 : decide (x26_2 < (l1.length : Int)) = true := decide_eq_true c16
                    clear c16
                    replace H := Option.bind_eq_some_iff.mp H
                    obtain ⟨⟨t792, t793⟩, A170, H⟩ := H
                    replace H : (if t792 = true then (impl_FirstBadOpening.l0 k2 l0 l1 l0 (l0.length : Int) (wrap64 (x26_2 + 1))) else (some (x26_2, true))) = some (r1, r2) := H
                    have A17 := Aside0.mk A170
                    clear A170
                    by_cases c18 : t792 = true
                    · subst c18
                      have H1 : (impl_FirstBadOpening.l0 k2 l0 l1 l0 (l0.length : Int) (wrap64 (x26_2 + 1))) = some (r1, r2) := by rw [if_pos rfl] at H; exact H
                      clear H
                      have H := H1
                      clear H1
                      have H' := Aside0.mk H
                      clear H
                      have p789 : 0 ≤ (x26_2 : Int) := of_decide_eq_true (by first | (with_reducible assumption) | assumption)
                      have q789 : x26_2 < (l0.length : Int) := of_decide_eq_true (by first | (with_reducible assumption) | assumption)
                      obtain ⟨ad789, e789, hx789_0, hx789_1, hx789_2⟩ := at_T25 HR0.out x26_2 p789 q789
                      cases e789
                      replace hx789_0 := (HB.out.cell (World.block_lt_of_cell? w _ hx789_0)).trans hx789_0
                      replace hx789_1 := (HB.out.cell (World.block_lt_of_cell? w _ hx789_1)).trans hx789_1
                      replace hx789_2 := (HB.out.cell (World.block_lt_of_cell? w _ hx789_2)).trans hx789_2
                      replace p789 := eq_true p789
                      replace q789 := eq_true q789
                      try go_wp2_with (first | ((with_reducible refine gate_dst (N := 7) rfl ?_); refine box_event ?hg (N := 7) ?hd (cs := #[.int .i64 0, .int .i64 0, .int .i64 0]) (t := 25) ?hr ?_; (case hd => rfl); (case hg => rfl); (case hr => first | (go_simp; done) | (go_simp; rfl)); intro gb790 hg w19 hbox hb; have n0_ := Aside0.mk (below_step (by repeat (first | (with_reducible first | exact HB.out | apply below_alloc | apply pw_below_drewN | apply below_drew1) | exact HB.out)) hb); have n1_ := Aside0.mk (hbox); have n2_ := Aside0.mk ((by rw [hg]; exact (below_size (by repeat (first | (with_reducible first | exact HB.out | apply below_alloc | apply pw_below_drewN | apply below_drew1) | exact HB.out))) : w.heap.size ≤ gb790)); have n3_ := Aside0.mk ((by rw [hg]; exact (below_size (by repeat (first | (with_reducible first | exact HB.out | apply below_alloc | apply pw_below_drewN | apply below_drew1) | exact HB.out))) : w.heap.size ≤ gb790)); clear HB; have HB := n0_; have BK790 := n1_; have GW790 := n2_; have GE790 := n3_; clear n0_ n1_ n2_ n3_; clear hb hbox hg; have hcz20_0 : w19.cell? ⟨gb790, 0, none⟩ = some (.int .i64 0) := (blk_cell BK790.out 0).trans rfl; have hcz20_1 : w19.cell? ⟨gb790, 1, none⟩ = some (.int .i64 0) := (blk_cell BK790.out 1).trans rfl; have hcz20_2 : w19.cell? ⟨gb790, 2, none⟩ = some (.int .i64 0) := (blk_cell BK790.out 2).trans rfl; have hfz20_0 := blk_frozen BK790.out 0; have hfz20_1 := blk_frozen BK790.out 1; have hfz20_2 := blk_frozen BK790.out 2))
                      have n0_ : Aside0 ((((w19.setCell ⟨gb790, 0, none⟩ (.int .i64 ((rd_T25 l0 x26_2).f0))).setCell ⟨gb790, 1, none⟩ (.int .i64 ((rd_T25 l0 x26_2).f1))).setCell ⟨gb790, 2, none⟩ (.int .i64 ((rd_T25 l0 x26_2).f2))).heap[gb790]? = some (.cells #[.int .i64 ((rd_T25 l0 x26_2).f0), .int .i64 ((rd_T25 l0 x26_2).f1), .int .i64 ((rd_T25 l0 x26_2).f2)] 25 (0, 0))) := ⟨by (with_reducible repeat (first | refine blk_drewN ?_ _ | refine blk_drew ?_ | refine blk_alloc ?_ _)); refine blk_put (cs := #[.int .i64 ((rd_T25 l0 x26_2).f0), .int .i64 ((rd_T25 l0 x26_2).f1), .int .i64 0]) ?_ 2 _ rfl; (with_reducible repeat (first | refine blk_drewN ?_ _ | refine blk_drew ?_ | refine blk_alloc ?_ _)); refine blk_put (cs := #[.int .i64 ((rd_T25 l0 x26_2).f0), .int .i64 0, .int .i64 0]) ?_ 1 _ rfl; (with_reducible repeat (first | refine blk_drewN ?_ _ | refine blk_drew ?_ | refine blk_alloc ?_ _)); refine blk_put (cs := #[.int .i64 0, .int .i64 0, .int .i64 0]) ?_ 0 _ rfl; (with_reducible repeat (first | refine blk_drewN ?_ _ | refine blk_drew ?_ | refine blk_alloc ?_ _)); exact BK790.out⟩
                      have n1_ : Aside0 (Below w.heap.size w (((w19.setCell ⟨gb790, 0, none⟩ (.int .i64 ((rd_T25 l0 x26_2).f0))).setCell ⟨gb790, 1, none⟩ (.int .i64 ((rd_T25 l0 x26_2).f1))).setCell ⟨gb790, 2, none⟩ (.int .i64 ((rd_T25 l0 x26_2).f2)))) := ⟨by repeat (first | (with_reducible first | exact HB.out | apply below_alloc | apply pw_below_drewN | apply below_drew1 | refine below_set ?_ GE790.out) | exact HB.out)⟩
                      (try clear BK790)
                      (try clear HB)
                      generalize (((w19.setCell ⟨gb790, 0, none⟩ (.int .i64 ((rd_T25 l0 x26_2).f0))).setCell ⟨gb790, 1, none⟩ (.int .i64 ((rd_T25 l0 x26_2).f1))).setCell ⟨gb790, 2, none⟩ (.int .i64 ((rd_T25 l0 x26_2).f2))) = w21 at n0_ n1_ ⊢
                      have BK790 := n0_
                      have HB := n1_
                      clear n0_ n1_
                      have n0_ := Aside0.mk (blk_drew BK790.out)
                      have n1_ := Aside0.mk (below_drew1 HB.out)
                      clear BK790
                      clear HB
                      have BK790 := n0_
                      have HB := n1_
                      clear n0_ n1_
                      have p791 : 0 ≤ (x26_2 : Int) := of_decide_eq_true (by first | (with_reducible assumption) | assumption)
                      have q791 : x26_2 < (l1.length : Int) := of_decide_eq_true (by first | (with_reducible assumption) | assumption)
                      obtain ⟨ad791, e791, hx791_0, hx791_1⟩ := at_T55 HR1.out x26_2 p791 q791
                      have hw791_1 := hx791_1
                      have hw791_0 := hx791_0
                      cases e791
                      replace hx791_0 := (HB.out.cell (World.block_lt_of_cell? w _ hx791_0)).trans hx791_0
                      replace hx791_1 := (HB.out.cell (World.block_lt_of_cell? w _ hx791_1)).trans hx791_1
                      replace p791 := eq_true p791
                      replace q791 := eq_true q791
                      refine start_ (n := 11) (S := fun w' => w'.cell? ⟨gb790, 0, none⟩ = some (.int .i64 ((rd_T25 l0 x26_2).f0)) ∧ w'.cell? ⟨gb790, 1, none⟩ = some (.int .i64 ((rd_T25 l0 x26_2).f1)) ∧ w'.cell? ⟨gb790, 2, none⟩ = some (.int .i64 ((rd_T25 l0 x26_2).f2)) ∧ w'.cell? (ad791.add ((x26_2).toNat * 2)) = some (.int .i64 ((rd_T55 l1 x26_2).f0)) ∧ w'.cell? ⟨(ad791.add ((x26_2).toNat * 2)).block, (ad791.add ((x26_2).toNat * 2)).off + 1, none⟩ = some (.string ((rd_T55 l1 x26_2).f1))) (ds := []) #[false, false, false, false, false, false, false, false, false, false, false] (by kernel_rfl) rfl rfl ⟨(blk_cell BK790.out 0).trans rfl, (blk_cell BK790.out 1).trans rfl, (blk_cell BK790.out 2).trans rfl, ((HB.out.cell (World.block_lt_of_cell? w _ hw791_0)).trans hw791_0), ((HB.out.cell (World.block_lt_of_cell? w _ hw791_1)).trans hw791_1)⟩ (fun hHeld => ?_); refine with_tabW impl_FirstBadOpening.tab6 impl_FirstBadOpening.bits6 (fun HT_ HW_ => ?_)
                      generalize w21.drew = w22 at BK790 HB hx791_0 hx791_1 hHeld ⊢
                      refine pure_ (i := 1) (N := some 33) (v := ?_) (a' := ?_) #[false, true, false, false, false, false, false, false, false, false, false] rfl rfl (any_of HT_.out (by kernel_rfl)) (fun _ _ _ h => h) (Or.inl ⟨by rfl, ?_⟩) ?_ ?_
                      rotate_left
                      · intro w'
                        go_simp
                        with_reducible rfl
                      rotate_left
                      · simp only [Act.put, List.setIfInBounds_toArray, List.set_cons_zero, List.set_cons_succ, i64_w, i32_w]
                        rfl
                      refine pure_ (i := 2) (N := some 34) (v := ?_) (a' := ?_) #[false, true, true, false, false, false, false, false, false, false, false] rfl rfl (any_of HT_.out (by kernel_rfl)) (fun _ _ _ h => h) (Or.inl ⟨by rfl, ?_⟩) ?_ ?_
                      rotate_left
                      · intro w'
                        go_simp
                        with_reducible rfl
                      rotate_left
                      · simp only [Act.put, List.setIfInBounds_toArray, List.set_cons_zero, List.set_cons_succ, i64_w, i32_w]
                        rfl
                      refine pure_ (i := 3) (N := some 35) (v := ?_) (a' := ?_) #[false, true, true, true, false, false, false, false, false, false, false] rfl rfl (any_of HT_.out (by kernel_rfl)) (fun _ _ _ h => h) (Or.inl ⟨by rfl, ?_⟩) ?_ ?_
                      rotate_left
                      · intro w'
                        go_simp
                        with_reducible rfl
                      rotate_left
                      · simp only [Act.put, List.setIfInBounds_toArray, List.set_cons_zero, List.set_cons_succ, i64_w, i32_w]
                        rfl
                      refine take_ (i := 0) (N := some 32) (v := ?_) (a' := ?_) #[true, true, true, true, false, false, false, false, false, false, false] rfl rfl (take_ofW HT_.out HW_.out (by kernel_rfl)) (fun _ _ _ h => h) (Or.inl ⟨by rfl, ?_⟩) hHeld ?_ ?_
                      rotate_left
                      · rintro w' ⟨s0, s1, s2, s3, s4⟩
                        go_simp
                        with_reducible rfl
                      rotate_left
                      · simp only [Act.put, List.setIfInBounds_toArray, List.set_cons_zero, List.set_cons_succ, i64_w, i32_w]
                        rfl
                      refine take_ (i := 4) (N := some 36) (v := ?_) (a' := ?_) #[true, true, true, true, true, false, false, false, false, false, false] rfl rfl (take_ofW HT_.out HW_.out (by kernel_rfl)) (fun _ _ _ h => h) (Or.inl ⟨by rfl, ?_⟩) hHeld ?_ ?_
                      rotate_left
                      · rintro w' ⟨s0, s1, s2, s3, s4⟩
                        go_simp
                        with_reducible rfl
                      rotate_left
                      · simp only [Act.put, List.setIfInBounds_toArray, List.set_cons_zero, List.set_cons_succ, i64_w, i32_w]
                        rfl
                      refine one_ (i := 5) (N := some 37) #[true, true, true, true, true, true, false, false, false, false, false] rfl rfl (one_of HT_.out (by kernel_rfl)) (by decide) (fun K hK => ?_)
                      refine goes_ Try.func59 (by kernel_rfl) rfl #[.agg #[.int .i64 ((rd_T25 l0 x26_2).f0), .int .i64 ((rd_T25 l0 x26_2).f1), .int .i64 ((rd_T25 l0 x26_2).f2)], .agg #[.int .i64 ((rd_T55 l1 x26_2).f0), .string ((rd_T55 l1 x26_2).f1)]] (by rfl) rfl rfl (by (try simp only [List.map_toArray, List.map_cons, List.map_nil]); first | done | rfl | (simp only [List.length_drop, List.length_take]; rfl)) ?_
                      with_reducible refine (impl_OpensTo.calls k2 ((rd_T25 l0 x26_2).f0) ((rd_T25 l0 x26_2).f1) ((rd_T25 l0 x26_2).f2) ((rd_T55 l1 x26_2).f0) ((rd_T55 l1 x26_2).f1) true t793 _ A17.out).mono ?_
                      rintro e w23 ⟨rfl, hb⟩
                      refine ⟨_, rfl, ?_⟩
                      have n0_ := Aside0.mk (blk_below (g := gb790) (o := .cells #[.int .i64 ((rd_T25 l0 x26_2).f0), .int .i64 ((rd_T25 l0 x26_2).f1), .int .i64 ((rd_T25 l0 x26_2).f2)] 25 (0, 0)) (by (with_reducible repeat (first | refine blk_drewN ?_ _ | refine blk_drew ?_ | refine blk_alloc ?_ _)); exact BK790.out) hb)
                      have n1_ := Aside0.mk (below_step (by repeat (first | (with_reducible first | exact HB.out | apply below_alloc | apply pw_below_drewN | apply below_drew1 | refine below_set ?_ GE790.out) | exact HB.out)) hb)
                      clear BK790
                      clear HB
                      have BK790 := n0_
                      have HB := n1_
                      clear n0_ n1_
                      (try clear hb)
                      (try clear hb2)
                      (try clear hk)
                      (try clear hi)
                      refine hK.out _ _ ⟨(blk_cell BK790.out 0).trans rfl, (blk_cell BK790.out 1).trans rfl, (blk_cell BK790.out 2).trans rfl, ((HB.out.cell (World.block_lt_of_cell? w _ hw791_0)).trans hw791_0), ((HB.out.cell (World.block_lt_of_cell? w _ hw791_1)).trans hw791_1)⟩ (fun hHeld => ?_)
                      clear hK K
                      refine norm_ (a' := ?_) ?_ ?_
                      rotate_left
                      · show Act.put _ (some 37) _ = _
                        simp only [Act.put, List.setIfInBounds_toArray, List.set_cons_zero, List.set_cons_succ, i64_w, i32_w]
                        rfl
                      refine pure_ (i := 6) (N := some 31) (v := ?_) (a' := ?_) #[true, true, true, true, true, true, true, false, false, false, false] rfl rfl (any_of HT_.out (by kernel_rfl)) (fun _ _ _ h => h) (Or.inl ⟨by rfl, ?_⟩) ?_ ?_
                      rotate_left
                      · intro w'
                        go_simp
                        with_reducible rfl
                      rotate_left
                      · simp only [Act.put, List.setIfInBounds_toArray, List.set_cons_zero, List.set_cons_succ, i64_w, i32_w]
                        rfl
                      refine pure_ (i := 7) (N := some 38) (v := ?_) (a' := ?_) #[true, true, true, true, true, true, true, true, false, false, false] rfl rfl (any_of HT_.out (by kernel_rfl)) (fun _ _ _ h => h) (Or.inl ⟨by rfl, ?_⟩) ?_ ?_
                      rotate_left
                      · intro w'
                        go_simp
                        with_reducible rfl
                      rotate_left
                      · simp only [Act.put, List.setIfInBounds_toArray, List.set_cons_zero, List.set_cons_succ, i64_w, i32_w]
                        rfl
                      refine pure_ (i := 8) (N := some 39) (v := ?_) (a' := ?_) #[true, true, true, true, true, true, true, true, true, false, false] rfl rfl (any_of HT_.out (by kernel_rfl)) (fun _ _ _ h => h) (Or.inl ⟨by rfl, ?_⟩) ?_ ?_
                      rotate_left
                      · intro w'
                        go_simp
                        with_reducible rfl
                      rotate_left
                      · simp only [Act.put, List.setIfInBounds_toArray, List.set_cons_zero, List.set_cons_succ, i64_w, i32_w]
                        rfl
                      refine pure_ (i := 9) (N := some 8) (v := ?_) (a' := ?_) #[true, true, true, true, true, true, true, true, true, true, false] rfl rfl (any_of HT_.out (by kernel_rfl)) (fun _ _ _ h => h) (Or.inl ⟨by rfl, ?_⟩) ?_ ?_
                      rotate_left
                      · intro w'
                        go_simp
                        with_reducible rfl
                      rotate_left
                      · simp only [Act.put, List.setIfInBounds_toArray, List.set_cons_zero, List.set_cons_succ, i64_w, i32_w]
                        rfl
                      refine pure_ (i := 10) (N := some 9) (v := ?_) (a' := ?_) #[true, true, true, true, true, true, true, true, true, true, true] rfl rfl (any_of HT_.out (by kernel_rfl)) (fun _ _ _ h => h) (Or.inl ⟨by rfl, ?_⟩) ?_ ?_
                      rotate_left
                      · intro w'
                        go_simp
                        with_reducible rfl
                      rotate_left
                      · simp only [Act.put, List.setIfInBounds_toArray, List.set_cons_zero, List.set_cons_succ, i64_w, i32_w]
                        rfl
                      refine done_ (done_of HT_.out (by kernel_rfl)) ?_
                      try go_wp2
                      go_roundg k2
                      case measure => have := HJ2.out; have := HK2.out; omega
                      case rel => exact ⟨(wrap64 (x26_2 + 1)), (by first | rfl | (simp; done) | (simp [*]; done)), H', ⟨by have := HJ2.out; have := HK2.out; omega⟩, ⟨by repeat (first | (with_reducible first | exact HB.out | apply below_alloc | apply pw_below_drewN | apply below_drew1 | refine below_set ?_ GE790.out) | exact HB.out)⟩⟩
                    · replace c18 := Bool.eq_false_iff.mpr c18
                      subst c18
                      have H1 : (some (x26_2, true)) = some (r1, r2) := by rw [if_neg (show ¬ (false = true) by decide)] at H; exact H
                      clear H
                      have H := H1
                      clear H1
                      simp only [Option.some.injEq, Prod.mk.injEq] at H
                      obtain ⟨rfl, rfl⟩ := H
                      have p789 : 0 ≤ (x26_2 : Int) := of_decide_eq_true (by first | (with_reducible assumption) | assumption)
                      have q789 : x26_2 < (l0.length : Int) := of_decide_eq_true (by first | (with_reducible assumption) | assumption)
                      obtain ⟨ad789, e789, hx789_0, hx789_1, hx789_2⟩ := at_T25 HR0.out x26_2 p789 q789
                      cases e789
                      replace hx789_0 := (HB.out.cell (World.block_lt_of_cell? w _ hx789_0)).trans hx789_0
                      replace hx789_1 := (HB.out.cell (World.block_lt_of_cell? w _ hx789_1)).trans hx789_1
                      replace hx789_2 := (HB.out.cell (World.block_lt_of_cell? w _ hx789_2)).trans hx789_2
                      replace p789 := eq_true p789
                      replace q789 := eq_true q789
                      try go_wp2_with (first | ((with_reducible refine gate_dst (N := 7) rfl ?_); refine box_event ?hg (N := 7) ?hd (cs := #[.int .i64 0, .int .i64 0, .int .i64 0]) (t := 25) ?hr ?_; (case hd => rfl); (case hg => rfl); (case hr => first | (go_simp; done) | (go_simp; rfl)); intro gb790 hg w24 hbox hb; have n0_ := Aside0.mk (below_step (by repeat (first | (with_reducible first | exact HB.out | apply below_alloc | apply pw_below_drewN | apply below_drew1) | exact HB.out)) hb); have n1_ := Aside0.mk (hbox); have n2_ := Aside0.mk ((by rw [hg]; exact (below_size (by repeat (first | (with_reducible first | exact HB.out | apply below_alloc | apply pw_below_drewN | apply below_drew1) | exact HB.out))) : w.heap.size ≤ gb790)); have n3_ := Aside0.mk ((by rw [hg]; exact (below_size (by repeat (first | (with_reducible first | exact HB.out | apply below_alloc | apply pw_below_drewN | apply below_drew1) | exact HB.out))) : w.heap.size ≤ gb790)); clear HB; have HB := n0_; have BK790 := n1_; have GW790 := n2_; have GE790 := n3_; clear n0_ n1_ n2_ n3_; clear hb hbox hg; have hcz25_0 : w24.cell? ⟨gb790, 0, none⟩ = some (.int .i64 0) := (blk_cell BK790.out 0).trans rfl; have hcz25_1 : w24.cell? ⟨gb790, 1, none⟩ = some (.int .i64 0) := (blk_cell BK790.out 1).trans rfl; have hcz25_2 : w24.cell? ⟨gb790, 2, none⟩ = some (.int .i64 0) := (blk_cell BK790.out 2).trans rfl; have hfz25_0 := blk_frozen BK790.out 0; have hfz25_1 := blk_frozen BK790.out 1; have hfz25_2 := blk_frozen BK790.out 2))
                      have n0_ : Aside0 ((((w24.setCell ⟨gb790, 0, none⟩ (.int .i64 ((rd_T25 l0 x26_2).f0))).setCell ⟨gb790, 1, none⟩ (.int .i64 ((rd_T25 l0 x26_2).f1))).setCell ⟨gb790, 2, none⟩ (.int .i64 ((rd_T25 l0 x26_2).f2))).heap[gb790]? = some (.cells #[.int .i64 ((rd_T25 l0 x26_2).f0), .int .i64 ((rd_T25 l0 x26_2).f1), .int .i64 ((rd_T25 l0 x26_2).f2)] 25 (0, 0))) := ⟨by (with_reducible repeat (first | refine blk_drewN ?_ _ | refine blk_drew ?_ | refine blk_alloc ?_ _)); refine blk_put (cs := #[.int .i64 ((rd_T25 l0 x26_2).f0), .int .i64 ((rd_T25 l0 x26_2).f1), .int .i64 0]) ?_ 2 _ rfl; (with_reducible repeat (first | refine blk_drewN ?_ _ | refine blk_drew ?_ | refine blk_alloc ?_ _)); refine blk_put (cs := #[.int .i64 ((rd_T25 l0 x26_2).f0), .int .i64 0, .int .i64 0]) ?_ 1 _ rfl; (with_reducible repeat (first | refine blk_drewN ?_ _ | refine blk_drew ?_ | refine blk_alloc ?_ _)); refine blk_put (cs := #[.int .i64 0, .int .i64 0, .int .i64 0]) ?_ 0 _ rfl; (with_reducible repeat (first | refine blk_drewN ?_ _ | refine blk_drew ?_ | refine blk_alloc ?_ _)); exact BK790.out⟩
                      have n1_ : Aside0 (Below w.heap.size w (((w24.setCell ⟨gb790, 0, none⟩ (.int .i64 ((rd_T25 l0 x26_2).f0))).setCell ⟨gb790, 1, none⟩ (.int .i64 ((rd_T25 l0 x26_2).f1))).setCell ⟨gb790, 2, none⟩ (.int .i64 ((rd_T25 l0 x26_2).f2)))) := ⟨by repeat (first | (with_reducible first | exact HB.out | apply below_alloc | apply pw_below_drewN | apply below_drew1 | refine below_set ?_ GE790.out) | exact HB.out)⟩
                      (try clear BK790)
                      (try clear HB)
                      generalize (((w24.setCell ⟨gb790, 0, none⟩ (.int .i64 ((rd_T25 l0 x26_2).f0))).setCell ⟨gb790, 1, none⟩ (.int .i64 ((rd_T25 l0 x26_2).f1))).setCell ⟨gb790, 2, none⟩ (.int .i64 ((rd_T25 l0 x26_2).f2))) = w26 at n0_ n1_ ⊢
                      have BK790 := n0_
                      have HB := n1_
                      clear n0_ n1_
                      have n0_ := Aside0.mk (blk_drew BK790.out)
                      have n1_ := Aside0.mk (below_drew1 HB.out)
                      clear BK790
                      clear HB
                      have BK790 := n0_
                      have HB := n1_
                      clear n0_ n1_
                      have p791 : 0 ≤ (x26_2 : Int) := of_decide_eq_true (by first | (with_reducible assumption) | assumption)
                      have q791 : x26_2 < (l1.length : Int) := of_decide_eq_true (by first | (with_reducible assumption) | assumption)
                      obtain ⟨ad791, e791, hx791_0, hx791_1⟩ := at_T55 HR1.out x26_2 p791 q791
                      have hw791_1 := hx791_1
                      have hw791_0 := hx791_0
                      cases e791
                      replace hx791_0 := (HB.out.cell (World.block_lt_of_cell? w _ hx791_0)).trans hx791_0
                      replace hx791_1 := (HB.out.cell (World.block_lt_of_cell? w _ hx791_1)).trans hx791_1
                      replace p791 := eq_true p791
                      replace q791 := eq_true q791
                      refine start_ (n := 11) (S := fun w' => w'.cell? ⟨gb790, 0, none⟩ = some (.int .i64 ((rd_T25 l0 x26_2).f0)) ∧ w'.cell? ⟨gb790, 1, none⟩ = some (.int .i64 ((rd_T25 l0 x26_2).f1)) ∧ w'.cell? ⟨gb790, 2, none⟩ = some (.int .i64 ((rd_T25 l0 x26_2).f2)) ∧ w'.cell? (ad791.add ((x26_2).toNat * 2)) = some (.int .i64 ((rd_T55 l1 x26_2).f0)) ∧ w'.cell? ⟨(ad791.add ((x26_2).toNat * 2)).block, (ad791.add ((x26_2).toNat * 2)).off + 1, none⟩ = some (.string ((rd_T55 l1 x26_2).f1))) (ds := []) #[false, false, false, false, false, false, false, false, false, false, false] (by kernel_rfl) rfl rfl ⟨(blk_cell BK790.out 0).trans rfl, (blk_cell BK790.out 1).trans rfl, (blk_cell BK790.out 2).trans rfl, ((HB.out.cell (World.block_lt_of_cell? w _ hw791_0)).trans hw791_0), ((HB.out.cell (World.block_lt_of_cell? w _ hw791_1)).trans hw791_1)⟩ (fun hHeld => ?_); refine with_tabW impl_FirstBadOpening.tab6 impl_FirstBadOpening.bits6 (fun HT_ HW_ => ?_)
                      generalize w26.drew = w27 at BK790 HB hx791_0 hx791_1 hHeld ⊢
                      refine pure_ (i := 1) (N := some 33) (v := ?_) (a' := ?_) #[false, true, false, false, false, false, false, false, false, false, false] rfl rfl (any_of HT_.out (by kernel_rfl)) (fun _ _ _ h => h) (Or.inl ⟨by rfl, ?_⟩) ?_ ?_
                      rotate_left
                      · intro w'
                        go_simp
                        with_reducible rfl
                      rotate_left
                      · simp only [Act.put, List.setIfInBounds_toArray, List.set_cons_zero, List.set_cons_succ, i64_w, i32_w]
                        rfl
                      refine pure_ (i := 2) (N := some 34) (v := ?_) (a' := ?_) #[false, true, true, false, false, false, false, false, false, false, false] rfl rfl (any_of HT_.out (by kernel_rfl)) (fun _ _ _ h => h) (Or.inl ⟨by rfl, ?_⟩) ?_ ?_
                      rotate_left
                      · intro w'
                        go_simp
                        with_reducible rfl
                      rotate_left
                      · simp only [Act.put, List.setIfInBounds_toArray, List.set_cons_zero, List.set_cons_succ, i64_w, i32_w]
                        rfl
                      refine pure_ (i := 3) (N := some 35) (v := ?_) (a' := ?_) #[false, true, true, true, false, false, false, false, false, false, false] rfl rfl (any_of HT_.out (by kernel_rfl)) (fun _ _ _ h => h) (Or.inl ⟨by rfl, ?_⟩) ?_ ?_
                      rotate_left
                      · intro w'
                        go_simp
                        with_reducible rfl
                      rotate_left
                      · simp only [Act.put, List.setIfInBounds_toArray, List.set_cons_zero, List.set_cons_succ, i64_w, i32_w]
                        rfl
                      refine take_ (i := 0) (N := some 32) (v := ?_) (a' := ?_) #[true, true, true, true, false, false, false, false, false, false, false] rfl rfl (take_ofW HT_.out HW_.out (by kernel_rfl)) (fun _ _ _ h => h) (Or.inl ⟨by rfl, ?_⟩) hHeld ?_ ?_
                      rotate_left
                      · rintro w' ⟨s0, s1, s2, s3, s4⟩
                        go_simp
                        with_reducible rfl
                      rotate_left
                      · simp only [Act.put, List.setIfInBounds_toArray, List.set_cons_zero, List.set_cons_succ, i64_w, i32_w]
                        rfl
                      refine take_ (i := 4) (N := some 36) (v := ?_) (a' := ?_) #[true, true, true, true, true, false, false, false, false, false, false] rfl rfl (take_ofW HT_.out HW_.out (by kernel_rfl)) (fun _ _ _ h => h) (Or.inl ⟨by rfl, ?_⟩) hHeld ?_ ?_
                      rotate_left
                      · rintro w' ⟨s0, s1, s2, s3, s4⟩
                        go_simp
                        with_reducible rfl
                      rotate_left
                      · simp only [Act.put, List.setIfInBounds_toArray, List.set_cons_zero, List.set_cons_succ, i64_w, i32_w]
                        rfl
                      refine one_ (i := 5) (N := some 37) #[true, true, true, true, true, true, false, false, false, false, false] rfl rfl (one_of HT_.out (by kernel_rfl)) (by decide) (fun K hK => ?_)
                      refine goes_ Try.func59 (by kernel_rfl) rfl #[.agg #[.int .i64 ((rd_T25 l0 x26_2).f0), .int .i64 ((rd_T25 l0 x26_2).f1), .int .i64 ((rd_T25 l0 x26_2).f2)], .agg #[.int .i64 ((rd_T55 l1 x26_2).f0), .string ((rd_T55 l1 x26_2).f1)]] (by rfl) rfl rfl (by (try simp only [List.map_toArray, List.map_cons, List.map_nil]); first | done | rfl | (simp only [List.length_drop, List.length_take]; rfl)) ?_
                      with_reducible refine (impl_OpensTo.calls k2 ((rd_T25 l0 x26_2).f0) ((rd_T25 l0 x26_2).f1) ((rd_T25 l0 x26_2).f2) ((rd_T55 l1 x26_2).f0) ((rd_T55 l1 x26_2).f1) false t793 _ A17.out).mono ?_
                      rintro e w28 ⟨rfl, hb⟩
                      refine ⟨_, rfl, ?_⟩
                      have n0_ := Aside0.mk (blk_below (g := gb790) (o := .cells #[.int .i64 ((rd_T25 l0 x26_2).f0), .int .i64 ((rd_T25 l0 x26_2).f1), .int .i64 ((rd_T25 l0 x26_2).f2)] 25 (0, 0)) (by (with_reducible repeat (first | refine blk_drewN ?_ _ | refine blk_drew ?_ | refine blk_alloc ?_ _)); exact BK790.out) hb)
                      have n1_ := Aside0.mk (below_step (by repeat (first | (with_reducible first | exact HB.out | apply below_alloc | apply pw_below_drewN | apply below_drew1 | refine below_set ?_ GE790.out) | exact HB.out)) hb)
                      clear BK790
                      clear HB
                      have BK790 := n0_
                      have HB := n1_
                      clear n0_ n1_
                      (try clear hb)
                      (try clear hb2)
                      (try clear hk)
                      (try clear hi)
                      refine hK.out _ _ ⟨(blk_cell BK790.out 0).trans rfl, (blk_cell BK790.out 1).trans rfl, (blk_cell BK790.out 2).trans rfl, ((HB.out.cell (World.block_lt_of_cell? w _ hw791_0)).trans hw791_0), ((HB.out.cell (World.block_lt_of_cell? w _ hw791_1)).trans hw791_1)⟩ (fun hHeld => ?_)
                      clear hK K
                      refine norm_ (a' := ?_) ?_ ?_
                      rotate_left
                      · show Act.put _ (some 37) _ = _
                        simp only [Act.put, List.setIfInBounds_toArray, List.set_cons_zero, List.set_cons_succ, i64_w, i32_w]
                        rfl
                      refine pure_ (i := 6) (N := some 31) (v := ?_) (a' := ?_) #[true, true, true, true, true, true, true, false, false, false, false] rfl rfl (any_of HT_.out (by kernel_rfl)) (fun _ _ _ h => h) (Or.inl ⟨by rfl, ?_⟩) ?_ ?_
                      rotate_left
                      · intro w'
                        go_simp
                        with_reducible rfl
                      rotate_left
                      · simp only [Act.put, List.setIfInBounds_toArray, List.set_cons_zero, List.set_cons_succ, i64_w, i32_w]
                        rfl
                      refine pure_ (i := 7) (N := some 38) (v := ?_) (a' := ?_) #[true, true, true, true, true, true, true, true, false, false, false] rfl rfl (any_of HT_.out (by kernel_rfl)) (fun _ _ _ h => h) (Or.inl ⟨by rfl, ?_⟩) ?_ ?_
                      rotate_left
                      · intro w'
                        go_simp
                        with_reducible rfl
                      rotate_left
                      · simp only [Act.put, List.setIfInBounds_toArray, List.set_cons_zero, List.set_cons_succ, i64_w, i32_w]
                        rfl
                      refine pure_ (i := 8) (N := some 39) (v := ?_) (a' := ?_) #[true, true, true, true, true, true, true, true, true, false, false] rfl rfl (any_of HT_.out (by kernel_rfl)) (fun _ _ _ h => h) (Or.inl ⟨by rfl, ?_⟩) ?_ ?_
                      rotate_left
                      · intro w'
                        go_simp
                        with_reducible rfl
                      rotate_left
                      · simp only [Act.put, List.setIfInBounds_toArray, List.set_cons_zero, List.set_cons_succ, i64_w, i32_w]
                        rfl
                      refine pure_ (i := 9) (N := some 8) (v := ?_) (a' := ?_) #[true, true, true, true, true, true, true, true, true, true, false] rfl rfl (any_of HT_.out (by kernel_rfl)) (fun _ _ _ h => h) (Or.inl ⟨by rfl, ?_⟩) ?_ ?_
                      rotate_left
                      · intro w'
                        go_simp
                        with_reducible rfl
                      rotate_left
                      · simp only [Act.put, List.setIfInBounds_toArray, List.set_cons_zero, List.set_cons_succ, i64_w, i32_w]
                        rfl
                      refine pure_ (i := 10) (N := some 9) (v := ?_) (a' := ?_) #[true, true, true, true, true, true, true, true, true, true, true] rfl rfl (any_of HT_.out (by kernel_rfl)) (fun _ _ _ h => h) (Or.inl ⟨by rfl, ?_⟩) ?_ ?_
                      rotate_left
                      · intro w'
                        go_simp
                        with_reducible rfl
                      rotate_left
                      · simp only [Act.put, List.setIfInBounds_toArray, List.set_cons_zero, List.set_cons_succ, i64_w, i32_w]
                        rfl
                      refine done_ (done_of HT_.out (by kernel_rfl)) ?_
                      try go_wp2
                      go_ret2
                      exact ⟨by first | rfl | (simp [errW_none, errW_some] <;> rfl) | (simp [*, errW_none, errW_some] <;> rfl), by repeat (first | (with_reducible first | exact HB.out | apply below_alloc | apply pw_below_drewN | apply below_drew1 | refine below_set ?_ GE790.out) | exact HB.out)⟩
                  · rw [if_neg c16] at H
                    exact absurd H (by simp)
                · rw [if_neg c15] at H
                  exact absurd H (by simp)
              · rw [if_neg c14] at H
                exact absurd H (by simp)
            · rw [if_neg c13] at H
              have c13b0 : decide (x26_2 < (l0.length : Int)) = false := decide_eq_false c13
              clear c13
              simp only [Option.some.injEq, Prod.mk.injEq] at H
              obtain ⟨rfl, rfl⟩ := H
              go_wp2
              go_ret2
              exact ⟨by first | rfl | (simp [errW_none, errW_some] <;> rfl) | (simp [*, errW_none, errW_some] <;> rfl), by repeat (first | (with_reducible first | exact HB.out | apply below_alloc | apply pw_below_drewN | apply below_drew1) | exact HB.out)⟩

/-! ### laws_eqOpening: function 126 -/
def laws_eqOpening.f (a0_0 : Int) (a0_1 : ByteArray) (a1_0 : Int) (a1_1 : ByteArray) : Option (Bool) := if a0_0 = a1_0 then (if a0_1.toList = a1_1.toList then (some true) else (some false)) else (some false)
set_option maxHeartbeats 8000000 in
set_option maxRecDepth 100000 in
theorem laws_eqOpening.calls (a0_0 : Int) (a0_1 : ByteArray) (a1_0 : Int) (a1_1 : ByteArray) (r : Bool) (w : World) (h : laws_eqOpening.f a0_0 a0_1 a1_0 a1_1 = some r) :
    Calls Try.prog 126 #[.agg #[.int .i64 a0_0, .string a0_1], .agg #[.int .i64 a1_0, .string a1_1]] w fun e w' => e = .returned (.bool r) ∧ Below w.heap.size w w' := by
  have hu55 := Try.underlying55
  have HB := Aside0.mk (Below.refl w.heap.size w)
  have H : (if a0_0 = a1_0 then (if a0_1.toList = a1_1.toList then (some true) else (some false)) else (some false)) = some r := h
  clear h
  by_cases c3 : a0_0 = a1_0
  · rw [if_pos c3] at H
    have c3b0 : (a0_0 == a1_0) = true := beq_iff_eq.mpr c3
    have c3b1 : (a0_0 != a1_0) = false := bne_eq_false_iff_eq.mpr c3
    clear c3
    by_cases c4 : a0_1.toList = a1_1.toList
    · rw [if_pos c4] at H
      have c4b0 : (a0_1.toList == a1_1.toList) = true := beq_iff_eq.mpr c4
      have c4b1 : (a0_1.toList != a1_1.toList) = false := bne_eq_false_iff_eq.mpr c4
      clear c4
      obtain rfl := Option.some.inj H
      go_enter Try.func126, Try.ntmps126
      go_wp2_with (first | ((with_reducible refine gate_dst (N := 2) rfl ?_); refine box_event ?hg (N := 2) ?hd (cs := #[.int .i64 a0_0, .string a0_1]) (t := 55) ?hr ?_; (case hd => rfl); (case hg => rfl); (case hr => first | (go_simp; done) | (go_simp; rfl)); intro gb794 hg w5 hbox hb; have n0_ := Aside0.mk (below_step (by repeat (first | (with_reducible first | exact HB.out | apply below_alloc | apply pw_below_drewN | apply below_drew1) | exact HB.out)) hb); have n1_ := Aside0.mk (hbox); have n2_ := Aside0.mk ((by rw [hg]; exact (below_size (by repeat (first | (with_reducible first | exact HB.out | apply below_alloc | apply pw_below_drewN | apply below_drew1) | exact HB.out))) : w.heap.size ≤ gb794)); have n3_ := Aside0.mk ((by rw [hg]; exact (below_size (by repeat (first | (with_reducible first | exact HB.out | apply below_alloc | apply pw_below_drewN | apply below_drew1) | exact HB.out))) : w.heap.size ≤ gb794)); clear HB; have HB := n0_; have BK794 := n1_; have GW794 := n2_; have GE794 := n3_; clear n0_ n1_ n2_ n3_; clear hb hbox hg) | ((with_reducible refine gate_dst (N := 3) rfl ?_); refine box_event ?hg (N := 3) ?hd (cs := #[.int .i64 a1_0, .string a1_1]) (t := 55) ?hr ?_; (case hd => rfl); (case hg => rfl); (case hr => first | (go_simp; done) | (go_simp; rfl)); intro gb795 hg w6 hbox hb; have n0_ := Aside0.mk (blk_below (g := gb794) (o := .cells #[.int .i64 a0_0, .string a0_1] 55 (0, 0)) (by (with_reducible repeat (first | refine blk_drewN ?_ _ | refine blk_drew ?_ | refine blk_alloc ?_ _)); exact BK794.out) hb); have n1_ := Aside0.mk (below_step (by repeat (first | (with_reducible first | exact HB.out | apply below_alloc | apply pw_below_drewN | apply below_drew1 | refine below_set ?_ GE794.out) | exact HB.out)) hb); have n2_ := Aside0.mk (hbox); have n3_ := Aside0.mk ((by rw [hg]; exact (below_size (by repeat (first | (with_reducible first | exact HB.out | apply below_alloc | apply pw_below_drewN | apply below_drew1 | refine below_set ?_ GE794.out) | exact HB.out))) : w.heap.size ≤ gb795)); have n4_ := Aside0.mk ((by rw [hg]; exact (below_size (by repeat (first | (with_reducible first | exact HB.out | apply below_alloc | apply pw_below_drewN | apply below_drew1 | refine below_set ?_ GE794.out) | exact HB.out))) : w.heap.size ≤ gb795)); have n5_ := Aside0.mk ((by rw [hg]; exact Nat.ne_of_lt (blk_lt (g := gb794) (o := .cells #[.int .i64 a0_0, .string a0_1] 55 (0, 0)) (by (with_reducible repeat (first | refine blk_drewN ?_ _ | refine blk_drew ?_ | refine blk_alloc ?_ _)); exact BK794.out)) : gb794 ≠ gb795)); have n6_ := Aside0.mk ((by rw [hg]; exact Nat.ne_of_gt (blk_lt (g := gb794) (o := .cells #[.int .i64 a0_0, .string a0_1] 55 (0, 0)) (by (with_reducible repeat (first | refine blk_drewN ?_ _ | refine blk_drew ?_ | refine blk_alloc ?_ _)); exact BK794.out)) : gb795 ≠ gb794)); clear BK794; clear HB; have BK794 := n0_; have HB := n1_; have BK795 := n2_; have GW795 := n3_; have GE795 := n4_; have NB794_795 := n5_; have NB795_794 := n6_; clear n0_ n1_ n2_ n3_ n4_ n5_ n6_; clear hb hbox hg; have hnb7 := NB794_795.out; have hnc7 := NB795_794.out; have hcz8_0 : w6.cell? ⟨gb794, 0, none⟩ = some (.int .i64 a0_0) := (blk_cell BK794.out 0).trans rfl; have hcz8_1 : w6.cell? ⟨gb794, 1, none⟩ = some (.string a0_1) := (blk_cell BK794.out 1).trans rfl; have hfz8_0 := blk_frozen BK794.out 0; have hfz8_1 := blk_frozen BK794.out 1; have hcz9_0 : w6.cell? ⟨gb795, 0, none⟩ = some (.int .i64 a1_0) := (blk_cell BK795.out 0).trans rfl; have hcz9_1 : w6.cell? ⟨gb795, 1, none⟩ = some (.string a1_1) := (blk_cell BK795.out 1).trans rfl; have hfz9_0 := blk_frozen BK795.out 0; have hfz9_1 := blk_frozen BK795.out 1))
      go_ret
      exact ⟨by first | rfl | (simp [errW_none, errW_some] <;> rfl) | (simp [*, errW_none, errW_some] <;> rfl), by repeat (first | (with_reducible first | exact HB.out | apply below_alloc | apply pw_below_drewN | apply below_drew1 | refine below_set ?_ GE794.out | refine below_set ?_ GE795.out) | exact HB.out)⟩
    · rw [if_neg c4] at H
      have c4b0 : (a0_1.toList == a1_1.toList) = false := beq_eq_false_iff_ne.mpr c4
      have c4b1 : (a0_1.toList != a1_1.toList) = true := bne_iff_ne.mpr c4
      obtain rfl := Option.some.inj H
      go_enter Try.func126, Try.ntmps126
      go_wp2_with (first | ((with_reducible refine gate_dst (N := 2) rfl ?_); refine box_event ?hg (N := 2) ?hd (cs := #[.int .i64 a0_0, .string a0_1]) (t := 55) ?hr ?_; (case hd => rfl); (case hg => rfl); (case hr => first | (go_simp; done) | (go_simp; rfl)); intro gb794 hg w10 hbox hb; have n0_ := Aside0.mk (below_step (by repeat (first | (with_reducible first | exact HB.out | apply below_alloc | apply pw_below_drewN | apply below_drew1) | exact HB.out)) hb); have n1_ := Aside0.mk (hbox); have n2_ := Aside0.mk ((by rw [hg]; exact (below_size (by repeat (first | (with_reducible first | exact HB.out | apply below_alloc | apply pw_below_drewN | apply below_drew1) | exact HB.out))) : w.heap.size ≤ gb794)); have n3_ := Aside0.mk ((by rw [hg]; exact (below_size (by repeat (first | (with_reducible first | exact HB.out | apply below_alloc | apply pw_below_drewN | apply below_drew1) | exact HB.out))) : w.heap.size ≤ gb794)); clear HB; have HB := n0_; have BK794 := n1_; have GW794 := n2_; have GE794 := n3_; clear n0_ n1_ n2_ n3_; clear hb hbox hg) | ((with_reducible refine gate_dst (N := 3) rfl ?_); refine box_event ?hg (N := 3) ?hd (cs := #[.int .i64 a1_0, .string a1_1]) (t := 55) ?hr ?_; (case hd => rfl); (case hg => rfl); (case hr => first | (go_simp; done) | (go_simp; rfl)); intro gb795 hg w11 hbox hb; have n0_ := Aside0.mk (blk_below (g := gb794) (o := .cells #[.int .i64 a0_0, .string a0_1] 55 (0, 0)) (by (with_reducible repeat (first | refine blk_drewN ?_ _ | refine blk_drew ?_ | refine blk_alloc ?_ _)); exact BK794.out) hb); have n1_ := Aside0.mk (below_step (by repeat (first | (with_reducible first | exact HB.out | apply below_alloc | apply pw_below_drewN | apply below_drew1 | refine below_set ?_ GE794.out) | exact HB.out)) hb); have n2_ := Aside0.mk (hbox); have n3_ := Aside0.mk ((by rw [hg]; exact (below_size (by repeat (first | (with_reducible first | exact HB.out | apply below_alloc | apply pw_below_drewN | apply below_drew1 | refine below_set ?_ GE794.out) | exact HB.out))) : w.heap.size ≤ gb795)); have n4_ := Aside0.mk ((by rw [hg]; exact (below_size (by repeat (first | (with_reducible first | exact HB.out | apply below_alloc | apply pw_below_drewN | apply below_drew1 | refine below_set ?_ GE794.out) | exact HB.out))) : w.heap.size ≤ gb795)); have n5_ := Aside0.mk ((by rw [hg]; exact Nat.ne_of_lt (blk_lt (g := gb794) (o := .cells #[.int .i64 a0_0, .string a0_1] 55 (0, 0)) (by (with_reducible repeat (first | refine blk_drewN ?_ _ | refine blk_drew ?_ | refine blk_alloc ?_ _)); exact BK794.out)) : gb794 ≠ gb795)); have n6_ := Aside0.mk ((by rw [hg]; exact Nat.ne_of_gt (blk_lt (g := gb794) (o := .cells #[.int .i64 a0_0, .string a0_1] 55 (0, 0)) (by (with_reducible repeat (first | refine blk_drewN ?_ _ | refine blk_drew ?_ | refine blk_alloc ?_ _)); exact BK794.out)) : gb795 ≠ gb794)); clear BK794; clear HB; have BK794 := n0_; have HB := n1_; have BK795 := n2_; have GW795 := n3_; have GE795 := n4_; have NB794_795 := n5_; have NB795_794 := n6_; clear n0_ n1_ n2_ n3_ n4_ n5_ n6_; clear hb hbox hg; have hnb12 := NB794_795.out; have hnc12 := NB795_794.out; have hcz13_0 : w11.cell? ⟨gb794, 0, none⟩ = some (.int .i64 a0_0) := (blk_cell BK794.out 0).trans rfl; have hcz13_1 : w11.cell? ⟨gb794, 1, none⟩ = some (.string a0_1) := (blk_cell BK794.out 1).trans rfl; have hfz13_0 := blk_frozen BK794.out 0; have hfz13_1 := blk_frozen BK794.out 1; have hcz14_0 : w11.cell? ⟨gb795, 0, none⟩ = some (.int .i64 a1_0) := (blk_cell BK795.out 0).trans rfl; have hcz14_1 : w11.cell? ⟨gb795, 1, none⟩ = some (.string a1_1) := (blk_cell BK795.out 1).trans rfl; have hfz14_0 := blk_frozen BK795.out 0; have hfz14_1 := blk_frozen BK795.out 1))
      go_ret
      exact ⟨by first | rfl | (simp [errW_none, errW_some] <;> rfl) | (simp [*, errW_none, errW_some] <;> rfl), by repeat (first | (with_reducible first | exact HB.out | apply below_alloc | apply pw_below_drewN | apply below_drew1 | refine below_set ?_ GE794.out | refine below_set ?_ GE795.out) | exact HB.out)⟩
  · rw [if_neg c3] at H
    have c3b0 : (a0_0 == a1_0) = false := beq_eq_false_iff_ne.mpr c3
    have c3b1 : (a0_0 != a1_0) = true := bne_iff_ne.mpr c3
    obtain rfl := Option.some.inj H
    go_enter Try.func126, Try.ntmps126
    go_wp2_with (first | ((with_reducible refine gate_dst (N := 2) rfl ?_); refine box_event ?hg (N := 2) ?hd (cs := #[.int .i64 a0_0, .string a0_1]) (t := 55) ?hr ?_; (case hd => rfl); (case hg => rfl); (case hr => first | (go_simp; done) | (go_simp; rfl)); intro gb794 hg w15 hbox hb; have n0_ := Aside0.mk (below_step (by repeat (first | (with_reducible first | exact HB.out | apply below_alloc | apply pw_below_drewN | apply below_drew1) | exact HB.out)) hb); have n1_ := Aside0.mk (hbox); have n2_ := Aside0.mk ((by rw [hg]; exact (below_size (by repeat (first | (with_reducible first | exact HB.out | apply below_alloc | apply pw_below_drewN | apply below_drew1) | exact HB.out))) : w.heap.size ≤ gb794)); have n3_ := Aside0.mk ((by rw [hg]; exact (below_size (by repeat (first | (with_reducible first | exact HB.out | apply below_alloc | apply pw_below_drewN | apply below_drew1) | exact HB.out))) : w.heap.size ≤ gb794)); clear HB; have HB := n0_; have BK794 := n1_; have GW794 := n2_; have GE794 := n3_; clear n0_ n1_ n2_ n3_; clear hb hbox hg) | ((with_reducible refine gate_dst (N := 3) rfl ?_); refine box_event ?hg (N := 3) ?hd (cs := #[.int .i64 a1_0, .string a1_1]) (t := 55) ?hr ?_; (case hd => rfl); (case hg => rfl); (case hr => first | (go_simp; done) | (go_simp; rfl)); intro gb795 hg w16 hbox hb; have n0_ := Aside0.mk (blk_below (g := gb794) (o := .cells #[.int .i64 a0_0, .string a0_1] 55 (0, 0)) (by (with_reducible repeat (first | refine blk_drewN ?_ _ | refine blk_drew ?_ | refine blk_alloc ?_ _)); exact BK794.out) hb); have n1_ := Aside0.mk (below_step (by repeat (first | (with_reducible first | exact HB.out | apply below_alloc | apply pw_below_drewN | apply below_drew1 | refine below_set ?_ GE794.out) | exact HB.out)) hb); have n2_ := Aside0.mk (hbox); have n3_ := Aside0.mk ((by rw [hg]; exact (below_size (by repeat (first | (with_reducible first | exact HB.out | apply below_alloc | apply pw_below_drewN | apply below_drew1 | refine below_set ?_ GE794.out) | exact HB.out))) : w.heap.size ≤ gb795)); have n4_ := Aside0.mk ((by rw [hg]; exact (below_size (by repeat (first | (with_reducible first | exact HB.out | apply below_alloc | apply pw_below_drewN | apply below_drew1 | refine below_set ?_ GE794.out) | exact HB.out))) : w.heap.size ≤ gb795)); have n5_ := Aside0.mk ((by rw [hg]; exact Nat.ne_of_lt (blk_lt (g := gb794) (o := .cells #[.int .i64 a0_0, .string a0_1] 55 (0, 0)) (by (with_reducible repeat (first | refine blk_drewN ?_ _ | refine blk_drew ?_ | refine blk_alloc ?_ _)); exact BK794.out)) : gb794 ≠ gb795)); have n6_ := Aside0.mk ((by rw [hg]; exact Nat.ne_of_gt (blk_lt (g := gb794) (o := .cells #[.int .i64 a0_0, .string a0_1] 55 (0, 0)) (by (with_reducible repeat (first | refine blk_drewN ?_ _ | refine blk_drew ?_ | refine blk_alloc ?_ _)); exact BK794.out)) : gb795 ≠ gb794)); clear BK794; clear HB; have BK794 := n0_; have HB := n1_; have BK795 := n2_; have GW795 := n3_; have GE795 := n4_; have NB794_795 := n5_; have NB795_794 := n6_; clear n0_ n1_ n2_ n3_ n4_ n5_ n6_; clear hb hbox hg; have hnb17 := NB794_795.out; have hnc17 := NB795_794.out; have hcz18_0 : w16.cell? ⟨gb794, 0, none⟩ = some (.int .i64 a0_0) := (blk_cell BK794.out 0).trans rfl; have hcz18_1 : w16.cell? ⟨gb794, 1, none⟩ = some (.string a0_1) := (blk_cell BK794.out 1).trans rfl; have hfz18_0 := blk_frozen BK794.out 0; have hfz18_1 := blk_frozen BK794.out 1; have hcz19_0 : w16.cell? ⟨gb795, 0, none⟩ = some (.int .i64 a1_0) := (blk_cell BK795.out 0).trans rfl; have hcz19_1 : w16.cell? ⟨gb795, 1, none⟩ = some (.string a1_1) := (blk_cell BK795.out 1).trans rfl; have hfz19_0 := blk_frozen BK795.out 0; have hfz19_1 := blk_frozen BK795.out 1))
    go_ret
    exact ⟨by first | rfl | (simp [errW_none, errW_some] <;> rfl) | (simp [*, errW_none, errW_some] <;> rfl), by repeat (first | (with_reducible first | exact HB.out | apply below_alloc | apply pw_below_drewN | apply below_drew1 | refine below_set ?_ GE794.out | refine below_set ?_ GE795.out) | exact HB.out)⟩

end Go.Proofs.Ytgjdonadnofdlaa.P
