-- Printed by this session's own driver (wip/tool/myprint.py) over the kit's print.
import Derived.Test.YtgjdonadnofdlaaPx0
import Derived.Test.YtgjdonadnofdlaaPx35
import Derived.Test.YtgjdonadnofdlaaPx40
import Derived.Test.YtgjdonadnofdlaaPx43
namespace Go.Proofs.Ytgjdonadnofdlaa.P
open Go.RowKit Go.Proofs.YtgjdonadnofdlaaW.PrintWords Go.Proofs.YtgjdonadnofdlaaW.PrintLast Go.Proofs.YtgjdonadnofdlaaW.PrintMore
attribute [local go_sem] max2_int min2_int max_two min_two max_three min_three max_four min_four   -- for this text's walks alone
set_option linter.unusedVariables false
set_option linter.unusedSimpArgs false

/-! ### spec_FirstBadOpening: function 78 -/
mutual
def spec_FirstBadOpening.j0 : Nat → List (S25) → List (S55) → Bool → Option (Int × Bool)
  | 0, _, _, _ => none
  | k + 1, x0, x1, x19 => if x19 = true then (some (0, false)) else (spec_FirstBadOpening.l0 k x0 x1 x1 (x1.length : Int) 0)
def spec_FirstBadOpening.l0 : Nat → List (S25) → List (S55) → List (S55) → Int → Int → Option (Int × Bool)
  | 0, _, _, _, _, _ => none
  | k + 1, x0, x1, x20, x21, x22 => if x22 < x21 then (if 0 ≤ x22 then (if x22 < (x20.length : Int) then ((spec_eOpening.f ((rd_T55 x20 x22).f0) ((rd_T55 x20 x22).f1)).bind fun t770 => (if t770 = true then (spec_FirstBadOpening.l0 k x0 x1 x20 x21 (wrap64 (x22 + 1))) else (some (0, false)))) else (none)) else (none)) else (spec_FirstBadOpening.l1 k x0 x1 x0 (x0.length : Int) 0)
def spec_FirstBadOpening.l1 : Nat → List (S25) → List (S55) → List (S25) → Int → Int → Option (Int × Bool)
  | 0, _, _, _, _, _ => none
  | k + 1, x0, x1, x30, x31, x32 => if x32 < x31 then (if 0 ≤ x32 then (if x32 < (x30.length : Int) then (if x32 < (x1.length : Int) then ((spec_eOpens.f k ((rd_T25 x30 x32).f0) ((rd_T25 x30 x32).f1) ((rd_T25 x30 x32).f2) ((rd_T55 x1 x32).f0) ((rd_T55 x1 x32).f1)).bind fun t774 => (if t774 = true then (spec_FirstBadOpening.l1 k x0 x1 x30 x31 (wrap64 (x32 + 1))) else (some (x32, true)))) else (none)) else (none)) else (none)) else (some ((x0.length : Int), true))
end
def spec_FirstBadOpening.f (k : Nat) (l0 : List (S25)) (l1 : List (S55)) : Option (Int × Bool) := (spec_eList.f k l0).bind fun t767 => (if t767 = true then (spec_FirstBadOpening.j0 k l0 l1 ((l1.length : Int) != (l0.length : Int))) else (spec_FirstBadOpening.j0 k l0 l1 true))
theorem spec_FirstBadOpening.mono_l : ∀ k, (∀ y0 y1 y2, LeO (spec_FirstBadOpening.j0 k y0 y1 y2) (spec_FirstBadOpening.j0 (k + 1) y0 y1 y2)) ∧ (∀ y0 y1 y2 y3 y4, LeO (spec_FirstBadOpening.l0 k y0 y1 y2 y3 y4) (spec_FirstBadOpening.l0 (k + 1) y0 y1 y2 y3 y4)) ∧ (∀ y0 y1 y2 y3 y4, LeO (spec_FirstBadOpening.l1 k y0 y1 y2 y3 y4) (spec_FirstBadOpening.l1 (k + 1) y0 y1 y2 y3 y4))
  | 0 => ⟨fun _ _ _ r h => by simp [spec_FirstBadOpening.j0] at h, fun _ _ _ _ _ r h => by simp [spec_FirstBadOpening.l0] at h, fun _ _ _ _ _ r h => by simp [spec_FirstBadOpening.l1] at h⟩
  | k + 1 => by
    obtain ⟨ih0, ih1, ih2⟩ := spec_FirstBadOpening.mono_l k
    refine ⟨?_, ?_, ?_⟩
    · intro y0 y1 y2
      unfold spec_FirstBadOpening.j0
      repeat' first
      | (with_reducible exact ih0 _ _ _)
      | (with_reducible exact ih1 _ _ _ _ _)
      | (with_reducible exact ih2 _ _ _ _ _)
      | (with_reducible exact spec_eList.mono _ _)
      | (with_reducible exact spec_eOpens.mono _ _ _ _ _ _)
      | (with_reducible exact LeO.refl _)
      | (with_reducible exact LeO.none _)
      | (with_reducible refine LeO.ite ?_ ?_)
      | (with_reducible refine LeO.bind ?_ (fun _ => ?_))
      | exact ih0 _ _ _
      | exact ih1 _ _ _ _ _
      | exact ih2 _ _ _ _ _
      | exact spec_eList.mono _ _
      | exact spec_eOpens.mono _ _ _ _ _ _
      | exact LeO.none _
      | refine LeO.ite ?_ ?_
      | refine LeO.bind ?_ (fun _ => ?_)
    · intro y0 y1 y2 y3 y4
      unfold spec_FirstBadOpening.l0
      repeat' first
      | (with_reducible exact ih0 _ _ _)
      | (with_reducible exact ih1 _ _ _ _ _)
      | (with_reducible exact ih2 _ _ _ _ _)
      | (with_reducible exact spec_eList.mono _ _)
      | (with_reducible exact spec_eOpens.mono _ _ _ _ _ _)
      | (with_reducible exact LeO.refl _)
      | (with_reducible exact LeO.none _)
      | (with_reducible refine LeO.ite ?_ ?_)
      | (with_reducible refine LeO.bind ?_ (fun _ => ?_))
      | exact ih0 _ _ _
      | exact ih1 _ _ _ _ _
      | exact ih2 _ _ _ _ _
      | exact spec_eList.mono _ _
      | exact spec_eOpens.mono _ _ _ _ _ _
      | exact LeO.none _
      | refine LeO.ite ?_ ?_
      | refine LeO.bind ?_ (fun _ => ?_)
    · intro y0 y1 y2 y3 y4
      unfold spec_FirstBadOpening.l1
      repeat' first
      | (with_reducible exact ih0 _ _ _)
      | (with_reducible exact ih1 _ _ _ _ _)
      | (with_reducible exact ih2 _ _ _ _ _)
      | (with_reducible exact spec_eList.mono _ _)
      | (with_reducible exact spec_eOpens.mono _ _ _ _ _ _)
      | (with_reducible exact LeO.refl _)
      | (with_reducible exact LeO.none _)
      | (with_reducible refine LeO.ite ?_ ?_)
      | (with_reducible refine LeO.bind ?_ (fun _ => ?_))
      | exact ih0 _ _ _
      | exact ih1 _ _ _ _ _
      | exact ih2 _ _ _ _ _
      | exact spec_eList.mono _ _
      | exact spec_eOpens.mono _ _ _ _ _ _
      | exact LeO.none _
      | refine LeO.ite ?_ ?_
      | refine LeO.bind ?_ (fun _ => ?_)
theorem spec_FirstBadOpening.mono : ∀ a0 a1 k, LeO (spec_FirstBadOpening.f k a0 a1) (spec_FirstBadOpening.f (k + 1) a0 a1) := by
  intro a0 a1 k
  obtain ⟨ih0, ih1, ih2⟩ := spec_FirstBadOpening.mono_l k
  unfold spec_FirstBadOpening.f
  repeat' first
      | (with_reducible exact ih0 _ _ _)
      | (with_reducible exact ih1 _ _ _ _ _)
      | (with_reducible exact ih2 _ _ _ _ _)
      | (with_reducible exact spec_eList.mono _ _)
      | (with_reducible exact spec_eOpens.mono _ _ _ _ _ _)
      | (with_reducible exact LeO.refl _)
      | (with_reducible exact LeO.none _)
      | (with_reducible refine LeO.ite ?_ ?_)
      | (with_reducible refine LeO.bind ?_ (fun _ => ?_))
      | exact ih0 _ _ _
      | exact ih1 _ _ _ _ _
      | exact ih2 _ _ _ _ _
      | exact spec_eList.mono _ _
      | exact spec_eOpens.mono _ _ _ _ _ _
      | exact LeO.none _
      | refine LeO.ite ?_ ?_
      | refine LeO.bind ?_ (fun _ => ?_)
set_option maxHeartbeats 8000000 in
set_option maxRecDepth 100000 in
theorem spec_FirstBadOpening.calls (k : Nat) (A0 : Option Addr) (c0 : Nat) (l0 : List (S25)) (A1 : Option Addr) (c1 : Nat) (l1 : List (S55)) (r1 : Int) (r2 : Bool) (w : World) (hr0 : Kd.C k25 w A0 l0.length l0) (hc0 : l0.length ≤ c0) (hr1 : Kd.C k55 w A1 l1.length l1) (hc1 : l1.length ≤ c1) (h : spec_FirstBadOpening.f k l0 l1 = some (r1, r2)) :
    Calls Try.prog 78 #[.slice A0 l0.length c0, .slice A1 l1.length c1] w fun e w' => e = .returned (.tuple #[.int .i64 r1, .bool r2]) ∧ Below w.heap.size w w' := by
  have hu55 := Try.underlying55
  have hu25 := Try.underlying25
  have HR0 := Aside0.mk hr0
  have HC0 := Aside0.mk hc0
  clear hr0 hc0
  have HR1 := Aside0.mk hr1
  have HC1 := Aside0.mk hc1
  clear hr1 hc1
  have HB := Aside0.mk (Below.refl w.heap.size w)
  have H : ((spec_eList.f k l0).bind fun t767 => (if t767 = true then (spec_FirstBadOpening.j0 k l0 l1 ((l1.length : Int) != (l0.length : Int))) else (spec_FirstBadOpening.j0 k l0 l1 true))) = some (r1, r2) := h
  clear h
  have HC3 := Aside0.mk H
  clear H
  go_enter Try.func78, Try.ntmps78
  go_upto_region 1 with (fail)
  go_cut [19] (fun v19 wc => ∃ (kq : Nat) (x19_2 : Bool), v19 = .bool x19_2 ∧ Aside0 (spec_FirstBadOpening.j0 kq l0 l1 x19_2 = some (r1, r2)) ∧ Aside0 (kq ≤ k) ∧ Aside0 (Below w.heap.size w wc))
  case first =>
    have H := HC3.out
    clear HC3
    replace H := Option.bind_eq_some_iff.mp H
    obtain ⟨t767, A40, H⟩ := H
    replace H : (if t767 = true then (spec_FirstBadOpening.j0 k l0 l1 ((l1.length : Int) != (l0.length : Int))) else (spec_FirstBadOpening.j0 k l0 l1 true)) = some (r1, r2) := H
    have A4 := Aside0.mk A40
    clear A40
    by_cases c5 : t767 = true
    · subst c5
      have H1 : (spec_FirstBadOpening.j0 k l0 l1 ((l1.length : Int) != (l0.length : Int))) = some (r1, r2) := by rw [if_pos rfl] at H; exact H
      clear H
      have H := H1
      clear H1
      have H' := Aside0.mk H
      clear H
      go_wp2_with (first | ((with_reducible refine gate_callee (f := 113) rfl ?_); refine goesL_ (some 11) rfl rfl Try.func113 (by kernel_rfl) rfl #[.slice A0 l0.length c0] rfl (by (try simp only [List.map_toArray, List.map_cons, List.map_nil]); first | done | rfl | (simp only [List.length_drop, List.length_take]; rfl)) ?_; (with_reducible refine (spec_eList.calls k _ _ l0 true _ ?side1 ?side2 A4.out).mono ?_); (case side1 => repeat (first | exact (Kd.C_below HR0.out HB.out) | (with_reducible refine Kd.C_alloc ?_ _) | (with_reducible refine Kd.C_drewN ?_ _) | (with_reducible refine Kd.C_drew ?_))); (case side2 => exact HC0.out); rintro e w6 ⟨rfl, hb⟩; refine ⟨_, rfl, ?_⟩; have n0_ := Aside0.mk (below_step (by repeat (first | (with_reducible first | exact HB.out | apply below_alloc | apply pw_below_drewN | apply below_drew1) | exact HB.out)) hb); clear HB; have HB := n0_; clear n0_; (try clear hb); (try clear hb2); (try clear hk); (try clear hi)))
      go_meet
      case rel => exact ⟨_, (((l1.length : Int) != (l0.length : Int))), (by first | rfl | (simp; done) | (simp [*]; done)), H', ⟨by first | omega | exact Nat.le_refl _⟩, ⟨by repeat (first | (with_reducible first | exact HB.out | apply below_alloc | apply pw_below_drewN | apply below_drew1) | exact HB.out)⟩⟩
    · replace c5 := Bool.eq_false_iff.mpr c5
      subst c5
      have H1 : (spec_FirstBadOpening.j0 k l0 l1 true) = some (r1, r2) := by rw [if_neg (show ¬ (false = true) by decide)] at H; exact H
      clear H
      have H := H1
      clear H1
      have H' := Aside0.mk H
      clear H
      go_wp2_with (first | ((with_reducible refine gate_callee (f := 113) rfl ?_); refine goesL_ (some 11) rfl rfl Try.func113 (by kernel_rfl) rfl #[.slice A0 l0.length c0] rfl (by (try simp only [List.map_toArray, List.map_cons, List.map_nil]); first | done | rfl | (simp only [List.length_drop, List.length_take]; rfl)) ?_; (with_reducible refine (spec_eList.calls k _ _ l0 false _ ?side1 ?side2 A4.out).mono ?_); (case side1 => repeat (first | exact (Kd.C_below HR0.out HB.out) | (with_reducible refine Kd.C_alloc ?_ _) | (with_reducible refine Kd.C_drewN ?_ _) | (with_reducible refine Kd.C_drew ?_))); (case side2 => exact HC0.out); rintro e w7 ⟨rfl, hb⟩; refine ⟨_, rfl, ?_⟩; have n0_ := Aside0.mk (below_step (by repeat (first | (with_reducible first | exact HB.out | apply below_alloc | apply pw_below_drewN | apply below_drew1) | exact HB.out)) hb); clear HB; have HB := n0_; clear n0_; (try clear hb); (try clear hb2); (try clear hk); (try clear hi)))
      go_meet
      case rel => exact ⟨_, (true), (by first | rfl | (simp; done) | (simp [*]; done)), H', ⟨by first | omega | exact Nat.le_refl _⟩, ⟨by repeat (first | (with_reducible first | exact HB.out | apply below_alloc | apply pw_below_drewN | apply below_drew1) | exact HB.out)⟩⟩
  case rest =>
    clear HC3
    try clear c1
    try clear p2
    try clear c5
    try clear c7
    obtain ⟨kq, x19_2, rfl, HA, HJ2, HB⟩ := hcut
    cases kq with
    | zero => exact absurd HA.out (by simp [spec_FirstBadOpening.j0])
    | succ kj2 =>
      have H := HA.out
      clear HA
      simp only [spec_FirstBadOpening.j0] at H
      by_cases c8 : x19_2 = true
      · subst c8
        have H1 : (some (0, false)) = some (r1, r2) := by rw [if_pos rfl] at H; exact H
        clear H
        have H := H1
        clear H1
        simp only [Option.some.injEq, Prod.mk.injEq] at H
        obtain ⟨rfl, rfl⟩ := H
        go_wp2
        go_ret2
        exact ⟨by first | rfl | (simp [errW_none, errW_some] <;> rfl) | (simp [*, errW_none, errW_some] <;> rfl), by repeat (first | (with_reducible first | exact HB.out | apply below_alloc | apply pw_below_drewN | apply below_drew1) | exact HB.out)⟩
      · replace c8 := Bool.eq_false_iff.mpr c8
        subst c8
        have H1 : (spec_FirstBadOpening.l0 kj2 l0 l1 l1 (l1.length : Int) 0) = some (r1, r2) := by rw [if_neg (show ¬ (false = true) by decide)] at H; exact H
        clear H
        have H := H1
        clear H1
        have H' := Aside0.mk H
        clear H
        go_wp2
        go_loopg [22] kj2 (fun kq v22 w' => ∃ (x22_2 : Int), v22 = .int .i64 x22_2 ∧ Aside0 (spec_FirstBadOpening.l0 kq l0 l1 l1 (l1.length : Int) x22_2 = some (r1, r2)) ∧ Aside0 (kq ≤ kj2) ∧ Aside0 (Below w.heap.size w w'))
        case atStart => exact ⟨(0), (by first | rfl | (simp; done) | (simp [*]; done)), H', ⟨Nat.le_refl _⟩, ⟨by repeat (first | (with_reducible first | exact HB.out | apply below_alloc | apply pw_below_drewN | apply below_drew1) | exact HB.out)⟩⟩
        case round =>
          clear H'
          try clear c1
          try clear p2
          try clear c5
          try clear c7
          try clear c8
          try clear p2
          obtain ⟨x22_2, rfl, HA, HK2, HB⟩ := hrel
          cases gk with
          | zero => exact absurd HA.out (by simp [spec_FirstBadOpening.l0])
          | succ k2 =>
            have H := HA.out
            clear HA
            simp only [spec_FirstBadOpening.l0] at H
            by_cases c9 : x22_2 < (l1.length : Int)
            · rw [if_pos c9] at H
              have c9b0 : decide (x22_2 < (l1.length : Int)) = true := decide_eq_true c9
              clear c9
              by_cases c10 : 0 ≤ x22_2
              · rw [if_pos c10] at H
                have c10b0 : decide (0 ≤ x22_2) = true := decide_eq_true c10
                clear c10
                by_cases c11 : x22_2 < (l1.length : Int)
                · rw [if_pos c11] at H
                  have c11b0 : decide (x22_2 < (l1.length : Int)) = true := decide_eq_true c11
                  clear c11
                  replace H := Option.bind_eq_some_iff.mp H
                  obtain ⟨t770, A120, H⟩ := H
                  replace H : (if t770 = true then (spec_FirstBadOpening.l0 k2 l0 l1 l1 (l1.length : Int) (wrap64 (x22_2 + 1))) else (some (0, false))) = some (r1, r2) := H
                  have A12 := Aside0.mk A120
                  clear A120
                  by_cases c13 : t770 = true
                  · subst c13
                    have H1 : (spec_FirstBadOpening.l0 k2 l0 l1 l1 (l1.length : Int) (wrap64 (x22_2 + 1))) = some (r1, r2) := by rw [if_pos rfl] at H; exact H
                    clear H
                    have H := H1
                    clear H1
                    have H' := Aside0.mk H
                    clear H
                    have p768 : 0 ≤ (x22_2 : Int) := of_decide_eq_true (by first | (with_reducible assumption) | assumption)
                    have q768 : x22_2 < (l1.length : Int) := of_decide_eq_true (by first | (with_reducible assumption) | assumption)
                    obtain ⟨ad768, e768, hx768_0, hx768_1⟩ := at_T55 HR1.out x22_2 p768 q768
                    cases e768
                    replace hx768_0 := (HB.out.cell (World.block_lt_of_cell? w _ hx768_0)).trans hx768_0
                    replace hx768_1 := (HB.out.cell (World.block_lt_of_cell? w _ hx768_1)).trans hx768_1
                    replace p768 := eq_true p768
                    replace q768 := eq_true q768
                    go_wp2_with (first | ((with_reducible refine gate_dst (N := 7) rfl ?_); refine box_event ?hg (N := 7) ?hd (cs := #[.int .i64 0, .string (⟨#[]⟩ : ByteArray)]) (t := 55) ?hr ?_; (case hd => rfl); (case hg => rfl); (case hr => first | (go_simp; done) | (go_simp; rfl)); intro gb769 hg w14 hbox hb; have n0_ := Aside0.mk (below_step (by repeat (first | (with_reducible first | exact HB.out | apply below_alloc | apply pw_below_drewN | apply below_drew1) | exact HB.out)) hb); have n1_ := Aside0.mk (hbox); have n2_ := Aside0.mk ((by rw [hg]; exact (below_size (by repeat (first | (with_reducible first | exact HB.out | apply below_alloc | apply pw_below_drewN | apply below_drew1) | exact HB.out))) : w.heap.size ≤ gb769)); have n3_ := Aside0.mk ((by rw [hg]; exact (below_size (by repeat (first | (with_reducible first | exact HB.out | apply below_alloc | apply pw_below_drewN | apply below_drew1) | exact HB.out))) : w.heap.size ≤ gb769)); clear HB; have HB := n0_; have BK769 := n1_; have GW769 := n2_; have GE769 := n3_; clear n0_ n1_ n2_ n3_; clear hb hbox hg; have hcz15_0 : w14.cell? ⟨gb769, 0, none⟩ = some (.int .i64 0) := (blk_cell BK769.out 0).trans rfl; have hcz15_1 : w14.cell? ⟨gb769, 1, none⟩ = some (.string (⟨#[]⟩ : ByteArray)) := (blk_cell BK769.out 1).trans rfl; have hfz15_0 := blk_frozen BK769.out 0; have hfz15_1 := blk_frozen BK769.out 1) | ((with_reducible refine gate_callee (f := 108) rfl ?_); refine goesL_ (some 27) rfl rfl Try.func108 (by kernel_rfl) rfl #[.agg #[.int .i64 ((rd_T55 l1 x22_2).f0), .string ((rd_T55 l1 x22_2).f1)]] rfl (by (try simp only [List.map_toArray, List.map_cons, List.map_nil]); first | done | rfl | (simp only [List.length_drop, List.length_take]; rfl)) ?_; (with_reducible refine (spec_eOpening.calls ((rd_T55 l1 x22_2).f0) ((rd_T55 l1 x22_2).f1) true _ A12.out).mono ?_); rintro e w16 ⟨rfl, hb⟩; refine ⟨_, rfl, ?_⟩; have n0_ := Aside0.mk (blk_below (g := gb769) (o := .cells #[.int .i64 ((rd_T55 l1 x22_2).f0), .string ((rd_T55 l1 x22_2).f1)] 55 (0, 0)) (by (with_reducible repeat (first | refine blk_drewN ?_ _ | refine blk_drew ?_ | refine blk_alloc ?_ _)); refine blk_put (cs := #[.int .i64 ((rd_T55 l1 x22_2).f0), .string (⟨#[]⟩ : ByteArray)]) ?_ 1 _ rfl; (with_reducible repeat (first | refine blk_drewN ?_ _ | refine blk_drew ?_ | refine blk_alloc ?_ _)); refine blk_put (cs := #[.int .i64 0, .string (⟨#[]⟩ : ByteArray)]) ?_ 0 _ rfl; (with_reducible repeat (first | refine blk_drewN ?_ _ | refine blk_drew ?_ | refine blk_alloc ?_ _)); exact BK769.out) hb); have n1_ := Aside0.mk (below_step (by repeat (first | (with_reducible first | exact HB.out | apply below_alloc | apply pw_below_drewN | apply below_drew1 | refine below_set ?_ GE769.out) | exact HB.out)) hb); clear BK769; clear HB; have BK769 := n0_; have HB := n1_; clear n0_ n1_; (try clear hb); (try clear hb2); (try clear hk); (try clear hi)))
                    go_roundg k2
                    case measure => have := HJ2.out; have := HK2.out; omega
                    case rel => exact ⟨(wrap64 (x22_2 + 1)), (by first | rfl | (simp; done) | (simp [*]; done)), H', ⟨by have := HJ2.out; have := HK2.out; omega⟩, ⟨by repeat (first | (with_reducible first | exact HB.out | apply below_alloc | apply pw_below_drewN | apply below_drew1 | refine below_set ?_ GE769.out) | exact HB.out)⟩⟩
                  · replace c13 := Bool.eq_false_iff.mpr c13
                    subst c13
                    have H1 : (some (0, false)) = some (r1, r2) := by rw [if_neg (show ¬ (false = true) by decide)] at H; exact H
                    clear H
                    have H := H1
                    clear H1
                    simp only [Option.some.injEq, Prod.mk.injEq] at H
                    obtain ⟨rfl, rfl⟩ := H
                    have p768 : 0 ≤ (x22_2 : Int) := of_decide_eq_true (by first | (with_reducible assumption) | assumption)
                    have q768 : x22_2 < (l1.length : Int) := of_decide_eq_true (by first | (with_reducible assumption) | assumption)
                    obtain ⟨ad768, e768, hx768_0, hx768_1⟩ := at_T55 HR1.out x22_2 p768 q768
                    cases e768
                    replace hx768_0 := (HB.out.cell (World.block_lt_of_cell? w _ hx768_0)).trans hx768_0
                    replace hx768_1 := (HB.out.cell (World.block_lt_of_cell? w _ hx768_1)).trans hx768_1
                    replace p768 := eq_true p768
                    replace q768 := eq_true q768
                    go_wp2_with (first | ((with_reducible refine gate_dst (N := 7) rfl ?_); refine box_event ?hg (N := 7) ?hd (cs := #[.int .i64 0, .string (⟨#[]⟩ : ByteArray)]) (t := 55) ?hr ?_; (case hd => rfl); (case hg => rfl); (case hr => first | (go_simp; done) | (go_simp; rfl)); intro gb769 hg w17 hbox hb; have n0_ := Aside0.mk (below_step (by repeat (first | (with_reducible first | exact HB.out | apply below_alloc | apply pw_below_drewN | apply below_drew1) | exact HB.out)) hb); have n1_ := Aside0.mk (hbox); have n2_ := Aside0.mk ((by rw [hg]; exact (below_size (by repeat (first | (with_reducible first | exact HB.out | apply below_alloc | apply pw_below_drewN | apply below_drew1) | exact HB.out))) : w.heap.size ≤ gb769)); have n3_ := Aside0.mk ((by rw [hg]; exact (below_size (by repeat (first | (with_reducible first | exact HB.out | apply below_alloc | apply pw_below_drewN | apply below_drew1) | exact HB.out))) : w.heap.size ≤ gb769)); clear HB; have HB := n0_; have BK769 := n1_; have GW769 := n2_; have GE769 := n3_; clear n0_ n1_ n2_ n3_; clear hb hbox hg; have hcz18_0 : w17.cell? ⟨gb769, 0, none⟩ = some (.int .i64 0) := (blk_cell BK769.out 0).trans rfl; have hcz18_1 : w17.cell? ⟨gb769, 1, none⟩ = some (.string (⟨#[]⟩ : ByteArray)) := (blk_cell BK769.out 1).trans rfl; have hfz18_0 := blk_frozen BK769.out 0; have hfz18_1 := blk_frozen BK769.out 1) | ((with_reducible refine gate_callee (f := 108) rfl ?_); refine goesL_ (some 27) rfl rfl Try.func108 (by kernel_rfl) rfl #[.agg #[.int .i64 ((rd_T55 l1 x22_2).f0), .string ((rd_T55 l1 x22_2).f1)]] rfl (by (try simp only [List.map_toArray, List.map_cons, List.map_nil]); first | done | rfl | (simp only [List.length_drop, List.length_take]; rfl)) ?_; (with_reducible refine (spec_eOpening.calls ((rd_T55 l1 x22_2).f0) ((rd_T55 l1 x22_2).f1) false _ A12.out).mono ?_); rintro e w19 ⟨rfl, hb⟩; refine ⟨_, rfl, ?_⟩; have n0_ := Aside0.mk (blk_below (g := gb769) (o := .cells #[.int .i64 ((rd_T55 l1 x22_2).f0), .string ((rd_T55 l1 x22_2).f1)] 55 (0, 0)) (by (with_reducible repeat (first | refine blk_drewN ?_ _ | refine blk_drew ?_ | refine blk_alloc ?_ _)); refine blk_put (cs := #[.int .i64 ((rd_T55 l1 x22_2).f0), .string (⟨#[]⟩ : ByteArray)]) ?_ 1 _ rfl; (with_reducible repeat (first | refine blk_drewN ?_ _ | refine blk_drew ?_ | refine blk_alloc ?_ _)); refine blk_put (cs := #[.int .i64 0, .string (⟨#[]⟩ : ByteArray)]) ?_ 0 _ rfl; (with_reducible repeat (first | refine blk_drewN ?_ _ | refine blk_drew ?_ | refine blk_alloc ?_ _)); exact BK769.out) hb); have n1_ := Aside0.mk (below_step (by repeat (first | (with_reducible first | exact HB.out | apply below_alloc | apply pw_below_drewN | apply below_drew1 | refine below_set ?_ GE769.out) | exact HB.out)) hb); clear BK769; clear HB; have BK769 := n0_; have HB := n1_; clear n0_ n1_; (try clear hb); (try clear hb2); (try clear hk); (try clear hi)))
                    go_ret2
                    exact ⟨by first | rfl | (simp [errW_none, errW_some] <;> rfl) | (simp [*, errW_none, errW_some] <;> rfl), by repeat (first | (with_reducible first | exact HB.out | apply below_alloc | apply pw_below_drewN | apply below_drew1 | refine below_set ?_ GE769.out) | exact HB.out)⟩
                · rw [if_neg c11] at H
                  exact absurd H (by simp)
              · rw [if_neg c10] at H
                exact absurd H (by simp)
            · rw [if_neg c9] at H
              have c9b0 : decide (x22_2 < (l1.length : Int)) = false := decide_eq_false c9
              clear c9
              have H' := Aside0.mk H
              clear H
              go_wp2
              go_loopg [32] k2 (fun kq v32 w' => ∃ (x32_3 : Int), v32 = .int .i64 x32_3 ∧ Aside0 (spec_FirstBadOpening.l1 kq l0 l1 l0 (l0.length : Int) x32_3 = some (r1, r2)) ∧ Aside0 (kq ≤ k2) ∧ Aside0 (Below w.heap.size w w'))
              case atStart => exact ⟨(0), (by first | rfl | (simp; done) | (simp [*]; done)), H', ⟨Nat.le_refl _⟩, ⟨by repeat (first | (with_reducible first | exact HB.out | apply below_alloc | apply pw_below_drewN | apply below_drew1) | exact HB.out)⟩⟩
              case round =>
                clear H'
                try clear c1
                try clear p2
                try clear c5
                try clear p6
                try clear c7
                try clear p7
                try clear q7
                try clear hx7
                try clear c8
                try clear c9
                try clear c9b0
                try clear c10
                try clear c10b0
                try clear c11
                try clear c11b0
                try clear c13
                try clear hcz15_0
                try clear hcz15_1
                try clear hcz18_0
                try clear hcz18_1
                try clear hfz15_0
                try clear hfz15_1
                try clear hfz18_0
                try clear hfz18_1
                try clear hx768_0
                try clear hx768_1
                try clear p2
                try clear p768
                try clear q768
                obtain ⟨x32_3, rfl, HA, HK3, HB⟩ := hrel
                cases gk with
                | zero => exact absurd HA.out (by simp [spec_FirstBadOpening.l1])
                | succ k3 =>
                  have H := HA.out
                  clear HA
                  simp only [spec_FirstBadOpening.l1] at H
                  by_cases c20 : x32_3 < (l0.length : Int)
                  · rw [if_pos c20] at H
                    have c20b0 : decide (x32_3 < (l0.length : Int)) = true := decide_eq_true c20
                    clear c20
                    by_cases c21 : 0 ≤ x32_3
                    · rw [if_pos c21] at H
                      have c21b0 : decide (0 ≤ x32_3) = true := decide_eq_true c21
                      clear c21
                      by_cases c22 : x32_3 < (l0.length : Int)
                      · rw [if_pos c22] at H
                        have c22b0 : decide (x32_3 < (l0.length : Int)) = true := decide_eq_true c22
                        clear c22
                        by_cases c23 : x32_3 < (l1.length : Int)
                        · rw [if_pos c23] at H
                          have c23b0 : decide (x32_3 < (l1.length : Int)) = true := decide_eq_true c23
                          clear c23
                          replace H := Option.bind_eq_some_iff.mp H
                          obtain ⟨t774, A240, H⟩ := H
                          replace H : (if t774 = true then (spec_FirstBadOpening.l1 k3 l0 l1 l0 (l0.length : Int) (wrap64 (x32_3 + 1))) else (some (x32_3, true))) = some (r1, r2) := H
                          have A24 := Aside0.mk A240
                          clear A240
                          by_cases c25 : t774 = true
                          · subst c25
                            have H1 : (spec_FirstBadOpening.l1 k3 l0 l1 l0 (l0.length : Int) (wrap64 (x32_3 + 1))) = some (r1, r2) := by rw [if_pos rfl] at H; exact H
                            clear H
                            have H := H1
                            clear H1
                            have H' := Aside0.mk H
                            clear H
                            have p771 : 0 ≤ (x32_3 : Int) := of_decide_eq_true (by first | (with_reducible assumption) | assumption)
                            have q771 : x32_3 < (l0.length : Int) := of_decide_eq_true (by first | (with_reducible assumption) | assumption)
                            obtain ⟨ad771, e771, hx771_0, hx771_1, hx771_2⟩ := at_T25 HR0.out x32_3 p771 q771
                            cases e771
                            replace hx771_0 := (HB.out.cell (World.block_lt_of_cell? w _ hx771_0)).trans hx771_0
                            replace hx771_1 := (HB.out.cell (World.block_lt_of_cell? w _ hx771_1)).trans hx771_1
                            replace hx771_2 := (HB.out.cell (World.block_lt_of_cell? w _ hx771_2)).trans hx771_2
                            replace p771 := eq_true p771
                            replace q771 := eq_true q771
                            try go_wp2_with (first | ((with_reducible refine gate_dst (N := 9) rfl ?_); refine box_event ?hg (N := 9) ?hd (cs := #[.int .i64 0, .int .i64 0, .int .i64 0]) (t := 25) ?hr ?_; (case hd => rfl); (case hg => rfl); (case hr => first | (go_simp; done) | (go_simp; rfl)); intro gb772 hg w26 hbox hb; have n0_ := Aside0.mk (below_step (by repeat (first | (with_reducible first | exact HB.out | apply below_alloc | apply pw_below_drewN | apply below_drew1) | exact HB.out)) hb); have n1_ := Aside0.mk (hbox); have n2_ := Aside0.mk ((by rw [hg]; exact (below_size (by repeat (first | (with_reducible first | exact HB.out | apply below_alloc | apply pw_below_drewN | apply below_drew1) | exact HB.out))) : w.heap.size ≤ gb772)); have n3_ := Aside0.mk ((by rw [hg]; exact (below_size (by repeat (first | (with_reducible first | exact HB.out | apply below_alloc | apply pw_below_drewN | apply below_drew1) | exact HB.out))) : w.heap.size ≤ gb772)); clear HB; have HB := n0_; have BK772 := n1_; have GW772 := n2_; have GE772 := n3_; clear n0_ n1_ n2_ n3_; clear hb hbox hg; have hcz27_0 : w26.cell? ⟨gb772, 0, none⟩ = some (.int .i64 0) := (blk_cell BK772.out 0).trans rfl; have hcz27_1 : w26.cell? ⟨gb772, 1, none⟩ = some (.int .i64 0) := (blk_cell BK772.out 1).trans rfl; have hcz27_2 : w26.cell? ⟨gb772, 2, none⟩ = some (.int .i64 0) := (blk_cell BK772.out 2).trans rfl; have hfz27_0 := blk_frozen BK772.out 0; have hfz27_1 := blk_frozen BK772.out 1; have hfz27_2 := blk_frozen BK772.out 2))
                            have n0_ : Aside0 ((((w26.setCell ⟨gb772, 0, none⟩ (.int .i64 ((rd_T25 l0 x32_3).f0))).setCell ⟨gb772, 1, none⟩ (.int .i64 ((rd_T25 l0 x32_3).f1))).setCell ⟨gb772, 2, none⟩ (.int .i64 ((rd_T25 l0 x32_3).f2))).heap[gb772]? = some (.cells #[.int .i64 ((rd_T25 l0 x32_3).f0), .int .i64 ((rd_T25 l0 x32_3).f1), .int .i64 ((rd_T25 l0 x32_3).f2)] 25 (0, 0))) := ⟨by (with_reducible repeat (first | refine blk_drewN ?_ _ | refine blk_drew ?_ | refine blk_alloc ?_ _)); refine blk_put (cs := #[.int .i64 ((rd_T25 l0 x32_3).f0), .int .i64 ((rd_T25 l0 x32_3).f1), .int .i64 0]) ?_ 2 _ rfl; (with_reducible repeat (first | refine blk_drewN ?_ _ | refine blk_drew ?_ | refine blk_alloc ?_ _)); refine blk_put (cs := #[.int .i64 ((rd_T25 l0 x32_3).f0), .int .i64 0, .int .i64 0]) ?_ 1 _ rfl; (with_reducible repeat (first | refine blk_drewN ?_ _ | refine blk_drew ?_ | refine blk_alloc ?_ _)); refine blk_put (cs := #[.int .i64 0, .int .i64 0, .int .i64 0]) ?_ 0 _ rfl; (with_reducible repeat (first | refine blk_drewN ?_ _ | refine blk_drew ?_ | refine blk_alloc ?_ _)); exact BK772.out⟩
                            have n1_ : Aside0 (Below w.heap.size w (((w26.setCell ⟨gb772, 0, none⟩ (.int .i64 ((rd_T25 l0 x32_3).f0))).setCell ⟨gb772, 1, none⟩ (.int .i64 ((rd_T25 l0 x32_3).f1))).setCell ⟨gb772, 2, none⟩ (.int .i64 ((rd_T25 l0 x32_3).f2)))) := ⟨by repeat (first | (with_reducible first | exact HB.out | apply below_alloc | apply pw_below_drewN | apply below_drew1 | refine below_set ?_ GE772.out) | exact HB.out)⟩
                            (try clear BK772)
                            (try clear HB)
                            generalize (((w26.setCell ⟨gb772, 0, none⟩ (.int .i64 ((rd_T25 l0 x32_3).f0))).setCell ⟨gb772, 1, none⟩ (.int .i64 ((rd_T25 l0 x32_3).f1))).setCell ⟨gb772, 2, none⟩ (.int .i64 ((rd_T25 l0 x32_3).f2))) = w28 at n0_ n1_ ⊢
                            have BK772 := n0_
                            have HB := n1_
                            clear n0_ n1_
                            have n0_ := Aside0.mk (blk_drew BK772.out)
                            have n1_ := Aside0.mk (below_drew1 HB.out)
                            clear BK772
                            clear HB
                            have BK772 := n0_
                            have HB := n1_
                            clear n0_ n1_
                            have p773 : 0 ≤ (x32_3 : Int) := of_decide_eq_true (by first | (with_reducible assumption) | assumption)
                            have q773 : x32_3 < (l1.length : Int) := of_decide_eq_true (by first | (with_reducible assumption) | assumption)
                            obtain ⟨ad773, e773, hx773_0, hx773_1⟩ := at_T55 HR1.out x32_3 p773 q773
                            have hw773_1 := hx773_1
                            have hw773_0 := hx773_0
                            cases e773
                            replace hx773_0 := (HB.out.cell (World.block_lt_of_cell? w _ hx773_0)).trans hx773_0
                            replace hx773_1 := (HB.out.cell (World.block_lt_of_cell? w _ hx773_1)).trans hx773_1
                            replace p773 := eq_true p773
                            replace q773 := eq_true q773
                            refine start_ (n := 7) (S := fun w' => w'.cell? ⟨gb772, 0, none⟩ = some (.int .i64 ((rd_T25 l0 x32_3).f0)) ∧ w'.cell? ⟨gb772, 1, none⟩ = some (.int .i64 ((rd_T25 l0 x32_3).f1)) ∧ w'.cell? ⟨gb772, 2, none⟩ = some (.int .i64 ((rd_T25 l0 x32_3).f2)) ∧ w'.cell? (ad773.add ((x32_3).toNat * 2)) = some (.int .i64 ((rd_T55 l1 x32_3).f0)) ∧ w'.cell? ⟨(ad773.add ((x32_3).toNat * 2)).block, (ad773.add ((x32_3).toNat * 2)).off + 1, none⟩ = some (.string ((rd_T55 l1 x32_3).f1))) (ds := []) #[false, false, false, false, false, false, false] (by kernel_rfl) rfl rfl ⟨(blk_cell BK772.out 0).trans rfl, (blk_cell BK772.out 1).trans rfl, (blk_cell BK772.out 2).trans rfl, ((HB.out.cell (World.block_lt_of_cell? w _ hw773_0)).trans hw773_0), ((HB.out.cell (World.block_lt_of_cell? w _ hw773_1)).trans hw773_1)⟩ (fun hHeld => ?_)
                            generalize w28.drew = w29 at BK772 HB hx773_0 hx773_1 hHeld ⊢
                            refine pure_ (i := 1) (N := some 38) (v := ?_) (a' := ?_) #[false, true, false, false, false, false, false] rfl rfl (by kernel_rfl) (fun _ _ _ h => h) (Or.inl ⟨by rfl, ?_⟩) ?_ ?_
                            rotate_left
                            · intro w'
                              go_simp
                              with_reducible rfl
                            rotate_left
                            · simp only [Act.put, List.setIfInBounds_toArray, List.set_cons_zero, List.set_cons_succ, i64_w, i32_w]
                              rfl
                            refine pure_ (i := 2) (N := some 39) (v := ?_) (a' := ?_) #[false, true, true, false, false, false, false] rfl rfl (by kernel_rfl) (fun _ _ _ h => h) (Or.inl ⟨by rfl, ?_⟩) ?_ ?_
                            rotate_left
                            · intro w'
                              go_simp
                              with_reducible rfl
                            rotate_left
                            · simp only [Act.put, List.setIfInBounds_toArray, List.set_cons_zero, List.set_cons_succ, i64_w, i32_w]
                              rfl
                            refine pure_ (i := 3) (N := some 40) (v := ?_) (a' := ?_) #[false, true, true, true, false, false, false] rfl rfl (by kernel_rfl) (fun _ _ _ h => h) (Or.inl ⟨by rfl, ?_⟩) ?_ ?_
                            rotate_left
                            · intro w'
                              go_simp
                              with_reducible rfl
                            rotate_left
                            · simp only [Act.put, List.setIfInBounds_toArray, List.set_cons_zero, List.set_cons_succ, i64_w, i32_w]
                              rfl
                            refine take_ (i := 0) (N := some 37) (v := ?_) (a' := ?_) #[true, true, true, true, false, false, false] rfl rfl (by kernel_rfl) (fun _ _ _ h => h) (Or.inl ⟨by rfl, ?_⟩) hHeld ?_ ?_
                            rotate_left
                            · rintro w' ⟨s0, s1, s2, s3, s4⟩
                              go_simp
                              with_reducible rfl
                            rotate_left
                            · simp only [Act.put, List.setIfInBounds_toArray, List.set_cons_zero, List.set_cons_succ, i64_w, i32_w]
                              rfl
                            refine take_ (i := 4) (N := some 41) (v := ?_) (a' := ?_) #[true, true, true, true, true, false, false] rfl rfl (by kernel_rfl) (fun _ _ _ h => h) (Or.inl ⟨by rfl, ?_⟩) hHeld ?_ ?_
                            rotate_left
                            · rintro w' ⟨s0, s1, s2, s3, s4⟩
                              go_simp
                              with_reducible rfl
                            rotate_left
                            · simp only [Act.put, List.setIfInBounds_toArray, List.set_cons_zero, List.set_cons_succ, i64_w, i32_w]
                              rfl
                            refine one_ (i := 5) (N := some 42) #[true, true, true, true, true, true, false] rfl rfl (by kernel_rfl) (by decide) (fun K hK => ?_)
                            refine goes_ Try.func112 (by kernel_rfl) rfl #[.agg #[.int .i64 ((rd_T25 l0 x32_3).f0), .int .i64 ((rd_T25 l0 x32_3).f1), .int .i64 ((rd_T25 l0 x32_3).f2)], .agg #[.int .i64 ((rd_T55 l1 x32_3).f0), .string ((rd_T55 l1 x32_3).f1)]] (by rfl) rfl rfl (by (try simp only [List.map_toArray, List.map_cons, List.map_nil]); first | done | rfl | (simp only [List.length_drop, List.length_take]; rfl)) ?_
                            with_reducible refine (spec_eOpens.calls k3 ((rd_T25 l0 x32_3).f0) ((rd_T25 l0 x32_3).f1) ((rd_T25 l0 x32_3).f2) ((rd_T55 l1 x32_3).f0) ((rd_T55 l1 x32_3).f1) true _ A24.out).mono ?_
                            rintro e w30 ⟨rfl, hb⟩
                            refine ⟨_, rfl, ?_⟩
                            have n0_ := Aside0.mk (blk_below (g := gb772) (o := .cells #[.int .i64 ((rd_T25 l0 x32_3).f0), .int .i64 ((rd_T25 l0 x32_3).f1), .int .i64 ((rd_T25 l0 x32_3).f2)] 25 (0, 0)) (by (with_reducible repeat (first | refine blk_drewN ?_ _ | refine blk_drew ?_ | refine blk_alloc ?_ _)); exact BK772.out) hb)
                            have n1_ := Aside0.mk (below_step (by repeat (first | (with_reducible first | exact HB.out | apply below_alloc | apply pw_below_drewN | apply below_drew1 | refine below_set ?_ GE772.out) | exact HB.out)) hb)
                            clear BK772
                            clear HB
                            have BK772 := n0_
                            have HB := n1_
                            clear n0_ n1_
                            (try clear hb)
                            (try clear hb2)
                            (try clear hk)
                            (try clear hi)
                            refine hK.out _ _ ⟨(blk_cell BK772.out 0).trans rfl, (blk_cell BK772.out 1).trans rfl, (blk_cell BK772.out 2).trans rfl, ((HB.out.cell (World.block_lt_of_cell? w _ hw773_0)).trans hw773_0), ((HB.out.cell (World.block_lt_of_cell? w _ hw773_1)).trans hw773_1)⟩ (fun hHeld => ?_)
                            clear hK K
                            refine norm_ (a' := ?_) ?_ ?_
                            rotate_left
                            · show Act.put _ (some 42) _ = _
                              simp only [Act.put, List.setIfInBounds_toArray, List.set_cons_zero, List.set_cons_succ, i64_w, i32_w]
                              rfl
                            refine pure_ (i := 6) (N := some 43) (v := ?_) (a' := ?_) #[true, true, true, true, true, true, true] rfl rfl (by kernel_rfl) (fun _ _ _ h => h) (Or.inl ⟨by rfl, ?_⟩) ?_ ?_
                            rotate_left
                            · intro w'
                              go_simp
                              with_reducible rfl
                            rotate_left
                            · simp only [Act.put, List.setIfInBounds_toArray, List.set_cons_zero, List.set_cons_succ, i64_w, i32_w]
                              rfl
                            refine done_ (by kernel_rfl) ?_
                            try go_wp2
                            go_roundg k3
                            case measure => have := HJ2.out; have := HK2.out; have := HK3.out; omega
                            case rel => exact ⟨(wrap64 (x32_3 + 1)), (by first | rfl | (simp; done) | (simp [*]; done)), H', ⟨by have := HJ2.out; have := HK2.out; have := HK3.out; omega⟩, ⟨by repeat (first | (with_reducible first | exact HB.out | apply below_alloc | apply pw_below_drewN | apply below_drew1 | refine below_set ?_ GE772.out) | exact HB.out)⟩⟩
                          · replace c25 := Bool.eq_false_iff.mpr c25
                            subst c25
                            have H1 : (some (x32_3, true)) = some (r1, r2) := by rw [if_neg (show ¬ (false = true) by decide)] at H; exact H
                            clear H
                            have H := H1
                            clear H1
                            simp only [Option.some.injEq, Prod.mk.injEq] at H
                            obtain ⟨rfl, rfl⟩ := H
                            have p771 : 0 ≤ (x32_3 : Int) := of_decide_eq_true (by first | (with_reducible assumption) | assumption)
                            have q771 : x32_3 < (l0.length : Int) := of_decide_eq_true (by first | (with_reducible assumption) | assumption)
                            obtain ⟨ad771, e771, hx771_0, hx771_1, hx771_2⟩ := at_T25 HR0.out x32_3 p771 q771
                            cases e771
                            replace hx771_0 := (HB.out.cell (World.block_lt_of_cell? w _ hx771_0)).trans hx771_0
                            replace hx771_1 := (HB.out.cell (World.block_lt_of_cell? w _ hx771_1)).trans hx771_1
                            replace hx771_2 := (HB.out.cell (World.block_lt_of_cell? w _ hx771_2)).trans hx771_2
                            replace p771 := eq_true p771
                            replace q771 := eq_true q771
                            try go_wp2_with (first | ((with_reducible refine gate_dst (N := 9) rfl ?_); refine box_event ?hg (N := 9) ?hd (cs := #[.int .i64 0, .int .i64 0, .int .i64 0]) (t := 25) ?hr ?_; (case hd => rfl); (case hg => rfl); (case hr => first | (go_simp; done) | (go_simp; rfl)); intro gb772 hg w31 hbox hb; have n0_ := Aside0.mk (below_step (by repeat (first | (with_reducible first | exact HB.out | apply below_alloc | apply pw_below_drewN | apply below_drew1) | exact HB.out)) hb); have n1_ := Aside0.mk (hbox); have n2_ := Aside0.mk ((by rw [hg]; exact (below_size (by repeat (first | (with_reducible first | exact HB.out | apply below_alloc | apply pw_below_drewN | apply below_drew1) | exact HB.out))) : w.heap.size ≤ gb772)); have n3_ := Aside0.mk ((by rw [hg]; exact (below_size (by repeat (first | (with_reducible first | exact HB.out | apply below_alloc | apply pw_below_drewN | apply below_drew1) | exact HB.out))) : w.heap.size ≤ gb772)); clear HB; have HB := n0_; have BK772 := n1_; have GW772 := n2_; have GE772 := n3_; clear n0_ n1_ n2_ n3_; clear hb hbox hg; have hcz32_0 : w31.cell? ⟨gb772, 0, none⟩ = some (.int .i64 0) := (blk_cell BK772.out 0).trans rfl; have hcz32_1 : w31.cell? ⟨gb772, 1, none⟩ = some (.int .i64 0) := (blk_cell BK772.out 1).trans rfl; have hcz32_2 : w31.cell? ⟨gb772, 2, none⟩ = some (.int .i64 0) := (blk_cell BK772.out 2).trans rfl; have hfz32_0 := blk_frozen BK772.out 0; have hfz32_1 := blk_frozen BK772.out 1; have hfz32_2 := blk_frozen BK772.out 2))
                            have n0_ : Aside0 ((((w31.setCell ⟨gb772, 0, none⟩ (.int .i64 ((rd_T25 l0 x32_3).f0))).setCell ⟨gb772, 1, none⟩ (.int .i64 ((rd_T25 l0 x32_3).f1))).setCell ⟨gb772, 2, none⟩ (.int .i64 ((rd_T25 l0 x32_3).f2))).heap[gb772]? = some (.cells #[.int .i64 ((rd_T25 l0 x32_3).f0), .int .i64 ((rd_T25 l0 x32_3).f1), .int .i64 ((rd_T25 l0 x32_3).f2)] 25 (0, 0))) := ⟨by (with_reducible repeat (first | refine blk_drewN ?_ _ | refine blk_drew ?_ | refine blk_alloc ?_ _)); refine blk_put (cs := #[.int .i64 ((rd_T25 l0 x32_3).f0), .int .i64 ((rd_T25 l0 x32_3).f1), .int .i64 0]) ?_ 2 _ rfl; (with_reducible repeat (first | refine blk_drewN ?_ _ | refine blk_drew ?_ | refine blk_alloc ?_ _)); refine blk_put (cs := #[.int .i64 ((rd_T25 l0 x32_3).f0), .int .i64 0, .int .i64 0]) ?_ 1 _ rfl; (with_reducible repeat (first | refine blk_drewN ?_ _ | refine blk_drew ?_ | refine blk_alloc ?_ _)); refine blk_put (cs := #[.int .i64 0, .int .i64 0, .int .i64 0]) ?_ 0 _ rfl; (with_reducible repeat (first | refine blk_drewN ?_ _ | refine blk_drew ?_ | refine blk_alloc ?_ _)); exact BK772.out⟩
                            have n1_ : Aside0 (Below w.heap.size w (((w31.setCell ⟨gb772, 0, none⟩ (.int .i64 ((rd_T25 l0 x32_3).f0))).setCell ⟨gb772, 1, none⟩ (.int .i64 ((rd_T25 l0 x32_3).f1))).setCell ⟨gb772, 2, none⟩ (.int .i64 ((rd_T25 l0 x32_3).f2)))) := ⟨by repeat (first | (with_reducible first | exact HB.out | apply below_alloc | apply pw_below_drewN | apply below_drew1 | refine below_set ?_ GE772.out) | exact HB.out)⟩
                            (try clear BK772)
                            (try clear HB)
                            generalize (((w31.setCell ⟨gb772, 0, none⟩ (.int .i64 ((rd_T25 l0 x32_3).f0))).setCell ⟨gb772, 1, none⟩ (.int .i64 ((rd_T25 l0 x32_3).f1))).setCell ⟨gb772, 2, none⟩ (.int .i64 ((rd_T25 l0 x32_3).f2))) = w33 at n0_ n1_ ⊢
                            have BK772 := n0_
                            have HB := n1_
                            clear n0_ n1_
                            have n0_ := Aside0.mk (blk_drew BK772.out)
                            have n1_ := Aside0.mk (below_drew1 HB.out)
                            clear BK772
                            clear HB
                            have BK772 := n0_
                            have HB := n1_
                            clear n0_ n1_
                            have p773 : 0 ≤ (x32_3 : Int) := of_decide_eq_true (by first | (with_reducible assumption) | assumption)
                            have q773 : x32_3 < (l1.length : Int) := of_decide_eq_true (by first | (with_reducible assumption) | assumption)
                            obtain ⟨ad773, e773, hx773_0, hx773_1⟩ := at_T55 HR1.out x32_3 p773 q773
                            have hw773_1 := hx773_1
                            have hw773_0 := hx773_0
                            cases e773
                            replace hx773_0 := (HB.out.cell (World.block_lt_of_cell? w _ hx773_0)).trans hx773_0
                            replace hx773_1 := (HB.out.cell (World.block_lt_of_cell? w _ hx773_1)).trans hx773_1
                            replace p773 := eq_true p773
                            replace q773 := eq_true q773
                            refine start_ (n := 7) (S := fun w' => w'.cell? ⟨gb772, 0, none⟩ = some (.int .i64 ((rd_T25 l0 x32_3).f0)) ∧ w'.cell? ⟨gb772, 1, none⟩ = some (.int .i64 ((rd_T25 l0 x32_3).f1)) ∧ w'.cell? ⟨gb772, 2, none⟩ = some (.int .i64 ((rd_T25 l0 x32_3).f2)) ∧ w'.cell? (ad773.add ((x32_3).toNat * 2)) = some (.int .i64 ((rd_T55 l1 x32_3).f0)) ∧ w'.cell? ⟨(ad773.add ((x32_3).toNat * 2)).block, (ad773.add ((x32_3).toNat * 2)).off + 1, none⟩ = some (.string ((rd_T55 l1 x32_3).f1))) (ds := []) #[false, false, false, false, false, false, false] (by kernel_rfl) rfl rfl ⟨(blk_cell BK772.out 0).trans rfl, (blk_cell BK772.out 1).trans rfl, (blk_cell BK772.out 2).trans rfl, ((HB.out.cell (World.block_lt_of_cell? w _ hw773_0)).trans hw773_0), ((HB.out.cell (World.block_lt_of_cell? w _ hw773_1)).trans hw773_1)⟩ (fun hHeld => ?_)
                            generalize w33.drew = w34 at BK772 HB hx773_0 hx773_1 hHeld ⊢
                            refine pure_ (i := 1) (N := some 38) (v := ?_) (a' := ?_) #[false, true, false, false, false, false, false] rfl rfl (by kernel_rfl) (fun _ _ _ h => h) (Or.inl ⟨by rfl, ?_⟩) ?_ ?_
                            rotate_left
                            · intro w'
                              go_simp
                              with_reducible rfl
                            rotate_left
                            · simp only [Act.put, List.setIfInBounds_toArray, List.set_cons_zero, List.set_cons_succ, i64_w, i32_w]
                              rfl
                            refine pure_ (i := 2) (N := some 39) (v := ?_) (a' := ?_) #[false, true, true, false, false, false, false] rfl rfl (by kernel_rfl) (fun _ _ _ h => h) (Or.inl ⟨by rfl, ?_⟩) ?_ ?_
                            rotate_left
                            · intro w'
                              go_simp
                              with_reducible rfl
                            rotate_left
                            · simp only [Act.put, List.setIfInBounds_toArray, List.set_cons_zero, List.set_cons_succ, i64_w, i32_w]
                              rfl
                            refine pure_ (i := 3) (N := some 40) (v := ?_) (a' := ?_) #[false, true, true, true, false, false, false] rfl rfl (by kernel_rfl) (fun _ _ _ h => h) (Or.inl ⟨by rfl, ?_⟩) ?_ ?_
                            rotate_left
                            · intro w'
                              go_simp
                              with_reducible rfl
                            rotate_left
                            · simp only [Act.put, List.setIfInBounds_toArray, List.set_cons_zero, List.set_cons_succ, i64_w, i32_w]
                              rfl
                            refine take_ (i := 0) (N := some 37) (v := ?_) (a' := ?_) #[true, true, true, true, false, false, false] rfl rfl (by kernel_rfl) (fun _ _ _ h => h) (Or.inl ⟨by rfl, ?_⟩) hHeld ?_ ?_
                            rotate_left
                            · rintro w' ⟨s0, s1, s2, s3, s4⟩
                              go_simp
                              with_reducible rfl
                            rotate_left
                            · simp only [Act.put, List.setIfInBounds_toArray, List.set_cons_zero, List.set_cons_succ, i64_w, i32_w]
                              rfl
                            refine take_ (i := 4) (N := some 41) (v := ?_) (a' := ?_) #[true, true, true, true, true, false, false] rfl rfl (by kernel_rfl) (fun _ _ _ h => h) (Or.inl ⟨by rfl, ?_⟩) hHeld ?_ ?_
                            rotate_left
                            · rintro w' ⟨s0, s1, s2, s3, s4⟩
                              go_simp
                              with_reducible rfl
                            rotate_left
                            · simp only [Act.put, List.setIfInBounds_toArray, List.set_cons_zero, List.set_cons_succ, i64_w, i32_w]
                              rfl
                            refine one_ (i := 5) (N := some 42) #[true, true, true, true, true, true, false] rfl rfl (by kernel_rfl) (by decide) (fun K hK => ?_)
                            refine goes_ Try.func112 (by kernel_rfl) rfl #[.agg #[.int .i64 ((rd_T25 l0 x32_3).f0), .int .i64 ((rd_T25 l0 x32_3).f1), .int .i64 ((rd_T25 l0 x32_3).f2)], .agg #[.int .i64 ((rd_T55 l1 x32_3).f0), .string ((rd_T55 l1 x32_3).f1)]] (by rfl) rfl rfl (by (try simp only [List.map_toArray, List.map_cons, List.map_nil]); first | done | rfl | (simp only [List.length_drop, List.length_take]; rfl)) ?_
                            with_reducible refine (spec_eOpens.calls k3 ((rd_T25 l0 x32_3).f0) ((rd_T25 l0 x32_3).f1) ((rd_T25 l0 x32_3).f2) ((rd_T55 l1 x32_3).f0) ((rd_T55 l1 x32_3).f1) false _ A24.out).mono ?_
                            rintro e w35 ⟨rfl, hb⟩
                            refine ⟨_, rfl, ?_⟩
                            have n0_ := Aside0.mk (blk_below (g := gb772) (o := .cells #[.int .i64 ((rd_T25 l0 x32_3).f0), .int .i64 ((rd_T25 l0 x32_3).f1), .int .i64 ((rd_T25 l0 x32_3).f2)] 25 (0, 0)) (by (with_reducible repeat (first | refine blk_drewN ?_ _ | refine blk_drew ?_ | refine blk_alloc ?_ _)); exact BK772.out) hb)
                            have n1_ := Aside0.mk (below_step (by repeat (first | (with_reducible first | exact HB.out | apply below_alloc | apply pw_below_drewN | apply below_drew1 | refine below_set ?_ GE772.out) | exact HB.out)) hb)
                            clear BK772
                            clear HB
                            have BK772 := n0_
                            have HB := n1_
                            clear n0_ n1_
                            (try clear hb)
                            (try clear hb2)
                            (try clear hk)
                            (try clear hi)
                            refine hK.out _ _ ⟨(blk_cell BK772.out 0).trans rfl, (blk_cell BK772.out 1).trans rfl, (blk_cell BK772.out 2).trans rfl, ((HB.out.cell (World.block_lt_of_cell? w _ hw773_0)).trans hw773_0), ((HB.out.cell (World.block_lt_of_cell? w _ hw773_1)).trans hw773_1)⟩ (fun hHeld => ?_)
                            clear hK K
                            refine norm_ (a' := ?_) ?_ ?_
                            rotate_left
                            · show Act.put _ (some 42) _ = _
                              simp only [Act.put, List.setIfInBounds_toArray, List.set_cons_zero, List.set_cons_succ, i64_w, i32_w]
                              rfl
                            refine pure_ (i := 6) (N := some 43) (v := ?_) (a' := ?_) #[true, true, true, true, true, true, true] rfl rfl (by kernel_rfl) (fun _ _ _ h => h) (Or.inl ⟨by rfl, ?_⟩) ?_ ?_
                            rotate_left
                            · intro w'
                              go_simp
                              with_reducible rfl
                            rotate_left
                            · simp only [Act.put, List.setIfInBounds_toArray, List.set_cons_zero, List.set_cons_succ, i64_w, i32_w]
                              rfl
                            refine done_ (by kernel_rfl) ?_
                            try go_wp2
                            go_ret2
                            exact ⟨by first | rfl | (simp [errW_none, errW_some] <;> rfl) | (simp [*, errW_none, errW_some] <;> rfl), by repeat (first | (with_reducible first | exact HB.out | apply below_alloc | apply pw_below_drewN | apply below_drew1 | refine below_set ?_ GE772.out) | exact HB.out)⟩
                        · rw [if_neg c23] at H
                          exact absurd H (by simp)
                      · rw [if_neg c22] at H
                        exact absurd H (by simp)
                    · rw [if_neg c21] at H
                      exact absurd H (by simp)
                  · rw [if_neg c20] at H
                    have c20b0 : decide (x32_3 < (l0.length : Int)) = false := decide_eq_false c20
                    clear c20
                    simp only [Option.some.injEq, Prod.mk.injEq] at H
                    obtain ⟨rfl, rfl⟩ := H
                    go_wp2
                    go_ret2
                    exact ⟨by first | rfl | (simp [errW_none, errW_some] <;> rfl) | (simp [*, errW_none, errW_some] <;> rfl), by repeat (first | (with_reducible first | exact HB.out | apply below_alloc | apply pw_below_drewN | apply below_drew1) | exact HB.out)⟩

end Go.Proofs.Ytgjdonadnofdlaa.P
