-- Printed by this session's own driver (wip/tool/myprint.py) over the kit's print.
import Derived.Test.YtgjdonadnofdlaaPx0
namespace Go.Proofs.Ytgjdonadnofdlaa.P
open Go.RowKit Go.Proofs.YtgjdonadnofdlaaW.PrintWords Go.Proofs.YtgjdonadnofdlaaW.PrintLast Go.Proofs.YtgjdonadnofdlaaW.PrintMore
attribute [local go_sem] max2_int min2_int max_two min_two max_three min_three max_four min_four   -- for this text's walks alone
set_option linter.unusedVariables false
set_option linter.unusedSimpArgs false

/-! ### spec_dMod: function 139 -/
def spec_dMod.f (a0 : Int) (a1 : Int) : Option (Int) := if a1 = 0 then (none) else (some (Int.tmod (wrap64 ((Int.tmod a0 a1) + a1)) a1))
set_option maxHeartbeats 8000000 in
set_option maxRecDepth 100000 in
theorem spec_dMod.calls (a0 : Int) (a1 : Int) (r : Int) (w : World) (h : spec_dMod.f a0 a1 = some r) :
    Calls Try.prog 139 #[.int .i64 a0, .int .i64 a1] w fun e w' => e = .returned (.int .i64 r) ∧ Drawn0 w w' := by
  have H : (if a1 = 0 then (none) else (some (Int.tmod (wrap64 ((Int.tmod a0 a1) + a1)) a1))) = some r := h
  clear h
  by_cases c3 : a1 = 0
  · rw [if_pos c3] at H
    exact absurd H (by simp)
  · rw [if_neg c3] at H
    have c3b0 : (a1 == 0) = false := beq_eq_false_iff_ne.mpr c3
    have c3b1 : (a1 != 0) = true := bne_iff_ne.mpr c3
    obtain rfl := Option.some.inj H
    go_enter Try.func139, Try.ntmps139
    go_wp2
    go_ret
    exact ⟨by first | rfl | (simp; done) | (simp [*]; done), by repeat (first | exact Drawn0.refl _ | apply Drawn0.step)⟩

/-! ### spec_dMix: function 127 -/
def spec_dMix.l0 : Nat → List Int → Int → Int → Int → Option (Int × Int)
  | 0, _, _, _, _ => none
  | k + 1, x0, x4, x5, x6 => if x6 < (wrap64 ((x0.length : Int) + 3)) then (if x6 < (x0.length : Int) then (if 0 ≤ x6 then ((spec_dMod.f (rd x0 x6) 2147483647).bind fun t190 => ((spec_dMod.f (rd x0 x6) 2147483629).bind fun t191 => (spec_dMix.l0 k x0 (Int.tmod (wrap64 ((wrap64 ((wrap64 (16807 * x4)) + t190)) + x5)) 2147483647) (Int.tmod (wrap64 ((wrap64 ((wrap64 (39373 * x5)) + t191)) + (Int.tmod (wrap64 ((wrap64 ((wrap64 (16807 * x4)) + t190)) + x5)) 2147483647))) 2147483629) (wrap64 (x6 + 1))))) else (none)) else ((spec_dMod.f 1 2147483647).bind fun t192 => ((spec_dMod.f 1 2147483629).bind fun t193 => (spec_dMix.l0 k x0 (Int.tmod (wrap64 ((wrap64 ((wrap64 (16807 * x4)) + t192)) + x5)) 2147483647) (Int.tmod (wrap64 ((wrap64 ((wrap64 (39373 * x5)) + t193)) + (Int.tmod (wrap64 ((wrap64 ((wrap64 (16807 * x4)) + t192)) + x5)) 2147483647))) 2147483629) (wrap64 (x6 + 1)))))) else (some (x4, x5))
def spec_dMix.f (k : Nat) (l0 : List Int) : Option (Int × Int) := spec_dMix.l0 k l0 7 (wrap64 ((l0.length : Int) + 1)) 0
theorem spec_dMix.mono_l : ∀ k, (∀ y0 y1 y2 y3, LeO (spec_dMix.l0 k y0 y1 y2 y3) (spec_dMix.l0 (k + 1) y0 y1 y2 y3))
  | 0 => fun _ _ _ _ r h => by simp [spec_dMix.l0] at h
  | k + 1 => by
    have ih0 := spec_dMix.mono_l k
    · intro y0 y1 y2 y3
      unfold spec_dMix.l0
      repeat' first
      | (with_reducible exact ih0 _ _ _ _)
      | (with_reducible exact LeO.refl _)
      | (with_reducible exact LeO.none _)
      | (with_reducible refine LeO.ite ?_ ?_)
      | (with_reducible refine LeO.bind ?_ (fun _ => ?_))
      | exact ih0 _ _ _ _
      | exact LeO.none _
      | refine LeO.ite ?_ ?_
      | refine LeO.bind ?_ (fun _ => ?_)
theorem spec_dMix.mono : ∀ a0 k, LeO (spec_dMix.f k a0) (spec_dMix.f (k + 1) a0) := by
  intro a0 k
  have ih0 := spec_dMix.mono_l k
  unfold spec_dMix.f
  repeat' first
      | (with_reducible exact ih0 _ _ _ _)
      | (with_reducible exact LeO.refl _)
      | (with_reducible exact LeO.none _)
      | (with_reducible refine LeO.ite ?_ ?_)
      | (with_reducible refine LeO.bind ?_ (fun _ => ?_))
      | exact ih0 _ _ _ _
      | exact LeO.none _
      | refine LeO.ite ?_ ?_
      | refine LeO.bind ?_ (fun _ => ?_)
set_option maxHeartbeats 8000000 in
set_option maxRecDepth 100000 in
theorem spec_dMix.calls (k : Nat) (A0 : Option Addr) (c0 : Nat) (l0 : List Int) (r1 : Int) (r2 : Int) (w : World) (hr0 : Kd.C (Kd.int .i64) w A0 l0.length l0) (hc0 : l0.length ≤ c0) (h : spec_dMix.f k l0 = some (r1, r2)) :
    Calls Try.prog 127 #[.slice A0 l0.length c0] w fun e w' => e = .returned (.tuple #[.int .i64 r1, .int .i64 r2]) ∧ Drawn0 w w' := by
  have HR0 := Aside0.mk hr0
  have HC0 := Aside0.mk hc0
  clear hr0 hc0
  have H : (spec_dMix.l0 k l0 7 (wrap64 ((l0.length : Int) + 1)) 0) = some (r1, r2) := h
  clear h
  have H' := Aside0.mk H
  clear H
  go_enter Try.func127, Try.ntmps127
  go_wp2
  go_loopg [4, 5, 6] k (fun kq v4 v5 v6 w' => ∃ (x4_1 : Int) (x5_1 : Int) (x6_1 : Int), v4 = .int .i64 x4_1 ∧ v5 = .int .i64 x5_1 ∧ v6 = .int .i64 x6_1 ∧ Aside0 (spec_dMix.l0 kq l0 x4_1 x5_1 x6_1 = some (r1, r2)) ∧ Aside0 (kq ≤ k) ∧ Drawn0 w w')
  case atStart => exact ⟨(7), (wrap64 ((l0.length : Int) + 1)), (0), (by first | rfl | (simp; done) | (simp [*]; done)), (by first | rfl | (simp; done) | (simp [*]; done)), (by first | rfl | (simp; done) | (simp [*]; done)), H', ⟨Nat.le_refl _⟩, by repeat (first | exact Drawn0.refl _ | apply Drawn0.step)⟩
  case round =>
    clear H'
    try clear c1
    obtain ⟨x4_1, x5_1, x6_1, rfl, rfl, rfl, HA, HK1, ⟨m1, rfl⟩⟩ := hrel
    cases gk with
    | zero => exact absurd HA.out (by simp [spec_dMix.l0])
    | succ k1 =>
      have H := HA.out
      clear HA
      simp only [spec_dMix.l0] at H
      by_cases c2 : x6_1 < (wrap64 ((l0.length : Int) + 3))
      · rw [if_pos c2] at H
        have c2b0 : decide (x6_1 < (wrap64 ((l0.length : Int) + 3))) = true := decide_eq_true c2
        clear c2
        by_cases c3 : x6_1 < (l0.length : Int)
        · rw [if_pos c3] at H
          have c3b0 : decide (x6_1 < (l0.length : Int)) = true := decide_eq_true c3
          clear c3
          by_cases c4 : 0 ≤ x6_1
          · rw [if_pos c4] at H
            have c4b0 : decide (0 ≤ x6_1) = true := decide_eq_true c4
            clear c4
            replace H := Option.bind_eq_some_iff.mp H
            obtain ⟨t190, A50, H⟩ := H
            replace H : ((spec_dMod.f (rd l0 x6_1) 2147483629).bind fun t191 => (spec_dMix.l0 k1 l0 (Int.tmod (wrap64 ((wrap64 ((wrap64 (16807 * x4_1)) + t190)) + x5_1)) 2147483647) (Int.tmod (wrap64 ((wrap64 ((wrap64 (39373 * x5_1)) + t191)) + (Int.tmod (wrap64 ((wrap64 ((wrap64 (16807 * x4_1)) + t190)) + x5_1)) 2147483647))) 2147483629) (wrap64 (x6_1 + 1)))) = some (r1, r2) := H
            have A5 := Aside0.mk A50
            clear A50
            replace H := Option.bind_eq_some_iff.mp H
            obtain ⟨t191, A60, H⟩ := H
            replace H : (spec_dMix.l0 k1 l0 (Int.tmod (wrap64 ((wrap64 ((wrap64 (16807 * x4_1)) + t190)) + x5_1)) 2147483647) (Int.tmod (wrap64 ((wrap64 ((wrap64 (39373 * x5_1)) + t191)) + (Int.tmod (wrap64 ((wrap64 ((wrap64 (16807 * x4_1)) + t190)) + x5_1)) 2147483647))) 2147483629) (wrap64 (x6_1 + 1))) = some (r1, r2) := H
            have A6 := Aside0.mk A60
            clear A60
            have H' := Aside0.mk H
            clear H
            have p189 : 0 ≤ (x6_1 : Int) := of_decide_eq_true (by first | (with_reducible assumption) | assumption)
            have q189 : x6_1 < (l0.length : Int) := of_decide_eq_true (by first | (with_reducible assumption) | assumption)
            obtain ⟨ad189, e189, hx189_0⟩ := Kd.at_int HR0.out x6_1 p189 q189
            cases e189
            replace p189 := eq_true p189
            replace q189 := eq_true q189
            go_wp2_with (first | ((with_reducible refine gate_callee (f := 139) rfl ?_); refine goesL_ (some 29) rfl rfl Try.func139 (by kernel_rfl) rfl #[.int .i64 (rd l0 x6_1), .int .i64 2147483647] rfl (by (try simp only [List.map_toArray, List.map_cons, List.map_nil]); first | done | rfl | (simp only [List.length_drop, List.length_take]; rfl)) ?_; (with_reducible refine (spec_dMod.calls (rd l0 x6_1) 2147483647 t190 _ A5.out).mono ?_); rintro e w' ⟨rfl, ⟨nd, rfl⟩⟩; refine ⟨_, rfl, ?_⟩) | ((with_reducible refine gate_callee (f := 139) rfl ?_); refine goesL_ (some 37) rfl rfl Try.func139 (by kernel_rfl) rfl #[.int .i64 (rd l0 x6_1), .int .i64 2147483629] rfl (by (try simp only [List.map_toArray, List.map_cons, List.map_nil]); first | done | rfl | (simp only [List.length_drop, List.length_take]; rfl)) ?_; (with_reducible refine (spec_dMod.calls (rd l0 x6_1) 2147483629 t191 _ A6.out).mono ?_); rintro e w' ⟨rfl, ⟨nd, rfl⟩⟩; refine ⟨_, rfl, ?_⟩))
            go_roundg k1
            case measure => have := HK1.out; omega
            case rel => exact ⟨(Int.tmod (wrap64 ((wrap64 ((wrap64 (16807 * x4_1)) + t190)) + x5_1)) 2147483647), (Int.tmod (wrap64 ((wrap64 ((wrap64 (39373 * x5_1)) + t191)) + (Int.tmod (wrap64 ((wrap64 ((wrap64 (16807 * x4_1)) + t190)) + x5_1)) 2147483647))) 2147483629), (wrap64 (x6_1 + 1)), (by first | rfl | (simp; done) | (simp [*]; done)), (by first | rfl | (simp; done) | (simp [*]; done)), (by first | rfl | (simp; done) | (simp [*]; done)), H', ⟨by have := HK1.out; omega⟩, by repeat (first | exact Drawn0.refl _ | apply Drawn0.step)⟩
          · rw [if_neg c4] at H
            exact absurd H (by simp)
        · rw [if_neg c3] at H
          have c3b0 : decide (x6_1 < (l0.length : Int)) = false := decide_eq_false c3
          clear c3
          replace H := Option.bind_eq_some_iff.mp H
          obtain ⟨t192, A70, H⟩ := H
          replace H : ((spec_dMod.f 1 2147483629).bind fun t193 => (spec_dMix.l0 k1 l0 (Int.tmod (wrap64 ((wrap64 ((wrap64 (16807 * x4_1)) + t192)) + x5_1)) 2147483647) (Int.tmod (wrap64 ((wrap64 ((wrap64 (39373 * x5_1)) + t193)) + (Int.tmod (wrap64 ((wrap64 ((wrap64 (16807 * x4_1)) + t192)) + x5_1)) 2147483647))) 2147483629) (wrap64 (x6_1 + 1)))) = some (r1, r2) := H
          have A7 := Aside0.mk A70
          clear A70
          replace H := Option.bind_eq_some_iff.mp H
          obtain ⟨t193, A80, H⟩ := H
          replace H : (spec_dMix.l0 k1 l0 (Int.tmod (wrap64 ((wrap64 ((wrap64 (16807 * x4_1)) + t192)) + x5_1)) 2147483647) (Int.tmod (wrap64 ((wrap64 ((wrap64 (39373 * x5_1)) + t193)) + (Int.tmod (wrap64 ((wrap64 ((wrap64 (16807 * x4_1)) + t192)) + x5_1)) 2147483647))) 2147483629) (wrap64 (x6_1 + 1))) = some (r1, r2) := H
          have A8 := Aside0.mk A80
          clear A80
          have H' := Aside0.mk H
          clear H
          go_wp2_with (first | ((with_reducible refine gate_callee (f := 139) rfl ?_); refine goesL_ (some 29) rfl rfl Try.func139 (by kernel_rfl) rfl #[.int .i64 1, .int .i64 2147483647] rfl (by (try simp only [List.map_toArray, List.map_cons, List.map_nil]); first | done | rfl | (simp only [List.length_drop, List.length_take]; rfl)) ?_; (with_reducible refine (spec_dMod.calls 1 2147483647 t192 _ A7.out).mono ?_); rintro e w' ⟨rfl, ⟨nd, rfl⟩⟩; refine ⟨_, rfl, ?_⟩) | ((with_reducible refine gate_callee (f := 139) rfl ?_); refine goesL_ (some 37) rfl rfl Try.func139 (by kernel_rfl) rfl #[.int .i64 1, .int .i64 2147483629] rfl (by (try simp only [List.map_toArray, List.map_cons, List.map_nil]); first | done | rfl | (simp only [List.length_drop, List.length_take]; rfl)) ?_; (with_reducible refine (spec_dMod.calls 1 2147483629 t193 _ A8.out).mono ?_); rintro e w' ⟨rfl, ⟨nd, rfl⟩⟩; refine ⟨_, rfl, ?_⟩))
          go_roundg k1
          case measure => have := HK1.out; omega
          case rel => exact ⟨(Int.tmod (wrap64 ((wrap64 ((wrap64 (16807 * x4_1)) + t192)) + x5_1)) 2147483647), (Int.tmod (wrap64 ((wrap64 ((wrap64 (39373 * x5_1)) + t193)) + (Int.tmod (wrap64 ((wrap64 ((wrap64 (16807 * x4_1)) + t192)) + x5_1)) 2147483647))) 2147483629), (wrap64 (x6_1 + 1)), (by first | rfl | (simp; done) | (simp [*]; done)), (by first | rfl | (simp; done) | (simp [*]; done)), (by first | rfl | (simp; done) | (simp [*]; done)), H', ⟨by have := HK1.out; omega⟩, by repeat (first | exact Drawn0.refl _ | apply Drawn0.step)⟩
      · rw [if_neg c2] at H
        have c2b0 : decide (x6_1 < (wrap64 ((l0.length : Int) + 3))) = false := decide_eq_false c2
        clear c2
        simp only [Option.some.injEq, Prod.mk.injEq] at H
        obtain ⟨rfl, rfl⟩ := H
        go_wp2
        go_ret2
        exact ⟨by first | rfl | (simp; done) | (simp [*]; done), by repeat (first | exact Drawn0.refl _ | apply Drawn0.step)⟩

/-! ### impl_residue: function 141 -/
def impl_residue.f (a0 : Int) (a1 : Int) : Option (Int) := if a1 = 0 then (none) else (some (Int.tmod (wrap64 ((Int.tmod a0 a1) + a1)) a1))
set_option maxHeartbeats 8000000 in
set_option maxRecDepth 100000 in
theorem impl_residue.calls (a0 : Int) (a1 : Int) (r : Int) (w : World) (h : impl_residue.f a0 a1 = some r) :
    Calls Try.prog 141 #[.int .i64 a0, .int .i64 a1] w fun e w' => e = .returned (.int .i64 r) ∧ Drawn0 w w' := by
  have H : (if a1 = 0 then (none) else (some (Int.tmod (wrap64 ((Int.tmod a0 a1) + a1)) a1))) = some r := h
  clear h
  by_cases c3 : a1 = 0
  · rw [if_pos c3] at H
    exact absurd H (by simp)
  · rw [if_neg c3] at H
    have c3b0 : (a1 == 0) = false := beq_eq_false_iff_ne.mpr c3
    have c3b1 : (a1 != 0) = true := bne_iff_ne.mpr c3
    obtain rfl := Option.some.inj H
    go_enter Try.func141, Try.ntmps141
    go_wp2
    go_ret
    exact ⟨by first | rfl | (simp; done) | (simp [*]; done), by repeat (first | exact Drawn0.refl _ | apply Drawn0.step)⟩

/-! ### impl_mixParts: function 128 -/
-- HAND rounds=0 making=1 deps=~impl.residue
def mixRes (x m : Int) : Int := (Int.tmod x m + m) % m
theorem mixRes_bd (x m : Int) (h0 : 0 < m) : 0 ≤ mixRes x m ∧ mixRes x m < m := by
  unfold mixRes
  exact ⟨Int.emod_nonneg _ (by omega), Int.emod_lt_of_pos _ h0⟩
set_option maxHeartbeats 400000 in
theorem mixRes_same (x m : Int) (w : World) (h0 : 0 < m) (h1 : m ≤ 2147483647) :
    Calls Try.prog 141 #[.int .i64 x, .int .i64 m] w fun e w' => e = .returned (.int .i64 (mixRes x m)) ∧ w' = w := by
  unfold mixRes
  have h2 := Int.tmod_lt_of_pos x h0
  have h3 := Int.lt_tmod_of_pos x h0
  have hm : (m == 0) = false := beq_eq_false_iff_ne.mpr (by omega)
  go_enter Try.func141, Try.ntmps141
  go_wp2
  go_ret
  exact ⟨rfl, rfl⟩

set_option maxHeartbeats 4000000 in
set_option maxRecDepth 100000 in
theorem step_any (x a b : Int) (B : Nat) (w : World) (ha : w.heap[B]? = some (.cells #[.int .i64 a] 3 (0, 0))) (hb : w.heap[B + 1]? = some (.cells #[.int .i64 b] 3 (0, 0)))
    (a0 : 0 ≤ a) (a1 : a < 2147483647) (b0 : 0 ≤ b) (b1 : b ≤ 100000000000) :
    Calls Try.prog 140 #[.int .i64 x, .pointer (some ⟨B, 0, none⟩), .pointer (some ⟨B + 1, 0, none⟩)] w fun e w' => e = .returned (.tuple #[]) ∧
      w'.heap[B]? = some (.cells #[.int .i64 ((16807 * a + mixRes x 2147483647 + b) % 2147483647)] 3 (0, 0)) ∧
      w'.heap[B + 1]? = some (.cells #[.int .i64 ((39373 * b + mixRes x 2147483629 + (16807 * a + mixRes x 2147483647 + b) % 2147483647) % 2147483629)] 3 (0, 0)) ∧ Below B w w' := by
  have r1 := mixRes_bd x 2147483647 (by omega)
  have r2 := mixRes_bd x 2147483629 (by omega)
  have c1 := fun W => mixRes_same x 2147483647 W (by omega) (by omega)
  have c2 := fun W => mixRes_same x 2147483629 W (by omega) (by omega)
  have C1 := Lib.hid c1
  have C2 := Lib.hid c2
  clear c1 c2
  generalize mixRes x 2147483647 = p1 at *
  generalize mixRes x 2147483629 = p2 at *
  obtain ⟨r10, r11⟩ := r1
  obtain ⟨r20, r21⟩ := r2
  have ca := cell_of_one ha
  have cb := cell_of_one hb
  have fa := free_of_one ha
  have fb := free_of_one hb
  have Ha := Lib.hid ha
  have Hb := Lib.hid hb
  clear ha hb
  go_enter Try.func140, Try.ntmps140
  go_wp2_with (fail)
  go_still_tail 8, (by kernel_rfl)
  still_call (C1.out _)
  repeat still_step
  refine wpStill_nil ?_
  change wpList _ _ _ _ _ w.drew
  obtain ⟨w2, hw2⟩ : ∃ w2, w2 = w.drew := ⟨_, rfl⟩
  rw [← hw2]
  have ha2 : w2.heap[B]? = some (.cells #[.int .i64 a] 3 (0, 0)) := by rw [hw2]; exact blk_drew Ha.out
  have hb2 : w2.heap[B + 1]? = some (.cells #[.int .i64 b] 3 (0, 0)) := by rw [hw2]; exact blk_drew Hb.out
  have hl2 : Below B w w2 := by rw [hw2]; exact (Below.refl _ _).drew
  clear hw2 ca cb fa fb Ha Hb
  have ca := cell_of_one ha2
  have cb := cell_of_one hb2
  have fa := free_of_one ha2
  have fb := free_of_one hb2
  have Ha := Lib.hid ha2
  have Hb := Lib.hid hb2
  have Hl := Lib.hid hl2
  clear ha2 hb2 hl2
  go_wp2_with (fail)
  have q0 : 0 ≤ (16807 * a + p1 + b) % 2147483647 := by omega
  have q1 : (16807 * a + p1 + b) % 2147483647 < 2147483647 := by omega
  generalize hae : (16807 * a + p1 + b) % 2147483647 = a' at *
  have HAE := Lib.hid hae
  clear hae
  obtain ⟨w3, hw3⟩ : ∃ w3, w3 = w2.setCell ⟨B, 0, none⟩ (.int .i64 a') := ⟨_, rfl⟩
  rw [← hw3]
  have ha2 : w3.heap[B]? = some (.cells #[.int .i64 a'] 3 (0, 0)) := by rw [hw3]; exact one_setCell Ha.out
  have hb2 : w3.heap[B + 1]? = some (.cells #[.int .i64 b] 3 (0, 0)) := by rw [hw3]; exact blk_far Hb.out (by simp) _
  have hl2 : Below B w w3 := by rw [hw3]; exact Hl.out.setCell (Nat.le_refl _) _
  clear hw3 ca cb fa fb Ha Hb
  have ca := cell_of_one ha2
  have cb := cell_of_one hb2
  have fa := free_of_one ha2
  have fb := free_of_one hb2
  have Ha := Lib.hid ha2
  have Hb := Lib.hid hb2
  have Hl := Lib.hid hl2
  clear ha2 hb2 hl2
  go_still_tail 8, (by kernel_rfl)
  still_call (C2.out _)
  repeat still_step
  refine wpStill_nil ?_
  change wpList _ _ _ _ _ w3.drew
  obtain ⟨w4, hw4⟩ : ∃ w4, w4 = w3.drew := ⟨_, rfl⟩
  rw [← hw4]
  have ha2 : w4.heap[B]? = some (.cells #[.int .i64 a'] 3 (0, 0)) := by rw [hw4]; exact blk_drew Ha.out
  have hb2 : w4.heap[B + 1]? = some (.cells #[.int .i64 b] 3 (0, 0)) := by rw [hw4]; exact blk_drew Hb.out
  have hl2 : Below B w w4 := by rw [hw4]; exact Hl.out.drew
  clear hw4 ca cb fa fb Ha Hb
  have ca := cell_of_one ha2
  have cb := cell_of_one hb2
  have fa := free_of_one ha2
  have fb := free_of_one hb2
  have Ha := Lib.hid ha2
  have Hb := Lib.hid hb2
  have Hl := Lib.hid hl2
  clear ha2 hb2 hl2
  go_wp2
  go_end0
  rw [HAE.out]
  exact ⟨rfl, blk_far Ha.out (by simp) _, one_setCell Hb.out, Hl.out.setCell (Nat.le_succ _) _⟩

/-- One step of the mix: the numbers a and b behind x. -/
def mixStep (ab : Int × Int) (x : Int) : Int × Int :=
  ((16807 * ab.1 + mixRes x 2147483647 + ab.2) % 2147483647, (39373 * ab.2 + mixRes x 2147483629 + (16807 * ab.1 + mixRes x 2147483647 + ab.2) % 2147483647) % 2147483629)
def mixAll (l : List Int) (n : Nat) : Int × Int := (l.take n).foldl mixStep (7, (l.length : Int) + 1)
def mixOnes : Nat → Int × Int → Int × Int
  | 0, ab => ab
  | n + 1, ab => mixStep (mixOnes n ab) 1
def mixOk (ab : Int × Int) : Prop := 0 ≤ ab.1 ∧ ab.1 < 2147483647 ∧ 0 ≤ ab.2 ∧ ab.2 ≤ 100000000000
theorem mixOk_step {ab : Int × Int} (x : Int) : mixOk (mixStep ab x) := by
  unfold mixOk mixStep
  dsimp only
  refine ⟨?_, ?_, ?_, ?_⟩ <;> omega
theorem mixAll_succ (l : List Int) (n : Nat) (h : n < l.length) : mixAll l (n + 1) = mixStep (mixAll l n) (l.getD n 0) := by
  unfold mixAll
  rw [List.take_succ_eq_append_getElem h, List.foldl_append]
  simp [List.getD_eq_getElem?_getD, h]
theorem mixAll_ok (l : List Int) (hl : l.length ≤ 2000000) : ∀ n, n ≤ l.length → mixOk (mixAll l n)
  | 0, _ => by unfold mixOk mixAll; simp; omega
  | n + 1, h => by rw [mixAll_succ l n h]; exact mixOk_step _
theorem mixOnes_ok {ab : Int × Int} (h : mixOk ab) : ∀ n, mixOk (mixOnes n ab)
  | 0 => h
  | _ + 1 => mixOk_step _
def impl_mixParts.f (l0 : List Int) : Option (Int × Int) := if l0.length ≤ 2000000 then some (mixOnes 3 (mixAll l0 l0.length)) else none

set_option maxHeartbeats 4000000 in
set_option maxRecDepth 100000 in
theorem impl_mixParts.calls (A0 : Option Addr) (c0 : Nat) (l0 : List Int) (r1 r2 : Int) (w : World) (hr0 : Kd.C (Kd.int .i64) w A0 l0.length l0) (hc0 : l0.length ≤ c0) (h : impl_mixParts.f l0 = some (r1, r2)) :
    Calls Try.prog 128 #[.slice A0 l0.length c0] w fun e w' => e = .returned (.tuple #[.int .i64 r1, .int .i64 r2]) ∧ Below w.heap.size w w' := by
  unfold impl_mixParts.f at h
  rcases Nat.lt_or_ge 2000000 l0.length with hlen | hlen
  · rw [if_neg (by omega)] at h; cases h
  rw [if_pos hlen] at h
  have h := Option.some.inj h
  have H := Lib.hid h
  have HR := Lib.hid hr0
  clear h hr0 hc0
  have hmf : ∀ (fn : Fn) (first cap : Array Value) (w : World), (Instr.makeFunc fn first cap).run Try.prog w = .ok (.func fn first cap) w := fun _ _ _ _ => rfl
  obtain ⟨B, hB⟩ : ∃ B, B = w.heap.size := ⟨_, rfl⟩
  have HBB := Lib.hid hB
  clear hB
  go_enter Try.func128, Try.ntmps128
  go_wp2_with fail
  go_loopw [15] (fun i wr => ∃ n : Nat, n ≤ l0.length ∧ i = .int .i64 n ∧ wr.heap[w.heap.size]? = some (.cells #[.int .i64 (mixAll l0 n).1] 3 (0, 0)) ∧ wr.heap[w.heap.size + 1]? = some (.cells #[.int .i64 (mixAll l0 n).2] 3 (0, 0)) ∧ Below w.heap.size w wr)
    (fun i _ => l0.length - (intOf i).toNat)
  case atStart =>
    refine ⟨0, Nat.zero_le _, rfl, ?_, ?_, ?_⟩
    · exact blk_alloc (blk_new w _) _
    · rw [show w.heap.size + 1 = (w.alloc (Obj.cells #[Value.int IntKind.i64 7] 3)).heap.size from by simp]; exact blk_new _ _
    · exact ((Below.refl _ _).alloc (Nat.le_refl _) _).alloc (by simp) _
  case round =>
    obtain ⟨n, hn, rfl, ha, hb, hl⟩ := hrel
    have hok := mixAll_ok l0 hlen n hn
    unfold mixOk at hok
    obtain ⟨o1, o2, o3, o4⟩ := hok
    rcases Nat.lt_or_ge n l0.length with hlt | hge
    · have hs := mixAll_succ l0 n hlt
      obtain ⟨ad, e, hx⟩ := Kd.at_int (Kd.C_below HR.out hl) (n : Int) (by omega) (by omega)
      have hrd : rd l0 (n : Int) = l0.getD n 0 := by unfold rd; simp
      rw [hrd, Int.toNat_natCast] at hx
      generalize l0.getD n 0 = x at *
      have hstep := fun W hA hB => step_any x (mixAll l0 n).1 (mixAll l0 n).2 w.heap.size W hA hB o1 o2 o3 o4
      have HS := Lib.hid hs
      have HST := Lib.hid hstep
      have Ha := Lib.hid ha
      have Hb := Lib.hid hb
      have Hl := Lib.hid hl
      clear hs hstep ha hb hl hrd
      cases e
      go_wp2_with fail
      refine (HST.out _ Ha.out Hb.out).mono ?_
      rintro e w1 ⟨rfl, ha1, hb1, hl1⟩
      have Ha1 := Lib.hid ha1
      have Hb1 := Lib.hid hb1
      have Hl1 := Lib.hid hl1
      clear ha1 hb1 hl1 hx HST
      go_wp2
      go_roundw
      case rel => exact ⟨n + 1, by omega, by go_num, by rw [HS.out]; exact Ha1.out, by rw [HS.out]; exact Hb1.out, Hl.out.trans Hl1.out⟩
      case measure => simp [intOf]; omega
    · obtain rfl : n = l0.length := by omega
      have hok3 := mixOnes_ok (show mixOk (mixAll l0 l0.length) from ⟨o1, o2, o3, o4⟩)
      have Ha := Lib.hid ha
      have Hb := Lib.hid hb
      have Hl := Lib.hid hl
      have HOK := Lib.hid hok3
      clear ha hb hl hok3
      go_wp2_with fail
      go_loopw [23] (fun i ws => ∃ j : Nat, j ≤ 3 ∧ i = .int .i64 j ∧ ws.heap[w.heap.size]? = some (.cells #[.int .i64 (mixOnes j (mixAll l0 l0.length)).1] 3 (0, 0)) ∧ ws.heap[w.heap.size + 1]? = some (.cells #[.int .i64 (mixOnes j (mixAll l0 l0.length)).2] 3 (0, 0)) ∧ Below w.heap.size w ws)
        (fun i _ => 3 - (intOf i).toNat)
      case atStart => exact ⟨0, by omega, rfl, Ha.out, Hb.out, Hl.out⟩
      case round =>
        clear Ha Hb Hl
        obtain ⟨j, hj, rfl, ha, hb, hl⟩ := hrel
        have hok := HOK.out j
        unfold mixOk at hok
        obtain ⟨o1, o2, o3, o4⟩ := hok
        rcases Nat.lt_or_ge j 3 with hlt | hge
        · have hstep := fun W hA hB => step_any 1 (mixOnes j (mixAll l0 l0.length)).1 (mixOnes j (mixAll l0 l0.length)).2 w.heap.size W hA hB o1 o2 o3 o4
          have HST := Lib.hid hstep
          have Ha := Lib.hid ha
          have Hb := Lib.hid hb
          have Hl := Lib.hid hl
          clear hstep ha hb hl
          go_wp2_with fail
          refine (HST.out _ Ha.out Hb.out).mono ?_
          rintro e w1 ⟨rfl, ha1, hb1, hl1⟩
          have Ha1 := Lib.hid ha1
          have Hb1 := Lib.hid hb1
          have Hl1 := Lib.hid hl1
          clear ha1 hb1 hl1 HST
          go_wp2
          go_roundw
          case rel => exact ⟨j + 1, by omega, by go_num, Ha1.out, Hb1.out, Hl.out.trans Hl1.out⟩
          case measure => simp [intOf]; omega
        · obtain rfl : j = 3 := by omega
          have ca := cell_of_one ha
          have cb := cell_of_one hb
          rw [H.out] at ca cb
          have Hl := Lib.hid hl
          clear ha hb hl
          go_wp2_with fail
          go_quiet (fail)
          go_wp2
          go_ret2
          exact ⟨rfl, pw_below_drewN Hl.out _⟩

end Go.Proofs.Ytgjdonadnofdlaa.P
