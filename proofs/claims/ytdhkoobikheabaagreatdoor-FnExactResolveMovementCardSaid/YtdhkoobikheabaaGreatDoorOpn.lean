/- What the arguments read as; what the listed variables hold. -/
import Derived.Test.YtdhkoobikheabaaGreatDoorB2
import Derived.Test.YtdhkoobikheabaaGreatDoorB10
import Derived.Test.YtdhkoobikheabaaGreatDoorB15
import Derived.Test.YtdhkoobikheabaaGreatDoorHand
import Derived.Test.YtdhkoobikheabaaGreatDoorRows
import Derived.LaidMore
import Derived.Stop.Joined
import Derived.Stop.LaidErr
import Derived.ProofKit
import Derived.ChangeSame
import Derived.ChangeVars
import Derived.Carry
import Derived.ChangeOld
import Derived.Lib.LaidTab
import Derived.Shelf.Vars
set_option linter.unusedVariables false
set_option linter.unusedSimpArgs false
set_option maxRecDepth 100000
set_option maxHeartbeats 2000000
namespace Go.Abs.W
open Go Go.Abs Go.RowKit Go.ChangeShapes Go.WideShapes Go.ChangeAt Go.Proofs Go.Proofs.YtdhkoobikheabaaGreatDoor
theorem opn_Terrain : OpnD Tryz.prog 138 5 (Terrain.enc false) (WideT) := by
  refine ⟨by kernel_rfl, fun _ => rfl, fun H en w base held fuel cs x h => ?_⟩
  obtain ⟨xs, n, _, rfl, hl, hlen, hf⟩ := DataW.trod_struct Tryz.underlying138 h
  have hc : Tryz.prog.cellsOf 138 = 5 := by kernel_rfl
  have hl' : cs.length = 5 := hl.trans hc
  have hn : xs.length = 5 := hlen
  obtain ⟨a0, e0, g0⟩ := opn_field (off := 0) (opn_string Tryz.underlying9 (by kernel_rfl)) (by omega) (hf 0 _ rfl)
  obtain ⟨a1, e1, g1⟩ := opn_field (off := 1) (opn_slice Tryz.underlying26 (by kernel_rfl) (by decide) (opn_int Tryz.underlying3 (by kernel_rfl))) (by omega) (hf 1 _ rfl)
  obtain ⟨a2, e2, g2⟩ := opn_field (off := 2) (opn_int Tryz.underlying3 (by kernel_rfl)) (by omega) (hf 2 _ rfl)
  obtain ⟨a3, e3, g3⟩ := opn_field (off := 3) (opn_int Tryz.underlying3 (by kernel_rfl)) (by omega) (hf 3 _ rfl)
  obtain ⟨a4, e4, g4⟩ := opn_field (off := 4) (opn_bool Tryz.underlying4 (by kernel_rfl)) (by omega) (hf 4 _ rfl)
  have z : RdL (fun k => k < w.heap.size) w (cs.drop 5) [] [] := by rw [List.drop_of_length_le (by omega)]; exact .nil
  have p4 := rdl_field (o := 4) e4 z
  have p3 := rdl_field (o := 3) e3 p4
  have p2 := rdl_field (o := 2) e2 p3
  have p1 := rdl_field (o := 1) e1 p2
  have p0 := rdl_field (o := 0) e0 p1
  rw [List.drop_zero] at p0
  exact ⟨⟨a0, a1, a2, a3, a4⟩, p0, ⟨g0, g1.1⟩⟩
theorem opn_Kind : OpnD Tryz.prog 141 6 (Kind.enc) (fun k => Wide k.name.size) := by
  refine ⟨by kernel_rfl, fun _ => rfl, fun H en w base held fuel cs x h => ?_⟩
  obtain ⟨xs, n, _, rfl, hl, hlen, hf⟩ := DataW.trod_struct Tryz.underlying141 h
  have hc : Tryz.prog.cellsOf 141 = 6 := by kernel_rfl
  have hl' : cs.length = 6 := hl.trans hc
  have hn : xs.length = 6 := hlen
  obtain ⟨a0, e0, g0⟩ := opn_field (off := 0) (opn_string Tryz.underlying9 (by kernel_rfl)) (by omega) (hf 0 _ rfl)
  obtain ⟨a1, e1, g1⟩ := opn_field (off := 1) (opn_int Tryz.underlying3 (by kernel_rfl)) (by omega) (hf 1 _ rfl)
  obtain ⟨a2, e2, g2⟩ := opn_field (off := 2) (opn_int Tryz.underlying3 (by kernel_rfl)) (by omega) (hf 2 _ rfl)
  obtain ⟨a3, e3, g3⟩ := opn_field (off := 3) (opn_int Tryz.underlying3 (by kernel_rfl)) (by omega) (hf 3 _ rfl)
  obtain ⟨a4, e4, g4⟩ := opn_field (off := 4) (opn_bool Tryz.underlying4 (by kernel_rfl)) (by omega) (hf 4 _ rfl)
  obtain ⟨a5, e5, g5⟩ := opn_field (off := 5) (opn_int Tryz.underlying3 (by kernel_rfl)) (by omega) (hf 5 _ rfl)
  have z : RdL (fun k => k < w.heap.size) w (cs.drop 6) [] [] := by rw [List.drop_of_length_le (by omega)]; exact .nil
  have p5 := rdl_field (o := 5) e5 z
  have p4 := rdl_field (o := 4) e4 p5
  have p3 := rdl_field (o := 3) e3 p4
  have p2 := rdl_field (o := 2) e2 p3
  have p1 := rdl_field (o := 1) e1 p2
  have p0 := rdl_field (o := 0) e0 p1
  rw [List.drop_zero] at p0
  exact ⟨⟨a0, a1, a2, a3, a4, a5⟩, p0, g0⟩
theorem opn_Rules : OpnD Tryz.prog 25 7 (RulesL) (WideR) := by
  refine ⟨by kernel_rfl, fun _ => rfl, fun H en w base held fuel cs x h => ?_⟩
  obtain ⟨xs, n, _, rfl, hl, hlen, hf⟩ := DataW.trod_struct Tryz.underlying25 h
  have hc : Tryz.prog.cellsOf 25 = 7 := by kernel_rfl
  have hl' : cs.length = 7 := hl.trans hc
  have hn : xs.length = 7 := hlen
  obtain ⟨a0, e0, g0⟩ := opn_field (off := 0) (opn_slice Tryz.underlying22 (by kernel_rfl) (by decide) opn_Terrain) (by omega) (hf 0 _ rfl)
  obtain ⟨a1, e1, g1⟩ := opn_field (off := 1) (opn_slice Tryz.underlying23 (by kernel_rfl) (by decide) opn_Kind) (by omega) (hf 1 _ rfl)
  obtain ⟨a2, e2, g2⟩ := opn_field (off := 2) (opn_int Tryz.underlying3 (by kernel_rfl)) (by omega) (hf 2 _ rfl)
  obtain ⟨a3, e3, g3⟩ := opn_field (off := 3) (opn_int Tryz.underlying3 (by kernel_rfl)) (by omega) (hf 3 _ rfl)
  obtain ⟨a4, e4, g4⟩ := opn_field (off := 4) (opn_int Tryz.underlying3 (by kernel_rfl)) (by omega) (hf 4 _ rfl)
  obtain ⟨a5, e5, g5⟩ := opn_field (off := 5) (opn_int Tryz.underlying3 (by kernel_rfl)) (by omega) (hf 5 _ rfl)
  obtain ⟨a6, e6, g6⟩ := opn_field (off := 6) (opn_int Tryz.underlying3 (by kernel_rfl)) (by omega) (hf 6 _ rfl)
  have z : RdL (fun k => k < w.heap.size) w (cs.drop 7) [] [] := by rw [List.drop_of_length_le (by omega)]; exact .nil
  have p6 := rdl_field (o := 6) e6 z
  have p5 := rdl_field (o := 5) e5 p6
  have p4 := rdl_field (o := 4) e4 p5
  have p3 := rdl_field (o := 3) e3 p4
  have p2 := rdl_field (o := 2) e2 p3
  have p1 := rdl_field (o := 1) e1 p2
  have p0 := rdl_field (o := 0) e0 p1
  rw [List.drop_zero] at p0
  exact ⟨⟨a0, a1, a2, a3, a4, a5, a6⟩, p0, ⟨g0.1, g0.2, g1.1, g1.2⟩⟩
theorem opn_Map : OpnD Tryz.prog 28 5 (MapL) (WideM) := by
  refine ⟨by kernel_rfl, fun _ => rfl, fun H en w base held fuel cs x h => ?_⟩
  obtain ⟨xs, n, _, rfl, hl, hlen, hf⟩ := DataW.trod_struct Tryz.underlying28 h
  have hc : Tryz.prog.cellsOf 28 = 5 := by kernel_rfl
  have hl' : cs.length = 5 := hl.trans hc
  have hn : xs.length = 5 := hlen
  obtain ⟨a0, e0, g0⟩ := opn_field (off := 0) (opn_int Tryz.underlying3 (by kernel_rfl)) (by omega) (hf 0 _ rfl)
  obtain ⟨a1, e1, g1⟩ := opn_field (off := 1) (opn_int Tryz.underlying3 (by kernel_rfl)) (by omega) (hf 1 _ rfl)
  obtain ⟨a2, e2, g2⟩ := opn_field (off := 2) (opn_slice Tryz.underlying26 (by kernel_rfl) (by decide) (opn_int Tryz.underlying3 (by kernel_rfl))) (by omega) (hf 2 _ rfl)
  obtain ⟨a3, e3, g3⟩ := opn_field (off := 3) (opn_slice Tryz.underlying26 (by kernel_rfl) (by decide) (opn_int Tryz.underlying3 (by kernel_rfl))) (by omega) (hf 3 _ rfl)
  obtain ⟨a4, e4, g4⟩ := opn_field (off := 4) (opn_slice Tryz.underlying26 (by kernel_rfl) (by decide) (opn_int Tryz.underlying3 (by kernel_rfl))) (by omega) (hf 4 _ rfl)
  have z : RdL (fun k => k < w.heap.size) w (cs.drop 5) [] [] := by rw [List.drop_of_length_le (by omega)]; exact .nil
  have p4 := rdl_field (o := 4) e4 z
  have p3 := rdl_field (o := 3) e3 p4
  have p2 := rdl_field (o := 2) e2 p3
  have p1 := rdl_field (o := 1) e1 p2
  have p0 := rdl_field (o := 0) e0 p1
  rw [List.drop_zero] at p0
  exact ⟨⟨a0, a1, a2, a3, a4⟩, p0, ⟨g2.1, g3.1, g4.1⟩⟩
theorem opn_Board : OpnD Tryz.prog 30 12 (BoardL) (WideB) := by
  refine ⟨by kernel_rfl, fun _ => rfl, fun H en w base held fuel cs x h => ?_⟩
  obtain ⟨xs, n, _, rfl, hl, hlen, hf⟩ := DataW.trod_struct Tryz.underlying30 h
  have hc : Tryz.prog.cellsOf 30 = 12 := by kernel_rfl
  have hl' : cs.length = 12 := hl.trans hc
  have hn : xs.length = 2 := hlen
  obtain ⟨a0, e0, g0⟩ := opn_field (off := 0) opn_Rules (by omega) (hf 0 _ rfl)
  obtain ⟨a1, e1, g1⟩ := opn_field (off := 7) opn_Map (by omega) (hf 1 _ rfl)
  have z : RdL (fun k => k < w.heap.size) w (cs.drop 12) [] [] := by rw [List.drop_of_length_le (by omega)]; exact .nil
  have p1 := rdl_field (o := 7) e1 z
  have p0 := rdl_field (o := 0) e0 p1
  rw [List.drop_zero] at p0
  exact ⟨⟨a0, a1⟩, p0, ⟨g0, g1⟩⟩
theorem opn_Unit : OpnD Tryz.prog 114 4 (Unit.enc) (fun _ => True) := by
  refine ⟨by kernel_rfl, fun _ => rfl, fun H en w base held fuel cs x h => ?_⟩
  obtain ⟨xs, n, _, rfl, hl, hlen, hf⟩ := DataW.trod_struct Tryz.underlying114 h
  have hc : Tryz.prog.cellsOf 114 = 4 := by kernel_rfl
  have hl' : cs.length = 4 := hl.trans hc
  have hn : xs.length = 4 := hlen
  obtain ⟨a0, e0, g0⟩ := opn_field (off := 0) (opn_int Tryz.underlying3 (by kernel_rfl)) (by omega) (hf 0 _ rfl)
  obtain ⟨a1, e1, g1⟩ := opn_field (off := 1) (opn_int Tryz.underlying3 (by kernel_rfl)) (by omega) (hf 1 _ rfl)
  obtain ⟨a2, e2, g2⟩ := opn_field (off := 2) (opn_int Tryz.underlying3 (by kernel_rfl)) (by omega) (hf 2 _ rfl)
  obtain ⟨a3, e3, g3⟩ := opn_field (off := 3) (opn_int Tryz.underlying3 (by kernel_rfl)) (by omega) (hf 3 _ rfl)
  have z : RdL (fun k => k < w.heap.size) w (cs.drop 4) [] [] := by rw [List.drop_of_length_le (by omega)]; exact .nil
  have p3 := rdl_field (o := 3) e3 z
  have p2 := rdl_field (o := 2) e2 p3
  have p1 := rdl_field (o := 1) e1 p2
  have p0 := rdl_field (o := 0) e0 p1
  rw [List.drop_zero] at p0
  exact ⟨⟨a0, a1, a2, a3⟩, p0, trivial⟩
theorem opn_State : OpnD Tryz.prog 33 3 (StateL) (fun s => Wide s.units.length) := by
  refine ⟨by kernel_rfl, fun _ => rfl, fun H en w base held fuel cs x h => ?_⟩
  obtain ⟨xs, n, _, rfl, hl, hlen, hf⟩ := DataW.trod_struct Tryz.underlying33 h
  have hc : Tryz.prog.cellsOf 33 = 3 := by kernel_rfl
  have hl' : cs.length = 3 := hl.trans hc
  have hn : xs.length = 3 := hlen
  obtain ⟨a0, e0, g0⟩ := opn_field (off := 0) (opn_int Tryz.underlying3 (by kernel_rfl)) (by omega) (hf 0 _ rfl)
  obtain ⟨a1, e1, g1⟩ := opn_field (off := 1) (opn_int Tryz.underlying3 (by kernel_rfl)) (by omega) (hf 1 _ rfl)
  obtain ⟨a2, e2, g2⟩ := opn_field (off := 2) (opn_slice Tryz.underlying31 (by kernel_rfl) (by decide) opn_Unit) (by omega) (hf 2 _ rfl)
  have z : RdL (fun k => k < w.heap.size) w (cs.drop 3) [] [] := by rw [List.drop_of_length_le (by omega)]; exact .nil
  have p2 := rdl_field (o := 2) e2 z
  have p1 := rdl_field (o := 1) e1 p2
  have p0 := rdl_field (o := 0) e0 p1
  rw [List.drop_zero] at p0
  exact ⟨⟨a0, a1, a2⟩, p0, g2.1⟩
theorem opn_Order : OpnD Tryz.prog 97 3 (Order.enc false) (fun o => Wide o.path.length) := by
  refine ⟨by kernel_rfl, fun _ => rfl, fun H en w base held fuel cs x h => ?_⟩
  obtain ⟨xs, n, _, rfl, hl, hlen, hf⟩ := DataW.trod_struct Tryz.underlying97 h
  have hc : Tryz.prog.cellsOf 97 = 3 := by kernel_rfl
  have hl' : cs.length = 3 := hl.trans hc
  have hn : xs.length = 3 := hlen
  obtain ⟨a0, e0, g0⟩ := opn_field (off := 0) (opn_int Tryz.underlying3 (by kernel_rfl)) (by omega) (hf 0 _ rfl)
  obtain ⟨a1, e1, g1⟩ := opn_field (off := 1) (opn_slice Tryz.underlying26 (by kernel_rfl) (by decide) (opn_int Tryz.underlying3 (by kernel_rfl))) (by omega) (hf 1 _ rfl)
  obtain ⟨a2, e2, g2⟩ := opn_field (off := 2) (opn_int Tryz.underlying3 (by kernel_rfl)) (by omega) (hf 2 _ rfl)
  have z : RdL (fun k => k < w.heap.size) w (cs.drop 3) [] [] := by rw [List.drop_of_length_le (by omega)]; exact .nil
  have p2 := rdl_field (o := 2) e2 z
  have p1 := rdl_field (o := 1) e1 p2
  have p0 := rdl_field (o := 0) e0 p1
  rw [List.drop_zero] at p0
  exact ⟨⟨a0, a1, a2⟩, p0, g1.1⟩
theorem opn_Sheet : OpnD Tryz.prog 36 2 (SheetL) (WideSheet) := by
  refine ⟨by kernel_rfl, fun _ => rfl, fun H en w base held fuel cs x h => ?_⟩
  obtain ⟨xs, n, _, rfl, hl, hlen, hf⟩ := DataW.trod_struct Tryz.underlying36 h
  have hc : Tryz.prog.cellsOf 36 = 2 := by kernel_rfl
  have hl' : cs.length = 2 := hl.trans hc
  have hn : xs.length = 2 := hlen
  obtain ⟨a0, e0, g0⟩ := opn_field (off := 0) (opn_int Tryz.underlying3 (by kernel_rfl)) (by omega) (hf 0 _ rfl)
  obtain ⟨a1, e1, g1⟩ := opn_field (off := 1) (opn_slice Tryz.underlying34 (by kernel_rfl) (by decide) opn_Order) (by omega) (hf 1 _ rfl)
  have z : RdL (fun k => k < w.heap.size) w (cs.drop 2) [] [] := by rw [List.drop_of_length_le (by omega)]; exact .nil
  have p1 := rdl_field (o := 1) e1 z
  have p0 := rdl_field (o := 0) e0 p1
  rw [List.drop_zero] at p0
  exact ⟨⟨a0, a1⟩, p0, ⟨g1.1, g1.2⟩⟩
def laidAll : List (String × DataW _root_.Unit) := [("loop.example/g00886/impl.directions", Rows.laid_loop_example_g00886_impl_directions)]
theorem laid_plain {W : World} (h : laidMetH Tryz.prog laidAll W) : laidMet Tryz.prog laidAll W := by
  rw [MakeChecks.laidMetH_plain _ _ _ (by kernel_rfl)] at h; exact h
theorem mixed : Tryz.prog.follows .mixedOrders = true := by kernel_rfl
theorem gDirs : Tryz.prog.globalNamed "loop.example/g00886/impl.directions" = some 0 := by kernel_rfl
theorem tDirs : (Tryz.prog.globals[0]?).map (·.type) = some 217 := by kernel_rfl
theorem hex_of {H : Type} {en : TypeId × Value → H} {w : World} {base : Nat} {sp : Nat → Bool} {held : Bool} {fu : Nat} {cs : List Value} {x : DataW H × List MemPlace} {a b : Int} (h : DataW.trod en Tryz.prog w base sp held fu 174 cs = some x) (hx : x.1 = .agg [.lit (.int .i64 a), .lit (.int .i64 b)]) : cs = [.int .i64 a, .int .i64 b] := by
  obtain ⟨y0, y1, n, rfl, hl, h0, h1⟩ := trod_struct2 Tryz.underlying174 h
  have hc : Tryz.prog.cellsOf 174 = 2 := by kernel_rfl
  have hc3 : Tryz.prog.cellsOf 3 = 1 := by kernel_rfl
  rw [hc] at hl
  match cs, hl with
  | [c0, c1], _ =>
    obtain ⟨k0, e0, d0, _⟩ := DataW.trod_int Tryz.underlying3 h0
    obtain ⟨k1, e1, d1, _⟩ := DataW.trod_int Tryz.underlying3 h1
    simp [hc3] at e0 e1
    subst e0; subst e1
    rw [d0, d1] at hx
    simp at hx
    rw [hx.1, hx.2]
def dirVals : List Value := [.int .i64 1, .int .i64 0, .int .i64 1, .int .i64 (-1), .int .i64 0, .int .i64 (-1), .int .i64 (-1), .int .i64 0, .int .i64 (-1), .int .i64 1, .int .i64 0, .int .i64 1]
theorem at_dirs {W : World} (h : laidMetH Tryz.prog laidAll W) : ∃ cs, W.var? Tryz.prog "loop.example/g00886/impl.directions" = some cs ∧ cs.toList = dirVals := by
  have h := (show laidMet Tryz.prog (("loop.example/g00886/impl.directions", Rows.laid_loop_example_g00886_impl_directions) :: []) W from laid_plain h)
  obtain ⟨ps, ⟨g0, t0, cs0, f0, p0, q0, hg0, ht0, hv0, hd0, _, _⟩, _⟩ := h
  obtain rfl := Option.some.inj (gDirs.symm.trans hg0)
  obtain rfl := Option.some.inj (tDirs.symm.trans ht0)
  obtain ⟨xs, m1, rfl, hx1, hlen, hn, hel⟩ := DataW.trod_array Tryz.underlying217 hd0
  have hc : Tryz.prog.cellsOf 174 = 2 := by kernel_rfl
  have hc6 : Tryz.prog.cellsOf 217 = 12 := by kernel_rfl
  rw [hc6] at hlen
  rw [hc] at hel
  simp only [Rows.laid_loop_example_g00886_impl_directions, Prod.mk.injEq, DataW.agg.injEq] at hx1
  match xs, hn, hx1, hel with
  | [x0, x1, x2, x3, x4, x5], _, hx1, hel =>
    simp only [List.map_cons, List.map_nil, List.cons.injEq] at hx1
    obtain ⟨⟨d0, d1, d2, d3, d4, d5, _⟩, _⟩ := hx1
    have k0 := hex_of (show DataW.trod _ Tryz.prog W 0 _ _ m1 174 _ = some x0 from hel 0 (by decide)) d0.symm
    have k1 := hex_of (show DataW.trod _ Tryz.prog W 0 _ _ m1 174 _ = some x1 from hel 1 (by decide)) d1.symm
    have k2 := hex_of (show DataW.trod _ Tryz.prog W 0 _ _ m1 174 _ = some x2 from hel 2 (by decide)) d2.symm
    have k3 := hex_of (show DataW.trod _ Tryz.prog W 0 _ _ m1 174 _ = some x3 from hel 3 (by decide)) d3.symm
    have k4 := hex_of (show DataW.trod _ Tryz.prog W 0 _ _ m1 174 _ = some x4 from hel 4 (by decide)) d4.symm
    have k5 := hex_of (show DataW.trod _ Tryz.prog W 0 _ _ m1 174 _ = some x5 from hel 5 (by decide)) d5.symm
    refine ⟨cs0, hv0, ?_⟩
    generalize cs0.toList = l at hlen k0 k1 k2 k3 k4 k5
    match l, hlen with
    | [_, _, _, _, _, _, _, _, _, _, _, _], _ =>
      simp at k0 k1 k2 k3 k4 k5
      simp [dirVals, k0, k1, k2, k3, k4, k5]
theorem dirs_rd (W : World) : RdL (fun _ => False) W dirVals dirs [] := by
  have one : ∀ (k : Int) (vs : List Value) (ds : List D), RdL (fun _ => False) W vs ds [] → RdL (fun _ => False) W (.int .i64 k :: vs) (.int .i64 k :: ds) [] := fun k vs ds h => by
    have := RdL.cons (.int .i64 k) (.int .i64 k) vs ds [] [] (Rd.int .i64 k) h (by simp)
    simpa using this
  unfold dirVals dirs
  repeat (first | exact .nil | apply one)
theorem glob_ok {W : World} (h : laidMetH Tryz.prog laidAll W) (hS : W.ShapedOpen Tryz.prog) : GlobOK (fun k => k < W.heap.size) (fun k => W.heap.size ≤ k ∨ k ∈ ([] : List Nat)) glob W := by
  intro g
  by_cases c0 : g = 0
  · subst c0
    obtain ⟨cs, hv, hcs⟩ := at_dirs h
    exact glob_at gDirs hv (by rw [hcs]; exact dirs_rd W)
  exact glob_none (by simp [glob, c0])
/-- A run of the abstract machine that yields true, as a call: what was there stays. -/
theorem calls_true {f : FuncId} {W : World} {vs : List Value} {args : List AV} (h : C f args = some (Bo true)) (ha : ArgsR (fun k => k < W.heap.size) W vs args []) (hL : laidMetH Tryz.prog laidAll W) (hS : W.ShapedOpen Tryz.prog) :
    Calls Tryz.prog f vs.toArray W fun en w' => en = .returned (.bool true) ∧ Below W.heap.size W w' := by
  refine ((callF_sound mixed progOK hand_ok h).2 W vs _ [] ha (by simp) (glob_ok hL hS)).mono fun en w' hh => ?_
  obtain ⟨v, B, rfl, _, hr, _, hf⟩ := hh
  have hv : v = .bool true := by
    have h1 := hr.val_inv.one_inv
    cases h1; rfl
  subst hv
  exact ⟨rfl, hf.os, hf.tape, hf.output, hf.size, fun k hk => hf.block k hk fun hh => hh.elim (fun hh => Nat.not_lt.2 hh hk) fun hh => by cases hh⟩
/-- The one variable, behind a call that leaves what was there. -/
theorem vars_stay {H : Type} {en : TypeId × Value → H} {W W' : World} {gs : List (DataW H)} {ps : List MemPlace} (hl : laidOutB Tryz.prog = true) (hb : Below W.heap.size W W') (h : DataW.TrodVars en Tryz.prog W (fun _ => true) ["loop.example/g00886/impl.directions"] gs ps) :
    DataW.TrodVars en Tryz.prog W' (fun b => decide (b < W.heap.size)) ["loop.example/g00886/impl.directions"] gs ps := by
  have hlt := h.lt
  obtain ⟨g, t, cs, fuel, d, p, rfl, h1, h2, h3, h4, rfl⟩ := trodVars_one h
  obtain rfl := Option.some.inj (gDirs.symm.trans h1)
  obtain rfl := Option.some.inj (tDirs.symm.trans h2)
  have h5 : DataW.Trod en Tryz.prog W 0 (fun _ => true) true 217 (.agg cs) d p := ⟨fuel, h4⟩
  obtain ⟨fuel', h6⟩ := Below.trod hl (by kernel_rfl) (of_decide_eq_true (by kernel_rfl)) h5 hb fun x hx => hlt x (List.mem_append_right _ hx)
  refine trodVars_mk1 h1 h2 ?_ h6
  unfold World.var? at h3 ⊢
  rw [h1] at h3 ⊢
  simp only [Option.bind_some] at h3 ⊢
  have hg : 0 < W.heap.size := by
    cases hh : W.heap[0]? with
    | none => rw [hh] at h3; cases h3
    | some o => exact (Array.getElem?_eq_some_iff.1 hh).1
  rw [hb.block 0 hg]; exact h3
end Go.Abs.W
