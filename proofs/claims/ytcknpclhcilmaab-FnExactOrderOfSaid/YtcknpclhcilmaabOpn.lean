/- What the arguments read as; the package table of the directions. -/
import Derived.Test.YtcknpclhcilmaabB0
import Derived.Test.YtcknpclhcilmaabRows
import Derived.LaidMore
import Derived.Stop.Joined
import Derived.ProofKit
import Derived.ChangeSame
import Derived.ChangeVars
import Derived.Carry
import Derived.ChangeOld
set_option linter.unusedVariables false
set_option linter.unusedSimpArgs false
set_option maxRecDepth 100000
set_option maxHeartbeats 2000000
namespace Go.Abs.W
open Go Go.Abs Go.RowKit Go.ChangeShapes Go.WideShapes Go.ChangeAt Go.Proofs Go.Proofs.Ytcknpclhcilmaab
theorem opn_Order : OpnD Try.prog 48 3 (Order.enc false) (fun o => Wide o.path.length) := by
  refine ⟨by kernel_rfl, fun _ => rfl, fun H en w base held fuel cs x h => ?_⟩
  obtain ⟨xs, n, _, rfl, hl, hlen, hf⟩ := DataW.trod_struct Try.underlying48 h
  have hc : Try.prog.cellsOf 48 = 3 := by kernel_rfl
  have hl' : cs.length = 3 := hl.trans hc
  have hn : xs.length = 3 := hlen
  obtain ⟨a0, e0, g0⟩ := opn_field (off := 0) (opn_int Try.underlying3 (by kernel_rfl)) (by omega) (hf 0 _ rfl)
  obtain ⟨a1, e1, g1⟩ := opn_field (off := 1) (opn_slice Try.underlying26 (by kernel_rfl) (by decide) (opn_int Try.underlying3 (by kernel_rfl))) (by omega) (hf 1 _ rfl)
  obtain ⟨a2, e2, g2⟩ := opn_field (off := 2) (opn_int Try.underlying3 (by kernel_rfl)) (by omega) (hf 2 _ rfl)
  have z : RdL (fun k => k < w.heap.size) w (cs.drop 3) [] [] := by rw [List.drop_of_length_le (by omega)]; exact .nil
  have p2 := rdl_field (o := 2) e2 z
  have p1 := rdl_field (o := 1) e1 p2
  have p0 := rdl_field (o := 0) e0 p1
  rw [List.drop_zero] at p0
  exact ⟨⟨a0, a1, a2⟩, p0, g1.1⟩
theorem opn_Sheet : OpnD Try.prog 24 2 (SheetL) (WideSheet) := by
  refine ⟨by kernel_rfl, fun _ => rfl, fun H en w base held fuel cs x h => ?_⟩
  obtain ⟨xs, n, _, rfl, hl, hlen, hf⟩ := DataW.trod_struct Try.underlying24 h
  have hc : Try.prog.cellsOf 24 = 2 := by kernel_rfl
  have hl' : cs.length = 2 := hl.trans hc
  have hn : xs.length = 2 := hlen
  obtain ⟨a0, e0, g0⟩ := opn_field (off := 0) (opn_int Try.underlying3 (by kernel_rfl)) (by omega) (hf 0 _ rfl)
  obtain ⟨a1, e1, g1⟩ := opn_field (off := 1) (opn_slice Try.underlying22 (by kernel_rfl) (by decide) opn_Order) (by omega) (hf 1 _ rfl)
  have z : RdL (fun k => k < w.heap.size) w (cs.drop 2) [] [] := by rw [List.drop_of_length_le (by omega)]; exact .nil
  have p1 := rdl_field (o := 1) e1 z
  have p0 := rdl_field (o := 0) e0 p1
  rw [List.drop_zero] at p0
  exact ⟨⟨a0, a1⟩, p0, ⟨g1.1, g1.2⟩⟩
theorem glob_ok {W : World} : GlobOK (fun k => k < W.heap.size) (fun k => W.heap.size ≤ k ∨ k ∈ ([] : List Nat)) glob W := by
  intro g
  refine ⟨[], ?_, fun j u hj => by simp at hj⟩
  have : glob g = [] := by simp [glob]
  rw [this]; exact .nil
theorem hand_ok : HandOK Try.prog glob hand := fun f h args r hf => by cases hf
theorem mixed : Try.prog.follows .mixedOrders = true := by kernel_rfl
/-- A run of the abstract machine that yields true, as a call: what was there stays. -/
theorem calls_true {f : FuncId} {W : World} {vs : List Value} {args : List AV} (h : C f args = some (Bo true)) (ha : ArgsR (fun k => k < W.heap.size) W vs args []) :
    Calls Try.prog f vs.toArray W fun en w' => en = .returned (.bool true) ∧ Below W.heap.size W w' := by
  refine ((callF_sound mixed progOK hand_ok h).2 W vs _ [] ha (by simp) glob_ok).mono fun en w' hh => ?_
  obtain ⟨v, B, rfl, _, hr, _, hf⟩ := hh
  have hv : v = .bool true := by
    have h1 := hr.val_inv.one_inv
    cases h1; rfl
  subst hv
  exact ⟨rfl, hf.os, hf.tape, hf.output, hf.size, fun k hk => hf.block k hk fun hh => hh.elim (fun hh => Nat.not_lt.2 hh hk) fun hh => by cases hh⟩
end Go.Abs.W
