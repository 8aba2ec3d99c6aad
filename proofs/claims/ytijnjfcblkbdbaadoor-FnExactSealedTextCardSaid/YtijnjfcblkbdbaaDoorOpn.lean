/- What the arguments read as; what the listed variables hold. -/
import Derived.Test.YtijnjfcblkbdbaaDoorB2
import Derived.Test.YtijnjfcblkbdbaaDoorHand
import Derived.Test.YtijnjfcblkbdbaaDoorRows
import Derived.LaidMore
import Derived.Stop.Joined
import Derived.Stop.LaidErr
import Derived.ProofKit
import Derived.ChangeSame
import Derived.ChangeVars
import Derived.Carry
import Derived.ChangeOld
import Derived.Lib.LaidTab
import Derived.Shelf.Vars
set_option linter.unusedVariables false
set_option linter.unusedSimpArgs false
set_option maxRecDepth 100000
set_option maxHeartbeats 2000000
namespace Go.Abs.W
open Go Go.Abs Go.RowKit Go.ChangeShapes Go.WideShapes Go.ChangeAt Go.Proofs Go.Proofs.YtijnjfcblkbdbaaDoor
theorem opn_Sealed : OpnD Tryd.prog 23 3 (Sealed.enc) (fun _ => True) := by
  refine ⟨by kernel_rfl, fun _ => rfl, fun H en w base held fuel cs x h => ?_⟩
  obtain ⟨xs, n, _, rfl, hl, hlen, hf⟩ := DataW.trod_struct Tryd.underlying23 h
  have hc : Tryd.prog.cellsOf 23 = 3 := by kernel_rfl
  have hl' : cs.length = 3 := hl.trans hc
  have hn : xs.length = 3 := hlen
  obtain ⟨a0, e0, g0⟩ := opn_field (off := 0) (opn_int Tryd.underlying3 (by kernel_rfl)) (by omega) (hf 0 _ rfl)
  obtain ⟨a1, e1, g1⟩ := opn_field (off := 1) (opn_int Tryd.underlying3 (by kernel_rfl)) (by omega) (hf 1 _ rfl)
  obtain ⟨a2, e2, g2⟩ := opn_field (off := 2) (opn_int Tryd.underlying3 (by kernel_rfl)) (by omega) (hf 2 _ rfl)
  have z : RdL (fun k => k < w.heap.size) w (cs.drop 3) [] [] := by rw [List.drop_of_length_le (by omega)]; exact .nil
  have p2 := rdl_field (o := 2) e2 z
  have p1 := rdl_field (o := 1) e1 p2
  have p0 := rdl_field (o := 0) e0 p1
  rw [List.drop_zero] at p0
  exact ⟨⟨a0, a1, a2⟩, p0, trivial⟩
def laidAll : List (String × DataW _root_.Unit) := [("math/bits.deBruijn32tab", Rows.laid_math_bits_deBruijn32tab), ("math/bits.deBruijn64tab", Rows.laid_math_bits_deBruijn64tab), ("internal/strconv.uint64pow10", Rows.laid_internal_strconv_uint64pow10)]
theorem laid_plain {W : World} (h : laidMetH Tryd.prog laidAll W) : laidMet Tryd.prog laidAll W := by
  rw [MakeChecks.laidMetH_plain _ _ _ (by kernel_rfl)] at h; exact h
theorem mixed : Tryd.prog.follows .mixedOrders = true := by kernel_rfl
theorem pow_data : (Rows.laid_internal_strconv_uint64pow10 : DataW _root_.Unit) = Lib.tabData .u64 Lib.pow10Tab := by kernel_rfl
theorem at_pow {W : World} (h : laidMetH Tryd.prog laidAll W) : Lib.TabIs Tryd.prog W "internal/strconv.uint64pow10" .u64 Lib.pow10Tab := by
  have h := (show laidMet Tryd.prog (("internal/strconv.uint64pow10", Rows.laid_internal_strconv_uint64pow10) :: []) W from ((laid_plain h).tail).tail)
  rw [pow_data] at h
  exact Lib.tabIs_of_head (g := 5) (t := 99) (e := 68) (n := 20) (by kernel_rfl) (by kernel_rfl) Tryd.underlying99 Tryd.underlying68 (by kernel_rfl) (by kernel_rfl) h
theorem glob_ok {W : World} (h : laidMetH Tryd.prog laidAll W) (hS : W.ShapedOpen Tryd.prog) : GlobOK (fun k => k < W.heap.size) (fun k => W.heap.size ≤ k ∨ k ∈ ([] : List Nat)) glob W := by
  intro g
  by_cases c0 : g = 5
  · subst c0
    exact glob_at (P := Tryd.prog) (name := "internal/strconv.uint64pow10") (by kernel_rfl) (at_pow h) (by rw [show (Lib.pow10Tab.map fun z => Value.int .u64 z).toArray.toList = Lib.pow10Tab.map (Value.int .u64) from rfl]; exact RdL.intsK _)
  exact glob_none (by simp [glob, c0])
/-- A run of the abstract machine that yields true, as a call: what was there stays. -/
theorem calls_true {f : FuncId} {W : World} {vs : List Value} {args : List AV} (h : C f args = some (Bo true)) (ha : ArgsR (fun k => k < W.heap.size) W vs args []) (hL : laidMetH Tryd.prog laidAll W) (hS : W.ShapedOpen Tryd.prog) :
    Calls Tryd.prog f vs.toArray W fun en w' => en = .returned (.bool true) ∧ Below W.heap.size W w' := by
  refine ((callF_sound mixed progOK hand_ok h).2 W vs _ [] ha (by simp) (glob_ok hL hS)).mono fun en w' hh => ?_
  obtain ⟨v, B, rfl, _, hr, _, hf⟩ := hh
  have hv : v = .bool true := by
    have h1 := hr.val_inv.one_inv
    cases h1; rfl
  subst hv
  exact ⟨rfl, hf.os, hf.tape, hf.output, hf.size, fun k hk => hf.block k hk fun hh => hh.elim (fun hh => Nat.not_lt.2 hh hk) fun hh => by cases hh⟩
end Go.Abs.W
