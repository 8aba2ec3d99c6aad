/- What the arguments read as; what the listed variables hold. -/
import Derived.Test.YtijnjfcblkbdbaaDoorB4
import Derived.Test.YtijnjfcblkbdbaaDoorHand
import Derived.Test.YtijnjfcblkbdbaaDoorRows
import Derived.LaidMore
import Derived.Stop.Joined
import Derived.Stop.LaidErr
import Derived.ProofKit
import Derived.ChangeSame
import Derived.ChangeVars
import Derived.Carry
import Derived.ChangeOld
import Derived.Lib.LaidTab
import Derived.Shelf.Vars
set_option linter.unusedVariables false
set_option linter.unusedSimpArgs false
set_option maxRecDepth 100000
set_option maxHeartbeats 2000000
namespace Go.Abs.W
open Go Go.Abs Go.RowKit Go.ChangeShapes Go.WideShapes Go.ChangeAt Go.Proofs Go.Proofs.YtijnjfcblkbdbaaDoor

def laidAll : List (String × DataW _root_.Unit) := [("math/bits.deBruijn32tab", Rows.laid_math_bits_deBruijn32tab), ("math/bits.deBruijn64tab", Rows.laid_math_bits_deBruijn64tab), ("internal/strconv.uint64pow10", Rows.laid_internal_strconv_uint64pow10), ("unicode/utf8.acceptRanges", Rows.laid_unicode_utf8_acceptRanges), ("strconv.ErrRange", Rows.laid_strconv_ErrRange), ("strconv.ErrSyntax", Rows.laid_strconv_ErrSyntax), ("unicode/utf8.first", Rows.laid_unicode_utf8_first)]
theorem laid_plain {W : World} (h : laidMetH Tryd.prog laidAll W) : laidMet Tryd.prog laidAll W := by
  rw [MakeChecks.laidMetH_plain _ _ _ (by kernel_rfl)] at h; exact h
theorem mixed : Tryd.prog.follows .mixedOrders = true := by kernel_rfl
theorem es_star : "*" ++ "errors.errorString" = "*errors.errorString" := by decide
theorem es_row (u : TypeId) (h : Tryd.prog.typeName? 3 u = some "*errors.errorString") : u = 80 :=
  typeName_ptr_named (nm := "errors.errorString") (by rw [es_star]; kernel_rfl) (by kernel_rfl) (by decide) u (by rw [es_star]; exact h)
theorem at_ErrSyntax {W : World} (h : laidMetH Tryd.prog laidAll W) : ∃ tp p, W.var? Tryd.prog "strconv.ErrSyntax" = some #[.iface tp p] := by
  have h := (show laidMet Tryd.prog (("strconv.ErrSyntax", Rows.laid_strconv_ErrSyntax) :: [("unicode/utf8.first", Rows.laid_unicode_utf8_first)]) W from (((((laid_plain h).tail).tail).tail).tail).tail)
  obtain ⟨a0, s0, hv0, -, -, -⟩ := laid_sentinel (g := 0) (ti := 41) (tp := 80) (te := 82) (ts := 9) h (by kernel_rfl) (by kernel_rfl) Tryd.underlying41 es_row Tryd.underlying80 Tryd.underlying82 rfl rfl Tryd.underlying9 (by kernel_rfl) (by kernel_rfl)
  exact ⟨_, _, hv0⟩
theorem at_ErrRange {W : World} (h : laidMetH Tryd.prog laidAll W) : ∃ tp p, W.var? Tryd.prog "strconv.ErrRange" = some #[.iface tp p] := by
  have h := (show laidMet Tryd.prog (("strconv.ErrRange", Rows.laid_strconv_ErrRange) :: [("strconv.ErrSyntax", Rows.laid_strconv_ErrSyntax), ("unicode/utf8.first", Rows.laid_unicode_utf8_first)]) W from ((((laid_plain h).tail).tail).tail).tail)
  obtain ⟨a0, s0, hv0, -, -, -⟩ := laid_sentinel (g := 1) (ti := 41) (tp := 80) (te := 82) (ts := 9) h (by kernel_rfl) (by kernel_rfl) Tryd.underlying41 es_row Tryd.underlying80 Tryd.underlying82 rfl rfl Tryd.underlying9 (by kernel_rfl) (by kernel_rfl)
  exact ⟨_, _, hv0⟩
theorem pow_data : (Rows.laid_internal_strconv_uint64pow10 : DataW _root_.Unit) = Lib.tabData .u64 Lib.pow10Tab := by kernel_rfl
theorem at_pow {W : World} (h : laidMetH Tryd.prog laidAll W) : Lib.TabIs Tryd.prog W "internal/strconv.uint64pow10" .u64 Lib.pow10Tab := by
  have h := (show laidMet Tryd.prog (("internal/strconv.uint64pow10", Rows.laid_internal_strconv_uint64pow10) :: [("unicode/utf8.acceptRanges", Rows.laid_unicode_utf8_acceptRanges), ("strconv.ErrRange", Rows.laid_strconv_ErrRange), ("strconv.ErrSyntax", Rows.laid_strconv_ErrSyntax), ("unicode/utf8.first", Rows.laid_unicode_utf8_first)]) W from ((laid_plain h).tail).tail)
  rw [pow_data] at h
  exact Lib.tabIs_of_head (g := 5) (t := 99) (e := 68) (n := 20) (by kernel_rfl) (by kernel_rfl) Tryd.underlying99 Tryd.underlying68 (by kernel_rfl) (by kernel_rfl) h
theorem glob_ok {W : World} (h : laidMetH Tryd.prog laidAll W) (hS : W.ShapedOpen Tryd.prog) : GlobOK (fun k => k < W.heap.size) (fun k => W.heap.size ≤ k ∨ k ∈ ([] : List Nat)) glob W := by
  intro g
  by_cases c0 : g = 0
  · subst c0
    obtain ⟨tp, p, hv⟩ := at_ErrSyntax h
    exact glob_at (P := Tryd.prog) (by kernel_rfl) hv (Rd.err (.iface tp p) true rfl).single
  by_cases c1 : g = 1
  · subst c1
    obtain ⟨tp, p, hv⟩ := at_ErrRange h
    exact glob_at (P := Tryd.prog) (by kernel_rfl) hv (Rd.err (.iface tp p) true rfl).single
  by_cases c2 : g = 2
  · subst c2
    obtain ⟨m, hm⟩ := cell_of_shapedOpen_int (zero := #[.int .i64 0]) (t := 3) (g := 2) hS (of_decide_eq_true (by kernel_rfl)) (by kernel_rfl) rfl (by kernel_rfl) (by kernel_rfl) Tryd.underlying3
    exact glob_any hm
  by_cases c3 : g = 5
  · subst c3
    exact glob_at (P := Tryd.prog) (name := "internal/strconv.uint64pow10") (by kernel_rfl) (at_pow h) (by rw [show (Lib.pow10Tab.map fun z => Value.int .u64 z).toArray.toList = Lib.pow10Tab.map (Value.int .u64) from rfl]; exact RdL.intsK _)
  exact glob_none (by simp [glob, c0, c1, c2, c3])
/-- A run of the abstract machine that yields true, as a call: what was there stays. -/
theorem calls_true {f : FuncId} {W : World} {vs : List Value} {args : List AV} (h : C f args = some (Bo true)) (ha : ArgsR (fun k => k < W.heap.size) W vs args []) (hL : laidMetH Tryd.prog laidAll W) (hS : W.ShapedOpen Tryd.prog) :
    Calls Tryd.prog f vs.toArray W fun en w' => en = .returned (.bool true) ∧ Below W.heap.size W w' := by
  refine ((callF_sound mixed progOK hand_ok h).2 W vs _ [] ha (by simp) (glob_ok hL hS)).mono fun en w' hh => ?_
  obtain ⟨v, B, rfl, _, hr, _, hf⟩ := hh
  have hv : v = .bool true := by
    have h1 := hr.val_inv.one_inv
    cases h1; rfl
  subst hv
  exact ⟨rfl, hf.os, hf.tape, hf.output, hf.size, fun k hk => hf.block k hk fun hh => hh.elim (fun hh => Nat.not_lt.2 hh hk) fun hh => by cases hh⟩
end Go.Abs.W
