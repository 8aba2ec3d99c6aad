/- How the statements' own struct types are laid open. -/
import Derived.Test.YtgjdonadnofdlaaPx0
import Derived.Test.YtgjdonadnofdlaaOpens
namespace Go.Proofs.Ytgjdonadnofdlaa.Rd
open Go.RowKit Go.Proofs.Ytgjdonadnofdlaa.P Go.Proofs.YtgjdonadnofdlaaW.PrintWords
set_option linter.unusedVariables false
set_option linter.unusedSimpArgs false
def G23 (x : S23) : Prop := (I64 x.f0) ∧ (I64 x.f1) ∧ (I64 x.f2)
theorem open_T23 : Opens Try.prog 23 k23 G23 := by
  refine ⟨by kernel_rfl, fun H enc w base spare held fuel cs x h => ?_⟩
  obtain ⟨xs, n, _, rfl, hl, hlen, hf⟩ := DataW.trod_struct Try.underlying23 h
  have hc : Try.prog.cellsOf 23 = 3 := by kernel_rfl
  have hl' : cs.length = 3 := hl.trans hc
  have hn : xs.length = 3 := hlen
  obtain ⟨a0, e0, g0⟩ := field_at (opens_int Try.underlying3 (by kernel_rfl)) (by omega) (hf 0 _ rfl)
  obtain ⟨a1, e1, g1⟩ := field_at (opens_int Try.underlying3 (by kernel_rfl)) (by omega) (hf 1 _ rfl)
  obtain ⟨a2, e2, g2⟩ := field_at (opens_int Try.underlying3 (by kernel_rfl)) (by omega) (hf 2 _ rfl)
  refine ⟨⟨a0, a1, a2⟩, ?_, g0, g1, g2⟩
  replace e0 : (Kd.int .i64).K w a0 ((cs.drop 0).take 1) := e0
  replace e1 : (Kd.int .i64).K w a1 ((cs.drop 1).take 1) := e1
  replace e2 : (Kd.int .i64).K w a2 ((cs.drop 2).take 1) := e2
  rw [List.drop_zero] at e0
  have e2' := e2
  rw [List.take_of_length_le (by simp; omega)] at e2'
  have p1 := pair_at (a := (Kd.int .i64)) (w := w) (x := (a1, a2)) (cs := (cs.drop 1)) 1 e1 (by rw [List.drop_drop]; exact e2')
  have p0 := pair_at (a := (Kd.int .i64)) (w := w) (x := (a0, (a1, a2))) (cs := cs) 1 e0 (by exact p1)
  exact p0
def G51 (x : S51) : Prop := (I64 x.f0) ∧ (x.f1.size ≤ maxLen)
theorem open_T51 : Opens Try.prog 51 k51 G51 := by
  refine ⟨by kernel_rfl, fun H enc w base spare held fuel cs x h => ?_⟩
  obtain ⟨xs, n, _, rfl, hl, hlen, hf⟩ := DataW.trod_struct Try.underlying51 h
  have hc : Try.prog.cellsOf 51 = 2 := by kernel_rfl
  have hl' : cs.length = 2 := hl.trans hc
  have hn : xs.length = 2 := hlen
  obtain ⟨a0, e0, g0⟩ := field_at (opens_int Try.underlying3 (by kernel_rfl)) (by omega) (hf 0 _ rfl)
  obtain ⟨a1, e1, g1⟩ := field_at (opens_string Try.underlying9 (by kernel_rfl)) (by omega) (hf 1 _ rfl)
  refine ⟨⟨a0, a1⟩, ?_, g0, g1⟩
  replace e0 : (Kd.int .i64).K w a0 ((cs.drop 0).take 1) := e0
  replace e1 : Kd.string.K w a1 ((cs.drop 1).take 1) := e1
  rw [List.drop_zero] at e0
  have e1' := e1
  rw [List.take_of_length_le (by simp; omega)] at e1'
  have p0 := pair_at (a := (Kd.int .i64)) (w := w) (x := (a0, a1)) (cs := cs) 1 e0 (by exact e1')
  exact p0
end Go.Proofs.Ytgjdonadnofdlaa.Rd
