/- What an argument reads as, laid open: cells that read as data at a type hold a value of the print's kind; numbers lie in their range, lengths within the model's bound. -/
import Derived.Deep.Slices
import Derived.WideShapes
import Derived.ChangeArms
import Derived.DataReads
import Derived.DataElems
import Derived.Test.YtgjdonadnofdlaaV1
namespace Go.Proofs.Ytgjdonadnofdlaa.Rd
open Go.RowKit Go.ChangeShapes Go.WideShapes Go.Proofs.YtgjdonadnofdlaaW.PrintWords
set_option linter.unusedVariables false

/-- Cells that read as a datum of type t hold a value of the kind d, and G holds of it. -/
def Opens {α : Type} (P : Program) (t : TypeId) (d : Kd α) (G : α → Prop) : Prop :=
  P.cellsOf t = d.sz ∧ ∀ (H : Type) (enc : TypeId × Value → H) (w : World) (base : Nat) (spare : Nat → Bool) (held : Bool) (fuel : Nat) (cs : List Value) (x : DataW H × List MemPlace),
    DataW.trod enc P w base spare held fuel t cs = some x → ∃ a : α, d.K w a cs ∧ G a

def I64 (n : Int) : Prop := -9223372036854775808 ≤ n ∧ n ≤ 9223372036854775807
theorem i64_of {n : Int} (h : (Lit.int .i64 n).wf = true) : I64 n := by
  simp [Lit.wf, IntKind.min, IntKind.max, IntKind.bits, IntKind.signed] at h
  unfold I64
  omega
theorem opens_int {P : Program} {t : TypeId} (hu : P.underlying t = some (.int .i64)) (hc : P.cellsOf t = 1) : Opens P t (Kd.int .i64) I64 :=
  ⟨hc, fun H enc w base spare held fuel cs x h => by
    obtain ⟨n, rfl, _, hw⟩ := DataW.trod_int hu h
    exact ⟨n, rfl, i64_of hw⟩⟩
theorem opens_bool {P : Program} {t : TypeId} (hu : P.underlying t = some .bool) (hc : P.cellsOf t = 1) : Opens P t Kd.bool (fun _ => True) :=
  ⟨hc, fun H enc w base spare held fuel cs x h => by
    obtain ⟨n, rfl, _⟩ := DataW.trod_bool hu h
    exact ⟨n, rfl, trivial⟩⟩
theorem opens_string {P : Program} {t : TypeId} (hu : P.underlying t = some .string) (hc : P.cellsOf t = 1) : Opens P t Kd.string (fun s => s.size ≤ maxLen) :=
  ⟨hc, fun H enc w base spare held fuel cs x h => by
    obtain ⟨n, rfl, _, hw⟩ := DataW.trod_string hu h
    exact ⟨n, rfl, hw⟩⟩
theorem list_of {α : Type} {R : Nat → α → Prop} : ∀ n : Nat, (∀ i, i < n → ∃ a, R i a) → ∃ l : List α, l.length = n ∧ ∀ i a, l[i]? = some a → R i a
  | 0, _ => ⟨[], rfl, fun i a h => by simp at h⟩
  | n + 1, h => by
    obtain ⟨l, hl, hR⟩ := list_of n (fun i hi => h i (by omega))
    obtain ⟨a, ha⟩ := h n (by omega)
    refine ⟨l ++ [a], by simp [hl], fun i b hb => ?_⟩
    rcases Nat.lt_or_ge i l.length with hi | hi
    · rw [List.getElem?_append_left hi] at hb
      exact hR i b hb
    · rw [List.getElem?_append_right hi] at hb
      have h0 : i - l.length = 0 := by
        have := (List.getElem?_eq_some_iff.1 hb).1
        simp at this
        omega
      rw [h0] at hb
      simp at hb
      obtain rfl : i = n := by omega
      rw [← hb]; exact ha
theorem opens_slice {α : Type} {d : Kd α} {G : α → Prop} {P : Program} {t e : TypeId} (hu : P.underlying t = some (.slice e)) (hc : P.cellsOf t = 1) (he : Opens P e d G) :
    Opens P t (Kd.slice e d) (fun l => l.length ≤ maxLen ∧ ∀ a ∈ l, G a) :=
  ⟨hc, fun H enc w base spare held fuel cs x h => by
    rcases Go.Deep.open_slice hu h with ⟨rfl, _⟩ | ⟨a, len, cap, m, n, D, Pl, rfl, hb, hl, hm, hmm, _, hx⟩
    · exact ⟨[], ⟨none, 0, rfl, Nat.le_refl _, Kd.C_nil d w⟩, by simp, fun _ h => by simp at h⟩
    · have hle : len ≤ m := by rw [hmm]; split <;> omega
      have hel : ∀ i, i < len → ∃ y : α, (∃ c, c.length = d.sz ∧ d.K w y c ∧ ∀ j u, c[j]? = some u → w.cell? (a.add (i * d.sz + j)) = some u) ∧ G y := by
        intro i hi
        obtain ⟨cs', hcs, ht⟩ := hx i (by omega)
        obtain ⟨y, hy, hg⟩ := he.2 H enc w base spare held n cs' _ ht
        obtain ⟨_, hlen, hcell⟩ := World.cells?_some hcs
        rw [he.1] at hlen hcell
        refine ⟨y, ⟨cs', hlen, hy, fun j u hj => ?_⟩, hg⟩
        have hj' : j < d.sz := by rw [← hlen]; exact (List.getElem?_eq_some_iff.1 hj).1
        have := hcell j hj'
        rw [Addr.add_add, hj] at this
        exact this
      obtain ⟨l, hll, hR⟩ := list_of len hel
      refine ⟨l, ⟨some a, cap, by rw [hll], by omega, by rw [hll]; exact ⟨hll, by unfold maxLen at hm; omega, fun _ => ⟨a, rfl, fun j p hj => (hR j p hj).1⟩⟩⟩, by omega, fun y hy => ?_⟩
      obtain ⟨j, hj, hjy⟩ := List.getElem_of_mem hy
      exact (hR j y (by rw [← hjy]; exact List.getElem?_eq_getElem hj)).2⟩
theorem opens_G {α : Type} {d : Kd α} {G G' : α → Prop} {P : Program} {t : TypeId} (h : Opens P t d G) (hG : ∀ a, G a → G' a) : Opens P t d G' :=
  ⟨h.1, fun H enc w base spare held fuel cs x ht => by
    obtain ⟨a, ha, hg⟩ := h.2 H enc w base spare held fuel cs x ht
    exact ⟨a, ha, hG a hg⟩⟩

/-! a struct's fields -/
theorem pair_at {α β : Type} {a : Kd α} {b : Kd β} {w : World} {x : α × β} {cs : List Value} (n : Nat) (h0 : a.K w x.1 (cs.take n)) (h1 : b.K w x.2 (cs.drop n)) : (Kd.pair a b).K w x cs :=
  ⟨_, _, (List.take_append_drop n cs).symm, h0, h1⟩
theorem field_at {α : Type} {P : Program} {t : TypeId} {d : Kd α} {G : α → Prop} (ho : Opens P t d G) {H : Type} {enc : TypeId × Value → H} {w : World} {base : Nat} {spare : Nat → Bool} {held : Bool} {n off : Nat} {cs : List Value} {xs : List (DataW H × List MemPlace)} {i : Nat}
    (hi : i < xs.length) (h : DataW.trod enc P w base spare held n t ((cs.drop off).take (P.cellsOf t)) = xs[i]?) : ∃ a : α, d.K w a ((cs.drop off).take d.sz) ∧ G a := by
  rw [List.getElem?_eq_getElem hi, ho.1] at h
  exact ho.2 H enc w base spare held n _ _ h
/-- An argument that is no struct: its one cell. -/
theorem arg_at {α : Type} {P : Program} {t : TypeId} {d : Kd α} {G : α → Prop} (ho : Opens P t d G) {H : Type} {enc : TypeId × Value → H} {w : World} {base : Nat} {spare : Nat → Bool} {held : Bool} {v : Value} {dd : DataW H} {ps : List MemPlace}
    (h : DataW.Trod enc P w base spare held t v dd ps) : ∃ a : α, d.K w a v.cells.toList ∧ G a := by
  obtain ⟨fuel, hf⟩ := h
  exact ho.2 H enc w base spare held fuel _ _ hf
end Go.Proofs.Ytgjdonadnofdlaa.Rd
