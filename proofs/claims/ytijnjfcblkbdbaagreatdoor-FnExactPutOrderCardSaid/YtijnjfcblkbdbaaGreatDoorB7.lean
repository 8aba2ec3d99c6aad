import Derived.Test.YtijnjfcblkbdbaaGreatDoorB3
import Derived.Test.YtijnjfcblkbdbaaGreatDoorB6
set_option linter.unusedSimpArgs false
set_option linter.unusedVariables false
set_option maxRecDepth 100000
set_option maxHeartbeats 2000000
namespace Go.Abs.W
open Go Go.Abs Classical
attribute [-simp] Bool.decide_and
theorem c_impl_hasSheet (b : Board) (s : State) (x : Sheet) (gb : LenB b) (gs : Len s.units.length) (gx : LenSheet x) : C n_impl_hasSheet [BoardV false b, StateV false s, SheetV false x] = some (Bo (decide (StateOK b s ∧ SheetOK b s x))) := by
  refine callC p_impl_hasSheet rfl ?_
  have e1 := c_impl_fits b s gb gs
  by_cases h : StateOK b s
  · have e2 := c_impl_goodSheet b s x gb h gx
    by_cases h2 : SheetOK b s x <;> simp [xRun, a_impl_hasSheet, e1, h, e2, h2]
  · simp [xRun, a_impl_hasSheet, e1, h]
/-- What the texts ask of an order. -/
structure OrdT (o : Order) : Prop where
  unit : 0 ≤ o.unit ∧ o.unit < 1000000
  path : PathOK o.path
  attack : -1 ≤ o.attack ∧ o.attack < 1000000
theorem nextM_lt {m : Map} (h : Dim m) (i d : Int) : nextM m i d < 1000000 := by
  unfold nextM indexM
  split
  · rename_i hh
    have h1 := h.w; have h2 := h.h
    have := mul_bounds (a := i / m.width + dr d) (b := m.width) (x := 10) (y := 10) (by omega) (by omega)
    omega
  · decide
theorem fault_ordT {b : Board} {s : State} {side : Int} {o : Order} (h : StateOK b s) (hf : faultM b s side o = 0) : OrdT o := by
  unfold faultM at hf
  by_cases h1 : Placed s side o.unit
  rotate_left
  · simp [h1] at hf
  by_cases h2 : OWay b s o
  rotate_left
  · simp [h1, h2] at hf
  have hu := h1.1
  have hlen := h.len
  refine ⟨⟨hu.1, by have := hu.2; omega⟩, h2.1, ?_⟩
  by_cases h3 : o.attack = -1
  · omega
  by_cases h4 : 0 ≤ sideM b.map (endM b s o) o.attack
  · obtain ⟨d, _, h5, h6⟩ := firstIx_pos.1 h4
    have := nextM_lt h.board.map.dim (endM b s o) d
    omega
  · simp only [h1, h2, h3, h4, not_true, if_false] at hf
    split at hf <;> simp at hf
theorem sheet_ordT {b : Board} {s : State} {x : Sheet} (h : StateOK b s) (hx : SheetOK b s x) : ∀ o ∈ x.orders, OrdT o := by
  intro o ho
  obtain ⟨n, hn⟩ := List.mem_iff_getElem?.1 ho
  have hlt := (List.getElem?_eq_some_iff.1 hn).1
  have hz : codeM b s x.side x.orders n = 0 := by
    have h2 := hx.2
    unfold firstBad at h2
    split at h2
    · rename_i k hk
      have := List.find?_some hk
      simp only [decide_eq_true_eq] at this
      exact absurd h2 this
    · rename_i hk
      have := List.find?_range_eq_none.1 hk n hlt
      simpa using this
  unfold codeM at hz
  rw [hn] at hz
  dsimp only at hz
  split at hz
  · cases hz
  · exact fault_ordT h hz
/-- Directions as digits. -/
def digitsB (p : List Int) : List UInt8 := if p = [] then [45] else p.flatMap Lib.itoa
def placeB (i : Int) : List UInt8 := if i < 0 then [45] else Lib.itoa i
def lineB (o : Order) : List UInt8 := Lib.itoa o.unit ++ 32 :: (digitsB o.path ++ 32 :: (placeB o.attack ++ [10]))
def sheetB (x : Sheet) : List UInt8 := [115, 105, 100, 101, 32] ++ Lib.itoa x.side ++ 10 :: x.orders.flatMap lineB
theorem flat_len {p : List Int} (hp : ∀ d ∈ p, 0 ≤ d ∧ d ≤ 5) : (p.flatMap Lib.itoa).length ≤ 20 * p.length := by
  induction p with
  | nil => simp
  | cons d p ih =>
    have h1 := ih fun e he => hp e (by simp [he])
    have h2 := hp d (by simp)
    have h3 := itoa_len d (by omega) (by omega)
    simp at h1 ⊢; omega
theorem digits_len {p : List Int} (hp : PathOK p) : (digitsB p).length ≤ 180 := by
  unfold digitsB
  split
  · simp
  · have := flat_len hp.2
    have := hp.1
    omega
theorem place_len {i : Int} (h : -1 ≤ i ∧ i < 1000000) : (placeB i).length ≤ 20 := by
  unfold placeB
  split
  · simp
  · exact itoa_len i (by omega) (by omega)
theorem line_len {o : Order} (h : OrdT o) : (lineB o).length ≤ 223 := by
  have h1 := itoa_len o.unit (by have := h.unit; omega) (by have := h.unit; omega)
  have h2 := digits_len h.path
  have h3 := place_len h.attack
  simp [lineB]; omega
theorem lines_len {l : List Order} (h : ∀ o ∈ l, OrdT o) : (l.flatMap lineB).length ≤ 223 * l.length := by
  induction l with
  | nil => simp
  | cons o l ih =>
    have h1 := ih fun e he => h e (by simp [he])
    have h2 := line_len (h o (by simp))
    simp at h1 ⊢; omega
theorem bsl_append (a b : List UInt8) : bs a ++ bs b = bs (a ++ b) := bs_append a b
end Go.Abs.W
