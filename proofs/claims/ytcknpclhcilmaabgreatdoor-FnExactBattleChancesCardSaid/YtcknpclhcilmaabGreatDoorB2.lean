import Derived.Test.YtcknpclhcilmaabGreatDoorB0
set_option linter.unusedSimpArgs false
set_option linter.unusedVariables false
set_option maxRecDepth 100000
set_option maxHeartbeats 2000000
namespace Go.Abs.W
open Go Go.Abs Classical
attribute [-simp] Bool.decide_and
/-- Distances. -/
def absM (n : Int) : Int := if n < 0 then -n else n
theorem c_spec_l1Abs (n : Int) (h : -10000 ≤ n ∧ n ≤ 10000) : C n_spec_l1Abs [I n] = some (I (absM n)) := by
  refine callC p_spec_l1Abs rfl ?_
  have w : IntKind.i64.wrap (-n) = -n := wrap_small (by omega) (by omega)
  have e := c_spec_l1Most n (-n)
  have hv : (if -n < n then n else -n) = absM n := by unfold absM; split <;> split <;> omega
  rw [hv] at e
  simp [xRun, a_spec_l1Abs, w, e]
theorem c_impl_absOf (n : Int) (h : -10000 ≤ n ∧ n ≤ 10000) : C n_impl_absOf [I n] = some (I (absM n)) := by
  refine callC p_impl_absOf rfl ?_
  have w : IntKind.i64.wrap (-n) = -n := wrap_small (by omega) (by omega)
  by_cases h : n < 0 <;> simp [xRun, a_impl_absOf, w, h, absM]
theorem absM_le {n k : Int} (h : -k ≤ n ∧ n ≤ k) : 0 ≤ absM n ∧ absM n ≤ k := by unfold absM; split <;> omega
def distM (q r q' r' : Int) : Int := (absM (q' - q) + absM (r' - r) + absM (q' - q + (r' - r))) / 2
def Sm (n : Int) : Prop := 0 ≤ n ∧ n ≤ 1000
theorem distM_le {q r q' r' : Int} (h1 : Sm q) (h2 : Sm r) (h3 : Sm q') (h4 : Sm r') : 0 ≤ distM q r q' r' ∧ distM q r q' r' ≤ 2000 := by
  unfold Sm at *
  have := absM_le (n := q' - q) (k := 1000) (by omega)
  have := absM_le (n := r' - r) (k := 1000) (by omega)
  have := absM_le (n := q' - q + (r' - r)) (k := 2000) (by omega)
  unfold distM; omega
theorem dist_facts {q r q' r' : Int} (h1 : Sm q) (h2 : Sm r) (h3 : Sm q') (h4 : Sm r') :
    IntKind.i64.wrap (q' - q) = q' - q ∧ IntKind.i64.wrap (r' - r) = r' - r ∧ IntKind.i64.wrap (q' - q + (r' - r)) = q' - q + (r' - r) ∧ (-10000 ≤ q' - q ∧ q' - q ≤ 10000) ∧ (-10000 ≤ r' - r ∧ r' - r ≤ 10000) ∧ (-10000 ≤ q' - q + (r' - r) ∧ q' - q + (r' - r) ≤ 10000) ∧
    IntKind.i64.wrap (absM (q' - q) + absM (r' - r)) = absM (q' - q) + absM (r' - r) ∧ IntKind.i64.wrap (absM (q' - q) + absM (r' - r) + absM (q' - q + (r' - r))) = absM (q' - q) + absM (r' - r) + absM (q' - q + (r' - r)) ∧
    IntKind.i64.wrap ((absM (q' - q) + absM (r' - r) + absM (q' - q + (r' - r))).tdiv 2) = distM q r q' r' := by
  unfold Sm at *
  have a1 := absM_le (n := q' - q) (k := 1000) (by omega)
  have a2 := absM_le (n := r' - r) (k := 1000) (by omega)
  have a3 := absM_le (n := q' - q + (r' - r)) (k := 2000) (by omega)
  refine ⟨wrap_small (by omega) (by omega), wrap_small (by omega) (by omega), wrap_small (by omega) (by omega), by omega, by omega, by omega, wrap_small (by omega) (by omega), wrap_small (by omega) (by omega), ?_⟩
  rw [Int.tdiv_eq_ediv_of_nonneg (by omega)]
  exact wrap_small (by omega) (by omega)
/-- The distance of two hexes of a map. -/
def hexD (m : Map) (p j : Int) : Int := distM (p % m.width) (p / m.width) (j % m.width) (j / m.width)
theorem hex_sm {m : Map} (h : Dim m) {i : Int} (hi : Ix i) : Sm (i % m.width) ∧ Sm (i / m.width) := by
  have h1 := hi.mod h.w.1
  have h2 := hi.div h.w.1
  have := h.w
  unfold Sm; omega
theorem hexD_le {m : Map} (h : Dim m) {i j : Int} (hi : Ix i) (hj : Ix j) : 0 ≤ hexD m i j ∧ hexD m i j ≤ 2000 := distM_le (hex_sm h hi).1 (hex_sm h hi).2 (hex_sm h hj).1 (hex_sm h hj).2
/-- A unit may fall back to a hex. -/
def BackM (b : Board) (s : State) (u to : Int) : Prop := 0 ≤ to ∧ ¬ cost b (unitAt s u).kind to = 0 ∧ cnt s.units to (1 - (unitAt s u).side) = 0 ∧ (¬ InZ b s (1 - (unitAt s u).side) to ∨ ∃ k ∈ unitsIn s to (unitAt s u).side, ¬ k = u)
end Go.Abs.W
set_option linter.unusedSimpArgs false
set_option linter.unusedVariables false
set_option maxRecDepth 100000
set_option maxHeartbeats 2000000
namespace Go.Abs.W
open Go Go.Abs Classical
attribute [-simp] Bool.decide_and
/-- A step of a retreat. -/
def GoM (b : Board) (s : State) (u i d : Int) : Prop := BackM b s u (nextM b.map i d) ∧ hexD b.map (unitAt s u).pos (nextM b.map i d) = hexD b.map (unitAt s u).pos i + 1
noncomputable def pathsM (b : Board) (s : State) (u : Int) : Nat → Int → List Int → List (List Int)
  | 0, i, p => if RoomM b s (unitAt s u).side i then [p] else []
  | n + 1, i, p => dirsL.flatMap fun d => if GoM b s u i d then pathsM b s u n (nextM b.map i d) (p ++ [d]) else []
theorem flat_le {f : Int → List (List Int)} {k : Nat} (hf : ∀ d, (f d).length ≤ k) : ∀ l : List Int, (l.flatMap f).length ≤ l.length * k
  | [] => by simp
  | d :: l => by
    have := flat_le hf l
    have := hf d
    simp only [List.flatMap_cons, List.length_append, List.length_cons, Nat.add_mul]
    omega
theorem pathsM_le (b : Board) (s : State) (u : Int) : ∀ (n : Nat) (i : Int) (p : List Int), (pathsM b s u n i p).length ≤ 6 ^ n
  | 0, i, p => by unfold pathsM; split <;> simp
  | n + 1, i, p => by
    unfold pathsM
    have h := flat_le (f := fun d => if GoM b s u i d then pathsM b s u n (nextM b.map i d) (p ++ [d]) else []) (k := 6 ^ n) (fun d => by
      split
      · exact pathsM_le b s u n _ _
      · simp) dirsL
    have : dirsL.length = 6 := rfl
    rw [this] at h
    rw [Nat.pow_succ]
    omega
theorem pow6 {n : Nat} (h : n ≤ 3) : 6 ^ n ≤ 216 := by
  have : n = 0 ∨ n = 1 ∨ n = 2 ∨ n = 3 := by omega
  rcases this with rfl | rfl | rfl | rfl <;> decide
theorem take_flat (f : Int → List (List Int)) {l : List Int} {n : Nat} {d : Int} (ht : l.take (n + 1) = l.take n ++ [d]) : (l.take (n + 1)).flatMap f = (l.take n).flatMap f ++ f d := by rw [ht]; simp
/-- A retreat may be asked for. -/
def AskOK (b : Board) (s : State) (u n : Int) : Prop := (StateOK b s ∧ Has s u ∧ 0 ≤ (unitAt s u).pos) ∧ 1 ≤ n ∧ n ≤ 3
end Go.Abs.W
