import Derived.Test.YtcknpclhcilmaaaGreatDoorB0
set_option linter.unusedSimpArgs false
set_option linter.unusedVariables false
set_option maxRecDepth 100000
set_option maxHeartbeats 2000000
namespace Go.Abs.W
open Go Go.Abs Classical
attribute [-simp] Bool.decide_and
/-- Distances. -/
def absM (n : Int) : Int := if n < 0 then -n else n
theorem c_spec_l1Abs (n : Int) (h : -10000 ≤ n ∧ n ≤ 10000) : C n_spec_l1Abs [I n] = some (I (absM n)) := by
  refine callC p_spec_l1Abs rfl ?_
  have w : IntKind.i64.wrap (-n) = -n := wrap_small (by omega) (by omega)
  have e := c_spec_l1Most n (-n)
  have hv : (if -n < n then n else -n) = absM n := by unfold absM; split <;> split <;> omega
  rw [hv] at e
  simp [xRun, a_spec_l1Abs, w, e]
theorem c_impl_absOf (n : Int) (h : -10000 ≤ n ∧ n ≤ 10000) : C n_impl_absOf [I n] = some (I (absM n)) := by
  refine callC p_impl_absOf rfl ?_
  have w : IntKind.i64.wrap (-n) = -n := wrap_small (by omega) (by omega)
  by_cases h : n < 0 <;> simp [xRun, a_impl_absOf, w, h, absM]
theorem absM_le {n k : Int} (h : -k ≤ n ∧ n ≤ k) : 0 ≤ absM n ∧ absM n ≤ k := by unfold absM; split <;> omega
def distM (q r q' r' : Int) : Int := (absM (q' - q) + absM (r' - r) + absM (q' - q + (r' - r))) / 2
def Sm (n : Int) : Prop := 0 ≤ n ∧ n ≤ 1000
theorem distM_le {q r q' r' : Int} (h1 : Sm q) (h2 : Sm r) (h3 : Sm q') (h4 : Sm r') : 0 ≤ distM q r q' r' ∧ distM q r q' r' ≤ 2000 := by
  unfold Sm at *
  have := absM_le (n := q' - q) (k := 1000) (by omega)
  have := absM_le (n := r' - r) (k := 1000) (by omega)
  have := absM_le (n := q' - q + (r' - r)) (k := 2000) (by omega)
  unfold distM; omega
theorem dist_facts {q r q' r' : Int} (h1 : Sm q) (h2 : Sm r) (h3 : Sm q') (h4 : Sm r') :
    IntKind.i64.wrap (q' - q) = q' - q ∧ IntKind.i64.wrap (r' - r) = r' - r ∧ IntKind.i64.wrap (q' - q + (r' - r)) = q' - q + (r' - r) ∧ (-10000 ≤ q' - q ∧ q' - q ≤ 10000) ∧ (-10000 ≤ r' - r ∧ r' - r ≤ 10000) ∧ (-10000 ≤ q' - q + (r' - r) ∧ q' - q + (r' - r) ≤ 10000) ∧
    IntKind.i64.wrap (absM (q' - q) + absM (r' - r)) = absM (q' - q) + absM (r' - r) ∧ IntKind.i64.wrap (absM (q' - q) + absM (r' - r) + absM (q' - q + (r' - r))) = absM (q' - q) + absM (r' - r) + absM (q' - q + (r' - r)) ∧
    IntKind.i64.wrap ((absM (q' - q) + absM (r' - r) + absM (q' - q + (r' - r))).tdiv 2) = distM q r q' r' := by
  unfold Sm at *
  have a1 := absM_le (n := q' - q) (k := 1000) (by omega)
  have a2 := absM_le (n := r' - r) (k := 1000) (by omega)
  have a3 := absM_le (n := q' - q + (r' - r)) (k := 2000) (by omega)
  refine ⟨wrap_small (by omega) (by omega), wrap_small (by omega) (by omega), wrap_small (by omega) (by omega), by omega, by omega, by omega, wrap_small (by omega) (by omega), wrap_small (by omega) (by omega), ?_⟩
  rw [Int.tdiv_eq_ediv_of_nonneg (by omega)]
  exact wrap_small (by omega) (by omega)
theorem c_spec_hDistance (q r q' r' : Int) (h1 : Sm q) (h2 : Sm r) (h3 : Sm q') (h4 : Sm r') : C n_spec_hDistance [HexV q r, HexV q' r'] = some (I (distM q r q' r')) := by
  refine callC p_spec_hDistance rfl ?_
  obtain ⟨w1, w2, w3, b1, b2, b3, w4, w5, w6⟩ := dist_facts h1 h2 h3 h4
  simp [xRun, a_spec_hDistance, w1, w2, w3, c_spec_l1Abs _ b1, c_spec_l1Abs _ b2, c_spec_l1Abs _ b3, w4, w5, w6]
theorem c_impl_distance (q r q' r' : Int) (h1 : Sm q) (h2 : Sm r) (h3 : Sm q') (h4 : Sm r') : C n_impl_distance [HexV q r, HexV q' r'] = some (I (distM q r q' r')) := by
  refine callC p_impl_distance rfl ?_
  obtain ⟨w1, w2, w3, b1, b2, b3, w4, w5, w6⟩ := dist_facts h1 h2 h3 h4
  simp [xRun, a_impl_distance, w1, w2, w3, c_impl_absOf _ b1, c_impl_absOf _ b2, c_impl_absOf _ b3, w4, w5, w6]
/-- The distance of two hexes of a map. -/
def hexD (m : Map) (p j : Int) : Int := distM (p % m.width) (p / m.width) (j % m.width) (j / m.width)
theorem hex_sm {m : Map} (h : Dim m) {i : Int} (hi : Ix i) : Sm (i % m.width) ∧ Sm (i / m.width) := by
  have h1 := hi.mod h.w.1
  have h2 := hi.div h.w.1
  have := h.w
  unfold Sm; omega
theorem hexD_le {m : Map} (h : Dim m) {i j : Int} (hi : Ix i) (hj : Ix j) : 0 ≤ hexD m i j ∧ hexD m i j ≤ 2000 := distM_le (hex_sm h hi).1 (hex_sm h hi).2 (hex_sm h hj).1 (hex_sm h hj).2
theorem c_spec_hexD (m : Map) (h : Dim m) (i j : Int) (hi : Ix i) (hj : Ix j) : C n_spec_hDistance [HexV (i % m.width) (i / m.width), HexV (j % m.width) (j / m.width)] = some (I (hexD m i j)) :=
  c_spec_hDistance _ _ _ _ (hex_sm h hi).1 (hex_sm h hi).2 (hex_sm h hj).1 (hex_sm h hj).2
theorem c_impl_hexD (m : Map) (h : Dim m) (i j : Int) (hi : Ix i) (hj : Ix j) : C n_impl_distance [HexV (i % m.width) (i / m.width), HexV (j % m.width) (j / m.width)] = some (I (hexD m i j)) :=
  c_impl_distance _ _ _ _ (hex_sm h hi).1 (hex_sm h hi).2 (hex_sm h hj).1 (hex_sm h hj).2
/-- A unit may fall back to a hex. -/
def BackM (b : Board) (s : State) (u to : Int) : Prop := 0 ≤ to ∧ ¬ cost b (unitAt s u).kind to = 0 ∧ cnt s.units to (1 - (unitAt s u).side) = 0 ∧ (¬ InZ b s (1 - (unitAt s u).side) to ∨ ∃ k ∈ unitsIn s to (unitAt s u).side, ¬ k = u)
theorem c_spec_gBack (b : Board) (s : State) (u i d : Int) (hl : LenB b) (h : StateOK b s) (hu : Has s u) (hi : On b i) (hd : Dir d) :
    C n_spec_gBack [BoardV false b, StateV false s, I u, I i, I d] = some (Bo (decide (BackM b s u (nextM b.map i d)))) := by
  refine callC p_spec_gBack rfl ?_
  have hs12 := h.lens
  have hx := hu.ok h
  have n0 : ¬ u < 0 := by have := hu.1; omega
  have r1 := at_lt (l := s.units) hu.1 hu.2
  have r2 := unit_row hu
  have e1 := c_spec_mNext b.map i d h.board.map.dim (hi.ix h.board) hd
  have hw := side_wrap hx
  have hdef : ∀ to, BackM b s u to ↔ 0 ≤ to ∧ ¬ cost b (unitAt s u).kind to = 0 ∧ cnt s.units to (1 - (unitAt s u).side) = 0 ∧ (¬ InZ b s (1 - (unitAt s u).side) to ∨ ∃ k ∈ unitsIn s to (unitAt s u).side, ¬ k = u) := fun _ => Iff.rfl
  generalize unitAt s u = x at *
  by_cases h1 : nextM b.map i d < 0
  · have hP : ¬ BackM b s u (nextM b.map i d) := fun hh => by have := ((hdef _).1 hh).1; omega
    simp [xRun, a_spec_gBack, n0, r1, r2, Unit.enc, e1, h1, hP]
  have hon := next_on h.board (a := i) (d := d) (by omega)
  have h1' : 0 ≤ nextM b.map i d := by omega
  generalize nextM b.map i d = to at *
  have e2 := c_spec_bCost b x.kind to h.board hx.kind hon
  by_cases h2 : cost b x.kind to = 0
  · have hP : ¬ BackM b s u to := fun hh => ((hdef _).1 hh).2.1 h2
    simp [xRun, a_spec_gBack, n0, r1, r2, Unit.enc, e1, h1, e2, h2, hP]
  have e3 := c_spec_sAt s to (1 - x.side) (by omega)
  have l3 := unitsIn_length s to (1 - x.side)
  by_cases h3 : cnt s.units to (1 - x.side) = 0
  rotate_left
  · have h3' : 0 < cnt s.units to (1 - x.side) := by omega
    have hP : ¬ BackM b s u to := fun hh => h3 ((hdef _).1 hh).2.2.1
    simp [xRun, a_spec_gBack, n0, r1, r2, Unit.enc, e1, h1, e2, h2, hw, e3, ints_length, l3, h3, h3', hP]
  have e4 := c_spec_zIn b s to (1 - x.side) hl h hon
  by_cases h4 : InZ b s (1 - x.side) to
  rotate_left
  · have hP : BackM b s u to := (hdef _).2 ⟨h1', h2, h3, .inl h4⟩
    simp [xRun, a_spec_gBack, n0, r1, r2, Unit.enc, e1, h1, e2, h2, hw, e3, ints_length, l3, h3, e4, h4, hP]
  have e5 := c_spec_sAt s to x.side (by omega)
  have l5 : (unitsIn s to x.side).length ≤ 12 := Nat.le_trans (ixs_length_le ..) hs12
  have hPP : BackM b s u to ↔ ∃ k ∈ unitsIn s to x.side, ¬ k = u :=
    ⟨fun hh => ((hdef _).1 hh).2.2.2.elim (fun hh => absurd h4 hh) id, fun hh => (hdef _).2 ⟨h1', h2, h3, .inr hh⟩⟩
  clear hdef
  generalize unitsIn s to x.side = L at *
  simp [xRun, a_spec_gBack, n0, r1, r2, Unit.enc, e1, h1, e2, h2, hw, e3, ints_length, l3, h3, e4, h4, e5]
  refine find_loop L (by omega) 59 (fun k => ¬ k = u) (by simp) ?_ ?_
  · intro N E n k hk hlt hm hwi hs' hN hE
    by_cases h5 : k = u
    · subst h5
      simp [bodyF, b_spec_gBack_0, hlt, ints_length, ints_get hk, ints_at hk, hwi]
      exact hN _ (by simp) (by simp)
    · have hP : BackM b s u to := hPP.2 ⟨k, hm, h5⟩
      simp [bodyF, b_spec_gBack_0, hlt, ints_length, ints_get hk, ints_at hk, h5]
      exact hE _ _ fun st => by simp [hP]
  · intro N E hs' hE
    have hP : ¬ BackM b s u to := fun hh => (hPP.1 hh).elim fun k hk => hs' k hk.1 hk.2
    simp [bodyF, b_spec_gBack_0, ints_length]
    exact hE _ _ fun st => by simp [hP]
theorem c_impl_canFallBack (b : Board) (s : State) (u to : Int) (hl : LenB b) (h : StateOK b s) (hu : Has s u) (ht : to < 0 ∨ On b to) :
    C n_impl_canFallBack [BoardV false b, StateV false s, I u, I to] = some (Bo (decide (BackM b s u to))) := by
  refine callC p_impl_canFallBack rfl ?_
  have hs12 := h.lens
  have hx := hu.ok h
  have n0 : ¬ u < 0 := by have := hu.1; omega
  have r1 := at_lt (l := s.units) hu.1 hu.2
  have r2 := unit_row hu
  have hw := side_wrap hx
  have hdef : BackM b s u to ↔ 0 ≤ to ∧ ¬ cost b (unitAt s u).kind to = 0 ∧ cnt s.units to (1 - (unitAt s u).side) = 0 ∧ (¬ InZ b s (1 - (unitAt s u).side) to ∨ ∃ k ∈ unitsIn s to (unitAt s u).side, ¬ k = u) := Iff.rfl
  generalize unitAt s u = x at *
  by_cases h1 : to < 0
  · have hP : ¬ BackM b s u to := fun hh => by have := (hdef.1 hh).1; omega
    simp [xRun, a_impl_canFallBack, n0, r1, r2, Unit.enc, h1, hP]
  have hon : On b to := ht.resolve_left h1
  have h1' : 0 ≤ to := by omega
  have e2 := c_impl_enterCost b x.kind to h.board hx.kind hon
  by_cases h2 : cost b x.kind to = 0
  · have hP : ¬ BackM b s u to := fun hh => (hdef.1 hh).2.1 h2
    simp [xRun, a_impl_canFallBack, n0, r1, r2, Unit.enc, h1, e2, h2, hP]
  have e3 := c_impl_unitsAt s to (by omega)
  have l3 : (ixs (fun u : Unit => u.pos = to) s.units).length ≤ 12 := Nat.le_trans (ixs_length_le ..) hs12
  have e4 := c_impl_inZone b s (1 - x.side) to hl h hon
  have hmem : ∀ k, k ∈ ixs (fun u : Unit => u.pos = to) s.units ↔ Has s k ∧ (unitAt s k).pos = to := fun k => ixs_unit
  have hmem2 : ∀ k, k ∈ unitsIn s to x.side ↔ Has s k ∧ (unitAt s k).pos = to ∧ (unitAt s k).side = x.side := fun k => ixs_unit
  have hxs := hx.side
  generalize ixs (fun u : Unit => u.pos = to) s.units = L at *
  generalize unitsIn s to x.side = L2 at *
  simp [xRun, a_impl_canFallBack, n0, r1, r2, Unit.enc, h1, e2, h2, e3, ints_length]
  refine list_loop L (by omega) (fun n (o : Bool) => [(10, Bo o), (32, I n)]) (fun n o => (∀ k ∈ L.take n, (unitAt s k).side = x.side) ∧ (o = true ↔ ∃ k ∈ L.take n, ¬ k = u)) false (by simp) (by simp) ?_ ?_
  · intro N E n k o hk hlt hm htk hwi ⟨hs1, hs2⟩ hN hE
    obtain ⟨hh, hpos⟩ := (hmem k).1 hm
    have m0 : ¬ k < 0 := by have := hh.1; omega
    have q1 := at_lt (l := s.units) hh.1 hh.2
    have q2 := unit_row hh
    by_cases h3 : (unitAt s k).side = x.side
    rotate_left
    · have hP : ¬ BackM b s u to := fun hb => by
        have := (hdef.1 hb).2.2.1
        have := (hh.ok h).side
        have h4 : 0 < cnt s.units to (1 - x.side) := cnt_has.2 ⟨k, hh, hpos, by omega⟩
        omega
      simp [bodyF, b_impl_canFallBack_0, hlt, ints_length, ints_get hk, ints_at hk, m0, q1, q2, Unit.enc, h3]
      exact hE _ _ fun st => by simp [hP]
    have g1 : ∀ y ∈ L.take (n + 1), (unitAt s y).side = x.side := by
      intro y hy
      rw [htk] at hy; simp at hy
      rcases hy with hy | rfl
      · exact hs1 y hy
      · exact h3
    have g2 : (∃ y ∈ L.take (n + 1), ¬ y = u) ↔ (∃ y ∈ L.take n, ¬ y = u) ∨ ¬ k = u := by
      rw [htk]; simp [or_and_right, exists_or]
    cases o with
    | true =>
      simp [bodyF, b_impl_canFallBack_0, hlt, ints_length, ints_get hk, ints_at hk, m0, q1, q2, Unit.enc, h3, hwi]
      exact hN _ true (by simp) ⟨g1, by rw [g2]; exact ⟨fun _ => .inl (hs2.1 rfl), fun _ => rfl⟩⟩
    | false =>
      have g3 : ¬ ∃ y ∈ L.take n, ¬ y = u := fun hh => absurd (hs2.2 hh) (by simp)
      by_cases h5 : k = u
      · subst h5
        simp [bodyF, b_impl_canFallBack_0, hlt, ints_length, ints_get hk, ints_at hk, m0, q1, q2, Unit.enc, h3, hwi]
        exact hN _ false (by simp) ⟨g1, by rw [g2]; exact ⟨fun hh => (by cases hh), fun hh => hh.elim (fun hh => absurd hh g3) (fun hh => absurd rfl hh)⟩⟩
      · simp [bodyF, b_impl_canFallBack_0, hlt, ints_length, ints_get hk, ints_at hk, m0, q1, q2, Unit.enc, h3, h5, hwi]
        exact hN _ true (by simp [h5]) ⟨g1, by rw [g2]; exact ⟨fun _ => .inr h5, fun _ => rfl⟩⟩
  · intro N E o ⟨hs1, hs2⟩ hE
    rw [List.take_length] at hs1 hs2
    have h3 : cnt s.units to (1 - x.side) = 0 := by
      apply Classical.byContradiction
      intro hh
      obtain ⟨k, g1, g2, g3⟩ := cnt_has.1 (show 0 < cnt s.units to (1 - x.side) by omega)
      have := hs1 k ((hmem k).2 ⟨g1, g2⟩)
      omega
    have h5 : (∃ k ∈ L2, ¬ k = u) ↔ ∃ k ∈ L, ¬ k = u := by
      constructor
      · rintro ⟨k, hk, hh⟩
        obtain ⟨g1, g2, _⟩ := (hmem2 k).1 hk
        exact ⟨k, (hmem k).2 ⟨g1, g2⟩, hh⟩
      · rintro ⟨k, hk, hh⟩
        obtain ⟨g1, g2⟩ := (hmem k).1 hk
        exact ⟨k, (hmem2 k).2 ⟨g1, g2, hs1 k hk⟩, hh⟩
    rw [← h5] at hs2
    simp [bodyF, b_impl_canFallBack_0, ints_length]
    refine hE _ _ fun st => ?_
    cases o with
    | true =>
      have hP : BackM b s u to := hdef.2 ⟨h1', h2, h3, .inr (hs2.1 rfl)⟩
      simp [hP]
    | false =>
      have hP : ¬ ∃ k ∈ L2, ¬ k = u := fun hh => absurd (hs2.2 hh) (by simp)
      by_cases h4 : InZ b s (1 - x.side) to
      · have hPP : ¬ BackM b s u to := fun hh => (hdef.1 hh).2.2.2.elim (fun hh => hh h4) hP
        simp [hw, e4, h4, hPP]
      · have hPP : BackM b s u to := hdef.2 ⟨h1', h2, h3, .inl h4⟩
        simp [hw, e4, h4, hPP]
end Go.Abs.W
set_option linter.unusedSimpArgs false
set_option linter.unusedVariables false
set_option maxRecDepth 100000
set_option maxHeartbeats 2000000
namespace Go.Abs.W
open Go Go.Abs Classical
attribute [-simp] Bool.decide_and
/-- A step of a retreat. -/
def GoM (b : Board) (s : State) (u i d : Int) : Prop := BackM b s u (nextM b.map i d) ∧ hexD b.map (unitAt s u).pos (nextM b.map i d) = hexD b.map (unitAt s u).pos i + 1
noncomputable def pathsM (b : Board) (s : State) (u : Int) : Nat → Int → List Int → List (List Int)
  | 0, i, p => if RoomM b s (unitAt s u).side i then [p] else []
  | n + 1, i, p => dirsL.flatMap fun d => if GoM b s u i d then pathsM b s u n (nextM b.map i d) (p ++ [d]) else []
theorem flat_le {f : Int → List (List Int)} {k : Nat} (hf : ∀ d, (f d).length ≤ k) : ∀ l : List Int, (l.flatMap f).length ≤ l.length * k
  | [] => by simp
  | d :: l => by
    have := flat_le hf l
    have := hf d
    simp only [List.flatMap_cons, List.length_append, List.length_cons, Nat.add_mul]
    omega
theorem pathsM_le (b : Board) (s : State) (u : Int) : ∀ (n : Nat) (i : Int) (p : List Int), (pathsM b s u n i p).length ≤ 6 ^ n
  | 0, i, p => by unfold pathsM; split <;> simp
  | n + 1, i, p => by
    unfold pathsM
    have h := flat_le (f := fun d => if GoM b s u i d then pathsM b s u n (nextM b.map i d) (p ++ [d]) else []) (k := 6 ^ n) (fun d => by
      split
      · exact pathsM_le b s u n _ _
      · simp) dirsL
    have : dirsL.length = 6 := rfl
    rw [this] at h
    rw [Nat.pow_succ]
    omega
theorem pow6 {n : Nat} (h : n ≤ 3) : 6 ^ n ≤ 216 := by
  have : n = 0 ∨ n = 1 ∨ n = 2 ∨ n = 3 := by omega
  rcases this with rfl | rfl | rfl | rfl <;> decide
theorem take_flat (f : Int → List (List Int)) {l : List Int} {n : Nat} {d : Int} (ht : l.take (n + 1) = l.take n ++ [d]) : (l.take (n + 1)).flatMap f = (l.take n).flatMap f ++ f d := by rw [ht]; simp
theorem c_spec_gPaths (b : Board) (s : State) (u : Int) (hl : LenB b) (h : StateOK b s) (hu : Has s u) (hp : 0 ≤ (unitAt s u).pos) : ∀ (n : Nat) (i : Int) (p : List Int), n ≤ 3 → On b i → p.length + n ≤ 100 →
    C n_spec_gPaths [BoardV false b, StateV false s, I u, I i, I n, Li p] = some (Rows true 1 (rowsOfL true (pathsM b s u n i p)))
  | 0, i, p, hn, hi, hpl => by
    refine callC p_spec_gPaths rfl ?_
    have n0 : ¬ u < 0 := by have := hu.1; omega
    have r1 := at_lt (l := s.units) hu.1 hu.2
    have r2 := unit_row hu
    have hx := hu.ok h
    have e1 := c_spec_gRoom b s (unitAt s u).side i h hx.side
    have e2 := c_spec_l1Own p (by unfold Len; omega)
    unfold pathsM
    by_cases h1 : RoomM b s (unitAt s u).side i
    · simp [xRun, a_spec_gPaths, n0, r1, r2, Unit.enc, e1, h1, e2, rowsOf, rows_one]
    · simp [xRun, a_spec_gPaths, n0, r1, r2, Unit.enc, e1, h1, rows_nil]
  | n + 1, i, p, hn, hi, hpl => by
    have ih := c_spec_gPaths b s u hl h hu hp n
    refine callC p_spec_gPaths rfl ?_
    have n0 : ¬ u < 0 := by have := hu.1; omega
    have r1 := at_lt (l := s.units) hu.1 hu.2
    have r2 := unit_row hu
    have hx := hu.ok h
    have hpo := (hx.on hp).ix h.board
    have hm := h.board.map.dim
    have e2 := c_spec_l1Own p (by unfold Len; omega)
    have c0 : ¬ ((n : Int) + 1 = 0) := by omega
    have w0 : IntKind.i64.wrap ((n : Int) + 1 - 1) = n := by rw [wrap_small (by omega) (by omega)]; omega
    have w0' : IntKind.i64.wrap (n : Int) = n := wrap_small (by omega) (by omega)
    simp [xRun, a_spec_gPaths, n0, r1, r2, Unit.enc, c0]
    refine list_loop dirsL (by simp [dirsL]) (fun m (_ : Unit) => [(14, .own 0 1 (rowsOfL true ((dirsL.take m).flatMap fun d => if GoM b s u i d then pathsM b s u n (nextM b.map i d) (p ++ [d]) else []))), (15, I m)]) (fun _ _ => True) default (by simp [rows_nil]) trivial ?_ ?_
    · intro N E m d z ha hlt hmm ht hwi _ hN hE
      rw [take_flat _ ht] at hN
      have hacc : (List.flatMap (fun d => if GoM b s u i d then pathsM b s u n (nextM b.map i d) (p ++ [d]) else []) (dirsL.take m)).length ≤ 1296 := by
        have := flat_le (f := fun d => if GoM b s u i d then pathsM b s u n (nextM b.map i d) (p ++ [d]) else []) (k := 216) (fun d => by
          split
          · exact Nat.le_trans (pathsM_le b s u n _ _) (pow6 (by omega))
          · simp) (dirsL.take m)
        have : (dirsL.take m).length ≤ 6 := by rw [List.length_take]; exact Nat.min_le_right ..
        omega
      generalize List.flatMap (fun d => if GoM b s u i d then pathsM b s u n (nextM b.map i d) (p ++ [d]) else []) (dirsL.take m) = acc at *
      obtain ⟨rfl, g2, g3⟩ := dirs_at ha
      have e3 := c_spec_gBack b s u i m hl h hu hi g2
      by_cases h1 : BackM b s u (nextM b.map i m)
      rotate_left
      · have hG : ¬ GoM b s u i m := fun hh => h1 hh.1
        simp only [if_neg hG, List.append_nil] at hN
        simp [bodyF, b_spec_gPaths_0, g3, e3, h1, hwi]
        exact hN _ z (by simp) trivial
      have hon := next_on h.board (a := i) (d := m) h1.1
      have e4 := c_spec_mNext b.map i m hm (hi.ix h.board) g2
      have e5 := c_spec_mHex b.map (unitAt s u).pos hm hpo
      have e6 := c_spec_mHex b.map (nextM b.map i m) hm (hon.ix h.board)
      have e7 := c_spec_mHex b.map i hm (hi.ix h.board)
      have e8 := c_spec_hexD b.map hm (unitAt s u).pos (nextM b.map i m) hpo (hon.ix h.board)
      have e9 := c_spec_hexD b.map hm (unitAt s u).pos i hpo (hi.ix h.board)
      have hw9 : IntKind.i64.wrap (hexD b.map (unitAt s u).pos i + 1) = hexD b.map (unitAt s u).pos i + 1 := by
        have := hexD_le hm hpo (hi.ix h.board)
        exact wrap_small (by omega) (by omega)
      by_cases h2 : hexD b.map (unitAt s u).pos (nextM b.map i m) = hexD b.map (unitAt s u).pos i + 1
      rotate_left
      · have hG : ¬ GoM b s u i m := fun hh => h2 hh.2
        simp only [if_neg hG, List.append_nil] at hN
        simp [bodyF, b_spec_gPaths_0, g3, e3, h1, e4, e5, e6, e7, e8, e9, hw9, h2, hwi]
        exact hN _ z (by simp) trivial
      have hG : GoM b s u i m := ⟨h1, h2⟩
      simp only [if_pos hG] at hN
      have e10 := ih (nextM b.map i m) (p ++ [(m : Int)]) (by omega) hon (by simp; omega)
      have hle : (pathsM b s u n (nextM b.map i m) (p ++ [(m : Int)])).length ≤ 216 := Nat.le_trans (pathsM_le b s u n _ _) (pow6 (by omega))
      have k1 : p.length + 1 ≤ 68719476736 := by omega
      have k2 : acc.length + (pathsM b s u n (nextM b.map i m) (p ++ [(m : Int)])).length ≤ 68719476736 := Nat.le_trans (Nat.add_le_add hacc hle) (by decide)
      simp [bodyF, b_spec_gPaths_0, g3, e3, h1, e4, e5, e6, e7, e8, e9, hw9, h2, hwi, e2, rowsOf, ints_length, k1, ints_snoc, w0, w0', e10, rows_length, k2, rows_append]
      exact hN _ z (by simp [rows_append]) trivial
    · intro N E z _ hE
      rw [List.take_length]
      simp [bodyF, b_spec_gPaths_0, dirsL]
      refine hE _ _ fun st => ?_
      simp [pathsM, dirsL]
theorem c_impl_retreatsFrom (b : Board) (s : State) (u : Int) (hl : LenB b) (h : StateOK b s) (hu : Has s u) (hp : 0 ≤ (unitAt s u).pos) : ∀ (n : Nat) (i : Int) (p : List Int) (out : List (List Int)), n ≤ 3 → On b i → p.length + n ≤ 100 → out.length + 6 ^ n ≤ 100000 →
    C n_impl_retreatsFrom [BoardV false b, StateV false s, I u, I i, I n, Li p, Rows true 1 (rowsOfL true out)] = some (Rows true 1 (rowsOfL true (out ++ pathsM b s u n i p)))
  | 0, i, p, out, hn, hi, hpl, hol => by
    refine callC p_impl_retreatsFrom rfl ?_
    have n0 : ¬ u < 0 := by have := hu.1; omega
    have r1 := at_lt (l := s.units) hu.1 hu.2
    have r2 := unit_row hu
    have hx := hu.ok h
    have hpo := (hx.on hp).ix h.board
    have e0 := c_impl_hexOf b.map (unitAt s u).pos h.board.map.dim hpo
    have e1 := c_impl_stackRoom b s (unitAt s u).side i h hx.side
    have e2 := c_slices_Clone p (by unfold Len; omega)
    have hr := roomI_iff h hx.side hi.1 (b := b)
    unfold pathsM
    have k1 : out.length + 1 ≤ 68719476736 := by simp at hol; omega
    by_cases h1 : RoomM b s (unitAt s u).side i
    · have h2 := hr.2 h1
      simp [xRun, a_impl_retreatsFrom, n0, r1, r2, Unit.enc, e0, e1, h2, h1, e2, rowsOf, rows_one, rows_length, k1, rows_append]
    · have h2 : ¬ 0 < roomI b s (unitAt s u).side i := fun hh => h1 (hr.1 hh)
      simp [xRun, a_impl_retreatsFrom, n0, r1, r2, Unit.enc, e0, e1, h2, h1]
  | n + 1, i, p, out, hn, hi, hpl, hol => by
    have ih := c_impl_retreatsFrom b s u hl h hu hp n
    refine callC p_impl_retreatsFrom rfl ?_
    have n0 : ¬ u < 0 := by have := hu.1; omega
    have r1 := at_lt (l := s.units) hu.1 hu.2
    have r2 := unit_row hu
    have hx := hu.ok h
    have hpo := (hx.on hp).ix h.board
    have hm := h.board.map.dim
    have e5 := c_impl_hexOf b.map (unitAt s u).pos hm hpo
    have e2 := c_slices_Clone p (by unfold Len; omega)
    have c0 : ¬ ((n : Int) + 1 = 0) := by omega
    have w0 : IntKind.i64.wrap ((n : Int) + 1 - 1) = n := by rw [wrap_small (by omega) (by omega)]; omega
    have w0' : IntKind.i64.wrap (n : Int) = n := wrap_small (by omega) (by omega)
    simp [xRun, a_impl_retreatsFrom, n0, r1, r2, Unit.enc, e5, c0]
    refine list_loop dirsL (by simp [dirsL]) (fun m (_ : Unit) => [(6, .own 0 1 (rowsOfL true (out ++ (dirsL.take m).flatMap fun d => if GoM b s u i d then pathsM b s u n (nextM b.map i d) (p ++ [d]) else []))), (46, I m)]) (fun _ _ => True) default (by simp) trivial ?_ ?_
    · intro N E m d z ha hlt hmm ht hwi _ hN hE
      rw [take_flat _ ht] at hN
      have hm6 : m < 6 := by simpa [dirsL] using hlt
      have hacc : (List.flatMap (fun d => if GoM b s u i d then pathsM b s u n (nextM b.map i d) (p ++ [d]) else []) (dirsL.take m)).length ≤ m * 6 ^ n := by
        have := flat_le (f := fun d => if GoM b s u i d then pathsM b s u n (nextM b.map i d) (p ++ [d]) else []) (k := 6 ^ n) (fun d => by
          split
          · exact pathsM_le b s u n _ _
          · simp) (dirsL.take m)
        have h2 : (dirsL.take m).length = m := by rw [List.length_take]; simp [dirsL]; omega
        rw [h2] at this
        exact this
      generalize List.flatMap (fun d => if GoM b s u i d then pathsM b s u n (nextM b.map i d) (p ++ [d]) else []) (dirsL.take m) = acc at *
      have hout : (out ++ acc).length + 6 ^ n ≤ 100000 := by
        rw [Nat.pow_succ] at hol
        have : m * 6 ^ n + 6 ^ n ≤ 6 ^ n * 6 := by
          have h3 : (m + 1) * 6 ^ n ≤ 6 * 6 ^ n := Nat.mul_le_mul_right _ (by omega)
          rw [Nat.add_mul] at h3; omega
        simp only [List.length_append]
        omega
      obtain ⟨rfl, g2, g3⟩ := dirs_at ha
      have e4 := c_impl_nextTo b.map i m hm (hi.ix h.board) g2
      have hto : nextM b.map i m < 0 ∨ On b (nextM b.map i m) := by
        by_cases hh : nextM b.map i m < 0
        · exact .inl hh
        · exact .inr (next_on h.board (by omega))
      have e3 := c_impl_canFallBack b s u (nextM b.map i m) hl h hu hto
      by_cases h1 : BackM b s u (nextM b.map i m)
      rotate_left
      · have hG : ¬ GoM b s u i m := fun hh => h1 hh.1
        simp only [if_neg hG, List.append_nil] at hN
        simp [bodyF, b_impl_retreatsFrom_0, g3, e4, e3, h1, hwi]
        exact hN _ z (by simp) trivial
      have hon := next_on h.board (a := i) (d := m) h1.1
      have e6 := c_impl_hexOf b.map (nextM b.map i m) hm (hon.ix h.board)
      have e7 := c_impl_hexOf b.map i hm (hi.ix h.board)
      have e8 := c_impl_hexD b.map hm (unitAt s u).pos (nextM b.map i m) hpo (hon.ix h.board)
      have e9 := c_impl_hexD b.map hm (unitAt s u).pos i hpo (hi.ix h.board)
      have hw9 : IntKind.i64.wrap (hexD b.map (unitAt s u).pos i + 1) = hexD b.map (unitAt s u).pos i + 1 := by
        have := hexD_le hm hpo (hi.ix h.board)
        exact wrap_small (by omega) (by omega)
      by_cases h2 : hexD b.map (unitAt s u).pos (nextM b.map i m) = hexD b.map (unitAt s u).pos i + 1
      rotate_left
      · have hG : ¬ GoM b s u i m := fun hh => h2 hh.2
        simp only [if_neg hG, List.append_nil] at hN
        simp [bodyF, b_impl_retreatsFrom_0, g3, e3, h1, e4, e6, e7, e8, e9, hw9, h2, hwi]
        exact hN _ z (by simp) trivial
      have hG : GoM b s u i m := ⟨h1, h2⟩
      simp only [if_pos hG, ← List.append_assoc] at hN
      have e10 := ih (nextM b.map i m) (p ++ [(m : Int)]) (out ++ acc) (by omega) hon (by simp; omega) hout
      have k1 : p.length + 1 ≤ 68719476736 := by omega
      generalize out ++ acc = oa at *
      simp [bodyF, b_impl_retreatsFrom_0, g3, e3, h1, e4, e6, e7, e8, e9, hw9, h2, hwi, e2, rowsOf, ints_length, k1, ints_snoc, w0, w0', e10]
      exact hN _ z (by simp) trivial
    · intro N E z _ hE
      rw [List.take_length]
      simp [bodyF, b_impl_retreatsFrom_0, dirsL]
      refine hE _ _ fun st => ?_
      simp [pathsM, dirsL]
theorem c_spec_gAll (b : Board) (s : State) (u : Int) (n : Nat) (hl : LenB b) (h : StateOK b s) (hu : Has s u) (hp : 0 ≤ (unitAt s u).pos) (hn : n ≤ 3) :
    C n_spec_gAll [BoardV false b, StateV false s, I u, I n] = some (Rows true 1 (rowsOfL true (pathsM b s u n (unitAt s u).pos []))) := by
  refine callC p_spec_gAll rfl ?_
  have n0 : ¬ u < 0 := by have := hu.1; omega
  have r1 := at_lt (l := s.units) hu.1 hu.2
  have r2 := unit_row hu
  have e : C n_spec_gPaths [BoardV false b, StateV false s, I u, I (unitAt s u).pos, I n, .val (.one (.list false 1 []))] = _ := c_spec_gPaths b s u hl h hu hp n (unitAt s u).pos [] hn ((hu.ok h).on hp) (by simp; omega)
  simp [xRun, a_spec_gAll, n0, r1, r2, Unit.enc, e]
theorem c_impl_retreatsOf (b : Board) (s : State) (u : Int) (n : Nat) (hl : LenB b) (h : StateOK b s) (hu : Has s u) (hp : 0 ≤ (unitAt s u).pos) (hn : n ≤ 3) :
    C n_impl_retreatsOf [BoardV false b, StateV false s, I u, I n] = some (Rows true 1 (rowsOfL true (pathsM b s u n (unitAt s u).pos []))) := by
  refine callC p_impl_retreatsOf rfl ?_
  have n0 : ¬ u < 0 := by have := hu.1; omega
  have r1 := at_lt (l := s.units) hu.1 hu.2
  have r2 := unit_row hu
  have h6 := pow6 hn
  have e : C n_impl_retreatsFrom [BoardV false b, StateV false s, I u, I (unitAt s u).pos, I n, .val (.one (.list false 1 [])), .val (.one (.list true 1 []))] = _ := c_impl_retreatsFrom b s u hl h hu hp n (unitAt s u).pos [] [] hn ((hu.ok h).on hp) (by simp; omega) (by simp; omega)
  rw [List.nil_append] at e
  simp [xRun, a_impl_retreatsOf, n0, r1, r2, Unit.enc, e]
/-- A retreat may be asked for. -/
def AskOK (b : Board) (s : State) (u n : Int) : Prop := (StateOK b s ∧ Has s u ∧ 0 ≤ (unitAt s u).pos) ∧ 1 ≤ n ∧ n ≤ 3
theorem c_spec_gAsked (b : Board) (s : State) (u n : Int) (hl : LenB b) (hs : Len s.units.length) : C n_spec_gAsked [BoardV false b, StateV false s, I u, I n] = some (Bo (decide (AskOK b s u n))) := by
  refine callC p_spec_gAsked rfl ?_
  have e1 := c_spec_fOn b s u hl hs
  by_cases h1 : StateOK b s ∧ Has s u ∧ 0 ≤ (unitAt s u).pos
  · by_cases h2 : 1 ≤ n ∧ n ≤ 3
    · have hP : AskOK b s u n := ⟨h1, h2⟩
      rw [decide_eq_true h1] at e1
      simp [xRun, a_spec_gAsked, e1, h2, hP]
    · have hP : ¬ AskOK b s u n := fun h => h2 h.2
      rw [decide_eq_true h1] at e1
      simp [xRun, a_spec_gAsked, e1, h2, hP]
  · have hP : ¬ AskOK b s u n := fun h => h1 h.1
    rw [decide_eq_false h1] at e1
    simp [xRun, a_spec_gAsked, e1, hP]
theorem c_impl_isRetreat (b : Board) (s : State) (u n : Int) (hl : LenB b) (hs : Len s.units.length) : C n_impl_isRetreat [BoardV false b, StateV false s, I u, I n] = some (Bo (decide (AskOK b s u n))) := by
  refine callC p_impl_isRetreat rfl ?_
  have e1 := c_impl_onMap b s u hl hs
  by_cases h1 : StateOK b s ∧ Has s u ∧ 0 ≤ (unitAt s u).pos
  · by_cases h2 : 1 ≤ n ∧ n ≤ 3
    · have hP : AskOK b s u n := ⟨h1, h2⟩
      rw [decide_eq_true h1] at e1
      simp [xRun, a_impl_isRetreat, e1, h2, hP]
    · have hP : ¬ AskOK b s u n := fun h => h2 h.2
      rw [decide_eq_true h1] at e1
      simp [xRun, a_impl_isRetreat, e1, h2, hP]
  · have hP : ¬ AskOK b s u n := fun h => h1 h.1
    rw [decide_eq_false h1] at e1
    simp [xRun, a_impl_isRetreat, e1, hP]
end Go.Abs.W
