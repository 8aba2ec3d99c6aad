import Derived.Test.YtdhkoobikheabaaGreatDoorB0
set_option linter.unusedSimpArgs false
set_option linter.unusedVariables false
set_option maxRecDepth 100000
set_option maxHeartbeats 2000000
namespace Go.Abs.W
open Go Go.Abs Classical
/-- Rows of which i are marked. -/
def mix {α : Type} (m : Nat → List D) (f : α → List D) (l : List α) (i : Nat) : List (List D) := (List.range i).map m ++ (l.drop i).map f
theorem mix_zero {α : Type} (m : Nat → List D) (f : α → List D) (l : List α) : mix m f l 0 = l.map f := by simp [mix]
theorem mix_end {α : Type} (m : Nat → List D) (f : α → List D) (l : List α) : mix m f l l.length = (List.range l.length).map m := by simp [mix]
theorem mix_len {α : Type} (m : Nat → List D) (f : α → List D) {l : List α} {i : Nat} (h : i ≤ l.length) : (mix m f l i).length = l.length := by simp [mix]; omega
theorem mix_at {α : Type} (m : Nat → List D) (f : α → List D) {l : List α} {i : Nat} {a : α} (h : l[i]? = some a) : (mix m f l i)[i]? = some (f a) := by
  have hi := (List.getElem?_eq_some_iff.1 h).1
  unfold mix
  rw [List.getElem?_append_right (by simp)]
  simp [h]
theorem mix_set {α : Type} (m : Nat → List D) (f : α → List D) {l : List α} {i : Nat} (h : i < l.length) : (mix m f l i).set i (m i) = mix m f l (i + 1) := by
  unfold mix
  rw [List.set_append_right _ _ (by simp), List.range_succ, List.map_append, List.append_assoc]
  congr 1
  rw [List.drop_eq_getElem_cons h, List.map_cons, List.length_map, List.length_range, Nat.sub_self, List.set_cons_zero]
  rfl
/-- A mark's bound. -/
def Mk (k : Int) (n : Nat) : Prop := 0 < k ∧ k + n ≤ 1000000000000
/-- The numbers from k. -/
def upI (k : Int) (n : Nat) : List Int := (List.range n).map fun (j : Nat) => k + (j : Int)
theorem ints_upI (k : Int) (n : Nat) : ints (upI k n) = (List.range n).map fun (j : Nat) => [D.int .i64 (k + j)] := by simp [ints, upI]
theorem c_laws_markIntS (l : List Int) (k : Int) (hl : Len l.length) (hk : Mk k l.length) :
    C n_laws_markIntS [Lo l, I k] = some (.tup [none, some (.one (.int .i64 (k + l.length))), some (.one (.list true 1 (ints (upI k l.length))))]) := by
  refine callC p_laws_markIntS rfl ?_
  simp [xRun, a_laws_markIntS]
  refine list_loop l (by unfold Len at hl; omega) (fun i (_ : Unit) => [(0, .own 0 1 (mix (fun (j : Nat) => [D.int .i64 (k + j)]) (fun n : Int => [D.int .i64 n]) l i)), (1, I (k + i)), (5, I i)]) (fun _ _ => True) default (by simp [mix_zero, ints]) trivial ?_ ?_
  · intro N E i a s ha hi hm ht hwi _ hN hE
    have hR := mix_at (fun (j : Nat) => [D.int .i64 (k + j)]) (fun n : Int => [D.int .i64 n]) ha
    have hRl := mix_len (fun (j : Nat) => [D.int .i64 (k + j)]) (fun n : Int => [D.int .i64 n]) (Nat.le_of_lt hi)
    have hset := mix_set (fun (j : Nat) => [D.int .i64 (k + j)]) (fun n : Int => [D.int .i64 n]) hi
    generalize mix (fun (j : Nat) => [D.int .i64 (k + j)]) (fun n : Int => [D.int .i64 n]) l i = R at *
    generalize mix (fun (j : Nat) => [D.int .i64 (k + j)]) (fun n : Int => [D.int .i64 n]) l (i + 1) = R' at *
    have hw : IntKind.i64.wrap (k + i + 1) = k + i + 1 := by unfold Mk at hk; unfold Len at hl; exact wrap_small (by omega) (by omega)
    simp [bodyF, b_laws_markIntS_0, hRl, hi, hR, at_of hR, hset, hw, hwi]
    exact hN _ s (by simp; omega) trivial
  · intro N E s _ hE
    have hRl := mix_len (fun (j : Nat) => [D.int .i64 (k + j)]) (fun n : Int => [D.int .i64 n]) (Nat.le_refl l.length)
    have he := mix_end (fun (j : Nat) => [D.int .i64 (k + j)]) (fun n : Int => [D.int .i64 n]) l
    generalize mix (fun (j : Nat) => [D.int .i64 (k + j)]) (fun n : Int => [D.int .i64 n]) l l.length = R at *
    simp [bodyF, b_laws_markIntS_0, hRl]
    refine hE _ _ fun st => ?_
    simp [ints_upI, he, flatD]
/-- A marked Unit. -/
def mUnit (k : Int) (j : Nat) : List D := [D.int .i64 (k + ((4 * j : Nat) : Int)), D.int .i64 (k + ((4 * j : Nat) : Int) + 1), D.int .i64 (k + ((4 * j : Nat) : Int) + 2), D.int .i64 (k + ((4 * j : Nat) : Int) + 3)]
theorem c_laws_markUnitS (l : List Unit) (k : Int) (hl : Len l.length) (hk : Mk k (4 * l.length)) :
    C n_laws_markUnitS [Rows true 4 (l.map Unit.enc), I k] = some (.tup [none, some (.one (.int .i64 (k + (4 * l.length : Nat)))), some (.one (.list true 4 ((List.range l.length).map (mUnit k))))]) := by
  refine callC p_laws_markUnitS rfl ?_
  simp [xRun, a_laws_markUnitS]
  refine list_loop l (by unfold Len at hl; omega) (fun i (_ : Unit) => [(0, .own 0 4 (mix (mUnit k) Unit.enc l i)), (1, I (k + (4 * i : Nat))), (5, I i)]) (fun _ _ => True) default (by simp [mix_zero]) trivial ?_ ?_
  · intro N E i a s ha hi hm ht hwi _ hN hE
    have hR := mix_at (mUnit k) Unit.enc ha
    have hRl := mix_len (mUnit k) Unit.enc (Nat.le_of_lt hi)
    have hset := mix_set (mUnit k) Unit.enc hi
    generalize mix (mUnit k) Unit.enc l i = R at *
    generalize mix (mUnit k) Unit.enc l (i + 1) = R' at *
    rw [show mUnit k i = [D.int .i64 (k + ((4 * i : Nat) : Int)), D.int .i64 (k + ((4 * i : Nat) : Int) + 1), D.int .i64 (k + ((4 * i : Nat) : Int) + 2), D.int .i64 (k + ((4 * i : Nat) : Int) + 3)] from rfl] at hset
    rw [show k + ((4 * (i + 1) : Nat) : Int) = k + ((4 * i : Nat) : Int) + 4 by omega] at hN
    have hb : 0 < k + ((4 * i : Nat) : Int) ∧ k + ((4 * i : Nat) : Int) ≤ 1000000000000 := by unfold Mk at hk; omega
    generalize k + ((4 * i : Nat) : Int) = K at *
    have w0 : IntKind.i64.wrap (K + 1) = K + 1 := (wrap_small (by omega) (by omega)).trans (by omega)
    have w1 : IntKind.i64.wrap (K + 1 + 1) = K + 2 := (wrap_small (by omega) (by omega)).trans (by omega)
    have w2 : IntKind.i64.wrap (K + 2 + 1) = K + 3 := (wrap_small (by omega) (by omega)).trans (by omega)
    have w3 : IntKind.i64.wrap (K + 3 + 1) = K + 4 := (wrap_small (by omega) (by omega)).trans (by omega)
    rw [Unit.enc] at hR
    simp [bodyF, b_laws_markUnitS_0, hRl, hi, hR, at_of hR, hset, w0, w1, w2, w3, hwi]
    exact hN _ s (by simp) trivial
  · intro N E s _ hE
    have hRl := mix_len (mUnit k) Unit.enc (Nat.le_refl l.length)
    have he := mix_end (mUnit k) Unit.enc l
    generalize mix (mUnit k) Unit.enc l l.length = R at *
    simp [bodyF, b_laws_markUnitS_0, hRl]
    refine hE _ _ fun st => ?_
    simp [he, flatD]
theorem c_laws_markState (s : State) (k : Int) (hl : Len s.units.length) (hk : Mk k (4 * s.units.length)) :
    C n_laws_markState [StateV true s, I k] = some (.tup [none, some (.one (.int .i64 (k + (4 * s.units.length : Nat)))), some (.agg [.int .i64 s.turn, .int .i64 s.weather, .list true 4 ((List.range s.units.length).map (mUnit k))])]) := by
  refine callC p_laws_markState rfl ?_
  have e1 := c_laws_markUnitS s.units k hl hk
  simp [xRun, a_laws_markState, e1, flatD]
end Go.Abs.W
set_option linter.unusedSimpArgs false
set_option linter.unusedVariables false
set_option maxRecDepth 100000
set_option maxHeartbeats 2000000
namespace Go.Abs.W
open Go Go.Abs Classical
theorem markText_some (k : Int) (hk : Mk k 0) : ∃ s : ByteArray, C n_laws_markText [I k] = some (St s) := by
  have h0 : ¬ k ≤ 0 := by unfold Mk at hk; omega
  have key : ∃ s : ByteArray, xRun (callF prog hand glob) glob a_laws_markText [I k] = some (St s) := by
    simp [xRun, a_laws_markText, h0]
    refine while_loopP (P := fun o => ∃ s : ByteArray, o = some (St s)) (fun s : Int × ByteArray => [(0, I s.1), (3, St s.2)]) (fun s => 0 ≤ s.1 ∧ (s.2.size : Int) + s.1 ≤ 1000000000000) (fun s => s.1.toNat) (k, ⟨#[]⟩) (by simp) (by unfold Mk at hk; exact ⟨by show 0 ≤ k; omega, by show ((0 : Nat) : Int) + k ≤ _; omega⟩) ?_
    intro N E s ⟨hs1, hs2⟩ hN hE
    obtain ⟨m, out⟩ := s
    dsimp only at hs1 hs2
    by_cases hm : 0 < m
    · have w1 : IntKind.i64.wrap (48 + m.tmod 10) = 48 + m.tmod 10 := by
        have h1 : 0 ≤ m.tmod 10 := Int.tmod_nonneg _ hs1
        have h2 : m.tmod 10 < 10 := Int.tmod_lt_of_pos _ (by omega)
        exact wrap_small (by omega) (by omega)
      have w2 : IntKind.i64.wrap (m.tdiv 10) = m / 10 := by
        rw [Int.tdiv_eq_ediv_of_nonneg hs1]; exact wrap_small (by omega) (by omega)
      have h3 : 1 + out.size ≤ 1099511627776 := by omega
      simp [bodyF, b_laws_markText_0, hm, w1, w2, rowsOf, h3, ByteArray.size_push]
      refine hN _ (m / 10, _) (by simp; rfl) ⟨by simp; omega, ?_⟩ (by simp; omega)
      simp [ByteArray.size_push]
      omega
    · simp [bodyF, b_laws_markText_0, hm]
      refine hE _ _ fun st => ?_
      have h3 : 1 + out.size ≤ 1099511627776 := by omega
      have h4 : (ByteArray.mk #[109]).size = 1 := rfl
      simp [h3, h4]
  obtain ⟨s, hs⟩ := key
  exact ⟨s, callC p_laws_markText rfl hs⟩
noncomputable def markT (k : Int) : ByteArray := if h : Mk k 0 then (markText_some k h).choose else ⟨#[]⟩
theorem c_laws_markText (k : Int) (hk : Mk k 0) : C n_laws_markText [I k] = some (St (markT k)) := by
  unfold markT
  rw [dif_pos hk]
  exact (markText_some k hk).choose_spec
/-- A marked kind. -/
noncomputable def mKind (k : Int) (j : Nat) : List D := [D.str (markT (k + ((6 * j : Nat) : Int))), D.int .i64 (k + ((6 * j : Nat) : Int) + 1), D.int .i64 (k + ((6 * j : Nat) : Int) + 2), D.int .i64 (k + ((6 * j : Nat) : Int) + 3), D.bool (decide ((k + ((6 * j : Nat) : Int) + 4).tmod 3 = 0)), D.int .i64 (k + ((6 * j : Nat) : Int) + 5)]
theorem c_laws_markKindS (l : List Kind) (k : Int) (hl : Len l.length) (hk : Mk k (6 * l.length)) :
    C n_laws_markKindS [Rows true 6 (l.map Kind.enc), I k] = some (.tup [none, some (.one (.int .i64 (k + (6 * l.length : Nat)))), some (.one (.list true 6 ((List.range l.length).map (mKind k))))]) := by
  refine callC p_laws_markKindS rfl ?_
  simp [xRun, a_laws_markKindS]
  refine list_loop l (by unfold Len at hl; omega) (fun i (_ : Unit) => [(0, .own 0 6 (mix (mKind k) Kind.enc l i)), (1, I (k + (6 * i : Nat))), (5, I i)]) (fun _ _ => True) default (by simp [mix_zero]) trivial ?_ ?_
  · intro N E i a s ha hi hm ht hwi _ hN hE
    have hR := mix_at (mKind k) Kind.enc ha
    have hRl := mix_len (mKind k) Kind.enc (Nat.le_of_lt hi)
    have hset := mix_set (mKind k) Kind.enc hi
    generalize mix (mKind k) Kind.enc l i = R at *
    generalize mix (mKind k) Kind.enc l (i + 1) = R' at *
    rw [mKind] at hset
    rw [show k + ((6 * (i + 1) : Nat) : Int) = k + ((6 * i : Nat) : Int) + 6 by omega] at hN
    have hb : 0 < k + ((6 * i : Nat) : Int) ∧ k + ((6 * i : Nat) : Int) + 6 ≤ 1000000000000 := by unfold Mk at hk; omega
    generalize k + ((6 * i : Nat) : Int) = K at *
    have e1 := c_laws_markText K (by unfold Mk; omega)
    have w0 : IntKind.i64.wrap (K + 1) = K + 1 := (wrap_small (by omega) (by omega)).trans (by omega)
    have w1 : IntKind.i64.wrap (K + 1 + 1) = K + 2 := (wrap_small (by omega) (by omega)).trans (by omega)
    have w2 : IntKind.i64.wrap (K + 2 + 1) = K + 3 := (wrap_small (by omega) (by omega)).trans (by omega)
    have w3 : IntKind.i64.wrap (K + 3 + 1) = K + 4 := (wrap_small (by omega) (by omega)).trans (by omega)
    have w4 : IntKind.i64.wrap (K + 4 + 1) = K + 5 := (wrap_small (by omega) (by omega)).trans (by omega)
    have w5 : IntKind.i64.wrap (K + 5 + 1) = K + 6 := (wrap_small (by omega) (by omega)).trans (by omega)
    rw [Kind.enc] at hR
    have hb3 : ((K + 4).tmod 3 == 0) = decide ((K + 4).tmod 3 = 0) := by by_cases h3 : (K + 4).tmod 3 = 0 <;> simp [h3]
    generalize (decide ((K + 4).tmod 3 = 0)) = db at *
    simp [bodyF, b_laws_markKindS_0, hRl, hi, hR, at_of hR, hset, w0, w1, w2, w3, w4, w5, hwi, e1, hb3]
    exact hN _ s (by simp) trivial
  · intro N E s _ hE
    have hRl := mix_len (mKind k) Kind.enc (Nat.le_refl l.length)
    have he := mix_end (mKind k) Kind.enc l
    generalize mix (mKind k) Kind.enc l l.length = R at *
    simp [bodyF, b_laws_markKindS_0, hRl]
    refine hE _ _ fun st => ?_
    simp [he, flatD]
/-- How far the marks of terrains go. -/
def cT (l : List Terrain) : Nat := (l.map fun t => 4 + t.cost.length).sum
theorem cT_nil : cT [] = 0 := rfl
theorem cT_snoc (l : List Terrain) (t : Terrain) : cT (l ++ [t]) = cT l + (4 + t.cost.length) := by simp [cT]
theorem cT_take (l : List Terrain) (i : Nat) : cT (l.take i) ≤ cT l := by
  conv => rhs; rw [← List.take_append_drop i l]
  unfold cT
  rw [List.map_append, List.sum_append]
  omega
/-- A marked terrain; the marked terrains. -/
noncomputable def mTerrain (K : Int) (t : Terrain) : List D := [D.str (markT K), D.list true 1 (ints (upI (K + 1) t.cost.length)), D.int .i64 (K + 1 + t.cost.length), D.int .i64 (K + 1 + t.cost.length + 1), D.bool (decide ((K + 1 + t.cost.length + 2).tmod 3 = 0))]
noncomputable def mTs (k : Int) : List Terrain → List (List D)
  | [] => []
  | t :: l => mTerrain k t :: mTs (k + (4 + t.cost.length : Nat)) l
theorem mTs_snoc (k : Int) (l : List Terrain) (t : Terrain) : mTs k (l ++ [t]) = mTs k l ++ [mTerrain (k + cT l) t] := by
  induction l generalizing k with
  | nil => simp [mTs, cT_nil]
  | cons x l ih =>
    simp only [List.cons_append, mTs, ih]
    congr 4
    simp [cT]; omega
theorem mTs_length (k : Int) (l : List Terrain) : (mTs k l).length = l.length := by
  induction l generalizing k with
  | nil => rfl
  | cons x l ih => simp [mTs, ih]
theorem c_laws_markTerrainS (l : List Terrain) (k : Int) (hl : Len l.length) (hls : ∀ t ∈ l, LenT t) (hk : Mk k (cT l)) :
    C n_laws_markTerrainS [Rows true 5 (l.map (Terrain.enc true)), I k] = some (.tup [none, some (.one (.int .i64 (k + cT l))), some (.one (.list true 5 (mTs k l)))]) := by
  refine callC p_laws_markTerrainS rfl ?_
  simp [xRun, a_laws_markTerrainS]
  refine list_loop l (by unfold Len at hl; omega) (fun i (_ : Unit) => [(0, .own 0 5 (mTs k (l.take i) ++ (l.drop i).map (Terrain.enc true))), (1, I (k + cT (l.take i))), (5, I i)]) (fun _ _ => True) default (by simp [mTs, cT_nil]) trivial ?_ ?_
  · intro N E i a s ha hi hm ht hwi _ hN hE
    rw [ht, mTs_snoc, cT_snoc] at hN
    have hcb := cT_take l (i + 1)
    rw [ht, cT_snoc] at hcb
    have hlen : (mTs k (l.take i)).length = i := by rw [mTs_length, List.length_take]; omega
    have hd : l.drop i = a :: l.drop (i + 1) := by rw [List.drop_eq_getElem_cons hi, at_of ha]
    have hR : (mTs k (l.take i) ++ (l.drop i).map (Terrain.enc true))[i]? = some (Terrain.enc true a) := by
      rw [List.getElem?_append_right (by omega), hlen, Nat.sub_self, hd]; rfl
    have hRl : (mTs k (l.take i) ++ (l.drop i).map (Terrain.enc true)).length = l.length := by
      rw [List.length_append, hlen, List.length_map, List.length_drop]; omega
    have hset : ∀ row, (mTs k (l.take i) ++ (l.drop i).map (Terrain.enc true)).set i row = mTs k (l.take i) ++ [row] ++ (l.drop (i + 1)).map (Terrain.enc true) := by
      intro row
      rw [List.set_append_right _ _ (by omega), hlen, Nat.sub_self, hd, List.map_cons, List.set_cons_zero, List.append_assoc]; rfl
    have hN' : ∀ e', trim [0, 1, 5] e' = _ → N e' := fun e' he => hN e' s he trivial
    clear hN
    generalize mTs k (l.take i) ++ (l.drop i).map (Terrain.enc true) = R at *
    have hK : k + ((cT (l.take i) + (4 + a.cost.length) : Nat) : Int) = k + cT (l.take i) + 1 + a.cost.length + 3 := by omega
    rw [hK] at hN'
    have hb : 0 < k + cT (l.take i) ∧ k + cT (l.take i) + (4 + a.cost.length) ≤ 1000000000000 := by unfold Mk at hk; omega
    generalize k + (cT (l.take i) : Int) = K at *
    have e1 := c_laws_markText K (by unfold Mk; omega)
    have e2 := c_laws_markIntS a.cost (K + 1) (hls a hm).2 (by unfold Mk; omega)
    have w0 : IntKind.i64.wrap (K + 1) = K + 1 := wrap_small (by omega) (by omega)
    rw [Terrain.enc] at hR
    unfold mTerrain at hN'
    generalize hn : K + 1 + (a.cost.length : Int) = n at *
    have w1 : IntKind.i64.wrap (n + 1) = n + 1 := wrap_small (by omega) (by omega)
    have w2 : IntKind.i64.wrap (n + 1 + 1) = n + 2 := (wrap_small (by omega) (by omega)).trans (by omega)
    have w3 : IntKind.i64.wrap (n + 2 + 1) = n + 3 := (wrap_small (by omega) (by omega)).trans (by omega)
    have hb3 : ((n + 2).tmod 3 == 0) = decide ((n + 2).tmod 3 = 0) := by by_cases h3 : (n + 2).tmod 3 = 0 <;> simp [h3]
    generalize (decide ((n + 2).tmod 3 = 0)) = db at *
    simp (config := { maxSteps := 2000000 }) [bodyF, b_laws_markTerrainS_0, hRl, hi, hR, at_of hR, w0, w1, w2, w3, hwi, e1, e2, hb3]
    exact hN' _ (by simp [hset])
  · intro N E s _ hE
    have hRl := mTs_length k l
    rw [List.take_length, List.drop_length]
    simp [bodyF, b_laws_markTerrainS_0, hRl]
    refine hE _ _ fun st => ?_
    simp [flatD]
end Go.Abs.W
set_option linter.unusedSimpArgs false
set_option linter.unusedVariables false
set_option maxRecDepth 100000
set_option maxHeartbeats 2000000
namespace Go.Abs.W
open Go Go.Abs Classical
/-- How far the marks of rules, of a map go. -/
def cR (r : Rules) : Nat := cT r.terrains + 6 * r.kinds.length
def cM (m : Map) : Nat := m.terrain.length + m.rivers.length + m.roads.length
noncomputable def mRules (k : Int) (r : Rules) : List D := [.list true 5 (mTs k r.terrains), .list true 6 ((List.range r.kinds.length).map (mKind (k + cT r.terrains))), .int .i64 r.stack, .int .i64 r.river, .int .i64 r.road, .int .i64 r.supply, .int .i64 r.turns]
noncomputable def mMap (k : Int) (m : Map) : List D := [.int .i64 m.width, .int .i64 m.height, .list true 1 (ints (upI k m.terrain.length)), .list true 1 (ints (upI (k + m.terrain.length) m.rivers.length)), .list true 1 (ints (upI (k + m.terrain.length + m.rivers.length) m.roads.length))]
theorem c_laws_markRules (r : Rules) (k : Int) (hl : LenR r) (hk : Mk k (cR r)) : C n_laws_markRules [RulesV true r, I k] = some (.tup [none, some (.one (.int .i64 (k + cR r))), some (.agg (mRules k r))]) := by
  refine callC p_laws_markRules rfl ?_
  have e1 := c_laws_markTerrainS r.terrains k hl.ts hl.t (by unfold Mk cR at *; omega)
  have e2 := c_laws_markKindS r.kinds (k + cT r.terrains) hl.ks (by unfold Mk cR at *; omega)
  have hh : k + (cR r : Int) = k + cT r.terrains + ((6 * r.kinds.length : Nat) : Int) := by unfold cR; omega
  rw [hh]
  generalize k + (cT r.terrains : Int) + ((6 * r.kinds.length : Nat) : Int) = q at *
  simp [xRun, a_laws_markRules, e1, e2, flatD, mRules]
theorem c_laws_markMap (m : Map) (k : Int) (hl : LenM m) (hk : Mk k (cM m)) : C n_laws_markMap [MapV true m, I k] = some (.tup [none, some (.one (.int .i64 (k + cM m))), some (.agg (mMap k m))]) := by
  refine callC p_laws_markMap rfl ?_
  have e1 := c_laws_markIntS m.terrain k hl.t (by unfold Mk cM at *; omega)
  have e2 := c_laws_markIntS m.rivers (k + m.terrain.length) hl.v (by unfold Mk cM at *; omega)
  have e3 := c_laws_markIntS m.roads (k + m.terrain.length + m.rivers.length) hl.d (by unfold Mk cM at *; omega)
  have hh : k + (cM m : Int) = k + m.terrain.length + m.rivers.length + m.roads.length := by unfold cM; omega
  rw [hh]
  simp [xRun, a_laws_markMap, e1, e2, e3, flatD, mMap]
theorem c_laws_markBoard (b : Board) (k : Int) (hl : LenB b) (hk : Mk k (cR b.rules + cM b.map)) : C n_laws_markBoard [BoardV true b, I k] = some (.tup [none, some (.one (.int .i64 (k + (cR b.rules + cM b.map : Nat)))), some (.agg (mRules k b.rules ++ mMap (k + cR b.rules) b.map))]) := by
  refine callC p_laws_markBoard rfl ?_
  have e1 := c_laws_markRules b.rules k hl.r (by unfold Mk at *; omega)
  have e2 := c_laws_markMap b.map (k + cR b.rules) hl.m (by unfold Mk at *; omega)
  have hh : k + ((cR b.rules + cM b.map : Nat) : Int) = k + cR b.rules + cM b.map := by omega
  rw [hh]
  unfold mRules at *
  unfold mMap at *
  simp [xRun, a_laws_markBoard, e1, e2, flatD]
theorem cT_le (l : List Terrain) : cT l ≤ 4 * l.length + sumN cntT l := by
  induction l with
  | nil => simp [cT]
  | cons t l ih =>
    have h1 : cT (t :: l) = 4 + t.cost.length + cT l := by simp [cT]
    have h2 : sumN cntT (t :: l) = cntT t + sumN cntT l := by rw [show t :: l = [t] ++ l from rfl, sumN_app, sumN_one]
    have h3 : t.cost.length ≤ cntT t := by unfold cntT; omega
    rw [h1, h2, List.length_cons]; omega
theorem marks_le (b : Board) : cR b.rules + cM b.map ≤ 10 * cntB b := by
  have := cT_le b.rules.terrains
  unfold cR cM cntB cntR cntM
  omega
end Go.Abs.W
