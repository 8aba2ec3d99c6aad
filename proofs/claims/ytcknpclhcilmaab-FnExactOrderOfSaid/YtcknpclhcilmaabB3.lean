import Derived.Test.YtcknpclhcilmaabB0
set_option linter.unusedSimpArgs false
set_option linter.unusedVariables false
set_option maxRecDepth 100000
set_option maxHeartbeats 2000000
namespace Go.Abs.W
open Go Go.Abs Classical
/-- Rows of which i are marked. -/
def mix {α : Type} (m : Nat → List D) (f : α → List D) (l : List α) (i : Nat) : List (List D) := (List.range i).map m ++ (l.drop i).map f
theorem mix_zero {α : Type} (m : Nat → List D) (f : α → List D) (l : List α) : mix m f l 0 = l.map f := by simp [mix]
theorem mix_end {α : Type} (m : Nat → List D) (f : α → List D) (l : List α) : mix m f l l.length = (List.range l.length).map m := by simp [mix]
theorem mix_len {α : Type} (m : Nat → List D) (f : α → List D) {l : List α} {i : Nat} (h : i ≤ l.length) : (mix m f l i).length = l.length := by simp [mix]; omega
theorem mix_at {α : Type} (m : Nat → List D) (f : α → List D) {l : List α} {i : Nat} {a : α} (h : l[i]? = some a) : (mix m f l i)[i]? = some (f a) := by
  have hi := (List.getElem?_eq_some_iff.1 h).1
  unfold mix
  rw [List.getElem?_append_right (by simp)]
  simp [h]
theorem mix_set {α : Type} (m : Nat → List D) (f : α → List D) {l : List α} {i : Nat} (h : i < l.length) : (mix m f l i).set i (m i) = mix m f l (i + 1) := by
  unfold mix
  rw [List.set_append_right _ _ (by simp), List.range_succ, List.map_append, List.append_assoc]
  congr 1
  rw [List.drop_eq_getElem_cons h, List.map_cons, List.length_map, List.length_range, Nat.sub_self, List.set_cons_zero]
  rfl
/-- A mark's bound. -/
def Mk (k : Int) (n : Nat) : Prop := 0 < k ∧ k + n ≤ 1000000000000
/-- The numbers from k. -/
def upI (k : Int) (n : Nat) : List Int := (List.range n).map fun (j : Nat) => k + (j : Int)
theorem ints_upI (k : Int) (n : Nat) : ints (upI k n) = (List.range n).map fun (j : Nat) => [D.int .i64 (k + j)] := by simp [ints, upI]
theorem c_laws_markIntS (l : List Int) (k : Int) (hl : Len l.length) (hk : Mk k l.length) :
    C n_laws_markIntS [Lo l, I k] = some (.tup [none, some (.one (.int .i64 (k + l.length))), some (.one (.list true 1 (ints (upI k l.length))))]) := by
  refine callC p_laws_markIntS rfl ?_
  simp [xRun, a_laws_markIntS]
  refine list_loop l (by unfold Len at hl; omega) (fun i (_ : Unit) => [(0, .own 0 1 (mix (fun (j : Nat) => [D.int .i64 (k + j)]) (fun n : Int => [D.int .i64 n]) l i)), (1, I (k + i)), (5, I i)]) (fun _ _ => True) default (by simp [mix_zero, ints]) trivial ?_ ?_
  · intro N E i a s ha hi hm ht hwi _ hN hE
    have hR := mix_at (fun (j : Nat) => [D.int .i64 (k + j)]) (fun n : Int => [D.int .i64 n]) ha
    have hRl := mix_len (fun (j : Nat) => [D.int .i64 (k + j)]) (fun n : Int => [D.int .i64 n]) (Nat.le_of_lt hi)
    have hset := mix_set (fun (j : Nat) => [D.int .i64 (k + j)]) (fun n : Int => [D.int .i64 n]) hi
    generalize mix (fun (j : Nat) => [D.int .i64 (k + j)]) (fun n : Int => [D.int .i64 n]) l i = R at *
    generalize mix (fun (j : Nat) => [D.int .i64 (k + j)]) (fun n : Int => [D.int .i64 n]) l (i + 1) = R' at *
    have hw : IntKind.i64.wrap (k + i + 1) = k + i + 1 := by unfold Mk at hk; unfold Len at hl; exact wrap_small (by omega) (by omega)
    simp [bodyF, b_laws_markIntS_0, hRl, hi, hR, at_of hR, hset, hw, hwi]
    exact hN _ s (by simp; omega) trivial
  · intro N E s _ hE
    have hRl := mix_len (fun (j : Nat) => [D.int .i64 (k + j)]) (fun n : Int => [D.int .i64 n]) (Nat.le_refl l.length)
    have he := mix_end (fun (j : Nat) => [D.int .i64 (k + j)]) (fun n : Int => [D.int .i64 n]) l
    generalize mix (fun (j : Nat) => [D.int .i64 (k + j)]) (fun n : Int => [D.int .i64 n]) l l.length = R at *
    simp [bodyF, b_laws_markIntS_0, hRl]
    refine hE _ _ fun st => ?_
    simp [ints_upI, he, flatD]
theorem c_laws_heldIntS (k : Int) (n : Nat) (hl : Len n) (hk : Mk k n) : C n_laws_heldIntS [Li (upI k n), I k] = some (I (k + n)) := by
  refine callC p_laws_heldIntS rfl ?_
  have hn : (upI k n).length = n := by simp [upI]
  simp [xRun, a_laws_heldIntS]
  refine list_loop (upI k n) (by rw [hn]; unfold Len at hl; omega) (fun i (_ : Unit) => [(1, I (k + i)), (5, I i)]) (fun _ _ => True) default (by simp) trivial ?_ ?_
  · intro N E i a s ha hi hm ht hwi _ hN hE
    have hak : a = k + i := by
      unfold upI at ha
      rw [List.getElem?_map] at ha
      obtain ⟨j, hj, rfl⟩ := Option.map_eq_some_iff.1 ha
      have := (List.getElem?_eq_some_iff.1 hj).2
      simp at this
      rw [← this]
    subst hak
    rw [hn] at hi
    have hw : IntKind.i64.wrap (k + i + 1) = k + i + 1 := by unfold Mk at hk; unfold Len at hl; exact wrap_small (by omega) (by omega)
    simp [bodyF, b_laws_heldIntS_0, ints_length, hn, hi, ints_get ha, hw, hwi]
    exact hN _ s (by simp; omega) trivial
  · intro N E s _ hE
    rw [hn]
    simp [bodyF, b_laws_heldIntS_0, ints_length, hn]
    exact hE _ _ fun st => by simp
/-- A marked Unit. -/
def mUnit (k : Int) (j : Nat) : List D := [D.int .i64 (k + ((4 * j : Nat) : Int)), D.int .i64 (k + ((4 * j : Nat) : Int) + 1), D.int .i64 (k + ((4 * j : Nat) : Int) + 2), D.int .i64 (k + ((4 * j : Nat) : Int) + 3)]
end Go.Abs.W
set_option linter.unusedSimpArgs false
set_option linter.unusedVariables false
set_option maxRecDepth 100000
set_option maxHeartbeats 2000000
namespace Go.Abs.W
open Go Go.Abs Classical
/-- How far the marks of terrains go. -/
def cT (l : List Terrain) : Nat := (l.map fun t => 4 + t.cost.length).sum
theorem cT_nil : cT [] = 0 := rfl
theorem cT_snoc (l : List Terrain) (t : Terrain) : cT (l ++ [t]) = cT l + (4 + t.cost.length) := by simp [cT]
theorem cT_take (l : List Terrain) (i : Nat) : cT (l.take i) ≤ cT l := by
  conv => rhs; rw [← List.take_append_drop i l]
  unfold cT
  rw [List.map_append, List.sum_append]
  omega
end Go.Abs.W
set_option linter.unusedSimpArgs false
set_option linter.unusedVariables false
set_option maxRecDepth 100000
set_option maxHeartbeats 2000000
namespace Go.Abs.W
open Go Go.Abs Classical
/-- How far the marks of rules, of a map go. -/
def cR (r : Rules) : Nat := cT r.terrains + 6 * r.kinds.length
def cM (m : Map) : Nat := m.terrain.length + m.rivers.length + m.roads.length
noncomputable def mMap (k : Int) (m : Map) : List D := [.int .i64 m.width, .int .i64 m.height, .list true 1 (ints (upI k m.terrain.length)), .list true 1 (ints (upI (k + m.terrain.length) m.rivers.length)), .list true 1 (ints (upI (k + m.terrain.length + m.rivers.length) m.roads.length))]
theorem cT_le (l : List Terrain) : cT l ≤ 4 * l.length + sumN cntT l := by
  induction l with
  | nil => simp [cT]
  | cons t l ih =>
    have h1 : cT (t :: l) = 4 + t.cost.length + cT l := by simp [cT]
    have h2 : sumN cntT (t :: l) = cntT t + sumN cntT l := by rw [show t :: l = [t] ++ l from rfl, sumN_app, sumN_one]
    have h3 : t.cost.length ≤ cntT t := by unfold cntT; omega
    rw [h1, h2, List.length_cons]; omega
theorem marks_le (b : Board) : cR b.rules + cM b.map ≤ 10 * cntB b := by
  have := cT_le b.rules.terrains
  unfold cR cM cntB cntR cntM
  omega
end Go.Abs.W
