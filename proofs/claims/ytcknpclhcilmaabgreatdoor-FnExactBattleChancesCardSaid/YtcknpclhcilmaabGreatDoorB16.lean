import Derived.Test.YtcknpclhcilmaabGreatDoorB9
import Derived.Test.YtcknpclhcilmaabGreatDoorB2
set_option linter.unusedSimpArgs false
set_option linter.unusedVariables false
set_option maxRecDepth 100000
set_option maxHeartbeats 2000000
namespace Go.Abs.W
open Go Go.Abs Classical
attribute [-simp] Bool.decide_and
theorem ints_set (l : List Int) (k : Nat) (n : Int) : (ints l).set k [D.int .i64 n] = ints (l.set k n) := by simp [ints, List.map_set]
/-- How many throws of the dice give the row. -/
def waysM (d : Int) (i : Nat) : Int := if d = 1 then 1 else 6 - absM ((i : Int) - 5)
/-- The counts of the results behind the first rows. -/
noncomputable def cntsU (t : CombatTable) (c : Int) : Nat → List Int
  | 0 => List.replicate 8 0
  | n + 1 => (cntsU t c n).set (resultM t (t.dice + n) c).toNat (at' (cntsU t c n) (resultM t (t.dice + n) c) + waysM t.dice n)
theorem cntsU_len (t : CombatTable) (c : Int) (n : Nat) : (cntsU t c n).length = 8 := by
  induction n with
  | zero => simp [cntsU]
  | succ n ih => simp [cntsU, ih]
theorem waysM_le {d : Int} {i : Nat} (hd : 1 ≤ d ∧ d ≤ 2) (hi : (i : Int) ≤ 5 * d) : 0 ≤ waysM d i ∧ waysM d i ≤ 6 := by
  unfold waysM absM
  split
  · omega
  · split <;> omega
theorem res_in {t : CombatTable} {roll c : Int} (h : InCol t c) (hr : RollOK t roll) : 0 ≤ resultM t roll c ∧ resultM t roll c ≤ 7 := by
  obtain ⟨g1, g2, g3, g4, g5⟩ := roll_row h hr
  exact (h.1.row _ (List.mem_of_getElem? g3)).2 _ (List.mem_of_getElem? g4)
theorem roll_ok {t : CombatTable} {c : Int} {n : Nat} (h : InCol t c) (hn : (n : Int) ≤ 5 * t.dice) : RollOK t (t.dice + n) := ⟨by omega, by omega⟩
theorem cntsU_mem {t : CombatTable} {c : Int} (h : InCol t c) (n : Nat) (hn : (n : Int) ≤ 5 * t.dice + 1) : ∀ x ∈ cntsU t c n, 0 ≤ x ∧ x ≤ 6 * n := by
  have hd := h.1.dice
  induction n with
  | zero =>
    intro x hx
    have : x = 0 := List.eq_of_mem_replicate hx
    omega
  | succ n ih =>
    have ih := ih (by omega)
    have hr := roll_ok (n := n) h (by omega)
    have hk := res_in h hr
    have hl := cntsU_len t c n
    have hw := waysM_le (d := t.dice) (i := n) hd (by omega)
    have ha := ih _ (List.mem_of_getElem? (at_some (l := cntsU t c n) hk.1 (by omega)))
    intro x hx
    unfold cntsU at hx
    rcases List.mem_or_eq_of_mem_set hx with hx | hx
    · have := ih x hx; omega
    · omega
theorem c_spec_kWays (d : Int) (n : Nat) (hd : 1 ≤ d ∧ d ≤ 2) (hn : (n : Int) ≤ 10) : C n_spec_kWays [I d, I (d + n)] = some (I (waysM d n)) := by
  refine callC p_spec_kWays rfl ?_
  by_cases h1 : d = 1
  · subst h1
    simp [xRun, a_spec_kWays, waysM]
  · obtain rfl : d = 2 := by omega
    have w1 : IntKind.i64.wrap (2 + (n : Int) - 7) = (n : Int) - 5 := by rw [wrap_small (by omega) (by omega)]; omega
    have e := c_spec_l1Abs ((n : Int) - 5) (by omega)
    have w2 : IntKind.i64.wrap (6 - absM ((n : Int) - 5)) = 6 - absM ((n : Int) - 5) := by unfold absM; exact wrap_small (by split <;> omega) (by split <;> omega)
    simp [xRun, a_spec_kWays, waysM, w1, e, w2]
theorem c_impl_waysFor (t : CombatTable) (n : Nat) (hd : 1 ≤ t.dice ∧ t.dice ≤ 2) (hn : (n : Int) ≤ 10) : C n_impl_waysFor [CombatTableV false t, I n] = some (I (waysM t.dice n)) := by
  refine callC p_impl_waysFor rfl ?_
  by_cases h1 : t.dice = 1
  · simp [xRun, a_impl_waysFor, waysM, h1]
  · have w1 : IntKind.i64.wrap ((n : Int) - 5) = (n : Int) - 5 := wrap_small (by omega) (by omega)
    have e := c_impl_absOf ((n : Int) - 5) (by omega)
    have w2 : IntKind.i64.wrap (6 - absM ((n : Int) - 5)) = 6 - absM ((n : Int) - 5) := by unfold absM; exact wrap_small (by split <;> omega) (by split <;> omega)
    simp [xRun, a_impl_waysFor, waysM, h1, w1, e, w2]
theorem c_spec_kCounts (t : CombatTable) (c : Int) (h : InCol t c) : C n_spec_kCounts [CombatTableV false t, I c] = some (Lo (cntsU t c t.results.length)) := by
  refine callC p_spec_kCounts rfl ?_
  have hd := h.1.dice
  have hrs := h.1.rs
  have w0 : IntKind.i64.wrap (6 * t.dice) = 6 * t.dice := wrap_small (by omega) (by omega)
  simp [xRun, a_spec_kCounts]
  refine list_loop t.results (by omega) (fun i (_ : Unit) => [(5, .own 0 1 (ints (cntsU t c i))), (6, I (t.dice + i))]) (fun _ _ => True) default (by simp [cntsU, ints]) trivial ?_ ?_
  · intro N E i a z ha hi hm ht hwi _ hN hE
    have hr := roll_ok (n := i) h (by omega)
    have e1 := c_spec_kResult t (t.dice + i) c h hr
    have e2 := c_spec_kWays t.dice i hd (by omega)
    have hk := res_in h hr
    have hlen := cntsU_len t c i
    have hat := at_some (l := cntsU t c i) hk.1 (by omega)
    have hb := cntsU_mem h i (by omega) _ (List.mem_of_getElem? hat)
    have hw := waysM_le (d := t.dice) (i := i) hd (by omega)
    have hle : t.dice + (i : Int) ≤ 6 * t.dice := by omega
    have w1 : IntKind.i64.wrap (t.dice + (i : Int) + 1) = t.dice + ((i + 1 : Nat) : Int) := by rw [wrap_small (by omega) (by omega)]; omega
    have w2 : IntKind.i64.wrap (at' (cntsU t c i) (resultM t (t.dice + i) c) + waysM t.dice i) = at' (cntsU t c i) (resultM t (t.dice + i) c) + waysM t.dice i := wrap_small (by omega) (by omega)
    have hset : (ints (cntsU t c i)).set (resultM t (t.dice + i) c).toNat [D.int .i64 (at' (cntsU t c i) (resultM t (t.dice + i) c) + waysM t.dice i)] = ints (cntsU t c (i + 1)) := ints_set ..
    have hr8 : (resultM t (t.dice + i) c).toNat < 8 := by omega
    have n0 : ¬ resultM t (t.dice + i) c < 0 := by omega
    have hle2 : (ints (cntsU t c i)).length = 8 := by rw [ints_length]; exact hlen
    have i1 := ints_at hat
    have i2 := ints_get hat
    generalize at' (cntsU t c i) (resultM t (t.dice + i) c) = v at *
    generalize resultM t (t.dice + i) c = R at *
    generalize waysM t.dice i = W at *
    generalize ints (cntsU t c (i + 1)) = L2 at *
    generalize ints (cntsU t c i) = L at *
    simp [bodyF, b_spec_kCounts_0, w0, hle, e1, e2, hle2, n0, hr8, i1, i2, w2, hset, w1]
    exact hN _ z (by simp) trivial
  · intro N E z _ hE
    have hgt : ¬ t.dice + (t.results.length : Int) ≤ 6 * t.dice := by omega
    simp [bodyF, b_spec_kCounts_0, w0, hgt]
    exact hE _ _ fun st => by simp
theorem c_impl_CountResults (t : CombatTable) (c : Int) (gt : LenTable t) (h : InCol t c) : C n_impl_CountResults [CombatTableV false t, I c] = some (.tup [some (.one (.list true 1 (ints (cntsU t c t.results.length)))), some (.one (.bool true))]) := by
  refine callC p_impl_CountResults rfl ?_
  have e0 := c_impl_isColumn t c gt
  rw [decide_eq_true h] at e0
  have hd := h.1.dice
  have hrs := h.1.rs
  have hc := h.2
  have nc : ¬ c < 0 := by omega
  simp [xRun, a_impl_CountResults, e0]
  refine list_loop t.results (by omega) (fun i (_ : Unit) => [(6, .own 0 1 (ints (cntsU t c i))), (17, I i)]) (fun _ _ => True) default (by simp [cntsU, ints]) trivial ?_ ?_
  · intro N E i a z ha hi hm ht hwi _ hN hE
    have hr := roll_ok (n := i) h (by omega)
    have e2 := c_impl_waysFor t i hd (by omega)
    have hk := res_in h hr
    have hlen := cntsU_len t c i
    have hat := at_some (l := cntsU t c i) hk.1 (by omega)
    have hb := cntsU_mem h i (by omega) _ (List.mem_of_getElem? hat)
    have hw := waysM_le (d := t.dice) (i := i) hd (by omega)
    obtain ⟨g1, g2, g3, g4, g5⟩ := roll_row h hr
    rw [show t.dice + (i : Int) - t.dice = (i : Int) by omega, Int.toNat_natCast, ha] at g3
    rw [show t.dice + (i : Int) - t.dice = (i : Int) by omega] at g4 g5
    rw [← Option.some.inj g3] at g4 g5
    have w2 : IntKind.i64.wrap (at' (cntsU t c i) (resultM t (t.dice + i) c) + waysM t.dice i) = at' (cntsU t c i) (resultM t (t.dice + i) c) + waysM t.dice i := wrap_small (by omega) (by omega)
    have hset : (ints (cntsU t c i)).set (resultM t (t.dice + i) c).toNat [D.int .i64 (at' (cntsU t c i) (resultM t (t.dice + i) c) + waysM t.dice i)] = ints (cntsU t c (i + 1)) := ints_set ..
    have hr8 : (resultM t (t.dice + i) c).toNat < 8 := by omega
    have n0 : ¬ resultM t (t.dice + i) c < 0 := by omega
    have hle2 : (ints (cntsU t c i)).length = 8 := by rw [ints_length]; exact hlen
    have i1 := ints_at hat
    have i2 := ints_get hat
    clear g3 e0
    generalize at' (cntsU t c i) (resultM t (t.dice + i) c) = v at *
    generalize resultM t (t.dice + i) c = R at *
    generalize waysM t.dice i = W at *
    generalize ints (cntsU t c (i + 1)) = L2 at *
    generalize ints (cntsU t c i) = L at *
    simp [bodyF, b_impl_CountResults_0, rows_length, hi, rows_at ha, rows_get ha, nc, ints_length, g5, ints_at g4, ints_get g4, e2, hle2, n0, hr8, i1, i2, w2, hset, hwi]
    exact hN _ z (by simp [rows_length]) trivial
  · intro N E z _ hE
    simp [bodyF, b_impl_CountResults_0, rows_length]
    exact hE _ _ fun st => by simp
noncomputable def chR (b : Board) (s : State) (t : CombatTable) (x : Battle) : List Int := if ColOK b s t x then cntsU t (columnM b s t x) t.results.length else []
theorem chR_len {b : Board} {s : State} {t : CombatTable} {x : Battle} : Len (chR b s t x).length := by
  unfold chR
  split
  · rw [cntsU_len]; unfold Len; decide
  · unfold Len; simp
theorem c_spec_BattleChances (b : Board) (s : State) (t : CombatTable) (x : Battle) (gb : LenB b) (gs : Len s.units.length) (gt : LenTable t) (gx : LenBattle x) : C n_spec_BattleChances [BoardV false b, StateV false s, CombatTableV false t, BattleV false x] = some (.tup [some (.one (.list true 1 (ints (chR b s t x)))), some (.one (.bool (decide (ColOK b s t x))))]) := by
  refine callC p_spec_BattleChances rfl ?_
  have e1 := c_spec_aGood b s x gb gs gx
  have e2 := c_spec_kGood t gt
  unfold chR
  by_cases h2 : TableOK t
  · by_cases h : StateOK b s ∧ BattleOK b s x
    · rw [decide_eq_true h] at e1
      have hP : ColOK b s t x := ⟨h, h2⟩
      have e3 := c_spec_aColumn b s t x gb h.1 h.2 gx h2
      have e4 := c_spec_kCounts t (columnM b s t x) (columnM_in h2)
      simp [xRun, a_spec_BattleChances, e1, e2, h2, hP, e3, e4]
    · have hP : ¬ ColOK b s t x := fun hh => h hh.1
      rw [decide_eq_false h] at e1
      simp [xRun, a_spec_BattleChances, e1, e2, h2, hP, ints_nil]
  · have hP : ¬ ColOK b s t x := fun hh => h2 hh.2
    simp [xRun, a_spec_BattleChances, e2, h2, hP, ints_nil]
theorem c_impl_BattleChances (b : Board) (s : State) (t : CombatTable) (x : Battle) (gb : LenB b) (gs : Len s.units.length) (gt : LenTable t) (gx : LenBattle x) : C n_impl_BattleChances [BoardV false b, StateV false s, CombatTableV false t, BattleV false x] = some (.tup [some (.one (.list true 1 (ints (chR b s t x)))), some (.one (.bool (decide (ColOK b s t x))))]) := by
  refine callC p_impl_BattleChances rfl ?_
  have e1 := c_impl_BattleColumn b s t x gb gs gt gx
  unfold chR
  by_cases h : ColOK b s t x
  · simp only [if_pos h, decide_eq_true h] at e1
    have e2 := c_impl_CountResults t (columnM b s t x) gt (columnM_in h.2)
    simp [xRun, a_impl_BattleChances, e1, e2, h]
  · simp only [if_neg h, decide_eq_false h] at e1
    simp [xRun, a_impl_BattleChances, e1, h, ints_nil]
end Go.Abs.W
