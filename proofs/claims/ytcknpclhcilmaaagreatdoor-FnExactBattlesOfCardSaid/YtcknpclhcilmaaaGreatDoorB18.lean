import Derived.Test.YtcknpclhcilmaaaGreatDoorB0
set_option linter.unusedSimpArgs false
set_option linter.unusedVariables false
set_option maxRecDepth 100000
set_option maxHeartbeats 2000000
namespace Go.Abs.W
open Go Go.Abs Classical
attribute [-simp] Bool.decide_and
/-- How many numbers at the front are less. -/
def frontL (l : List Int) (n : Int) : Nat := (l.takeWhile fun x => decide (x < n)).length
def putL (l : List Int) (n : Int) : List Int := if l[frontL l n]? = some n then l else l.take (frontL l n) ++ [n] ++ l.drop (frontL l n)
theorem frontL_le (l : List Int) (n : Int) : frontL l n ≤ l.length := (List.takeWhile_sublist _).length_le
theorem frontL_lt {l : List Int} {n : Int} {i : Nat} {x : Int} (hi : i < frontL l n) (hx : l[i]? = some x) : x < n := by
  induction l generalizing i with
  | nil => cases hx
  | cons y l ih =>
    unfold frontL at hi ih
    rw [List.takeWhile_cons] at hi
    split at hi
    · rename_i hy
      cases i with
      | zero => simp at hx; subst hx; simpa using hy
      | succ i => exact ih (by simpa using hi) (by simpa using hx)
    · simp at hi
theorem frontL_at {l : List Int} {n : Int} {x : Int} (hx : l[frontL l n]? = some x) : ¬ x < n := by
  induction l with
  | nil => cases hx
  | cons y l ih =>
    unfold frontL at hx ih
    rw [List.takeWhile_cons] at hx
    split at hx
    · exact ih (by simpa using hx)
    · rename_i hy
      simp at hx; subst hx
      simpa using hy
theorem c_spec_l1Put (l : List Int) (n : Int) (hl : l.length ≤ 1048576) : C n_spec_l1Put [Lo l, I n] = some (Lo (putL l n)) := by
  refine callC p_spec_l1Put rfl ?_
  have hle := frontL_le l n
  simp [xRun, a_spec_l1Put]
  refine while_loop (fun k : Nat => [(5, I k)]) (fun k => k ≤ frontL l n) (fun k => frontL l n - k) 0 (by simp) (by simp) ?_
  intro N E k hk hN hE
  have w1 : IntKind.i64.wrap ((k : Int) + 1) = ((k + 1 : Nat) : Int) := by rw [wrap_small (by omega) (by omega)]; omega
  by_cases h1 : k < l.length
  · obtain ⟨x, hx⟩ : ∃ x, l[k]? = some x := ⟨l[k], List.getElem?_eq_getElem h1⟩
    by_cases h2 : x < n
    · have h3 : k < frontL l n := by
        rcases Nat.lt_or_ge k (frontL l n) with hh | hh
        · exact hh
        · obtain rfl : k = frontL l n := by omega
          exact absurd h2 (frontL_at hx)
      simp [bodyF, b_spec_l1Put_0, ints_length, h1, ints_at hx, ints_get hx, h2, w1]
      exact hN _ (k + 1) (by simp) (by omega) (by omega)
    · have h3 : k = frontL l n := by
        rcases Nat.lt_or_ge k (frontL l n) with hh | hh
        · exact absurd (frontL_lt hh hx) h2
        · omega
      simp [bodyF, b_spec_l1Put_0, ints_length, h1, ints_at hx, ints_get hx, h2]
      refine hE _ _ fun st => ?_
      unfold putL
      rw [← h3, hx]
      by_cases h4 : x = n
      · subst h4
        simp [ints_length, h1, ints_at hx, ints_get hx]
      · have h5 : ¬ some x = some n := fun hh => h4 (Option.some.inj hh)
        rw [if_neg h5]
        have c1 : (k : Int) ≤ l.length := by omega
        have c4 : (List.take k l).length = k := by rw [List.length_take]; omega
        have c5 : (List.drop k l).length = l.length - k := List.length_drop ..
        have i1 : (ints l).take k = ints (l.take k) := by simp [ints]
        have i2 : (ints l).drop k = ints (l.drop k) := by simp [ints]
        have i3 : (ints (l.drop k)).take (l.length - k) = ints (l.drop k) := List.take_of_length_le (by rw [ints_length]; omega)
        have d1 : k ≤ 68719476736 := by omega
        have d2 : k + 1 ≤ 68719476736 := by omega
        have d3 : k + 1 + (l.length - k) ≤ 68719476736 := by omega
        have d4 : ints (l.take k) ++ [D.int .i64 n] :: ints (l.drop k) = ints (l.take k ++ n :: l.drop k) := by simp [ints]
        simp [ints_length, h1, ints_at hx, ints_get hx, h4, rowsOf, c1, i1, i2, i3, c4, c5, d1, d2, d3, d4]
  · have h3 : k = l.length := by omega
    subst h3
    have h5 : frontL l n = l.length := by omega
    have hno : l[l.length]? = none := by simp
    simp [bodyF, b_spec_l1Put_0, ints_length]
    refine hE _ _ fun st => ?_
    unfold putL
    rw [h5, hno, if_neg (by simp)]
    have i3 : (ints l).take l.length = ints l := List.take_of_length_le (by rw [ints_length]; omega)
    have i4 : (ints l).drop l.length = [] := List.drop_of_length_le (by rw [ints_length]; omega)
    have d1 : l.length ≤ 68719476736 := by omega
    have d2 : l.length + 1 ≤ 68719476736 := by omega
    have d4 : ints l ++ [[D.int .i64 n]] = ints (l ++ [n]) := ints_snoc l n
    simp [ints_length, rowsOf, i3, i4, d1, d2, d4]
end Go.Abs.W
