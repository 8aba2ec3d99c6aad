import Derived.Test.YtdhkoobikheabaaGreatDoorB0
set_option linter.unusedSimpArgs false
set_option linter.unusedVariables false
set_option maxRecDepth 100000
set_option maxHeartbeats 2000000
namespace Go.Abs.W
open Go Go.Abs Classical
attribute [-simp] Bool.decide_and
abbrev AttemptsV (o : Bool) (l : List Attempt) : AV := Rows o 3 (l.map Attempt.enc)
/-- One attempt is good. -/
def TryOK (b : Board) (s : State) (a : Attempt) : Prop := Has s a.unit ∧ 0 ≤ a.src ∧ (unitAt s a.unit).pos = a.src ∧ 0 ≤ a.dst ∧ 0 ≤ dirTo b.map a.src a.dst ∧ ¬ stepM b (unitAt s a.unit).kind s.weather a.src (dirTo b.map a.src a.dst) = 0
/-- The units of attempts rise. -/
def IncA (l : List Attempt) : Prop := ∀ (i : Nat) a b, l[i]? = some a → l[i + 1]? = some b → a.unit < b.unit
def AttsOK (b : Board) (s : State) (l : List Attempt) : Prop := (∀ a ∈ l, TryOK b s a) ∧ IncA l
/-- The state of a loop that looks at each attempt and at the one in front of it. -/
def AttsUpto (b : Board) (s : State) (l : List Attempt) (i : Nat) : Prop := (∀ a ∈ l.take i, TryOK b s a) ∧ ∀ (j : Nat) a c, j + 1 < i → l[j]? = some a → l[j + 1]? = some c → a.unit < c.unit
theorem AttsUpto.zero {b : Board} {s : State} {l : List Attempt} : AttsUpto b s l 0 := ⟨by simp, fun j a c h => by omega⟩
theorem AttsUpto.next {b : Board} {s : State} {l : List Attempt} {i : Nat} {a : Attempt} (h : AttsUpto b s l i) (ha : l[i]? = some a) (ht : l.take (i + 1) = l.take i ++ [a]) (hok : TryOK b s a) (hp : ∀ k p, k + 1 = i → l[k]? = some p → p.unit < a.unit) : AttsUpto b s l (i + 1) := by
  refine ⟨fun x hx => ?_, fun j x y hj hx hy => ?_⟩
  · rw [ht] at hx; simp at hx
    rcases hx with hx | rfl
    · exact h.1 x hx
    · exact hok
  · by_cases hji : j + 1 = i
    · subst hji
      rw [ha] at hy; obtain rfl := Option.some.inj hy
      exact hp j x rfl hx
    · exact h.2 j x y (by omega) hx hy
theorem AttsUpto.all {b : Board} {s : State} {l : List Attempt} (h : AttsUpto b s l l.length) : AttsOK b s l := by
  refine ⟨by simpa using h.1, fun i x y hx hy => h.2 i x y (by have := (List.getElem?_eq_some_iff.1 hy).1; omega) hx hy⟩
end Go.Abs.W
