import Derived.Test.YtijnjfcblkbdbaaGreatDoorB11
import Derived.Test.YtijnjfcblkbdbaaGreatDoorB8
set_option linter.unusedSimpArgs false
set_option linter.unusedVariables false
set_option maxRecDepth 100000
set_option maxHeartbeats 2000000
namespace Go.Abs.W
open Go Go.Abs Classical
attribute [-simp] Bool.decide_and
def headB (s : Int) : List UInt8 := [115, 105, 100, 101] ++ 32 :: Lib.itoa s
def bodyB (o : Order) : List UInt8 := Lib.itoa o.unit ++ 32 :: (digitsB o.path ++ 32 :: placeB o.attack)
theorem lineB_body (o : Order) : lineB o = bodyB o ++ [10] := by simp [lineB, bodyB]
theorem sheetB_eq (x : Sheet) : sheetB x = headB x.side ++ 10 :: x.orders.flatMap lineB := by simp [sheetB, headB]
theorem notin_itoa (n : Int) (h : 0 ≤ n) (c : UInt8) (hc : c.toNat < 48) : c ∉ Lib.itoa n := by
  obtain ⟨k, rfl⟩ : ∃ k : Nat, n = k := ⟨n.toNat, by omega⟩
  rw [itoa_nat]
  exact notin_dec k c hc
theorem notin_digits {p : List Int} (hp : PathOK p) (c : UInt8) (hc : c.toNat < 45) : c ∉ digitsB p := by
  unfold digitsB
  split
  · intro hh
    rw [List.mem_singleton] at hh
    subst hh
    have h45 : (45 : UInt8).toNat = 45 := rfl
    omega
  · intro hh
    obtain ⟨d, hd, hh⟩ := List.mem_flatMap.1 hh
    exact notin_itoa d (hp.2 d hd).1 c (by omega) hh
theorem notin_place {i : Int} (c : UInt8) (hc : c.toNat < 45) : c ∉ placeB i := by
  unfold placeB
  split
  · intro hh
    rw [List.mem_singleton] at hh
    subst hh
    have h45 : (45 : UInt8).toNat = 45 := rfl
    omega
  · exact notin_itoa i (by omega) c (by omega)
theorem h10 : (10 : UInt8).toNat = 10 := rfl
theorem h32 : (32 : UInt8).toNat = 32 := rfl
theorem notin_head {s : Int} (h : 0 ≤ s) : (10 : UInt8) ∉ headB s := by
  unfold headB
  intro hh
  rcases List.mem_append.1 hh with hh | hh
  · revert hh; decide
  · rcases List.mem_cons.1 hh with hh | hh
    · revert hh; decide
    · exact notin_itoa s h 10 (by rw [h10]; omega) hh
theorem notin_body {o : Order} (h : OrdT o) : (10 : UInt8) ∉ bodyB o := by
  unfold bodyB
  intro hh
  rcases List.mem_append.1 hh with hh | hh
  · exact notin_itoa _ h.unit.1 10 (by rw [h10]; omega) hh
  · rcases List.mem_cons.1 hh with hh | hh
    · revert hh; decide
    · rcases List.mem_append.1 hh with hh | hh
      · exact notin_digits h.path 10 (by rw [h10]; omega) hh
      · rcases List.mem_cons.1 hh with hh | hh
        · revert hh; decide
        · exact notin_place 10 (by rw [h10]; omega) hh
theorem cut_lines (l : List Order) (h : ∀ o ∈ l, OrdT o) : cutAt 10 (l.flatMap lineB) = l.map bodyB ++ [[]] := by
  induction l with
  | nil => rfl
  | cons o l ih =>
    rw [List.flatMap_cons, lineB_body, List.append_assoc]
    show cutAt 10 (bodyB o ++ 10 :: l.flatMap lineB) = _
    rw [cutAt_append 10 _ _ (notin_body (h o (by simp))), ih fun e he => h e (by simp [he])]
    rfl
theorem cut_sheet (x : Sheet) (hs : 0 ≤ x.side) (h : ∀ o ∈ x.orders, OrdT o) : cutAt 10 (sheetB x) = headB x.side :: (x.orders.map bodyB ++ [[]]) := by
  rw [sheetB_eq, cutAt_append 10 _ _ (notin_head hs), cut_lines _ h]
theorem cut_head {s : Int} (h : 0 ≤ s) : cutAt 32 (headB s) = [[115, 105, 100, 101], Lib.itoa s] := by
  unfold headB
  rw [cutAt_append 32 _ _ (by decide), cutAt_none 32 _ (notin_itoa s h 32 (by rw [h32]; omega))]
theorem cut_body {o : Order} (h : OrdT o) : cutAt 32 (bodyB o) = [Lib.itoa o.unit, digitsB o.path, placeB o.attack] := by
  unfold bodyB
  rw [cutAt_append 32 _ _ (notin_itoa _ h.unit.1 32 (by rw [h32]; omega)), cutAt_append 32 _ _ (notin_digits h.path 32 (by rw [h32]; omega)), cutAt_none 32 _ (notin_place 32 (by rw [h32]; omega))]
theorem readP_itoa {n : Int} (h0 : 0 ≤ n) (h1 : n < 1000000) : readP (Lib.itoa n) = n := by
  obtain ⟨k, rfl⟩ : ∃ k : Nat, n = k := ⟨n.toNat, by omega⟩
  rw [itoa_nat]
  exact readP_dec k (by omega)
theorem rdI_itoa {n : Int} (h0 : 0 ≤ n) (h1 : n < 1000000) : rdI (Lib.itoa n) = (n, true) := by
  obtain ⟨k, rfl⟩ : ∃ k : Nat, n = k := ⟨n.toNat, by omega⟩
  rw [itoa_nat]
  exact rdI_dec k (by omega)
theorem itoa_no45 {n : Int} (h0 : 0 ≤ n) : ¬ Lib.itoa n = [45] := fun hh => by
  have h45 : (45 : UInt8).toNat = 45 := rfl
  exact notin_itoa n h0 45 (by rw [h45]; omega) (by rw [hh]; simp)
theorem readP_minus : readP [45] = -1 := by
  unfold readP
  rw [if_neg]
  rintro ⟨_, _, h⟩
  have := h 45 (by simp)
  unfold Dig at this
  have h45 : (45 : UInt8).toNat = 45 := rfl
  omega
theorem ordS_body {o : Order} (h : OrdT o) : ordS (bodyB o) = some o := by
  have hp : pathB (digitsB o.path) = o.path := pathB_digits h.path.2
  have ha : readP (placeB o.attack) = o.attack := by
    unfold placeB
    have := h.attack
    split
    · rw [readP_minus]; omega
    · exact readP_itoa (by omega) (by omega)
  unfold ordS
  rw [cut_body h]
  dsimp only
  rw [readP_itoa h.unit.1 h.unit.2, hp, ha]
theorem ordI_body {o : Order} (h : OrdT o) : ordI (bodyB o) = (o, true) := by
  have hp : pathB (digitsB o.path) = o.path := pathB_digits h.path.2
  have hatt := h.attack
  unfold ordI
  rw [cut_body h]
  dsimp only
  rw [rdI_itoa h.unit.1 h.unit.2, hp]
  unfold placeB
  by_cases hc : o.attack < 0
  · have : o.attack = -1 := by omega
    rw [if_pos hc]
    cases o; simp_all
  · rw [if_neg hc, if_neg (itoa_no45 (by omega)), if_neg (itoa_no45 (by omega)), rdI_itoa (by omega) (by omega)]
    rfl
theorem wordsI_head {s : Int} (h0 : 0 ≤ s) (h1 : s ≤ 1) : wordsI (headB s) = ([s], true) := by
  unfold wordsI
  rw [cut_head h0]
  dsimp only
  have hr := rdI_itoa h0 (by omega)
  rw [if_pos ⟨rfl, fun w hw => by rw [List.mem_singleton] at hw; subst hw; rw [hr]⟩]
  simp [hr]
/-- The lines between the first and the last. -/
def midL (l : List UInt8) : List (List UInt8) := ((cutAt 10 l).drop 1).dropLast
/-- The sheet that the reference reads. -/
noncomputable def backS (l : List UInt8) : Sheet := ⟨readP ((cutAt 32 ((cutAt 10 l).headD [])).getLastD []), (midL l).filterMap ordS⟩
theorem mid_sheet (x : Sheet) (hs : 0 ≤ x.side) (h : ∀ o ∈ x.orders, OrdT o) : midL (sheetB x) = x.orders.map bodyB := by
  unfold midL
  rw [cut_sheet x hs h, List.drop_succ_cons, List.drop_zero, List.dropLast_concat]
theorem back_sheet (x : Sheet) (hs : 0 ≤ x.side ∧ x.side ≤ 1) (h : ∀ o ∈ x.orders, OrdT o) : backS (sheetB x) = x := by
  have h2 : (x.orders.map bodyB).filterMap ordS = x.orders := by
    rw [List.filterMap_map]
    have : ∀ l : List Order, (∀ o ∈ l, OrdT o) → l.filterMap (ordS ∘ bodyB) = l := by
      intro l
      induction l with
      | nil => intro _; rfl
      | cons o l ih =>
        intro hl
        rw [List.filterMap_cons, show (ordS ∘ bodyB) o = some o from ordS_body (hl o (by simp)), ih fun e he => hl e (by simp [he])]
    exact this _ h
  unfold backS
  rw [mid_sheet x hs.1 h, cut_sheet x hs.1 h, h2, List.headD_cons, cut_head hs.1]
  show (⟨readP (Lib.itoa x.side), x.orders⟩ : Sheet) = x
  rw [readP_itoa hs.1 (by omega)]
def ParOK (b : Board) (s : State) (l : List UInt8) : Prop := StateOK b s ∧ SheetOK b s (backS l) ∧ sheetB (backS l) = l
noncomputable def parR (b : Board) (s : State) (l : List UInt8) : Sheet := if ParOK b s l then backS l else ⟨0, []⟩
theorem sheet_parts {b : Board} {s : State} {x : Sheet} (h : StateOK b s) (hx : SheetOK b s x) : (0 ≤ x.side ∧ x.side ≤ 1) ∧ ∀ o ∈ x.orders, OrdT o := ⟨hx.1.1, sheet_ordT h hx⟩
theorem par_of {b : Board} {s : State} {x : Sheet} {l : List UInt8} (h : StateOK b s) (hx : SheetOK b s x) (ht : sheetB x = l) : ParOK b s l ∧ parR b s l = x := by
  obtain ⟨h1, h2⟩ := sheet_parts h hx
  have hb : backS l = x := by rw [← ht]; exact back_sheet x h1 h2
  have hp : ParOK b s l := ⟨h, by rw [hb]; exact hx, by rw [hb]; exact ht⟩
  refine ⟨hp, ?_⟩
  unfold parR
  rw [if_pos hp, hb]
theorem par_no {b : Board} {s : State} {l : List UInt8} (h : ¬ ParOK b s l) : parR b s l = ⟨0, []⟩ := if_neg h
/-- What a good text's lines tell. -/
theorem par_mid {b : Board} {s : State} {l : List UInt8} (h : ParOK b s l) : midL l = (parR b s l).orders.map bodyB ∧ (cutAt 10 l).headD [] = headB (parR b s l).side ∧ (0 ≤ (parR b s l).side ∧ (parR b s l).side ≤ 1) ∧ ∀ o ∈ (parR b s l).orders, OrdT o := by
  have hr : parR b s l = backS l := if_pos h
  rw [hr]
  obtain ⟨h1, h2, h3⟩ := h
  obtain ⟨g1, g2⟩ := sheet_parts h1 h2
  refine ⟨?_, ?_, g1, g2⟩
  · conv => lhs; rw [← h3]
    exact mid_sheet _ g1.1 g2
  · conv => lhs; rw [← h3]
    rw [cut_sheet _ g1.1 g2]; rfl
end Go.Abs.W
