import Derived.Test.YtcknpclhcilmaaaGreatDoorB19
set_option linter.unusedSimpArgs false
set_option linter.unusedVariables false
set_option maxRecDepth 100000
set_option maxHeartbeats 2000000
namespace Go.Abs.W
open Go Go.Abs Classical
attribute [-simp] Bool.decide_and
theorem frontL_all {T : List Int} {k : Int} (h : ∀ x ∈ T, x < k) : frontL T k = T.length := by
  unfold frontL
  induction T with
  | nil => rfl
  | cons y T ih =>
    rw [List.takeWhile_cons, if_pos (by simpa using h y (List.mem_cons_self ..)), List.length_cons, ih fun x hx => h x (List.mem_cons_of_mem _ hx), List.length_cons]
theorem frontL_snoc {T : List Int} {k : Int} (h : ∀ x ∈ T, x < k) : frontL (T ++ [k]) k = T.length := by
  unfold frontL
  induction T with
  | nil => simp
  | cons y T ih =>
    rw [List.cons_append, List.takeWhile_cons, if_pos (by simpa using h y (List.mem_cons_self ..)), List.length_cons, ih fun x hx => h x (List.mem_cons_of_mem _ hx), List.length_cons]
theorem putL_new {T : List Int} {k : Int} (h : ∀ x ∈ T, x < k) : putL T k = T ++ [k] := by
  unfold putL
  rw [frontL_all h]; simp
theorem putL_old {T : List Int} {k : Int} (h : ∀ x ∈ T, x < k) : putL (T ++ [k]) k = T ++ [k] := by
  unfold putL
  rw [frontL_snoc h, if_pos (by simp)]
def CondS (b : Board) (s : State) (i : Int) (u : Unit) : Prop := ownerM s i = 1 - u.side ∧ 0 ≤ sideM b.map i u.pos
/-- The attackers of a hex among the first units, by the spec. -/
noncomputable def attS (b : Board) (s : State) (l : List Attack) (i : Int) : Nat → List Int
  | 0 => []
  | n + 1 => match s.units[n]? with
    | some u => if CondS b s i u ∧ AskedA l n i then attS b s l i n ++ [(n : Int)] else attS b s l i n
    | none => attS b s l i n
theorem attS_lt (b : Board) (s : State) (l : List Attack) (i : Int) (n : Nat) : ∀ x ∈ attS b s l i n, x < n := by
  induction n with
  | zero => simp [attS]
  | succ n ih =>
    intro x hx
    unfold attS at hx
    split at hx
    · split at hx
      · rcases List.mem_append.1 hx with hx | hx
        · have := ih x hx; omega
        · simp at hx; omega
      · have := ih x hx; omega
    · have := ih x hx; omega
theorem attS_le (b : Board) (s : State) (l : List Attack) (i : Int) (n : Nat) : (attS b s l i n).length ≤ n := by
  induction n with
  | zero => simp [attS]
  | succ n ih =>
    unfold attS
    split
    · split
      · rw [List.length_append]; simp; omega
      · omega
    · omega
noncomputable def midS (b : Board) (s : State) (l : List Attack) (i : Int) (n : Nat) (u : Unit) (j : Nat) : List Int := if CondS b s i u ∧ AskedA (l.take j) n i then attS b s l i n ++ [(n : Int)] else attS b s l i n
noncomputable def battleS (b : Board) (s : State) (l : List Attack) (i : Nat) : Battle := ⟨i, attS b s l i s.units.length, unitsIn s i (ownerM s i)⟩
noncomputable def battlesS (b : Board) (s : State) (l : List Attack) : Nat → List Battle
  | 0 => []
  | n + 1 => if (battleS b s l n).attackers = [] then battlesS b s l n else battlesS b s l n ++ [battleS b s l n]
theorem battlesS_le (b : Board) (s : State) (l : List Attack) (n : Nat) : (battlesS b s l n).length ≤ n := by
  induction n with
  | zero => simp [battlesS]
  | succ n ih =>
    unfold battlesS
    split
    · omega
    · rw [List.length_append]; simp; omega
theorem near_iff {b : Board} {i : Int} {u : Unit} : Near b i u ↔ 0 ≤ sideM b.map i u.pos := by
  unfold Near sideM dirTo
  rw [firstIx_pos, firstIx_pos]
  constructor
  · rintro ⟨h0, d, hd, h1⟩; exact ⟨d, hd, by omega, h1⟩
  · rintro ⟨d, hd, h1, h2⟩; exact ⟨by omega, d, hd, h2⟩
/-- Both tell the same battles. -/
theorem battles_same {b : Board} {s : State} (h : StateOK b s) (l : List Attack) (n : Nat) : battlesS b s l n = battlesU b s l n := by
  have key : ∀ (i : Nat), (ixs (fun u : Unit => u.pos = (i : Int)) s.units = [] → ∀ m, attS b s l i m = []) ∧ (¬ ixs (fun u : Unit => u.pos = (i : Int)) s.units = [] → ∀ m, attS b s l i m = attU b s l i m) := by
    intro i
    have hown := units_own h (i := (i : Int)) (by omega)
    constructor
    · intro he m
      have hno : ∀ x ∈ s.units, ¬ x.pos = (i : Int) := by
        intro x hx hp
        obtain ⟨k, hk⟩ := List.mem_iff_getElem?.1 hx
        have : (k : Int) ∈ ixs (fun u : Unit => u.pos = (i : Int)) s.units := mem_ixs.2 ⟨k, x, rfl, hk, hp⟩
        rw [he] at this; cases this
      have ho := ownerM_none hno
      induction m with
      | zero => rfl
      | succ m ih =>
        unfold attS
        split
        · rename_i u hu
          have hs := (h.unit u (List.mem_of_getElem? hu)).side
          rw [if_neg (fun hh => by have := hh.1.1; rw [ho] at this; omega)]
          exact ih
        · exact ih
    · intro hne m
      have ho : ownerM s i = 0 ∨ ownerM s i = 1 := by
        obtain ⟨x, hx, hp⟩ := ixs_pos.1 (List.length_pos_iff.2 hne)
        unfold ownerM
        split
        · rename_i u hu
          have := (h.unit u (List.mem_of_find?_eq_some hu)).side
          omega
        · rename_i hu
          have := List.find?_eq_none.1 hu x hx
          simp at this
          exact absurd hp this
      induction m with
      | zero => rfl
      | succ m ih =>
        unfold attS attU
        cases hu : s.units[m]? with
        | none => exact ih
        | some u =>
          simp only
          have hs := (h.unit u (List.mem_of_getElem? hu)).side
          have hiff : (CondS b s i u ∧ AskedA l m i) ↔ HitB b s l i m u := by
            unfold CondS HitB
            rw [← near_iff]
            constructor
            · rintro ⟨⟨h1, h2⟩, h3⟩; exact ⟨⟨by omega, h2⟩, h3⟩
            · rintro ⟨⟨h1, h2⟩, h3⟩; exact ⟨⟨by omega, h2⟩, h3⟩
          by_cases hc : HitB b s l i m u
          · rw [if_pos hc, if_pos (hiff.2 hc), ih]
          · rw [if_neg hc, if_neg (fun hh => hc (hiff.1 hh)), ih]
  induction n with
  | zero => rfl
  | succ n ih =>
    unfold battlesS battlesU
    obtain ⟨k1, k2⟩ := key n
    by_cases he : ixs (fun u : Unit => u.pos = (n : Int)) s.units = []
    · rw [if_pos (show (battleS b s l n).attackers = [] from k1 he _), if_pos (.inl (show (battleM b s l n).defenders = [] from he)), ih]
    · have ha : (battleS b s l n).attackers = (battleM b s l n).attackers := k2 he _
      have hb : battleS b s l n = battleM b s l n := by
        unfold battleS battleM
        rw [k2 he, units_own h (by omega)]
      by_cases ha0 : (battleM b s l n).attackers = []
      · rw [if_pos (by rw [ha]; exact ha0), if_pos (.inr ha0), ih]
      · rw [if_neg (by rw [ha]; exact ha0), if_neg (fun hh => hh.elim (fun hh => he hh) ha0), ih, hb]
theorem asked_take {l : List Attack} {j : Nat} {y : Attack} (ht : l.take (j + 1) = l.take j ++ [y]) (k i : Int) : AskedA (l.take (j + 1)) k i ↔ AskedA (l.take j) k i ∨ (y.unit = k ∧ y.pos = i) := by
  rw [ht]
  unfold AskedA
  simp [or_and_right, exists_or]
theorem c_spec_aBattles (b : Board) (s : State) (l : List Attack) (hl : LenB b) (h : StateOK b s) (hll : l.length ≤ 1048576) :
    C n_spec_aBattles [BoardV false b, StateV false s, AttacksV false l] = some (.val (.one (.list true 3 ((battlesS b s l b.map.terrain.length).map (Battle.enc3 true))))) := by
  refine callC p_spec_aBattles rfl ?_
  have hs12 := h.lens
  have hsz := h.board.size_le
  have htl : (b.map.terrain.length : Int) = size b := rfl
  have e0 := c_spec_mSize b.map h.board.map.dim
  rw [h.board.size_eq] at e0
  simp [xRun, a_spec_aBattles]
  refine list_loop b.map.terrain (by omega) (fun i (_ : Unit) => [(7, .own 0 3 ((battlesS b s l i).map (Battle.enc3 true))), (8, I i)]) (fun _ _ => True) default (by simp [battlesS]) trivial ?_ ?_
  · intro N E i a z ha hi hm ht hwi _ hN hE
    have hon : On b (i : Int) := ⟨by omega, by omega⟩
    have hlt : (i : Int) < size b := hon.2
    have hbl := battlesS_le b s l i
    have hle : (battlesS b s l i).length + 1 ≤ 68719476736 := by omega
    unfold battlesS at hN
    simp [bodyF, b_spec_aBattles_2, e0, hlt]
    refine list_loopR s.units (by omega) (fun k (_ : Unit) => [(9, .box 0 0 [.int .i64 i, .list true 1 (ints (attS b s l i k)), .list true 1 (ints [])]), (25, I k)]) (fun _ _ => True) default (by simp [attS, ints_nil]) trivial ?_ ?_
    · intro N2 E2 k u z2 hu hku hmu htu hwk _ hN2 hE2
      simp [bodyF, b_spec_aBattles_1, hku]
      refine list_loopR l (by omega) (fun j (_ : Unit) => [(9, .box 0 0 [.int .i64 i, .list true 1 (ints (midS b s l i k u j)), .list true 1 (ints [])]), (30, I j)]) (fun _ _ => True) default (by simp [midS, AskedA, ints_nil]) trivial ?_ ?_
      · intro N3 E3 j y z3 hy hj hmy hty hwj _ hN3 hE3
        have hs1 := (h.unit u (List.mem_of_getElem? hu)).side
        have huk : Has s (k : Int) := ⟨by omega, by omega⟩
        have hua : unitAt s (k : Int) = u := by simp [unitAt, at', hu]
        have e2 := c_spec_sOwner s i (by omega)
        have e3 := c_spec_aSide b s i k h.board huk hon
        rw [hua] at e3
        have w1 : IntKind.i64.wrap (1 - u.side) = 1 - u.side := wrap_small (by omega) (by omega)
        have hTl := attS_le b s l i k
        have hlen : (midS b s l i k u j).length ≤ 1048576 := by
          unfold midS
          split
          · rw [List.length_append]; simp; omega
          · omega
        have e5 := c_spec_l1Put (midS b s l i k u j) k hlen
        have hput : putL (midS b s l i k u j) k = attS b s l i k ++ [(k : Int)] := by
          unfold midS
          split
          · exact putL_old (attS_lt b s l i k)
          · exact putL_new (attS_lt b s l i k)
        have hsame : ¬ (CondS b s i u ∧ y.unit = k ∧ y.pos = i) → midS b s l i k u (j + 1) = midS b s l i k u j := by
          intro hh
          unfold midS
          by_cases h1 : CondS b s i u ∧ AskedA (l.take j) k i
          · rw [if_pos h1, if_pos ⟨h1.1, (asked_take hty k i).2 (.inl h1.2)⟩]
          · rw [if_neg h1, if_neg (fun h2 => ((asked_take hty k i).1 h2.2).elim (fun h3 => h1 ⟨h2.1, h3⟩) fun h3 => hh ⟨h2.1, h3⟩)]
        have hdone : CondS b s i u ∧ y.unit = k ∧ y.pos = i → midS b s l i k u (j + 1) = attS b s l i k ++ [(k : Int)] := by
          intro hh
          unfold midS
          rw [if_pos ⟨hh.1, (asked_take hty k i).2 (.inr hh.2)⟩]
        rw [hput] at e5
        generalize midS b s l i k u (j + 1) = M2 at *
        generalize midS b s l i k u j = M at *
        by_cases c1 : y.unit = (k : Int)
        · by_cases c2 : y.pos = (i : Int)
          · by_cases c3 : ownerM s i = 1 - u.side
            · by_cases c4 : 0 ≤ sideM b.map i u.pos
              · have hM := hdone ⟨⟨c3, c4⟩, c1, c2⟩
                simp [bodyF, b_spec_aBattles_0, hj, hy, at_of hy, Attack.enc, hku, hu, at_of hu, Unit.enc, c1, c2, e2, c3, w1, e3, c4, e5, hwj]
                exact hN3 _ z3 (by simp [hM]) trivial
              · have hM := hsame fun hh => c4 hh.1.2
                simp [bodyF, b_spec_aBattles_0, hj, hy, at_of hy, Attack.enc, hku, hu, at_of hu, Unit.enc, c1, c2, e2, c3, w1, e3, c4, hwj]
                exact hN3 _ z3 (by simp [hM]) trivial
            · have hM := hsame fun hh => c3 hh.1.1
              simp [bodyF, b_spec_aBattles_0, hj, hy, at_of hy, Attack.enc, hku, hu, at_of hu, Unit.enc, c1, c2, e2, c3, w1, hwj]
              exact hN3 _ z3 (by simp [hM]) trivial
          · have hM := hsame fun hh => c2 hh.2.2
            simp [bodyF, b_spec_aBattles_0, hj, hy, at_of hy, Attack.enc, c1, c2, hwj]
            exact hN3 _ z3 (by simp [hM]) trivial
        · have hM := hsame fun hh => c1 hh.2.1
          simp [bodyF, b_spec_aBattles_0, hj, hy, at_of hy, Attack.enc, c1, hwj]
          exact hN3 _ z3 (by simp [hM]) trivial
      · intro N3 E3 z3 _ hE3
        unfold attS at hN2
        simp only [hu] at hN2
        simp [bodyF, b_spec_aBattles_0]
        refine hE3 _ _ fun st => ?_
        simp [hwk]
        exact hN2 _ z2 (by simp [midS]) trivial
    · intro N2 E2 z2 _ hE2
      have e2 := c_spec_sOwner s i (by omega)
      have e4 := c_spec_sAt s i (ownerM s i) (by omega)
      have hba : (battleS b s l i).attackers = attS b s l i s.units.length := rfl
      simp [bodyF, b_spec_aBattles_1]
      refine hE2 _ _ fun st => ?_
      by_cases ha0 : attS b s l i s.units.length = []
      · rw [if_pos (by rw [hba]; exact ha0)] at hN
        simp [ha0, ints_length, ints_nil, hwi]
        exact hN _ z (by simp) trivial
      · rw [if_neg (by rw [hba]; exact ha0)] at hN
        have hpos : 0 < (attS b s l i s.units.length).length := List.length_pos_iff.2 ha0
        have hen : Battle.enc3 true (battleS b s l i) = [.int .i64 (i : Int), .list true 1 (ints (attS b s l i s.units.length)), .list true 1 (ints (unitsIn s i (ownerM s i)))] := rfl
        simp [ints_length, hpos, e2, e4, rowsOf, hle, hwi]
        exact hN _ z (by simp [hen]) trivial
  · intro N E z _ hE
    have hgt : ¬ (b.map.terrain.length : Int) < size b := by omega
    simp [bodyF, b_spec_aBattles_2, e0, hgt]
    exact hE _ _ fun st => by simp
end Go.Abs.W
