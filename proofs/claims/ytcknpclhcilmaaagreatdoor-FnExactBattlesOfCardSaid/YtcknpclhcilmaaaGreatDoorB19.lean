import Derived.Test.YtcknpclhcilmaaaGreatDoorB0
import Derived.Test.YtcknpclhcilmaaaGreatDoorB18
import Derived.Test.YtcknpclhcilmaaaGreatDoorB10
set_option linter.unusedSimpArgs false
set_option linter.unusedVariables false
set_option maxRecDepth 100000
set_option maxHeartbeats 2000000
namespace Go.Abs.W
open Go Go.Abs Classical
attribute [-simp] Bool.decide_and
theorem c_laws_szAttackS (l : List Attack) (n : Int) (hn : Left n) (hl : Wide l.length) : C n_laws_szAttackS [Rows false 2 (l.map Attack.enc), I n] = some (I (less n l.length)) := by
  refine callC p_laws_szAttackS rfl ?_
  have hw := less_small hn hl
  by_cases hc : n < l.length
  · have : n - (l.length : Int) < 0 := by omega
    simp [xRun, a_laws_szAttackS, less, hw, hc, this]
  · have : ¬ n - (l.length : Int) < 0 := by omega
    simp [xRun, a_laws_szAttackS, less, hw, hc, this]
theorem c_laws_toAttack (t : Attack) : C n_laws_toAttack [AttackV t] = some (AttackV t) := by
  refine callC p_laws_toAttack rfl ?_
  simp [xRun, a_laws_toAttack]
theorem c_laws_toAttackS (l : List Attack) (hl : Len l.length) : C n_laws_toAttackS [Rows false 2 (l.map Attack.enc)] = some (Rows true 2 (l.map Attack.enc)) := by
  refine callC p_laws_toAttackS rfl ?_
  have h0 := make_ok hl
  simp [xRun, a_laws_toAttackS, h0, -List.replicate]
  refine list_loop l (by unfold Len at hl; omega) (fun i (_ : Unit) => [(3, .own 0 2 (fillR Attack.enc [.int .i64 0, .int .i64 0] l i)), (4, I i)]) (fun _ _ => True) default (by simp [fillR_zero, -List.replicate]) trivial ?_ ?_
  · intro N E i a s ha hi hm ht hwi _ hN hE
    have hset := fillR_set Attack.enc [.int .i64 0, .int .i64 0] ha
    rw [Attack.enc] at hset
    simp [bodyF, b_laws_toAttackS_0, hi, ha, at_of ha, hwi, Attack.enc, c_laws_toAttack a, fillR_at _ _ hi, hset]
    exact hN _ s (by simp) trivial
  · intro N E s _ hE
    simp [bodyF, b_laws_toAttackS_0]
    refine hE _ _ fun st => ?_
    simp [fillR_end]
theorem c_laws_eqAttack (t : Attack) : C n_laws_eqAttack [AttackV t, AttackV t] = some (Bo true) := by
  refine callC p_laws_eqAttack rfl ?_
  simp [xRun, a_laws_eqAttack]
theorem c_laws_eqAttackS (l : List Attack) (hl : Len l.length) : C n_laws_eqAttackS [Rows false 2 (l.map Attack.enc), Rows false 2 (l.map Attack.enc)] = some (Bo true) := by
  refine callC p_laws_eqAttackS rfl ?_
  simp [xRun, a_laws_eqAttackS]
  refine list_loop l (by unfold Len at hl; omega) (fun i (_ : Unit) => [(5, I i)]) (fun _ _ => True) default (by simp) trivial ?_ ?_
  · intro N E i a s ha hi hm ht hwi _ hN hE
    simp [bodyF, b_laws_eqAttackS_0, hi, ha, at_of ha, hwi, Attack.enc, c_laws_eqAttack a]
    exact hN _ s (by simp) trivial
  · intro N E s _ hE
    simp [bodyF, b_laws_eqAttackS_0]
    exact hE _ _ fun st => by simp
abbrev AttacksV (o : Bool) (l : List Attack) : AV := Rows o 2 (l.map Attack.enc)
/-- The unit k attacks the hex i. -/
def AskedA (l : List Attack) (k i : Int) : Prop := ∃ y ∈ l, y.unit = k ∧ y.pos = i
theorem c_slices_Index_Attack (l : List Attack) (v : Attack) (hl : l.length ≤ 1048576) : C n_slices_Index_impl_Attack_impl_Attack [AttacksV false l, AttackV v] = some (I (firstIx (fun y : Attack => y.unit = v.unit ∧ y.pos = v.pos) l)) := by
  refine callC p_slices_Index_impl_Attack_impl_Attack rfl ?_
  simp [xRun, a_slices_Index_impl_Attack_impl_Attack]
  refine find_loop l (by omega) 8 (fun y : Attack => y.unit = v.unit ∧ y.pos = v.pos) (by simp) ?_ ?_
  · intro N E i a ha hi hm hwi hs hN hE
    by_cases c1 : v.unit = a.unit
    · by_cases c2 : v.pos = a.pos
      · have hc : a.unit = v.unit ∧ a.pos = v.pos := ⟨c1.symm, c2.symm⟩
        simp [bodyF, b_slices_Index_impl_Attack_impl_Attack_0, hi, Attack.enc, ha, at_of ha, c1, c2]
        refine hE _ _ fun st => ?_
        rw [firstIx_at ha hc hs]
        simp
      · have hc : ¬ (a.unit = v.unit ∧ a.pos = v.pos) := fun hh => c2 hh.2.symm
        simp [bodyF, b_slices_Index_impl_Attack_impl_Attack_0, hi, Attack.enc, ha, at_of ha, c1, c2, hwi]
        exact hN _ (by simp [c1]) hc
    · have hc : ¬ (a.unit = v.unit ∧ a.pos = v.pos) := fun hh => c1 hh.1.symm
      simp [bodyF, b_slices_Index_impl_Attack_impl_Attack_0, hi, Attack.enc, ha, at_of ha, c1, hwi]
      exact hN _ (by simp) hc
  · intro N E hs hE
    simp [bodyF, b_slices_Index_impl_Attack_impl_Attack_0]
    refine hE _ _ fun st => ?_
    rw [firstIx_none hs]
    simp
theorem c_slices_Contains_Attack (l : List Attack) (v : Attack) (hl : l.length ≤ 1048576) : C n_slices_Contains_impl_Attack_impl_Attack [AttacksV false l, AttackV v] = some (Bo (decide (AskedA l v.unit v.pos))) := by
  refine callC p_slices_Contains_impl_Attack_impl_Attack rfl ?_
  have e1 := c_slices_Index_Attack l v hl
  have h1 : 0 ≤ firstIx (fun y : Attack => y.unit = v.unit ∧ y.pos = v.pos) l ↔ AskedA l v.unit v.pos := firstIx_pos
  by_cases h2 : AskedA l v.unit v.pos
  · have h3 := h1.2 h2
    simp [xRun, a_slices_Contains_impl_Attack_impl_Attack, e1, h3, h2]
  · have h3 : ¬ 0 ≤ firstIx (fun y : Attack => y.unit = v.unit ∧ y.pos = v.pos) l := fun hh => h2 (h1.1 hh)
    simp [xRun, a_slices_Contains_impl_Attack_impl_Attack, e1, h3, h2]
/-- The unit k, which reads u, attacks the hex i. -/
def HitB (b : Board) (s : State) (l : List Attack) (i : Int) (k : Nat) (u : Unit) : Prop := (¬ u.side = ownerM s i ∧ Near b i u) ∧ AskedA l k i
/-- The attackers of a hex among the first units. -/
noncomputable def attU (b : Board) (s : State) (l : List Attack) (i : Int) : Nat → List Int
  | 0 => []
  | n + 1 => match s.units[n]? with
    | some u => if HitB b s l i n u then attU b s l i n ++ [(n : Int)] else attU b s l i n
    | none => attU b s l i n
theorem attU_le (b : Board) (s : State) (l : List Attack) (i : Int) (n : Nat) : (attU b s l i n).length ≤ n := by
  induction n with
  | zero => simp [attU]
  | succ n ih =>
    unfold attU
    split
    · split
      · rw [List.length_append]; simp; omega
      · omega
    · omega
noncomputable def battleM (b : Board) (s : State) (l : List Attack) (i : Nat) : Battle := ⟨i, attU b s l i s.units.length, ixs (fun u : Unit => u.pos = (i : Int)) s.units⟩
/-- The battles of the first hexes. -/
noncomputable def battlesU (b : Board) (s : State) (l : List Attack) : Nat → List Battle
  | 0 => []
  | n + 1 => if (battleM b s l n).defenders = [] ∨ (battleM b s l n).attackers = [] then battlesU b s l n else battlesU b s l n ++ [battleM b s l n]
theorem battlesU_le (b : Board) (s : State) (l : List Attack) (n : Nat) : (battlesU b s l n).length ≤ n := by
  induction n with
  | zero => simp [battlesU]
  | succ n ih =>
    unfold battlesU
    split
    · omega
    · rw [List.length_append]; simp; omega
theorem c_impl_battlesOf (b : Board) (s : State) (l : List Attack) (hl : LenB b) (h : StateOK b s) (hll : l.length ≤ 1048576) :
    C n_impl_battlesOf [BoardV false b, StateV false s, AttacksV false l] = some (.val (.one (.list true 3 ((battlesU b s l b.map.terrain.length).map (Battle.enc3 true))))) := by
  refine callC p_impl_battlesOf rfl ?_
  have hs12 := h.lens
  have hsz := h.board.size_le
  have htl : (b.map.terrain.length : Int) = size b := rfl
  simp [xRun, a_impl_battlesOf, rowsOf, ints_length]
  refine list_loop b.map.terrain (by omega) (fun i (_ : Unit) => [(7, .own 0 3 ((battlesU b s l i).map (Battle.enc3 true))), (17, I i)]) (fun _ _ => True) default (by simp [battlesU]) trivial ?_ ?_
  · intro N E i a z ha hi hm ht hwi _ hN hE
    have e1 := c_impl_unitsAt s i (by omega)
    have hon : On b (i : Int) := ⟨by omega, by omega⟩
    have hbl := battlesU_le b s l i
    have hle : (battlesU b s l i).length + 1 ≤ 68719476736 := by omega
    unfold battlesU at hN
    generalize hD : ixs (fun u : Unit => u.pos = (i : Int)) s.units = DF at *
    have hDl : DF.length ≤ s.units.length := by rw [← hD]; exact ixs_length_le ..
    have hbd : (battleM b s l i).defenders = DF := hD
    have hba : (battleM b s l i).attackers = attU b s l i s.units.length := rfl
    by_cases hd : DF = []
    · rw [if_pos (.inl (by rw [hbd]; exact hd))] at hN
      subst hd
      simp [bodyF, b_impl_battlesOf_1, ints_length, hi, e1, hwi]
      exact hN _ z (by simp [ints_length]) trivial
    · have hd2 : ¬ (DF.length : Int) = 0 := by
        intro hh; exact hd (List.eq_nil_of_length_eq_zero (by omega))
      have hd3 : ¬ DF.length = 0 := by omega
      simp [bodyF, b_impl_battlesOf_1, ints_length, hi, e1, hd, hd2, hd3, hwi]
      refine list_loopR s.units (by omega) (fun k (_ : Unit) => [(9, .box 0 0 [.int .i64 i, .list true 1 (ints (attU b s l i k)), .list true 1 (ints DF)]), (32, I k)]) (fun _ _ => True) default (by simp [attU, ints_nil]) trivial ?_ ?_
      · intro N2 E2 k u z2 hu hku hmu htu hwk _ hN2 hE2
        have e2 := c_impl_ownerOf s i (by omega)
        have e3 := c_impl_isNear b u i h.board hon
        have e4 := c_slices_Contains_Attack l ⟨k, i⟩ hll
        have hal := attU_le b s l i k
        have hle2 : (attU b s l i k).length + 1 ≤ 68719476736 := by omega
        unfold attU at hN2
        simp only [hu] at hN2
        dsimp only [AttackV] at e4
        dsimp only [UnitV] at e3
        generalize attU b s l i k = A at *
        by_cases c1 : u.side = ownerM s i
        · have hP : ¬ HitB b s l i k u := fun hh => hh.1.1 c1
          simp only [if_neg hP] at hN2
          simp [bodyF, b_impl_battlesOf_0, hku, hu, at_of hu, Unit.enc, e2, c1, hwk]
          exact hN2 _ z2 (by simp) trivial
        · by_cases c2 : Near b i u
          · by_cases c3 : AskedA l k i
            · have hP : HitB b s l i k u := ⟨⟨c1, c2⟩, c3⟩
              simp only [if_pos hP] at hN2
              simp [bodyF, b_impl_battlesOf_0, hku, hu, at_of hu, Unit.enc, e2, c1, e3, c2, e4, c3, ints_length, hle2, ints_snoc, rowsOf, hwk]
              exact hN2 _ z2 (by simp) trivial
            · have hP : ¬ HitB b s l i k u := fun hh => c3 hh.2
              simp only [if_neg hP] at hN2
              simp [bodyF, b_impl_battlesOf_0, hku, hu, at_of hu, Unit.enc, e2, c1, e3, c2, e4, c3, hwk]
              exact hN2 _ z2 (by simp) trivial
          · have hP : ¬ HitB b s l i k u := fun hh => c2 hh.1.2
            simp only [if_neg hP] at hN2
            simp [bodyF, b_impl_battlesOf_0, hku, hu, at_of hu, Unit.enc, e2, c1, e3, c2, hwk]
            exact hN2 _ z2 (by simp) trivial
      · intro N2 E2 z2 _ hE2
        simp [bodyF, b_impl_battlesOf_0]
        refine hE2 _ _ fun st => ?_
        by_cases ha0 : attU b s l i s.units.length = []
        · rw [if_pos (.inr (by rw [hba]; exact ha0))] at hN
          simp [ha0, ints_length, ints_nil, hwi]
          exact hN _ z (by simp [ints_length]) trivial
        · rw [if_neg (by rw [hbd, hba]; exact fun hh => hh.elim hd ha0)] at hN
          have hpos : 0 < (attU b s l i s.units.length).length := List.length_pos_iff.2 ha0
          have hen : Battle.enc3 true (battleM b s l i) = [.int .i64 (i : Int), .list true 1 (ints (attU b s l i s.units.length)), .list true 1 (ints DF)] := by rw [← hD]; rfl
          simp [ints_length, hpos, rowsOf, hle, hwi]
          exact hN _ z (by simp [hen, ints_length]) trivial
  · intro N E z _ hE
    simp [bodyF, b_impl_battlesOf_1, ints_length]
    exact hE _ _ fun st => by simp
end Go.Abs.W
