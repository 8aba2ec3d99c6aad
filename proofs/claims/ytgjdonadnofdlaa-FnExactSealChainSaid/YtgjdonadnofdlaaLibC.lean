/- Plain lemmas on lists of seals: their copies, equality, validity and chains, in the reference and in the program. -/
import Derived.Test.YtgjdonadnofdlaaPx43
import Derived.Test.YtgjdonadnofdlaaPx44
import Derived.Test.YtgjdonadnofdlaaPx45
import Derived.Test.YtgjdonadnofdlaaLibS
import Derived.Test.YtgjdonadnofdlaaLibI
namespace Go.Proofs.Ytgjdonadnofdlaa.Pure
open Go.RowKit Go.Proofs.Ytgjdonadnofdlaa.P Go.Proofs.YtgjdonadnofdlaaW.PrintWords Go.Proofs.YtgjdonadnofdlaaW.PrintLast
set_option linter.unusedVariables false
set_option linter.unusedSimpArgs false

def toSealed (x : S23) : S25 := ⟨x.f0, x.f1, x.f2⟩
theorem toSealedS_l (l : List S23) (hl : l.length ≤ 100000000000000) (d : Nat) : ∀ (k i : Nat) (x : List S25), i + d = l.length → d < k → x.length = l.length → x.take i = (l.map toSealed).take i → laws_toSealedS.l0 k l x (i : Int) = some (l.map toSealed) := by
  induction d with
  | zero =>
    intro k i x hi hk hx ht
    obtain ⟨k, rfl⟩ : ∃ m, k = m + 1 := ⟨k - 1, by omega⟩
    simp only [laws_toSealedS.l0]; rw [if_neg (by omega)]
    rw [List.take_of_length_le (by omega), List.take_of_length_le (by simp; omega)] at ht
    rw [ht]
  | succ d ih =>
    intro k i x hi hk hx ht
    obtain ⟨k, rfl⟩ : ∃ m, k = m + 1 := ⟨k - 1, by omega⟩
    have hi' : i < l.length := by omega
    have e : (⟨(rd_T23 l (i : Int)).f0, (rd_T23 l (i : Int)).f1, (rd_T23 l (i : Int)).f2⟩ : S25) = (l.map toSealed).getD i z25 := by
      simp [rd_T23, toSealed, List.getD_eq_getElem?_getD, hi']
    simp only [laws_toSealedS.l0]
    rw [if_pos (by omega), if_pos (by omega)]
    simp only [laws_toSealed.f, Option.bind_some]
    rw [if_pos (by omega), w64i (by omega) (by omega), e, Int.toNat_natCast, show ((i : Int) + 1) = ((i + 1 : Nat) : Int) from by omega]
    exact ih k (i + 1) _ (by omega) (by omega) (by simp; omega) (take_set_drop (l.map toSealed) x _ i (by simp; omega) (by simp; omega) ht)
theorem toSealedS_ev (l : List S23) (hl : l.length ≤ 1048576) : Ev (fun k => laws_toSealedS.f k l) (l.map toSealed) :=
  ⟨l.length + 1, fun k hk => by unfold laws_toSealedS.f; dsimp only; rw [if_pos (by omega), if_pos (by omega)]; exact toSealedS_l l (by omega) l.length k 0 _ (by omega) hk (by simp) (by simp)⟩
theorem eqSealedS_l (l : List S25) (hl : l.length ≤ 100000000000000) (d : Nat) : ∀ (k i : Nat), i + d = l.length → d < k → laws_eqSealedS.l0 k l l (i : Int) = some true := by
  induction d with
  | zero =>
    intro k i hi hk
    obtain ⟨k, rfl⟩ : ∃ m, k = m + 1 := ⟨k - 1, by omega⟩
    simp only [laws_eqSealedS.l0]; rw [if_neg (by omega)]
  | succ d ih =>
    intro k i hi hk
    obtain ⟨k, rfl⟩ : ∃ m, k = m + 1 := ⟨k - 1, by omega⟩
    simp only [laws_eqSealedS.l0]
    rw [if_pos (by omega), if_pos (by omega), if_pos (by omega)]
    simp only [laws_eqSealed.f, Option.bind_some, if_true]
    rw [w64i (by omega) (by omega), show ((i : Int) + 1) = ((i + 1 : Nat) : Int) from by omega]
    exact ih k (i + 1) (by omega) (by omega)
theorem eqSealedS_ev (l : List S25) (hl : l.length ≤ 1048576) : Ev (fun k => laws_eqSealedS.f k l l) true :=
  ⟨l.length + 1, fun k hk => by unfold laws_eqSealedS.f; dsimp only; rw [if_pos rfl]; exact eqSealedS_l l (by omega) l.length k 0 (by omega) hk⟩
def goodB (x : S25) : Bool := decide (0 ≤ x.f0 ∧ x.f0 ≤ 30) && (decide (0 ≤ x.f1 ∧ x.f1 ≤ 1) && decide (0 ≤ x.f2 ∧ x.f2 ≤ 4611686016279904236))
theorem eGood_f (x : S25) : spec_eGood.f x.f0 x.f1 x.f2 = some (goodB x) := by
  unfold spec_eGood.f goodB
  by_cases c0 : 0 ≤ x.f0 ∧ x.f0 ≤ 30 <;> by_cases c1 : 0 ≤ x.f1 ∧ x.f1 ≤ 1 <;> simp [in_f, dSeed_f, c0, c1]
theorem implSealed_f (x : S25) : impl_IsSealed.f x.f0 x.f1 x.f2 = some (goodB x) := by
  unfold impl_IsSealed.f goodB
  by_cases c0 : 0 ≤ x.f0 ∧ x.f0 ≤ 30 <;> by_cases c1 : 0 ≤ x.f1 ∧ x.f1 ≤ 1 <;> simp [isTurn_f, isSide_f, isSeed_f, c0, c1]
def listB (l : List S25) : Bool := decide ((l.length : Int) ≤ 4) && l.all goodB
theorem rd_sealed (l : List S25) (i : Nat) (h : i < l.length) : rd_T25 l (i : Int) = l[i] := by simp [rd_T25, h]
theorem eList_l (l : List S25) (hl : l.length ≤ 1048576) (d : Nat) : ∀ (k i : Nat), i + d = l.length → d < k → spec_eList.l0 k l l (l.length : Int) (i : Int) = some (decide ((l.length : Int) ≤ 4) && (l.drop i).all goodB) := by
  induction d with
  | zero =>
    intro k i hi hk
    obtain ⟨k, rfl⟩ : ∃ m, k = m + 1 := ⟨k - 1, by omega⟩
    simp only [spec_eList.l0]; rw [if_neg (by omega), List.drop_of_length_le (by omega)]; simp
  | succ d ih =>
    intro k i hi hk
    obtain ⟨k, rfl⟩ : ∃ m, k = m + 1 := ⟨k - 1, by omega⟩
    have hi' : i < l.length := by omega
    simp only [spec_eList.l0]
    rw [if_pos (by omega), if_pos (by omega), if_pos (by omega), rd_sealed l i hi', eGood_f, Option.bind_some, w64i (by omega) (by omega), show ((i : Int) + 1) = ((i + 1 : Nat) : Int) from by omega, ih k (i + 1) (by omega) (by omega), List.drop_eq_getElem_cons hi', List.all_cons]
    cases goodB l[i] <;> simp
theorem eList_ev (l : List S25) (hl : l.length ≤ 1048576) : Ev (fun k => spec_eList.f k l) (listB l) :=
  ⟨l.length + 1, fun k hk => by unfold spec_eList.f; dsimp only; have := eList_l l hl l.length k 0 (by omega) hk; simpa [listB] using this⟩
theorem bad_l (l : List S25) (hl : l.length ≤ 1048576) (d : Nat) : ∀ (k i : Nat), i + d = l.length → d < k → ∃ r, slices_IndexFunc_impl_areSealed_1.l0 k l (l.length : Int) (i : Int) = some r ∧ decide (r ≥ 0) = !(l.drop i).all goodB := by
  induction d with
  | zero =>
    intro k i hi hk
    obtain ⟨k, rfl⟩ : ∃ m, k = m + 1 := ⟨k - 1, by omega⟩
    refine ⟨-1, ?_, ?_⟩
    · simp only [slices_IndexFunc_impl_areSealed_1.l0]; rw [if_neg (by omega)]
    · rw [List.drop_of_length_le (by omega)]; simp
  | succ d ih =>
    intro k i hi hk
    obtain ⟨k, rfl⟩ : ∃ m, k = m + 1 := ⟨k - 1, by omega⟩
    have hi' : i < l.length := by omega
    obtain ⟨r, h1, h2⟩ := ih k (i + 1) (by omega) (by omega)
    simp only [slices_IndexFunc_impl_areSealed_1.l0]
    rw [if_pos (by omega), if_pos (by omega), if_pos (by omega), rd_sealed l i hi', show impl_areSealed_1.f l[i].f0 l[i].f1 l[i].f2 = some (!goodB l[i]) from by unfold impl_areSealed_1.f; rw [implSealed_f]; rfl, Option.bind_some, w64i (by omega) (by omega), show ((i : Int) + 1) = ((i + 1 : Nat) : Int) from by omega, List.drop_eq_getElem_cons hi', List.all_cons]
    cases goodB l[i] with
    | true => exact ⟨r, by simpa using h1, by simpa using h2⟩
    | false => exact ⟨(i : Int), by simp, by simp⟩
theorem areSealed_ev (l : List S25) (hl : l.length ≤ 1048576) : Ev (fun k => impl_areSealed.f k l) (listB l) :=
  ⟨l.length + 1, fun k hk => by
    obtain ⟨r, h1, h2⟩ := bad_l l hl l.length k 0 (by omega) hk
    rw [show ((0 : Nat) : Int) = 0 from rfl] at h1
    unfold impl_areSealed.f listB
    dsimp only
    by_cases c : (l.length : Int) ≤ 4
    · rw [if_pos c]
      simp only [slices_ContainsFunc_impl_areSealed_1.f, slices_IndexFunc_impl_areSealed_1.f, h1, Option.bind_some, h2]
      simp [c]
    · simp [c]⟩
def chainFrom : List S25 → Int → List Int
  | [], _ => []
  | x :: l, b => hashV [13, b, x.f0, x.f1, x.f2] :: chainFrom l (hashV [13, b, x.f0, x.f1, x.f2])
theorem chainFrom_length : ∀ (l : List S25) (b : Int), (chainFrom l b).length = l.length
  | [], _ => rfl
  | x :: l, b => by simp [chainFrom, chainFrom_length l]
theorem implChain_l (l : List S25) (hl : l.length ≤ 1048576) (d : Nat) : ∀ (k i : Nat) (acc : List Int) (b : Int), i + d = l.length → d < k → acc.length = i → impl_sealChain.l0 k acc b l (l.length : Int) (i : Int) = some (acc ++ chainFrom (l.drop i) b) := by
  induction d with
  | zero =>
    intro k i acc b hi hk ha
    obtain ⟨k, rfl⟩ : ∃ m, k = m + 1 := ⟨k - 1, by omega⟩
    simp only [impl_sealChain.l0]; rw [if_neg (by omega), List.drop_of_length_le (by omega)]; simp [chainFrom]
  | succ d ih =>
    intro k i acc b hi hk ha
    obtain ⟨k, rfl⟩ : ∃ m, k = m + 1 := ⟨k - 1, by omega⟩
    have hi' : i < l.length := by omega
    simp only [impl_sealChain.l0]
    rw [if_pos (by omega), if_pos (by omega), if_pos (by omega), rd_sealed l i hi', mix_f _ (by simp), Option.bind_some, if_pos (by omega), w64i (by omega) (by omega), show ((i : Int) + 1) = ((i + 1 : Nat) : Int) from by omega, ih k (i + 1) _ _ (by omega) (by omega) (by simp; omega), List.drop_eq_getElem_cons hi']
    simp [chainFrom]
theorem implChain_ev (l : List S25) (hl : l.length ≤ 1048576) : Ev (fun k => impl_sealChain.f k l) (chainFrom l 0) :=
  ⟨l.length + 1, fun k hk => by unfold impl_sealChain.f; dsimp only; have := implChain_l l hl l.length k 0 [] 0 (by omega) hk rfl; simpa using this⟩
theorem specChain_l (l : List S25) (hl : l.length ≤ 1048576) (d : Nat) : ∀ (i : Nat) (acc : List Int) (b : Int), i + d = l.length → acc.length = i → Ev (fun k => spec_eChain.l0 k acc b l (l.length : Int) (i : Int)) (acc ++ chainFrom (l.drop i) b) := by
  induction d with
  | zero =>
    intro i acc b hi ha
    refine ⟨1, fun k hk => ?_⟩
    obtain ⟨k, rfl⟩ : ∃ m, k = m + 1 := ⟨k - 1, by omega⟩
    simp only [spec_eChain.l0]; rw [if_neg (by omega), List.drop_of_length_le (by omega)]; simp [chainFrom]
  | succ d ih =>
    intro i acc b hi ha
    have hi' : i < l.length := by omega
    refine Ev.step (f := fun k => (spec_dHash.f k [13, b, l[i].f0, l[i].f1, l[i].f2]).bind fun t => if acc.length < 17592186044416 then spec_eChain.l0 k (acc ++ [t]) t l (l.length : Int) ((i + 1 : Nat) : Int) else none) (fun k => ?_) ?_
    · simp only [spec_eChain.l0]
      rw [if_pos (by omega), if_pos (by omega), if_pos (by omega), rd_sealed l i hi', w64i (by omega) (by omega), show ((i : Int) + 1) = ((i + 1 : Nat) : Int) from by omega]
    · refine Ev.bind (f := fun k t => if acc.length < 17592186044416 then spec_eChain.l0 k (acc ++ [t]) t l (l.length : Int) ((i + 1 : Nat) : Int) else none) (dHash_ev [13, b, l[i].f0, l[i].f1, l[i].f2] (by simp)) ?_
      have h := ih (i + 1) (acc ++ [hashV [13, b, l[i].f0, l[i].f1, l[i].f2]]) (hashV [13, b, l[i].f0, l[i].f1, l[i].f2]) (by omega) (by simp; omega)
      rw [List.drop_eq_getElem_cons hi']
      simp only [chainFrom]
      rw [List.append_assoc] at h
      refine Ev.congr (fun k => ?_) h
      rw [if_pos (by omega)]
theorem specChain_ev (l : List S25) (hl : l.length ≤ 1048576) : Ev (fun k => spec_eChain.f k l) (chainFrom l 0) := by
  have := specChain_l l hl l.length 0 [] 0 (by omega) rfl
  simpa [spec_eChain.f] using this

end Go.Proofs.Ytgjdonadnofdlaa.Pure
