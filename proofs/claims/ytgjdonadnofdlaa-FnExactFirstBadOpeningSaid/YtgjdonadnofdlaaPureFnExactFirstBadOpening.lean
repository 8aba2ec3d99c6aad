/- The program's FirstBadOpening returns what the reference's returns, for all arguments, and leaves the lists alone. -/
import Derived.Test.YtgjdonadnofdlaaPx57
import Derived.Test.YtgjdonadnofdlaaLibA
import Derived.Test.YtgjdonadnofdlaaLibC
import Derived.Test.YtgjdonadnofdlaaLibI
import Derived.Test.YtgjdonadnofdlaaOpenT
namespace Go.Proofs.Ytgjdonadnofdlaa.Pure
open Go.RowKit Go.Proofs.Ytgjdonadnofdlaa.P Go.Proofs.YtgjdonadnofdlaaW.PrintWords Go.Proofs.YtgjdonadnofdlaaW.PrintLast
set_option linter.unusedVariables false
set_option linter.unusedSimpArgs false

def toOpen (x : S51) : S55 := ⟨x.f0, x.f1⟩
theorem szOpening_f (o : S51) (a : Int) (h0 : 0 ≤ a) (h1 : a ≤ 1048576) (hs : o.f1.size ≤ maxLen) : ∃ z, laws_szOpening.f o.f0 o.f1 a = some z ∧ z ≤ a := by
  unfold maxLen at hs
  unfold laws_szOpening.f
  rw [w64 (by omega) (by omega)]
  split
  · exact ⟨_, rfl, by omega⟩
  · exact ⟨_, rfl, by omega⟩
theorem szOpeningS_l (l : List S51) (hl : l.length ≤ 1048576) (hG : ∀ o ∈ l, o.f1.size ≤ maxLen) (d : Nat) : ∀ (k i : Nat) (a : Int), i + d = l.length → d < k → 0 ≤ a → a ≤ 1048576 → ∃ z, laws_szOpeningS.l0 k l a (i : Int) = some z := by
  induction d with
  | zero =>
    intro k i a hi hk h0 h1
    obtain ⟨k, rfl⟩ : ∃ m, k = m + 1 := ⟨k - 1, by omega⟩
    exact ⟨a, by simp only [laws_szOpeningS.l0]; rw [if_neg (by omega)]⟩
  | succ d ih =>
    intro k i a hi hk h0 h1
    obtain ⟨k, rfl⟩ : ∃ m, k = m + 1 := ⟨k - 1, by omega⟩
    have hi' : i < l.length := by omega
    have e : rd_T51 l (i : Int) = l[i] := by simp [rd_T51, hi']
    obtain ⟨z, hz, hz1⟩ := szOpening_f l[i] a h0 h1 (hG _ (List.getElem_mem hi'))
    simp only [laws_szOpeningS.l0]
    rw [if_pos (by omega), if_pos (by omega), e, hz, Option.bind_some]
    by_cases c : z < 0
    · exact ⟨-1, by rw [if_pos c]⟩
    · rw [if_neg c, w64 (by omega) (by omega), show ((i : Int) + 1) = ((i + 1 : Nat) : Int) from by omega]
      exact ih k (i + 1) z (by omega) (by omega) (by omega) (by omega)
theorem toOpeningS_l (l : List S51) (hl : l.length ≤ 100000000000000) (d : Nat) : ∀ (k i : Nat) (x : List S55), i + d = l.length → d < k → x.length = l.length → x.take i = (l.map toOpen).take i → laws_toOpeningS.l0 k l x (i : Int) = some (l.map toOpen) := by
  induction d with
  | zero =>
    intro k i x hi hk hx ht
    obtain ⟨k, rfl⟩ : ∃ m, k = m + 1 := ⟨k - 1, by omega⟩
    simp only [laws_toOpeningS.l0]; rw [if_neg (by omega)]
    rw [List.take_of_length_le (by omega), List.take_of_length_le (by simp; omega)] at ht
    rw [ht]
  | succ d ih =>
    intro k i x hi hk hx ht
    obtain ⟨k, rfl⟩ : ∃ m, k = m + 1 := ⟨k - 1, by omega⟩
    have hi' : i < l.length := by omega
    have e : (⟨(rd_T51 l (i : Int)).f0, (rd_T51 l (i : Int)).f1⟩ : S55) = (l.map toOpen).getD i z55 := by
      simp [rd_T51, toOpen, List.getD_eq_getElem?_getD, hi']
    simp only [laws_toOpeningS.l0]
    rw [if_pos (by omega), if_pos (by omega)]
    simp only [laws_toOpening.f, Option.bind_some]
    rw [if_pos (by omega), w64i (by omega) (by omega), e, Int.toNat_natCast, show ((i : Int) + 1) = ((i + 1 : Nat) : Int) from by omega]
    exact ih k (i + 1) _ (by omega) (by omega) (by simp; omega) (take_set_drop (l.map toOpen) x _ i (by simp; omega) (by simp; omega) ht)
theorem toOpeningS_ev (l : List S51) (hl : l.length ≤ 1048576) : Ev (fun k => laws_toOpeningS.f k l) (l.map toOpen) :=
  ⟨l.length + 1, fun k hk => by unfold laws_toOpeningS.f; dsimp only; rw [if_pos (by omega), if_pos (by omega)]; exact toOpeningS_l l (by omega) l.length k 0 _ (by omega) hk (by simp) (by simp)⟩
theorem eqOpeningS_l (l : List S55) (hl : l.length ≤ 100000000000000) (d : Nat) : ∀ (k i : Nat), i + d = l.length → d < k → laws_eqOpeningS.l0 k l l (i : Int) = some true := by
  induction d with
  | zero =>
    intro k i hi hk
    obtain ⟨k, rfl⟩ : ∃ m, k = m + 1 := ⟨k - 1, by omega⟩
    simp only [laws_eqOpeningS.l0]; rw [if_neg (by omega)]
  | succ d ih =>
    intro k i hi hk
    obtain ⟨k, rfl⟩ : ∃ m, k = m + 1 := ⟨k - 1, by omega⟩
    simp only [laws_eqOpeningS.l0]
    rw [if_pos (by omega), if_pos (by omega), if_pos (by omega)]
    simp only [laws_eqOpening.f, Option.bind_some, if_true]
    rw [w64i (by omega) (by omega), show ((i : Int) + 1) = ((i + 1 : Nat) : Int) from by omega]
    exact ih k (i + 1) (by omega) (by omega)
theorem eqOpeningS_ev (l : List S55) (hl : l.length ≤ 1048576) : Ev (fun k => laws_eqOpeningS.f k l l) true :=
  ⟨l.length + 1, fun k hk => by unfold laws_eqOpeningS.f; dsimp only; rw [if_pos rfl]; exact eqOpeningS_l l (by omega) l.length k 0 (by omega) hk⟩
def openB (o : S55) : Bool := decide (0 ≤ o.f0 ∧ o.f0 ≤ 4611686016279904236) && decide ((o.f1.size : Int) ≤ 150)
theorem rd_open (l : List S55) (i : Nat) (h : i < l.length) : rd_T55 l (i : Int) = l[i] := by simp [rd_T55, h]
theorem badO_l (l : List S55) (hl : l.length ≤ 1048576) (d : Nat) : ∀ (k i : Nat), i + d = l.length → d < k → ∃ r, slices_IndexFunc_impl_FirstBadOpening_1.l0 k l (l.length : Int) (i : Int) = some r ∧ decide (r ≥ 0) = !(l.drop i).all openB := by
  induction d with
  | zero =>
    intro k i hi hk
    obtain ⟨k, rfl⟩ : ∃ m, k = m + 1 := ⟨k - 1, by omega⟩
    refine ⟨-1, ?_, ?_⟩
    · simp only [slices_IndexFunc_impl_FirstBadOpening_1.l0]; rw [if_neg (by omega)]
    · rw [List.drop_of_length_le (by omega)]; simp
  | succ d ih =>
    intro k i hi hk
    obtain ⟨k, rfl⟩ : ∃ m, k = m + 1 := ⟨k - 1, by omega⟩
    have hi' : i < l.length := by omega
    obtain ⟨r, h1, h2⟩ := ih k (i + 1) (by omega) (by omega)
    simp only [slices_IndexFunc_impl_FirstBadOpening_1.l0]
    rw [if_pos (by omega), if_pos (by omega), if_pos (by omega), rd_open l i hi', show impl_FirstBadOpening_1.f l[i].f0 l[i].f1 = some (!openB l[i]) from by unfold impl_FirstBadOpening_1.f openB; rw [goodOpening_f]; rfl, Option.bind_some, w64i (by omega) (by omega), show ((i : Int) + 1) = ((i + 1 : Nat) : Int) from by omega, List.drop_eq_getElem_cons hi', List.all_cons]
    cases openB l[i] with
    | true => exact ⟨r, by simpa using h1, by simpa using h2⟩
    | false => exact ⟨(i : Int), by simp, by simp⟩
theorem specO_l (x : List S25) (l : List S55) (hl : l.length ≤ 1048576) (r : Int × Bool) (hr : (l.all openB) = true → Ev (fun k => spec_FirstBadOpening.l1 k x l x (x.length : Int) 0) r) (d : Nat) : ∀ (i : Nat), i + d = l.length → ((l.take i).all openB) = true → Ev (fun k => spec_FirstBadOpening.l0 k x l l (l.length : Int) (i : Int)) (if (l.all openB) = true then r else (0, false)) := by
  induction d with
  | zero =>
    intro i hi ht
    have ht' : (l.all openB) = true := by rwa [List.take_of_length_le (by omega)] at ht
    rw [if_pos ht']
    refine Ev.step (fun k => ?_) (hr ht')
    simp only [spec_FirstBadOpening.l0]; rw [if_neg (by omega)]
  | succ d ih =>
    intro i hi ht
    have hi' : i < l.length := by omega
    have e : spec_eOpening.f l[i].f0 l[i].f1 = some (openB l[i]) := by rw [eOpening_f]; rfl
    cases c : openB l[i] with
    | true =>
      refine Ev.step (fun k => ?_) (ih (i + 1) (by omega) (by rw [List.take_succ_eq_append_getElem hi', List.all_append, ht]; simp [c]))
      simp only [spec_FirstBadOpening.l0]
      rw [if_pos (by omega), if_pos (by omega), if_pos (by omega), rd_open l i hi', e, Option.bind_some, c, if_pos rfl, w64i (by omega) (by omega), show ((i : Int) + 1) = ((i + 1 : Nat) : Int) from by omega]
    | false =>
      have hn : ¬ (l.all openB) = true := by
        intro h
        have := List.all_eq_true.1 h _ (List.getElem_mem hi')
        rw [c] at this; cases this
      rw [if_neg hn]
      refine ⟨1, fun k hk => ?_⟩
      obtain ⟨k, rfl⟩ : ∃ m, k = m + 1 := ⟨k - 1, by omega⟩
      simp only [spec_FirstBadOpening.l0]
      rw [if_pos (by omega), if_pos (by omega), if_pos (by omega), rd_open l i hi', e, Option.bind_some, c]; simp
theorem opens_l (x : List S25) (l : List S55) (hl : x.length ≤ 1048576) (hxl : l.length = x.length) (hx : x.all goodB = true) (ho : l.all openB = true) (d : Nat) : ∀ (i : Nat), i + d = x.length → ∃ r, Ev (fun k => spec_FirstBadOpening.l1 k x l x (x.length : Int) (i : Int)) r ∧ Ev (fun k => impl_FirstBadOpening.l0 k x l x (x.length : Int) (i : Int)) r := by
  induction d with
  | zero =>
    intro i hi
    refine ⟨((x.length : Int), true), ⟨1, fun k hk => ?_⟩, ⟨1, fun k hk => ?_⟩⟩
    · obtain ⟨k, rfl⟩ : ∃ m, k = m + 1 := ⟨k - 1, by omega⟩
      simp only [spec_FirstBadOpening.l1]; rw [if_neg (by omega)]
    · obtain ⟨k, rfl⟩ : ∃ m, k = m + 1 := ⟨k - 1, by omega⟩
      simp only [impl_FirstBadOpening.l0]; rw [if_neg (by omega)]
  | succ d ih =>
    intro i hi
    have hi' : i < x.length := by omega
    have hi2 : i < l.length := by omega
    have g1 := List.all_eq_true.1 hx _ (List.getElem_mem hi')
    have g2 := List.all_eq_true.1 ho _ (List.getElem_mem hi2)
    have g3 := g2
    have g4 := g1
    simp only [openB, Bool.and_eq_true, decide_eq_true_eq] at g3
    simp only [goodB, Bool.and_eq_true, decide_eq_true_eq] at g4
    obtain ⟨K1, e1⟩ := eSeal_ev x[i].f0 x[i].f1 l[i].f0 l[i].f1 g3.2
    obtain ⟨K2, e2⟩ := implSO_ev x[i].f0 x[i].f1 l[i].f0 l[i].f1
    have hv : soV x[i].f0 x[i].f1 l[i].f0 l[i].f1 = (x[i].f0, x[i].f1, sealV x[i].f0 x[i].f1 l[i].f0 l[i].f1, true) := by unfold soV; rw [if_pos ⟨g4.1.1, g4.1.2, g4.2.1.1, g4.2.1.2, g3.1.1, g3.1.2, g3.2⟩]
    rw [hv] at e2
    dsimp only at e1 e2
    have f1 : ∀ k, K1 ≤ k → spec_eOpens.f k x[i].f0 x[i].f1 x[i].f2 l[i].f0 l[i].f1 = some (sealV x[i].f0 x[i].f1 l[i].f0 l[i].f1 == x[i].f2) := fun k hk => by simp [spec_eOpens.f, e1 k hk]
    have f2 : ∀ k, K2 ≤ k → impl_OpensTo.f k x[i].f0 x[i].f1 x[i].f2 l[i].f0 l[i].f1 = some (sealV x[i].f0 x[i].f1 l[i].f0 l[i].f1 == x[i].f2, true) := fun k hk => by
      have hc : (x[i].f2 == sealV x[i].f0 x[i].f1 l[i].f0 l[i].f1) = (sealV x[i].f0 x[i].f1 l[i].f0 l[i].f1 == x[i].f2) := Bool.beq_comm
      simp only [impl_OpensTo.f, implSealed_f, goodOpening_f, g1, Option.bind_some, if_true, e2 k hk]
      rw [show (decide (0 ≤ l[i].f0 ∧ l[i].f0 ≤ 4611686016279904236) && decide ((l[i].f1.size : Int) ≤ 150)) = true from g2]
      simp [hc]
    obtain ⟨r, h1, h2⟩ := ih (i + 1) (by omega)
    cases c : (sealV x[i].f0 x[i].f1 l[i].f0 l[i].f1 == x[i].f2) with
    | true =>
      rw [c] at f1 f2
      obtain ⟨L1, h1⟩ := h1
      obtain ⟨L2, h2⟩ := h2
      dsimp only at h1 h2
      refine ⟨r, ⟨K1 + L1 + 1, fun k hk => ?_⟩, ⟨K2 + L2 + 1, fun k hk => ?_⟩⟩
      · obtain ⟨k, rfl⟩ : ∃ m, k = m + 1 := ⟨k - 1, by omega⟩
        simp only [spec_FirstBadOpening.l1]
        rw [if_pos (by omega), if_pos (by omega), if_pos (by omega), if_pos (by omega), rd_sealed x i hi', rd_open l i hi2, f1 k (by omega), Option.bind_some, if_pos rfl, w64i (by omega) (by omega), show ((i : Int) + 1) = ((i + 1 : Nat) : Int) from by omega]
        exact h1 k (by omega)
      · obtain ⟨k, rfl⟩ : ∃ m, k = m + 1 := ⟨k - 1, by omega⟩
        simp only [impl_FirstBadOpening.l0]
        rw [if_pos (by omega), if_pos (by omega), if_pos (by omega), if_pos (by omega), rd_sealed x i hi', rd_open l i hi2, f2 k (by omega), Option.bind_some, if_pos rfl, w64i (by omega) (by omega), show ((i : Int) + 1) = ((i + 1 : Nat) : Int) from by omega]
        exact h2 k (by omega)
    | false =>
      rw [c] at f1 f2
      refine ⟨((i : Int), true), ⟨K1 + 1, fun k hk => ?_⟩, ⟨K2 + 1, fun k hk => ?_⟩⟩
      · obtain ⟨k, rfl⟩ : ∃ m, k = m + 1 := ⟨k - 1, by omega⟩
        simp only [spec_FirstBadOpening.l1]
        rw [if_pos (by omega), if_pos (by omega), if_pos (by omega), if_pos (by omega), rd_sealed x i hi', rd_open l i hi2, f1 k (by omega), Option.bind_some]; simp
      · obtain ⟨k, rfl⟩ : ∃ m, k = m + 1 := ⟨k - 1, by omega⟩
        simp only [impl_FirstBadOpening.l0]
        rw [if_pos (by omega), if_pos (by omega), if_pos (by omega), if_pos (by omega), rd_sealed x i hi', rd_open l i hi2, f2 k (by omega), Option.bind_some]; simp
theorem FnExactFirstBadOpening : ∀ (x0 : List (S23)) (x1 : List (S51)), (x0.length ≤ maxLen ∧ ∀ a ∈ x0, Rd.G23 a) → (x1.length ≤ maxLen ∧ ∀ a ∈ x1, Rd.G51 a) → ∃ k, laws_FnExactFirstBadOpening.f k x0 x1 = some true := by
  intro l o hl0 ho0
  obtain ⟨ho1, ho2⟩ := ho0
  have hlm : l.length ≤ 9223372036854775807 := hl0.1
  have hom : o.length ≤ 9223372036854775807 := ho1
  by_cases hz : (1048576 : Int) - (l.length : Int) < 0
  · exact ⟨0, by unfold laws_FnExactFirstBadOpening.f laws_szSealedS.f; rw [w64 (by omega) (by omega), if_pos hz]; rfl⟩
  have hz' : laws_szSealedS.f l 1048576 = some (1048576 - (l.length : Int)) := by unfold laws_szSealedS.f; rw [w64 (by omega) (by omega), if_neg hz]
  by_cases hy : (1048576 : Int) - (l.length : Int) - (o.length : Int) < 0
  · exact ⟨0, by unfold laws_FnExactFirstBadOpening.f; rw [hz', Option.bind_some, if_neg hz]; unfold laws_szOpeningS.f; rw [w64 (by omega) (by omega), if_pos hy]; rfl⟩
  obtain ⟨z, hzo⟩ := szOpeningS_l o (by omega) (fun a ha => (ho2 a ha).2) o.length (o.length + 1) 0 ((1048576 : Int) - (l.length : Int) - (o.length : Int)) (by omega) (by omega) (by omega) (by omega)
  rw [show ((0 : Nat) : Int) = 0 from rfl] at hzo
  have hzo' : ∀ k, o.length + 1 ≤ k → laws_szOpeningS.f k o (1048576 - (l.length : Int)) = some z := fun k hk => by
    have := at_rounds (fun k => laws_szOpeningS.mono_l k o ((1048576 : Int) - (l.length : Int) - (o.length : Int)) 0) hk hzo
    unfold laws_szOpeningS.f; rw [w64 (by omega) (by omega), if_neg hy]; exact this
  by_cases hzn : z < 0
  · exact ⟨o.length + 1, by unfold laws_FnExactFirstBadOpening.f; rw [hz', Option.bind_some, if_neg hz, hzo' _ (Nat.le_refl _), Option.bind_some, if_pos hzn]⟩
  have hlen : (l.map toSealed).length = l.length := by simp
  have hlen2 : (o.map toOpen).length = o.length := by simp
  obtain ⟨K5, h5⟩ := toSealedS_ev l (by omega)
  obtain ⟨K7, h7⟩ := toOpeningS_ev o (by omega)
  generalize l.map toSealed = m at *
  generalize o.map toOpen = n at *
  have key : ∃ r, Ev (fun k => spec_FirstBadOpening.f k m n) r ∧ Ev (fun k => impl_FirstBadOpening.f k m n) r := by
    obtain ⟨K1, h1⟩ := eList_ev m (by omega)
    obtain ⟨K2, h2⟩ := areSealed_ev m (by omega)
    dsimp only at h1 h2
    have J : ∀ k : Nat, 1 ≤ k → ∃ m, k = m + 1 := fun k hk => ⟨k - 1, by omega⟩
    cases c1 : listB m with
    | false =>
      rw [c1] at h1 h2
      exact ⟨(0, false), ⟨K1 + 1, fun k hk => by obtain ⟨k, rfl⟩ := J k (by omega); simp (disch := omega) [spec_FirstBadOpening.f, h1, spec_FirstBadOpening.j0]⟩, ⟨K2 + 1, fun k hk => by obtain ⟨k, rfl⟩ := J k (by omega); simp (disch := omega) [impl_FirstBadOpening.f, h2, impl_FirstBadOpening.j0]⟩⟩
    | true =>
      rw [c1] at h1 h2
      have hgood : m.all goodB = true := by
        have := c1
        simp only [listB, Bool.and_eq_true] at this
        exact this.2
      by_cases c2 : (n.length : Int) = (m.length : Int)
      · have hb : ((n.length : Int) != (m.length : Int)) = false := by simp [c2]
        by_cases c3 : n.all openB = true
        · obtain ⟨r, g1, g2⟩ := opens_l m n (by omega) (by omega) hgood c3 m.length 0 (by omega)
          have g3 := specO_l m n (by omega) r (fun _ => g1) n.length 0 (by omega) (by simp)
          rw [if_pos c3] at g3
          obtain ⟨L1, g3⟩ := g3
          obtain ⟨L2, g2⟩ := g2
          dsimp only at g2 g3
          refine ⟨r, ⟨K1 + L1 + 1, fun k hk => ?_⟩, ⟨K2 + L2 + n.length + 2, fun k hk => ?_⟩⟩
          · obtain ⟨k, rfl⟩ := J k (by omega)
            simp only [spec_FirstBadOpening.f, h1 (k + 1) (by omega), Option.bind_some, if_true, hb, spec_FirstBadOpening.j0, Bool.false_eq_true, if_false]
            exact g3 k (by omega)
          · obtain ⟨k, rfl⟩ := J k (by omega)
            obtain ⟨q, q1, q2⟩ := badO_l n (by omega) n.length (k + 1) 0 (by omega) (by omega)
            rw [show ((0 : Nat) : Int) = 0 from rfl] at q1
            rw [List.drop_zero, c3] at q2
            simp only [impl_FirstBadOpening.f, h2 (k + 1) (by omega), Option.bind_some, if_true, c2, slices_ContainsFunc_impl_FirstBadOpening_1.f, slices_IndexFunc_impl_FirstBadOpening_1.f]
            rw [← c2, q1, Option.bind_some, Option.bind_some, q2]
            simp only [impl_FirstBadOpening.j0, Bool.not_true, Bool.false_eq_true, if_false]
            exact g2 k (by omega)
        · have g3 := specO_l m n (by omega) (0, false) (fun h => absurd h c3) n.length 0 (by omega) (by simp)
          rw [if_neg c3] at g3
          rw [Bool.not_eq_true] at c3
          obtain ⟨L1, g3⟩ := g3
          dsimp only at g3
          refine ⟨(0, false), ⟨K1 + L1 + 1, fun k hk => ?_⟩, ⟨K2 + n.length + 2, fun k hk => ?_⟩⟩
          · obtain ⟨k, rfl⟩ := J k (by omega)
            simp only [spec_FirstBadOpening.f, h1 (k + 1) (by omega), Option.bind_some, if_true, hb, spec_FirstBadOpening.j0, Bool.false_eq_true, if_false]
            exact g3 k (by omega)
          · obtain ⟨k, rfl⟩ := J k (by omega)
            obtain ⟨q, q1, q2⟩ := badO_l n (by omega) n.length (k + 1) 0 (by omega) (by omega)
            rw [show ((0 : Nat) : Int) = 0 from rfl] at q1
            rw [List.drop_zero, c3] at q2
            simp only [impl_FirstBadOpening.f, h2 (k + 1) (by omega), Option.bind_some, if_true, c2, slices_ContainsFunc_impl_FirstBadOpening_1.f, slices_IndexFunc_impl_FirstBadOpening_1.f]
            rw [← c2, q1, Option.bind_some, Option.bind_some, q2]
            simp only [impl_FirstBadOpening.j0, Bool.not_false, if_true]
      · have hb : ((n.length : Int) != (m.length : Int)) = true := bne_iff_ne.mpr c2
        exact ⟨(0, false), ⟨K1 + 1, fun k hk => by obtain ⟨k, rfl⟩ := J k (by omega); simp only [spec_FirstBadOpening.f, h1 (k + 1) (by omega), Option.bind_some, if_true, hb, spec_FirstBadOpening.j0]⟩, ⟨K2 + 1, fun k hk => by obtain ⟨k, rfl⟩ := J k (by omega); simp only [impl_FirstBadOpening.f, h2 (k + 1) (by omega), Option.bind_some, if_true, if_neg c2, impl_FirstBadOpening.j0]⟩⟩
  obtain ⟨r, ⟨K1, h1⟩, ⟨K2, h2⟩⟩ := key
  obtain ⟨K6, h6⟩ := eqSealedS_ev m (by omega)
  obtain ⟨K8, h8⟩ := eqOpeningS_ev n (by omega)
  dsimp only at h1 h2 h5 h6 h7 h8
  refine ⟨K1 + K2 + K5 + K6 + K7 + K8 + o.length + 2, ?_⟩
  simp (disch := omega) only [laws_FnExactFirstBadOpening.f, hz', hz, hzo', hzn, if_false, h1, h2, h5, h7, Option.bind_some, if_true, bne_self_eq_false]
  simp (disch := omega) only [laws_FnExactFirstBadOpening.j0, h5, h6, h7, h8, if_false, Bool.false_eq_true, Option.bind_some, if_true]

end Go.Proofs.Ytgjdonadnofdlaa.Pure
