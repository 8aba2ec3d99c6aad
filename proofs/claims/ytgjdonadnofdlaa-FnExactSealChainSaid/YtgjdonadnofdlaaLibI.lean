/- Plain lemmas on the statements' own helpers over lists of whole numbers: a copy is the list, a list equals itself, marks are held. -/
import Derived.Test.YtgjdonadnofdlaaPx24
import Derived.Test.YtgjdonadnofdlaaPx26
import Derived.Test.YtgjdonadnofdlaaPx30
namespace Go.Proofs.Ytgjdonadnofdlaa.Pure
open Go.RowKit Go.Proofs.Ytgjdonadnofdlaa.P Go.Proofs.YtgjdonadnofdlaaW.PrintWords Go.Proofs.YtgjdonadnofdlaaW.PrintLast
set_option linter.unusedVariables false
set_option linter.unusedSimpArgs false

theorem w64i {x : Int} (h0 : -9223372036854775808 ≤ x) (h1 : x ≤ 9223372036854775807) : wrap64 x = x := by unfold wrap64; omega
theorem rd_nat (l : List Int) (i : Nat) : rd l (i : Int) = l.getD i 0 := by unfold rd; simp
theorem eqIntS_l (l : List Int) (hl : l.length ≤ 100000000000000) (d : Nat) : ∀ (k i : Nat), i + d = l.length → d < k → laws_eqIntS.l0 k l l (i : Int) = some true := by
  induction d with
  | zero =>
    intro k i hi hk
    obtain ⟨k, rfl⟩ : ∃ m, k = m + 1 := ⟨k - 1, by omega⟩
    simp only [laws_eqIntS.l0]; rw [if_neg (by omega)]
  | succ d ih =>
    intro k i hi hk
    obtain ⟨k, rfl⟩ : ∃ m, k = m + 1 := ⟨k - 1, by omega⟩
    simp only [laws_eqIntS.l0]
    rw [if_pos (by omega), if_pos (by omega), if_pos (by omega), if_pos trivial, w64i (by omega) (by omega), show ((i : Int) + 1) = ((i + 1 : Nat) : Int) from by omega]
    exact ih k (i + 1) (by omega) (by omega)
theorem eqIntS_ev (l : List Int) (hl : l.length ≤ 100000000000000) : Ev (fun k => laws_eqIntS.f k l l) true :=
  ⟨l.length + 1, fun k hk => by unfold laws_eqIntS.f; dsimp only; rw [if_pos rfl]; exact eqIntS_l l hl l.length k 0 (by omega) hk⟩
theorem take_set_drop {α : Type} (l x : List α) (z : α) (i : Nat) (hi : i < l.length) (hx : x.length = l.length) (h : x.take i = l.take i) : (x.set i (l.getD i z)).take (i + 1) = l.take (i + 1) := by
  rw [List.take_succ_eq_append_getElem (by simp; omega), List.take_succ_eq_append_getElem hi, List.take_set_of_le (Nat.le_refl _), h]
  simp [List.getD_eq_getElem?_getD, hi]
theorem toIntS_l (l : List Int) (hl : l.length ≤ 100000000000000) (d : Nat) : ∀ (k i : Nat) (x : List Int), i + d = l.length → d < k → x.length = l.length → x.take i = l.take i → laws_toIntS.l0 k l x (i : Int) = some l := by
  induction d with
  | zero =>
    intro k i x hi hk hx ht
    obtain ⟨k, rfl⟩ : ∃ m, k = m + 1 := ⟨k - 1, by omega⟩
    simp only [laws_toIntS.l0]; rw [if_neg (by omega)]
    rw [List.take_of_length_le (by omega), List.take_of_length_le (by omega)] at ht
    rw [ht]
  | succ d ih =>
    intro k i x hi hk hx ht
    obtain ⟨k, rfl⟩ : ∃ m, k = m + 1 := ⟨k - 1, by omega⟩
    simp only [laws_toIntS.l0]
    rw [if_pos (by omega), if_pos (by omega), if_pos (by omega), w64i (by omega) (by omega), rd_nat, Int.toNat_natCast, show ((i : Int) + 1) = ((i + 1 : Nat) : Int) from by omega]
    exact ih k (i + 1) _ (by omega) (by omega) (by simp; omega) (take_set_drop l x 0 i (by omega) hx ht)
theorem toIntS_ev (l : List Int) (hl : l.length ≤ 17592186044416) : Ev (fun k => laws_toIntS.f k l) l :=
  ⟨l.length + 1, fun k hk => by unfold laws_toIntS.f; dsimp only; rw [if_pos (by omega), if_pos (by omega)]; exact toIntS_l l (by omega) l.length k 0 _ (by omega) hk (by simp) (by simp)⟩
/-- The marks m, m + 1, .. -/
def marks : Nat → Int → List Int
  | 0, _ => []
  | n + 1, m => m :: marks n (m + 1)
theorem marks_length : ∀ (n : Nat) (m : Int), (marks n m).length = n
  | 0, _ => rfl
  | n + 1, m => by simp [marks, marks_length n]
theorem marks_getD : ∀ (n : Nat) (m : Int) (i : Nat), i < n → (marks n m).getD i 0 = m + i
  | 0, _, i, h => by omega
  | n + 1, m, 0, h => by simp [marks]
  | n + 1, m, i + 1, h => by
    have := marks_getD n (m + 1) i (by omega)
    simp only [marks, List.getD_cons_succ, this]; omega
theorem marks_set_take (n : Nat) (m : Int) (x : List Int) (i : Nat) (hi : i < n) (hx : x.length = n) (h : x.take i = (marks n m).take i) : (x.set i (m + i)).take (i + 1) = (marks n m).take (i + 1) := by
  rw [← marks_getD n m i hi]
  exact take_set_drop (marks n m) x 0 i (by rw [marks_length]; exact hi) (by rw [marks_length]; exact hx) h
theorem markIntS_l (n : Nat) (m : Int) (hn : n ≤ 100000000000000) (h0 : -1000000000000000 ≤ m) (h1 : m ≤ 1000000000000000) (d : Nat) : ∀ (k i : Nat) (x : List Int), i + d = n → d < k → x.length = n → x.take i = (marks n m).take i → laws_markIntS.l0 k x (m + i) (i : Int) = some (m + n, marks n m) := by
  induction d with
  | zero =>
    intro k i x hi hk hx ht
    obtain ⟨k, rfl⟩ : ∃ m, k = m + 1 := ⟨k - 1, by omega⟩
    simp only [laws_markIntS.l0]; rw [if_neg (by omega)]
    rw [List.take_of_length_le (by omega), List.take_of_length_le (by rw [marks_length]; omega)] at ht
    rw [ht, show i = n from by omega]
  | succ d ih =>
    intro k i x hi hk hx ht
    obtain ⟨k, rfl⟩ : ∃ m, k = m + 1 := ⟨k - 1, by omega⟩
    simp only [laws_markIntS.l0]
    rw [if_pos (by omega), if_pos (by omega), w64i (x := m + (i : Int) + 1) (by omega) (by omega), w64i (x := (i : Int) + 1) (by omega) (by omega), Int.toNat_natCast, show ((i : Int) + 1) = ((i + 1 : Nat) : Int) from by omega, show m + (i : Int) + 1 = m + ((i + 1 : Nat) : Int) from by omega]
    exact ih k (i + 1) _ (by omega) (by omega) (by simp; omega) (marks_set_take n m x i (by omega) hx ht)
theorem markIntS_ev (l : List Int) (m : Int) (hn : l.length ≤ 100000000000000) (h0 : -1000000000000000 ≤ m) (h1 : m ≤ 1000000000000000) : Ev (fun k => laws_markIntS.f k l m) (m + l.length, marks l.length m) :=
  ⟨l.length + 1, fun k hk => by
    have := markIntS_l l.length m hn h0 h1 l.length k 0 l (by omega) hk rfl (by simp)
    unfold laws_markIntS.f; simpa using this⟩
theorem heldIntS_l (n : Nat) (m : Int) (hn : n ≤ 100000000000000) (h0 : -1000000000000000 ≤ m) (h1 : m ≤ 1000000000000000) (d : Nat) : ∀ (k i : Nat), i + d = n → d < k → laws_heldIntS.l0 k (marks n m) (m + i) (i : Int) = some (m + n) := by
  induction d with
  | zero =>
    intro k i hi hk
    obtain ⟨k, rfl⟩ : ∃ m, k = m + 1 := ⟨k - 1, by omega⟩
    simp only [laws_heldIntS.l0, marks_length]; rw [if_neg (by omega), show i = n from by omega]
  | succ d ih =>
    intro k i hi hk
    obtain ⟨k, rfl⟩ : ∃ m, k = m + 1 := ⟨k - 1, by omega⟩
    simp only [laws_heldIntS.l0, marks_length]
    rw [if_pos (by omega), if_pos (by omega), rd_nat, marks_getD n m i (by omega), if_pos rfl, w64i (x := m + (i : Int) + 1) (by omega) (by omega), w64i (x := (i : Int) + 1) (by omega) (by omega), show ((i : Int) + 1) = ((i + 1 : Nat) : Int) from by omega, show m + (i : Int) + 1 = m + ((i + 1 : Nat) : Int) from by omega]
    exact ih k (i + 1) (by omega) (by omega)
theorem heldIntS_ev (n : Nat) (m : Int) (hn : n ≤ 100000000000000) (h0 : -1000000000000000 ≤ m) (h1 : m ≤ 1000000000000000) : Ev (fun k => laws_heldIntS.f k (marks n m) m) (m + n) :=
  ⟨n + 1, fun k hk => by
    have := heldIntS_l n m hn h0 h1 n k 0 (by omega) hk
    unfold laws_heldIntS.f; simpa using this⟩
end Go.Proofs.Ytgjdonadnofdlaa.Pure
