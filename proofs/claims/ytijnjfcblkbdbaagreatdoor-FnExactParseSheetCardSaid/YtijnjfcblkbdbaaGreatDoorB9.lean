import Derived.Test.YtijnjfcblkbdbaaGreatDoorB3
import Derived.Test.YtijnjfcblkbdbaaGreatDoorB5
set_option linter.unusedSimpArgs false
set_option linter.unusedVariables false
set_option maxRecDepth 100000
set_option maxHeartbeats 2000000
namespace Go.Abs.W
open Go Go.Abs Classical
attribute [-simp] Bool.decide_and
/-- What the texts ask of an order. -/
structure OrdT (o : Order) : Prop where
  unit : 0 ≤ o.unit ∧ o.unit < 1000000
  path : PathOK o.path
  attack : -1 ≤ o.attack ∧ o.attack < 1000000
theorem nextM_lt {m : Map} (h : Dim m) (i d : Int) : nextM m i d < 1000000 := by
  unfold nextM indexM
  split
  · rename_i hh
    have h1 := h.w; have h2 := h.h
    have := mul_bounds (a := i / m.width + dr d) (b := m.width) (x := 10) (y := 10) (by omega) (by omega)
    omega
  · decide
theorem fault_ordT {b : Board} {s : State} {side : Int} {o : Order} (h : StateOK b s) (hf : faultM b s side o = 0) : OrdT o := by
  unfold faultM at hf
  by_cases h1 : Placed s side o.unit
  rotate_left
  · simp [h1] at hf
  by_cases h2 : OWay b s o
  rotate_left
  · simp [h1, h2] at hf
  have hu := h1.1
  have hlen := h.len
  refine ⟨⟨hu.1, by have := hu.2; omega⟩, h2.1, ?_⟩
  by_cases h3 : o.attack = -1
  · omega
  by_cases h4 : 0 ≤ sideM b.map (endM b s o) o.attack
  · obtain ⟨d, _, h5, h6⟩ := firstIx_pos.1 h4
    have := nextM_lt h.board.map.dim (endM b s o) d
    omega
  · simp only [h1, h2, h3, h4, not_true, if_false] at hf
    split at hf <;> simp at hf
theorem sheet_ordT {b : Board} {s : State} {x : Sheet} (h : StateOK b s) (hx : SheetOK b s x) : ∀ o ∈ x.orders, OrdT o := by
  intro o ho
  obtain ⟨n, hn⟩ := List.mem_iff_getElem?.1 ho
  have hlt := (List.getElem?_eq_some_iff.1 hn).1
  have hz : codeM b s x.side x.orders n = 0 := by
    have h2 := hx.2
    unfold firstBad at h2
    split at h2
    · rename_i k hk
      have := List.find?_some hk
      simp only [decide_eq_true_eq] at this
      exact absurd h2 this
    · rename_i hk
      have := List.find?_range_eq_none.1 hk n hlt
      simpa using this
  unfold codeM at hz
  rw [hn] at hz
  dsimp only at hz
  split at hz
  · cases hz
  · exact fault_ordT h hz
/-- Directions as digits. -/
def digitsB (p : List Int) : List UInt8 := if p = [] then [45] else p.flatMap Lib.itoa
def placeB (i : Int) : List UInt8 := if i < 0 then [45] else Lib.itoa i
def lineB (o : Order) : List UInt8 := Lib.itoa o.unit ++ 32 :: (digitsB o.path ++ 32 :: (placeB o.attack ++ [10]))
def sheetB (x : Sheet) : List UInt8 := [115, 105, 100, 101, 32] ++ Lib.itoa x.side ++ 10 :: x.orders.flatMap lineB
theorem flat_len {p : List Int} (hp : ∀ d ∈ p, 0 ≤ d ∧ d ≤ 5) : (p.flatMap Lib.itoa).length ≤ 20 * p.length := by
  induction p with
  | nil => simp
  | cons d p ih =>
    have h1 := ih fun e he => hp e (by simp [he])
    have h2 := hp d (by simp)
    have h3 := itoa_len d (by omega) (by omega)
    simp at h1 ⊢; omega
theorem digits_len {p : List Int} (hp : PathOK p) : (digitsB p).length ≤ 180 := by
  unfold digitsB
  split
  · simp
  · have := flat_len hp.2
    have := hp.1
    omega
theorem place_len {i : Int} (h : -1 ≤ i ∧ i < 1000000) : (placeB i).length ≤ 20 := by
  unfold placeB
  split
  · simp
  · exact itoa_len i (by omega) (by omega)
theorem line_len {o : Order} (h : OrdT o) : (lineB o).length ≤ 223 := by
  have h1 := itoa_len o.unit (by have := h.unit; omega) (by have := h.unit; omega)
  have h2 := digits_len h.path
  have h3 := place_len h.attack
  simp [lineB]; omega
theorem lines_len {l : List Order} (h : ∀ o ∈ l, OrdT o) : (l.flatMap lineB).length ≤ 223 * l.length := by
  induction l with
  | nil => simp
  | cons o l ih =>
    have h1 := ih fun e he => h e (by simp [he])
    have h2 := line_len (h o (by simp))
    simp at h1 ⊢; omega
theorem c_impl_digitsText (p : List Int) (h : PathOK p) : C n_impl_digitsText [Li p] = some (St (bs (digitsB p))) := by
  refine callC p_impl_digitsText rfl ?_
  have hlen := h.1
  by_cases h0 : p = []
  · subst h0
    simp [xRun, a_impl_digitsText, ints, digitsB]
  have hl0 : ¬ (p.length : Int) = 0 := fun hh => h0 (List.length_eq_zero_iff.1 (by omega))
  simp [xRun, a_impl_digitsText, ints_length, h0]
  refine list_loop p (by omega) (fun i (_ : Unit) => [(3, St (bs ((p.take i).flatMap Lib.itoa))), (11, I (i : Int))]) (fun _ _ => True) default (by simp) trivial ?_ ?_
  · intro N E i a s ha hi hm ht hwi _ hN hE
    have hd := h.2 a hm
    have e1 := c_strconv_Itoa a (by omega) (by omega)
    have e2 := flat_len (p := p.take i) fun d hd => h.2 d (List.mem_of_mem_take hd)
    have e3 := itoa_len a (by omega) (by omega)
    have e4 : (p.take (i + 1)).flatMap Lib.itoa = (p.take i).flatMap Lib.itoa ++ Lib.itoa a := by rw [ht]; simp
    rw [List.length_take] at e2
    have e5 : (bs ((p.take i).flatMap Lib.itoa)).size + (numT a).size ≤ 1099511627776 := by rw [bs_size, bs_size]; omega
    generalize (p.take i).flatMap Lib.itoa = L at e4 e5
    simp [bodyF, b_impl_digitsText_0, hi, ints_length, ints_get ha, ints_at ha, hwi, e1, e5, bs_append]
    exact hN _ s (by simp [e4]) trivial
  · intro N E s _ hE
    simp [bodyF, b_impl_digitsText_0, ints_length]
    exact hE _ _ fun st => by simp [digitsB, h0]
theorem c_impl_placeText (i : Int) (h : -1 ≤ i ∧ i < 1000000) : C n_impl_placeText [I i] = some (St (bs (placeB i))) := by
  refine callC p_impl_placeText rfl ?_
  unfold placeB
  have e1 := c_strconv_Itoa i (by omega) (by omega)
  by_cases hc : i < 0
  · simp [xRun, a_impl_placeText, hc]
  · simp [xRun, a_impl_placeText, hc, e1]
theorem bsl_append (a b : List UInt8) : bs a ++ bs b = bs (a ++ b) := bs_append a b
theorem c_impl_sheetText (x : Sheet) (hs : 0 ≤ x.side ∧ x.side ≤ 1) (hl : x.orders.length ≤ 12) (h : ∀ o ∈ x.orders, OrdT o) : C n_impl_sheetText [SheetV false x] = some (St (bs (sheetB x))) := by
  refine callC p_impl_sheetText rfl ?_
  have e1 := c_impl_wordsText [115, 105, 100, 101] [x.side] (by simp) (by simp) (by simp; omega)
  dsimp only [Li, ints, List.map] at e1
  have e2 : (bs [115, 105, 100, 101]) = ⟨#[115, 105, 100, 101]⟩ := rfl
  rw [e2] at e1
  have e3 : wordsB [115, 105, 100, 101] [x.side] = [115, 105, 100, 101, 32] ++ Lib.itoa x.side := by simp [wordsB, Lib.join_cons, Lib.joinTail]
  have e4 := itoa_len x.side (by omega) (by omega)
  have c1 : (⟨#[10]⟩ : ByteArray) = bs [10] := rfl
  have c2 : (⟨#[32]⟩ : ByteArray) = bs [32] := rfl
  have hsz : (bs (wordsB [115, 105, 100, 101] [x.side])).size + (bs [10]).size ≤ 1099511627776 := by rw [bs_size, bs_size, e3]; simp; omega
  simp [xRun, a_impl_sheetText, e1, c1, hsz, bs_append]
  refine list_loop x.orders (by omega) (fun i (_ : Unit) => [(3, St (bs (wordsB [115, 105, 100, 101] [x.side] ++ [10] ++ (x.orders.take i).flatMap lineB))), (14, I (i : Int))]) (fun _ _ => True) default (by simp) trivial ?_ ?_
  · intro N E i a st ha hi hm ht hwi _ hN hE
    have ho := h a hm
    have g1 := c_strconv_Itoa a.unit (by have := ho.unit; omega) (by have := ho.unit; omega)
    have g2 := c_impl_digitsText a.path ho.path
    have g3 := c_impl_placeText a.attack ho.attack
    have l1 := itoa_len a.unit (by have := ho.unit; omega) (by have := ho.unit; omega)
    have l2 := digits_len ho.path
    have l3 := place_len ho.attack
    have l4 := lines_len (l := x.orders.take i) fun o ho => h o (List.mem_of_mem_take ho)
    have q1 : (wordsB [115, 105, 100, 101] [x.side] ++ [10] ++ (x.orders.take (i + 1)).flatMap lineB) = (wordsB [115, 105, 100, 101] [x.side] ++ [10] ++ (x.orders.take i).flatMap lineB) ++ lineB a := by rw [ht]; simp
    have q2 : lineB a = Lib.itoa a.unit ++ [32] ++ digitsB a.path ++ [32] ++ placeB a.attack ++ [10] := by simp [lineB]
    have q3 : (wordsB [115, 105, 100, 101] [x.side] ++ [10] ++ (x.orders.take i).flatMap lineB).length ≤ 10000 := by rw [e3]; simp at l4 ⊢; omega
    rw [q1, q2] at hN
    generalize (wordsB [115, 105, 100, 101] [x.side] ++ [10] ++ (x.orders.take i).flatMap lineB) = L at hN q3 ⊢
    dsimp only [numT] at g1
    generalize Lib.itoa a.unit = u at g1 l1 hN
    generalize digitsB a.path = p at g2 l2 hN
    generalize placeB a.attack = k at g3 l3 hN
    have z1 : u.length ≤ 1099511627775 := by omega
    have z2 : u.length + 1 + p.length ≤ 1099511627776 := by omega
    have z3 : u.length + 1 + p.length ≤ 1099511627775 := by omega
    have z4 : u.length + 1 + p.length + 1 + k.length ≤ 1099511627776 := by omega
    have z5 : u.length + 1 + p.length + 1 + k.length ≤ 1099511627775 := by omega
    have z6 : L.length + (u.length + 1 + p.length + 1 + k.length + 1) ≤ 1099511627776 := by omega
    simp [bodyF, b_impl_sheetText_0, hi, ha, at_of ha, Order.enc, hwi, g1, g2, g3, c1, c2, bs_size, bs_append, z1, z2, z3, z4, z5, z6, -List.append_assoc]
    exact hN _ st (by simp) trivial
  · intro N E st _ hE
    simp [bodyF, b_impl_sheetText_0]
    refine hE _ _ fun st => ?_
    rw [e3]
    simp [sheetB]
theorem c_spec_oText (x : Sheet) (hs : 0 ≤ x.side ∧ x.side ≤ 1) (hl : x.orders.length ≤ 12) (h : ∀ o ∈ x.orders, OrdT o) : C n_spec_oText [SheetV false x] = some (St (bs (sheetB x))) := by
  refine callC p_spec_oText rfl ?_
  have e1 := c_spec_l1Num' x.side (by omega) (by omega)
  have e4 := itoa_len x.side (by omega) (by omega)
  have c0 : (⟨#[115, 105, 100, 101, 32]⟩ : ByteArray) = bs [115, 105, 100, 101, 32] := rfl
  have c1 : (⟨#[10]⟩ : ByteArray) = bs [10] := rfl
  have c2 : (⟨#[32]⟩ : ByteArray) = bs [32] := rfl
  have c3 : (⟨#[45]⟩ : ByteArray) = bs [45] := rfl
  have c4 : (⟨#[]⟩ : ByteArray) = bs [] := rfl
  have y1 : 5 + (Lib.itoa x.side).length ≤ 1099511627776 := by omega
  have y2 : 5 + (Lib.itoa x.side).length ≤ 1099511627775 := by omega
  have y3 : (Lib.itoa x.side).length ≤ 1099511627770 := by omega
  dsimp only [numT] at e1
  simp [xRun, a_spec_oText, e1, c0, c1, bs_size, bs_append, y1, y2, y3, -List.append_assoc]
  refine list_loop x.orders (by omega) (fun i (_ : Unit) => [(3, St (bs ([115, 105, 100, 101, 32] ++ Lib.itoa x.side ++ [10] ++ (x.orders.take i).flatMap lineB))), (18, I (i : Int))]) (fun _ _ => True) default (by simp [-List.append_assoc]) trivial ?_ ?_
  · intro N E i a st ha hi hm ht hwi _ hN hE
    have ho := h a hm
    have g1 := c_spec_l1Num' a.unit ho.unit.1 (by have := ho.unit; omega)
    have l1 := itoa_len a.unit (by have := ho.unit; omega) (by have := ho.unit; omega)
    have l2 := digits_len ho.path
    have l3 := place_len ho.attack
    have l4 := lines_len (l := x.orders.take i) fun o ho => h o (List.mem_of_mem_take ho)
    have q1 : ([115, 105, 100, 101, 32] ++ Lib.itoa x.side ++ [10] ++ (x.orders.take (i + 1)).flatMap lineB) = ([115, 105, 100, 101, 32] ++ Lib.itoa x.side ++ [10] ++ (x.orders.take i).flatMap lineB) ++ lineB a := by rw [ht]; simp
    have q2 : lineB a = Lib.itoa a.unit ++ [32] ++ digitsB a.path ++ [32] ++ placeB a.attack ++ [10] := by simp [lineB]
    have q3 : ([115, 105, 100, 101, 32] ++ Lib.itoa x.side ++ [10] ++ (x.orders.take i).flatMap lineB).length ≤ 10000 := by simp at l4 ⊢; omega
    rw [q1, q2] at hN
    generalize ([115, 105, 100, 101, 32] ++ Lib.itoa x.side ++ [10] ++ (x.orders.take i).flatMap lineB) = L at hN q3 ⊢
    simp [bodyF, b_spec_oText_1, hi, ha, at_of ha, Order.enc, ints_length, -List.append_assoc]
    refine list_loopR a.path (by have := ho.path.1; omega) (fun j (_ : Unit) => [(6, St (bs ((a.path.take j).flatMap Lib.itoa))), (25, I (j : Int))]) (fun _ _ => True) default (by simp) trivial ?_ ?_
    · intro N2 E2 j d st2 hd hj hmd htd hwj _ hN2 hE2
      have hdr := ho.path.2 d hmd
      have f1 := c_spec_l1Num' d hdr.1 (by omega)
      have f2 := flat_len (p := a.path.take j) fun d hd => ho.path.2 d (List.mem_of_mem_take hd)
      have f3 := itoa_len d (by omega) (by omega)
      have f4 : (a.path.take (j + 1)).flatMap Lib.itoa = (a.path.take j).flatMap Lib.itoa ++ Lib.itoa d := by rw [htd]; simp
      rw [List.length_take] at f2
      have hpl := ho.path.1
      have f5 : (bs ((a.path.take j).flatMap Lib.itoa)).size + (numT d).size ≤ 1099511627776 := by rw [bs_size, bs_size]; omega
      rw [f4] at hN2
      generalize (a.path.take j).flatMap Lib.itoa = P at f5 hN2
      simp [bodyF, b_spec_oText_0, hj, ints_length, ints_get hd, ints_at hd, hwj, f1, f5, bs_append]
      exact hN2 _ st2 (by simp) trivial
    · intro N2 E2 st2 _ hE2
      have l5 : (a.path.flatMap Lib.itoa).length ≤ 180 := by
        have := flat_len ho.path.2
        have := ho.path.1
        omega
      simp [bodyF, b_spec_oText_0, ints_length]
      refine hE2 _ _ fun st3 => ?_
      dsimp only [numT] at g1
      have hdig : digitsB a.path = if a.path = [] then [45] else a.path.flatMap Lib.itoa := rfl
      have hne : a.path ≠ [] → a.path.flatMap Lib.itoa ≠ [] := fun hp hh => by
        cases hpp : a.path with
        | nil => exact hp hpp
        | cons d r =>
          rw [hpp] at hh
          simp at hh
          have hdr := ho.path.2 d (by rw [hpp]; simp)
          obtain ⟨k, rfl⟩ : ∃ k : Nat, d = k := ⟨d.toNat, by omega⟩
          rw [itoa_nat] at hh
          exact decDigits_ne k hh.1
      have hnil : a.path = [] → a.path.flatMap Lib.itoa = [] := fun hp => by rw [hp]; rfl
      generalize a.path.flatMap Lib.itoa = P at hdig hne hnil l5 ⊢
      have hplace : placeB a.attack = if a.attack < 0 then [45] else Lib.itoa a.attack := rfl
      have g3 : 0 ≤ a.attack → C n_spec_l1Num [I a.attack] = some (St (bs (Lib.itoa a.attack))) := fun hh => c_spec_l1Num' a.attack hh (by have := ho.attack; omega)
      by_cases hk : 0 ≤ a.attack
      · have hk' : ¬ a.attack < 0 := by omega
        have g3 := g3 hk
        rw [if_neg hk'] at hplace
        rw [hplace] at hN l3
        by_cases hp0 : a.path = []
        · have hP := hnil hp0
          rw [if_pos hp0] at hdig
          rw [hdig] at hN
          subst hP
          generalize Lib.itoa a.unit = u at g1 l1 hN
          generalize Lib.itoa a.attack = k at g3 l3 hN
          simp [g1, c2, c3, c1, bs_size, bs_append, hwi, g3, hk, -List.append_assoc]
          repeat rw [if_pos (by omega)]
          exact hN _ st (by simp) trivial
        · have hP := hne hp0
          rw [if_neg hp0] at hdig
          rw [hdig] at hN
          generalize Lib.itoa a.unit = u at g1 l1 hN
          generalize Lib.itoa a.attack = k at g3 l3 hN
          simp [g1, c2, c3, c1, bs_size, bs_append, hwi, g3, hk, hP, -List.append_assoc]
          repeat rw [if_pos (by omega)]
          exact hN _ st (by simp) trivial
      · have hk' : a.attack < 0 := by omega
        rw [if_pos hk'] at hplace
        rw [hplace] at hN l3
        by_cases hp0 : a.path = []
        · have hP := hnil hp0
          rw [if_pos hp0] at hdig
          rw [hdig] at hN
          subst hP
          generalize Lib.itoa a.unit = u at g1 l1 hN
          simp [g1, c2, c3, c1, bs_size, bs_append, hwi, hk, -List.append_assoc]
          repeat rw [if_pos (by omega)]
          exact hN _ st (by simp) trivial
        · have hP := hne hp0
          rw [if_neg hp0] at hdig
          rw [hdig] at hN
          generalize Lib.itoa a.unit = u at g1 l1 hN
          simp [g1, c2, c3, c1, bs_size, bs_append, hwi, hk, hP, -List.append_assoc]
          repeat rw [if_pos (by omega)]
          exact hN _ st (by simp) trivial
  · intro N E st _ hE
    simp [bodyF, b_spec_oText_1]
    exact hE _ _ fun st => by simp [sheetB]
end Go.Abs.W
