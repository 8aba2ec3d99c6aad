import Derived.Test.YtijnjfcblkbdbaaGreatDoorB7
import Derived.Test.YtijnjfcblkbdbaaGreatDoorB9
import Derived.Lib.AtoiAllCases
set_option linter.unusedSimpArgs false
set_option linter.unusedVariables false
set_option maxRecDepth 100000
set_option maxHeartbeats 2000000
namespace Go.Abs.W
open Go Go.Abs Classical
attribute [-simp] Bool.decide_and
theorem wordLen (c : UInt8) (l : List UInt8) : ∀ w ∈ cutAt c l, w.length ≤ l.length := by
  induction l with
  | nil => intro w hw; simp [cutAt] at hw; subst hw; simp
  | cons b l ih =>
    intro w hw
    unfold cutAt at hw
    split at hw
    · rcases List.mem_cons.1 hw with rfl | hw
      · simp
      · have := ih w hw; simp; omega
    · split at hw
      · rename_i h t heq
        rcases List.mem_cons.1 hw with rfl | hw
        · have := ih h (by rw [heq]; simp); simp; omega
        · have := ih w (by rw [heq]; simp [hw]); simp; omega
      · simp at hw; subst hw; simp
theorem cutLen (c : UInt8) (l : List UInt8) : (cutAt c l).length ≤ l.length + 1 := by
  induction l with
  | nil => simp [cutAt]
  | cons b l ih =>
    unfold cutAt
    split
    · simp; omega
    · split
      · rename_i h t heq
        rw [heq] at ih
        simp at ih ⊢; omega
      · simp
theorem len3 {α : Type} {l : List α} (h : l.length = 3) : ∃ a b c, l = [a, b, c] := by
  match l, h with
  | [a, b, c], _ => exact ⟨a, b, c, rfl⟩
/-- What impl.readInt tells. -/
noncomputable def rdI (l : List UInt8) : Int × Bool := match Lib.atoiAll l with
  | .ok v => if l.length ≤ 10 ∧ Lib.itoa v = l then (v, true) else (0, false)
  | _ => (0, false)
theorem c_impl_readInt (l : List UInt8) (hl : l.length ≤ 1048576) : C n_impl_readInt [St (bs l)] = some (.tup [some (.one (.int .i64 (rdI l).1)), some (.one (.bool (rdI l).2))]) := by
  refine callC p_impl_readInt rfl ?_
  have e1 := c_strconv_Atoi l hl
  unfold rdI
  cases hat : Lib.atoiAll l with
  | ok v =>
    rw [hat] at e1
    dsimp only at e1 ⊢
    obtain ⟨b0, b1⟩ := Lib.atoiAll_bounds hat
    have e2 := c_strconv_Itoa v b0 b1
    by_cases h1 : l.length ≤ 10
    rotate_left
    · have h1' : (10 : Int) < l.length := by omega
      simp [xRun, a_impl_readInt, e1, bs_size, h1, h1']
    have h1' : ¬ (10 : Int) < l.length := by omega
    dsimp only [numT] at e2
    by_cases h2 : Lib.itoa v = l
    · rw [h2] at e2
      simp [xRun, a_impl_readInt, e1, bs_size, h1, h1', h2, e2]
    · have h2' : ¬ bs (Lib.itoa v) = bs l := fun h => h2 (bs_inj h)
      generalize bs (Lib.itoa v) = T at e2 h2'
      simp [xRun, a_impl_readInt, e1, bs_size, h1, h1', h2, e2, h2']
  | range =>
    rw [hat] at e1
    dsimp only at e1
    simp [xRun, a_impl_readInt, e1, bs_size]
  | _ =>
    rw [hat] at e1
    dsimp only at e1
    simp [xRun, a_impl_readInt, e1, bs_size]
theorem rdI_dec (n : Nat) (h : n < 1000000) : rdI (Lib.decDigits n) = ((n : Int), true) := by
  unfold rdI
  rw [atoi_itoa n (by omega)]
  have h1 := decDigits_len n 5 (by simpa using h)
  dsimp only
  rw [if_pos ⟨by omega, itoa_nat n⟩]
/-- A path's digits, read. -/
def pathB (p : List UInt8) : List Int := if p = [45] then [] else p.map fun c => (c.toNat : Int) - 48
theorem pathB_digits {p : List Int} (hp : ∀ d ∈ p, 0 ≤ d ∧ d ≤ 5) : pathB (digitsB p) = p := by
  unfold digitsB
  by_cases h0 : p = []
  · subst h0; rfl
  rw [if_neg h0]
  have key : ∀ p : List Int, (∀ d ∈ p, 0 ≤ d ∧ d ≤ 5) → (p.flatMap Lib.itoa).map (fun c => (c.toNat : Int) - 48) = p ∧ ∀ c ∈ p.flatMap Lib.itoa, Dig c := by
    intro p
    induction p with
    | nil => intro _; simp
    | cons d p ih =>
      intro hp
      obtain ⟨h1, h2⟩ := ih fun e he => hp e (by simp [he])
      have hd := hp d (by simp)
      obtain ⟨k, rfl⟩ : ∃ k : Nat, d = k := ⟨d.toNat, by omega⟩
      have hk : k < 10 := by omega
      have e1 : Lib.itoa (k : Int) = [UInt8.ofNat (48 + k)] := itoa_small hk
      have e2 := dig_of k hk
      have e3 : (UInt8.ofNat (48 + k)).toNat = 48 + k := by rw [UInt8.toNat_ofNat']; omega
      refine ⟨?_, ?_⟩
      · rw [List.flatMap_cons, e1, List.map_append, h1]
        simp only [List.map_cons, List.map_nil, List.singleton_append, e3]
        congr 1
        omega
      · rw [List.flatMap_cons, e1]
        intro c hc
        rcases List.mem_append.1 hc with hc | hc
        · rw [List.mem_singleton] at hc; subst hc
          unfold Dig; omega
        · exact h2 c hc
  obtain ⟨h1, h2⟩ := key p hp
  have hne : ¬ p.flatMap Lib.itoa = [45] := fun hh => by
    have := h2 45 (by rw [hh]; simp)
    unfold Dig at this
    have h45 : (45 : UInt8).toNat = 45 := rfl
    omega
  unfold pathB
  rw [if_neg hne, h1]
/-- The order that a line tells the program; the reference. -/
noncomputable def ordI (l : List UInt8) : Order × Bool := match cutAt 32 l with
  | [a, p, c] => (⟨(rdI a).1, pathB p, if c = [45] then -1 else (rdI c).1⟩, (rdI a).2 && (if c = [45] then true else (rdI c).2))
  | _ => (⟨0, [], 0⟩, false)
noncomputable def ordS (l : List UInt8) : Option Order := match cutAt 32 l with
  | [a, p, c] => some ⟨readP a, pathB p, readP c⟩
  | _ => none
theorem pathB_len (p : List UInt8) : (pathB p).length ≤ p.length := by
  unfold pathB
  split <;> simp
theorem c_impl_readOrder (l : List UInt8) (hl : l.length ≤ 1048576) : C n_impl_readOrder [St (bs l)] = some (.tup [some (.agg (Order.enc true (ordI l).1)), some (.one (.bool (ordI l).2))]) := by
  refine callC p_impl_readOrder rfl ?_
  have e1 := c_strings_Split l 32 hl
  by_cases h3 : (cutAt 32 l).length = 3
  rotate_left
  · have h3' : ¬ (((strR ((cutAt 32 l).map bs)).length : Nat) : Int) = 3 := by rw [strR_length, List.length_map]; omega
    have hI : ordI l = (⟨0, [], 0⟩, false) := by
      unfold ordI
      split
      · rename_i heq; rw [heq] at h3; exact absurd rfl h3
      · rfl
    rw [hI]
    dsimp only [StrsV] at e1
    generalize strR ((cutAt 32 l).map bs) = R at e1 h3'
    simp [xRun, a_impl_readOrder, e1, h3', Order.enc, ints_nil]
  obtain ⟨a, p, c, hw⟩ := len3 h3
  have hlen : ∀ w ∈ [a, p, c], w.length ≤ 1048576 := fun w hw' => by
    have := wordLen 32 l w (by rw [hw]; exact hw')
    omega
  have hI : ordI l = (⟨(rdI a).1, pathB p, if c = [45] then -1 else (rdI c).1⟩, (rdI a).2 && (if c = [45] then true else (rdI c).2)) := by unfold ordI; rw [hw]
  rw [hw] at e1
  simp only [StrsV, List.map_cons, List.map_nil, strR] at e1
  have r1 := c_impl_readInt a (hlen a (by simp))
  have r3 := c_impl_readInt c (hlen c (by simp))
  have c45 : (⟨#[45]⟩ : ByteArray) = bs [45] := rfl
  rw [hI]
  generalize rdI a = ra at r1
  generalize rdI c = rc at r3
  obtain ⟨n1, b1⟩ := ra
  obtain ⟨n3, b3⟩ := rc
  dsimp only at r1 r3
  by_cases hp : p = [45]
  · subst hp
    have hP : pathB [45] = [] := rfl
    rw [hP]
    by_cases hc : c = [45]
    · subst hc
      cases b1 <;> simp [xRun, a_impl_readOrder, e1, r1, c45, Order.enc, ints_nil]
    · have hc' : ¬ bs c = bs [45] := fun h => hc (bs_inj h)
      generalize bs c = TC at e1 r3 hc'
      cases b1 <;> cases b3 <;> simp [xRun, a_impl_readOrder, e1, r1, r3, c45, hc, hc', Order.enc, ints_nil]
  · have hp' : ¬ bs p = bs [45] := fun h => hp (bs_inj h)
    have hP : pathB p = p.map fun c => (c.toNat : Int) - 48 := by unfold pathB; rw [if_neg hp]
    have hpl := hlen p (by simp)
    rw [hP]
    have hfin : (c = [45] ∧ bs c = bs [45]) ∨ (¬ c = [45] ∧ ¬ bs c = bs [45]) := by
      by_cases hc : c = [45]
      · exact .inl ⟨hc, by rw [hc]⟩
      · exact .inr ⟨hc, fun h => hc (bs_inj h)⟩
    generalize hTC : bs c = TC at e1 r3 hfin
    simp [xRun, a_impl_readOrder, e1, r1, c45, hp']
    refine list_loop p (by omega) (fun i (_ : Unit) => [(7, .box 0 0 [.int .i64 n1, .list true 1 (ints ((p.take i).map fun c => (c.toNat : Int) - 48)), .int .i64 (-1)]), (8, I (i : Int))]) (fun _ _ => True) default (by simp [ints_nil]) trivial ?_ ?_
    · intro N E i x s ha hi hm ht hwi _ hN hE
      have hcv : IntKind.i64.wrap (x.toNat : Int) = (x.toNat : Int) := wrap_small (by omega) (by have := x.toNat_lt; omega)
      have hsb : IntKind.i64.wrap ((x.toNat : Int) - 48) = (x.toNat : Int) - 48 := by rw [IntKind.wrap_i64]; have := x.toNat_lt; omega
      have e4 : ints ((p.take (i + 1)).map fun c => (c.toNat : Int) - 48) = ints ((p.take i).map fun c => (c.toNat : Int) - 48) ++ [[.int .i64 ((x.toNat : Int) - 48)]] := by rw [ht]; simp [ints]
      have e3 : (ints ((p.take i).map fun c => (c.toNat : Int) - 48)).length + 1 ≤ 68719476736 := by rw [ints_length, List.length_map, List.length_take]; omega
      generalize ints ((p.take i).map fun c => (c.toNat : Int) - 48) = RS at e3 e4 ⊢
      simp [bodyF, b_impl_readOrder_0, hi, ha, at_of ha, hwi, bs_size, hcv, hsb, e3]
      exact hN _ s (by simp [e4, -List.map_take]) trivial
    · intro N E s _ hE
      simp [bodyF, b_impl_readOrder_0, bs_size]
      refine hE _ _ fun st => ?_
      rcases hfin with ⟨hc, hc'⟩ | ⟨hc, hc'⟩
      · rw [hc'] at r3 ⊢
        cases b1 <;> simp [c45, hc, Order.enc]
      · cases b1 <;> cases b3 <;> simp [r3, c45, hc, hc', Order.enc]
end Go.Abs.W
set_option linter.unusedSimpArgs false
set_option linter.unusedVariables false
set_option maxRecDepth 100000
set_option maxHeartbeats 2000000
namespace Go.Abs.W
open Go Go.Abs Classical
attribute [-simp] Bool.decide_and
theorem cut_cons (c : UInt8) (l : List UInt8) : ∃ h r, cutAt c l = h :: r := by
  cases hh : cutAt c l with
  | nil => exact absurd hh (cutAt_ne c l)
  | cons h r => exact ⟨h, r, rfl⟩
theorem strR_cons (h : ByteArray) (r : List ByteArray) : strR (h :: r) = [D.str h] :: strR r := rfl
theorem strR_at {l : List (List UInt8)} {i : Nat} {a : List UInt8} (ha : l[i]? = some a) : (strR (l.map bs))[i]? = some [D.str (bs a)] := by
  simp [strR, ha]
/-- The numbers behind the first word of a head. -/
noncomputable def wordsI (l : List UInt8) : List Int × Bool := match cutAt 32 l with
  | h :: rest => if h = [115, 105, 100, 101] ∧ (∀ w ∈ rest, (rdI w).2 = true) then (rest.map fun w => (rdI w).1, true) else ([], false)
  | [] => ([], false)
theorem c_impl_readWords (l : List UInt8) (hl : l.length ≤ 1048576) : C n_impl_readWords [St (bs l), St (bs [115, 105, 100, 101])] = some (.tup [some (.one (.list true 1 (ints (wordsI l).1))), some (.one (.bool (wordsI l).2))]) := by
  refine callC p_impl_readWords rfl ?_
  have e1 := c_strings_Split l 32 hl
  obtain ⟨h, rest, hw⟩ := cut_cons 32 l
  have hI : wordsI l = if h = [115, 105, 100, 101] ∧ (∀ w ∈ rest, (rdI w).2 = true) then (rest.map fun w => (rdI w).1, true) else ([], false) := by unfold wordsI; rw [hw]
  have hlen : ∀ w ∈ rest, w.length ≤ 1048576 := fun w hw' => by
    have := wordLen 32 l w (by rw [hw]; exact List.mem_cons_of_mem _ hw')
    omega
  have hrl : rest.length ≤ 1048576 := by
    have := cutLen 32 l
    rw [hw] at this
    simp at this; omega
  rw [hw] at e1
  dsimp only [StrsV] at e1
  rw [List.map_cons, strR_cons] at e1
  rw [hI]
  by_cases hh : h = [115, 105, 100, 101]
  rotate_left
  · have hh' : ¬ bs h = bs [115, 105, 100, 101] := fun e => hh (bs_inj e)
    generalize strR (rest.map bs) = R at e1
    generalize bs h = T at e1 hh'
    generalize bs [115, 105, 100, 101] = S at hh'
    simp [xRun, a_impl_readWords, e1, hh, hh', ints_nil]
  subst hh
  have hRl : (strR (rest.map bs)).length = rest.length := by rw [strR_length, List.length_map]
  have hRs : staleLL (strR (rest.map bs)) = strR (rest.map bs) := strR_stale _
  have hRa : ∀ {i : Nat} {a : List UInt8}, rest[i]? = some a → (strR (rest.map bs))[i]? = some [D.str (bs a)] := fun ha => strR_at ha
  generalize strR (rest.map bs) = R at e1 hRl hRa hRs
  generalize bs [115, 105, 100, 101] = T at e1
  have h1 : (1 : Int) ≤ (rest.length : Int) + 1 := by omega
  simp [xRun, a_impl_readWords, e1, hRl, hRs, h1]
  refine list_loop rest (by omega) (fun i (_ : Unit) => [(7, .own 0 1 (ints ((rest.take i).map fun w => (rdI w).1))), (23, I (i : Int))]) (fun i _ => ∀ w ∈ rest.take i, (rdI w).2 = true) default (by simp [ints_nil]) (by simp) ?_ ?_
  · intro N E i a s ha hi hm ht hwi hs hN hE
    have e2 := c_impl_readInt a (hlen a hm)
    have hR := hRa ha
    by_cases hc : (rdI a).2 = true
    · rw [hc] at e2
      have e4 : ints ((rest.take (i + 1)).map fun w => (rdI w).1) = ints ((rest.take i).map fun w => (rdI w).1) ++ [[.int .i64 (rdI a).1]] := by rw [ht]; simp [ints]
      have e3 : (ints ((rest.take i).map fun w => (rdI w).1)).length + 1 ≤ 68719476736 := by rw [ints_length, List.length_map, List.length_take]; omega
      generalize ints ((rest.take i).map fun w => (rdI w).1) = RS at e3 e4 ⊢
      generalize (rdI a).1 = n at e2 e4
      simp [bodyF, b_impl_readWords_0, hi, hR, at_of hR, hwi, e2, e3]
      refine hN _ s (by simp [e4, -List.map_take]) fun w hw' => ?_
      rw [ht] at hw'
      rcases List.mem_append.1 hw' with hw' | hw'
      · exact hs w hw'
      · rw [List.mem_singleton] at hw'; subst hw'; exact hc
    · have hno : ¬ ∀ w ∈ rest, (rdI w).2 = true := fun h => hc (h a hm)
      have hc' : (rdI a).2 = false := by simpa using hc
      rw [hc'] at e2
      simp [bodyF, b_impl_readWords_0, hi, hR, at_of hR, hwi, e2]
      exact hE _ _ fun st => by simp [hno, ints_nil]
  · intro N E s hs hE
    rw [List.take_length] at hs
    simp [bodyF, b_impl_readWords_0, hRl]
    refine hE _ _ fun st => ?_
    simp
    rw [if_pos hs]
    exact ⟨rfl, rfl⟩
end Go.Abs.W
