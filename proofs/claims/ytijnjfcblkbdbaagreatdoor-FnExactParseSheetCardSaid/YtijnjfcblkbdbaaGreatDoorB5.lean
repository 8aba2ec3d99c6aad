import Derived.Lib.Split
import Derived.Lib.SplitLaws
import Derived.Lib.ItoaNum
import Derived.Lib.AtoiAll
import Derived.Lib.Join
import Derived.Test.YtijnjfcblkbdbaaGreatDoorB0
set_option linter.unusedSimpArgs false
set_option linter.unusedVariables false
namespace Go.Abs.W
open Go
/-- The pieces of a text between a byte's places. -/
def cutAt (c : UInt8) : List UInt8 → List (List UInt8)
  | [] => [[]]
  | b :: l => if b = c then [] :: cutAt c l else match cutAt c l with
    | h :: t => (b :: h) :: t
    | [] => [[b]]
theorem cutAt_ne (c : UInt8) (l : List UInt8) : cutAt c l ≠ [] := by
  cases l with
  | nil => simp [cutAt]
  | cons b l =>
    unfold cutAt
    split
    · simp
    · split <;> simp
theorem cutAt_append (c : UInt8) (b : List UInt8) : ∀ (a : List UInt8), c ∉ a → cutAt c (a ++ c :: b) = a :: cutAt c b
  | [], _ => by simp [cutAt]
  | x :: a, h => by
    have h1 : x ≠ c := fun hh => h (by simp [hh])
    have h2 : c ∉ a := fun hh => h (by simp [hh])
    rw [List.cons_append, cutAt, if_neg h1, cutAt_append c b a h2]
theorem cutAt_none (c : UInt8) : ∀ (a : List UInt8), c ∉ a → cutAt c a = [a]
  | [], _ => rfl
  | x :: a, h => by
    have h1 : x ≠ c := fun hh => h (by simp [hh])
    have h2 : c ∉ a := fun hh => h (by simp [hh])
    rw [cutAt, if_neg h1, cutAt_none c a h2]
theorem index_one_eq (c : UInt8) (l : List UInt8) : Lib.index (c :: l) [c] = 0 := by
  unfold Lib.index; rw [if_pos (by simp [List.isPrefixOf])]
theorem index_one_ne {b c : UInt8} (h : b ≠ c) (l : List UInt8) : Lib.index (b :: l) [c] = if Lib.index l [c] == -1 then -1 else Lib.index l [c] + 1 := by
  conv => lhs; unfold Lib.index
  rw [if_neg (by simp [List.isPrefixOf]; exact fun hh => h hh.symm)]
theorem splitK_miss {c : UInt8} {l : List UInt8} (h : Lib.index l [c] = -1) (k : Nat) : Lib.splitK [c] 0 k l = [l] := by
  cases k with
  | zero => rfl
  | succ k => unfold Lib.splitK; rw [if_pos (by simp [h])]
theorem splitK_hit {c : UInt8} {l : List UInt8} {i : Nat} (h : Lib.index l [c] = i) (k : Nat) : Lib.splitK [c] 0 (k + 1) l = l.take i :: Lib.splitK [c] 0 k (l.drop (i + 1)) := by
  conv => lhs; unfold Lib.splitK
  rw [if_neg (by rw [h]; simp), h]
  simp
theorem splitK_cut (c : UInt8) : ∀ l : List UInt8, Lib.splitK [c] 0 (Lib.count l [c]) l = cutAt c l
  | [] => by
    have : Lib.index [] [c] = -1 := rfl
    rw [splitK_miss this]; rfl
  | b :: l => by
    have ih := splitK_cut c l
    by_cases h : b = c
    · subst h
      rw [Lib.count_cons_eq, Nat.add_comm, splitK_hit (i := 0) (index_one_eq b l)]
      simp [cutAt, ih]
    · rw [Lib.count_cons_ne _ _ _ h, cutAt, if_neg h, ← ih]
      have hi := index_one_ne h l
      rcases Lib.index_spec l [c] with ⟨h1, _⟩ | ⟨i, h1, _⟩
      · rw [h1] at hi
        simp at hi
        rw [splitK_miss hi, splitK_miss h1]
      · rw [h1] at hi
        have h2 : Lib.index (b :: l) [c] = ((i + 1 : Nat) : Int) := by
          rw [hi, if_neg (by simp)]; rfl
        rw [Lib.count_hit (by simp) h1, Nat.add_comm, splitK_hit h2, splitK_hit h1]
        simp
theorem split_cut (c : UInt8) (s : ByteArray) : (Lib.splitB ⟨#[c]⟩ 0 (Lib.countB s ⟨#[c]⟩) s).map (·.data.toList) = cutAt c s.data.toList := by
  rw [Lib.splitB_data]
  exact splitK_cut c s.data.toList
/-- A text out of its bytes. -/
abbrev bs (l : List UInt8) : ByteArray := ⟨l.toArray⟩
theorem bs_data (l : List UInt8) : (bs l).data.toList = l := by simp [bs]
theorem bs_of (s : ByteArray) : bs s.data.toList = s := by cases s; simp [bs]
theorem bs_inj {a b : List UInt8} (h : bs a = bs b) : a = b := by
  have := congrArg (fun s : ByteArray => s.data.toList) h
  simpa [bs] using this
theorem split_bs (c : UInt8) (s : ByteArray) : Lib.splitB ⟨#[c]⟩ 0 (Lib.countB s ⟨#[c]⟩) s = (cutAt c s.data.toList).map bs := by
  rw [← split_cut, List.map_map]
  conv => lhs; rw [← List.map_id (Lib.splitB ⟨#[c]⟩ 0 (Lib.countB s ⟨#[c]⟩) s)]
  refine List.map_congr_left fun x _ => (bs_of x).symm
theorem bs_append (a b : List UInt8) : bs a ++ bs b = bs (a ++ b) := by
  apply ByteArray.ext
  simp [bs, ByteArray.data_append]
theorem bs_size (l : List UInt8) : (bs l).size = l.length := by simp [bs, ByteArray.size]
theorem bs_push (b : UInt8) : ByteArray.empty.push b = bs [b] := rfl
theorem bs_extract (s : ByteArray) (i j : Nat) : s.extract i j = bs ((s.data.toList.drop i).take (j - i)) := by
  have h : bs s.data.toList = s := bs_of s
  have := ByteArray.extract_mk s.data.toList i j
  have h2 : s.extract i j = (bs s.data.toList).extract i j := congrArg (fun x : ByteArray => x.extract i j) h.symm
  exact h2.trans this
/-! ### Numerals. -/
theorem decDigits_small {n : Nat} (h : n < 10) : Lib.decDigits n = [UInt8.ofNat (48 + n)] := by rw [Lib.decDigits, dif_pos h]
theorem decDigits_big {n : Nat} (h : ¬ n < 10) : Lib.decDigits n = Lib.decDigits (n / 10) ++ [UInt8.ofNat (48 + n % 10)] := by rw [Lib.decDigits, dif_neg h]
def Dig (c : UInt8) : Prop := 48 ≤ c.toNat ∧ c.toNat ≤ 57
theorem dig_of (n : Nat) (h : n < 10) : Dig (UInt8.ofNat (48 + n)) ∧ (UInt8.ofNat (48 + n)).toNat = 48 + n := by
  have : (UInt8.ofNat (48 + n)).toNat = 48 + n := by simp; omega
  exact ⟨by unfold Dig; omega, this⟩
theorem decDigits_dig (n : Nat) : ∀ c ∈ Lib.decDigits n, Dig c := by
  induction n using Nat.strongRecOn with
  | _ n ih =>
    by_cases h : n < 10
    · rw [decDigits_small h]; intro c hc; simp at hc; subst hc; simpa using (dig_of n h).1
    · rw [decDigits_big h]
      intro c hc
      rcases List.mem_append.1 hc with hc | hc
      · exact ih (n / 10) (by omega) c hc
      · simp at hc; subst hc; simpa using (dig_of (n % 10) (by omega)).1
theorem decDigits_ne (n : Nat) : Lib.decDigits n ≠ [] := by
  by_cases h : n < 10
  · rw [decDigits_small h]; simp
  · rw [decDigits_big h]; simp
/-- The number that digits spell. -/
def stepD (acc : Nat) (c : UInt8) : Nat := acc * 10 + (c.toNat - 48)
def valD (acc : Nat) (l : List UInt8) : Nat := l.foldl stepD acc
attribute [irreducible] stepD
theorem valD_nil (acc : Nat) : valD acc [] = acc := by simp only [valD, List.foldl_nil]
theorem valD_cons (acc : Nat) (c : UInt8) (l : List UInt8) : valD acc (c :: l) = valD (stepD acc c) l := by simp only [valD, List.foldl_cons]
theorem valD_append (acc : Nat) (a b : List UInt8) : valD acc (a ++ b) = valD (valD acc a) b := by
  simp [valD, List.foldl_append]
theorem valD_dec (n : Nat) : valD 0 (Lib.decDigits n) = n := by
  induction n using Nat.strongRecOn with
  | _ n ih =>
    by_cases h : n < 10
    · rw [decDigits_small h, valD_cons, valD_nil]; unfold stepD; rw [(dig_of n h).2]; omega
    · rw [decDigits_big h, valD_append, ih (n / 10) (by omega), valD_cons, valD_nil]
      unfold stepD; rw [(dig_of (n % 10) (by omega)).2]; omega
theorem valD_ge (l : List UInt8) : ∀ acc, acc ≤ valD acc l := by
  induction l with
  | nil => intro acc; exact Nat.le_refl _
  | cons c l ih => intro acc; rw [valD_cons]; exact Nat.le_trans (by unfold stepD; omega) (ih _)
theorem parse_dec (l : List UInt8) (hl : ∀ c ∈ l, Dig c) : ∀ acc, valD acc l < 18446744073709551616 → Lib.parseUint10 acc l = .ok (valD acc l) := by
  induction l with
  | nil => intro acc _; rfl
  | cons c l ih =>
    intro acc hv
    have hc := hl c (by simp)
    rw [valD_cons] at hv ⊢
    have h2 := valD_ge l (stepD acc c)
    have h3 : stepD acc c < 18446744073709551616 := Nat.lt_of_le_of_lt h2 hv
    have h4 : acc * 10 + (c.toNat - 48) < 18446744073709551616 := by unfold stepD at h3; exact h3
    unfold Lib.parseUint10
    have h5 : 48 ≤ c.toNat ∧ c.toNat ≤ 57 := hc
    rw [if_pos h5, if_neg (by omega), if_neg (by omega)]
    have := ih (fun d hd => hl d (by simp [hd])) _ hv
    unfold stepD at this ⊢
    exact this
theorem itoa_nat (n : Nat) : Lib.itoa (n : Int) = Lib.decDigits n := by
  unfold Lib.itoa; rw [if_neg (by omega)]; simp
theorem atoi_itoa (n : Nat) (h : n < 9223372036854775808) : Lib.atoiAll (Lib.decDigits n) = .ok (n : Int) := by
  have hd := decDigits_dig n
  have hne := decDigits_ne n
  have hp := parse_dec _ hd 0 (by rw [valD_dec]; omega)
  rw [valD_dec] at hp
  generalize Lib.decDigits n = l at hd hne hp
  cases l with
  | nil => exact absurd rfl hne
  | cons c r =>
    have hc : Dig c := hd c (by simp)
    unfold Dig at hc
    have h1 : ¬ (c.toNat = 43 ∨ c.toNat = 45) := by omega
    have h2 : ¬ c.toNat = 45 := by omega
    simp only [Lib.atoiAll, if_neg h1, Lib.parseMag, List.cons_ne_nil, if_false, hp]
    simp [h2]
    omega
theorem notin_dec (n : Nat) (c : UInt8) (h : c.toNat < 48) : c ∉ Lib.decDigits n := fun hh => by
  have := decDigits_dig n c hh
  unfold Dig at this; omega
theorem decDigits_len (n : Nat) : ∀ k, n < 10 ^ (k + 1) → (Lib.decDigits n).length ≤ k + 1 := by
  induction n using Nat.strongRecOn with
  | _ n ih =>
    intro k hk
    by_cases h : n < 10
    · rw [decDigits_small h]; simp
    · rw [decDigits_big h]
      cases k with
      | zero => simp at hk; omega
      | succ k =>
        have := ih (n / 10) (by omega) k (by rw [Nat.pow_succ] at hk; omega)
        simp; omega
end Go.Abs.W
set_option linter.unusedSimpArgs false
set_option linter.unusedVariables false
set_option maxRecDepth 100000
set_option maxHeartbeats 2000000
namespace Go.Abs.W
open Go Go.Abs Classical
attribute [-simp] Bool.decide_and
/-- The numeral of a number. -/
abbrev numT (n : Int) : ByteArray := bs (Lib.itoa n)
theorem c_strconv_Itoa (n : Int) (h0 : -9223372036854775808 ≤ n) (h1 : n ≤ 9223372036854775807) : C n_strconv_Itoa [I n] = some (St (numT n)) :=
  callF_hand h_strconv_Itoa (by simp [hItoa, h0, h1])
theorem numT_len (n : Nat) (h : n < 10000000000000000000) : (Lib.itoa (n : Int)).length ≤ 19 := by
  rw [itoa_nat]
  exact decDigits_len n 18 (by simpa using h)
theorem itoa_small {n : Nat} (h : n < 10) : Lib.itoa (n : Int) = [UInt8.ofNat (48 + n)] := by rw [itoa_nat, decDigits_small h]
theorem itoa_big {n : Nat} (h : ¬ n < 10) : Lib.itoa (n : Int) = Lib.itoa ((n / 10 : Nat) : Int) ++ [UInt8.ofNat (48 + n % 10)] := by rw [itoa_nat, itoa_nat, decDigits_big h]
theorem c_spec_l1Num (n : Nat) (h : n < 4611686018427387904) : C n_spec_l1Num [I n] = some (St (numT n)) := by
  induction n using Nat.strongRecOn with
  | _ n ih =>
    refine callC p_spec_l1Num rfl ?_
    by_cases hc : n < 10
    · have h1 : (n : Int) < 10 := by omega
      have hw : IntKind.i64.wrap (48 + (n : Int)) = ((48 + n : Nat) : Int) := by rw [wrap_small (by omega) (by omega)]; simp
      have hu : IntKind.u8.wrap ((48 + n : Nat) : Int) = ((48 + n : Nat) : Int) := by rw [IntKind.wrap_u8]; omega
      have e1 := itoa_small hc
      have e2 : ((48 + n : Nat) : Int).toNat = 48 + n := by omega
      generalize hm : 48 + n = m at hw hu e1 e2
      simp [xRun, a_spec_l1Num, h1, hw, hu, e1, e2, bs_push]
    · have h1 : ¬ (n : Int) < 10 := by omega
      have hr : (n : Int).tmod 10 = ((n % 10 : Nat) : Int) := (Int.ofNat_tmod n 10).symm
      have hq0 : (n : Int).tdiv 10 = ((n / 10 : Nat) : Int) := (Int.ofNat_tdiv n 10).symm
      have hq : IntKind.i64.wrap ((n : Int).tdiv 10) = ((n / 10 : Nat) : Int) := by rw [hq0]; exact wrap_small (by omega) (by omega)
      have hq' : IntKind.i64.wrap ((n : Int) / 10) = ((n / 10 : Nat) : Int) := wrap_small (by omega) (by omega)
      have hr' : (n : Int) % 10 = ((n % 10 : Nat) : Int) := by omega
      have hw : IntKind.i64.wrap (48 + ((n % 10 : Nat) : Int)) = ((48 + n % 10 : Nat) : Int) := by rw [wrap_small (by omega) (by omega)]; simp
      have hu : IntKind.u8.wrap ((48 + n % 10 : Nat) : Int) = ((48 + n % 10 : Nat) : Int) := by rw [IntKind.wrap_u8]; omega
      have e1 := itoa_big hc
      have e2 : ((48 + n % 10 : Nat) : Int).toNat = 48 + n % 10 := by omega
      have e3 := ih (n / 10) (by omega) (by omega)
      have e4 := numT_len (n / 10) (by omega)
      generalize hm : 48 + n % 10 = m at hw hu e1 e2
      generalize hk : ((n % 10 : Nat) : Int) = k at hr hr' hw
      generalize hj : ((n / 10 : Nat) : Int) = j at hq hq' e1 e3 e4
      have e5 : (bs (Lib.itoa j)).size + (bs [UInt8.ofNat m]).size ≤ 1099511627776 := by rw [bs_size, bs_size]; simp; omega
      simp [xRun, a_spec_l1Num, h1, hr, hr', hq, hq', hw, hu, e1, e2, e3, e5, bs_push, bs_append]
theorem c_spec_l1Num' (n : Int) (h0 : 0 ≤ n) (h : n < 4611686018427387904) : C n_spec_l1Num [I n] = some (St (numT n)) := by
  obtain ⟨k, rfl⟩ : ∃ k : Nat, n = k := ⟨n.toNat, by omega⟩
  exact c_spec_l1Num k (by omega)
/-- A word and numbers, with blanks between. -/
def wordsB (word : List UInt8) (l : List Int) : List UInt8 := Lib.join (word :: l.map Lib.itoa) [32]
theorem strsOf_map (l : List ByteArray) : strsOf (l.map fun s => [D.str s]) = some l := by
  induction l with
  | nil => rfl
  | cons s l ih => simp [strsOf, ih]
theorem c_strings_Join (l : List ByteArray) (sep : ByteArray) (h1 : l.length ≤ 140737488355328) (h2 : (Lib.join (l.map (·.data.toList)) sep.data.toList).length ≤ 140737488355328) :
    C n_strings_Join [.val (.one (.list false 1 (l.map fun s => [D.str s]))), St sep] = some (St (bs (Lib.join (l.map (·.data.toList)) sep.data.toList))) :=
  callF_hand h_strings_Join (by simp [hJoin, strsOf_map, h1, h2])
theorem join_small (word : List UInt8) (l : List Int) (h : ∀ n ∈ l, (Lib.itoa n).length ≤ 20) : (wordsB word l).length ≤ word.length + 21 * l.length := by
  have key : ∀ l : List Int, (∀ n ∈ l, (Lib.itoa n).length ≤ 20) → (Lib.joinTail [32] (l.map Lib.itoa)).length ≤ 21 * l.length := by
    intro l
    induction l with
    | nil => intro _; simp [Lib.joinTail]
    | cons n l ih =>
      intro h
      have h1 := ih fun m hm => h m (by simp [hm])
      have h2 := h n (by simp)
      simp [Lib.joinTail] at h1 ⊢
      omega
  have := key l h
  unfold wordsB
  rw [Lib.join_cons]
  simp; omega
theorem itoa_len (n : Int) (h0 : -9223372036854775808 ≤ n) (h1 : n ≤ 9223372036854775807) : (Lib.itoa n).length ≤ 20 := by
  unfold Lib.itoa
  split
  · have := decDigits_len n.natAbs 18 (by simp; omega)
    simp; omega
  · have := decDigits_len n.toNat 18 (by simp; omega)
    omega
def strR (l : List ByteArray) : List (List D) := l.map fun s => [D.str s]
theorem strR_length (l : List ByteArray) : (strR l).length = l.length := by simp [strR]
theorem strR_snoc (l : List ByteArray) (s : ByteArray) : strR (l ++ [s]) = strR l ++ [[D.str s]] := by simp [strR]
theorem strR_stale (L : List ByteArray) : staleLL (strR L) = strR L := by
  induction L with
  | nil => rfl
  | cons s L ih => simp only [strR] at ih; simp [strR, staleLL, staleL, D.stale, ih]
theorem toList_numT : (fun s : ByteArray => s.data.toList) ∘ numT = Lib.itoa := by funext n; simp [bs_data]
theorem c_Join_words (word : List UInt8) (l : List Int) (hl : l.length ≤ 1048576) (hw : word.length ≤ 1048576) (h : ∀ n ∈ l, -9223372036854775808 ≤ n ∧ n ≤ 9223372036854775807) :
    C n_strings_Join [.val (.one (.list false 1 (strR (bs word :: l.map numT)))), St ⟨#[32]⟩] = some (St (bs (wordsB word l))) := by
  have e0 : (bs word :: l.map numT).map (·.data.toList) = word :: l.map Lib.itoa := by simp [List.map_map, bs_data, toList_numT]
  have e1 := c_strings_Join (bs word :: l.map numT) ⟨#[32]⟩ (by simp; omega) (by
    have := join_small word l fun n hn => itoa_len n (h n hn).1 (h n hn).2
    rw [e0]
    unfold wordsB at this
    exact Nat.le_trans this (by omega))
  rw [e0] at e1
  exact e1
theorem c_impl_wordsText (word : List UInt8) (l : List Int) (hl : l.length ≤ 1048576) (hw : word.length ≤ 1048576) (h : ∀ n ∈ l, -9223372036854775808 ≤ n ∧ n ≤ 9223372036854775807) : C n_impl_wordsText [St (bs word), Li l] = some (St (bs (wordsB word l))) := by
  refine callC p_impl_wordsText rfl ?_
  simp [xRun, a_impl_wordsText, ints_length]
  refine list_loop l (by omega) (fun i (_ : Unit) => [(5, .own 0 1 (strR (bs word :: (l.map numT).take i))), (12, I i)]) (fun _ _ => True) default (by simp [strR]) trivial ?_ ?_
  · intro N E i a s ha hi hm ht hwi _ hN hE
    have e1 := c_strconv_Itoa a (h a hm).1 (h a hm).2
    have e2 : (strR (bs word :: (l.map numT).take i)).length + 1 ≤ 68719476736 := by rw [strR_length]; simp; omega
    have e3 : strR (bs word :: (l.map numT).take (i + 1)) = strR (bs word :: (l.map numT).take i) ++ [[D.str (numT a)]] := by rw [← List.map_take, ← List.map_take, ht, List.map_append, ← List.cons_append]; exact strR_snoc _ _
    generalize strR (bs word :: (l.map numT).take i) = R at e2 e3
    simp [bodyF, b_impl_wordsText_0, hi, ints_length, ints_get ha, at_of ha, ints_at ha, hwi, e1, e2]
    exact hN _ s (by simp [e3]) trivial
  · intro N E s _ hE
    have e1 := c_Join_words word l hl hw h
    have e2 := strR_stale (bs word :: l.map numT)
    have e3 : (l.map numT).take l.length = l.map numT := List.take_of_length_le (by simp)
    rw [e3]
    generalize strR (bs word :: l.map numT) = R at e1 e2
    simp [bodyF, b_impl_wordsText_0, ints_length]
    exact hE _ _ fun st => by simp [e1, e2]
end Go.Abs.W
