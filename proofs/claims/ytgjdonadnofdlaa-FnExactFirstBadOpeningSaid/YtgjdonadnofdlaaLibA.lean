/- Plain lemmas on the numbers that the mix of a list, the bytes of a text and the dice come to, in the reference and in the program. -/
import Derived.Test.YtgjdonadnofdlaaPx2
import Derived.Test.YtgjdonadnofdlaaPx3
import Derived.Test.YtgjdonadnofdlaaPx6
import Derived.Test.YtgjdonadnofdlaaPx9
import Derived.Test.YtgjdonadnofdlaaPx14
import Derived.Test.YtgjdonadnofdlaaPx15
import Derived.Test.YtgjdonadnofdlaaPx16
import Derived.Test.YtgjdonadnofdlaaPx18
import Derived.Test.YtgjdonadnofdlaaPx20
import Derived.Test.YtgjdonadnofdlaaPx22
import Derived.Test.YtgjdonadnofdlaaPx24
import Derived.Test.YtgjdonadnofdlaaPx26
import Derived.Test.YtgjdonadnofdlaaPx30
namespace Go.Proofs.Ytgjdonadnofdlaa.Pure
open Go.RowKit Go.Proofs.Ytgjdonadnofdlaa.P Go.Proofs.YtgjdonadnofdlaaW.PrintWords Go.Proofs.YtgjdonadnofdlaaW.PrintLast
set_option linter.unusedVariables false
set_option linter.unusedSimpArgs false

theorem w64 {x : Int} (h0 : -9223372036854775808 ≤ x) (h1 : x ≤ 9223372036854775807) : wrap64 x = x := by unfold wrap64; omega
theorem in_f (a b c : Int) : spec_l1In.f a b c = some (decide (b ≤ a ∧ a ≤ c)) := by
  unfold spec_l1In.f
  by_cases h : a ≥ b <;> simp [h]
theorem range_f (a b c : Int) : impl_inRange.f a b c = some (decide (b ≤ a ∧ a ≤ c)) := by
  unfold impl_inRange.f
  by_cases h : b ≤ a <;> simp [h]
theorem dSeed_f (a : Int) : spec_dSeed.f a = some (decide (0 ≤ a ∧ a ≤ 4611686016279904236)) := by unfold spec_dSeed.f; rw [in_f]; rfl
theorem isSeed_f (a : Int) : impl_isSeed.f a = some (decide (0 ≤ a ∧ a ≤ 4611686016279904236)) := by unfold impl_isSeed.f; rw [range_f]; rfl
theorem isPlace_f (a : Int) : impl_isPlaceOfDie.f a = some (decide (0 ≤ a ∧ a ≤ 1000000)) := by unfold impl_isPlaceOfDie.f; rw [range_f]; rfl
theorem dAsked_f (a b : Int) : spec_dAsked.f a b = some (decide (0 ≤ a ∧ a ≤ 4611686016279904236) && decide (0 ≤ b ∧ b ≤ 1000000)) := by
  unfold spec_dAsked.f
  rw [dSeed_f, in_f]
  by_cases h : 0 ≤ a ∧ a ≤ 4611686016279904236 <;> simp [h]

/-! the mix -/
theorem dMod_f (x m : Int) (h0 : 0 < m) (h1 : m ≤ 2147483647) : spec_dMod.f x m = some (mixRes x m) := by
  unfold spec_dMod.f mixRes
  have h2 := Int.tmod_lt_of_pos x h0
  have h3 := Int.lt_tmod_of_pos x h0
  rw [if_neg (by omega), w64 (by omega) (by omega), Int.tmod_eq_emod_of_nonneg (by omega)]
theorem dMix_step (ab : Int × Int) (x : Int) (h : mixOk ab) :
    (Int.tmod (wrap64 ((wrap64 ((wrap64 (16807 * ab.1)) + mixRes x 2147483647)) + ab.2)) 2147483647, Int.tmod (wrap64 ((wrap64 ((wrap64 (39373 * ab.2)) + mixRes x 2147483629)) + (Int.tmod (wrap64 ((wrap64 ((wrap64 (16807 * ab.1)) + mixRes x 2147483647)) + ab.2)) 2147483647))) 2147483629) = mixStep ab x := by
  have r1 := mixRes_bd x 2147483647 (by omega)
  have r2 := mixRes_bd x 2147483629 (by omega)
  obtain ⟨o1, o2, o3, o4⟩ := h
  unfold mixStep
  generalize mixRes x 2147483647 = p1 at *
  generalize mixRes x 2147483629 = p2 at *
  rw [w64 (x := 16807 * ab.1) (by omega) (by omega), w64 (x := 16807 * ab.1 + p1) (by omega) (by omega), w64 (x := 16807 * ab.1 + p1 + ab.2) (by omega) (by omega), Int.tmod_eq_emod_of_nonneg (a := 16807 * ab.1 + p1 + ab.2) (by omega)]
  have q0 : 0 ≤ (16807 * ab.1 + p1 + ab.2) % 2147483647 := by omega
  have q1 : (16807 * ab.1 + p1 + ab.2) % 2147483647 < 2147483647 := by omega
  generalize (16807 * ab.1 + p1 + ab.2) % 2147483647 = a' at *
  rw [w64 (x := 39373 * ab.2) (by omega) (by omega), w64 (x := 39373 * ab.2 + p2) (by omega) (by omega), w64 (x := 39373 * ab.2 + p2 + a') (by omega) (by omega), Int.tmod_eq_emod_of_nonneg (by omega)]
/-- The two numbers of a list's mix. -/
def mixV (l : List Int) : Int × Int := mixOnes 3 (mixAll l l.length)
theorem mixV_ok (l : List Int) (hl : l.length ≤ 2000000) : mixOk (mixV l) := mixOnes_ok (mixAll_ok l hl _ (Nat.le_refl _)) 3
theorem mixParts_f (l : List Int) (hl : l.length ≤ 2000000) : impl_mixParts.f l = some (mixV l) := by unfold impl_mixParts.f; rw [if_pos hl]; rfl
theorem dMix_ones (l : List Int) (hl : l.length ≤ 2000000) (d : Nat) : ∀ (k j : Nat) (ab : Int × Int), j + d = 3 → d < k → ab = mixOnes j (mixAll l l.length) →
    spec_dMix.l0 k l ab.1 ab.2 ((l.length : Int) + j) = some (mixV l) := by
  induction d with
  | zero =>
    intro k j ab hj hk hab
    obtain ⟨k, rfl⟩ : ∃ m, k = m + 1 := ⟨k - 1, by omega⟩
    obtain rfl : j = 3 := by omega
    simp only [spec_dMix.l0]
    rw [w64 (by omega) (by omega), if_neg (by omega), hab]; rfl
  | succ d ih =>
    intro k j ab hj hk hab
    obtain ⟨k, rfl⟩ : ∃ m, k = m + 1 := ⟨k - 1, by omega⟩
    have hok : mixOk ab := by rw [hab]; exact mixOnes_ok (mixAll_ok l hl _ (Nat.le_refl _)) j
    have hs := dMix_step ab 1 hok
    simp only [spec_dMix.l0]
    rw [w64 (x := (l.length : Int) + 3) (by omega) (by omega), if_pos (by omega), if_neg (by omega), dMod_f 1 _ (by omega) (by omega), dMod_f 1 _ (by omega) (by omega), w64 (x := (l.length : Int) + j + 1) (by omega) (by omega)]
    simp only [Option.bind_some]
    have h1 := congrArg Prod.fst hs
    have h2 := congrArg Prod.snd hs
    dsimp only at h1 h2
    rw [h1] at h2 ⊢
    rw [h2]
    have := ih k (j + 1) (mixStep ab 1) (by omega) (by omega) (by rw [hab]; rfl)
    rw [show ((l.length : Int) + (j : Int) + 1) = (l.length : Int) + ((j + 1 : Nat) : Int) from by omega]
    exact this
theorem dMix_all (l : List Int) (hl : l.length ≤ 2000000) (d : Nat) : ∀ (k i : Nat) (ab : Int × Int), i + d = l.length → d + 4 ≤ k → ab = mixAll l i →
    spec_dMix.l0 k l ab.1 ab.2 (i : Int) = some (mixV l) := by
  induction d with
  | zero =>
    intro k i ab hi hk hab
    have := dMix_ones l hl 3 k 0 ab (by omega) (by omega) (by rw [hab, show i = l.length from by omega]; rfl)
    rw [show ((i : Nat) : Int) = (l.length : Int) + ((0 : Nat) : Int) from by omega]
    exact this
  | succ d ih =>
    intro k i ab hi hk hab
    obtain ⟨k, rfl⟩ : ∃ m, k = m + 1 := ⟨k - 1, by omega⟩
    have hok : mixOk ab := by rw [hab]; exact mixAll_ok l hl i (by omega)
    have hrd : rd l (i : Int) = l.getD i 0 := by unfold rd; simp
    have hs := dMix_step ab (l.getD i 0) hok
    simp only [spec_dMix.l0]
    rw [w64 (x := (l.length : Int) + 3) (by omega) (by omega), if_pos (by omega), if_pos (by omega), if_pos (by omega), hrd, dMod_f _ _ (by omega) (by omega), dMod_f _ _ (by omega) (by omega), w64 (x := (i : Int) + 1) (by omega) (by omega)]
    simp only [Option.bind_some]
    have h1 := congrArg Prod.fst hs
    have h2 := congrArg Prod.snd hs
    dsimp only at h1 h2
    rw [h1] at h2 ⊢
    rw [h2]
    have := ih k (i + 1) (mixStep ab (l.getD i 0)) (by omega) (by omega) (by rw [mixAll_succ l i (by omega), hab])
    rw [show ((i : Int) + 1) = ((i + 1 : Nat) : Int) from by omega]
    exact this
theorem dMix_ev (l : List Int) (hl : l.length ≤ 2000000) : Ev (fun k => spec_dMix.f k l) (mixV l) := by
  refine ⟨l.length + 4, fun k hk => ?_⟩
  unfold spec_dMix.f
  rw [w64 (by omega) (by omega)]
  exact dMix_all l hl l.length k 0 (7, (l.length : Int) + 1) (by omega) hk rfl
/-- The mix of a list as one number. -/
def hashV (l : List Int) : Int := wrap64 ((wrap64 ((mixV l).1 * 2147483648)) + (mixV l).2)
theorem dHash_ev (l : List Int) (hl : l.length ≤ 2000000) : Ev (fun k => spec_dHash.f k l) (hashV l) := by
  unfold spec_dHash.f
  exact Ev.bind (f := fun _ bt => some (wrap64 ((wrap64 (bt.1 * 2147483648)) + bt.2))) (dMix_ev l hl) (Ev.now _)
theorem mix_f (l : List Int) (hl : l.length ≤ 2000000) : impl_mix.f l = some (hashV l) := by
  unfold impl_mix.f; rw [mixParts_f l hl]; rfl

/-! the bytes of a text -/
def bytesFrom (s : ByteArray) : Int → Nat → List Int
  | _, 0 => []
  | i, d + 1 => wrap64 (bt s i) :: bytesFrom s (i + 1) d
def bytesV (s : ByteArray) : List Int := bytesFrom s 0 s.size
theorem bytesFrom_length (s : ByteArray) : ∀ (d : Nat) (i : Int), (bytesFrom s i d).length = d
  | 0, _ => rfl
  | d + 1, i => by simp [bytesFrom, bytesFrom_length s d]
theorem bytesV_length (s : ByteArray) : (bytesV s).length = s.size := bytesFrom_length s _ _
theorem dBytes_l (s : ByteArray) (hs : s.size ≤ 10000000) (d : Nat) : ∀ (k : Nat) (acc : List Int) (i : Int), 0 ≤ i → (s.size : Int) - i = d → d < k → acc.length + d ≤ 20000000 →
    spec_dBytes.l0 k s acc i = some (acc ++ bytesFrom s i d) := by
  induction d with
  | zero =>
    intro k acc i h0 hd hk ha
    obtain ⟨k, rfl⟩ : ∃ m, k = m + 1 := ⟨k - 1, by omega⟩
    simp only [spec_dBytes.l0]
    rw [if_neg (by omega)]; simp [bytesFrom]
  | succ d ih =>
    intro k acc i h0 hd hk ha
    obtain ⟨k, rfl⟩ : ∃ m, k = m + 1 := ⟨k - 1, by omega⟩
    simp only [spec_dBytes.l0]
    rw [if_pos (by omega), if_pos h0, if_pos (by omega), w64 (x := i + 1) (by omega) (by omega), ih k _ (i + 1) (by omega) (by omega) (by omega) (by simp; omega)]
    simp [bytesFrom]
theorem dBytes_ev (s : ByteArray) (hs : s.size ≤ 10000000) : Ev (fun k => spec_dBytes.f k s) (bytesV s) :=
  ⟨s.size + 1, fun k hk => by unfold spec_dBytes.f; dsimp only; rw [dBytes_l s hs s.size k [] 0 (by omega) (by omega) (by omega) (by simp; omega)]; rfl⟩
theorem withBytes_l (s : ByteArray) (hs : s.size ≤ 10000000) (d : Nat) : ∀ (k : Nat) (acc : List Int) (i : Int), 0 ≤ i → (s.size : Int) - i = d → d < k → acc.length + d ≤ 20000000 →
    impl_withBytes.l0 k acc s i = some (acc ++ bytesFrom s i d) := by
  induction d with
  | zero =>
    intro k acc i h0 hd hk ha
    obtain ⟨k, rfl⟩ : ∃ m, k = m + 1 := ⟨k - 1, by omega⟩
    simp only [impl_withBytes.l0]
    rw [if_neg (by omega)]; simp [bytesFrom]
  | succ d ih =>
    intro k acc i h0 hd hk ha
    obtain ⟨k, rfl⟩ : ∃ m, k = m + 1 := ⟨k - 1, by omega⟩
    simp only [impl_withBytes.l0]
    rw [if_pos (by omega), if_pos h0, if_pos (by omega), w64 (x := i + 1) (by omega) (by omega), ih k _ (i + 1) (by omega) (by omega) (by omega) (by simp; omega)]
    simp [bytesFrom]
theorem withBytes_ev (l : List Int) (s : ByteArray) (hl : l.length ≤ 100) (hs : s.size ≤ 10000000) : Ev (fun k => impl_withBytes.f k l s) (l ++ bytesV s) :=
  ⟨s.size + 1, fun k hk => by unfold impl_withBytes.f; dsimp only; rw [withBytes_l s hs s.size k l 0 (by omega) (by omega) (by omega) (by omega)]; rfl⟩

/-! dice -/
def dieV (seed i : Int) : Int := wrap64 (1 + (Int.tmod (mixV [seed, i]).1 6))
theorem dieV_bd (seed i : Int) : 1 ≤ dieV seed i ∧ dieV seed i ≤ 6 := by
  have h := mixV_ok [seed, i] (by simp)
  obtain ⟨h1, h2, _, _⟩ := h
  unfold dieV
  rw [Int.tmod_eq_emod_of_nonneg h1, w64 (by omega) (by omega)]
  omega
theorem dDie_ev (seed i : Int) : Ev (fun k => spec_dDie.f k seed i) (dieV seed i) := by
  unfold spec_dDie.f
  exact Ev.bind (f := fun _ bt => some (wrap64 (1 + (Int.tmod bt.1 6)))) (dMix_ev [seed, i] (by simp)) (Ev.now _)
theorem dieAt_f (seed i : Int) : impl_dieAt.f seed i = some (dieV seed i) := by
  unfold impl_dieAt.f; rw [mixParts_f _ (by simp)]; rfl
def belowV (seed i n : Int) : Int := Int.tmod (mixV [seed, i, n]).1 n
theorem belowV_bd (seed i n : Int) (h : 0 < n) : 0 ≤ belowV seed i n ∧ belowV seed i n < n := by
  obtain ⟨h1, h2, _, _⟩ := mixV_ok [seed, i, n] (by simp)
  exact ⟨Int.tmod_nonneg _ h1, Int.tmod_lt_of_pos _ h⟩
theorem dBelow_ev (seed i n : Int) (h : 0 < n) : Ev (fun k => spec_dBelow.f k seed i n) (belowV seed i n) := by
  unfold spec_dBelow.f
  refine Ev.bind (f := fun _ bt => if n = 0 then none else some (Int.tmod bt.1 n)) (dMix_ev [seed, i, n] (by simp)) ⟨0, fun k _ => ?_⟩
  show (if n = 0 then none else some (Int.tmod (mixV [seed, i, n]).1 n)) = _
  rw [if_neg (by omega)]; rfl
theorem numberBelow_f (seed i n : Int) (h : 0 < n) : impl_numberBelow.f seed i n = some (belowV seed i n) := by
  unfold impl_numberBelow.f; rw [mixParts_f _ (by simp), Option.bind_some, if_neg (by omega)]; rfl
end Go.Proofs.Ytgjdonadnofdlaa.Pure
