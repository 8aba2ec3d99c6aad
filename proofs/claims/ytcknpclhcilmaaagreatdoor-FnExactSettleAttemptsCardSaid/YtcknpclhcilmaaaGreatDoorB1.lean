import Derived.Test.YtcknpclhcilmaaaGreatDoorB0
set_option linter.unusedSimpArgs false
set_option linter.unusedVariables false
set_option maxRecDepth 100000
set_option maxHeartbeats 2000000
namespace Go.Abs.W
open Go Go.Abs Classical
attribute [-simp] Bool.decide_and
abbrev AttemptsV (o : Bool) (l : List Attempt) : AV := Rows o 3 (l.map Attempt.enc)
theorem c_laws_szAttemptS (l : List Attempt) (n : Int) (hn : Left n) (hl : Wide l.length) : C n_laws_szAttemptS [Rows false 3 (l.map Attempt.enc), I n] = some (I (less n l.length)) := by
  refine callC p_laws_szAttemptS rfl ?_
  have hw := less_small hn hl
  by_cases hc : n < l.length
  · have : n - (l.length : Int) < 0 := by omega
    simp [xRun, a_laws_szAttemptS, less, hw, hc, this]
  · have : ¬ n - (l.length : Int) < 0 := by omega
    simp [xRun, a_laws_szAttemptS, less, hw, hc, this]
theorem c_laws_toAttempt (t : Attempt) : C n_laws_toAttempt [AttemptV t] = some (AttemptV t) := by
  refine callC p_laws_toAttempt rfl ?_
  simp [xRun, a_laws_toAttempt]
theorem c_laws_toAttemptS (l : List Attempt) (hl : Len l.length) : C n_laws_toAttemptS [Rows false 3 (l.map Attempt.enc)] = some (Rows true 3 (l.map Attempt.enc)) := by
  refine callC p_laws_toAttemptS rfl ?_
  have h0 := make_ok hl
  simp [xRun, a_laws_toAttemptS, h0, -List.replicate]
  refine list_loop l (by unfold Len at hl; omega) (fun i (_ : Unit) => [(3, .own 0 3 (fillR Attempt.enc [.int .i64 0, .int .i64 0, .int .i64 0] l i)), (4, I i)]) (fun _ _ => True) default (by simp [fillR_zero, -List.replicate]) trivial ?_ ?_
  · intro N E i a s ha hi hm ht hwi _ hN hE
    have hset := fillR_set Attempt.enc [.int .i64 0, .int .i64 0, .int .i64 0] ha
    rw [Attempt.enc] at hset
    simp [bodyF, b_laws_toAttemptS_0, hi, ha, at_of ha, hwi, Attempt.enc, c_laws_toAttempt a, fillR_at _ _ hi, hset]
    exact hN _ s (by simp) trivial
  · intro N E s _ hE
    simp [bodyF, b_laws_toAttemptS_0]
    refine hE _ _ fun st => ?_
    simp [fillR_end]
theorem c_laws_eqAttempt (t : Attempt) : C n_laws_eqAttempt [AttemptV t, AttemptV t] = some (Bo true) := by
  refine callC p_laws_eqAttempt rfl ?_
  simp [xRun, a_laws_eqAttempt]
theorem c_laws_eqAttemptS (l : List Attempt) (hl : Len l.length) : C n_laws_eqAttemptS [Rows false 3 (l.map Attempt.enc), Rows false 3 (l.map Attempt.enc)] = some (Bo true) := by
  refine callC p_laws_eqAttemptS rfl ?_
  simp [xRun, a_laws_eqAttemptS]
  refine list_loop l (by unfold Len at hl; omega) (fun i (_ : Unit) => [(5, I i)]) (fun _ _ => True) default (by simp) trivial ?_ ?_
  · intro N E i a s ha hi hm ht hwi _ hN hE
    simp [bodyF, b_laws_eqAttemptS_0, hi, ha, at_of ha, hwi, Attempt.enc, c_laws_eqAttempt a]
    exact hN _ s (by simp) trivial
  · intro N E s _ hE
    simp [bodyF, b_laws_eqAttemptS_0]
    exact hE _ _ fun st => by simp
/-- One attempt is good. -/
def TryOK (b : Board) (s : State) (a : Attempt) : Prop := Has s a.unit ∧ 0 ≤ a.src ∧ (unitAt s a.unit).pos = a.src ∧ 0 ≤ a.dst ∧ 0 ≤ dirTo b.map a.src a.dst ∧ ¬ stepM b (unitAt s a.unit).kind s.weather a.src (dirTo b.map a.src a.dst) = 0
/-- The units of attempts rise. -/
def IncA (l : List Attempt) : Prop := ∀ (i : Nat) a b, l[i]? = some a → l[i + 1]? = some b → a.unit < b.unit
def AttsOK (b : Board) (s : State) (l : List Attempt) : Prop := (∀ a ∈ l, TryOK b s a) ∧ IncA l
theorem c_spec_fTry (b : Board) (s : State) (a : Attempt) (hl : LenB b) (h : StateOK b s) : C n_spec_fTry [BoardV false b, StateV false s, AttemptV a] = some (Bo (decide (TryOK b s a))) := by
  refine callC p_spec_fTry rfl ?_
  have hs12 := h.lens
  have w1 : IntKind.i64.wrap ((s.units.length : Int) - 1) = (s.units.length : Int) - 1 := wrap_small (by omega) (by omega)
  by_cases h1 : 0 ≤ a.unit ∧ a.unit ≤ (s.units.length : Int) - 1
  rotate_left
  · have hP : ¬ TryOK b s a := fun h => h1 (by have := h.1; unfold Has at this; omega)
    simp [xRun, a_spec_fTry, w1, h1, hP]
  have hu : Has s a.unit := ⟨h1.1, by omega⟩
  have n0 : ¬ a.unit < 0 := by omega
  have r1 := at_lt (l := s.units) hu.1 hu.2
  have r2 := unit_row hu
  by_cases h2 : a.src < 0
  · have hP : ¬ TryOK b s a := fun h => by have := h.2.1; omega
    simp [xRun, a_spec_fTry, w1, h1, h2, hP]
  have hx := hu.ok h
  by_cases h3 : (unitAt s a.unit).pos = a.src
  rotate_left
  · have hP : ¬ TryOK b s a := fun h => h3 h.2.2.1
    simp [xRun, a_spec_fTry, w1, h1, h2, n0, r1, r2, Unit.enc, h3, hP]
  simp [xRun, a_spec_fTry, w1, h1, h2, n0, r1, r2, Unit.enc, h3]
  have hon : On b a.src := by rw [← h3]; exact hx.on (by omega)
  refine find_loop dirsL (by simp [dirsL]) 7 (fun d => 0 ≤ nextM b.map a.src d ∧ nextM b.map a.src d = a.dst) (by simp) ?_ ?_
  · intro N E n d ha hlt hm hwi hs hN hE
    obtain ⟨rfl, g2, g3⟩ := dirs_at ha
    have e1 := c_spec_mNext b.map a.src n h.board.map.dim (hon.ix h.board) g2
    by_cases h4 : 0 ≤ nextM b.map a.src n
    · by_cases h5 : nextM b.map a.src n = a.dst
      · have hd : dirTo b.map a.src a.dst = n := by rw [← sideM_eq (by omega)]; exact firstIx_at ha ⟨h4, h5⟩ hs
        have e2 := c_spec_cStep b (unitAt s a.unit).kind a.src n s.weather hl h.board hx.kind hon g2 h.weather
        have hle := stepM_le h.board (k := (unitAt s a.unit).kind) (w := s.weather) (i := a.src) (d := n) hx.kind h.weather
        have hP : TryOK b s a ↔ 0 < stepM b (unitAt s a.unit).kind s.weather a.src n := by
          unfold TryOK; rw [hd]
          exact ⟨fun hh => by have := hh.2.2.2.2.2; omega, fun hh => ⟨hu, by omega, h3, by omega, by omega, by omega⟩⟩
        have h6 : 0 ≤ a.dst := by omega
        by_cases h7 : 0 < stepM b (unitAt s a.unit).kind s.weather a.src n
        · have hP := hP.2 h7
          simp [bodyF, b_spec_fTry_0, g3, e1, h5, h6, n0, r1, r2, Unit.enc, e2, h7]
          exact hE _ _ fun st => by simp [hP]
        · have hP : ¬ TryOK b s a := fun h => h7 (hP.1 h)
          simp [bodyF, b_spec_fTry_0, g3, e1, h5, h6, n0, r1, r2, Unit.enc, e2, h7]
          exact hE _ _ fun st => by simp [hP]
      · simp [bodyF, b_spec_fTry_0, g3, e1, h4, h5, hwi]
        exact hN _ (by simp) (fun h => h5 h.2)
    · simp [bodyF, b_spec_fTry_0, g3, e1, h4, hwi]
      exact hN _ (by simp) (fun h => h4 h.1)
  · intro N E hs hE
    have hP : ¬ TryOK b s a := fun h => by
      have h4 := h.2.2.2.1
      have h5 := h.2.2.2.2.1
      rw [← sideM_eq h4] at h5
      have : sideM b.map a.src a.dst = -1 := firstIx_none hs
      omega
    simp [bodyF, b_spec_fTry_0, dirsL]
    exact hE _ _ fun st => by simp [hP]
/-- The state of a loop that looks at each attempt and at the one in front of it. -/
def AttsUpto (b : Board) (s : State) (l : List Attempt) (i : Nat) : Prop := (∀ a ∈ l.take i, TryOK b s a) ∧ ∀ (j : Nat) a c, j + 1 < i → l[j]? = some a → l[j + 1]? = some c → a.unit < c.unit
theorem AttsUpto.zero {b : Board} {s : State} {l : List Attempt} : AttsUpto b s l 0 := ⟨by simp, fun j a c h => by omega⟩
theorem AttsUpto.next {b : Board} {s : State} {l : List Attempt} {i : Nat} {a : Attempt} (h : AttsUpto b s l i) (ha : l[i]? = some a) (ht : l.take (i + 1) = l.take i ++ [a]) (hok : TryOK b s a) (hp : ∀ k p, k + 1 = i → l[k]? = some p → p.unit < a.unit) : AttsUpto b s l (i + 1) := by
  refine ⟨fun x hx => ?_, fun j x y hj hx hy => ?_⟩
  · rw [ht] at hx; simp at hx
    rcases hx with hx | rfl
    · exact h.1 x hx
    · exact hok
  · by_cases hji : j + 1 = i
    · subst hji
      rw [ha] at hy; obtain rfl := Option.some.inj hy
      exact hp j x rfl hx
    · exact h.2 j x y (by omega) hx hy
theorem AttsUpto.all {b : Board} {s : State} {l : List Attempt} (h : AttsUpto b s l l.length) : AttsOK b s l := by
  refine ⟨by simpa using h.1, fun i x y hx hy => h.2 i x y (by have := (List.getElem?_eq_some_iff.1 hy).1; omega) hx hy⟩
theorem c_spec_fGood (b : Board) (s : State) (l : List Attempt) (hl : LenB b) (h : StateOK b s) (hls : Len l.length) : C n_spec_fGood [BoardV false b, StateV false s, AttemptsV false l] = some (Bo (decide (AttsOK b s l))) := by
  refine callC p_spec_fGood rfl ?_
  simp [xRun, a_spec_fGood]
  refine list_loop l (by unfold Len at hls; omega) (fun i (_ : Unit) => [(11, I i)]) (fun i _ => AttsUpto b s l i) default (by simp) .zero ?_ ?_
  · intro N E n a z ha hlt hm ht hwi hs hN hE
    have e1 := c_spec_fTry b s a hl h
    by_cases h1 : TryOK b s a
    rotate_left
    · have hP : ¬ AttsOK b s l := fun h => h1 (h.1 a hm)
      simp [bodyF, b_spec_fGood_0, hlt, ha, at_of ha, Attempt.enc, e1, h1]
      exact hE _ _ fun st => by simp [hP]
    rw [decide_eq_true h1] at e1
    by_cases h0 : n = 0
    · subst h0
      have hw1 : IntKind.i64.wrap 1 = 1 := by simpa using hwi
      simp [bodyF, b_spec_fGood_0, hlt, ha, at_of ha, Attempt.enc, e1, hw1]
      exact hN _ z (by simp) (hs.next ha ht h1 fun k p hk => by omega)
    · obtain ⟨k, rfl⟩ : ∃ k, n = k + 1 := ⟨n - 1, by omega⟩
      obtain ⟨p, hb⟩ : ∃ p, l[k]? = some p := ⟨l[k], by simp⟩
      generalize hii : k + 1 = i at *
      have hw : IntKind.i64.wrap ((i : Int) - 1) = (k : Int) := by rw [wrap_small (by omega) (by unfold Len at hls; omega)]; omega
      have hk : k < l.length := by omega
      have hp : 0 < i := by omega
      by_cases hd : a.unit ≤ p.unit
      · have hP : ¬ AttsOK b s l := fun h => by have := h.2 k p a hb (by rw [hii]; exact ha); omega
        simp [bodyF, b_spec_fGood_0, hlt, ha, at_of ha, Attempt.enc, e1, hw, hk, hb, at_of hb, hd, hp]
        exact hE _ _ fun st => by simp [hP]
      · simp [bodyF, b_spec_fGood_0, hlt, ha, at_of ha, Attempt.enc, e1, hw, hk, hb, at_of hb, hd, hp, hwi]
        exact hN _ z (by simp) (hs.next ha ht h1 fun k' p' hk' hp' => by
          obtain rfl : k' = k := by omega
          rw [hb] at hp'; obtain rfl := Option.some.inj hp'; omega)
  · intro N E z hs hE
    have hP := hs.all
    simp [bodyF, b_spec_fGood_0]
    exact hE _ _ fun st => by simp [hP]
/-- What the code asks of one attempt, behind the first question. -/
theorem tryBody {b : Board} {s : State} {a : Attempt} : True := trivial
theorem c_impl_goodAttempts (b : Board) (s : State) (l : List Attempt) (hl : LenB b) (h : StateOK b s) (hls : Len l.length) : C n_impl_goodAttempts [BoardV false b, StateV false s, AttemptsV false l] = some (Bo (decide (AttsOK b s l))) := by
  refine callC p_impl_goodAttempts rfl ?_
  have hs12 := h.lens
  have hsz := h.board.size_le
  simp [xRun, a_impl_goodAttempts]
  refine list_loop l (by unfold Len at hls; omega) (fun i (_ : Unit) => [(13, I i)]) (fun i _ => AttsUpto b s l i) default (by simp) .zero ?_ ?_
  · intro N E n a z ha hlt hm ht hwi hs hN hE
    have e1 := c_impl_isIndex a.unit s.units.length (by omega) (by omega)
    have e2 := c_impl_isIndex a.src (size b) (by omega) (by omega)
    have e3 := c_impl_isIndex a.dst (size b) (by omega) (by omega)
    -- the rest, where what stands in front is lower
    by_cases h1 : 0 ≤ a.unit ∧ a.unit < s.units.length
    rotate_left
    · have hT : ¬ TryOK b s a := fun h => h1 h.1
      have hP : ¬ AttsOK b s l := fun h => hT (h.1 a hm)
      by_cases h0 : n = 0
      · subst h0
        simp [bodyF, b_impl_goodAttempts_0, hlt, ha, at_of ha, Attempt.enc, e1, h1]
        exact hE _ _ fun st => by simp [hP]
      · obtain ⟨k, rfl⟩ : ∃ k, n = k + 1 := ⟨n - 1, by omega⟩
        obtain ⟨p, hb⟩ : ∃ p, l[k]? = some p := ⟨l[k], by simp⟩
        generalize hii : k + 1 = i at *
        have hw : IntKind.i64.wrap ((i : Int) - 1) = (k : Int) := by rw [wrap_small (by omega) (by unfold Len at hls; omega)]; omega
        have hk : k < l.length := by omega
        have hp : 0 < i := by omega
        by_cases hd : a.unit ≤ p.unit
        · simp [bodyF, b_impl_goodAttempts_0, hlt, ha, at_of ha, Attempt.enc, e1, h1, hw, hk, hb, at_of hb, hd, hp]
          exact hE _ _ fun st => by simp [hP]
        · simp [bodyF, b_impl_goodAttempts_0, hlt, ha, at_of ha, Attempt.enc, e1, h1, hw, hk, hb, at_of hb, hd, hp]
          exact hE _ _ fun st => by simp [hP]
    have hu : Has s a.unit := h1
    have n0 : ¬ a.unit < 0 := by omega
    have r1 := at_lt (l := s.units) hu.1 hu.2
    have r2 := unit_row hu
    have hx := hu.ok h
    by_cases h2 : 0 ≤ a.src ∧ a.src < size b
    rotate_left
    · have hT : ¬ TryOK b s a := fun hh => h2 (by have h3 := hh.2.2.1; have := hx.on (by rw [h3]; exact hh.2.1); rw [h3] at this; exact this)
      have hP : ¬ AttsOK b s l := fun h => hT (h.1 a hm)
      by_cases h0 : n = 0
      · subst h0
        simp [bodyF, b_impl_goodAttempts_0, hlt, ha, at_of ha, Attempt.enc, e1, h1, e2, h2]
        exact hE _ _ fun st => by simp [hP]
      · obtain ⟨k, rfl⟩ : ∃ k, n = k + 1 := ⟨n - 1, by omega⟩
        obtain ⟨p, hb⟩ : ∃ p, l[k]? = some p := ⟨l[k], by simp⟩
        generalize hii : k + 1 = i at *
        have hw : IntKind.i64.wrap ((i : Int) - 1) = (k : Int) := by rw [wrap_small (by omega) (by unfold Len at hls; omega)]; omega
        have hk : k < l.length := by omega
        have hp : 0 < i := by omega
        by_cases hd : a.unit ≤ p.unit
        · simp [bodyF, b_impl_goodAttempts_0, hlt, ha, at_of ha, Attempt.enc, e1, h1, e2, h2, hw, hk, hb, at_of hb, hd, hp]
          exact hE _ _ fun st => by simp [hP]
        · simp [bodyF, b_impl_goodAttempts_0, hlt, ha, at_of ha, Attempt.enc, e1, h1, e2, h2, hw, hk, hb, at_of hb, hd, hp]
          exact hE _ _ fun st => by simp [hP]
    have hon : On b a.src := h2
    by_cases h3 : 0 ≤ a.dst ∧ a.dst < size b
    rotate_left
    · have hT : ¬ TryOK b s a := fun hh => h3 (by
        have hd := dirTo_next hh.2.2.2.2.1
        have := next_on h.board (a := a.src) (d := dirTo b.map a.src a.dst) (by rw [hd.1]; exact hh.2.2.2.1)
        rw [hd.1] at this; exact this)
      have hP : ¬ AttsOK b s l := fun h => hT (h.1 a hm)
      by_cases h0 : n = 0
      · subst h0
        simp [bodyF, b_impl_goodAttempts_0, hlt, ha, at_of ha, Attempt.enc, e1, h1, e2, h2, e3, h3]
        exact hE _ _ fun st => by simp [hP]
      · obtain ⟨k, rfl⟩ : ∃ k, n = k + 1 := ⟨n - 1, by omega⟩
        obtain ⟨p, hb⟩ : ∃ p, l[k]? = some p := ⟨l[k], by simp⟩
        generalize hii : k + 1 = i at *
        have hw : IntKind.i64.wrap ((i : Int) - 1) = (k : Int) := by rw [wrap_small (by omega) (by unfold Len at hls; omega)]; omega
        have hk : k < l.length := by omega
        have hp : 0 < i := by omega
        by_cases hd : a.unit ≤ p.unit
        · simp [bodyF, b_impl_goodAttempts_0, hlt, ha, at_of ha, Attempt.enc, e1, h1, e2, h2, e3, h3, hw, hk, hb, at_of hb, hd, hp]
          exact hE _ _ fun st => by simp [hP]
        · simp [bodyF, b_impl_goodAttempts_0, hlt, ha, at_of ha, Attempt.enc, e1, h1, e2, h2, e3, h3, hw, hk, hb, at_of hb, hd, hp]
          exact hE _ _ fun st => by simp [hP]
    have e4 := c_impl_directionOn b.map a.src a.dst h.board.map.dim (hon.ix h.board)
    by_cases h4 : (unitAt s a.unit).pos = a.src
    rotate_left
    · have hT : ¬ TryOK b s a := fun h => h4 h.2.2.1
      have hP : ¬ AttsOK b s l := fun h => hT (h.1 a hm)
      by_cases h0 : n = 0
      · subst h0
        simp [bodyF, b_impl_goodAttempts_0, hlt, ha, at_of ha, Attempt.enc, e1, h1, e2, h2, e3, h3, e4, n0, r1, r2, Unit.enc, h4]
        exact hE _ _ fun st => by simp [hP]
      · obtain ⟨k, rfl⟩ : ∃ k, n = k + 1 := ⟨n - 1, by omega⟩
        obtain ⟨p, hb⟩ : ∃ p, l[k]? = some p := ⟨l[k], by simp⟩
        generalize hii : k + 1 = i at *
        have hw : IntKind.i64.wrap ((i : Int) - 1) = (k : Int) := by rw [wrap_small (by omega) (by unfold Len at hls; omega)]; omega
        have hk : k < l.length := by omega
        have hp : 0 < i := by omega
        by_cases hd : a.unit ≤ p.unit
        · simp [bodyF, b_impl_goodAttempts_0, hlt, ha, at_of ha, Attempt.enc, e1, h1, e2, h2, e3, h3, e4, n0, r1, r2, Unit.enc, h4, hw, hk, hb, at_of hb, hd, hp]
          exact hE _ _ fun st => by simp [hP]
        · simp [bodyF, b_impl_goodAttempts_0, hlt, ha, at_of ha, Attempt.enc, e1, h1, e2, h2, e3, h3, e4, n0, r1, r2, Unit.enc, h4, hw, hk, hb, at_of hb, hd, hp]
          exact hE _ _ fun st => by simp [hP]
    by_cases h5 : dirTo b.map a.src a.dst < 0
    · have hT : ¬ TryOK b s a := fun h => by have := h.2.2.2.2.1; omega
      have hP : ¬ AttsOK b s l := fun h => hT (h.1 a hm)
      by_cases h0 : n = 0
      · subst h0
        simp [bodyF, b_impl_goodAttempts_0, hlt, ha, at_of ha, Attempt.enc, e1, h1, e2, h2, e3, h3, e4, n0, r1, r2, Unit.enc, h4, h5]
        exact hE _ _ fun st => by simp [hP]
      · obtain ⟨k, rfl⟩ : ∃ k, n = k + 1 := ⟨n - 1, by omega⟩
        obtain ⟨p, hb⟩ : ∃ p, l[k]? = some p := ⟨l[k], by simp⟩
        generalize hii : k + 1 = i at *
        have hw : IntKind.i64.wrap ((i : Int) - 1) = (k : Int) := by rw [wrap_small (by omega) (by unfold Len at hls; omega)]; omega
        have hk : k < l.length := by omega
        have hp : 0 < i := by omega
        by_cases hd : a.unit ≤ p.unit
        · simp [bodyF, b_impl_goodAttempts_0, hlt, ha, at_of ha, Attempt.enc, e1, h1, e2, h2, e3, h3, e4, n0, r1, r2, Unit.enc, h4, h5, hw, hk, hb, at_of hb, hd, hp]
          exact hE _ _ fun st => by simp [hP]
        · simp [bodyF, b_impl_goodAttempts_0, hlt, ha, at_of ha, Attempt.enc, e1, h1, e2, h2, e3, h3, e4, n0, r1, r2, Unit.enc, h4, h5, hw, hk, hb, at_of hb, hd, hp]
          exact hE _ _ fun st => by simp [hP]
    obtain ⟨_, hd⟩ := dirTo_next (m := b.map) (a := a.src) (i := a.dst) (by omega)
    have e5 := c_impl_stepCost b (unitAt s a.unit).kind s.weather a.src _ hl h.board hx.kind hon hd h.weather
    by_cases h6 : stepM b (unitAt s a.unit).kind s.weather a.src (dirTo b.map a.src a.dst) = 0
    · have hT : ¬ TryOK b s a := fun h => h.2.2.2.2.2 h6
      have hP : ¬ AttsOK b s l := fun h => hT (h.1 a hm)
      by_cases h0 : n = 0
      · subst h0
        simp [bodyF, b_impl_goodAttempts_0, hlt, ha, at_of ha, Attempt.enc, e1, h1, e2, h2, e3, h3, e4, n0, r1, r2, Unit.enc, h4, h5, e5, h6]
        exact hE _ _ fun st => by simp [hP]
      · obtain ⟨k, rfl⟩ : ∃ k, n = k + 1 := ⟨n - 1, by omega⟩
        obtain ⟨p, hb⟩ : ∃ p, l[k]? = some p := ⟨l[k], by simp⟩
        generalize hii : k + 1 = i at *
        have hw : IntKind.i64.wrap ((i : Int) - 1) = (k : Int) := by rw [wrap_small (by omega) (by unfold Len at hls; omega)]; omega
        have hk : k < l.length := by omega
        have hp : 0 < i := by omega
        by_cases hd : a.unit ≤ p.unit
        · simp [bodyF, b_impl_goodAttempts_0, hlt, ha, at_of ha, Attempt.enc, e1, h1, e2, h2, e3, h3, e4, n0, r1, r2, Unit.enc, h4, h5, e5, h6, hw, hk, hb, at_of hb, hd, hp]
          exact hE _ _ fun st => by simp [hP]
        · simp [bodyF, b_impl_goodAttempts_0, hlt, ha, at_of ha, Attempt.enc, e1, h1, e2, h2, e3, h3, e4, n0, r1, r2, Unit.enc, h4, h5, e5, h6, hw, hk, hb, at_of hb, hd, hp]
          exact hE _ _ fun st => by simp [hP]
    have hT : TryOK b s a := ⟨hu, h2.1, h4, h3.1, by omega, h6⟩
    by_cases h0 : n = 0
    · subst h0
      have hw1 : IntKind.i64.wrap 1 = 1 := by simpa using hwi
      simp [bodyF, b_impl_goodAttempts_0, hlt, ha, at_of ha, Attempt.enc, e1, h1, e2, h2, e3, h3, e4, n0, r1, r2, Unit.enc, h4, h5, e5, h6, hw1]
      exact hN _ z (by simp) (hs.next ha ht hT fun k p hk => by omega)
    · obtain ⟨k, rfl⟩ : ∃ k, n = k + 1 := ⟨n - 1, by omega⟩
      obtain ⟨p, hb⟩ : ∃ p, l[k]? = some p := ⟨l[k], by simp⟩
      generalize hii : k + 1 = i at *
      have hw : IntKind.i64.wrap ((i : Int) - 1) = (k : Int) := by rw [wrap_small (by omega) (by unfold Len at hls; omega)]; omega
      have hk : k < l.length := by omega
      have hp : 0 < i := by omega
      by_cases hd : a.unit ≤ p.unit
      · have hP : ¬ AttsOK b s l := fun h => by have := h.2 k p a hb (by rw [hii]; exact ha); omega
        simp [bodyF, b_impl_goodAttempts_0, hlt, ha, at_of ha, Attempt.enc, hw, hk, hb, at_of hb, hd, hp]
        exact hE _ _ fun st => by simp [hP]
      · simp [bodyF, b_impl_goodAttempts_0, hlt, ha, at_of ha, Attempt.enc, e1, h1, e2, h2, e3, h3, e4, n0, r1, r2, Unit.enc, h4, h5, e5, h6, hw, hk, hb, at_of hb, hd, hp, hwi]
        exact hN _ z (by simp) (hs.next ha ht hT fun k' p' hk' hp' => by
          obtain rfl : k' = k := by omega
          rw [hb] at hp'; obtain rfl := Option.some.inj hp'; omega)
  · intro N E z hs hE
    have hP := hs.all
    simp [bodyF, b_impl_goodAttempts_0]
    exact hE _ _ fun st => by simp [hP]
end Go.Abs.W
