import Derived.Test.YtdhkoobikheabaaGreatDoorB0
set_option linter.unusedSimpArgs false
set_option linter.unusedVariables false
set_option maxRecDepth 100000
set_option maxHeartbeats 2000000
namespace Go.Abs.W
open Go Go.Abs Classical
attribute [-simp] Bool.decide_and
theorem c_laws_szOrder (o : Order) (n : Int) (hn : Left n) (hl : Wide o.path.length) : C n_laws_szOrder [OrderV false o, I n] = some (I (less n o.path.length)) := by
  refine callC p_laws_szOrder rfl ?_
  have h1 := c_laws_szIntS o.path n hn hl
  by_cases hc : n < o.path.length
  · rw [less_yes hc] at h1
    simp [xRun, a_laws_szOrder, h1, less_yes hc]
  · rw [less_no hc] at h1
    have h3 : ¬ n - (o.path.length : Int) < 0 := by omega
    simp [xRun, a_laws_szOrder, h1, h3, less_no hc]
theorem c_laws_toOrder (o : Order) (hl : Len o.path.length) : C n_laws_toOrder [OrderV false o] = some (OrderV true o) := by
  refine callC p_laws_toOrder rfl ?_
  simp [xRun, a_laws_toOrder, c_laws_toIntS _ hl]
theorem c_laws_eqOrder (o : Order) (hl : Len o.path.length) : C n_laws_eqOrder [OrderV false o, OrderV false o] = some (Bo true) := by
  refine callC p_laws_eqOrder rfl ?_
  simp [xRun, a_laws_eqOrder, c_laws_eqIntS _ hl]
/-- A path's form. -/
def PathOK (p : List Int) : Prop := (p.length : Int) ≤ 9 ∧ AllIn p 0 5
theorem PathOK.len {p : List Int} (h : PathOK p) : p.length ≤ 9 := by have := h.1; omega
theorem c_spec_csPath (p : List Int) (hl : Len p.length) : C n_spec_csPath [Li p] = some (Bo (decide (PathOK p))) := by
  refine callC p_spec_csPath rfl ?_
  have e1 := c_spec_l1All p 0 5 hl
  by_cases h1 : (p.length : Int) ≤ 9
  · by_cases h2 : AllIn p 0 5
    · have hP : PathOK p := ⟨h1, h2⟩
      simp [xRun, a_spec_csPath, ints_length, h1, e1, h2, hP]
    · have hP : ¬ PathOK p := fun h => h2 h.2
      simp [xRun, a_spec_csPath, ints_length, h1, e1, h2, hP]
  · have hP : ¬ PathOK p := fun h => h1 h.1
    simp [xRun, a_spec_csPath, ints_length, h1, hP]
theorem c_impl_isPath_1 (c : Int) : C n_impl_isPath_1 (I c :: ([] : List (List D)).map .rp) = some (Bo (decide (¬ (0 ≤ c ∧ c ≤ 5)))) := by
  refine callC p_impl_isPath_1 rfl ?_
  by_cases h : 0 ≤ c ∧ c ≤ 5 <;> simp [xRun, a_impl_isPath_1, h]
theorem c_impl_isPath (p : List Int) (hl : Len p.length) : C n_impl_isPath [Li p] = some (Bo (decide (PathOK p))) := by
  refine callC p_impl_isPath rfl ?_
  have e1 := c_slices_ContainsFunc_int p n_impl_isPath_1 [] (fun c => ¬ (0 ≤ c ∧ c ≤ 5)) hl c_impl_isPath_1
  rw [not_ex] at e1
  by_cases h1 : (p.length : Int) ≤ 9
  · by_cases h2 : AllIn p 0 5
    · have hP : PathOK p := ⟨h1, h2⟩
      unfold AllIn at h2
      rw [decide_eq_true h2] at e1
      simp [xRun, a_impl_isPath, ints_length, h1, e1, hP]
    · have hP : ¬ PathOK p := fun h => h2 h.2
      unfold AllIn at h2
      rw [decide_eq_false h2] at e1
      simp [xRun, a_impl_isPath, ints_length, h1, e1, hP]
  · have hP : ¬ PathOK p := fun h => h1 h.1
    simp [xRun, a_impl_isPath, ints_length, h1, hP]
/-- Where a path leads to. -/
def posL (m : Map) (i : Int) (p : List Int) : Int := p.foldl (nextM m) i
theorem posL_nil (m : Map) (i : Int) : posL m i [] = i := rfl
theorem posL_snoc (m : Map) (i : Int) (p : List Int) (d : Int) : posL m i (p ++ [d]) = nextM m (posL m i p) d := by simp [posL]
/-- What each of its steps costs. -/
noncomputable def costsL (b : Board) (k w : Int) : Int → List Int → List Int
  | _, [] => []
  | i, d :: p => stepM b k w i d :: costsL b k w (nextM b.map i d) p
theorem costsL_snoc (b : Board) (k w i : Int) (p : List Int) (d : Int) : costsL b k w i (p ++ [d]) = costsL b k w i p ++ [stepM b k w (posL b.map i p) d] := by
  induction p generalizing i with
  | nil => rfl
  | cons x p ih => simp only [List.cons_append, costsL, ih]; rfl
theorem costsL_length (b : Board) (k w i : Int) (p : List Int) : (costsL b k w i p).length = p.length := by
  induction p generalizing i with
  | nil => rfl
  | cons x p ih => simp [costsL, ih]
theorem costsL_le {b : Board} (h : BoardOK b) {k w : Int} (hk : KindOf b k) (hw : Wth w) (i : Int) (p : List Int) : ∀ c ∈ costsL b k w i p, 0 ≤ c ∧ c ≤ 20 := by
  induction p generalizing i with
  | nil => intro c hc; cases hc
  | cons x p ih =>
    intro c hc
    simp only [costsL, List.mem_cons] at hc
    rcases hc with rfl | hc
    · exact stepM_le h hk hw
    · exact ih _ c hc
/-- Each of its steps can be gone. -/
def StepsOK (b : Board) (k w : Int) : Int → List Int → Prop
  | _, [] => True
  | i, d :: p => ¬ stepM b k w i d = 0 ∧ StepsOK b k w (nextM b.map i d) p
theorem StepsOK_app (b : Board) (k w i : Int) (p q : List Int) : StepsOK b k w i (p ++ q) ↔ StepsOK b k w i p ∧ StepsOK b k w (posL b.map i p) q := by
  induction p generalizing i with
  | nil => simp [StepsOK, posL]
  | cons x p ih =>
    simp only [List.cons_append, StepsOK, ih, and_assoc]
    rfl
theorem StepsOK_snoc (b : Board) (k w i : Int) (p : List Int) (d : Int) : StepsOK b k w i (p ++ [d]) ↔ StepsOK b k w i p ∧ ¬ stepM b k w (posL b.map i p) d = 0 := by
  rw [StepsOK_app]; simp [StepsOK]
theorem StepsOK.take {b : Board} {k w i : Int} {p : List Int} (h : StepsOK b k w i p) (n : Nat) : StepsOK b k w i (p.take n) := by
  rw [← List.take_append_drop n p, StepsOK_app] at h; exact h.1
theorem step_next {b : Board} {k w i d : Int} (h : ¬ stepM b k w i d = 0) : 0 ≤ nextM b.map i d := by
  unfold stepM at h
  split at h
  · exact absurd rfl h
  · rename_i hh; omega
theorem StepsOK.on {b : Board} (hb : BoardOK b) {k w i : Int} {p : List Int} (h : StepsOK b k w i p) (hi : On b i) : On b (posL b.map i p) := by
  induction p generalizing i with
  | nil => exact hi
  | cons x p ih => exact ih (i := nextM b.map i x) h.2 (next_on hb (step_next h.1))
/-- What a path costs. -/
noncomputable def costL (b : Board) (k w i : Int) (p : List Int) : Int := sumI (fun x => x) (costsL b k w i p)
theorem costL_nil (b : Board) (k w i : Int) : costL b k w i [] = 0 := rfl
theorem costL_snoc (b : Board) (k w i : Int) (p : List Int) (d : Int) : costL b k w i (p ++ [d]) = costL b k w i p + stepM b k w (posL b.map i p) d := by
  unfold costL; rw [costsL_snoc, sumI_snoc]
theorem costL_le {b : Board} (h : BoardOK b) {k w : Int} (hk : KindOf b k) (hw : Wth w) (i : Int) (p : List Int) : 0 ≤ costL b k w i p ∧ costL b k w i p ≤ 36 * p.length := by
  have := sumI_le (fun x => x) (costsL b k w i p) fun c hc => by have := costsL_le h hk hw i p c hc; omega
  rw [costsL_length] at this
  exact this
/-- The costs up to the first step that can't be gone. -/
noncomputable def goodC (b : Board) (k w : Int) : Int → List Int → List Int
  | _, [] => []
  | i, d :: p => if stepM b k w i d = 0 then [] else stepM b k w i d :: goodC b k w (nextM b.map i d) p
theorem goodC_all {b : Board} {k w i : Int} {p : List Int} (h : StepsOK b k w i p) : goodC b k w i p = costsL b k w i p := by
  induction p generalizing i with
  | nil => rfl
  | cons x p ih => simp only [goodC, costsL, if_neg h.1, ih h.2]
theorem goodC_at {b : Board} {k w i : Int} {p : List Int} {n : Nat} {d : Int} (h : StepsOK b k w i (p.take n)) (hd : p[n]? = some d) (h0 : stepM b k w (posL b.map i (p.take n)) d = 0) : goodC b k w i p = costsL b k w i (p.take n) := by
  induction n generalizing i p with
  | zero =>
    cases p with
    | nil => simp at hd
    | cons x p =>
      simp at hd; subst hd
      simp only [List.take_zero, posL_nil] at h0
      simp [goodC, costsL, h0]
  | succ n ih =>
    cases p with
    | nil => simp at hd
    | cons x p =>
      simp only [List.take_succ_cons] at h h0 ⊢
      simp only [goodC, costsL, if_neg h.1]
      congr 1
      exact ih (i := nextM b.map i x) h.2 (by simpa using hd) h0
theorem goodC_short {b : Board} {k w i : Int} {p : List Int} (h : ¬ StepsOK b k w i p) : (goodC b k w i p).length < p.length := by
  induction p generalizing i with
  | nil => exact absurd trivial h
  | cons x p ih =>
    by_cases h0 : stepM b k w i x = 0
    · simp [goodC, h0]
    · have : ¬ StepsOK b k w (nextM b.map i x) p := fun hh => h ⟨h0, hh⟩
      have := ih this
      simp [goodC, h0]; omega
theorem c_spec_csCost (b : Board) (k w i : Int) (p : List Int) (hl : LenB b) (h : BoardOK b) (hk : KindOf b k) (hw : Wth w) (hi : On b i) (hp : PathOK p) :
    C n_spec_csCost [BoardV false b, I k, I w, I i, Li p] = some (I (if StepsOK b k w i p then costL b k w i p else -1)) := by
  refine callC p_spec_csCost rfl ?_
  have hp9 := hp.len
  simp [xRun, a_spec_csCost, ints_length]
  refine list_loop p (by omega) (fun n (_ : Unit) => [(3, I (posL b.map i (p.take n))), (11, I (costL b k w i (p.take n))), (17, I n)]) (fun n _ => StepsOK b k w i (p.take n)) default (by simp [posL_nil, costL_nil]) trivial ?_ ?_
  · intro N E n d z hd hlt hm ht hwi hs hN hE
    have hon := hs.on h hi
    have hdd : Dir d := hp.2 d hm
    have e1 := c_spec_cStep b k (posL b.map i (p.take n)) d w hl h hk hon hdd hw
    have e2 := c_spec_mNext b.map (posL b.map i (p.take n)) d h.map.dim (hon.ix h) hdd
    have hb := costL_le h hk hw i (p.take (n + 1))
    have hpl : (p.take (n + 1)).length ≤ 9 := by rw [List.length_take]; omega
    have w1 : IntKind.i64.wrap (costL b k w i (p.take n) + stepM b k w (posL b.map i (p.take n)) d) = costL b k w i (p.take (n + 1)) := by
      rw [ht, costL_snoc] at hb ⊢
      rw [ht] at hpl
      exact wrap_small (by omega) (by omega)
    by_cases h1 : stepM b k w (posL b.map i (p.take n)) d = 0
    · have hP : ¬ StepsOK b k w i p := fun hh => by
        have := hh.take (n + 1)
        rw [ht, StepsOK_snoc] at this
        exact this.2 h1
      simp [bodyF, b_spec_csCost_0, hlt, ints_length, ints_get hd, ints_at hd, e1, h1]
      exact hE _ _ fun st => by simp [hP]
    · have hs2 : StepsOK b k w i (p.take (n + 1)) := by rw [ht, StepsOK_snoc]; exact ⟨hs, h1⟩
      have hpn : posL b.map i (p.take (n + 1)) = nextM b.map (posL b.map i (p.take n)) d := by rw [ht, posL_snoc]
      rw [hpn] at hN
      simp [bodyF, b_spec_csCost_0, hlt, ints_length, ints_get hd, ints_at hd, e1, h1, w1, e2, hwi]
      exact hN _ z (by simp) hs2
  · intro N E z hs hE
    rw [List.take_length] at hs ⊢
    simp [bodyF, b_spec_csCost_0, ints_length]
    exact hE _ _ fun st => by simp [hs]
theorem c_impl_costsAlong (b : Board) (k w i : Int) (p : List Int) (hl : LenB b) (h : BoardOK b) (hk : KindOf b k) (hw : Wth w) (hi : On b i) (hp : PathOK p) :
    C n_impl_costsAlong [BoardV false b, I k, I w, I i, Li p] = some (Lo (goodC b k w i p)) := by
  refine callC p_impl_costsAlong rfl ?_
  have hp9 := hp.len
  simp [xRun, a_impl_costsAlong, ints_length, rowsOf]
  refine list_loop p (by omega) (fun n (_ : Unit) => [(3, I (posL b.map i (p.take n))), (11, .own 0 1 (ints (costsL b k w i (p.take n)))), (18, I n)]) (fun n _ => StepsOK b k w i (p.take n)) default (by simp [posL_nil, costsL, ints_nil]) trivial ?_ ?_
  · intro N E n d z hd hlt hm ht hwi hs hN hE
    have hon := hs.on h hi
    have hdd : Dir d := hp.2 d hm
    have e1 := c_impl_stepCost b k w (posL b.map i (p.take n)) d hl h hk hon hdd hw
    have e2 := c_impl_nextTo b.map (posL b.map i (p.take n)) d h.map.dim (hon.ix h) hdd
    by_cases h1 : stepM b k w (posL b.map i (p.take n)) d = 0
    · have hP := goodC_at hs hd h1
      simp [bodyF, b_impl_costsAlong_0, hlt, ints_length, ints_get hd, ints_at hd, e1, h1]
      exact hE _ _ fun st => by simp [hP]
    · have hs2 : StepsOK b k w i (p.take (n + 1)) := by rw [ht, StepsOK_snoc]; exact ⟨hs, h1⟩
      have hpn : posL b.map i (p.take (n + 1)) = nextM b.map (posL b.map i (p.take n)) d := by rw [ht, posL_snoc]
      have hcn : costsL b k w i (p.take (n + 1)) = costsL b k w i (p.take n) ++ [stepM b k w (posL b.map i (p.take n)) d] := by rw [ht, costsL_snoc]
      have hle : (costsL b k w i (p.take n)).length + 1 ≤ 68719476736 := by rw [costsL_length, List.length_take]; omega
      rw [hpn, hcn] at hN
      generalize costsL b k w i (p.take n) = L at *
      simp [bodyF, b_impl_costsAlong_0, hlt, ints_length, ints_get hd, ints_at hd, e1, h1, e2, hwi, rowsOf, hle, ints_snoc]
      exact hN _ z (by simp) hs2
  · intro N E z hs hE
    rw [List.take_length] at hs ⊢
    have hP := goodC_all hs
    simp [bodyF, b_impl_costsAlong_0, ints_length]
    exact hE _ _ fun st => by simp [hP]
theorem c_impl_sumOf (l : List Int) (hl : l.length ≤ 1000000) (hb : ∀ c ∈ l, 0 ≤ c ∧ c ≤ 36) : C n_impl_sumOf [Li l] = some (I (sumI (fun x => x) l)) := by
  refine callC p_impl_sumOf rfl ?_
  simp [xRun, a_impl_sumOf, ints_length]
  refine list_loop l (by omega) (fun n (_ : Unit) => [(3, I (sumI (fun x => x) (l.take n))), (8, I n)]) (fun _ _ => True) default (by simp [sumI_nil]) trivial ?_ ?_
  · intro N E n d z hd hlt hm ht hwi _ hN hE
    have hle := sumI_le (fun x => x) (l.take (n + 1)) fun c hc => hb c (List.mem_of_mem_take hc)
    have hpl : (l.take (n + 1)).length ≤ 1000000 := by rw [List.length_take]; omega
    have w1 : IntKind.i64.wrap (sumI (fun x => x) (l.take n) + d) = sumI (fun x => x) (l.take (n + 1)) := by
      rw [ht, sumI_snoc] at hle ⊢
      rw [ht] at hpl
      exact wrap_small (by omega) (by omega)
    simp [bodyF, b_impl_sumOf_0, hlt, ints_length, ints_get hd, ints_at hd, w1, hwi]
    exact hN _ z (by simp) trivial
  · intro N E z _ hE
    rw [List.take_length]
    simp [bodyF, b_impl_sumOf_0, ints_length]
    exact hE _ _ fun st => by simp
theorem c_impl_isKindOf (b : Board) (k : Int) (hl : LenB b) (h : BoardOK b) : C n_impl_isKindOf [BoardV false b, I k] = some (Bo (decide (KindOf b k))) := by
  refine callC p_impl_isKindOf rfl ?_
  have hks := h.rules.ks
  have e1 := c_impl_IsBoard b hl
  have e2 := c_impl_isIndex k b.rules.kinds.length (by omega) (by omega)
  rw [decide_eq_true h] at e1
  by_cases h2 : 0 ≤ k ∧ k < (b.rules.kinds.length : Int)
  · have hP : KindOf b k := h2
    simp [xRun, a_impl_isKindOf, e1, e2, h2, hP]
  · have hP : ¬ KindOf b k := h2
    simp [xRun, a_impl_isKindOf, e1, e2, h2, hP]
theorem c_impl_isWeather (n : Int) : C n_impl_isWeather [I n] = some (Bo (decide (0 ≤ n ∧ n ≤ 2))) := by
  refine callC p_impl_isWeather rfl ?_
  simp [xRun, a_impl_isWeather]
theorem c_impl_isMover (b : Board) (k w i : Int) (hl : LenB b) (h : BoardOK b) (hk : KindOf b k) (hw : Wth w) (hi : On b i) : C n_impl_isMover [BoardV false b, I k, I w, I i] = some (Bo true) := by
  refine callC p_impl_isMover rfl ?_
  have e1 := c_impl_isKindOf b k hl h
  have e2 := c_impl_isWeather w
  have hsz := h.size_le
  have e3 := c_impl_isIndex i (size b) (by omega) (by omega)
  rw [decide_eq_true hk] at e1
  rw [decide_eq_true (show 0 ≤ w ∧ w ≤ 2 from hw)] at e2
  rw [decide_eq_true (show 0 ≤ i ∧ i < size b from hi)] at e3
  simp [xRun, a_impl_isMover, e1, e2, e3]
/-- A path can be gone. -/
def WayOK (b : Board) (k w i : Int) (p : List Int) : Prop := PathOK p ∧ StepsOK b k w i p
theorem c_impl_PathCost (b : Board) (k w i : Int) (p : List Int) (hl : LenB b) (h : BoardOK b) (hk : KindOf b k) (hw : Wth w) (hi : On b i) (hp : Len p.length) :
    C n_impl_PathCost [BoardV false b, I k, I w, I i, Li p] = some (Tup2 (.int .i64 (if WayOK b k w i p then costL b k w i p else 0)) (.bool (decide (WayOK b k w i p)))) := by
  refine callC p_impl_PathCost rfl ?_
  have e1 := c_impl_isMover b k w i hl h hk hw hi
  have e2 := c_impl_isPath p hp
  by_cases h1 : PathOK p
  rotate_left
  · have hP : ¬ WayOK b k w i p := fun hh => h1 hh.1
    simp [xRun, a_impl_PathCost, e1, e2, h1, hP]
  have e3 := c_impl_costsAlong b k w i p hl h hk hw hi h1
  by_cases h2 : StepsOK b k w i p
  · have hP : WayOK b k w i p := ⟨h1, h2⟩
    have hlen := costsL_length b k w i p
    have e4 := c_impl_sumOf (costsL b k w i p) (by have := h1.len; omega) fun c hc => by have := costsL_le h hk hw i p c hc; omega
    rw [goodC_all h2] at e3
    have hsum : costL b k w i p = sumI (fun x => x) (costsL b k w i p) := rfl
    rw [hsum]
    generalize costsL b k w i p = L at *
    simp [xRun, a_impl_PathCost, e1, e2, h1, e3, ints_length, hlen, e4, hP]
  · have hP : ¬ WayOK b k w i p := fun hh => h2 hh.2
    have hlen := goodC_short h2
    generalize goodC b k w i p = L at *
    simp [xRun, a_impl_PathCost, e1, e2, h1, e3, ints_length, hlen, hP]
theorem c_spec_oCost (b : Board) (s : State) (o : Order) (hl : LenB b) (h : StateOK b s) (hu : Has s o.unit) (hp : 0 ≤ (unitAt s o.unit).pos) (hlp : Len o.path.length) :
    C n_spec_oCost [BoardV false b, StateV false s, OrderV false o] = some (I (if WayOK b (unitAt s o.unit).kind s.weather (unitAt s o.unit).pos o.path then costL b (unitAt s o.unit).kind s.weather (unitAt s o.unit).pos o.path else -1)) := by
  refine callC p_spec_oCost rfl ?_
  have e1 := c_spec_csPath o.path hlp
  have n0 : ¬ o.unit < 0 := by have := hu.1; omega
  have r1 := at_lt (l := s.units) hu.1 hu.2
  have r2 := unit_row hu
  have hx : UnitOK b (unitAt s o.unit) := h.unit _ (at_mem hu.1 hu.2)
  generalize unitAt s o.unit = x at *
  by_cases h1 : PathOK o.path
  rotate_left
  · have hP : ¬ WayOK b x.kind s.weather x.pos o.path := fun hh => h1 hh.1
    simp [xRun, a_spec_oCost, e1, h1, hP]
  have e2 := c_spec_csCost b x.kind s.weather x.pos o.path hl h.board hx.kind h.weather (hx.on hp) h1
  by_cases h2 : StepsOK b x.kind s.weather x.pos o.path
  · have hP : WayOK b x.kind s.weather x.pos o.path := ⟨h1, h2⟩
    simp [xRun, a_spec_oCost, e1, h1, n0, r1, r2, Unit.enc, e2, h2, hP]
  · have hP : ¬ WayOK b x.kind s.weather x.pos o.path := fun hh => h2 hh.2
    simp [xRun, a_spec_oCost, e1, h1, n0, r1, r2, Unit.enc, e2, h2, hP]
/-- Where an order's path ends. -/
def endM (b : Board) (s : State) (o : Order) : Int := posL b.map (unitAt s o.unit).pos o.path
theorem c_spec_oEnd (b : Board) (s : State) (o : Order) (h : StateOK b s) (hu : Has s o.unit) (hp : 0 ≤ (unitAt s o.unit).pos) (hw : WayOK b (unitAt s o.unit).kind s.weather (unitAt s o.unit).pos o.path) :
    C n_spec_oEnd [BoardV false b, StateV false s, OrderV false o] = some (I (endM b s o)) := by
  refine callC p_spec_oEnd rfl ?_
  have n0 : ¬ o.unit < 0 := by have := hu.1; omega
  have r1 := at_lt (l := s.units) hu.1 hu.2
  have r2 := unit_row hu
  have hx : UnitOK b (unitAt s o.unit) := h.unit _ (at_mem hu.1 hu.2)
  have hp9 := hw.1.len
  unfold endM
  generalize unitAt s o.unit = x at *
  simp [xRun, a_spec_oEnd, n0, r1, r2, Unit.enc, ints_length]
  refine list_loop o.path (by omega) (fun n (_ : Unit) => [(7, I (posL b.map x.pos (o.path.take n))), (20, I n)]) (fun _ _ => True) default (by simp [posL_nil]) trivial ?_ ?_
  · intro N E n d z hd hlt hm ht hwi _ hN hE
    have hon := (hw.2.take n).on h.board (hx.on hp)
    have e2 := c_spec_mNext b.map (posL b.map x.pos (o.path.take n)) d h.board.map.dim (hon.ix h.board) (hw.1.2 d hm)
    rw [ht, posL_snoc] at hN
    simp [bodyF, b_spec_oEnd_0, hlt, ints_length, ints_get hd, ints_at hd, e2, hwi]
    exact hN _ z (by simp) trivial
  · intro N E z _ hE
    rw [List.take_length]
    simp [bodyF, b_spec_oEnd_0, ints_length]
    exact hE _ _ fun st => by simp
/-- The hexes that a path comes through. -/
def hexesL (m : Map) : Int → List Int → List Int
  | _, [] => []
  | i, d :: p => nextM m i d :: hexesL m (nextM m i d) p
theorem hexesL_snoc (m : Map) (i : Int) (p : List Int) (d : Int) : hexesL m i (p ++ [d]) = hexesL m i p ++ [posL m i (p ++ [d])] := by
  induction p generalizing i with
  | nil => rfl
  | cons x p ih => simp only [List.cons_append, hexesL, ih]; rfl
theorem hexesL_length (m : Map) (i : Int) (p : List Int) : (hexesL m i p).length = p.length := by
  induction p generalizing i with
  | nil => rfl
  | cons x p ih => simp [hexesL, ih]
/-- A path stays on the map. -/
def Stays (b : Board) : Int → List Int → Prop
  | _, [] => True
  | i, d :: p => 0 ≤ nextM b.map i d ∧ Stays b (nextM b.map i d) p
theorem Stays_app (b : Board) (i : Int) (p q : List Int) : Stays b i (p ++ q) ↔ Stays b i p ∧ Stays b (posL b.map i p) q := by
  induction p generalizing i with
  | nil => simp [Stays, posL]
  | cons x p ih =>
    simp only [List.cons_append, Stays, ih, and_assoc]
    rfl
theorem Stays.take {b : Board} {i : Int} {p : List Int} (h : Stays b i p) (n : Nat) : Stays b i (p.take n) := by
  rw [← List.take_append_drop n p, Stays_app] at h; exact h.1
theorem Stays.on {b : Board} (hb : BoardOK b) {i : Int} {p : List Int} (h : Stays b i p) (hi : On b i) : On b (posL b.map i p) := by
  induction p generalizing i with
  | nil => exact hi
  | cons x p ih => exact ih (i := nextM b.map i x) h.2 (next_on hb h.1)
theorem StepsOK.stays {b : Board} {k w i : Int} {p : List Int} (h : StepsOK b k w i p) : Stays b i p := by
  induction p generalizing i with
  | nil => trivial
  | cons x p ih => exact ⟨step_next h.1, ih h.2⟩
theorem c_impl_pathHexes (b : Board) (i : Int) (p : List Int) (h : BoardOK b) (hi : On b i) (hp : PathOK p) (hs : Stays b i p) :
    C n_impl_pathHexes [MapV false b.map, I i, Li p] = some (.tup [some (.one (.list true 1 (ints (hexesL b.map i p)))), some (.one (.bool true))]) := by
  refine callC p_impl_pathHexes rfl ?_
  have hp9 := hp.len
  simp [xRun, a_impl_pathHexes, ints_length, rowsOf]
  refine list_loop p (by omega) (fun n (_ : Unit) => [(1, I (posL b.map i (p.take n))), (8, .own 0 1 (ints (hexesL b.map i (p.take n)))), (14, I n)]) (fun _ _ => True) default (by simp [posL_nil, hexesL, ints_nil]) trivial ?_ ?_
  · intro N E n d z hd hlt hm ht hwi _ hN hE
    have hon := (hs.take n).on h hi
    have hon2 := (hs.take (n + 1)).on h hi
    have hdd : Dir d := hp.2 d hm
    have e2 := c_impl_nextTo b.map (posL b.map i (p.take n)) d h.map.dim (hon.ix h) hdd
    have hpn : posL b.map i (p.take (n + 1)) = nextM b.map (posL b.map i (p.take n)) d := by rw [ht, posL_snoc]
    have hcn : hexesL b.map i (p.take (n + 1)) = hexesL b.map i (p.take n) ++ [posL b.map i (p.take (n + 1))] := by rw [ht, hexesL_snoc]
    have hle : (hexesL b.map i (p.take n)).length + 1 ≤ 68719476736 := by rw [hexesL_length, List.length_take]; omega
    rw [hcn] at hN
    rw [← hpn] at e2
    have h1 : ¬ posL b.map i (p.take (n + 1)) < 0 := by have := hon2.1; omega
    generalize hexesL b.map i (p.take n) = L at *
    simp [bodyF, b_impl_pathHexes_0, hlt, ints_length, ints_get hd, ints_at hd, h1, e2, hwi, rowsOf, hle, ints_snoc]
    exact hN _ z (by simp) trivial
  · intro N E z _ hE
    rw [List.take_length]
    simp [bodyF, b_impl_pathHexes_0, ints_length]
    exact hE _ _ fun st => by simp
theorem c_impl_endOf (b : Board) (s : State) (o : Order) (h : StateOK b s) (hu : Has s o.unit) (hp : 0 ≤ (unitAt s o.unit).pos) (hw : WayOK b (unitAt s o.unit).kind s.weather (unitAt s o.unit).pos o.path) :
    C n_impl_endOf [BoardV false b, StateV false s, OrderV false o] = some (I (endM b s o)) := by
  refine callC p_impl_endOf rfl ?_
  have n0 : ¬ o.unit < 0 := by have := hu.1; omega
  have r1 := at_lt (l := s.units) hu.1 hu.2
  have r2 := unit_row hu
  have hx : UnitOK b (unitAt s o.unit) := h.unit _ (at_mem hu.1 hu.2)
  have hp9 := hw.1.len
  unfold endM
  generalize unitAt s o.unit = x at *
  have e1 := c_impl_pathHexes b x.pos o.path h.board (hx.on hp) hw.1 hw.2.stays
  rcases List.eq_nil_or_concat o.path with h0 | ⟨q, d, h0⟩
  · rw [h0] at e1 ⊢
    simp only [Li, ints_nil, hexesL] at e1
    simp [xRun, a_impl_endOf, n0, r1, r2, Unit.enc, h0, e1, ints_nil, posL_nil]
  · rw [List.concat_eq_append] at h0
    rw [h0, hexesL_snoc] at e1
    rw [h0]
    have hlen : (hexesL b.map x.pos q).length + 1 ≤ 9 := by rw [hexesL_length]; rw [h0] at hp9; simpa using hp9
    generalize posL b.map x.pos (q ++ [d]) = e at *
    generalize hexesL b.map x.pos q = L at *
    have w1 : IntKind.i64.wrap (L.length : Int) = (L.length : Int) := wrap_small (by omega) (by omega)
    have hg : (L ++ [e])[L.length]? = some e := by simp
    have hlt : (L.length : Int) < (L.length : Int) + 1 := by omega
    simp [xRun, a_impl_endOf, n0, r1, r2, Unit.enc, h0, e1, ints_length, w1, hlt, ints_get hg, ints_at hg]
/-- The neighbours of a hex. -/
noncomputable def nbsL (m : Map) (i : Int) (l : List Int) : List Int := (l.map (nextM m i)).filter fun j => decide (0 ≤ j)
theorem nbsL_snoc (m : Map) (i : Int) (l : List Int) (d : Int) : nbsL m i (l ++ [d]) = if 0 ≤ nextM m i d then nbsL m i l ++ [nextM m i d] else nbsL m i l := by
  unfold nbsL
  rw [List.map_append, List.filter_append]
  by_cases h : 0 ≤ nextM m i d <;> simp [h]
theorem nbsL_le (m : Map) (i : Int) (l : List Int) : (nbsL m i l).length ≤ l.length := by
  unfold nbsL
  exact Nat.le_trans (List.length_filter_le ..) (by simp)
theorem mem_nbsL {m : Map} {i j : Int} : j ∈ nbsL m i dirsL ↔ 0 ≤ sideM m i j := by
  unfold nbsL sideM
  rw [firstIx_pos]
  simp only [List.mem_filter, List.mem_map, decide_eq_true_eq]
  constructor
  · rintro ⟨⟨d, hd, rfl⟩, h⟩; exact ⟨d, hd, h, rfl⟩
  · rintro ⟨d, hd, h, rfl⟩; exact ⟨⟨d, hd, rfl⟩, h⟩
theorem c_impl_neighboursOn (m : Map) (i : Int) (h : Dim m) (hi : Ix i) : C n_impl_neighboursOn [MapV false m, I i] = some (Lo (nbsL m i dirsL)) := by
  refine callC p_impl_neighboursOn rfl ?_
  simp [xRun, a_impl_neighboursOn, rowsOf]
  refine list_loop dirsL (by simp [dirsL]) (fun n (_ : Unit) => [(5, .own 0 1 (ints (nbsL m i (dirsL.take n)))), (9, I n)]) (fun _ _ => True) default (by simp [nbsL, ints_nil]) trivial ?_ ?_
  · intro N E n d z ha hlt hm ht hwi _ hN hE
    rw [ht, nbsL_snoc] at hN
    have hle : (nbsL m i (dirsL.take n)).length + 1 ≤ 68719476736 := by
      have := nbsL_le m i (dirsL.take n)
      rw [List.length_take] at this
      have : dirsL.length = 6 := rfl
      omega
    generalize nbsL m i (dirsL.take n) = L at *
    obtain ⟨rfl, g2, g3⟩ := dirs_at ha
    have e1 := c_impl_nextTo m i n h hi g2
    by_cases h1 : 0 ≤ nextM m i n
    · rw [if_pos h1] at hN
      simp [bodyF, b_impl_neighboursOn_0, g3, e1, h1, rowsOf, ints_length, hle, ints_snoc, hwi]
      exact hN _ z (by simp) trivial
    · rw [if_neg h1] at hN
      simp [bodyF, b_impl_neighboursOn_0, g3, e1, h1, hwi]
      exact hN _ z (by simp) trivial
  · intro N E z _ hE
    rw [List.take_length]
    simp [bodyF, b_impl_neighboursOn_0, dirsL]
    exact hE _ _ fun st => by simp [dirsL]
/-- A unit of a side that is on the map. -/
def Placed (s : State) (side u : Int) : Prop := Has s u ∧ (unitAt s u).side = side ∧ 0 ≤ (unitAt s u).pos
theorem c_spec_oPlaced (s : State) (side u : Int) (hs : s.units.length ≤ 1000000) : C n_spec_oPlaced [StateV false s, I side, I u] = some (Bo (decide (Placed s side u))) := by
  refine callC p_spec_oPlaced rfl ?_
  have w1 : IntKind.i64.wrap ((s.units.length : Int) - 1) = (s.units.length : Int) - 1 := wrap_small (by omega) (by omega)
  by_cases h1 : 0 ≤ u ∧ u ≤ (s.units.length : Int) - 1
  rotate_left
  · have hP : ¬ Placed s side u := fun h => h1 (by have := h.1; unfold Has at this; omega)
    simp [xRun, a_spec_oPlaced, w1, h1, hP]
  have hu : Has s u := ⟨h1.1, by omega⟩
  have n0 : ¬ u < 0 := by omega
  have r1 := at_lt (l := s.units) hu.1 hu.2
  have r2 := unit_row hu
  by_cases h2 : (unitAt s u).side = side
  rotate_left
  · have hP : ¬ Placed s side u := fun h => h2 h.2.1
    simp [xRun, a_spec_oPlaced, w1, h1, n0, r1, r2, Unit.enc, h2, hP]
  by_cases h3 : 0 ≤ (unitAt s u).pos
  · have hP : Placed s side u := ⟨hu, h2, h3⟩
    simp [xRun, a_spec_oPlaced, w1, h1, n0, r1, r2, Unit.enc, h2, h3, hP]
  · have hP : ¬ Placed s side u := fun h => h3 h.2.2
    simp [xRun, a_spec_oPlaced, w1, h1, n0, r1, r2, Unit.enc, h2, h3, hP]
theorem c_impl_ownsUnit (s : State) (side u : Int) (hs : s.units.length ≤ 1000000) : C n_impl_ownsUnit [StateV false s, I side, I u] = some (Bo (decide (Placed s side u))) := by
  refine callC p_impl_ownsUnit rfl ?_
  have e1 := c_impl_isIndex u s.units.length (by omega) (by omega)
  by_cases h1 : 0 ≤ u ∧ u < (s.units.length : Int)
  rotate_left
  · have hP : ¬ Placed s side u := fun h => h1 h.1
    simp [xRun, a_impl_ownsUnit, e1, h1, hP]
  have hu : Has s u := h1
  have n0 : ¬ u < 0 := by omega
  have r1 := at_lt (l := s.units) hu.1 hu.2
  have r2 := unit_row hu
  by_cases h2 : (unitAt s u).side = side
  rotate_left
  · have hP : ¬ Placed s side u := fun h => h2 h.2.1
    simp [xRun, a_impl_ownsUnit, e1, h1, n0, r1, r2, Unit.enc, h2, hP]
  by_cases h3 : 0 ≤ (unitAt s u).pos
  · have hP : Placed s side u := ⟨hu, h2, h3⟩
    simp [xRun, a_impl_ownsUnit, e1, h1, n0, r1, r2, Unit.enc, h2, h3, hP]
  · have hP : ¬ Placed s side u := fun h => h3 h.2.2
    simp [xRun, a_impl_ownsUnit, e1, h1, n0, r1, r2, Unit.enc, h2, h3, hP]
/-- The path of an order can be gone. -/
def OWay (b : Board) (s : State) (o : Order) : Prop := WayOK b (unitAt s o.unit).kind s.weather (unitAt s o.unit).pos o.path
noncomputable def oCostM (b : Board) (s : State) (o : Order) : Int := costL b (unitAt s o.unit).kind s.weather (unitAt s o.unit).pos o.path
/-- What is wrong with an order. -/
noncomputable def faultM (b : Board) (s : State) (side : Int) (o : Order) : Int :=
  if ¬ Placed s side o.unit then 1 else
  if ¬ OWay b s o then 3 else
  if (kindAt b (unitAt s o.unit).kind).moves < oCostM b s o then 4 else
  if o.attack = -1 then 0 else
  if 0 ≤ sideM b.map (endM b s o) o.attack then 0 else 5
theorem c_spec_oFault (b : Board) (s : State) (side : Int) (o : Order) (hl : LenB b) (h : StateOK b s) (hlp : Len o.path.length) : C n_spec_oFault [BoardV false b, StateV false s, I side, OrderV false o] = some (I (faultM b s side o)) := by
  refine callC p_spec_oFault rfl ?_
  have hs12 := h.lens
  have e1 := c_spec_oPlaced s side o.unit (by omega)
  unfold faultM
  by_cases h1 : Placed s side o.unit
  rotate_left
  · simp [xRun, a_spec_oFault, e1, h1]
  obtain ⟨hu, hside, hp⟩ := h1
  have n0 : ¬ o.unit < 0 := by have := hu.1; omega
  have r1 := at_lt (l := s.units) hu.1 hu.2
  have r2 := unit_row hu
  have hx : UnitOK b (unitAt s o.unit) := h.unit _ (at_mem hu.1 hu.2)
  have k0 : ¬ (unitAt s o.unit).kind < 0 := by have := hx.kind.1; omega
  have k1 := at_lt (l := b.rules.kinds) hx.kind.1 hx.kind.2
  have k2 : ∀ h : (unitAt s o.unit).kind.toNat < b.rules.kinds.length, b.rules.kinds[(unitAt s o.unit).kind.toNat]'h = kindAt b (unitAt s o.unit).kind := at_get hx.kind.1 hx.kind.2
  have e2 := c_spec_oCost b s o hl h hu hp hlp
  have h1 : Placed s side o.unit := ⟨hu, hside, hp⟩
  by_cases h2 : OWay b s o
  rotate_left
  · have h2' : ¬ WayOK b (unitAt s o.unit).kind s.weather (unitAt s o.unit).pos o.path := h2
    rw [if_neg h2'] at e2
    simp [xRun, a_spec_oFault, e1, h1, e2, h2]
  have h2' : WayOK b (unitAt s o.unit).kind s.weather (unitAt s o.unit).pos o.path := h2
  rw [if_pos h2'] at e2
  have hc0 := (costL_le h.board hx.kind h.weather (unitAt s o.unit).pos o.path).1
  have hcm : oCostM b s o = costL b (unitAt s o.unit).kind s.weather (unitAt s o.unit).pos o.path := rfl
  rw [← hcm] at e2 hc0
  have c0 : ¬ oCostM b s o < 0 := by omega
  have e3 := c_spec_oEnd b s o h hu hp h2'
  have hon : On b (endM b s o) := h2'.2.on h.board (hx.on hp)
  generalize endM b s o = en at *
  generalize oCostM b s o = cm at *
  by_cases h3 : (kindAt b (unitAt s o.unit).kind).moves < cm
  · simp [xRun, a_spec_oFault, e1, h1, e2, h2, c0, n0, r1, r2, Unit.enc, k0, k1, k2, Kind.enc, h3]
  by_cases h4 : o.attack = -1
  · dsimp only [OrderV] at e2
    rw [h4] at e2
    simp [xRun, a_spec_oFault, e1, h1, e2, h2, c0, n0, r1, r2, Unit.enc, k0, k1, k2, Kind.enc, h3, h4]
  simp [xRun, a_spec_oFault, e1, h1, e2, h2, c0, n0, r1, r2, Unit.enc, k0, k1, k2, Kind.enc, h3, h4]
  refine find_loop dirsL (by simp [dirsL]) 10 (fun d => 0 ≤ nextM b.map en d ∧ nextM b.map en d = o.attack) (by simp) ?_ ?_
  · intro N E n d ha hlt hm hwi hs hN hE
    obtain ⟨rfl, g2, g3⟩ := dirs_at ha
    have e4 := c_spec_mNext b.map en n h.board.map.dim (hon.ix h.board) g2
    by_cases h5 : 0 ≤ nextM b.map en n
    · by_cases h6 : nextM b.map en n = o.attack
      · have hP : 0 ≤ sideM b.map en o.attack := firstIx_pos.2 ⟨n, hm, h5, h6⟩
        have h7 : 0 ≤ o.attack := by omega
        simp [bodyF, b_spec_oFault_0, g3, e3, e4, h6, h7]
        exact hE _ _ fun st => by simp [hP]
      · simp [bodyF, b_spec_oFault_0, g3, e3, e4, h5, h6, hwi]
        exact hN _ (by simp) (fun hh => h6 hh.2)
    · simp [bodyF, b_spec_oFault_0, g3, e3, e4, h5, hwi]
      exact hN _ (by simp) (fun hh => h5 hh.1)
  · intro N E hs hE
    have hP : ¬ 0 ≤ sideM b.map en o.attack := fun hh => (firstIx_pos.1 hh).elim fun d hd => hs d hd.1 hd.2
    simp [bodyF, b_spec_oFault_0, dirsL]
    exact hE _ _ fun st => by simp [hP]
theorem c_impl_orderFault (b : Board) (s : State) (side : Int) (o : Order) (hl : LenB b) (h : StateOK b s) (hlp : Len o.path.length) : C n_impl_orderFault [BoardV false b, StateV false s, I side, OrderV false o] = some (I (faultM b s side o)) := by
  refine callC p_impl_orderFault rfl ?_
  have hs12 := h.lens
  have e1 := c_impl_ownsUnit s side o.unit (by omega)
  unfold faultM
  by_cases h1 : Placed s side o.unit
  rotate_left
  · simp [xRun, a_impl_orderFault, e1, h1]
  obtain ⟨hu, hside, hp⟩ := h1
  have n0 : ¬ o.unit < 0 := by have := hu.1; omega
  have r1 := at_lt (l := s.units) hu.1 hu.2
  have r2 := unit_row hu
  have hx : UnitOK b (unitAt s o.unit) := h.unit _ (at_mem hu.1 hu.2)
  have k0 : ¬ (unitAt s o.unit).kind < 0 := by have := hx.kind.1; omega
  have k1 := at_lt (l := b.rules.kinds) hx.kind.1 hx.kind.2
  have k2 : ∀ h : (unitAt s o.unit).kind.toNat < b.rules.kinds.length, b.rules.kinds[(unitAt s o.unit).kind.toNat]'h = kindAt b (unitAt s o.unit).kind := at_get hx.kind.1 hx.kind.2
  have e2 := c_impl_PathCost b (unitAt s o.unit).kind s.weather (unitAt s o.unit).pos o.path hl h.board hx.kind h.weather (hx.on hp) hlp
  have h1 : Placed s side o.unit := ⟨hu, hside, hp⟩
  by_cases h2 : OWay b s o
  rotate_left
  · have h2' : ¬ WayOK b (unitAt s o.unit).kind s.weather (unitAt s o.unit).pos o.path := h2
    simp only [if_neg h2', decide_eq_false h2'] at e2
    simp [xRun, a_impl_orderFault, e1, h1, n0, r1, r2, Unit.enc, e2, h2]
  have h2' : WayOK b (unitAt s o.unit).kind s.weather (unitAt s o.unit).pos o.path := h2
  simp only [if_pos h2', decide_eq_true h2'] at e2
  have hcm : oCostM b s o = costL b (unitAt s o.unit).kind s.weather (unitAt s o.unit).pos o.path := rfl
  rw [← hcm] at e2
  have e3 := c_impl_endOf b s o h hu hp h2'
  have hon : On b (endM b s o) := h2'.2.on h.board (hx.on hp)
  generalize endM b s o = en at *
  generalize oCostM b s o = cm at *
  have e4 := c_impl_neighboursOn b.map en h.board.map.dim (hon.ix h.board)
  have e5 := c_slices_Contains_int_int (nbsL b.map en dirsL) o.attack (by have := nbsL_le b.map en dirsL; have h6 : dirsL.length = 6 := rfl; unfold Len; omega)
  have hmem := mem_nbsL (m := b.map) (i := en) (j := o.attack)
  generalize nbsL b.map en dirsL = L at *
  by_cases h3 : (kindAt b (unitAt s o.unit).kind).moves < cm
  · simp [xRun, a_impl_orderFault, e1, h1, e2, h2, n0, r1, r2, Unit.enc, k0, k1, k2, Kind.enc, h3]
  by_cases h4 : o.attack = -1
  · simp [xRun, a_impl_orderFault, e1, h1, e2, h2, n0, r1, r2, Unit.enc, k0, k1, k2, Kind.enc, h3, h4]
  by_cases h5 : o.attack ∈ L
  · have hP := hmem.1 h5
    simp [xRun, a_impl_orderFault, e1, h1, e2, h2, n0, r1, r2, Unit.enc, k0, k1, k2, Kind.enc, h3, h4, e3, e4, e5, h5, hP]
  · have hP : ¬ 0 ≤ sideM b.map en o.attack := fun hh => h5 (hmem.2 hh)
    simp [xRun, a_impl_orderFault, e1, h1, e2, h2, n0, r1, r2, Unit.enc, k0, k1, k2, Kind.enc, h3, h4, e3, e4, e5, h5, hP]
/-- An order without a fault. -/
def GivenOK (b : Board) (s : State) (o : Order) : Prop := (StateOK b s ∧ Has s o.unit) ∧ faultM b s (unitAt s o.unit).side o = 0
theorem GivenOK.way {b : Board} {s : State} {o : Order} (h : GivenOK b s o) : 0 ≤ (unitAt s o.unit).pos ∧ WayOK b (unitAt s o.unit).kind s.weather (unitAt s o.unit).pos o.path := by
  have h0 := h.2
  unfold faultM at h0
  split at h0
  · cases h0
  · rename_i h1
    split at h0
    · cases h0
    · rename_i h2
      exact ⟨(Classical.not_not.1 h1).2.2, Classical.not_not.1 h2⟩
end Go.Abs.W
