import Derived.Test.YtcknpclhcilmaaaGreatDoorB0
set_option linter.unusedSimpArgs false
set_option linter.unusedVariables false
set_option maxRecDepth 100000
set_option maxHeartbeats 2000000
namespace Go.Abs.W
open Go Go.Abs Classical
attribute [-simp] Bool.decide_and
/-- A path's form. -/
def PathOK (p : List Int) : Prop := (p.length : Int) ≤ 9 ∧ AllIn p 0 5
theorem PathOK.len {p : List Int} (h : PathOK p) : p.length ≤ 9 := by have := h.1; omega
/-- Where a path leads to. -/
def posL (m : Map) (i : Int) (p : List Int) : Int := p.foldl (nextM m) i
theorem posL_nil (m : Map) (i : Int) : posL m i [] = i := rfl
theorem posL_snoc (m : Map) (i : Int) (p : List Int) (d : Int) : posL m i (p ++ [d]) = nextM m (posL m i p) d := by simp [posL]
/-- What each of its steps costs. -/
noncomputable def costsL (b : Board) (k w : Int) : Int → List Int → List Int
  | _, [] => []
  | i, d :: p => stepM b k w i d :: costsL b k w (nextM b.map i d) p
theorem costsL_snoc (b : Board) (k w i : Int) (p : List Int) (d : Int) : costsL b k w i (p ++ [d]) = costsL b k w i p ++ [stepM b k w (posL b.map i p) d] := by
  induction p generalizing i with
  | nil => rfl
  | cons x p ih => simp only [List.cons_append, costsL, ih]; rfl
theorem costsL_length (b : Board) (k w i : Int) (p : List Int) : (costsL b k w i p).length = p.length := by
  induction p generalizing i with
  | nil => rfl
  | cons x p ih => simp [costsL, ih]
theorem costsL_le {b : Board} (h : BoardOK b) {k w : Int} (hk : KindOf b k) (hw : Wth w) (i : Int) (p : List Int) : ∀ c ∈ costsL b k w i p, 0 ≤ c ∧ c ≤ 20 := by
  induction p generalizing i with
  | nil => intro c hc; cases hc
  | cons x p ih =>
    intro c hc
    simp only [costsL, List.mem_cons] at hc
    rcases hc with rfl | hc
    · exact stepM_le h hk hw
    · exact ih _ c hc
/-- Each of its steps can be gone. -/
def StepsOK (b : Board) (k w : Int) : Int → List Int → Prop
  | _, [] => True
  | i, d :: p => ¬ stepM b k w i d = 0 ∧ StepsOK b k w (nextM b.map i d) p
theorem StepsOK_app (b : Board) (k w i : Int) (p q : List Int) : StepsOK b k w i (p ++ q) ↔ StepsOK b k w i p ∧ StepsOK b k w (posL b.map i p) q := by
  induction p generalizing i with
  | nil => simp [StepsOK, posL]
  | cons x p ih =>
    simp only [List.cons_append, StepsOK, ih, and_assoc]
    rfl
theorem StepsOK_snoc (b : Board) (k w i : Int) (p : List Int) (d : Int) : StepsOK b k w i (p ++ [d]) ↔ StepsOK b k w i p ∧ ¬ stepM b k w (posL b.map i p) d = 0 := by
  rw [StepsOK_app]; simp [StepsOK]
theorem StepsOK.take {b : Board} {k w i : Int} {p : List Int} (h : StepsOK b k w i p) (n : Nat) : StepsOK b k w i (p.take n) := by
  rw [← List.take_append_drop n p, StepsOK_app] at h; exact h.1
theorem step_next {b : Board} {k w i d : Int} (h : ¬ stepM b k w i d = 0) : 0 ≤ nextM b.map i d := by
  unfold stepM at h
  split at h
  · exact absurd rfl h
  · rename_i hh; omega
theorem StepsOK.on {b : Board} (hb : BoardOK b) {k w i : Int} {p : List Int} (h : StepsOK b k w i p) (hi : On b i) : On b (posL b.map i p) := by
  induction p generalizing i with
  | nil => exact hi
  | cons x p ih => exact ih (i := nextM b.map i x) h.2 (next_on hb (step_next h.1))
/-- What a path costs. -/
noncomputable def costL (b : Board) (k w i : Int) (p : List Int) : Int := sumI (fun x => x) (costsL b k w i p)
theorem costL_nil (b : Board) (k w i : Int) : costL b k w i [] = 0 := rfl
theorem costL_snoc (b : Board) (k w i : Int) (p : List Int) (d : Int) : costL b k w i (p ++ [d]) = costL b k w i p + stepM b k w (posL b.map i p) d := by
  unfold costL; rw [costsL_snoc, sumI_snoc]
theorem costL_le {b : Board} (h : BoardOK b) {k w : Int} (hk : KindOf b k) (hw : Wth w) (i : Int) (p : List Int) : 0 ≤ costL b k w i p ∧ costL b k w i p ≤ 36 * p.length := by
  have := sumI_le (fun x => x) (costsL b k w i p) fun c hc => by have := costsL_le h hk hw i p c hc; omega
  rw [costsL_length] at this
  exact this
/-- The costs up to the first step that can't be gone. -/
noncomputable def goodC (b : Board) (k w : Int) : Int → List Int → List Int
  | _, [] => []
  | i, d :: p => if stepM b k w i d = 0 then [] else stepM b k w i d :: goodC b k w (nextM b.map i d) p
theorem goodC_all {b : Board} {k w i : Int} {p : List Int} (h : StepsOK b k w i p) : goodC b k w i p = costsL b k w i p := by
  induction p generalizing i with
  | nil => rfl
  | cons x p ih => simp only [goodC, costsL, if_neg h.1, ih h.2]
theorem goodC_at {b : Board} {k w i : Int} {p : List Int} {n : Nat} {d : Int} (h : StepsOK b k w i (p.take n)) (hd : p[n]? = some d) (h0 : stepM b k w (posL b.map i (p.take n)) d = 0) : goodC b k w i p = costsL b k w i (p.take n) := by
  induction n generalizing i p with
  | zero =>
    cases p with
    | nil => simp at hd
    | cons x p =>
      simp at hd; subst hd
      simp only [List.take_zero, posL_nil] at h0
      simp [goodC, costsL, h0]
  | succ n ih =>
    cases p with
    | nil => simp at hd
    | cons x p =>
      simp only [List.take_succ_cons] at h h0 ⊢
      simp only [goodC, costsL, if_neg h.1]
      congr 1
      exact ih (i := nextM b.map i x) h.2 (by simpa using hd) h0
theorem goodC_short {b : Board} {k w i : Int} {p : List Int} (h : ¬ StepsOK b k w i p) : (goodC b k w i p).length < p.length := by
  induction p generalizing i with
  | nil => exact absurd trivial h
  | cons x p ih =>
    by_cases h0 : stepM b k w i x = 0
    · simp [goodC, h0]
    · have : ¬ StepsOK b k w (nextM b.map i x) p := fun hh => h ⟨h0, hh⟩
      have := ih this
      simp [goodC, h0]; omega
/-- A path can be gone. -/
def WayOK (b : Board) (k w i : Int) (p : List Int) : Prop := PathOK p ∧ StepsOK b k w i p
/-- Where an order's path ends. -/
def endM (b : Board) (s : State) (o : Order) : Int := posL b.map (unitAt s o.unit).pos o.path
/-- The hexes that a path comes through. -/
def hexesL (m : Map) : Int → List Int → List Int
  | _, [] => []
  | i, d :: p => nextM m i d :: hexesL m (nextM m i d) p
theorem hexesL_snoc (m : Map) (i : Int) (p : List Int) (d : Int) : hexesL m i (p ++ [d]) = hexesL m i p ++ [posL m i (p ++ [d])] := by
  induction p generalizing i with
  | nil => rfl
  | cons x p ih => simp only [List.cons_append, hexesL, ih]; rfl
theorem hexesL_length (m : Map) (i : Int) (p : List Int) : (hexesL m i p).length = p.length := by
  induction p generalizing i with
  | nil => rfl
  | cons x p ih => simp [hexesL, ih]
/-- A path stays on the map. -/
def Stays (b : Board) : Int → List Int → Prop
  | _, [] => True
  | i, d :: p => 0 ≤ nextM b.map i d ∧ Stays b (nextM b.map i d) p
theorem Stays_app (b : Board) (i : Int) (p q : List Int) : Stays b i (p ++ q) ↔ Stays b i p ∧ Stays b (posL b.map i p) q := by
  induction p generalizing i with
  | nil => simp [Stays, posL]
  | cons x p ih =>
    simp only [List.cons_append, Stays, ih, and_assoc]
    rfl
theorem Stays.take {b : Board} {i : Int} {p : List Int} (h : Stays b i p) (n : Nat) : Stays b i (p.take n) := by
  rw [← List.take_append_drop n p, Stays_app] at h; exact h.1
theorem Stays.on {b : Board} (hb : BoardOK b) {i : Int} {p : List Int} (h : Stays b i p) (hi : On b i) : On b (posL b.map i p) := by
  induction p generalizing i with
  | nil => exact hi
  | cons x p ih => exact ih (i := nextM b.map i x) h.2 (next_on hb h.1)
theorem StepsOK.stays {b : Board} {k w i : Int} {p : List Int} (h : StepsOK b k w i p) : Stays b i p := by
  induction p generalizing i with
  | nil => trivial
  | cons x p ih => exact ⟨step_next h.1, ih h.2⟩
theorem c_impl_pathHexes (b : Board) (i : Int) (p : List Int) (h : BoardOK b) (hi : On b i) (hp : PathOK p) (hs : Stays b i p) :
    C n_impl_pathHexes [MapV false b.map, I i, Li p] = some (.tup [some (.one (.list true 1 (ints (hexesL b.map i p)))), some (.one (.bool true))]) := by
  refine callC p_impl_pathHexes rfl ?_
  have hp9 := hp.len
  simp [xRun, a_impl_pathHexes, ints_length, rowsOf]
  refine list_loop p (by omega) (fun n (_ : Unit) => [(1, I (posL b.map i (p.take n))), (8, .own 0 1 (ints (hexesL b.map i (p.take n)))), (14, I n)]) (fun _ _ => True) default (by simp [posL_nil, hexesL, ints_nil]) trivial ?_ ?_
  · intro N E n d z hd hlt hm ht hwi _ hN hE
    have hon := (hs.take n).on h hi
    have hon2 := (hs.take (n + 1)).on h hi
    have hdd : Dir d := hp.2 d hm
    have e2 := c_impl_nextTo b.map (posL b.map i (p.take n)) d h.map.dim (hon.ix h) hdd
    have hpn : posL b.map i (p.take (n + 1)) = nextM b.map (posL b.map i (p.take n)) d := by rw [ht, posL_snoc]
    have hcn : hexesL b.map i (p.take (n + 1)) = hexesL b.map i (p.take n) ++ [posL b.map i (p.take (n + 1))] := by rw [ht, hexesL_snoc]
    have hle : (hexesL b.map i (p.take n)).length + 1 ≤ 68719476736 := by rw [hexesL_length, List.length_take]; omega
    rw [hcn] at hN
    rw [← hpn] at e2
    have h1 : ¬ posL b.map i (p.take (n + 1)) < 0 := by have := hon2.1; omega
    generalize hexesL b.map i (p.take n) = L at *
    simp [bodyF, b_impl_pathHexes_0, hlt, ints_length, ints_get hd, ints_at hd, h1, e2, hwi, rowsOf, hle, ints_snoc]
    exact hN _ z (by simp) trivial
  · intro N E z _ hE
    rw [List.take_length]
    simp [bodyF, b_impl_pathHexes_0, ints_length]
    exact hE _ _ fun st => by simp
/-- The neighbours of a hex. -/
noncomputable def nbsL (m : Map) (i : Int) (l : List Int) : List Int := (l.map (nextM m i)).filter fun j => decide (0 ≤ j)
theorem nbsL_snoc (m : Map) (i : Int) (l : List Int) (d : Int) : nbsL m i (l ++ [d]) = if 0 ≤ nextM m i d then nbsL m i l ++ [nextM m i d] else nbsL m i l := by
  unfold nbsL
  rw [List.map_append, List.filter_append]
  by_cases h : 0 ≤ nextM m i d <;> simp [h]
theorem nbsL_le (m : Map) (i : Int) (l : List Int) : (nbsL m i l).length ≤ l.length := by
  unfold nbsL
  exact Nat.le_trans (List.length_filter_le ..) (by simp)
theorem mem_nbsL {m : Map} {i j : Int} : j ∈ nbsL m i dirsL ↔ 0 ≤ sideM m i j := by
  unfold nbsL sideM
  rw [firstIx_pos]
  simp only [List.mem_filter, List.mem_map, decide_eq_true_eq]
  constructor
  · rintro ⟨⟨d, hd, rfl⟩, h⟩; exact ⟨d, hd, h, rfl⟩
  · rintro ⟨d, hd, h, rfl⟩; exact ⟨⟨d, hd, rfl⟩, h⟩
/-- A unit of a side that is on the map. -/
def Placed (s : State) (side u : Int) : Prop := Has s u ∧ (unitAt s u).side = side ∧ 0 ≤ (unitAt s u).pos
/-- The path of an order can be gone. -/
def OWay (b : Board) (s : State) (o : Order) : Prop := WayOK b (unitAt s o.unit).kind s.weather (unitAt s o.unit).pos o.path
noncomputable def oCostM (b : Board) (s : State) (o : Order) : Int := costL b (unitAt s o.unit).kind s.weather (unitAt s o.unit).pos o.path
/-- What is wrong with an order. -/
noncomputable def faultM (b : Board) (s : State) (side : Int) (o : Order) : Int :=
  if ¬ Placed s side o.unit then 1 else
  if ¬ OWay b s o then 3 else
  if (kindAt b (unitAt s o.unit).kind).moves < oCostM b s o then 4 else
  if o.attack = -1 then 0 else
  if 0 ≤ sideM b.map (endM b s o) o.attack then 0 else 5
/-- An order without a fault. -/
def GivenOK (b : Board) (s : State) (o : Order) : Prop := (StateOK b s ∧ Has s o.unit) ∧ faultM b s (unitAt s o.unit).side o = 0
theorem GivenOK.way {b : Board} {s : State} {o : Order} (h : GivenOK b s o) : 0 ≤ (unitAt s o.unit).pos ∧ WayOK b (unitAt s o.unit).kind s.weather (unitAt s o.unit).pos o.path := by
  have h0 := h.2
  unfold faultM at h0
  split at h0
  · cases h0
  · rename_i h1
    split at h0
    · cases h0
    · rename_i h2
      exact ⟨(Classical.not_not.1 h1).2.2, Classical.not_not.1 h2⟩
end Go.Abs.W
