import Derived.Test.YtdhkoobikheabaaGreatDoorCode
import GoSem.ClaimData
set_option linter.unusedSimpArgs false
set_option linter.unusedVariables false
namespace Go.Abs.W
open Go Go.Abs
attribute [simp] trim trimFrom trimV List.replicate
abbrev I (n : Int) : AV := .val (.one (.int .i64 n))
abbrev Bo (b : Bool) : AV := .val (.one (.bool b))
abbrev St (s : ByteArray) : AV := .val (.one (.str s))
def ints (l : List Int) : List (List D) := l.map fun n => [D.int .i64 n]
/-- A list of numbers that is looked at; one of one's own. -/
abbrev Li (l : List Int) : AV := .val (.one (.list false 1 (ints l)))
abbrev Lo (l : List Int) : AV := .val (.one (.list true 1 (ints l)))
theorem ints_length (l : List Int) : (ints l).length = l.length := by simp [ints]
theorem ints_at {l : List Int} {i : Nat} {n : Int} (h : l[i]? = some n) : (ints l)[i]? = some [D.int .i64 n] := by simp [ints, h]
theorem wrap_small {n : Int} (h0 : -4611686018427387904 ≤ n) (h1 : n ≤ 4611686018427387904) : IntKind.i64.wrap n = n := by rw [IntKind.wrap_i64]; omega
@[simp] theorem nat_neg (i : Nat) : ((i : Int) < 0) = False := by simp
theorem at_of {α : Type} {l : List α} {i : Nat} {a : α} (h : l[i]? = some a) : ∀ h : i < l.length, l[i]'h = a := fun _ => (List.getElem?_eq_some_iff.1 h).2
/-- All calls of the program. -/
noncomputable abbrev C (f : FuncId) (args : List AV) : Option AV := callF prog hand glob f args
theorem callC {f : FuncId} {x : AFn} {args : List AV} {r : AV} (hx : prog f = some x) (hh : hand f = none) (h : xRun (callF prog hand glob) glob x args = some r) : C f args = some r := call_of hh hx h

/-- Goals of a round: what is looked into is the round's run alone. -/
@[congr] theorem Round_congr {o o' : Option (AE × Nat × Env)} (N : Env → Prop) (E : AE → Env → Prop) (h : o = o') : Round o N E = Round o' N E := by rw [h]
section
variable {α σ R : Type} {res : R} {P : Option R → Prop} {body : Env → Option (AE × Nat × Env)} {keep out : List Nat} {e : Env} {k : AE → Nat → Env → Option R}
/-- A loop over a list: s, what the slots hold; Inv, what holds of it in front of element i. -/
theorem list_loopP (l : List α) (hl : l.length ≤ 4611686018427387000) (ch : Nat → σ → Upd) (Inv : Nat → σ → Prop) (s0 : σ)
    (he : Env.app (trim keep e) (ch 0 s0) = trim keep e) (h0 : Inv 0 s0)
    (hround : ∀ (N : Env → Prop) (E : AE → Env → Prop) (i : Nat) (a : α) (s : σ), l[i]? = some a → i < l.length → a ∈ l → l.take (i + 1) = l.take i ++ [a] → IntKind.i64.wrap ((i : Int) + 1) = ((i + 1 : Nat) : Int) → Inv i s →
      (∀ e' s', trim keep e' = Env.app (trim keep e) (ch (i + 1) s') → Inv (i + 1) s' → N e') → (∀ x e', (∀ st, P (k x st (trim out e'))) → E x e') → Round (body (Env.app (trim keep e) (ch i s))) N E)
    (hend : ∀ (N : Env → Prop) (E : AE → Env → Prop) (s : σ), Inv l.length s → (∀ x e', (∀ st, P (k x st (trim out e'))) → E x e') → Round (body (Env.app (trim keep e) (ch l.length s))) N E) :
    P (loopE (loopF body keep e) out k) := by
  have key : ∀ (m i : Nat) (s : σ) (e1 : Env), m = l.length - i → i ≤ l.length → Inv i s → trim keep e1 = Env.app (trim keep e) (ch i s) → LoopTo body keep out e1 fun x e' => ∀ st, P (k x st e') := by
    intro m
    induction m with
    | zero =>
      intro i s e1 hm hi hs h1
      have : i = l.length := by omega
      subst this
      exact .round h1 fun N hN => hend _ _ s hs fun x e' h => h
    | succ m ih =>
      intro i s e1 hm hi hs h1
      have hlt : i < l.length := by omega
      have ha : l[i]? = some l[i] := by simp [hlt]
      refine .round h1 fun N hN => hround _ _ i l[i] s ha hlt (List.getElem_mem hlt) (by simp) (by rw [wrap_small (by omega) (by omega)]; rfl) hs (fun e' s' h2 h3 => hN e' (ih (i + 1) s' e' (by omega) (by omega) h3 h2)) fun x e' h => h
  obtain ⟨x, st, e', h1, h2⟩ := key l.length 0 s0 e (by omega) (by omega) h0 he.symm
  unfold loopE
  rw [h1]
  exact h2 _
/-- A loop that looks for the first element that p holds of; t: the slot of the index. -/
theorem find_loopP (l : List α) (hl : l.length ≤ 4611686018427387000) (t : Nat) (p : α → Prop)
    (he : Env.app (trim keep e) [(t, I 0)] = trim keep e)
    (hround : ∀ (N : Env → Prop) (E : AE → Env → Prop) (i : Nat) (a : α), l[i]? = some a → i < l.length → a ∈ l → IntKind.i64.wrap ((i : Int) + 1) = ((i + 1 : Nat) : Int) → (∀ b ∈ l.take i, ¬ p b) →
      (∀ e', trim keep e' = Env.app (trim keep e) [(t, I ((i + 1 : Nat) : Int))] → ¬ p a → N e') → (∀ x e', (∀ st, P (k x st (trim out e'))) → E x e') → Round (body (Env.app (trim keep e) [(t, I (i : Int))])) N E)
    (hend : ∀ (N : Env → Prop) (E : AE → Env → Prop), (∀ b ∈ l, ¬ p b) → (∀ x e', (∀ st, P (k x st (trim out e'))) → E x e') → Round (body (Env.app (trim keep e) [(t, I (l.length : Int))])) N E) :
    P (loopE (loopF body keep e) out k) := by
  refine list_loopP l hl (fun i (_ : PUnit) => [(t, I (i : Int))]) (fun i _ => ∀ b ∈ l.take i, ¬ p b) ⟨⟩ he (by simp) ?_ ?_
  · intro N E i a s ha hi hm ht hw hs hN hE
    refine hround N E i a ha hi hm hw hs (fun e' h1 h2 => hN e' s h1 fun b hb => ?_) hE
    rw [ht] at hb
    rcases List.mem_append.1 hb with hb | hb
    · exact hs b hb
    · simp at hb; subst hb; exact h2
  · intro N E s hs hE
    rw [List.take_length] at hs
    exact hend N E hs hE
/-- A loop with a measure. -/
theorem while_loopP (ch : σ → Upd) (Inv : σ → Prop) (m : σ → Nat) (s0 : σ)
    (he : Env.app (trim keep e) (ch s0) = trim keep e) (h0 : Inv s0)
    (hround : ∀ (N : Env → Prop) (E : AE → Env → Prop) (s : σ), Inv s →
      (∀ e' s', trim keep e' = Env.app (trim keep e) (ch s') → Inv s' → m s' < m s → N e') → (∀ x e', (∀ st, P (k x st (trim out e'))) → E x e') → Round (body (Env.app (trim keep e) (ch s))) N E) :
    P (loopE (loopF body keep e) out k) := by
  have key : ∀ (n : Nat) (s : σ) (e1 : Env), m s < n → Inv s → trim keep e1 = Env.app (trim keep e) (ch s) → LoopTo body keep out e1 fun x e' => ∀ st, P (k x st e') := by
    intro n
    induction n with
    | zero => intro s e1 hn; omega
    | succ n ih =>
      intro s e1 hn hs h1
      exact .round h1 fun N hN => hround _ _ s hs (fun e' s' h2 h3 h4 => hN e' (ih s' e' (by omega) h3 h2)) fun x e' h => h
  obtain ⟨x, st, e', h1, h2⟩ := key (m s0 + 1) s0 e (by omega) h0 he.symm
  unfold loopE
  rw [h1]
  exact h2 _
theorem list_loop (l : List α) (hl : l.length ≤ 4611686018427387000) (ch : Nat → σ → Upd) (Inv : Nat → σ → Prop) (s0 : σ)
    (he : Env.app (trim keep e) (ch 0 s0) = trim keep e) (h0 : Inv 0 s0)
    (hround : ∀ (N : Env → Prop) (E : AE → Env → Prop) (i : Nat) (a : α) (s : σ), l[i]? = some a → i < l.length → a ∈ l → l.take (i + 1) = l.take i ++ [a] → IntKind.i64.wrap ((i : Int) + 1) = ((i + 1 : Nat) : Int) → Inv i s →
      (∀ e' s', trim keep e' = Env.app (trim keep e) (ch (i + 1) s') → Inv (i + 1) s' → N e') → (∀ x e', (∀ st, k x st (trim out e') = some res) → E x e') → Round (body (Env.app (trim keep e) (ch i s))) N E)
    (hend : ∀ (N : Env → Prop) (E : AE → Env → Prop) (s : σ), Inv l.length s → (∀ x e', (∀ st, k x st (trim out e') = some res) → E x e') → Round (body (Env.app (trim keep e) (ch l.length s))) N E) :
    loopE (loopF body keep e) out k = some res := list_loopP (P := fun o => o = some res) l hl ch Inv s0 he h0 hround hend
theorem list_loopR {k : AE → Nat → Env → Option (AE × Nat × Env)} {N0 : Env → Prop} {E0 : AE → Env → Prop} (l : List α) (hl : l.length ≤ 4611686018427387000) (ch : Nat → σ → Upd) (Inv : Nat → σ → Prop) (s0 : σ)
    (he : Env.app (trim keep e) (ch 0 s0) = trim keep e) (h0 : Inv 0 s0)
    (hround : ∀ (N : Env → Prop) (E : AE → Env → Prop) (i : Nat) (a : α) (s : σ), l[i]? = some a → i < l.length → a ∈ l → l.take (i + 1) = l.take i ++ [a] → IntKind.i64.wrap ((i : Int) + 1) = ((i + 1 : Nat) : Int) → Inv i s →
      (∀ e' s', trim keep e' = Env.app (trim keep e) (ch (i + 1) s') → Inv (i + 1) s' → N e') → (∀ x e', (∀ st, Round (k x st (trim out e')) N0 E0) → E x e') → Round (body (Env.app (trim keep e) (ch i s))) N E)
    (hend : ∀ (N : Env → Prop) (E : AE → Env → Prop) (s : σ), Inv l.length s → (∀ x e', (∀ st, Round (k x st (trim out e')) N0 E0) → E x e') → Round (body (Env.app (trim keep e) (ch l.length s))) N E) :
    Round (loopE (loopF body keep e) out k) N0 E0 := list_loopP (P := fun o => Round o N0 E0) l hl ch Inv s0 he h0 hround hend
theorem find_loop (l : List α) (hl : l.length ≤ 4611686018427387000) (t : Nat) (p : α → Prop)
    (he : Env.app (trim keep e) [(t, I 0)] = trim keep e)
    (hround : ∀ (N : Env → Prop) (E : AE → Env → Prop) (i : Nat) (a : α), l[i]? = some a → i < l.length → a ∈ l → IntKind.i64.wrap ((i : Int) + 1) = ((i + 1 : Nat) : Int) → (∀ b ∈ l.take i, ¬ p b) →
      (∀ e', trim keep e' = Env.app (trim keep e) [(t, I ((i + 1 : Nat) : Int))] → ¬ p a → N e') → (∀ x e', (∀ st, k x st (trim out e') = some res) → E x e') → Round (body (Env.app (trim keep e) [(t, I (i : Int))])) N E)
    (hend : ∀ (N : Env → Prop) (E : AE → Env → Prop), (∀ b ∈ l, ¬ p b) → (∀ x e', (∀ st, k x st (trim out e') = some res) → E x e') → Round (body (Env.app (trim keep e) [(t, I (l.length : Int))])) N E) :
    loopE (loopF body keep e) out k = some res := find_loopP (P := fun o => o = some res) l hl t p he hround hend
theorem find_loopR {k : AE → Nat → Env → Option (AE × Nat × Env)} {N0 : Env → Prop} {E0 : AE → Env → Prop} (l : List α) (hl : l.length ≤ 4611686018427387000) (t : Nat) (p : α → Prop)
    (he : Env.app (trim keep e) [(t, I 0)] = trim keep e)
    (hround : ∀ (N : Env → Prop) (E : AE → Env → Prop) (i : Nat) (a : α), l[i]? = some a → i < l.length → a ∈ l → IntKind.i64.wrap ((i : Int) + 1) = ((i + 1 : Nat) : Int) → (∀ b ∈ l.take i, ¬ p b) →
      (∀ e', trim keep e' = Env.app (trim keep e) [(t, I ((i + 1 : Nat) : Int))] → ¬ p a → N e') → (∀ x e', (∀ st, Round (k x st (trim out e')) N0 E0) → E x e') → Round (body (Env.app (trim keep e) [(t, I (i : Int))])) N E)
    (hend : ∀ (N : Env → Prop) (E : AE → Env → Prop), (∀ b ∈ l, ¬ p b) → (∀ x e', (∀ st, Round (k x st (trim out e')) N0 E0) → E x e') → Round (body (Env.app (trim keep e) [(t, I (l.length : Int))])) N E) :
    Round (loopE (loopF body keep e) out k) N0 E0 := find_loopP (P := fun o => Round o N0 E0) l hl t p he hround hend
theorem while_loop (ch : σ → Upd) (Inv : σ → Prop) (m : σ → Nat) (s0 : σ)
    (he : Env.app (trim keep e) (ch s0) = trim keep e) (h0 : Inv s0)
    (hround : ∀ (N : Env → Prop) (E : AE → Env → Prop) (s : σ), Inv s →
      (∀ e' s', trim keep e' = Env.app (trim keep e) (ch s') → Inv s' → m s' < m s → N e') → (∀ x e', (∀ st, k x st (trim out e') = some res) → E x e') → Round (body (Env.app (trim keep e) (ch s))) N E) :
    loopE (loopF body keep e) out k = some res := while_loopP (P := fun o => o = some res) ch Inv m s0 he h0 hround
end
end Go.Abs.W
set_option linter.unusedSimpArgs false
set_option linter.unusedVariables false
namespace Go.Abs.W
open Go Go.Abs
structure Terrain where
  name : ByteArray
  cost : List Int
  shift : Int
  height : Int
  blocks : Bool
  deriving Inhabited
structure Kind where
  name : ByteArray
  strength : Int
  moves : Int
  steps : Int
  zone : Bool
  view : Int
  deriving Inhabited
structure Unit where
  side : Int
  kind : Int
  pos : Int
  steps : Int
  deriving Inhabited
structure Rules where
  terrains : List Terrain
  kinds : List Kind
  stack : Int
  river : Int
  road : Int
  supply : Int
  turns : Int
  deriving Inhabited
structure Map where
  width : Int
  height : Int
  terrain : List Int
  rivers : List Int
  roads : List Int
  deriving Inhabited
structure Board where
  rules : Rules
  map : Map
  deriving Inhabited
structure State where
  turn : Int
  weather : Int
  units : List Unit
  deriving Inhabited
structure Battle where
  pos : Int
  attackers : List Int
  defenders : List Int
  deriving Inhabited
structure Attempt where
  unit : Int
  src : Int
  dst : Int
  deriving Inhabited
structure Order where
  unit : Int
  path : List Int
  attack : Int
  deriving Inhabited
structure Sheet where
  side : Int
  orders : List Order
  deriving Inhabited
structure Odds where
  num : Int
  den : Int
  deriving Inhabited
structure Attack where
  unit : Int
  pos : Int
  deriving Inhabited
def Terrain.enc (o : Bool) (t : Terrain) : List D := [.str t.name, .list o 1 (ints t.cost), .int .i64 t.shift, .int .i64 t.height, .bool t.blocks]
def Kind.enc (k : Kind) : List D := [.str k.name, .int .i64 k.strength, .int .i64 k.moves, .int .i64 k.steps, .bool k.zone, .int .i64 k.view]
def Unit.enc (u : Unit) : List D := [.int .i64 u.side, .int .i64 u.kind, .int .i64 u.pos, .int .i64 u.steps]
def Attempt.enc (a : Attempt) : List D := [.int .i64 a.unit, .int .i64 a.src, .int .i64 a.dst]
def Order.enc (o : Bool) (a : Order) : List D := [.int .i64 a.unit, .list o 1 (ints a.path), .int .i64 a.attack]
def Odds.enc (a : Odds) : List D := [.int .i64 a.num, .int .i64 a.den]
def Attack.enc (a : Attack) : List D := [.int .i64 a.unit, .int .i64 a.pos]
def rowsOfL (o : Bool) (l : List (List Int)) : List (List D) := l.map fun r => [.list o 1 (ints r)]
/-- The cells of a struct that is looked at. -/
def RulesL (r : Rules) : List D := [.list false 5 (r.terrains.map (Terrain.enc false)), .list false 6 (r.kinds.map Kind.enc), .int .i64 r.stack, .int .i64 r.river, .int .i64 r.road, .int .i64 r.supply, .int .i64 r.turns]
def MapL (m : Map) : List D := [.int .i64 m.width, .int .i64 m.height, .list false 1 (ints m.terrain), .list false 1 (ints m.rivers), .list false 1 (ints m.roads)]
def BoardL (b : Board) : List D := RulesL b.rules ++ MapL b.map
def StateL (s : State) : List D := [.int .i64 s.turn, .int .i64 s.weather, .list false 4 (s.units.map Unit.enc)]
def SheetL (x : Sheet) : List D := [.int .i64 x.side, .list false 3 (x.orders.map (Order.enc false))]
/-- A list of rows, own or looked at. -/
abbrev Rows (o : Bool) (e : Nat) (rows : List (List D)) : AV := .val (.one (.list o e rows))
abbrev TerrainV (o : Bool) (t : Terrain) : AV := .val (.agg [.str t.name, .list o 1 (ints t.cost), .int .i64 t.shift, .int .i64 t.height, .bool t.blocks])
abbrev KindV (k : Kind) : AV := .val (.agg [.str k.name, .int .i64 k.strength, .int .i64 k.moves, .int .i64 k.steps, .bool k.zone, .int .i64 k.view])
abbrev UnitV (u : Unit) : AV := .val (.agg [.int .i64 u.side, .int .i64 u.kind, .int .i64 u.pos, .int .i64 u.steps])
abbrev RulesV (o : Bool) (r : Rules) : AV := .val (.agg [.list o 5 (r.terrains.map (Terrain.enc o)), .list o 6 (r.kinds.map Kind.enc), .int .i64 r.stack, .int .i64 r.river, .int .i64 r.road, .int .i64 r.supply, .int .i64 r.turns])
abbrev MapV (o : Bool) (m : Map) : AV := .val (.agg [.int .i64 m.width, .int .i64 m.height, .list o 1 (ints m.terrain), .list o 1 (ints m.rivers), .list o 1 (ints m.roads)])
abbrev BoardV (o : Bool) (b : Board) : AV := .val (.agg [.list o 5 (b.rules.terrains.map (Terrain.enc o)), .list o 6 (b.rules.kinds.map Kind.enc), .int .i64 b.rules.stack, .int .i64 b.rules.river, .int .i64 b.rules.road, .int .i64 b.rules.supply, .int .i64 b.rules.turns,
  .int .i64 b.map.width, .int .i64 b.map.height, .list o 1 (ints b.map.terrain), .list o 1 (ints b.map.rivers), .list o 1 (ints b.map.roads)])
abbrev StateV (o : Bool) (s : State) : AV := .val (.agg [.int .i64 s.turn, .int .i64 s.weather, .list o 4 (s.units.map Unit.enc)])
abbrev AttemptV (a : Attempt) : AV := .val (.agg [.int .i64 a.unit, .int .i64 a.src, .int .i64 a.dst])
abbrev OrderV (o : Bool) (a : Order) : AV := .val (.agg [.int .i64 a.unit, .list o 1 (ints a.path), .int .i64 a.attack])
abbrev SheetV (o : Bool) (x : Sheet) : AV := .val (.agg [.int .i64 x.side, .list o 3 (x.orders.map (Order.enc o))])
/-- Own rows, looked at. -/
@[simp] theorem stale_ints (l : List Int) : staleLL (ints l) = ints l := by
  induction l with
  | nil => rfl
  | cons x l ih => simp only [ints, List.map_cons] at ih ⊢; simp [staleLL, staleL, D.stale, ih]
@[simp] theorem stale_terrains (l : List Terrain) (o : Bool) : staleLL (l.map (Terrain.enc o)) = l.map (Terrain.enc false) := by
  induction l with
  | nil => rfl
  | cons x l ih => simp [staleLL, staleL, D.stale, ih, Terrain.enc]
@[simp] theorem stale_kinds (l : List Kind) : staleLL (l.map Kind.enc) = l.map Kind.enc := by
  induction l with
  | nil => rfl
  | cons x l ih => simp [staleLL, staleL, D.stale, ih, Kind.enc]
@[simp] theorem stale_units (l : List Unit) : staleLL (l.map Unit.enc) = l.map Unit.enc := by
  induction l with
  | nil => rfl
  | cons x l ih => simp [staleLL, staleL, D.stale, ih, Unit.enc]
@[simp] theorem stale_attempts (l : List Attempt) : staleLL (l.map Attempt.enc) = l.map Attempt.enc := by
  induction l with
  | nil => rfl
  | cons x l ih => simp [staleLL, staleL, D.stale, ih, Attempt.enc]
@[simp] theorem stale_orders (l : List Order) (o : Bool) : staleLL (l.map (Order.enc o)) = l.map (Order.enc false) := by
  induction l with
  | nil => rfl
  | cons x l ih => simp [staleLL, staleL, D.stale, ih, Order.enc]
@[simp] theorem stale_odds (l : List Odds) : staleLL (l.map Odds.enc) = l.map Odds.enc := by
  induction l with
  | nil => rfl
  | cons x l ih => simp [staleLL, staleL, D.stale, ih, Odds.enc]
@[simp] theorem stale_attacks (l : List Attack) : staleLL (l.map Attack.enc) = l.map Attack.enc := by
  induction l with
  | nil => rfl
  | cons x l ih => simp [staleLL, staleL, D.stale, ih, Attack.enc]
@[simp] theorem stale_rows (l : List (List Int)) (o : Bool) : staleLL (rowsOfL o l) = rowsOfL false l := by
  induction l with
  | nil => rfl
  | cons x l ih => unfold rowsOfL at *; simp [staleLL, staleL, D.stale, ih]
end Go.Abs.W
set_option linter.unusedSimpArgs false
set_option linter.unusedVariables false
namespace Go.Abs.W
open Go Go.Abs
/-- What is left, or -1. -/
def less (n : Int) (k : Nat) : Int := if n < k then -1 else n - k
/-- A number of which the laws count down. -/
def Left (n : Int) : Prop := 0 ≤ n ∧ n ≤ 1048576
/-- Lengths that memory can hold. -/
def Wide (k : Nat) : Prop := k ≤ maxLen
theorem less_small {n : Int} {k : Nat} (h : Left n) (hk : Wide k) : IntKind.i64.wrap (n - k) = n - k := by
  unfold Left at h; unfold Wide maxLen at hk; rw [IntKind.wrap_i64]; omega
theorem less_yes {n : Int} {k : Nat} (h : n < k) : less n k = -1 := by simp [less, h]
theorem less_no {n : Int} {k : Nat} (h : ¬ n < k) : less n k = n - k := by simp [less, h]
theorem less_left {n : Int} {k : Nat} (hn : Left n) (h : ¬ n < k) : Left (n - k) := by unfold Left at *; omega
def sumN {α : Type} (f : α → Nat) (l : List α) : Nat := (l.map f).sum
theorem sumN_nil {α : Type} (f : α → Nat) : sumN f [] = 0 := rfl
theorem sumN_app {α : Type} (f : α → Nat) (l m : List α) : sumN f (l ++ m) = sumN f l + sumN f m := by simp [sumN]
theorem sumN_one {α : Type} (f : α → Nat) (a : α) : sumN f [a] = f a := by simp [sumN]
theorem sumN_take {α : Type} (f : α → Nat) (l : List α) (i : Nat) : sumN f (l.take i) ≤ sumN f l := by
  conv => rhs; rw [← List.take_append_drop i l, sumN_app]
  exact Nat.le_add_right ..
theorem c_laws_szIntS (l : List Int) (n : Int) (hn : Left n) (hl : Wide l.length) : C n_laws_szIntS [Li l, I n] = some (I (less n l.length)) := by
  refine callC p_laws_szIntS rfl ?_
  have hw := less_small hn hl
  by_cases hc : n < l.length
  · have : n - (l.length : Int) < 0 := by omega
    simp [xRun, a_laws_szIntS, ints_length, less, hw, hc, this]
  · have : ¬ n - (l.length : Int) < 0 := by omega
    simp [xRun, a_laws_szIntS, ints_length, less, hw, hc, this]
def WideT (t : Terrain) : Prop := Wide t.name.size ∧ Wide t.cost.length
def cntT (t : Terrain) : Nat := t.name.size + t.cost.length
theorem c_laws_szTerrain (t : Terrain) (n : Int) (hn : Left n) (hl : WideT t) : C n_laws_szTerrain [TerrainV false t, I n] = some (I (less n (cntT t))) := by
  refine callC p_laws_szTerrain rfl ?_
  have hw := less_small hn hl.1
  by_cases hc : n < t.name.size
  · have h1 : n - (t.name.size : Int) < 0 := by omega
    have h2 : n < cntT t := by simp [cntT]; omega
    simp [xRun, a_laws_szTerrain, hw, h1, less_yes h2]
  · have h1 : ¬ n - (t.name.size : Int) < 0 := by omega
    have hs := c_laws_szIntS t.cost _ (less_left hn hc) hl.2
    by_cases hd : n - (t.name.size : Int) < t.cost.length
    · have h2 : n < cntT t := by simp [cntT]; omega
      rw [less_yes hd] at hs
      simp [xRun, a_laws_szTerrain, hw, h1, less_yes h2, hs]
    · have h2 : ¬ n < cntT t := by simp [cntT]; omega
      rw [less_no hd] at hs
      have h3 : ¬ n - (t.name.size : Int) - t.cost.length < 0 := by omega
      have h4 : n - (t.name.size : Int) - t.cost.length = n - (cntT t : Int) := by simp [cntT]; omega
      have h5 : ¬ n - (cntT t : Int) < 0 := by omega
      simp [xRun, a_laws_szTerrain, hw, h1, less_no h2, hs, h3, h4, h5]
theorem c_laws_szKind (t : Kind) (n : Int) (hn : Left n) (hl : Wide t.name.size) : C n_laws_szKind [KindV t, I n] = some (I (less n t.name.size)) := by
  refine callC p_laws_szKind rfl ?_
  have hw := less_small hn hl
  by_cases hc : n < t.name.size
  · have h1 : n - (t.name.size : Int) < 0 := by omega
    simp [xRun, a_laws_szKind, hw, h1, less_yes hc]
  · have h1 : ¬ n - (t.name.size : Int) < 0 := by omega
    simp [xRun, a_laws_szKind, hw, h1, less_no hc]
theorem c_laws_szTerrainS (l : List Terrain) (n : Int) (hn : Left n) (hl : Wide l.length) (hls : ∀ t ∈ l, WideT t) : C n_laws_szTerrainS [Rows false 5 (l.map (Terrain.enc false)), I n] = some (I (less n (l.length + sumN cntT l))) := by
  refine callC p_laws_szTerrainS rfl ?_
  have hw := less_small hn hl
  by_cases hc : n < l.length
  · have h1 : n - (l.length : Int) < 0 := by omega
    have h2 : n < (l.length + sumN cntT l : Nat) := by omega
    simp [xRun, a_laws_szTerrainS, hw, h1, less_yes h2]
  · have h1 : ¬ n - (l.length : Int) < 0 := by omega
    simp [xRun, a_laws_szTerrainS, hw, h1]
    refine list_loop l (by unfold Left at hn; omega) (fun i (s : Int) => [(1, I s), (5, I i)]) (fun i s => s = n - l.length - sumN cntT (l.take i) ∧ 0 ≤ s) (n - l.length) (by simp) (by simp [sumN_nil]; omega) ?_ ?_
    · intro N E i a s ha hi hm ht hwi ⟨hs, hs0⟩ hN hE
      have hb := sumN_take cntT l (i + 1)
      rw [ht, sumN_app, sumN_one] at hb
      have hz := c_laws_szTerrain a s (by unfold Left at *; omega) (hls a hm)
      by_cases hd : s < cntT a
      · have h2 : n < (l.length + sumN cntT l : Nat) := by omega
        rw [less_yes hd] at hz
        simp [bodyF, b_laws_szTerrainS_0, hi, ha, at_of ha, Terrain.enc, hz]
        refine hE _ _ fun st => ?_
        simp [less_yes h2]
      · have h3 : ¬ s - (cntT a : Int) < 0 := by omega
        rw [less_no hd] at hz
        simp [bodyF, b_laws_szTerrainS_0, hi, ha, at_of ha, Terrain.enc, hz, h3, hwi]
        refine hN _ (s - cntT a) (by simp) ⟨?_, by omega⟩
        rw [ht, sumN_app, sumN_one]; omega
    · intro N E s ⟨hs, hs0⟩ hE
      simp [bodyF, b_laws_szTerrainS_0]
      refine hE _ _ fun st => ?_
      rw [List.take_length] at hs
      have h2 : ¬ n < (l.length + sumN cntT l : Nat) := by omega
      simp [less_no h2]; omega
theorem c_laws_szKindS (l : List Kind) (n : Int) (hn : Left n) (hl : Wide l.length) (hls : ∀ t ∈ l, Wide t.name.size) : C n_laws_szKindS [Rows false 6 (l.map Kind.enc), I n] = some (I (less n (l.length + sumN (fun t => t.name.size) l))) := by
  refine callC p_laws_szKindS rfl ?_
  have hw := less_small hn hl
  by_cases hc : n < l.length
  · have h1 : n - (l.length : Int) < 0 := by omega
    have h2 : n < (l.length + sumN (fun t => t.name.size) l : Nat) := by omega
    simp [xRun, a_laws_szKindS, hw, h1, less_yes h2]
  · have h1 : ¬ n - (l.length : Int) < 0 := by omega
    simp [xRun, a_laws_szKindS, hw, h1]
    refine list_loop l (by unfold Left at hn; omega) (fun i (s : Int) => [(1, I s), (5, I i)]) (fun i s => s = n - l.length - sumN (fun t => t.name.size) (l.take i) ∧ 0 ≤ s) (n - l.length) (by simp) (by simp [sumN_nil]; omega) ?_ ?_
    · intro N E i a s ha hi hm ht hwi ⟨hs, hs0⟩ hN hE
      have hb := sumN_take (fun t : Kind => t.name.size) l (i + 1)
      rw [ht, sumN_app, sumN_one] at hb
      have hz := c_laws_szKind a s (by unfold Left at *; omega) (hls a hm)
      by_cases hd : s < a.name.size
      · have h2 : n < (l.length + sumN (fun t => t.name.size) l : Nat) := by omega
        rw [less_yes hd] at hz
        simp [bodyF, b_laws_szKindS_0, hi, ha, at_of ha, Kind.enc, hz]
        refine hE _ _ fun st => ?_
        simp [less_yes h2]
      · have h3 : ¬ s - (a.name.size : Int) < 0 := by omega
        rw [less_no hd] at hz
        simp [bodyF, b_laws_szKindS_0, hi, ha, at_of ha, Kind.enc, hz, h3, hwi]
        refine hN _ (s - a.name.size) (by simp) ⟨?_, by omega⟩
        rw [ht, sumN_app, sumN_one]; omega
    · intro N E s ⟨hs, hs0⟩ hE
      simp [bodyF, b_laws_szKindS_0]
      refine hE _ _ fun st => ?_
      rw [List.take_length] at hs
      have h2 : ¬ n < (l.length + sumN (fun t => t.name.size) l : Nat) := by omega
      simp [less_no h2]; omega
structure WideR (r : Rules) : Prop where
  ts : Wide r.terrains.length
  t : ∀ t ∈ r.terrains, WideT t
  ks : Wide r.kinds.length
  k : ∀ k ∈ r.kinds, Wide k.name.size
def cntR (r : Rules) : Nat := (r.terrains.length + sumN cntT r.terrains) + (r.kinds.length + sumN (fun t => t.name.size) r.kinds)
theorem c_laws_szRules (r : Rules) (n : Int) (hn : Left n) (hl : WideR r) : C n_laws_szRules [RulesV false r, I n] = some (I (less n (cntR r))) := by
  refine callC p_laws_szRules rfl ?_
  have h1 := c_laws_szTerrainS r.terrains n hn hl.ts hl.t
  by_cases hc : n < (r.terrains.length + sumN cntT r.terrains : Nat)
  · have h2 : n < cntR r := by unfold cntR; omega
    rw [less_yes hc] at h1
    simp [xRun, a_laws_szRules, h1, less_yes h2]
  · rw [less_no hc] at h1
    have h3 : ¬ n - ((r.terrains.length + sumN cntT r.terrains : Nat) : Int) < 0 := by omega
    have h4 := c_laws_szKindS r.kinds _ (less_left hn hc) hl.ks hl.k
    rw [Int.natCast_add] at h1 h3 h4
    by_cases hd : n - ((r.terrains.length + sumN cntT r.terrains : Nat) : Int) < (r.kinds.length + sumN (fun t => t.name.size) r.kinds : Nat)
    · have h2 : n < cntR r := by unfold cntR; omega
      rw [← Int.natCast_add, less_yes hd, Int.natCast_add] at h4
      simp [xRun, a_laws_szRules, h1, h3, h4, less_yes h2]
    · have h2 : ¬ n < cntR r := by unfold cntR; omega
      have h5 : ¬ n - (cntR r : Int) < 0 := by omega
      rw [← Int.natCast_add, less_no hd, show n - ((r.terrains.length + sumN cntT r.terrains : Nat) : Int) - ((r.kinds.length + sumN (fun t => t.name.size) r.kinds : Nat) : Int) = n - (cntR r : Int) by unfold cntR; omega, Int.natCast_add] at h4
      simp [xRun, a_laws_szRules, h1, h3, h4, h5, less_no h2]
structure WideM (m : Map) : Prop where
  t : Wide m.terrain.length
  v : Wide m.rivers.length
  d : Wide m.roads.length
def cntM (m : Map) : Nat := m.terrain.length + m.rivers.length + m.roads.length
theorem c_laws_szMap (m : Map) (n : Int) (hn : Left n) (hl : WideM m) : C n_laws_szMap [MapV false m, I n] = some (I (less n (cntM m))) := by
  refine callC p_laws_szMap rfl ?_
  have h1 := c_laws_szIntS m.terrain n hn hl.t
  by_cases hc : n < m.terrain.length
  · have h2 : n < cntM m := by unfold cntM; omega
    rw [less_yes hc] at h1
    simp [xRun, a_laws_szMap, h1, less_yes h2]
  · rw [less_no hc] at h1
    have h3 : ¬ n - (m.terrain.length : Int) < 0 := by omega
    have h4 := c_laws_szIntS m.rivers _ (less_left hn hc) hl.v
    by_cases hd : n - (m.terrain.length : Int) < m.rivers.length
    · have h2 : n < cntM m := by unfold cntM; omega
      rw [less_yes hd] at h4
      simp [xRun, a_laws_szMap, h1, h3, h4, less_yes h2]
    · have h5 := c_laws_szIntS m.roads _ (less_left (less_left hn hc) hd) hl.d
      have h6 : ¬ n - (m.terrain.length : Int) - m.rivers.length < 0 := by omega
      rw [less_no hd] at h4
      by_cases he : n - (m.terrain.length : Int) - m.rivers.length < m.roads.length
      · have h2 : n < cntM m := by unfold cntM; omega
        rw [less_yes he] at h5
        simp [xRun, a_laws_szMap, h1, h3, h4, h5, h6, less_yes h2]
      · have h2 : ¬ n < cntM m := by unfold cntM; omega
        have h7 : ¬ n - (cntM m : Int) < 0 := by omega
        rw [less_no he, show n - (m.terrain.length : Int) - m.rivers.length - m.roads.length = n - (cntM m : Int) by unfold cntM; omega] at h5
        simp [xRun, a_laws_szMap, h1, h3, h4, h5, h6, h7, less_no h2]
structure WideB (b : Board) : Prop where
  r : WideR b.rules
  m : WideM b.map
def cntB (b : Board) : Nat := cntR b.rules + cntM b.map
theorem c_laws_szBoard (b : Board) (n : Int) (hn : Left n) (hl : WideB b) : C n_laws_szBoard [BoardV false b, I n] = some (I (less n (cntB b))) := by
  refine callC p_laws_szBoard rfl ?_
  have h1 := c_laws_szRules b.rules n hn hl.r
  by_cases hc : n < cntR b.rules
  · have h2 : n < cntB b := by unfold cntB; omega
    rw [less_yes hc] at h1
    simp [xRun, a_laws_szBoard, h1, less_yes h2]
  · rw [less_no hc] at h1
    have h3 : ¬ n - (cntR b.rules : Int) < 0 := by omega
    have h4 := c_laws_szMap b.map _ (less_left hn hc) hl.m
    by_cases hd : n - (cntR b.rules : Int) < cntM b.map
    · have h2 : n < cntB b := by unfold cntB; omega
      rw [less_yes hd] at h4
      simp [xRun, a_laws_szBoard, h1, h3, h4, less_yes h2]
    · have h2 : ¬ n < cntB b := by unfold cntB; omega
      have h7 : ¬ n - (cntB b : Int) < 0 := by omega
      rw [less_no hd, show n - (cntR b.rules : Int) - cntM b.map = n - (cntB b : Int) by unfold cntB; omega] at h4
      simp [xRun, a_laws_szBoard, h1, h3, h4, h7, less_no h2]
theorem c_laws_szUnitS (l : List Unit) (n : Int) (hn : Left n) (hl : Wide l.length) : C n_laws_szUnitS [Rows false 4 (l.map Unit.enc), I n] = some (I (less n l.length)) := by
  refine callC p_laws_szUnitS rfl ?_
  have hw := less_small hn hl
  by_cases hc : n < l.length
  · have : n - (l.length : Int) < 0 := by omega
    simp [xRun, a_laws_szUnitS, less, hw, hc, this]
  · have : ¬ n - (l.length : Int) < 0 := by omega
    simp [xRun, a_laws_szUnitS, less, hw, hc, this]
theorem c_laws_szState (s : State) (n : Int) (hn : Left n) (hl : Wide s.units.length) : C n_laws_szState [StateV false s, I n] = some (I (less n s.units.length)) := by
  refine callC p_laws_szState rfl ?_
  have h1 := c_laws_szUnitS s.units n hn hl
  by_cases hc : n < s.units.length
  · rw [less_yes hc] at h1
    simp [xRun, a_laws_szState, h1, less_yes hc]
  · rw [less_no hc] at h1
    have h3 : ¬ n - (s.units.length : Int) < 0 := by omega
    simp [xRun, a_laws_szState, h1, less_no hc, h3]
structure WideSheet (x : Sheet) : Prop where
  n : Wide x.orders.length
  o : ∀ a ∈ x.orders, Wide a.path.length
/-- Lengths that the laws let in. -/
def Len (k : Nat) : Prop := k ≤ 1048576
def LenT (t : Terrain) : Prop := Len t.name.size ∧ Len t.cost.length
structure LenR (r : Rules) : Prop where
  ts : Len r.terrains.length
  t : ∀ t ∈ r.terrains, LenT t
  ks : Len r.kinds.length
  k : ∀ k ∈ r.kinds, Len k.name.size
structure LenM (m : Map) : Prop where
  t : Len m.terrain.length
  v : Len m.rivers.length
  d : Len m.roads.length
structure LenB (b : Board) : Prop where
  r : LenR b.rules
  m : LenM b.map
theorem sumN_mem {α : Type} (f : α → Nat) {l : List α} {a : α} (h : a ∈ l) : f a ≤ sumN f l := by
  obtain ⟨p, q, rfl⟩ := List.append_of_mem h
  rw [sumN_app, show a :: q = [a] ++ q from rfl, sumN_app, sumN_one]; omega
theorem LenR_of {r : Rules} (h : cntR r ≤ 1048576) : LenR r := by
  unfold cntR at h
  refine ⟨by unfold Len; omega, fun t ht => ?_, by unfold Len; omega, fun k hk => ?_⟩
  · have := sumN_mem cntT ht
    have e : cntT t = t.name.size + t.cost.length := rfl
    unfold LenT Len; omega
  · have := sumN_mem (fun t : Kind => t.name.size) hk
    unfold Len; omega
theorem LenM_of {m : Map} (h : cntM m ≤ 1048576) : LenM m := by
  unfold cntM at h; exact ⟨by unfold Len; omega, by unfold Len; omega, by unfold Len; omega⟩
theorem LenB_of {b : Board} (h : cntB b ≤ 1048576) : LenB b := by
  unfold cntB at h; exact ⟨LenR_of (by omega), LenM_of (by omega)⟩
end Go.Abs.W
set_option linter.unusedSimpArgs false
set_option linter.unusedVariables false
set_option maxRecDepth 100000
namespace Go.Abs.W
open Go Go.Abs
section
variable {α : Type}
/-- A list whose first i rows are done, the others as they were made. -/
def fillR (f : α → List D) (z : List D) (l : List α) (i : Nat) : List (List D) := (l.take i).map f ++ (l.drop i).map fun _ => z
theorem fillR_zero (f : α → List D) (z : List D) (l : List α) : fillR f z l 0 = List.replicate l.length z := by simp [fillR, List.map_const']
theorem fillR_end (f : α → List D) (z : List D) (l : List α) : fillR f z l l.length = l.map f := by simp [fillR]
@[simp] theorem fillR_len (f : α → List D) (z : List D) (l : List α) (i : Nat) : (fillR f z l i).length = l.length := by simp [fillR]; omega
theorem fillR_at (f : α → List D) (z : List D) {l : List α} {i : Nat} (hi : i < l.length) : ∀ h : i < (fillR f z l i).length, (fillR f z l i)[i]'h = z := by
  intro h
  have h1 : (fillR f z l i)[i]? = some z := by
    unfold fillR
    rw [List.getElem?_append_right (by simp; omega)]
    have : i - (List.map f (List.take i l)).length = 0 := by simp; omega
    rw [this]
    cases hd : l.drop i with
    | nil => have := congrArg List.length hd; simp at this; omega
    | cons x t => simp
  exact (List.getElem?_eq_some_iff.1 h1).2
theorem fillR_set (f : α → List D) (z : List D) {l : List α} {i : Nat} {a : α} (ha : l[i]? = some a) : (fillR f z l i).set i (f a) = fillR f z l (i + 1) := by
  have hi : i < l.length := (List.getElem?_eq_some_iff.1 ha).1
  have h0 := (List.getElem?_eq_some_iff.1 ha).2
  unfold fillR
  rw [List.set_append_right _ _ (by simp; omega)]
  have : i - (List.map f (List.take i l)).length = 0 := by simp; omega
  rw [this, List.drop_eq_getElem_cons hi, List.map_cons, List.set_cons_zero, List.take_succ_eq_append_getElem hi, List.map_append, h0]
  simp
end
theorem make_ok {k : Nat} (h : Len k) : (k : Int) ≤ 68719476736 := by unfold Len at h; omega
theorem c_laws_toIntS (l : List Int) (hl : Len l.length) : C n_laws_toIntS [Li l] = some (Lo l) := by
  refine callC p_laws_toIntS rfl ?_
  have h0 := make_ok hl
  simp [xRun, a_laws_toIntS, ints_length, h0, -List.replicate]
  refine list_loop l (by unfold Len at hl; omega) (fun i (_ : Unit) => [(3, .own 0 1 (fillR (fun n => [.int .i64 n]) [.int .i64 0] l i)), (4, I i)]) (fun _ _ => True) default (by simp [fillR_zero, -List.replicate]) trivial ?_ ?_
  · intro N E i a s ha hi hm ht hwi _ hN hE
    simp [bodyF, b_laws_toIntS_0, hi, ints_length, ints, ha, at_of ha, hwi, fillR_at _ _ hi, fillR_set (fun n => [D.int .i64 n]) [.int .i64 0] ha]
    exact hN _ s (by simp [ints]) trivial
  · intro N E s _ hE
    simp [bodyF, b_laws_toIntS_0, ints_length]
    refine hE _ _ fun st => ?_
    simp [fillR_end, ints]
theorem c_laws_eqIntS (l : List Int) (hl : Len l.length) : C n_laws_eqIntS [Li l, Li l] = some (Bo true) := by
  refine callC p_laws_eqIntS rfl ?_
  simp [xRun, a_laws_eqIntS, ints_length]
  refine list_loop l (by unfold Len at hl; omega) (fun i (_ : Unit) => [(5, I i)]) (fun _ _ => True) default (by simp) trivial ?_ ?_
  · intro N E i a s ha hi hm ht hwi _ hN hE
    simp [bodyF, b_laws_eqIntS_0, hi, ints_length, ints, ha, at_of ha, hwi]
    exact hN _ s (by simp [ints]) trivial
  · intro N E s _ hE
    simp [bodyF, b_laws_eqIntS_0, ints_length]
    exact hE _ _ fun st => by simp
theorem c_laws_toTerrain (t : Terrain) (hl : LenT t) : C n_laws_toTerrain [TerrainV false t] = some (TerrainV true t) := by
  refine callC p_laws_toTerrain rfl ?_
  simp [xRun, a_laws_toTerrain, c_laws_toIntS t.cost hl.2]
theorem c_laws_toKind (t : Kind) : C n_laws_toKind [KindV t] = some (KindV t) := by
  refine callC p_laws_toKind rfl ?_
  simp [xRun, a_laws_toKind]
theorem c_laws_toUnit (t : Unit) : C n_laws_toUnit [UnitV t] = some (UnitV t) := by
  refine callC p_laws_toUnit rfl ?_
  simp [xRun, a_laws_toUnit]
theorem c_laws_toTerrainS (l : List Terrain) (hl : Len l.length) (hls : ∀ t ∈ l, LenT t) : C n_laws_toTerrainS [Rows false 5 (l.map (Terrain.enc false))] = some (Rows true 5 (l.map (Terrain.enc true))) := by
  refine callC p_laws_toTerrainS rfl ?_
  have h0 := make_ok hl
  simp [xRun, a_laws_toTerrainS, h0, -List.replicate]
  refine list_loop l (by unfold Len at hl; omega) (fun i (_ : Unit) => [(3, .own 0 5 (fillR (Terrain.enc true) [.str ⟨#[]⟩, .list true 1 [], .int .i64 0, .int .i64 0, .bool false] l i)), (4, I i)]) (fun _ _ => True) default (by simp [fillR_zero, -List.replicate]) trivial ?_ ?_
  · intro N E i a s ha hi hm ht hwi _ hN hE
    have hset := fillR_set (Terrain.enc true) [.str ⟨#[]⟩, .list true 1 [], .int .i64 0, .int .i64 0, .bool false] ha
    rw [Terrain.enc] at hset
    simp [bodyF, b_laws_toTerrainS_0, hi, ha, at_of ha, hwi, Terrain.enc, c_laws_toTerrain a (hls a hm), fillR_at _ _ hi, hset]
    exact hN _ s (by simp) trivial
  · intro N E s _ hE
    simp [bodyF, b_laws_toTerrainS_0]
    refine hE _ _ fun st => ?_
    simp [fillR_end]
theorem c_laws_toKindS (l : List Kind) (hl : Len l.length) : C n_laws_toKindS [Rows false 6 (l.map Kind.enc)] = some (Rows true 6 (l.map Kind.enc)) := by
  refine callC p_laws_toKindS rfl ?_
  have h0 := make_ok hl
  simp [xRun, a_laws_toKindS, h0, -List.replicate]
  refine list_loop l (by unfold Len at hl; omega) (fun i (_ : Unit) => [(3, .own 0 6 (fillR Kind.enc [.str ⟨#[]⟩, .int .i64 0, .int .i64 0, .int .i64 0, .bool false, .int .i64 0] l i)), (4, I i)]) (fun _ _ => True) default (by simp [fillR_zero, -List.replicate]) trivial ?_ ?_
  · intro N E i a s ha hi hm ht hwi _ hN hE
    have hset := fillR_set Kind.enc [.str ⟨#[]⟩, .int .i64 0, .int .i64 0, .int .i64 0, .bool false, .int .i64 0] ha
    rw [Kind.enc] at hset
    simp [bodyF, b_laws_toKindS_0, hi, ha, at_of ha, hwi, Kind.enc, c_laws_toKind a, fillR_at _ _ hi, hset]
    exact hN _ s (by simp) trivial
  · intro N E s _ hE
    simp [bodyF, b_laws_toKindS_0]
    refine hE _ _ fun st => ?_
    simp [fillR_end]
theorem c_laws_toUnitS (l : List Unit) (hl : Len l.length) : C n_laws_toUnitS [Rows false 4 (l.map Unit.enc)] = some (Rows true 4 (l.map Unit.enc)) := by
  refine callC p_laws_toUnitS rfl ?_
  have h0 := make_ok hl
  simp [xRun, a_laws_toUnitS, h0, -List.replicate]
  refine list_loop l (by unfold Len at hl; omega) (fun i (_ : Unit) => [(3, .own 0 4 (fillR Unit.enc [.int .i64 0, .int .i64 0, .int .i64 0, .int .i64 0] l i)), (4, I i)]) (fun _ _ => True) default (by simp [fillR_zero, -List.replicate]) trivial ?_ ?_
  · intro N E i a s ha hi hm ht hwi _ hN hE
    have hset := fillR_set Unit.enc [.int .i64 0, .int .i64 0, .int .i64 0, .int .i64 0] ha
    rw [Unit.enc] at hset
    simp [bodyF, b_laws_toUnitS_0, hi, ha, at_of ha, hwi, Unit.enc, c_laws_toUnit a, fillR_at _ _ hi, hset]
    exact hN _ s (by simp) trivial
  · intro N E s _ hE
    simp [bodyF, b_laws_toUnitS_0]
    refine hE _ _ fun st => ?_
    simp [fillR_end]
theorem c_laws_toRules (r : Rules) (hl : LenR r) : C n_laws_toRules [RulesV false r] = some (RulesV true r) := by
  refine callC p_laws_toRules rfl ?_
  simp [xRun, a_laws_toRules, c_laws_toTerrainS _ hl.ts hl.t, c_laws_toKindS _ hl.ks]
theorem c_laws_toMap (m : Map) (hl : LenM m) : C n_laws_toMap [MapV false m] = some (MapV true m) := by
  refine callC p_laws_toMap rfl ?_
  simp [xRun, a_laws_toMap, c_laws_toIntS _ hl.t, c_laws_toIntS _ hl.v, c_laws_toIntS _ hl.d]
theorem c_laws_toBoard (b : Board) (hl : LenB b) : C n_laws_toBoard [BoardV false b] = some (BoardV true b) := by
  refine callC p_laws_toBoard rfl ?_
  simp [xRun, a_laws_toBoard, c_laws_toRules _ hl.r, c_laws_toMap _ hl.m]
theorem c_laws_toState (s : State) (hl : Len s.units.length) : C n_laws_toState [StateV false s] = some (StateV true s) := by
  refine callC p_laws_toState rfl ?_
  simp [xRun, a_laws_toState, c_laws_toUnitS _ hl]
theorem c_laws_eqTerrain (t : Terrain) (hl : LenT t) : C n_laws_eqTerrain [TerrainV false t, TerrainV false t] = some (Bo true) := by
  refine callC p_laws_eqTerrain rfl ?_
  simp [xRun, a_laws_eqTerrain, c_laws_eqIntS t.cost hl.2]
theorem c_laws_eqKind (t : Kind) : C n_laws_eqKind [KindV t, KindV t] = some (Bo true) := by
  refine callC p_laws_eqKind rfl ?_
  simp [xRun, a_laws_eqKind]
theorem c_laws_eqUnit (t : Unit) : C n_laws_eqUnit [UnitV t, UnitV t] = some (Bo true) := by
  refine callC p_laws_eqUnit rfl ?_
  simp [xRun, a_laws_eqUnit]
theorem c_laws_eqTerrainS (l : List Terrain) (hl : Len l.length) (hls : ∀ t ∈ l, LenT t) : C n_laws_eqTerrainS [Rows false 5 (l.map (Terrain.enc false)), Rows false 5 (l.map (Terrain.enc false))] = some (Bo true) := by
  refine callC p_laws_eqTerrainS rfl ?_
  simp [xRun, a_laws_eqTerrainS]
  refine list_loop l (by unfold Len at hl; omega) (fun i (_ : Unit) => [(5, I i)]) (fun _ _ => True) default (by simp) trivial ?_ ?_
  · intro N E i a s ha hi hm ht hwi _ hN hE
    simp [bodyF, b_laws_eqTerrainS_0, hi, ha, at_of ha, hwi, Terrain.enc, c_laws_eqTerrain a (hls a hm)]
    exact hN _ s (by simp) trivial
  · intro N E s _ hE
    simp [bodyF, b_laws_eqTerrainS_0]
    exact hE _ _ fun st => by simp
theorem c_laws_eqKindS (l : List Kind) (hl : Len l.length) : C n_laws_eqKindS [Rows false 6 (l.map Kind.enc), Rows false 6 (l.map Kind.enc)] = some (Bo true) := by
  refine callC p_laws_eqKindS rfl ?_
  simp [xRun, a_laws_eqKindS]
  refine list_loop l (by unfold Len at hl; omega) (fun i (_ : Unit) => [(5, I i)]) (fun _ _ => True) default (by simp) trivial ?_ ?_
  · intro N E i a s ha hi hm ht hwi _ hN hE
    simp [bodyF, b_laws_eqKindS_0, hi, ha, at_of ha, hwi, Kind.enc, c_laws_eqKind a]
    exact hN _ s (by simp) trivial
  · intro N E s _ hE
    simp [bodyF, b_laws_eqKindS_0]
    exact hE _ _ fun st => by simp
theorem c_laws_eqUnitS (l : List Unit) (hl : Len l.length) : C n_laws_eqUnitS [Rows false 4 (l.map Unit.enc), Rows false 4 (l.map Unit.enc)] = some (Bo true) := by
  refine callC p_laws_eqUnitS rfl ?_
  simp [xRun, a_laws_eqUnitS]
  refine list_loop l (by unfold Len at hl; omega) (fun i (_ : Unit) => [(5, I i)]) (fun _ _ => True) default (by simp) trivial ?_ ?_
  · intro N E i a s ha hi hm ht hwi _ hN hE
    simp [bodyF, b_laws_eqUnitS_0, hi, ha, at_of ha, hwi, Unit.enc, c_laws_eqUnit a]
    exact hN _ s (by simp) trivial
  · intro N E s _ hE
    simp [bodyF, b_laws_eqUnitS_0]
    exact hE _ _ fun st => by simp
theorem c_laws_eqRules (r : Rules) (hl : LenR r) : C n_laws_eqRules [RulesV false r, RulesV false r] = some (Bo true) := by
  refine callC p_laws_eqRules rfl ?_
  simp [xRun, a_laws_eqRules, c_laws_eqTerrainS _ hl.ts hl.t, c_laws_eqKindS _ hl.ks]
theorem c_laws_eqMap (m : Map) (hl : LenM m) : C n_laws_eqMap [MapV false m, MapV false m] = some (Bo true) := by
  refine callC p_laws_eqMap rfl ?_
  simp [xRun, a_laws_eqMap, c_laws_eqIntS _ hl.t, c_laws_eqIntS _ hl.v, c_laws_eqIntS _ hl.d]
theorem c_laws_eqBoard (b : Board) (hl : LenB b) : C n_laws_eqBoard [BoardV false b, BoardV false b] = some (Bo true) := by
  refine callC p_laws_eqBoard rfl ?_
  simp [xRun, a_laws_eqBoard, c_laws_eqRules _ hl.r, c_laws_eqMap _ hl.m]
theorem c_laws_eqState (s : State) (hl : Len s.units.length) : C n_laws_eqState [StateV false s, StateV false s] = some (Bo true) := by
  refine callC p_laws_eqState rfl ?_
  simp [xRun, a_laws_eqState, c_laws_eqUnitS _ hl]
end Go.Abs.W
set_option linter.unusedSimpArgs false
set_option linter.unusedVariables false
set_option maxRecDepth 100000
namespace Go.Abs.W
open Go Go.Abs Classical
theorem ints_get {l : List Int} {i : Nat} {n : Int} (h : l[i]? = some n) : ∀ h' : i < (ints l).length, (ints l)[i]'h' = [D.int .i64 n] := fun _ => (List.getElem?_eq_some_iff.1 (ints_at h)).2
@[simp] theorem c_spec_l1In (n lo hi : Int) : C n_spec_l1In [I n, I lo, I hi] = some (Bo (decide (lo ≤ n ∧ n ≤ hi))) := by
  refine callC p_spec_l1In rfl ?_
  by_cases h1 : lo ≤ n <;> by_cases h2 : n ≤ hi <;> simp [xRun, a_spec_l1In, h1, h2]
@[simp] theorem c_impl_inRange (n lo hi : Int) : C n_impl_inRange [I n, I lo, I hi] = some (Bo (decide (lo ≤ n ∧ n ≤ hi))) := by
  refine callC p_impl_inRange rfl ?_
  by_cases h1 : lo ≤ n <;> by_cases h2 : n ≤ hi <;> simp [xRun, a_impl_inRange, h1, h2]
theorem c_impl_isIndex (i many : Int) (h0 : 0 ≤ many) (h1 : many ≤ 68719476736) : C n_impl_isIndex [I i, I many] = some (Bo (decide (0 ≤ i ∧ i < many))) := by
  refine callC p_impl_isIndex rfl ?_
  have hw : IntKind.i64.wrap (many - 1) = many - 1 := wrap_small (by omega) (by omega)
  have : (0 ≤ i ∧ i ≤ many - 1) ↔ (0 ≤ i ∧ i < many) := by omega
  simp [xRun, a_impl_isIndex, hw, this]
@[simp] theorem c_impl_isDirection (d : Int) : C n_impl_isDirection [I d] = some (Bo (decide (0 ≤ d ∧ d ≤ 5))) := by
  refine callC p_impl_isDirection rfl ?_
  simp [xRun, a_impl_isDirection]
@[simp] theorem c_impl_isSide (d : Int) : C n_impl_isSide [I d] = some (Bo (decide (0 ≤ d ∧ d ≤ 1))) := by
  refine callC p_impl_isSide rfl ?_
  simp [xRun, a_impl_isSide]
/-- All of them lie from lo to hi. -/
def AllIn (l : List Int) (lo hi : Int) : Prop := ∀ n ∈ l, lo ≤ n ∧ n ≤ hi
theorem c_spec_l1All (l : List Int) (lo hi : Int) (hl : Len l.length) : C n_spec_l1All [Li l, I lo, I hi] = some (Bo (decide (AllIn l lo hi))) := by
  unfold AllIn
  refine callC p_spec_l1All rfl ?_
  simp [xRun, a_spec_l1All, ints_length]
  refine list_loop l (by unfold Len at hl; omega) (fun i (_ : Unit) => [(11, I i)]) (fun i _ => ∀ n ∈ l.take i, lo ≤ n ∧ n ≤ hi) default (by simp) (by simp) ?_ ?_
  · intro N E i a s ha hi' hm ht hwi hs hN hE
    by_cases hc : lo ≤ a ∧ a ≤ hi
    · simp [bodyF, b_spec_l1All_0, hi', ints_length, ints, ha, at_of ha, hwi, hc]
      refine hN _ s (by simp [ints]) fun n hn => ?_
      rw [ht] at hn; simp at hn
      rcases hn with hn | rfl
      · exact hs n hn
      · exact hc
    · simp [bodyF, b_spec_l1All_0, hi', ints_length, ints, ha, at_of ha, hwi, hc]
      refine hE _ _ fun st => ?_
      simp
      exact ⟨a, hm, fun h => by omega⟩
  · intro N E s hs hE
    rw [List.take_length] at hs
    simp [bodyF, b_spec_l1All_0, ints_length]
    refine hE _ _ fun st => ?_
    simpa using hs
/-- Strictly increasing. -/
def Inc (l : List Int) : Prop := ∀ (i : Nat) a b, l[i]? = some a → l[i + 1]? = some b → a < b
theorem c_spec_l1Rising (l : List Int) (lo hi : Int) (hl : Len l.length) : C n_spec_l1Rising [Li l, I lo, I hi] = some (Bo (decide (AllIn l lo hi ∧ Inc l))) := by
  unfold AllIn
  refine callC p_spec_l1Rising rfl ?_
  simp [xRun, a_spec_l1Rising, ints_length]
  refine list_loop l (by unfold Len at hl; omega) (fun i (_ : Unit) => [(11, I i)]) (fun i _ => (∀ n ∈ l.take i, lo ≤ n ∧ n ≤ hi) ∧ ∀ (j : Nat) a b, j + 1 < i → l[j]? = some a → l[j + 1]? = some b → a < b) default (by simp) (by simp) ?_ ?_
  · intro N E i a s ha hi' hm ht hwi ⟨hs1, hs2⟩ hN hE
    by_cases hc : lo ≤ a ∧ a ≤ hi
    · have hall : ∀ n ∈ l.take (i + 1), lo ≤ n ∧ n ≤ hi := by
        intro n hn
        rw [ht] at hn; simp at hn
        rcases hn with hn | rfl
        · exact hs1 n hn
        · exact hc
      by_cases h0 : i = 0
      · subst h0
        have hw1 : IntKind.i64.wrap 1 = 1 := by simpa using hwi
        simp [bodyF, b_spec_l1Rising_0, hi', ints_length, ints, ha, at_of ha, hc, hw1]
        exact hN _ s (by simp [ints]) ⟨hall, fun j a b hj => by omega⟩
      · obtain ⟨k, rfl⟩ : ∃ k, i = k + 1 := ⟨i - 1, by omega⟩
        obtain ⟨b, hb⟩ : ∃ b, l[k]? = some b := ⟨l[k], by simp⟩
        generalize hii : k + 1 = i at *
        have hw : IntKind.i64.wrap ((i : Int) - 1) = (k : Int) := by rw [wrap_small (by omega) (by unfold Len at hl; omega)]; omega
        have hk : k < l.length := by omega
        have hp : 0 < i := by omega
        by_cases hd : a ≤ b
        · simp [bodyF, b_spec_l1Rising_0, hi', ints_length, ints, ha, at_of ha, hc, hw, hk, hb, at_of hb, hd, hp, hwi]
          refine hE _ _ fun st => ?_
          simp
          intro _ hinc
          have := hinc k b a hb (by rw [hii]; exact ha)
          omega
        · simp [bodyF, b_spec_l1Rising_0, hi', ints_length, ints, ha, at_of ha, hc, hw, hk, hb, at_of hb, hd, hp, hwi]
          refine hN _ s (by simp [ints]) ⟨hall, fun j x y hj hx hy => ?_⟩
          by_cases hji : j = k
          · subst hji
            rw [hb] at hx; rw [hii, ha] at hy
            obtain rfl := Option.some.inj hx; obtain rfl := Option.some.inj hy
            omega
          · exact hs2 j x y (by omega) hx hy
    · simp [bodyF, b_spec_l1Rising_0, hi', ints_length, ints, ha, at_of ha, hwi, hc]
      refine hE _ _ fun st => ?_
      simp
      intro h
      exact absurd (h a hm) hc
  · intro N E s ⟨hs1, hs2⟩ hE
    rw [List.take_length] at hs1
    simp [bodyF, b_spec_l1Rising_0, ints_length]
    refine hE _ _ fun st => ?_
    simp
    exact ⟨hs1, fun i a b h1 h2 => hs2 i a b (by have := (List.getElem?_eq_some_iff.1 h2).1; omega) h1 h2⟩
theorem c_impl_increasing (l : List Int) (hl : Len l.length) : C n_impl_increasing [Li l] = some (Bo (decide (Inc l))) := by
  refine callC p_impl_increasing rfl ?_
  simp [xRun, a_impl_increasing, ints_length]
  refine while_loop (fun i : Nat => [(3, I (i : Int))]) (fun i => 1 ≤ i ∧ ∀ (j : Nat) a b, j + 1 < i → l[j]? = some a → l[j + 1]? = some b → a < b) (fun i => l.length + 1 - i) 1 (by simp) (by simp) ?_
  intro N E i ⟨hi1, hs⟩ hN hE
  by_cases hi : i < l.length
  · obtain ⟨k, hk⟩ : ∃ k, k + 1 = i := ⟨i - 1, by omega⟩
    obtain ⟨b, hb⟩ : ∃ b, l[k]? = some b := ⟨l[k], by simp⟩
    obtain ⟨a, ha⟩ : ∃ a, l[i]? = some a := ⟨l[i], by simp⟩
    have hw : IntKind.i64.wrap ((i : Int) - 1) = (k : Int) := by rw [wrap_small (by omega) (by unfold Len at hl; omega)]; omega
    have hw2 : IntKind.i64.wrap ((i : Int) + 1) = ((i + 1 : Nat) : Int) := by rw [wrap_small (by omega) (by unfold Len at hl; omega)]; omega
    have hk2 : k < l.length := by omega
    by_cases hd : a ≤ b
    · simp [bodyF, b_impl_increasing_0, hi, ints_length, ints, ha, at_of ha, hw, hk2, hb, at_of hb, hd]
      refine hE _ _ fun st => ?_
      have : ¬ Inc l := fun hinc => by have := hinc k b a hb (by rw [hk]; exact ha); omega
      simp [this]
    · simp [bodyF, b_impl_increasing_0, hi, ints_length, ints, ha, at_of ha, hw, hk2, hb, at_of hb, hd, hw2]
      refine hN _ (i + 1) (by simp [ints]) ⟨by omega, fun j x y hj hx hy => ?_⟩ (by omega)
      by_cases hji : j = k
      · subst hji
        rw [hb] at hx; rw [hk, ha] at hy
        obtain rfl := Option.some.inj hx; obtain rfl := Option.some.inj hy
        omega
      · exact hs j x y (by omega) hx hy
  · simp [bodyF, b_impl_increasing_0, hi, ints_length]
    refine hE _ _ fun st => ?_
    have : Inc l := fun j x y hx hy => hs j x y (by have := (List.getElem?_eq_some_iff.1 hy).1; omega) hx hy
    simp [this]
theorem c_spec_l1Has (l : List Int) (n : Int) (hl : Len l.length) : C n_spec_l1Has [Li l, I n] = some (Bo (decide (n ∈ l))) := by
  refine callC p_spec_l1Has rfl ?_
  simp [xRun, a_spec_l1Has, ints_length]
  refine find_loop l (by unfold Len at hl; omega) 9 (fun a => a = n) (by simp) ?_ ?_
  · intro N E i a ha hi hm hwi hs hN hE
    by_cases hc : a = n
    · subst hc
      simp [bodyF, b_spec_l1Has_0, hi, ints_length, ints, ha, at_of ha]
      exact hE _ _ fun st => by simp [hm]
    · simp [bodyF, b_spec_l1Has_0, hi, ints_length, ints, ha, at_of ha, hwi, hc]
      exact hN _ (by simp [ints]) hc
  · intro N E hs hE
    simp [bodyF, b_spec_l1Has_0, ints_length]
    refine hE _ _ fun st => ?_
    have : n ∉ l := fun h => hs n h rfl
    simp [this]
/-- The index of the first element that p holds of, or -1. -/
noncomputable def firstIx {α : Type} (p : α → Prop) (l : List α) : Int := match l.findIdx? (fun a => decide (p a)) with
  | some i => i
  | none => -1
theorem firstIx_at {α : Type} {p : α → Prop} {l : List α} {i : Nat} {a : α} (ha : l[i]? = some a) (hp : p a) (hs : ∀ b ∈ l.take i, ¬ p b) : firstIx p l = i := by
  have hi := (List.getElem?_eq_some_iff.1 ha).1
  have : l.findIdx? (fun a => decide (p a)) = some i := by
    rw [List.findIdx?_eq_some_iff_getElem]
    refine ⟨hi, by simp [at_of ha, hp], fun j hj => ?_⟩
    have := hs (l[j]'(by omega)) (by rw [List.mem_take_iff_getElem]; exact ⟨j, by omega, rfl⟩)
    simpa using this
  simp [firstIx, this]
theorem firstIx_none {α : Type} {p : α → Prop} {l : List α} (hs : ∀ b ∈ l, ¬ p b) : firstIx p l = -1 := by
  have : l.findIdx? (fun a => decide (p a)) = none := by rw [List.findIdx?_eq_none_iff]; simpa using hs
  simp [firstIx, this]
theorem firstIx_neg {α : Type} {p : α → Prop} {l : List α} : firstIx p l < 0 ↔ ∀ b ∈ l, ¬ p b := by
  unfold firstIx
  cases h : l.findIdx? (fun a => decide (p a)) with
  | none => rw [List.findIdx?_eq_none_iff] at h; simp; simpa using h
  | some i =>
    rw [List.findIdx?_eq_some_iff_getElem] at h
    obtain ⟨hi, h1, _⟩ := h
    simp only [iff_def]
    refine ⟨fun hh => by simp at hh, fun hh => absurd (by simpa using h1) (hh _ (List.getElem_mem hi))⟩
theorem c_slices_Index_int_int (l : List Int) (n : Int) (hl : Len l.length) : C n_slices_Index_int_int [Li l, I n] = some (I (firstIx (fun a => a = n) l)) := by
  refine callC p_slices_Index_int_int rfl ?_
  simp [xRun, a_slices_Index_int_int, ints_length]
  refine find_loop l (by unfold Len at hl; omega) 8 (fun a => a = n) (by simp) ?_ ?_
  · intro N E i a ha hi hm hwi hs hN hE
    by_cases hc : a = n
    · subst hc
      simp [bodyF, b_slices_Index_int_int_0, hi, ints_length, ints, ha, at_of ha]
      refine hE _ _ fun st => ?_
      rw [firstIx_at (p := fun x => x = a) ha rfl hs]
      simp
    · have hc' : ¬ n = a := fun h => hc h.symm
      simp [bodyF, b_slices_Index_int_int_0, hi, ints_length, ints, ha, at_of ha, hwi, hc']
      exact hN _ (by simp [ints]) hc
  · intro N E hs hE
    simp [bodyF, b_slices_Index_int_int_0, ints_length]
    refine hE _ _ fun st => ?_
    rw [firstIx_none hs]
    simp
theorem c_slices_Contains_int_int (l : List Int) (n : Int) (hl : Len l.length) : C n_slices_Contains_int_int [Li l, I n] = some (Bo (decide (n ∈ l))) := by
  refine callC p_slices_Contains_int_int rfl ?_
  simp [xRun, a_slices_Contains_int_int, c_slices_Index_int_int l n hl]
  have := firstIx_neg (p := fun a => a = n) (l := l)
  rw [show (0 ≤ firstIx (fun a => a = n) l ↔ n ∈ l) by
    rw [← Int.not_lt, this]; simp]
end Go.Abs.W
set_option linter.unusedSimpArgs false
set_option linter.unusedVariables false
set_option maxRecDepth 100000
namespace Go.Abs.W
open Go Go.Abs Classical
attribute [-simp] Bool.decide_and
def NameOK (s : ByteArray) : Prop := (∀ b ∈ s.data.toList, 97 ≤ b.toNat ∧ b.toNat ≤ 122) ∧ 1 ≤ (s.size : Int) ∧ (s.size : Int) ≤ 8
theorem bytes_len (s : ByteArray) : s.data.toList.length = s.size := by simp
theorem byte_at {s : ByteArray} {i : Nat} {n : UInt8} (h : s.data.toList[i]? = some n) : ∀ h, s.data[i]'h = n := by
  intro h'; rw [← Array.getElem_toList]; exact (List.getElem?_eq_some_iff.1 h).2
theorem c_spec_rName (s : ByteArray) (hl : Len s.size) : C n_spec_rName [St s] = some (Bo (decide (NameOK s))) := by
  refine callC p_spec_rName rfl ?_
  simp [xRun, a_spec_rName]
  refine find_loop s.data.toList (by rw [bytes_len]; unfold Len at hl; omega) 3 (fun b => ¬ (97 ≤ b.toNat ∧ b.toNat ≤ 122)) (by simp) ?_ ?_
  · intro N E i a ha hi hm hwi hs hN hE
    have hi2 : i < s.size := by rw [← bytes_len]; exact hi
    by_cases hc : 97 ≤ a.toNat ∧ a.toNat ≤ 122
    · have h1 : ¬ ((a.toNat : Int) < 97) := by omega
      have h2 : ¬ ((122 : Int) < a.toNat) := by omega
      simp [bodyF, b_spec_rName_0, hi2, byte_at ha, h1, h2, hwi]
      exact hN _ (by simp) (by simpa using hc)
    · have hno : ¬ NameOK s := fun h => hc (h.1 a hm)
      by_cases h1 : (a.toNat : Int) < 97
      · simp [bodyF, b_spec_rName_0, hi2, byte_at ha, h1]
        exact hE _ _ fun st => by simp [hno]
      · have h2 : (122 : Int) < a.toNat := by omega
        simp [bodyF, b_spec_rName_0, hi2, byte_at ha, h1, h2]
        exact hE _ _ fun st => by simp [hno]
  · intro N E hs hE
    rw [bytes_len]
    simp [bodyF, b_spec_rName_0]
    refine hE _ _ fun st => ?_
    have he : (1 ≤ (s.size : Int) ∧ (s.size : Int) ≤ 8) ↔ NameOK s := ⟨fun h => ⟨fun b hb => Classical.not_not.1 (hs b hb), h⟩, fun h => h.2⟩
    simp [he]
theorem c_impl_isName (s : ByteArray) (hl : Len s.size) : C n_impl_isName [St s] = some (Bo (decide (NameOK s))) := by
  refine callC p_impl_isName rfl ?_
  simp [xRun, a_impl_isName]
  refine find_loop s.data.toList (by rw [bytes_len]; unfold Len at hl; omega) 3 (fun b => ¬ (97 ≤ b.toNat ∧ b.toNat ≤ 122)) (by simp) ?_ ?_
  · intro N E i a ha hi hm hwi hs hN hE
    have hi2 : i < s.size := by rw [← bytes_len]; exact hi
    by_cases hc : 97 ≤ a.toNat ∧ a.toNat ≤ 122
    · have h1 : ¬ ((a.toNat : Int) < 97) := by omega
      have h2 : ¬ ((122 : Int) < a.toNat) := by omega
      simp [bodyF, b_impl_isName_0, hi2, byte_at ha, h1, h2, hwi]
      exact hN _ (by simp) (by simpa using hc)
    · have hno : ¬ NameOK s := fun h => hc (h.1 a hm)
      by_cases h1 : (a.toNat : Int) < 97
      · simp [bodyF, b_impl_isName_0, hi2, byte_at ha, h1]
        exact hE _ _ fun st => by simp [hno]
      · have h2 : (122 : Int) < a.toNat := by omega
        simp [bodyF, b_impl_isName_0, hi2, byte_at ha, h1, h2]
        exact hE _ _ fun st => by simp [hno]
  · intro N E hs hE
    rw [bytes_len]
    simp [bodyF, b_impl_isName_0]
    refine hE _ _ fun st => ?_
    have he : (1 ≤ (s.size : Int) ∧ (s.size : Int) ≤ 8) ↔ NameOK s := ⟨fun h => ⟨fun b hb => Classical.not_not.1 (hs b hb), h⟩, fun h => h.2⟩
    simp [he]
theorem c_spec_rTerrain (l : List Terrain) (s : ByteArray) (hl : Len l.length) : C n_spec_rTerrain [Rows false 5 (l.map (Terrain.enc false)), St s] = some (I (firstIx (fun t => t.name = s) l)) := by
  refine callC p_spec_rTerrain rfl ?_
  simp [xRun, a_spec_rTerrain]
  refine find_loop l (by unfold Len at hl; omega) 9 (fun t => t.name = s) (by simp) ?_ ?_
  · intro N E i a ha hi hm hwi hs hN hE
    by_cases hc : a.name = s
    · subst hc
      simp [bodyF, b_spec_rTerrain_0, hi, Terrain.enc, ha, at_of ha]
      refine hE _ _ fun st => ?_
      rw [firstIx_at (p := fun x => x.name = a.name) ha rfl hs]
      simp
    · simp [bodyF, b_spec_rTerrain_0, hi, Terrain.enc, ha, at_of ha, hwi, hc]
      exact hN _ (by simp) hc
  · intro N E hs hE
    simp [bodyF, b_spec_rTerrain_0]
    refine hE _ _ fun st => ?_
    rw [firstIx_none hs]
    simp
theorem c_spec_rKind (l : List Kind) (s : ByteArray) (hl : Len l.length) : C n_spec_rKind [Rows false 6 (l.map Kind.enc), St s] = some (I (firstIx (fun t => t.name = s) l)) := by
  refine callC p_spec_rKind rfl ?_
  simp [xRun, a_spec_rKind]
  refine find_loop l (by unfold Len at hl; omega) 9 (fun t => t.name = s) (by simp) ?_ ?_
  · intro N E i a ha hi hm hwi hs hN hE
    by_cases hc : a.name = s
    · subst hc
      simp [bodyF, b_spec_rKind_0, hi, Kind.enc, ha, at_of ha]
      refine hE _ _ fun st => ?_
      rw [firstIx_at (p := fun x => x.name = a.name) ha rfl hs]
      simp
    · simp [bodyF, b_spec_rKind_0, hi, Kind.enc, ha, at_of ha, hwi, hc]
      exact hN _ (by simp) hc
  · intro N E hs hE
    simp [bodyF, b_spec_rKind_0]
    refine hE _ _ fun st => ?_
    rw [firstIx_none hs]
    simp
theorem c_slices_IndexFunc_Terrain (l : List Terrain) (f : FuncId) (cs : List (List D)) (p : Terrain → Prop) [DecidablePred p] (hl : Len l.length) (hf : ∀ t, C f (TerrainV false t :: cs.map .rp) = some (Bo (decide (p t)))) :
    C n_slices_IndexFunc_impl_Terrain_impl_Terrain [Rows false 5 (l.map (Terrain.enc false)), .clo f cs] = some (I (firstIx p l)) := by
  refine callC p_slices_IndexFunc_impl_Terrain_impl_Terrain rfl ?_
  simp [xRun, a_slices_IndexFunc_impl_Terrain_impl_Terrain]
  refine find_loop l (by unfold Len at hl; omega) 8 p (by simp) ?_ ?_
  · intro N E i a ha hi hm hwi hs hN hE
    by_cases hc : p a
    · simp [bodyF, b_slices_IndexFunc_impl_Terrain_impl_Terrain_0, hi, Terrain.enc, ha, at_of ha, hf, hc]
      refine hE _ _ fun st => ?_
      rw [firstIx_at ha hc hs]
      simp
    · simp [bodyF, b_slices_IndexFunc_impl_Terrain_impl_Terrain_0, hi, Terrain.enc, ha, at_of ha, hwi, hf, hc]
      exact hN _ (by simp) hc
  · intro N E hs hE
    simp [bodyF, b_slices_IndexFunc_impl_Terrain_impl_Terrain_0]
    refine hE _ _ fun st => ?_
    rw [firstIx_none hs]
    simp
theorem c_slices_IndexFunc_Kind (l : List Kind) (f : FuncId) (cs : List (List D)) (p : Kind → Prop) [DecidablePred p] (hl : Len l.length) (hf : ∀ t, C f (KindV t :: cs.map .rp) = some (Bo (decide (p t)))) :
    C n_slices_IndexFunc_impl_Kind_impl_Kind [Rows false 6 (l.map Kind.enc), .clo f cs] = some (I (firstIx p l)) := by
  refine callC p_slices_IndexFunc_impl_Kind_impl_Kind rfl ?_
  simp [xRun, a_slices_IndexFunc_impl_Kind_impl_Kind]
  refine find_loop l (by unfold Len at hl; omega) 8 p (by simp) ?_ ?_
  · intro N E i a ha hi hm hwi hs hN hE
    by_cases hc : p a
    · simp [bodyF, b_slices_IndexFunc_impl_Kind_impl_Kind_0, hi, Kind.enc, ha, at_of ha, hf, hc]
      refine hE _ _ fun st => ?_
      rw [firstIx_at ha hc hs]
      simp
    · simp [bodyF, b_slices_IndexFunc_impl_Kind_impl_Kind_0, hi, Kind.enc, ha, at_of ha, hwi, hf, hc]
      exact hN _ (by simp) hc
  · intro N E hs hE
    simp [bodyF, b_slices_IndexFunc_impl_Kind_impl_Kind_0]
    refine hE _ _ fun st => ?_
    rw [firstIx_none hs]
    simp
theorem c_slices_IndexFunc_int (l : List Int) (f : FuncId) (cs : List (List D)) (p : Int → Prop) [DecidablePred p] (hl : Len l.length) (hf : ∀ t, C f (I t :: cs.map .rp) = some (Bo (decide (p t)))) :
    C n_slices_IndexFunc_int_int [Li l, .clo f cs] = some (I (firstIx p l)) := by
  refine callC p_slices_IndexFunc_int_int rfl ?_
  simp [xRun, a_slices_IndexFunc_int_int, ints_length]
  refine find_loop l (by unfold Len at hl; omega) 8 p (by simp) ?_ ?_
  · intro N E i a ha hi hm hwi hs hN hE
    by_cases hc : p a
    · simp [bodyF, b_slices_IndexFunc_int_int_0, hi, ints_length, ints, ha, at_of ha, hf, hc]
      refine hE _ _ fun st => ?_
      rw [firstIx_at ha hc hs]
      simp
    · simp [bodyF, b_slices_IndexFunc_int_int_0, hi, ints_length, ints, ha, at_of ha, hwi, hf, hc]
      exact hN _ (by simp [ints]) hc
  · intro N E hs hE
    simp [bodyF, b_slices_IndexFunc_int_int_0, ints_length]
    refine hE _ _ fun st => ?_
    rw [firstIx_none hs]
    simp
theorem firstIx_pos {α : Type} {p : α → Prop} {l : List α} : 0 ≤ firstIx p l ↔ ∃ b ∈ l, p b := by
  rw [← Int.not_lt, firstIx_neg]; simp
theorem c_slices_ContainsFunc_int (l : List Int) (f : FuncId) (cs : List (List D)) (p : Int → Prop) [DecidablePred p] (hl : Len l.length) (hf : ∀ t, C f (I t :: cs.map .rp) = some (Bo (decide (p t)))) :
    C n_slices_ContainsFunc_int_int [Li l, .clo f cs] = some (Bo (decide (∃ b ∈ l, p b))) := by
  refine callC p_slices_ContainsFunc_int_int rfl ?_
  simp only [xRun, a_slices_ContainsFunc_int_int]
  simp [c_slices_IndexFunc_int l f cs p hl hf, firstIx_pos]
theorem c_impl_terrainIndex (l : List Terrain) (s : ByteArray) (hl : Len l.length) : C n_impl_terrainIndex [Rows false 5 (l.map (Terrain.enc false)), St s] = some (I (firstIx (fun t => t.name = s) l)) := by
  have hf : ∀ t, C n_impl_terrainIndex_1 (TerrainV false t :: [[.str s]].map .rp) = some (Bo (decide (t.name = s))) := by
    intro t
    refine callC p_impl_terrainIndex_1 rfl ?_
    simp [xRun, a_impl_terrainIndex_1]
  refine callC p_impl_terrainIndex rfl ?_
  simp [xRun, a_impl_terrainIndex, c_slices_IndexFunc_Terrain l _ _ (fun t => t.name = s) hl hf]
theorem c_impl_kindIndex (l : List Kind) (s : ByteArray) (hl : Len l.length) : C n_impl_kindIndex [Rows false 6 (l.map Kind.enc), St s] = some (I (firstIx (fun t => t.name = s) l)) := by
  have hf : ∀ t, C n_impl_kindIndex_1 (KindV t :: [[.str s]].map .rp) = some (Bo (decide (t.name = s))) := by
    intro t
    refine callC p_impl_kindIndex_1 rfl ?_
    simp [xRun, a_impl_kindIndex_1]
  refine callC p_impl_kindIndex rfl ?_
  simp [xRun, a_impl_kindIndex, c_slices_IndexFunc_Kind l _ _ (fun t => t.name = s) hl hf]
end Go.Abs.W
set_option linter.unusedSimpArgs false
set_option linter.unusedVariables false
set_option maxRecDepth 100000
set_option maxHeartbeats 2000000
namespace Go.Abs.W
open Go Go.Abs Classical
attribute [-simp] Bool.decide_and
structure TerrOK (t : Terrain) (n : Nat) : Prop where
  name : NameOK t.name
  len : (t.cost.length : Int) = n
  cost : AllIn t.cost 0 9
  shift : -3 ≤ t.shift ∧ t.shift ≤ 3
  height : 0 ≤ t.height ∧ t.height ≤ 3
structure KindOK (k : Kind) : Prop where
  name : NameOK k.name
  strength : 1 ≤ k.strength ∧ k.strength ≤ 9
  moves : 0 ≤ k.moves ∧ k.moves ≤ 9
  steps : 1 ≤ k.steps ∧ k.steps ≤ 4
  view : 0 ≤ k.view ∧ k.view ≤ 4
theorem not_ex {α : Type} {l : List α} {p : α → Prop} [DecidablePred p] : decide (∃ b ∈ l, ¬ p b) = !decide (∀ b ∈ l, p b) := by
  rw [← decide_not, decide_eq_decide]
  constructor
  · rintro ⟨b, hb, hp⟩ h; exact hp (h b hb)
  · intro h; exact Classical.byContradiction fun hn => h fun b hb => Classical.byContradiction fun hp => hn ⟨b, hb, hp⟩
theorem c_impl_goodTerrain_1 (c : Int) : C n_impl_goodTerrain_1 (I c :: ([] : List (List D)).map .rp) = some (Bo (decide (¬ (0 ≤ c ∧ c ≤ 9)))) := by
  refine callC p_impl_goodTerrain_1 rfl ?_
  by_cases h : 0 ≤ c ∧ c ≤ 9 <;> simp [xRun, a_impl_goodTerrain_1, h]
theorem c_impl_goodTerrain (t : Terrain) (n : Nat) (hl : LenT t) : C n_impl_goodTerrain [TerrainV false t, I n] = some (Bo (decide (TerrOK t n))) := by
  refine callC p_impl_goodTerrain rfl ?_
  have h0 := c_slices_ContainsFunc_int t.cost n_impl_goodTerrain_1 [] _ hl.2 c_impl_goodTerrain_1
  rw [show decide (∃ b ∈ t.cost, ¬(0 ≤ b ∧ b ≤ 9)) = !decide (AllIn t.cost 0 9) by rw [not_ex (p := fun b => 0 ≤ b ∧ b ≤ 9)]; congr 1; exact decide_eq_decide.2 Iff.rfl] at h0
  by_cases h1 : NameOK t.name
  rotate_left
  · have hP : ¬ TerrOK t n := fun h => h1 (h.name)
    simp [xRun, a_impl_goodTerrain, c_impl_isName t.name hl.1, ints_length, h0, h1, hP]
  by_cases h2 : (t.cost.length : Int) = n
  rotate_left
  · have hP : ¬ TerrOK t n := fun h => h2 (h.len)
    simp [xRun, a_impl_goodTerrain, c_impl_isName t.name hl.1, ints_length, h0, h1, h2, hP]
  by_cases h3 : -3 ≤ t.shift ∧ t.shift ≤ 3
  rotate_left
  · have hP : ¬ TerrOK t n := fun h => h3 (h.shift)
    simp [xRun, a_impl_goodTerrain, c_impl_isName t.name hl.1, ints_length, h0, h1, h2, h3, hP]
  by_cases h4 : 0 ≤ t.height ∧ t.height ≤ 3
  rotate_left
  · have hP : ¬ TerrOK t n := fun h => h4 (h.height)
    simp [xRun, a_impl_goodTerrain, c_impl_isName t.name hl.1, ints_length, h0, h1, h2, h3, h4, hP]
  by_cases h5 : AllIn t.cost 0 9
  rotate_left
  · have hP : ¬ TerrOK t n := fun h => h5 (h.cost)
    simp [xRun, a_impl_goodTerrain, c_impl_isName t.name hl.1, ints_length, h0, h1, h2, h3, h4, h5, hP]
  have hP : TerrOK t n := ⟨h1, h2, h5, h3, h4⟩
  simp [xRun, a_impl_goodTerrain, c_impl_isName t.name hl.1, ints_length, h0, h1, h2, h3, h4, h5, hP]
theorem c_impl_goodKind (k : Kind) (hl : Len k.name.size) : C n_impl_goodKind [KindV k] = some (Bo (decide (KindOK k))) := by
  refine callC p_impl_goodKind rfl ?_
  by_cases h1 : NameOK k.name
  rotate_left
  · have hP : ¬ KindOK k := fun h => h1 (h.name)
    simp [xRun, a_impl_goodKind, c_impl_isName k.name hl, h1, hP]
  by_cases h2 : 1 ≤ k.strength ∧ k.strength ≤ 9
  rotate_left
  · have hP : ¬ KindOK k := fun h => h2 (h.strength)
    simp [xRun, a_impl_goodKind, c_impl_isName k.name hl, h1, h2, hP]
  by_cases h3 : 0 ≤ k.moves ∧ k.moves ≤ 9
  rotate_left
  · have hP : ¬ KindOK k := fun h => h3 (h.moves)
    simp [xRun, a_impl_goodKind, c_impl_isName k.name hl, h1, h2, h3, hP]
  by_cases h4 : 1 ≤ k.steps ∧ k.steps ≤ 4
  rotate_left
  · have hP : ¬ KindOK k := fun h => h4 (h.steps)
    simp [xRun, a_impl_goodKind, c_impl_isName k.name hl, h1, h2, h3, h4, hP]
  by_cases h5 : 0 ≤ k.view ∧ k.view ≤ 4
  rotate_left
  · have hP : ¬ KindOK k := fun h => h5 (h.view)
    simp [xRun, a_impl_goodKind, c_impl_isName k.name hl, h1, h2, h3, h4, h5, hP]
  have hP : KindOK k := ⟨h1, h2, h3, h4, h5⟩
  simp [xRun, a_impl_goodKind, c_impl_isName k.name hl, h1, h2, h3, h4, h5, hP]
structure RulesOK (r : Rules) : Prop where
  ts : 1 ≤ (r.terrains.length : Int) ∧ (r.terrains.length : Int) ≤ 6
  ks : 1 ≤ (r.kinds.length : Int) ∧ (r.kinds.length : Int) ≤ 4
  terr : ∀ (i : Nat) t, r.terrains[i]? = some t → TerrOK t r.kinds.length ∧ firstIx (fun x => x.name = t.name) r.terrains = i
  kind : ∀ (i : Nat) k, r.kinds[i]? = some k → KindOK k ∧ firstIx (fun x => x.name = k.name) r.kinds = i
  stack : 1 ≤ r.stack ∧ r.stack ≤ 4
  river : 0 ≤ r.river ∧ r.river ≤ 9
  road : 1 ≤ r.road ∧ r.road ≤ 9
  supply : 0 ≤ r.supply ∧ r.supply ≤ 20
  turns : 1 ≤ r.turns ∧ r.turns ≤ 30
theorem c_impl_IsRules (r : Rules) (hl : LenR r) : C n_impl_IsRules [RulesV false r] = some (Bo (decide (RulesOK r))) := by
  refine callC p_impl_IsRules rfl ?_
  by_cases g1 : 1 ≤ (r.terrains.length : Int) ∧ (r.terrains.length : Int) ≤ 6
  rotate_left
  · have hP : ¬ RulesOK r := fun h => g1 h.ts
    simp [xRun, a_impl_IsRules, g1, hP]
  by_cases g2 : 1 ≤ (r.kinds.length : Int) ∧ (r.kinds.length : Int) ≤ 4
  rotate_left
  · have hP : ¬ RulesOK r := fun h => g2 h.ks
    simp [xRun, a_impl_IsRules, g1, g2, hP]
  simp [xRun, a_impl_IsRules, g1, g2]
  refine list_loop r.terrains (by omega) (fun i (_ : Unit) => [(22, I i)]) (fun i _ => ∀ (j : Nat) t, j < i → r.terrains[j]? = some t → TerrOK t r.kinds.length ∧ firstIx (fun x => x.name = t.name) r.terrains = j) default (by simp) (by simp) ?_ ?_
  · intro N E i a s ha hi hm ht hwi hs hN hE
    have hg := c_impl_goodTerrain a r.kinds.length (hl.t a hm)
    have hx := c_impl_terrainIndex r.terrains a.name hl.ts
    by_cases h1 : TerrOK a r.kinds.length
    · by_cases h2 : firstIx (fun x => x.name = a.name) r.terrains = i
      · simp [bodyF, b_impl_IsRules_0, hi, ha, at_of ha, Terrain.enc, hg, hx, h1, h2, hwi]
        refine hN _ s (by simp) fun j t hj htj => ?_
        by_cases hji : j = i
        · subst hji; rw [ha] at htj; obtain rfl := Option.some.inj htj; exact ⟨h1, h2⟩
        · exact hs j t (by omega) htj
      · have hP : ¬ RulesOK r := fun h => h2 (h.terr i a ha).2
        simp [bodyF, b_impl_IsRules_0, hi, ha, at_of ha, Terrain.enc, hg, hx, h1, h2]
        exact hE _ _ fun st => by simp [hP]
    · have hP : ¬ RulesOK r := fun h => h1 (h.terr i a ha).1
      simp [bodyF, b_impl_IsRules_0, hi, ha, at_of ha, Terrain.enc, hg, hx, h1]
      exact hE _ _ fun st => by simp [hP]
  intro N E s hs hE
  simp [bodyF, b_impl_IsRules_0]
  refine hE _ _ fun st => ?_
  simp
  refine list_loop r.kinds (by omega) (fun i (_ : Unit) => [(46, I i)]) (fun i _ => ∀ (j : Nat) k, j < i → r.kinds[j]? = some k → KindOK k ∧ firstIx (fun x => x.name = k.name) r.kinds = j) default (by simp) (by simp) ?_ ?_
  · intro N E i a s ha hi hm ht hwi hs hN hE
    have hg := c_impl_goodKind a (hl.k a hm)
    have hx := c_impl_kindIndex r.kinds a.name hl.ks
    by_cases h1 : KindOK a
    · by_cases h2 : firstIx (fun x => x.name = a.name) r.kinds = i
      · simp [bodyF, b_impl_IsRules_1, hi, ha, at_of ha, Kind.enc, hg, hx, h1, h2, hwi]
        refine hN _ s (by simp) fun j t hj htj => ?_
        by_cases hji : j = i
        · subst hji; rw [ha] at htj; obtain rfl := Option.some.inj htj; exact ⟨h1, h2⟩
        · exact hs j t (by omega) htj
      · have hP : ¬ RulesOK r := fun h => h2 (h.kind i a ha).2
        simp [bodyF, b_impl_IsRules_1, hi, ha, at_of ha, Kind.enc, hg, hx, h1, h2]
        exact hE _ _ fun st => by simp [hP]
    · have hP : ¬ RulesOK r := fun h => h1 (h.kind i a ha).1
      simp [bodyF, b_impl_IsRules_1, hi, ha, at_of ha, Kind.enc, hg, hx, h1]
      exact hE _ _ fun st => by simp [hP]
  intro N E s2 hs2 hE
  simp [bodyF, b_impl_IsRules_1]
  refine hE _ _ fun st => ?_
  by_cases h1 : 1 ≤ r.stack ∧ r.stack ≤ 4
  rotate_left
  · have hP : ¬ RulesOK r := fun h => h1 (h.stack)
    simp [h1, hP]
  by_cases h2 : 0 ≤ r.river ∧ r.river ≤ 9
  rotate_left
  · have hP : ¬ RulesOK r := fun h => h2 (h.river)
    simp [h1, h2, hP]
  by_cases h3 : 1 ≤ r.road ∧ r.road ≤ 9
  rotate_left
  · have hP : ¬ RulesOK r := fun h => h3 (h.road)
    simp [h1, h2, h3, hP]
  by_cases h4 : 0 ≤ r.supply ∧ r.supply ≤ 20
  rotate_left
  · have hP : ¬ RulesOK r := fun h => h4 (h.supply)
    simp [h1, h2, h3, h4, hP]
  by_cases h5 : 1 ≤ r.turns ∧ r.turns ≤ 30
  rotate_left
  · have hP : ¬ RulesOK r := fun h => h5 (h.turns)
    simp [h1, h2, h3, h4, h5, hP]
  have hP : RulesOK r := ⟨g1, g2, fun i t h => hs i t (List.getElem?_eq_some_iff.1 h).1 h, fun i t h => hs2 i t (List.getElem?_eq_some_iff.1 h).1 h, h1, h2, h3, h4, h5⟩
  simp [h1, h2, h3, h4, h5, hP]
theorem c_spec_rGood (r : Rules) (hl : LenR r) : C n_spec_rGood [RulesV false r] = some (Bo (decide (RulesOK r))) := by
  refine callC p_spec_rGood rfl ?_
  by_cases g1 : 1 ≤ (r.terrains.length : Int) ∧ (r.terrains.length : Int) ≤ 6
  rotate_left
  · have hP : ¬ RulesOK r := fun h => g1 h.ts
    simp [xRun, a_spec_rGood, g1, hP]
  by_cases g2 : 1 ≤ (r.kinds.length : Int) ∧ (r.kinds.length : Int) ≤ 4
  rotate_left
  · have hP : ¬ RulesOK r := fun h => g2 h.ks
    simp [xRun, a_spec_rGood, g1, g2, hP]
  simp [xRun, a_spec_rGood, g1, g2]
  refine list_loop r.terrains (by omega) (fun i (_ : Unit) => [(22, I i)]) (fun i _ => ∀ (j : Nat) t, j < i → r.terrains[j]? = some t → TerrOK t r.kinds.length ∧ firstIx (fun x => x.name = t.name) r.terrains = j) default (by simp) (by simp) ?_ ?_
  · intro N E i a s ha hi hm ht hwi hs hN hE
    have hg := c_spec_rName a.name (hl.t a hm).1
    have hx := c_spec_rTerrain r.terrains a.name hl.ts
    have hc := c_spec_l1All a.cost 0 9 (hl.t a hm).2
    by_cases h1 : NameOK a.name
    rotate_left
    · have hP : ¬ RulesOK r := fun h => h1 ((h.terr i a ha).1.name)
      simp [bodyF, b_spec_rGood_0, hi, ha, at_of ha, Terrain.enc, hg, hx, hc, hwi, ints_length, h1, hP]
      exact hE _ _ fun st => by simp [hP]
    by_cases h2 : firstIx (fun x => x.name = a.name) r.terrains = i
    rotate_left
    · have hP : ¬ RulesOK r := fun h => h2 ((h.terr i a ha).2)
      simp [bodyF, b_spec_rGood_0, hi, ha, at_of ha, Terrain.enc, hg, hx, hc, hwi, ints_length, h1, h2, hP]
      exact hE _ _ fun st => by simp [hP]
    by_cases h3 : (a.cost.length : Int) = (r.kinds.length : Int)
    rotate_left
    · have hP : ¬ RulesOK r := fun h => h3 ((h.terr i a ha).1.len)
      simp [bodyF, b_spec_rGood_0, hi, ha, at_of ha, Terrain.enc, hg, hx, hc, hwi, ints_length, h1, h2, h3, hP]
      exact hE _ _ fun st => by simp [hP]
    by_cases h4 : AllIn a.cost 0 9
    rotate_left
    · have hP : ¬ RulesOK r := fun h => h4 ((h.terr i a ha).1.cost)
      simp [bodyF, b_spec_rGood_0, hi, ha, at_of ha, Terrain.enc, hg, hx, hc, hwi, ints_length, h1, h2, h3, h4, hP]
      exact hE _ _ fun st => by simp [hP]
    by_cases h5 : -3 ≤ a.shift ∧ a.shift ≤ 3
    rotate_left
    · have hP : ¬ RulesOK r := fun h => h5 ((h.terr i a ha).1.shift)
      simp [bodyF, b_spec_rGood_0, hi, ha, at_of ha, Terrain.enc, hg, hx, hc, hwi, ints_length, h1, h2, h3, h4, h5, hP]
      exact hE _ _ fun st => by simp [hP]
    by_cases h6 : 0 ≤ a.height ∧ a.height ≤ 3
    rotate_left
    · have hP : ¬ RulesOK r := fun h => h6 ((h.terr i a ha).1.height)
      simp [bodyF, b_spec_rGood_0, hi, ha, at_of ha, Terrain.enc, hg, hx, hc, hwi, ints_length, h1, h2, h3, h4, h5, h6, hP]
      exact hE _ _ fun st => by simp [hP]
    simp [bodyF, b_spec_rGood_0, hi, ha, at_of ha, Terrain.enc, hg, hx, hc, hwi, ints_length, h1, h2, h3, h4, h5, h6]
    refine hN _ s (by simp) fun j t hj htj => ?_
    by_cases hji : j = i
    · subst hji; rw [ha] at htj; obtain rfl := Option.some.inj htj; exact ⟨⟨h1, h3, h4, h5, h6⟩, h2⟩
    · exact hs j t (by omega) htj
  intro N E s hs hE
  simp [bodyF, b_spec_rGood_0]
  refine hE _ _ fun st => ?_
  simp
  refine list_loop r.kinds (by omega) (fun i (_ : Unit) => [(71, I i)]) (fun i _ => ∀ (j : Nat) k, j < i → r.kinds[j]? = some k → KindOK k ∧ firstIx (fun x => x.name = k.name) r.kinds = j) default (by simp) (by simp) ?_ ?_
  · intro N E i a s ha hi hm ht hwi hs hN hE
    have hg := c_spec_rName a.name (hl.k a hm)
    have hx := c_spec_rKind r.kinds a.name hl.ks
    by_cases h1 : NameOK a.name
    rotate_left
    · have hP : ¬ RulesOK r := fun h => h1 ((h.kind i a ha).1.name)
      simp [bodyF, b_spec_rGood_1, hi, ha, at_of ha, Kind.enc, hg, hx, hwi, h1, hP]
      exact hE _ _ fun st => by simp [hP]
    by_cases h2 : firstIx (fun x => x.name = a.name) r.kinds = i
    rotate_left
    · have hP : ¬ RulesOK r := fun h => h2 ((h.kind i a ha).2)
      simp [bodyF, b_spec_rGood_1, hi, ha, at_of ha, Kind.enc, hg, hx, hwi, h1, h2, hP]
      exact hE _ _ fun st => by simp [hP]
    by_cases h3 : 1 ≤ a.strength ∧ a.strength ≤ 9
    rotate_left
    · have hP : ¬ RulesOK r := fun h => h3 ((h.kind i a ha).1.strength)
      simp [bodyF, b_spec_rGood_1, hi, ha, at_of ha, Kind.enc, hg, hx, hwi, h1, h2, h3, hP]
      exact hE _ _ fun st => by simp [hP]
    by_cases h4 : 0 ≤ a.moves ∧ a.moves ≤ 9
    rotate_left
    · have hP : ¬ RulesOK r := fun h => h4 ((h.kind i a ha).1.moves)
      simp [bodyF, b_spec_rGood_1, hi, ha, at_of ha, Kind.enc, hg, hx, hwi, h1, h2, h3, h4, hP]
      exact hE _ _ fun st => by simp [hP]
    by_cases h5 : 1 ≤ a.steps ∧ a.steps ≤ 4
    rotate_left
    · have hP : ¬ RulesOK r := fun h => h5 ((h.kind i a ha).1.steps)
      simp [bodyF, b_spec_rGood_1, hi, ha, at_of ha, Kind.enc, hg, hx, hwi, h1, h2, h3, h4, h5, hP]
      exact hE _ _ fun st => by simp [hP]
    by_cases h6 : 0 ≤ a.view ∧ a.view ≤ 4
    rotate_left
    · have hP : ¬ RulesOK r := fun h => h6 ((h.kind i a ha).1.view)
      simp [bodyF, b_spec_rGood_1, hi, ha, at_of ha, Kind.enc, hg, hx, hwi, h1, h2, h3, h4, h5, h6, hP]
      exact hE _ _ fun st => by simp [hP]
    simp [bodyF, b_spec_rGood_1, hi, ha, at_of ha, Kind.enc, hg, hx, hwi, h1, h2, h3, h4, h5, h6]
    refine hN _ s (by simp) fun j t hj htj => ?_
    by_cases hji : j = i
    · subst hji; rw [ha] at htj; obtain rfl := Option.some.inj htj; exact ⟨⟨h1, h3, h4, h5, h6⟩, h2⟩
    · exact hs j t (by omega) htj
  intro N E s2 hs2 hE
  simp [bodyF, b_spec_rGood_1]
  refine hE _ _ fun st => ?_
  by_cases h1 : 1 ≤ r.stack ∧ r.stack ≤ 4
  rotate_left
  · have hP : ¬ RulesOK r := fun h => h1 (h.stack)
    simp [h1, hP]
  by_cases h2 : 0 ≤ r.river ∧ r.river ≤ 9
  rotate_left
  · have hP : ¬ RulesOK r := fun h => h2 (h.river)
    simp [h1, h2, hP]
  by_cases h3 : 1 ≤ r.road ∧ r.road ≤ 9
  rotate_left
  · have hP : ¬ RulesOK r := fun h => h3 (h.road)
    simp [h1, h2, h3, hP]
  by_cases h4 : 0 ≤ r.supply ∧ r.supply ≤ 20
  rotate_left
  · have hP : ¬ RulesOK r := fun h => h4 (h.supply)
    simp [h1, h2, h3, h4, hP]
  by_cases h5 : 1 ≤ r.turns ∧ r.turns ≤ 30
  rotate_left
  · have hP : ¬ RulesOK r := fun h => h5 (h.turns)
    simp [h1, h2, h3, h4, h5, hP]
  have hP : RulesOK r := ⟨g1, g2, fun i t h => hs i t (List.getElem?_eq_some_iff.1 h).1 h, fun i t h => hs2 i t (List.getElem?_eq_some_iff.1 h).1 h, h1, h2, h3, h4, h5⟩
  simp [h1, h2, h3, h4, h5, hP]
end Go.Abs.W
set_option linter.unusedSimpArgs false
set_option linter.unusedVariables false
set_option maxRecDepth 100000
set_option maxHeartbeats 2000000
namespace Go.Abs.W
open Go Go.Abs Classical
attribute [-simp] Bool.decide_and
abbrev HexV (q r : Int) : AV := .val (.agg [.int .i64 q, .int .i64 r])
/-- The changes of Q and R in a direction. -/
def dq (d : Int) : Int := if d = 0 ∨ d = 1 then 1 else if d = 3 ∨ d = 4 then -1 else 0
def dr (d : Int) : Int := if d = 1 ∨ d = 2 then -1 else if d = 4 ∨ d = 5 then 1 else 0
/-- A direction. -/
def Dir (d : Int) : Prop := 0 ≤ d ∧ d ≤ 5
theorem Dir.cases {d : Int} (h : Dir d) : d = 0 ∨ d = 1 ∨ d = 2 ∨ d = 3 ∨ d = 4 ∨ d = 5 := by unfold Dir at h; omega
theorem c_spec_hStep (q r d : Int) (hd : Dir d) (hq : -1000 ≤ q ∧ q ≤ 1000) (hr : -1000 ≤ r ∧ r ≤ 1000) : C n_spec_hStep [HexV q r, I d] = some (HexV (q + dq d) (r + dr d)) := by
  refine callC p_spec_hStep rfl ?_
  have w1 : ∀ x : Int, -1 ≤ x ∧ x ≤ 1 → IntKind.i64.wrap (q + x) = q + x := fun x h => wrap_small (by omega) (by omega)
  have w2 : ∀ x : Int, -1 ≤ x ∧ x ≤ 1 → IntKind.i64.wrap (r + x) = r + x := fun x h => wrap_small (by omega) (by omega)
  have a1 := w1 1 (by omega); have a2 := w1 0 (by omega); have a3 := w1 (-1) (by omega)
  have b1 := w2 1 (by omega); have b2 := w2 0 (by omega); have b3 := w2 (-1) (by omega)
  simp only [Int.add_zero] at a2 b2
  rcases hd.cases with rfl | rfl | rfl | rfl | rfl | rfl <;> simp [xRun, a_spec_hStep, rowsOf, dq, dr, a1, a2, a3, b1, b2, b3]
theorem c_impl_stepBy (q r d : Int) (hd : Dir d) (hq : -1000 ≤ q ∧ q ≤ 1000) (hr : -1000 ≤ r ∧ r ≤ 1000) : C n_impl_stepBy [HexV q r, I d, I 1] = some (HexV (q + dq d) (r + dr d)) := by
  refine callC p_impl_stepBy rfl ?_
  have w1 : ∀ x : Int, -1 ≤ x ∧ x ≤ 1 → IntKind.i64.wrap (q + x) = q + x := fun x h => wrap_small (by omega) (by omega)
  have w2 : ∀ x : Int, -1 ≤ x ∧ x ≤ 1 → IntKind.i64.wrap (r + x) = r + x := fun x h => wrap_small (by omega) (by omega)
  have a1 := w1 1 (by omega); have a2 := w1 0 (by omega); have a3 := w1 (-1) (by omega)
  have b1 := w2 1 (by omega); have b2 := w2 0 (by omega); have b3 := w2 (-1) (by omega)
  have z1 : IntKind.i64.wrap 1 = 1 := by decide
  have z2 : IntKind.i64.wrap 0 = 0 := by decide
  have z3 : IntKind.i64.wrap (-1) = -1 := by decide
  simp only [Int.add_zero] at a2 b2
  rcases hd.cases with rfl | rfl | rfl | rfl | rfl | rfl <;> simp [xRun, a_impl_stepBy, glob, dirs, dq, dr, a1, a2, a3, b1, b2, b3, z1, z2, z3]
/-- A map's sides. -/
structure Dim (m : Map) : Prop where
  w : 1 ≤ m.width ∧ m.width ≤ 10
  h : 1 ≤ m.height ∧ m.height ≤ 10
theorem mul_bounds {a b x y : Int} (ha : 0 ≤ a ∧ a ≤ x) (hb : 0 ≤ b ∧ b ≤ y) : 0 ≤ a * b ∧ a * b ≤ x * y :=
  ⟨Int.mul_nonneg ha.1 hb.1, Int.mul_le_mul ha.2 hb.2 hb.1 (by omega)⟩
theorem Dim.size {m : Map} (h : Dim m) : 1 ≤ m.width * m.height ∧ m.width * m.height ≤ 100 := by
  have := mul_bounds (a := m.width) (b := m.height) (x := 10) (y := 10) (by have := h.w; omega) (by have := h.h; omega)
  have h2 := Int.mul_pos (a := m.width) (b := m.height) (by have := h.w; omega) (by have := h.h; omega)
  omega
theorem c_spec_mSize (m : Map) (h : Dim m) : C n_spec_mSize [MapV false m] = some (I (m.width * m.height)) := by
  refine callC p_spec_mSize rfl ?_
  have hw : IntKind.i64.wrap (m.width * m.height) = m.width * m.height := wrap_small (by have := h.size; omega) (by have := h.size; omega)
  simp [xRun, a_spec_mSize, hw]
/-- Indices that may be asked for. -/
def Ix (i : Int) : Prop := 0 ≤ i ∧ i ≤ 1000
theorem Ix.div {i w : Int} (h : Ix i) (hw : 1 ≤ w) : 0 ≤ i / w ∧ i / w ≤ 1000 := by
  unfold Ix at h
  exact ⟨Int.ediv_nonneg h.1 (by omega), Int.le_trans (Int.ediv_le_self _ h.1) h.2⟩
theorem Ix.mod {i w : Int} (h : Ix i) (hw : 1 ≤ w) : 0 ≤ i % w ∧ i % w < w := ⟨Int.emod_nonneg _ (by omega), Int.emod_lt_of_pos _ (by omega)⟩
theorem c_spec_mHex (m : Map) (i : Int) (h : Dim m) (hi : Ix i) : C n_spec_mHex [MapV false m, I i] = some (HexV (i % m.width) (i / m.width)) := by
  refine callC p_spec_mHex rfl ?_
  have h0 : ¬ m.width = 0 := by have := h.w; omega
  have h1 : i.tmod m.width = i % m.width := Int.tmod_eq_emod_of_nonneg hi.1
  have h2 : IntKind.i64.wrap (i.tdiv m.width) = i / m.width := by
    rw [Int.tdiv_eq_ediv_of_nonneg hi.1]
    have := hi.div h.w.1
    exact wrap_small (by omega) (by omega)
  simp [xRun, a_spec_mHex, h0, h1, h2]
theorem c_impl_hexOf (m : Map) (i : Int) (h : Dim m) (hi : Ix i) : C n_impl_hexOf [MapV false m, I i] = some (HexV (i % m.width) (i / m.width)) := by
  refine callC p_impl_hexOf rfl ?_
  have h0 : ¬ m.width = 0 := by have := h.w; omega
  have h1 : i.tmod m.width = i % m.width := Int.tmod_eq_emod_of_nonneg hi.1
  have h2 : IntKind.i64.wrap (i.tdiv m.width) = i / m.width := by
    rw [Int.tdiv_eq_ediv_of_nonneg hi.1]
    have := hi.div h.w.1
    exact wrap_small (by omega) (by omega)
  simp [xRun, a_impl_hexOf, h0, h1, h2]
/-- The index of a hex, or -1. -/
def indexM (m : Map) (q r : Int) : Int := if (0 ≤ q ∧ q < m.width) ∧ (0 ≤ r ∧ r < m.height) then r * m.width + q else -1
theorem c_spec_mIndex (m : Map) (q r : Int) (h : Dim m) : C n_spec_mIndex [MapV false m, HexV q r] = some (I (indexM m q r)) := by
  refine callC p_spec_mIndex rfl ?_
  have w1 : IntKind.i64.wrap (m.width - 1) = m.width - 1 := wrap_small (by have := h.w; omega) (by have := h.w; omega)
  have w2 : IntKind.i64.wrap (m.height - 1) = m.height - 1 := wrap_small (by have := h.h; omega) (by have := h.h; omega)
  by_cases h1 : 0 ≤ q ∧ q ≤ m.width - 1
  · have g1 : 0 ≤ q ∧ q < m.width := by omega
    by_cases h2 : 0 ≤ r ∧ r ≤ m.height - 1
    · have g2 : 0 ≤ r ∧ r < m.height := by omega
      have hm := mul_bounds (a := r) (b := m.width) (x := 10) (y := 10) (by have := h.h; omega) (by have := h.w; omega)
      have w3 : IntKind.i64.wrap (r * m.width) = r * m.width := wrap_small (by omega) (by omega)
      have w4 : IntKind.i64.wrap (r * m.width + q) = r * m.width + q := wrap_small (by omega) (by have := h.w; omega)
      simp [xRun, a_spec_mIndex, w1, w2, h1, h2, w3, w4, indexM, g1, g2]
    · have g2 : ¬ (0 ≤ r ∧ r < m.height) := by omega
      simp [xRun, a_spec_mIndex, w1, w2, h1, h2, indexM, g1, g2]
  · have g1 : ¬ (0 ≤ q ∧ q < m.width) := by omega
    simp [xRun, a_spec_mIndex, w1, w2, h1, indexM, g1]
theorem c_impl_indexOf (m : Map) (q r : Int) (h : Dim m) : C n_impl_indexOf [MapV false m, HexV q r] = some (I (indexM m q r)) := by
  refine callC p_impl_indexOf rfl ?_
  have w1 := c_impl_isIndex q m.width (by have := h.w; omega) (by have := h.w; omega)
  have w2 := c_impl_isIndex r m.height (by have := h.h; omega) (by have := h.h; omega)
  by_cases h1 : 0 ≤ q ∧ q < m.width
  · by_cases h2 : 0 ≤ r ∧ r < m.height
    · have hm := mul_bounds (a := r) (b := m.width) (x := 10) (y := 10) (by have := h.h; omega) (by have := h.w; omega)
      have w3 : IntKind.i64.wrap (r * m.width) = r * m.width := wrap_small (by omega) (by omega)
      have w4 : IntKind.i64.wrap (r * m.width + q) = r * m.width + q := wrap_small (by omega) (by have := h.w; omega)
      simp [xRun, a_impl_indexOf, w1, w2, h1, h2, w3, w4, indexM]
    · simp [xRun, a_impl_indexOf, w1, w2, h1, h2, indexM]
  · simp [xRun, a_impl_indexOf, w1, w2, h1, indexM]
/-- The index of a neighbour, or -1. -/
def nextM (m : Map) (i d : Int) : Int := indexM m (i % m.width + dq d) (i / m.width + dr d)
theorem c_spec_mNext (m : Map) (i d : Int) (h : Dim m) (hi : Ix i) (hd : Dir d) : C n_spec_mNext [MapV false m, I i, I d] = some (I (nextM m i d)) := by
  refine callC p_spec_mNext rfl ?_
  have h1 := hi.mod h.w.1
  have h2 := hi.div h.w.1
  have := h.w
  simp [xRun, a_spec_mNext, c_spec_mHex m i h hi, c_spec_hStep (i % m.width) (i / m.width) d hd (by omega) (by omega), c_spec_mIndex m _ _ h, nextM]
theorem c_impl_nextTo (m : Map) (i d : Int) (h : Dim m) (hi : Ix i) (hd : Dir d) : C n_impl_nextTo [MapV false m, I i, I d] = some (I (nextM m i d)) := by
  refine callC p_impl_nextTo rfl ?_
  have h1 := hi.mod h.w.1
  have h2 := hi.div h.w.1
  have := h.w
  simp [xRun, a_impl_nextTo, c_impl_hexOf m i h hi, c_impl_stepBy (i % m.width) (i / m.width) d hd (by omega) (by omega), c_impl_indexOf m _ _ h, nextM]
theorem indexM_bounds {m : Map} (h : Dim m) (q r : Int) : indexM m q r = -1 ∨ (0 ≤ indexM m q r ∧ indexM m q r < m.width * m.height) := by
  unfold indexM
  split
  · rename_i hh
    right
    have h1 := mul_bounds (a := r) (b := m.width) (x := m.height - 1) (y := m.width) (by omega) (by have := h.w; omega)
    have h2 : (m.height - 1) * m.width = m.width * m.height - m.width := by rw [Int.sub_mul, Int.mul_comm]; simp
    omega
  · left; rfl
theorem nextM_bounds {m : Map} (h : Dim m) (i d : Int) : nextM m i d = -1 ∨ (0 ≤ nextM m i d ∧ nextM m i d < m.width * m.height) := indexM_bounds h _ _
structure EdgeOK (m : Map) (e : Int) : Prop where
  r : 0 ≤ e ∧ e ≤ 3 * (m.width * m.height) - 1
  n : 0 ≤ nextM m (e / 3) (e % 3)
theorem edge_facts {m : Map} (h : Dim m) {e : Int} (he : 0 ≤ e ∧ e ≤ 3 * (m.width * m.height) - 1) :
    Ix (e / 3) ∧ Dir (e % 3) ∧ IntKind.i64.wrap (e.tdiv 3) = e / 3 ∧ e.tmod 3 = e % 3 := by
  have := h.size
  refine ⟨by unfold Ix; omega, by unfold Dir; omega, ?_, Int.tmod_eq_emod_of_nonneg he.1⟩
  rw [Int.tdiv_eq_ediv_of_nonneg he.1]
  exact wrap_small (by omega) (by omega)
theorem c_impl_isEdge (m : Map) (e : Int) (h : Dim m) : C n_impl_isEdge [MapV false m, I e] = some (Bo (decide (EdgeOK m e))) := by
  refine callC p_impl_isEdge rfl ?_
  have hs := h.size
  have w1 : IntKind.i64.wrap (3 * m.width) = 3 * m.width := wrap_small (by have := h.w; omega) (by have := h.w; omega)
  have w2 : IntKind.i64.wrap (3 * m.width * m.height) = 3 * (m.width * m.height) := by rw [Int.mul_assoc]; exact wrap_small (by omega) (by omega)
  have w3 : IntKind.i64.wrap (3 * (m.width * m.height) - 1) = 3 * (m.width * m.height) - 1 := wrap_small (by omega) (by omega)
  by_cases h1 : 0 ≤ e ∧ e ≤ 3 * (m.width * m.height) - 1
  · obtain ⟨f1, f2, f3, f4⟩ := edge_facts h h1
    have hn := c_impl_nextTo m _ _ h f1 f2
    by_cases h2 : 0 ≤ nextM m (e / 3) (e % 3)
    · have : EdgeOK m e := ⟨h1, h2⟩
      simp [xRun, a_impl_isEdge, w1, w2, w3, h1, f3, f4, hn, h2, this]
    · have : ¬ EdgeOK m e := fun h => h2 h.n
      simp [xRun, a_impl_isEdge, w1, w2, w3, h1, f3, f4, hn, h2, this]
  · have : ¬ EdgeOK m e := fun h => h1 h.r
    simp [xRun, a_impl_isEdge, w1, w2, w3, h1, this]
structure EdgesOK (m : Map) (l : List Int) : Prop where
  e : ∀ x ∈ l, EdgeOK m x
  inc : Inc l
theorem c_spec_mEdges (m : Map) (l : List Int) (h : Dim m) (hl : Len l.length) : C n_spec_mEdges [MapV false m, Li l] = some (Bo (decide (EdgesOK m l))) := by
  refine callC p_spec_mEdges rfl ?_
  have hs := h.size
  have w2 : IntKind.i64.wrap (3 * (m.width * m.height)) = 3 * (m.width * m.height) := wrap_small (by omega) (by omega)
  have w3 : IntKind.i64.wrap (3 * (m.width * m.height) - 1) = 3 * (m.width * m.height) - 1 := wrap_small (by omega) (by omega)
  have hz := c_spec_mSize m h
  simp [xRun, a_spec_mEdges, ints_length]
  refine find_loop l (by unfold Len at hl; omega) 9 (fun e => ¬ EdgeOK m e) (by simp) ?_ ?_
  · intro N E i a ha hi hm hwi hsx hN hE
    by_cases h1 : 0 ≤ a ∧ a ≤ 3 * (m.width * m.height) - 1
    · obtain ⟨f1, f2, f3, f4⟩ := edge_facts h h1
      have hn := c_spec_mNext m _ _ h f1 f2
      by_cases h2 : 0 ≤ nextM m (a / 3) (a % 3)
      · have h3 : ¬ nextM m (a / 3) (a % 3) < 0 := by omega
        have hok : EdgeOK m a := ⟨h1, h2⟩
        simp [bodyF, b_spec_mEdges_0, hi, ints_length, ints_get ha, hwi, hz, w2, w3, h1, f3, f4, hn, h3]
        exact hN _ (by simp) (by simp [hok])
      · have h3 : nextM m (a / 3) (a % 3) < 0 := by omega
        have hP : ¬ EdgesOK m l := fun h => h2 (h.e a hm).n
        simp [bodyF, b_spec_mEdges_0, hi, ints_length, ints_get ha, hwi, hz, w2, w3, h1, f3, f4, hn, h3]
        exact hE _ _ fun st => by simp [hP]
    · have hP : ¬ EdgesOK m l := fun h => h1 (h.e a hm).r
      simp [bodyF, b_spec_mEdges_0, hi, ints_length, ints_get ha, hwi, hz, w2, w3, h1]
      exact hE _ _ fun st => by simp [hP]
  · intro N E hsx hE
    have hr := c_spec_l1Rising l 0 (3 * (m.width * m.height) - 1) hl
    have hall : ∀ x ∈ l, EdgeOK m x := fun x hx => Classical.not_not.1 (hsx x hx)
    have hP : (AllIn l 0 (3 * (m.width * m.height) - 1) ∧ Inc l) ↔ EdgesOK m l := ⟨fun hh => ⟨hall, hh.2⟩, fun hh => ⟨fun x hx => (hh.e x hx).r, hh.inc⟩⟩
    simp [bodyF, b_spec_mEdges_0, ints_length]
    refine hE _ _ fun st => ?_
    simp [hz, w2, w3, hr, hP]
structure MapOK (m : Map) : Prop where
  w : 1 ≤ m.width ∧ m.width ≤ 10
  h : 1 ≤ m.height ∧ m.height ≤ 10
  len : (m.terrain.length : Int) = m.width * m.height
  terr : AllIn m.terrain 0 5
  rivers : EdgesOK m m.rivers
  roads : EdgesOK m m.roads
theorem c_spec_mGood (m : Map) (hl : LenM m) : C n_spec_mGood [MapV false m] = some (Bo (decide (MapOK m))) := by
  refine callC p_spec_mGood rfl ?_
  by_cases g1 : 1 ≤ m.width ∧ m.width ≤ 10
  rotate_left
  · have hP : ¬ MapOK m := fun h => g1 h.w
    simp [xRun, a_spec_mGood, g1, hP]
  by_cases g2 : 1 ≤ m.height ∧ m.height ≤ 10
  rotate_left
  · have hP : ¬ MapOK m := fun h => g2 h.h
    simp [xRun, a_spec_mGood, g1, g2, hP]
  have hd : Dim m := ⟨g1, g2⟩
  have e1 := c_spec_mSize m hd
  have e2 := c_spec_l1All m.terrain 0 5 hl.t
  have e3 := c_spec_mEdges m m.rivers hd hl.v
  have e4 := c_spec_mEdges m m.roads hd hl.d
  by_cases h1 : (m.terrain.length : Int) = m.width * m.height
  rotate_left
  · have hP : ¬ MapOK m := fun h => h1 (h.len)
    simp [xRun, a_spec_mGood, g1, g2, e1, e2, e3, e4, ints_length, h1, hP]
  by_cases h2 : AllIn m.terrain 0 5
  rotate_left
  · have hP : ¬ MapOK m := fun h => h2 (h.terr)
    simp [xRun, a_spec_mGood, g1, g2, e1, e2, e3, e4, ints_length, h1, h2, hP]
  by_cases h3 : EdgesOK m m.rivers
  rotate_left
  · have hP : ¬ MapOK m := fun h => h3 (h.rivers)
    simp [xRun, a_spec_mGood, g1, g2, e1, e2, e3, e4, ints_length, h1, h2, h3, hP]
  by_cases h4 : EdgesOK m m.roads
  rotate_left
  · have hP : ¬ MapOK m := fun h => h4 (h.roads)
    simp [xRun, a_spec_mGood, g1, g2, e1, e2, e3, e4, ints_length, h1, h2, h3, h4, hP]
  have hP : MapOK m := ⟨g1, g2, h1, h2, h3, h4⟩
  simp [xRun, a_spec_mGood, g1, g2, e1, e2, e3, e4, ints_length, h1, h2, h3, h4, hP]
end Go.Abs.W
set_option linter.unusedSimpArgs false
set_option linter.unusedVariables false
set_option maxRecDepth 100000
set_option maxHeartbeats 2000000
namespace Go.Abs.W
open Go Go.Abs Classical
attribute [-simp] Bool.decide_and
theorem MapOK.dim {m : Map} (h : MapOK m) : Dim m := ⟨h.w, h.h⟩
theorem c_impl_IsMap (m : Map) (hl : LenM m) : C n_impl_IsMap [MapV false m] = some (Bo (decide (MapOK m))) := by
  refine callC p_impl_IsMap rfl ?_
  by_cases g1 : 1 ≤ m.width ∧ m.width ≤ 10
  rotate_left
  · have hP : ¬ MapOK m := fun h => g1 h.w
    simp [xRun, a_impl_IsMap, g1, hP]
  by_cases g2 : 1 ≤ m.height ∧ m.height ≤ 10
  rotate_left
  · have hP : ¬ MapOK m := fun h => g2 h.h
    simp [xRun, a_impl_IsMap, g1, g2, hP]
  have hd : Dim m := ⟨g1, g2⟩
  have hw : IntKind.i64.wrap (m.width * m.height) = m.width * m.height := wrap_small (by have := hd.size; omega) (by have := hd.size; omega)
  by_cases g3 : (m.terrain.length : Int) = m.width * m.height
  rotate_left
  · have hP : ¬ MapOK m := fun h => g3 h.len
    simp [xRun, a_impl_IsMap, g1, g2, hw, ints_length, g3, hP]
  simp [xRun, a_impl_IsMap, g1, g2, hw, ints_length, g3]
  rw [← g3]
  refine find_loop m.terrain (by have := hl.t; unfold Len at this; omega) 33 (fun a => ¬ (0 ≤ a ∧ a < 6)) (by simp) ?_ ?_
  · intro N E i a ha hi hm hwi hs hN hE
    have hx := c_impl_isIndex a 6 (by omega) (by omega)
    by_cases h1 : 0 ≤ a ∧ a < 6
    · simp [bodyF, b_impl_IsMap_0, hi, ints_length, ints_get ha, hwi, hx, h1]
      exact hN _ (by simp) (by simp [h1])
    · have hP : ¬ MapOK m := fun h => h1 (by have := h.terr a hm; omega)
      simp [bodyF, b_impl_IsMap_0, hi, ints_length, ints_get ha, hwi, hx, h1]
      exact hE _ _ fun st => by simp [hP]
  intro N E hs0 hE
  simp [bodyF, b_impl_IsMap_0, ints_length]
  refine hE _ _ fun st => ?_
  simp [rowsOf]
  refine list_loop [m.rivers, m.roads] (by simp) (fun i (_ : Unit) => [(47, I i)]) (fun i _ => ∀ l ∈ [m.rivers, m.roads].take i, EdgesOK m l) default (by simp) (by simp) ?_ ?_
  · intro N E i l s ha hi hm ht hwi hs hN hE
    have hle : Len l.length := by
      simp at hm
      rcases hm with rfl | rfl
      · exact hl.v
      · exact hl.d
    have hbad : ¬ EdgesOK m l → ¬ MapOK m := fun hb h => by
      simp at hm
      rcases hm with rfl | rfl
      · exact hb h.rivers
      · exact hb h.roads
    have hrow : ∀ h' : i < [[D.list false 1 (ints m.rivers)], [D.list false 1 (ints m.roads)]].length, [[D.list false 1 (ints m.rivers)], [D.list false 1 (ints m.roads)]][i]'h' = [D.list false 1 (ints l)] := by
      intro h'
      have : i = 0 ∨ i = 1 := by simp at h'; omega
      rcases this with rfl | rfl
      · simp at ha; subst ha; rfl
      · simp at ha; subst ha; rfl
    have hi2 : i < 2 := by simpa using hi
    have hi3 : (i : Int) < 2 := by omega
    generalize hR : [[D.list false 1 (ints m.rivers)], [D.list false 1 (ints m.roads)]] = Rw at *
    have hRl : Rw.length = 2 := by rw [← hR]; rfl
    have hRg : ∀ h' : i < Rw.length, Rw[i]'h' = [D.list false 1 (ints l)] := hrow
    have hinc := c_impl_increasing l hle
    by_cases h1 : Inc l
    rotate_left
    · have hP := hbad fun h => h1 h.inc
      simp [bodyF, b_impl_IsMap_2, hi2, hi3, hRl, hRg, hinc, h1]
      exact hE _ _ fun st => by simp [hP]
    simp [bodyF, b_impl_IsMap_2, hi2, hi3, hRl, hRg, hinc, h1, ints_length]
    refine find_loopR l (by unfold Len at hle; omega) 56 (fun e => ¬ EdgeOK m e) (by simp) ?_ ?_
    · intro N2 E2 j e he hj hm2 hwj hs2 hN2 hE2
      have hx := c_impl_isEdge m e hd
      by_cases h2 : EdgeOK m e
      · simp [bodyF, b_impl_IsMap_1, hj, ints_length, ints_get he, hwj, hx, h2]
        exact hN2 _ (by simp) (by simp [h2])
      · have hP := hbad fun h => h2 (h.e e hm2)
        simp [bodyF, b_impl_IsMap_1, hj, ints_length, ints_get he, hwj, hx, h2]
        refine hE2 _ _ fun st => ?_
        simp
        exact hE _ _ fun st => by simp [hP]
    · intro N2 E2 hs2 hE2
      simp [bodyF, b_impl_IsMap_1, ints_length]
      refine hE2 _ _ fun st => ?_
      simp [hwi]
      refine hN _ s (by simp) fun x hx => ?_
      rw [ht] at hx
      rcases List.mem_append.1 hx with hx | hx
      · exact hs x hx
      · simp at hx; subst hx
        exact ⟨fun e he => Classical.not_not.1 (hs2 e he), h1⟩
  · intro N E s hs hE
    simp [bodyF, b_impl_IsMap_2]
    refine hE _ _ fun st => ?_
    simp at hs
    have hP : MapOK m := ⟨g1, g2, g3, fun a ha => by have := Classical.not_not.1 (hs0 a ha); omega, hs.1, hs.2⟩
    simp [hP]
structure BoardOK (b : Board) : Prop where
  rules : RulesOK b.rules
  map : MapOK b.map
  terr : AllIn b.map.terrain 0 (b.rules.terrains.length - 1)
theorem c_spec_bGood (b : Board) (hl : LenB b) : C n_spec_bGood [BoardV false b] = some (Bo (decide (BoardOK b))) := by
  refine callC p_spec_bGood rfl ?_
  have e1 := c_spec_rGood b.rules hl.r
  have e2 := c_spec_mGood b.map hl.m
  have e3 := c_spec_l1All b.map.terrain 0 (b.rules.terrains.length - 1) hl.m.t
  have hw : IntKind.i64.wrap ((b.rules.terrains.length : Int) - 1) = (b.rules.terrains.length : Int) - 1 := wrap_small (by omega) (by have := hl.r.ts; unfold Len at this; omega)
  by_cases h1 : RulesOK b.rules
  rotate_left
  · have hP : ¬ BoardOK b := fun h => h1 (h.rules)
    simp [xRun, a_spec_bGood, e1, e2, e3, hw, h1, hP]
  by_cases h2 : MapOK b.map
  rotate_left
  · have hP : ¬ BoardOK b := fun h => h2 (h.map)
    simp [xRun, a_spec_bGood, e1, e2, e3, hw, h1, h2, hP]
  by_cases h3 : AllIn b.map.terrain 0 (b.rules.terrains.length - 1)
  rotate_left
  · have hP : ¬ BoardOK b := fun h => h3 (h.terr)
    simp [xRun, a_spec_bGood, e1, e2, e3, hw, h1, h2, h3, hP]
  have hP : BoardOK b := ⟨h1, h2, h3⟩
  simp [xRun, a_spec_bGood, e1, e2, e3, hw, h1, h2, h3, hP]
theorem c_impl_IsBoard (b : Board) (hl : LenB b) : C n_impl_IsBoard [BoardV false b] = some (Bo (decide (BoardOK b))) := by
  refine callC p_impl_IsBoard rfl ?_
  have e1 := c_impl_IsRules b.rules hl.r
  have e2 := c_impl_IsMap b.map hl.m
  by_cases h1 : RulesOK b.rules
  rotate_left
  · have hP : ¬ BoardOK b := fun h => h1 h.rules
    simp [xRun, a_impl_IsBoard, e1, h1, hP]
  by_cases h2 : MapOK b.map
  rotate_left
  · have hP : ¬ BoardOK b := fun h => h2 h.map
    simp [xRun, a_impl_IsBoard, e1, e2, h1, h2, hP]
  simp only [xRun, a_impl_IsBoard]
  have hf : ∀ t, C n_impl_IsBoard_1 (I t :: [[D.list false 5 (b.rules.terrains.map (Terrain.enc false)), D.list false 6 (b.rules.kinds.map Kind.enc), D.int .i64 b.rules.stack, D.int .i64 b.rules.river, D.int .i64 b.rules.road, D.int .i64 b.rules.supply, D.int .i64 b.rules.turns,
      D.int .i64 b.map.width, D.int .i64 b.map.height, D.list false 1 (ints b.map.terrain), D.list false 1 (ints b.map.rivers), D.list false 1 (ints b.map.roads)]].map .rp) = some (Bo (decide ((b.rules.terrains.length : Int) ≤ t))) := by
    intro t
    refine callC p_impl_IsBoard_1 rfl ?_
    simp [xRun, a_impl_IsBoard_1]
  have e3 := c_slices_ContainsFunc_int b.map.terrain _ _ (fun t => (b.rules.terrains.length : Int) ≤ t) hl.m.t hf
  have hP : (¬ ∃ t ∈ b.map.terrain, (b.rules.terrains.length : Int) ≤ t) ↔ BoardOK b := by
    constructor
    · intro h
      refine ⟨h1, h2, fun t ht => ?_⟩
      have := h2.terr t ht
      have h4 : ¬ (b.rules.terrains.length : Int) ≤ t := fun hh => h ⟨t, ht, hh⟩
      omega
    · rintro h ⟨t, ht, hh⟩
      have := h.terr t ht
      omega
  by_cases h3 : ∃ t ∈ b.map.terrain, (b.rules.terrains.length : Int) ≤ t
  · have hB : ¬ BoardOK b := fun h => hP.2 h h3
    simp only [decide_eq_true h3] at e3
    simp [e1, e2, h1, h2, e3, hB]
  · have hB : BoardOK b := hP.1 h3
    simp only [decide_eq_false h3] at e3
    simp [e1, e2, h1, h2, e3, hB]
end Go.Abs.W
set_option linter.unusedSimpArgs false
set_option linter.unusedVariables false
set_option maxRecDepth 100000
set_option maxHeartbeats 2000000
namespace Go.Abs.W
open Go Go.Abs Classical
attribute [-simp] Bool.decide_and
/-- The element with an index. -/
def at' {α : Type} [Inhabited α] (l : List α) (i : Int) : α := l.getD i.toNat default
theorem at_some {α : Type} [Inhabited α] {l : List α} {i : Int} (h0 : 0 ≤ i) (h1 : i < l.length) : l[i.toNat]? = some (at' l i) := by
  have : i.toNat < l.length := by omega
  simp [at', this]
theorem at_lt {α : Type} {l : List α} {i : Int} (h0 : 0 ≤ i) (h1 : i < l.length) : i.toNat < l.length := by omega
theorem at_get {α : Type} [Inhabited α] {l : List α} {i : Int} (h0 : 0 ≤ i) (h1 : i < l.length) : ∀ h : i.toNat < l.length, l[i.toNat]'h = at' l i := at_of (at_some h0 h1)
theorem at_mem {α : Type} [Inhabited α] {l : List α} {i : Int} (h0 : 0 ≤ i) (h1 : i < l.length) : at' l i ∈ l := List.mem_of_getElem? (at_some h0 h1)
theorem at_nat {α : Type} [Inhabited α] {l : List α} {i : Nat} {a : α} (h : l[i]? = some a) : at' l (i : Int) = a := by simp [at', h]
theorem ints_at' {l : List Int} {i : Int} (h0 : 0 ≤ i) (h1 : i < l.length) : ∀ h : i.toNat < (ints l).length, (ints l)[i.toNat]'h = [D.int .i64 (at' l i)] := ints_get (at_some h0 h1)
def terrAt (b : Board) (i : Int) : Terrain := at' b.rules.terrains (at' b.map.terrain i)
def cost (b : Board) (k i : Int) : Int := at' (terrAt b i).cost k
def kindAt (b : Board) (k : Int) : Kind := at' b.rules.kinds k
/-- How many hexes a board has. -/
def size (b : Board) : Int := b.map.terrain.length
theorem BoardOK.size_eq {b : Board} (h : BoardOK b) : b.map.width * b.map.height = size b := h.map.len.symm
theorem BoardOK.size_le {b : Board} (h : BoardOK b) : 1 ≤ size b ∧ size b ≤ 100 := by
  have := h.map.dim.size; have := h.size_eq; omega
/-- A hex of the board. -/
def On (b : Board) (i : Int) : Prop := 0 ≤ i ∧ i < size b
theorem BoardOK.t1 {b : Board} (h : BoardOK b) {i : Int} (hi : On b i) : 0 ≤ at' b.map.terrain i ∧ at' b.map.terrain i < b.rules.terrains.length := by
  have := h.terr _ (at_mem hi.1 hi.2); omega
theorem BoardOK.t2 {b : Board} (h : BoardOK b) {i : Int} (hi : On b i) : TerrOK (terrAt b i) b.rules.kinds.length := by
  have := h.t1 hi
  exact (h.rules.terr _ _ (at_some this.1 this.2)).1
theorem BoardOK.cost_le {b : Board} (h : BoardOK b) {k i : Int} (hk : 0 ≤ k ∧ k < b.rules.kinds.length) (hi : On b i) : 0 ≤ cost b k i ∧ cost b k i ≤ 9 := by
  have := h.t2 hi
  exact this.cost _ (at_mem hk.1 (by have := this.len; omega))
theorem BoardOK.kind {b : Board} (h : BoardOK b) {k : Int} (hk : 0 ≤ k ∧ k < b.rules.kinds.length) : KindOK (kindAt b k) :=
  (h.rules.kind _ _ (at_some hk.1 hk.2)).1
theorem c_spec_bTerrain (b : Board) (i : Int) (h : BoardOK b) (hi : On b i) : C n_spec_bTerrain [BoardV false b, I i] = some (TerrainV false (terrAt b i)) := by
  refine callC p_spec_bTerrain rfl ?_
  have h1 := h.t1 hi
  have n1 : ¬ i < 0 := by have := hi.1; omega
  have n2 : ¬ at' b.map.terrain i < 0 := by omega
  simp [xRun, a_spec_bTerrain, n1, n2, ints_length, at_lt hi.1 hi.2, ints_at' hi.1 hi.2, at_lt h1.1 h1.2, at_get h1.1 h1.2, Terrain.enc, terrAt]
theorem c_impl_terrainAt (b : Board) (i : Int) (h : BoardOK b) (hi : On b i) : C n_impl_terrainAt [BoardV false b, I i] = some (TerrainV false (terrAt b i)) := by
  refine callC p_impl_terrainAt rfl ?_
  have h1 := h.t1 hi
  have n1 : ¬ i < 0 := by have := hi.1; omega
  have n2 : ¬ at' b.map.terrain i < 0 := by omega
  simp [xRun, a_impl_terrainAt, n1, n2, ints_length, at_lt hi.1 hi.2, ints_at' hi.1 hi.2, at_lt h1.1 h1.2, at_get h1.1 h1.2, Terrain.enc, terrAt]
/-- A kind of the board. -/
def KindOf (b : Board) (k : Int) : Prop := 0 ≤ k ∧ k < b.rules.kinds.length
theorem c_spec_bCost (b : Board) (k i : Int) (h : BoardOK b) (hk : KindOf b k) (hi : On b i) : C n_spec_bCost [BoardV false b, I k, I i] = some (I (cost b k i)) := by
  refine callC p_spec_bCost rfl ?_
  have h1 := h.t2 hi
  have h2 : k < ((terrAt b i).cost.length : Int) := by have := h1.len; have := hk.2; omega
  have n1 : ¬ k < 0 := by have := hk.1; omega
  simp [xRun, a_spec_bCost, c_spec_bTerrain b i h hi, n1, ints_length, at_lt hk.1 h2, ints_at' hk.1 h2, cost]
theorem c_impl_enterCost (b : Board) (k i : Int) (h : BoardOK b) (hk : KindOf b k) (hi : On b i) : C n_impl_enterCost [BoardV false b, I k, I i] = some (I (cost b k i)) := by
  refine callC p_impl_enterCost rfl ?_
  have h1 := h.t2 hi
  have h2 : k < ((terrAt b i).cost.length : Int) := by have := h1.len; have := hk.2; omega
  have n1 : ¬ k < 0 := by have := hk.1; omega
  simp [xRun, a_impl_enterCost, c_impl_terrainAt b i h hi, n1, ints_length, at_lt hk.1 h2, ints_at' hk.1 h2, cost]
@[simp] theorem c_impl_sizeOf (b : Board) : C n_impl_sizeOf [BoardV false b] = some (I (size b)) := by
  refine callC p_impl_sizeOf rfl ?_
  simp [xRun, a_impl_sizeOf, ints_length, size]
structure UnitOK (b : Board) (u : Unit) : Prop where
  side : 0 ≤ u.side ∧ u.side ≤ 1
  kind : KindOf b u.kind
  steps : 0 ≤ u.steps ∧ u.steps ≤ (kindAt b u.kind).steps
  pos : u.pos = -1 ∨ (0 < u.steps ∧ On b u.pos ∧ ¬ cost b u.kind u.pos = 0)
theorem c_impl_goodUnit (b : Board) (u : Unit) (h : BoardOK b) : C n_impl_goodUnit [BoardV false b, UnitV u] = some (Bo (decide (UnitOK b u))) := by
  refine callC p_impl_goodUnit rfl ?_
  have hks := h.rules.ks
  have hsz := h.size_le
  have e1 := c_impl_isIndex u.kind b.rules.kinds.length (by omega) (by omega)
  have e2 := c_impl_isIndex u.pos (size b) (by omega) (by omega)
  by_cases h1 : 0 ≤ u.side ∧ u.side ≤ 1
  rotate_left
  · have hP : ¬ UnitOK b u := fun h => h1 h.side
    simp [xRun, a_impl_goodUnit, h1, hP]
  by_cases h2 : 0 ≤ u.kind ∧ u.kind < b.rules.kinds.length
  rotate_left
  · have hP : ¬ UnitOK b u := fun h => h2 h.kind
    simp [xRun, a_impl_goodUnit, h1, e1, h2, hP]
  have n1 : ¬ u.kind < 0 := by omega
  have k1 := at_lt (l := b.rules.kinds) h2.1 h2.2
  have k2 : ∀ h, b.rules.kinds[u.kind.toNat]'h = kindAt b u.kind := at_get h2.1 h2.2
  by_cases h3 : 0 ≤ u.steps ∧ u.steps ≤ (kindAt b u.kind).steps
  rotate_left
  · have hP : ¬ UnitOK b u := fun h => h3 h.steps
    simp [xRun, a_impl_goodUnit, h1, e1, h2, n1, k1, k2, Kind.enc, h3, hP]
  by_cases h4 : u.pos = -1
  · have hP : UnitOK b u := ⟨h1, h2, h3, .inl h4⟩
    simp [xRun, a_impl_goodUnit, h1, e1, h2, n1, k1, k2, Kind.enc, h3, h4, hP]
  by_cases h5 : 0 < u.steps
  rotate_left
  · have hP : ¬ UnitOK b u := fun h => h.pos.elim h4 fun h => h5 h.1
    simp [xRun, a_impl_goodUnit, h1, e1, h2, n1, k1, k2, Kind.enc, h3, h4, h5, hP]
  by_cases h6 : 0 ≤ u.pos ∧ u.pos < size b
  rotate_left
  · have hP : ¬ UnitOK b u := fun h => h.pos.elim h4 fun h => h6 h.2.1
    simp [xRun, a_impl_goodUnit, h1, e1, h2, n1, k1, k2, Kind.enc, h3, h4, h5, e2, h6, hP]
  have e3 := c_impl_enterCost b u.kind u.pos h h2 h6
  by_cases h7 : cost b u.kind u.pos = 0
  · have hP : ¬ UnitOK b u := fun h => h.pos.elim h4 fun h => h.2.2 h7
    simp [xRun, a_impl_goodUnit, h1, e1, h2, n1, k1, k2, Kind.enc, h3, h4, h5, e2, h6, e3, h7, hP]
  · have hP : UnitOK b u := ⟨h1, h2, h3, .inr ⟨h5, h6, h7⟩⟩
    simp [xRun, a_impl_goodUnit, h1, e1, h2, n1, k1, k2, Kind.enc, h3, h4, h5, e2, h6, e3, h7, hP]
theorem c_spec_sUnit (b : Board) (u : Unit) (h : BoardOK b) : C n_spec_sUnit [BoardV false b, UnitV u] = some (Bo (decide (UnitOK b u))) := by
  refine callC p_spec_sUnit rfl ?_
  have hks := h.rules.ks
  have hsz := h.size_le
  have w1 : IntKind.i64.wrap ((b.rules.kinds.length : Int) - 1) = (b.rules.kinds.length : Int) - 1 := wrap_small (by omega) (by omega)
  have w2 : IntKind.i64.wrap (size b - 1) = size b - 1 := wrap_small (by omega) (by omega)
  have e2 := c_spec_mSize b.map h.map.dim
  rw [h.size_eq] at e2
  by_cases h1 : 0 ≤ u.side ∧ u.side ≤ 1
  rotate_left
  · have hP : ¬ UnitOK b u := fun h => h1 h.side
    simp [xRun, a_spec_sUnit, h1, hP]
  by_cases h2 : 0 ≤ u.kind ∧ u.kind ≤ (b.rules.kinds.length : Int) - 1
  rotate_left
  · have hP : ¬ UnitOK b u := fun h => h2 (by have := h.kind; unfold KindOf at this; omega)
    simp [xRun, a_spec_sUnit, h1, w1, h2, hP]
  have n1 : ¬ u.kind < 0 := by omega
  have h2' : KindOf b u.kind := ⟨h2.1, by omega⟩
  have k1 := at_lt (l := b.rules.kinds) h2'.1 h2'.2
  have k2 : ∀ h, b.rules.kinds[u.kind.toNat]'h = kindAt b u.kind := at_get h2'.1 h2'.2
  by_cases h3 : 0 ≤ u.steps ∧ u.steps ≤ (kindAt b u.kind).steps
  rotate_left
  · have hP : ¬ UnitOK b u := fun h => h3 h.steps
    simp [xRun, a_spec_sUnit, h1, w1, h2, n1, k1, k2, Kind.enc, h3, hP]
  by_cases h4 : u.pos = -1
  · have hP : UnitOK b u := ⟨h1, h2', h3, .inl h4⟩
    simp [xRun, a_spec_sUnit, h1, w1, h2, n1, k1, k2, Kind.enc, h3, h4, hP]
  by_cases h5 : 0 < u.steps
  rotate_left
  · have hP : ¬ UnitOK b u := fun h => h.pos.elim h4 fun h => h5 h.1
    simp [xRun, a_spec_sUnit, h1, w1, h2, n1, k1, k2, Kind.enc, h3, h4, h5, hP]
  by_cases h6 : 0 ≤ u.pos ∧ u.pos ≤ size b - 1
  rotate_left
  · have hP : ¬ UnitOK b u := fun h => h.pos.elim h4 fun h => h6 (by have := h.2.1; unfold On at this; omega)
    simp [xRun, a_spec_sUnit, h1, w1, h2, n1, k1, k2, Kind.enc, h3, h4, h5, e2, w2, h6, hP]
  have h6' : On b u.pos := ⟨h6.1, by omega⟩
  have e3 := c_spec_bCost b u.kind u.pos h h2' h6'
  have hc := h.cost_le h2' h6'
  by_cases h7 : 0 < cost b u.kind u.pos
  · have hP : UnitOK b u := ⟨h1, h2', h3, .inr ⟨h5, h6', by omega⟩⟩
    simp [xRun, a_spec_sUnit, h1, w1, h2, n1, k1, k2, Kind.enc, h3, h4, h5, e2, w2, h6, e3, h7, hP]
  · have hP : ¬ UnitOK b u := fun h => h.pos.elim h4 fun h => h.2.2 (by omega)
    simp [xRun, a_spec_sUnit, h1, w1, h2, n1, k1, k2, Kind.enc, h3, h4, h5, e2, w2, h6, e3, h7, hP]
end Go.Abs.W
set_option linter.unusedSimpArgs false
set_option linter.unusedVariables false
set_option maxRecDepth 100000
set_option maxHeartbeats 2000000
namespace Go.Abs.W
open Go Go.Abs Classical
attribute [-simp] Bool.decide_and
/-- The indices, from n on, of the elements that p holds of. -/
noncomputable def ixs {α : Type} (p : α → Prop) (l : List α) : List Int := (l.zipIdx.filter fun x => decide (p x.1)).map fun x => (x.2 : Int)
theorem ixs_nil {α : Type} (p : α → Prop) : ixs p [] = [] := rfl
theorem ixs_snoc {α : Type} (p : α → Prop) (l : List α) (a : α) : ixs p (l ++ [a]) = if p a then ixs p l ++ [(l.length : Int)] else ixs p l := by
  unfold ixs
  rw [List.zipIdx_append]
  by_cases h : p a <;> simp [h]
theorem ixs_take {α : Type} {p : α → Prop} {l : List α} {i : Nat} {a : α} (ht : l.take (i + 1) = l.take i ++ [a]) (hi : i < l.length) : ixs p (l.take (i + 1)) = if p a then ixs p (l.take i) ++ [(i : Int)] else ixs p (l.take i) := by
  rw [ht, ixs_snoc]
  have : (l.take i).length = i := by simp; omega
  rw [this]
theorem ixs_length_le {α : Type} (p : α → Prop) (l : List α) : (ixs p l).length ≤ l.length := by
  unfold ixs
  rw [List.length_map]
  exact Nat.le_trans (List.length_filter_le ..) (by simp)
theorem ixs_length_take {α : Type} (p : α → Prop) (l : List α) (i : Nat) : (ixs p (l.take i)).length ≤ l.length :=
  Nat.le_trans (ixs_length_le ..) (by rw [List.length_take]; omega)
theorem mem_ixs {α : Type} {p : α → Prop} {l : List α} {k : Int} : k ∈ ixs p l ↔ ∃ (i : Nat) (a : α), k = i ∧ l[i]? = some a ∧ p a := by
  unfold ixs
  simp only [List.mem_map, List.mem_filter, decide_eq_true_eq]
  constructor
  · rintro ⟨⟨a, i⟩, ⟨h1, h2⟩, rfl⟩
    refine ⟨i, a, rfl, ?_, h2⟩
    have := List.mem_zipIdx h1
    simp at this
    rw [List.getElem?_eq_some_iff]
    exact ⟨this.1, this.2.symm⟩
  · rintro ⟨i, a, rfl, h1, h2⟩
    refine ⟨(a, i), ⟨?_, h2⟩, rfl⟩
    rw [List.mem_zipIdx_iff_getElem?]
    exact h1
noncomputable abbrev unitsIn (s : State) (i side : Int) : List Int := ixs (fun u : Unit => u.pos = i ∧ u.side = side) s.units
theorem c_spec_sAt (s : State) (i side : Int) (hl : s.units.length ≤ 1048576) : C n_spec_sAt [StateV false s, I i, I side] = some (Lo (unitsIn s i side)) := by
  refine callC p_spec_sAt rfl ?_
  simp [xRun, a_spec_sAt]
  refine list_loop s.units (by omega) (fun n (_ : Unit) => [(7, .own 0 1 (ints (ixs (fun u : Unit => u.pos = i ∧ u.side = side) (s.units.take n)))), (13, I n)]) (fun _ _ => True) default (by simp [ixs_nil, ints]) trivial ?_ ?_
  · intro N E n a z ha hi hm ht hwi _ hN hE
    have hx := ixs_take (p := fun u : Unit => u.pos = i ∧ u.side = side) ht hi
    have hle := ixs_length_take (fun u : Unit => u.pos = i ∧ u.side = side) s.units n
    have hlen : (ixs (fun u : Unit => u.pos = i ∧ u.side = side) (s.units.take n)).length + 1 ≤ 68719476736 := by omega
    by_cases h1 : a.pos = i
    · by_cases h2 : a.side = side
      · rw [if_pos ⟨h1, h2⟩] at hx
        simp [bodyF, b_spec_sAt_0, hi, ha, at_of ha, Unit.enc, h1, h2, hwi, ints_length, hlen, rowsOf]
        refine hN _ z ?_ trivial
        rw [hx]
        simp [ints]
      · rw [if_neg (fun h => h2 h.2)] at hx
        simp [bodyF, b_spec_sAt_0, hi, ha, at_of ha, Unit.enc, h1, h2, hwi]
        refine hN _ z ?_ trivial
        rw [hx]
        simp
    · rw [if_neg (fun h => h1 h.1)] at hx
      simp [bodyF, b_spec_sAt_0, hi, ha, at_of ha, Unit.enc, h1, hwi]
      refine hN _ z ?_ trivial
      rw [hx]
      simp
  · intro N E z _ hE
    simp [bodyF, b_spec_sAt_0]
    refine hE _ _ fun st => ?_
    simp
theorem c_impl_unitsAt (s : State) (i : Int) (hl : s.units.length ≤ 1048576) : C n_impl_unitsAt [StateV false s, I i] = some (Lo (ixs (fun u : Unit => u.pos = i) s.units)) := by
  refine callC p_impl_unitsAt rfl ?_
  simp [xRun, a_impl_unitsAt, rowsOf]
  refine list_loop s.units (by omega) (fun n (_ : Unit) => [(5, .own 0 1 (ints (ixs (fun u : Unit => u.pos = i) (s.units.take n)))), (12, I n)]) (fun _ _ => True) default (by simp [ixs_nil, ints]) trivial ?_ ?_
  · intro N E n a z ha hi hm ht hwi _ hN hE
    have hx := ixs_take (p := fun u : Unit => u.pos = i) ht hi
    have hle := ixs_length_take (fun u : Unit => u.pos = i) s.units n
    have hlen : (ixs (fun u : Unit => u.pos = i) (s.units.take n)).length + 1 ≤ 68719476736 := by omega
    by_cases h1 : a.pos = i
    · rw [if_pos h1] at hx
      simp [bodyF, b_impl_unitsAt_0, hi, ha, at_of ha, Unit.enc, h1, hwi, ints_length, hlen, rowsOf]
      refine hN _ z ?_ trivial
      rw [hx]
      simp [ints]
    · rw [if_neg h1] at hx
      simp [bodyF, b_impl_unitsAt_0, hi, ha, at_of ha, Unit.enc, h1, hwi]
      refine hN _ z ?_ trivial
      rw [hx]
      simp
  · intro N E z _ hE
    simp [bodyF, b_impl_unitsAt_0]
    refine hE _ _ fun st => ?_
    simp
/-- The side of the first unit in a hex, or -1. -/
def ownerM (s : State) (i : Int) : Int := match s.units.find? (fun u => decide (u.pos = i)) with
  | some u => u.side
  | none => -1
theorem ownerM_none {s : State} {i : Int} (hs : ∀ b ∈ s.units, ¬ b.pos = i) : ownerM s i = -1 := by
  have : s.units.find? (fun u => decide (u.pos = i)) = none := by rw [List.find?_eq_none]; simpa using hs
  simp [ownerM, this]
/-- How many units of a side are in a hex. -/
def cnt (l : List Unit) (i side : Int) : Nat := l.countP fun u => decide (u.pos = i) && decide (u.side = side)
theorem ixs_length {α : Type} (p : α → Prop) (l : List α) : (ixs p l).length = l.countP fun a => decide (p a) := by
  unfold ixs
  rw [List.length_map, ← List.countP_eq_length_filter, show (fun x : α × Nat => decide (p x.1)) = (fun a => decide (p a)) ∘ Prod.fst from rfl, ← List.countP_map]
  congr 1
  simp
theorem unitsIn_length (s : State) (i side : Int) : (unitsIn s i side).length = cnt s.units i side := by
  rw [ixs_length]
  unfold cnt
  congr 1
  funext u
  by_cases h1 : u.pos = i <;> by_cases h2 : u.side = side <;> simp [h1, h2]
theorem cnt_snoc (l : List Unit) (u : Unit) (i side : Int) : cnt (l ++ [u]) i side = cnt l i side + if u.pos = i ∧ u.side = side then 1 else 0 := by
  unfold cnt
  rw [List.countP_append, List.countP_singleton]
  by_cases h1 : u.pos = i <;> by_cases h2 : u.side = side <;> simp [h1, h2]
theorem cnt_take (l : List Unit) (n : Nat) (i side : Int) : cnt (l.take n) i side ≤ cnt l i side := List.Sublist.countP_le (List.take_sublist ..)
theorem cnt_pos {l : List Unit} {i side : Int} : 0 < cnt l i side ↔ ∃ u ∈ l, u.pos = i ∧ u.side = side := by
  unfold cnt
  rw [List.countP_pos_iff]
  simp
structure StateOK (b : Board) (s : State) : Prop where
  board : BoardOK b
  turn : 0 ≤ s.turn ∧ s.turn ≤ b.rules.turns
  weather : 0 ≤ s.weather ∧ s.weather ≤ 2
  len : (s.units.length : Int) ≤ 12
  unit : ∀ u ∈ s.units, UnitOK b u
  stack : ∀ u ∈ s.units, 0 ≤ u.pos → cnt s.units u.pos (1 - u.side) = 0 ∧ (cnt s.units u.pos u.side : Int) ≤ b.rules.stack
/-- The same, the stacks left aside. -/
structure StateW (b : Board) (s : State) : Prop where
  board : BoardOK b
  turn : 0 ≤ s.turn ∧ s.turn ≤ b.rules.turns
  weather : 0 ≤ s.weather ∧ s.weather ≤ 2
  len : (s.units.length : Int) ≤ 12
  unit : ∀ u ∈ s.units, UnitOK b u
theorem StateOK.toW {b : Board} {s : State} (h : StateOK b s) : StateW b s := ⟨h.board, h.turn, h.weather, h.len, h.unit⟩
instance {b : Board} {s : State} : Coe (StateOK b s) (StateW b s) := ⟨StateOK.toW⟩
theorem c_spec_sGood (b : Board) (s : State) (hl : LenB b) (hs : Len s.units.length) : C n_spec_sGood [BoardV false b, StateV false s] = some (Bo (decide (StateOK b s))) := by
  refine callC p_spec_sGood rfl ?_
  have e1 := c_spec_bGood b hl
  by_cases h1 : BoardOK b
  rotate_left
  · have hP : ¬ StateOK b s := fun h => h1 h.board
    simp [xRun, a_spec_sGood, e1, h1, hP]
  by_cases h2 : 0 ≤ s.turn ∧ s.turn ≤ b.rules.turns
  rotate_left
  · have hP : ¬ StateOK b s := fun h => h2 h.turn
    simp [xRun, a_spec_sGood, e1, h1, h2, hP]
  by_cases h3 : 0 ≤ s.weather ∧ s.weather ≤ 2
  rotate_left
  · have hP : ¬ StateOK b s := fun h => h3 h.weather
    simp [xRun, a_spec_sGood, e1, h1, h2, h3, hP]
  by_cases h4 : (12 : Int) < s.units.length
  · have hP : ¬ StateOK b s := fun h => by have := h.len; omega
    simp [xRun, a_spec_sGood, e1, h1, h2, h3, h4, hP]
  simp [xRun, a_spec_sGood, e1, h1, h2, h3, h4]
  refine find_loop s.units (by omega) 36 (fun u => ¬ UnitOK b u) (by simp) ?_ ?_
  · intro N E n a ha hi hm hwi hs hN hE
    have e2 := c_spec_sUnit b a h1
    by_cases h5 : UnitOK b a
    · simp [bodyF, b_spec_sGood_0, hi, ha, at_of ha, Unit.enc, e2, h5, hwi]
      exact hN _ (by simp) (by simp [h5])
    · have hP : ¬ StateOK b s := fun h => h5 (h.unit a hm)
      simp [bodyF, b_spec_sGood_0, hi, ha, at_of ha, Unit.enc, e2, h5]
      exact hE _ _ fun st => by simp [hP]
  intro N E hu hE
  have hunit : ∀ u ∈ s.units, UnitOK b u := fun u h => Classical.not_not.1 (hu u h)
  simp [bodyF, b_spec_sGood_0]
  refine hE _ _ fun st => ?_
  simp
  refine find_loop s.units (by omega) 48 (fun u => ¬ (0 ≤ u.pos → cnt s.units u.pos (1 - u.side) = 0 ∧ (cnt s.units u.pos u.side : Int) ≤ b.rules.stack)) (by simp) ?_ ?_
  · intro N E n a ha hi hm hwi hs hN hE
    have hua := hunit a hm
    have hw1 : IntKind.i64.wrap (1 - a.side) = 1 - a.side := wrap_small (by have := hua.side; omega) (by have := hua.side; omega)
    have e2 := c_spec_sAt s a.pos (1 - a.side) (by omega)
    have e3 := c_spec_sAt s a.pos a.side (by omega)
    have l2 := unitsIn_length s a.pos (1 - a.side)
    have l3 := unitsIn_length s a.pos a.side
    by_cases h5 : 0 ≤ a.pos
    rotate_left
    · simp [bodyF, b_spec_sGood_1, hi, ha, at_of ha, Unit.enc, h5, hwi]
      exact hN _ (by simp) (by simp [h5])
    by_cases h6 : 0 < cnt s.units a.pos (1 - a.side)
    · have hP : ¬ StateOK b s := fun h => by have := (h.stack a hm h5).1; omega
      simp [bodyF, b_spec_sGood_1, hi, ha, at_of ha, Unit.enc, h5, hw1, e2, ints_length, l2, h6]
      exact hE _ _ fun st => by simp [hP]
    by_cases h7 : b.rules.stack < cnt s.units a.pos a.side
    · have hP : ¬ StateOK b s := fun h => by have := (h.stack a hm h5).2; omega
      simp [bodyF, b_spec_sGood_1, hi, ha, at_of ha, Unit.enc, h5, hw1, e2, e3, ints_length, l2, l3, h6, h7]
      exact hE _ _ fun st => by simp [hP]
    · simp [bodyF, b_spec_sGood_1, hi, ha, at_of ha, Unit.enc, h5, hw1, e2, e3, ints_length, l2, l3, h6, h7, hwi]
      exact hN _ (by simp) (fun h => h fun _ => ⟨by omega, by omega⟩)
  · intro N E hst hE
    simp [bodyF, b_spec_sGood_1]
    refine hE _ _ fun st => ?_
    have hP : StateOK b s := ⟨h1, h2, h3, by omega, hunit, fun u hu => Classical.not_not.1 (hst u hu)⟩
    simp [hP]
end Go.Abs.W
set_option linter.unusedSimpArgs false
set_option linter.unusedVariables false
set_option maxRecDepth 100000
set_option maxHeartbeats 2000000
namespace Go.Abs.W
open Go Go.Abs Classical
attribute [-simp] Bool.decide_and
/-- How many units of each side are in each hex. -/
def thereR (l : List Unit) (n : Nat) : List (List D) := (List.range n).map fun (h : Nat) => [.int .i64 (cnt l h 0), .int .i64 (cnt l h 1)]
@[simp] theorem thereR_len (l : List Unit) (n : Nat) : (thereR l n).length = n := by simp [thereR]
theorem thereR_at (l : List Unit) {n k : Nat} : ∀ h : k < (thereR l n).length, (thereR l n)[k]'h = [.int .i64 (cnt l k 0), .int .i64 (cnt l k 1)] := by
  intro h; simp [thereR]
theorem thereR_nil (n : Nat) : thereR [] n = List.replicate n [.int .i64 0, .int .i64 0] := by
  unfold thereR
  rw [List.eq_replicate_iff]
  refine ⟨by simp, fun b hb => ?_⟩
  simp at hb
  obtain ⟨h, _, rfl⟩ := hb
  simp [cnt]
theorem thereR_out (l : List Unit) (u : Unit) (n : Nat) (h : u.pos < 0) : thereR (l ++ [u]) n = thereR l n := by
  unfold thereR
  refine List.map_congr_left fun k hk => ?_
  have : ¬ u.pos = (k : Int) := by omega
  simp [cnt_snoc, this]
theorem thereR_set (l : List Unit) (u : Unit) (n : Nat) (h0 : 0 ≤ u.pos) (x y : Int) (hx : x = cnt (l ++ [u]) u.pos 0) (hy : y = cnt (l ++ [u]) u.pos 1) :
    (thereR l n).set u.pos.toNat [.int .i64 x, .int .i64 y] = thereR (l ++ [u]) n := by
  refine List.ext_getElem (by simp) fun k h1 h2 => ?_
  rw [List.getElem_set, thereR_at, thereR_at]
  have hk : ((u.pos.toNat : Nat) : Int) = u.pos := by omega
  split
  · rename_i hh; subst hh; rw [hk, hx, hy]
  · rename_i hh
    have : ¬ u.pos = (k : Int) := by omega
    simp [cnt_snoc, this]
theorem cnt_last (l : List Unit) (i side : Int) : ∀ n, 0 < cnt (l.take n) i side → ∃ (m : Nat) (v : Unit), m < n ∧ l[m]? = some v ∧ v.pos = i ∧ v.side = side ∧ cnt (l.take (m + 1)) i side = cnt (l.take n) i side := by
  intro n
  induction n with
  | zero => intro h; simp [cnt] at h
  | succ n ih =>
    intro h
    by_cases hn : n < l.length
    · have ht : l.take (n + 1) = l.take n ++ [l[n]] := by simp
      by_cases hp : l[n].pos = i ∧ l[n].side = side
      · exact ⟨n, l[n], by omega, by simp, hp.1, hp.2, rfl⟩
      · rw [ht, cnt_snoc, if_neg hp] at h ⊢
        obtain ⟨m, v, h1, h2, h3, h4, h5⟩ := ih (by simpa using h)
        exact ⟨m, v, by omega, h2, h3, h4, by simpa using h5⟩
    · have h1 : l.take (n + 1) = l := List.take_of_length_le (by omega)
      have h2 : l.take n = l := List.take_of_length_le (by omega)
      rw [h1] at h ⊢
      rw [h2] at ih
      obtain ⟨m, v, g1, g2⟩ := ih h
      exact ⟨m, v, by omega, g2⟩
theorem stack_iff {l : List Unit} {k : Int} (hs : ∀ u ∈ l, 0 ≤ u.side ∧ u.side ≤ 1)
    (h : ∀ (j : Nat) (u : Unit), l[j]? = some u → 0 ≤ u.pos → cnt (l.take (j + 1)) u.pos (1 - u.side) = 0 ∧ (cnt (l.take (j + 1)) u.pos u.side : Int) ≤ k) :
    ∀ u ∈ l, 0 ≤ u.pos → cnt l u.pos (1 - u.side) = 0 ∧ (cnt l u.pos u.side : Int) ≤ k := by
  intro u hu hp
  obtain ⟨j, hj⟩ := List.mem_iff_getElem?.1 hu
  have hjl := (List.getElem?_eq_some_iff.1 hj).1
  refine ⟨?_, ?_⟩
  · apply Classical.byContradiction
    intro hne
    have hpos : 0 < cnt l u.pos (1 - u.side) := by omega
    obtain ⟨v, hv, hv1, hv2⟩ := cnt_pos.1 hpos
    obtain ⟨m, hm⟩ := List.mem_iff_getElem?.1 hv
    have hml := (List.getElem?_eq_some_iff.1 hm).1
    by_cases hjm : m ≤ j
    · have := (h j u hj hp).1
      have h2 : 0 < cnt (l.take (j + 1)) u.pos (1 - u.side) := cnt_pos.2 ⟨v, List.mem_of_getElem? (i := m) (by rw [List.getElem?_take]; simp [hm]; omega), hv1, hv2⟩
      omega
    · have := (h m v hm (by omega)).1
      have h2 : 0 < cnt (l.take (m + 1)) v.pos (1 - v.side) := cnt_pos.2 ⟨u, List.mem_of_getElem? (i := j) (by rw [List.getElem?_take]; simp [hj]; omega), hv1.symm, by omega⟩
      omega
  · have hpos : 0 < cnt (l.take l.length) u.pos u.side := by rw [List.take_length]; exact cnt_pos.2 ⟨u, hu, rfl, rfl⟩
    obtain ⟨m, v, _, hv, hv1, hv2, hv3⟩ := cnt_last l u.pos u.side l.length hpos
    rw [List.take_length] at hv3
    have := (h m v hv (by omega)).2
    rw [hv1, hv2, hv3] at this
    exact this
theorem stack_if {l : List Unit} {k : Int} (h : ∀ u ∈ l, 0 ≤ u.pos → cnt l u.pos (1 - u.side) = 0 ∧ (cnt l u.pos u.side : Int) ≤ k) (j : Nat) (u : Unit) (hj : l[j]? = some u) (hp : 0 ≤ u.pos) :
    cnt (l.take (j + 1)) u.pos (1 - u.side) = 0 ∧ (cnt (l.take (j + 1)) u.pos u.side : Int) ≤ k := by
  have := h u (List.mem_of_getElem? hj) hp
  have h1 := cnt_take l (j + 1) u.pos (1 - u.side)
  have h2 := cnt_take l (j + 1) u.pos u.side
  omega
theorem cnt_le (l : List Unit) (i side : Int) : cnt l i side ≤ l.length := List.countP_le_length
theorem c_impl_goodState (b : Board) (s : State) (h : BoardOK b) (hs : Len s.units.length) : C n_impl_goodState [BoardV false b, StateV false s] = some (Bo (decide (StateOK b s))) := by
  refine callC p_impl_goodState rfl ?_
  by_cases h2 : 0 ≤ s.turn ∧ s.turn ≤ b.rules.turns
  rotate_left
  · have hP : ¬ StateOK b s := fun h => h2 h.turn
    simp [xRun, a_impl_goodState, h2, hP]
  by_cases h3 : 0 ≤ s.weather ∧ s.weather ≤ 2
  rotate_left
  · have hP : ¬ StateOK b s := fun h => h3 h.weather
    simp [xRun, a_impl_goodState, h2, h3, hP]
  by_cases h4 : (12 : Int) < s.units.length
  · have hP : ¬ StateOK b s := fun h => by have := h.len; omega
    simp [xRun, a_impl_goodState, h2, h3, h4, hP]
  have hsz := h.size_le
  have m1 : 0 ≤ size b := by omega
  have m2 : size b ≤ 68719476736 := by omega
  simp [xRun, a_impl_goodState, h2, h3, h4, m1, m2, -List.replicate]
  rw [← thereR_nil]
  refine list_loop s.units (by omega) (fun i (_ : Unit) => [(5, .own 0 2 (thereR (s.units.take i) (size b).toNat)), (33, I i)])
    (fun i _ => (∀ u ∈ s.units.take i, UnitOK b u) ∧ ∀ (j : Nat) (u : Unit), j < i → s.units[j]? = some u → 0 ≤ u.pos → cnt (s.units.take (j + 1)) u.pos (1 - u.side) = 0 ∧ (cnt (s.units.take (j + 1)) u.pos u.side : Int) ≤ b.rules.stack) default (by simp) (by simp) ?_ ?_
  · intro N E i a z ha hi hm ht hwi ⟨hs1, hs2⟩ hN hE
    have e2 := c_impl_goodUnit b a h
    by_cases h5 : UnitOK b a
    rotate_left
    · have hP : ¬ StateOK b s := fun h => h5 (h.unit a hm)
      simp [bodyF, b_impl_goodState_0, hi, ha, at_of ha, Unit.enc, e2, h5]
      exact hE _ _ fun st => by simp [hP]
    have hall : ∀ u ∈ s.units.take (i + 1), UnitOK b u := by
      intro u hu
      rw [ht] at hu
      rcases List.mem_append.1 hu with hu | hu
      · exact hs1 u hu
      · simp at hu; subst hu; exact h5
    by_cases h6 : a.pos < 0
    · have hth : thereR (s.units.take (i + 1)) (size b).toNat = thereR (s.units.take i) (size b).toNat := by rw [ht, thereR_out _ _ _ h6]
      simp [bodyF, b_impl_goodState_0, hi, ha, at_of ha, Unit.enc, e2, h5, h6, hwi]
      refine hN _ z (by rw [hth]; simp) ⟨hall, fun j u hj hju hp => ?_⟩
      by_cases hji : j = i
      · subst hji; rw [ha] at hju; obtain rfl := Option.some.inj hju; omega
      · exact hs2 j u (by omega) hju hp
    have hon : On b a.pos := h5.pos.elim (fun hh => by omega) fun hh => hh.2.1
    have hk : a.pos.toNat < (size b).toNat := by have := hon.2; have := hon.1; omega
    have hpk : ((a.pos.toNat : Nat) : Int) = a.pos := by omega
    have hset := thereR_set (s.units.take i) a (size b).toNat (by omega)
    rw [← ht] at hset
    have hg1 := thereR_at (s.units.take i) (n := (size b).toNat) (k := a.pos.toNat)
    have hg2 := thereR_at (s.units.take (i + 1)) (n := (size b).toNat) (k := a.pos.toNat)
    have hl1 := thereR_len (s.units.take i) (size b).toNat
    have hl2 := thereR_len (s.units.take (i + 1)) (size b).toNat
    rw [hpk] at hg1 hg2
    have c0 := cnt_snoc (s.units.take i) a a.pos 0
    have c1 := cnt_snoc (s.units.take i) a a.pos 1
    rw [← ht] at c0 c1
    have b0 := cnt_le (s.units.take i) a.pos 0
    have b1 := cnt_le (s.units.take i) a.pos 1
    have b2 : (s.units.take i).length ≤ 12 := by rw [List.length_take]; omega
    have z1 : IntKind.i64.wrap 1 = 1 := by decide
    have z2 : IntKind.i64.wrap 0 = 0 := by decide
    have w0 : IntKind.i64.wrap ((cnt (s.units.take i) a.pos 0 : Int) + 1) = (cnt (s.units.take i) a.pos 0 : Int) + 1 := wrap_small (by omega) (by omega)
    have w1 : IntKind.i64.wrap ((cnt (s.units.take i) a.pos 1 : Int) + 1) = (cnt (s.units.take i) a.pos 1 : Int) + 1 := wrap_small (by omega) (by omega)
    have key : ∀ side other : Int, a.side = side → 1 - side = other → (cnt (s.units.take (i + 1)) a.pos other : Nat) = 0 → ¬ b.rules.stack < (cnt (s.units.take (i + 1)) a.pos side : Nat) →
        ∀ (j : Nat) (u : Unit), j < i + 1 → s.units[j]? = some u → 0 ≤ u.pos → cnt (s.units.take (j + 1)) u.pos (1 - u.side) = 0 ∧ (cnt (s.units.take (j + 1)) u.pos u.side : Int) ≤ b.rules.stack := by
      intro side other ha1 ha2 ha3 ha4 j u hj hju hp
      by_cases hji : j = i
      · subst hji; rw [ha] at hju; obtain rfl := Option.some.inj hju
        subst ha1; subst ha2
        exact ⟨ha3, by omega⟩
      · exact hs2 j u (by omega) hju hp
    have bad : ¬ (cnt (s.units.take (i + 1)) a.pos (1 - a.side) = 0 ∧ (cnt (s.units.take (i + 1)) a.pos a.side : Int) ≤ b.rules.stack) → ¬ StateOK b s := fun hb hh => hb (stack_if hh.stack i a ha (by omega))
    have hside : a.side = 0 ∨ a.side = 1 := by have := h5.side; omega
    generalize hT : thereR (s.units.take i) (size b).toNat = T at *
    generalize hT2 : thereR (s.units.take (i + 1)) (size b).toNat = T2 at *
    rcases hside with h7 | h7
    · rw [if_pos ⟨rfl, h7⟩] at c0
      rw [if_neg (by omega)] at c1
      dsimp only [UnitV] at e2
      rw [h7] at e2
      have hset' := hset ((cnt (s.units.take i) a.pos 0 : Int) + 1) (cnt (s.units.take i) a.pos 1 : Int) (by omega) (by omega)
      rw [c0, c1] at hg2
      try simp only [Nat.add_zero, Int.natCast_add, Int.natCast_one, Int.cast_ofNat_Int] at hg2
      by_cases h8 : 0 < cnt (s.units.take i) a.pos 1
      · have hP := bad (fun hh => by rw [h7] at hh; simp at hh; omega)
        simp [bodyF, b_impl_goodState_0, hi, ha, at_of ha, Unit.enc, e2, h5, h6, h7, hl1, hl2, hk, hg1, hg2, hset', w0, z1, z2, h8]
        exact hE _ _ fun st => by simp [hP]
      by_cases h9 : b.rules.stack < (cnt (s.units.take i) a.pos 0 : Int) + 1
      · have hP := bad (fun hh => by rw [h7] at hh; omega)
        simp [bodyF, b_impl_goodState_0, hi, ha, at_of ha, Unit.enc, e2, h5, h6, h7, hl1, hl2, hk, hg1, hg2, hset', w0, z1, z2, h8, h9]
        exact hE _ _ fun st => by simp [hP]
      · simp [bodyF, b_impl_goodState_0, hi, ha, at_of ha, Unit.enc, e2, h5, h6, h7, hl1, hl2, hk, hg1, hg2, hset', w0, z1, z2, h8, h9, hwi]
        exact hN _ z (by simp [hT2]) ⟨hall, key 0 1 h7 (by omega) (by omega) (by omega)⟩
    · rw [if_neg (by omega)] at c0
      rw [if_pos ⟨rfl, h7⟩] at c1
      dsimp only [UnitV] at e2
      rw [h7] at e2
      have hset' := hset (cnt (s.units.take i) a.pos 0 : Int) ((cnt (s.units.take i) a.pos 1 : Int) + 1) (by omega) (by omega)
      rw [c0, c1] at hg2
      try simp only [Nat.add_zero, Int.natCast_add, Int.natCast_one, Int.cast_ofNat_Int] at hg2
      by_cases h8 : 0 < cnt (s.units.take i) a.pos 0
      · have hP := bad (fun hh => by rw [h7] at hh; simp at hh; omega)
        simp [bodyF, b_impl_goodState_0, hi, ha, at_of ha, Unit.enc, e2, h5, h6, h7, hl1, hl2, hk, hg1, hg2, hset', w1, z1, z2, h8]
        exact hE _ _ fun st => by simp [hP]
      by_cases h9 : b.rules.stack < (cnt (s.units.take i) a.pos 1 : Int) + 1
      · have hP := bad (fun hh => by rw [h7] at hh; omega)
        simp [bodyF, b_impl_goodState_0, hi, ha, at_of ha, Unit.enc, e2, h5, h6, h7, hl1, hl2, hk, hg1, hg2, hset', w1, z1, z2, h8, h9]
        exact hE _ _ fun st => by simp [hP]
      · simp [bodyF, b_impl_goodState_0, hi, ha, at_of ha, Unit.enc, e2, h5, h6, h7, hl1, hl2, hk, hg1, hg2, hset', w1, z1, z2, h8, h9, hwi]
        exact hN _ z (by simp [hT2]) ⟨hall, key 1 0 h7 (by omega) (by omega) (by omega)⟩
  · intro N E z ⟨hs1, hs2⟩ hE
    simp [bodyF, b_impl_goodState_0]
    refine hE _ _ fun st => ?_
    rw [List.take_length] at hs1
    have hP : StateOK b s := ⟨h, h2, h3, by omega, hs1, stack_iff (fun u hu => (hs1 u hu).side) fun j u hj hp => hs2 j u (List.getElem?_eq_some_iff.1 hj).1 hj hp⟩
    simp [hP]
end Go.Abs.W
set_option linter.unusedSimpArgs false
set_option linter.unusedVariables false
set_option maxRecDepth 100000
set_option maxHeartbeats 2000000
namespace Go.Abs.W
open Go Go.Abs Classical
attribute [-simp] Bool.decide_and
theorem c_impl_fits (b : Board) (s : State) (hl : LenB b) (hs : Len s.units.length) : C n_impl_fits [BoardV false b, StateV false s] = some (Bo (decide (StateOK b s))) := by
  refine callC p_impl_fits rfl ?_
  have e1 := c_impl_IsBoard b hl
  by_cases h1 : BoardOK b
  · have e2 := c_impl_goodState b s h1 hs
    simp [xRun, a_impl_fits, e1, h1, e2]
  · have hP : ¬ StateOK b s := fun h => h1 h.board
    simp [xRun, a_impl_fits, e1, h1, hP]
/-- A unit's index. -/
def Has (s : State) (u : Int) : Prop := 0 ≤ u ∧ u < s.units.length
def unitAt (s : State) (u : Int) : Unit := at' s.units u
theorem unit_row {s : State} {u : Int} (h : Has s u) : ∀ h : u.toNat < s.units.length, s.units[u.toNat]'h = unitAt s u := at_get h.1 h.2
/-- The number of an edge that is there. -/
def edgeM (m : Map) (i d : Int) : Int := if d < 3 then 3 * i + d else 3 * nextM m i d + d - 3
def riverM (m : Map) (i d : Int) : Prop := edgeM m i d ∈ m.rivers
def roadM (m : Map) (i d : Int) : Prop := edgeM m i d ∈ m.roads
def freeM (m : Map) (i d : Int) : Prop := ¬ riverM m i d ∨ roadM m i d
theorem c_spec_mEdge (m : Map) (i d : Int) (h : Dim m) (hi : Ix i) (hd : Dir d) : C n_spec_mEdge [MapV false m, I i, I d] = some (I (edgeM m i d)) := by
  refine callC p_spec_mEdge rfl ?_
  have hb := nextM_bounds h i d
  have hs := h.size
  have hi2 := hi
  have hd2 := hd
  unfold Ix at hi2
  unfold Dir at hd2
  have w1 : IntKind.i64.wrap (3 * i) = 3 * i := wrap_small (by omega) (by omega)
  have w2 : IntKind.i64.wrap (3 * i + d) = 3 * i + d := wrap_small (by omega) (by omega)
  have w3 : IntKind.i64.wrap (3 * nextM m i d) = 3 * nextM m i d := wrap_small (by omega) (by omega)
  have w4 : IntKind.i64.wrap (3 * nextM m i d + d) = 3 * nextM m i d + d := wrap_small (by omega) (by omega)
  have w5 : IntKind.i64.wrap (3 * nextM m i d + d - 3) = 3 * nextM m i d + d - 3 := wrap_small (by omega) (by omega)
  by_cases h3 : d < 3
  · simp [xRun, a_spec_mEdge, h3, w1, w2, edgeM]
  · simp [xRun, a_spec_mEdge, h3, c_spec_mNext m i d h hi hd, w3, w4, w5, edgeM]
theorem c_impl_edgeOf (m : Map) (i d : Int) (h : Dim m) (hi : Ix i) (hd : Dir d) (hn : 0 ≤ nextM m i d) : C n_impl_edgeOf [MapV false m, I i, I d] = some (I (edgeM m i d)) := by
  refine callC p_impl_edgeOf rfl ?_
  have hb := nextM_bounds h i d
  have hs := h.size
  have hi2 := hi
  have hd2 := hd
  unfold Ix at hi2
  unfold Dir at hd2
  have w1 : IntKind.i64.wrap (3 * i) = 3 * i := wrap_small (by omega) (by omega)
  have w2 : IntKind.i64.wrap (3 * i + d) = 3 * i + d := wrap_small (by omega) (by omega)
  have w3 : IntKind.i64.wrap (3 * nextM m i d) = 3 * nextM m i d := wrap_small (by omega) (by omega)
  have w4 : IntKind.i64.wrap (3 * nextM m i d + d) = 3 * nextM m i d + d := wrap_small (by omega) (by omega)
  have w5 : IntKind.i64.wrap (3 * nextM m i d + d - 3) = 3 * nextM m i d + d - 3 := wrap_small (by omega) (by omega)
  have hn' : ¬ nextM m i d < 0 := by omega
  by_cases h3 : d < 3
  · simp [xRun, a_impl_edgeOf, c_impl_nextTo m i d h hi hd, hn', h3, w1, w2, edgeM]
  · simp [xRun, a_impl_edgeOf, c_impl_nextTo m i d h hi hd, hn', h3, w3, w4, w5, edgeM]
theorem c_spec_mRiver (m : Map) (i d : Int) (h : Dim m) (hi : Ix i) (hd : Dir d) (hl : LenM m) : C n_spec_mRiver [MapV false m, I i, I d] = some (Bo (decide (riverM m i d))) := by
  refine callC p_spec_mRiver rfl ?_
  simp [xRun, a_spec_mRiver, c_spec_mEdge m i d h hi hd, c_spec_l1Has m.rivers _ hl.v, riverM]
  exact decide_eq_decide.2 Iff.rfl
theorem c_spec_mRoad (m : Map) (i d : Int) (h : Dim m) (hi : Ix i) (hd : Dir d) (hl : LenM m) : C n_spec_mRoad [MapV false m, I i, I d] = some (Bo (decide (roadM m i d))) := by
  refine callC p_spec_mRoad rfl ?_
  simp [xRun, a_spec_mRoad, c_spec_mEdge m i d h hi hd, c_spec_l1Has m.roads _ hl.d, roadM]
  exact decide_eq_decide.2 Iff.rfl
theorem c_impl_crossesFreely (m : Map) (e : Int) (hl : LenM m) : C n_impl_crossesFreely [MapV false m, I e] = some (Bo (decide (¬ e ∈ m.rivers ∨ e ∈ m.roads))) := by
  refine callC p_impl_crossesFreely rfl ?_
  have e1 := c_slices_Contains_int_int m.rivers e hl.v
  have e2 := c_slices_Contains_int_int m.roads e hl.d
  by_cases h1 : e ∈ m.rivers <;> by_cases h2 : e ∈ m.roads <;> simp [xRun, a_impl_crossesFreely, e1, e2, h1, h2]
/-- The directions. -/
def dirsL : List Int := [0, 1, 2, 3, 4, 5]
theorem dirs_at {i : Nat} {a : Int} (h : dirsL[i]? = some a) : a = i ∧ Dir a ∧ (i : Int) < 6 := by
  have hi : i < 6 := (List.getElem?_eq_some_iff.1 h).1
  have : i = 0 ∨ i = 1 ∨ i = 2 ∨ i = 3 ∨ i = 4 ∨ i = 5 := by omega
  unfold Dir
  rcases this with rfl | rfl | rfl | rfl | rfl | rfl <;> simp [dirsL] at h <;> subst h <;> simp
/-- The first direction in which a hex lies, or -1. -/
noncomputable def dirTo (m : Map) (a i : Int) : Int := firstIx (fun d => nextM m a d = i) dirsL
theorem firstIx_dirs {p : Int → Prop} (h : 0 ≤ firstIx p dirsL) : p (firstIx p dirsL) ∧ Dir (firstIx p dirsL) := by
  unfold firstIx at h ⊢
  cases hf : dirsL.findIdx? (fun a => decide (p a)) with
  | none => rw [hf] at h; simp at h
  | some i =>
    rw [List.findIdx?_eq_some_iff_getElem] at hf
    obtain ⟨hi, h1, _⟩ := hf
    have ha : dirsL[i]? = some dirsL[i] := by simp
    obtain ⟨h2, h3, _⟩ := dirs_at ha
    simp only
    rw [← h2]
    exact ⟨by simpa using h1, h3⟩
theorem dirTo_next {m : Map} {a i : Int} (h : 0 ≤ dirTo m a i) : nextM m a (dirTo m a i) = i ∧ Dir (dirTo m a i) := firstIx_dirs h
/-- A unit exerts control on a hex. -/
def Ctl (b : Board) (u : Unit) (i : Int) : Prop := 0 ≤ u.pos ∧ (kindAt b u.kind).zone = true ∧ ¬ cost b u.kind i = 0 ∧ 0 ≤ dirTo b.map u.pos i ∧ freeM b.map u.pos (dirTo b.map u.pos i)
theorem On.ix {b : Board} {i : Int} (h : On b i) (hb : BoardOK b) : Ix i := by
  have := hb.size_le; unfold On at h; unfold Ix; omega
theorem UnitOK.on {b : Board} {u : Unit} (h : UnitOK b u) (hp : 0 ≤ u.pos) : On b u.pos := h.pos.elim (fun hh => by omega) fun hh => hh.2.1
theorem c_impl_controls (b : Board) (u : Unit) (i : Int) (hl : LenB b) (h : BoardOK b) (hu : UnitOK b u) (hi : On b i) : C n_impl_controls [BoardV false b, UnitV u, I i] = some (Bo (decide (Ctl b u i))) := by
  refine callC p_impl_controls rfl ?_
  by_cases h1 : u.pos < 0
  · have hP : ¬ Ctl b u i := fun h => by have := h.1; omega
    simp [xRun, a_impl_controls, h1, hP]
  have n1 : ¬ u.kind < 0 := by have := hu.kind.1; omega
  have k1 := at_lt (l := b.rules.kinds) hu.kind.1 hu.kind.2
  have k2 : ∀ h, b.rules.kinds[u.kind.toNat]'h = kindAt b u.kind := at_get hu.kind.1 hu.kind.2
  by_cases h2 : (kindAt b u.kind).zone = true
  rotate_left
  · have hP : ¬ Ctl b u i := fun h => h2 h.2.1
    simp [xRun, a_impl_controls, h1, n1, k1, k2, Kind.enc, h2, hP]
  have e1 := c_impl_enterCost b u.kind i h hu.kind hi
  by_cases h3 : cost b u.kind i = 0
  · have hP : ¬ Ctl b u i := fun h => h.2.2.1 h3
    simp [xRun, a_impl_controls, h1, n1, k1, k2, Kind.enc, h2, e1, h3, hP]
  have hon := hu.on (by omega)
  have hd := h.map.dim
  simp [xRun, a_impl_controls, h1, n1, k1, k2, Kind.enc, h2, e1, h3]
  refine find_loop dirsL (by simp [dirsL]) 30 (fun d => nextM b.map u.pos d = i) (by simp) ?_ ?_
  · intro N E n a ha hlt hm hwi hs hN hE
    obtain ⟨rfl, g2, g3⟩ := dirs_at ha
    have e2 := c_impl_nextTo b.map u.pos n hd (hon.ix h) g2
    by_cases h4 : nextM b.map u.pos n = i
    · have e3 := c_impl_edgeOf b.map u.pos n hd (hon.ix h) g2 (by rw [h4]; exact hi.1)
      have e4 := c_impl_crossesFreely b.map (edgeM b.map u.pos n) hl.m
      have hdir : dirTo b.map u.pos i = n := firstIx_at ha h4 hs
      have hP : (¬ edgeM b.map u.pos n ∈ b.map.rivers ∨ edgeM b.map u.pos n ∈ b.map.roads) ↔ Ctl b u i := by
        constructor
        · intro hh
          refine ⟨by omega, h2, h3, by rw [hdir]; omega, ?_⟩
          rw [hdir]; exact hh
        · intro hh
          have := hh.2.2.2.2
          rw [hdir] at this; exact this
      simp [bodyF, b_impl_controls_0, g3, e2, h4, e3, e4]
      refine hE _ _ fun st => ?_
      simp
      rw [← hP]
      by_cases hx : edgeM b.map u.pos n ∈ b.map.rivers <;> simp [hx]
    · simp [bodyF, b_impl_controls_0, g3, e2, h4, hwi]
      exact hN _ (by simp) h4
  · intro N E hs hE
    have hP : ¬ Ctl b u i := fun hh => by
      have := hh.2.2.2.1
      unfold dirTo at this
      rw [firstIx_none hs] at this
      omega
    simp [bodyF, b_impl_controls_0, dirsL]
    exact hE _ _ fun st => by simp [hP]
theorem c_spec_zExerts (b : Board) (s : State) (u i : Int) (hl : LenB b) (h : StateW b s) (hu : Has s u) (hi : On b i) : C n_spec_zExerts [BoardV false b, StateV false s, I u, I i] = some (Bo (decide (Ctl b (unitAt s u) i))) := by
  refine callC p_spec_zExerts rfl ?_
  have hb := h.board
  have huo : UnitOK b (unitAt s u) := h.unit _ (at_mem hu.1 hu.2)
  have n0 : ¬ u < 0 := by have := hu.1; omega
  have r1 := at_lt (l := s.units) hu.1 hu.2
  have r2 := unit_row hu
  generalize unitAt s u = x at *
  by_cases h1 : x.pos < 0
  · have hP : ¬ Ctl b x i := fun h => by have := h.1; omega
    simp [xRun, a_spec_zExerts, n0, r1, r2, Unit.enc, h1, hP]
  have n1 : ¬ x.kind < 0 := by have := huo.kind.1; omega
  have k1 := at_lt (l := b.rules.kinds) huo.kind.1 huo.kind.2
  have k2 : ∀ h, b.rules.kinds[x.kind.toNat]'h = kindAt b x.kind := at_get huo.kind.1 huo.kind.2
  by_cases h2 : (kindAt b x.kind).zone = true
  rotate_left
  · have hP : ¬ Ctl b x i := fun h => h2 h.2.1
    simp [xRun, a_spec_zExerts, n0, r1, r2, Unit.enc, h1, n1, k1, k2, Kind.enc, h2, hP]
  have e1 := c_spec_bCost b x.kind i hb huo.kind hi
  by_cases h3 : cost b x.kind i = 0
  · have hP : ¬ Ctl b x i := fun h => h.2.2.1 h3
    simp [xRun, a_spec_zExerts, n0, r1, r2, Unit.enc, h1, n1, k1, k2, Kind.enc, h2, e1, h3, hP]
  have hon := huo.on (by omega)
  have hd := hb.map.dim
  simp [xRun, a_spec_zExerts, n0, r1, r2, Unit.enc, h1, n1, k1, k2, Kind.enc, h2, e1, h3]
  refine find_loop dirsL (by simp [dirsL]) 10 (fun d => nextM b.map x.pos d = i) (by simp) ?_ ?_
  · intro N E n a ha hlt hm hwi hs hN hE
    obtain ⟨rfl, g2, g3⟩ := dirs_at ha
    have e2 := c_spec_mNext b.map x.pos n hd (hon.ix hb) g2
    by_cases h4 : nextM b.map x.pos n = i
    · have e3 := c_spec_mRiver b.map x.pos n hd (hon.ix hb) g2 hl.m
      have e4 := c_spec_mRoad b.map x.pos n hd (hon.ix hb) g2 hl.m
      have hdir : dirTo b.map x.pos i = n := firstIx_at ha h4 hs
      have hP : freeM b.map x.pos n ↔ Ctl b x i := by
        constructor
        · intro hh
          refine ⟨by omega, h2, h3, by rw [hdir]; omega, ?_⟩
          rw [hdir]; exact hh
        · intro hh
          have := hh.2.2.2.2
          rw [hdir] at this; exact this
      unfold freeM at hP
      by_cases h5 : riverM b.map x.pos n
      · by_cases h6 : roadM b.map x.pos n
        · have hQ := hP.1 (.inr h6)
          simp [bodyF, b_spec_zExerts_0, g3, e2, h4, e3, e4, h5, h6]
          exact hE _ _ fun st => by simp [hQ]
        · have hQ : ¬ Ctl b x i := fun hh => (hP.2 hh).elim (fun h => h h5) h6
          simp [bodyF, b_spec_zExerts_0, g3, e2, h4, e3, e4, h5, h6]
          exact hE _ _ fun st => by simp [hQ]
      · have hQ := hP.1 (.inl h5)
        simp [bodyF, b_spec_zExerts_0, g3, e2, h4, e3, e4, h5]
        exact hE _ _ fun st => by simp [hQ]
    · simp [bodyF, b_spec_zExerts_0, g3, e2, h4, hwi]
      exact hN _ (by simp) h4
  · intro N E hs hE
    have hP : ¬ Ctl b x i := fun hh => by
      have := hh.2.2.2.1
      unfold dirTo at this
      rw [firstIx_none hs] at this
      omega
    simp [bodyF, b_spec_zExerts_0, dirsL]
    exact hE _ _ fun st => by simp [hP]
theorem StateW.lens {b : Board} {s : State} (h : StateW b s) : s.units.length ≤ 12 := by have := h.len; omega
theorem StateOK.lens {b : Board} {s : State} (h : StateOK b s) : s.units.length ≤ 12 := by have := h.len; omega
/-- A hex is in the zone of a side. -/
def InZ (b : Board) (s : State) (side i : Int) : Prop := ∃ u ∈ s.units, u.side = side ∧ Ctl b u i
theorem c_impl_inZone (b : Board) (s : State) (side i : Int) (hl : LenB b) (h : StateW b s) (hi : On b i) : C n_impl_inZone [BoardV false b, StateV false s, I side, I i] = some (Bo (decide (InZ b s side i))) := by
  refine callC p_impl_inZone rfl ?_
  have hs12 := h.lens
  simp [xRun, a_impl_inZone]
  refine find_loop s.units (by omega) 14 (fun u => u.side = side ∧ Ctl b u i) (by simp) ?_ ?_
  · intro N E n a ha hlt hm hwi hs hN hE
    have e1 := c_impl_controls b a i hl h.board (h.unit a hm) hi
    by_cases h1 : a.side = side
    · by_cases h2 : Ctl b a i
      · have hP : InZ b s side i := ⟨a, hm, h1, h2⟩
        dsimp only [UnitV] at e1
        rw [h1] at e1
        simp [bodyF, b_impl_inZone_0, hlt, ha, at_of ha, Unit.enc, h1, e1, h2]
        exact hE _ _ fun st => by simp [hP]
      · dsimp only [UnitV] at e1
        rw [h1] at e1
        simp [bodyF, b_impl_inZone_0, hlt, ha, at_of ha, Unit.enc, h1, e1, h2, hwi]
        exact hN _ (by simp) (fun hh => h2 hh.2)
    · simp [bodyF, b_impl_inZone_0, hlt, ha, at_of ha, Unit.enc, h1, hwi]
      exact hN _ (by simp) (fun hh => h1 hh.1)
  · intro N E hs hE
    have hP : ¬ InZ b s side i := fun ⟨u, hu, hh⟩ => hs u hu hh
    simp [bodyF, b_impl_inZone_0]
    exact hE _ _ fun st => by simp [hP]
theorem c_spec_zSources (b : Board) (s : State) (side i : Int) (hl : LenB b) (h : StateW b s) (hi : On b i) : C n_spec_zSources [BoardV false b, StateV false s, I side, I i] = some (Lo (ixs (fun u : Unit => u.side = side ∧ Ctl b u i) s.units)) := by
  refine callC p_spec_zSources rfl ?_
  have hs12 := h.lens
  simp [xRun, a_spec_zSources]
  refine list_loop s.units (by omega) (fun n (_ : Unit) => [(9, .own 0 1 (ints (ixs (fun u : Unit => u.side = side ∧ Ctl b u i) (s.units.take n)))), (15, I n)]) (fun _ _ => True) default (by simp [ixs_nil, ints]) trivial ?_ ?_
  · intro N E n a z ha hlt hm ht hwi _ hN hE
    have hx := ixs_take (p := fun u : Unit => u.side = side ∧ Ctl b u i) ht hlt
    have hle := ixs_length_take (fun u : Unit => u.side = side ∧ Ctl b u i) s.units n
    have hlen : (ixs (fun u : Unit => u.side = side ∧ Ctl b u i) (s.units.take n)).length + 1 ≤ 68719476736 := by omega
    have hhas : Has s (n : Int) := ⟨by omega, by omega⟩
    have e1 := c_spec_zExerts b s n i hl h hhas hi
    rw [show unitAt s (n : Int) = a from at_nat ha] at e1
    by_cases h1 : a.side = side
    · by_cases h2 : Ctl b a i
      · rw [if_pos ⟨h1, h2⟩] at hx
        simp [bodyF, b_spec_zSources_0, hlt, ha, at_of ha, Unit.enc, h1, e1, h2, hwi, ints_length, hlen, rowsOf]
        refine hN _ z ?_ trivial
        rw [hx]
        simp [ints]
      · rw [if_neg (fun h => h2 h.2)] at hx
        simp [bodyF, b_spec_zSources_0, hlt, ha, at_of ha, Unit.enc, h1, e1, h2, hwi]
        refine hN _ z ?_ trivial
        rw [hx]
        simp
    · rw [if_neg (fun h => h1 h.1)] at hx
      simp [bodyF, b_spec_zSources_0, hlt, ha, at_of ha, Unit.enc, h1, hwi]
      refine hN _ z ?_ trivial
      rw [hx]
      simp
  · intro N E z _ hE
    simp [bodyF, b_spec_zSources_0]
    refine hE _ _ fun st => ?_
    simp
theorem ixs_pos {α : Type} {p : α → Prop} {l : List α} : 0 < (ixs p l).length ↔ ∃ a ∈ l, p a := by
  rw [ixs_length, List.countP_pos_iff]; simp
theorem c_spec_zIn (b : Board) (s : State) (i side : Int) (hl : LenB b) (h : StateW b s) (hi : On b i) : C n_spec_zIn [BoardV false b, StateV false s, I i, I side] = some (Bo (decide (InZ b s side i))) := by
  refine callC p_spec_zIn rfl ?_
  have e1 := c_spec_zSources b s side i hl h hi
  have hx := ixs_pos (p := fun u : Unit => u.side = side ∧ Ctl b u i) (l := s.units)
  by_cases h1 : InZ b s side i
  · simp [xRun, a_spec_zIn, e1, ints_length, h1, hx.2 h1]
  · have h2 : ¬ 0 < (ixs (fun u : Unit => u.side = side ∧ Ctl b u i) s.units).length := fun hh => h1 (hx.1 hh)
    simp [xRun, a_spec_zIn, e1, ints_length, h1, h2]
/-- The reason of zones against a step. -/
noncomputable def zoneR (b : Board) (s : State) (x : Unit) (to : Int) (moved : Bool) : Int := if InZ b s (1 - x.side) x.pos ∧ (moved = true ∨ InZ b s (1 - x.side) to) then 5 else 0
theorem side_wrap {b : Board} {u : Unit} (h : UnitOK b u) : IntKind.i64.wrap (1 - u.side) = 1 - u.side := wrap_small (by have := h.side; omega) (by have := h.side; omega)
theorem c_impl_zoneReason (b : Board) (s : State) (x : Unit) (to : Int) (moved : Bool) (hl : LenB b) (h : StateW b s) (hx : UnitOK b x) (hp : 0 ≤ x.pos) (ht : On b to) :
    C n_impl_zoneReason [BoardV false b, StateV false s, UnitV x, I to, Bo moved] = some (I (zoneR b s x to moved)) := by
  refine callC p_impl_zoneReason rfl ?_
  have e1 := c_impl_inZone b s (1 - x.side) x.pos hl h (hx.on hp)
  have e2 := c_impl_inZone b s (1 - x.side) to hl h ht
  have hw := side_wrap hx
  by_cases h1 : InZ b s (1 - x.side) x.pos
  · cases moved with
    | true => simp [xRun, a_impl_zoneReason, hw, e1, h1, zoneR]
    | false => by_cases h2 : InZ b s (1 - x.side) to <;> simp [xRun, a_impl_zoneReason, hw, e1, e2, h1, h2, zoneR]
  · simp [xRun, a_impl_zoneReason, hw, e1, h1, zoneR]
theorem c_spec_fZone (b : Board) (s : State) (u d : Int) (moved : Bool) (hl : LenB b) (h : StateW b s) (hu : Has s u) (hp : 0 ≤ (unitAt s u).pos) (hd : Dir d) (hn : 0 ≤ nextM b.map (unitAt s u).pos d) :
    C n_spec_fZone [BoardV false b, StateV false s, I u, I d, Bo moved] = some (I (zoneR b s (unitAt s u) (nextM b.map (unitAt s u).pos d) moved)) := by
  refine callC p_spec_fZone rfl ?_
  have hx : UnitOK b (unitAt s u) := h.unit _ (at_mem hu.1 hu.2)
  have n0 : ¬ u < 0 := by have := hu.1; omega
  have r1 := at_lt (l := s.units) hu.1 hu.2
  have r2 := unit_row hu
  generalize unitAt s u = x at *
  have hpo := hx.on hp
  have hon : On b (nextM b.map x.pos d) := by
    have := nextM_bounds h.board.map.dim x.pos d
    rw [h.board.size_eq] at this
    exact ⟨hn, by omega⟩
  have e0 := c_spec_mNext b.map x.pos d h.board.map.dim (hpo.ix h.board) hd
  have e1 := c_spec_zIn b s x.pos (1 - x.side) hl h hpo
  have e2 := c_spec_zIn b s (nextM b.map x.pos d) (1 - x.side) hl h hon
  have hw := side_wrap hx
  by_cases h1 : InZ b s (1 - x.side) x.pos
  · cases moved with
    | true => simp [xRun, a_spec_fZone, n0, r1, r2, Unit.enc, hw, e1, h1, zoneR]
    | false => by_cases h2 : InZ b s (1 - x.side) (nextM b.map x.pos d) <;> simp [xRun, a_spec_fZone, n0, r1, r2, Unit.enc, hw, e0, e1, e2, h1, h2, zoneR]
  · simp [xRun, a_spec_fZone, n0, r1, r2, Unit.enc, hw, e1, h1, zoneR]
end Go.Abs.W
set_option linter.unusedSimpArgs false
set_option linter.unusedVariables false
set_option maxRecDepth 100000
set_option maxHeartbeats 2000000
namespace Go.Abs.W
open Go Go.Abs Classical
attribute [-simp] Bool.decide_and
abbrev Tup2 (a b : D) : AV := .tup [some (.one a), some (.one b)]
theorem next_on {b : Board} (h : BoardOK b) {a d : Int} (hn : 0 ≤ nextM b.map a d) : On b (nextM b.map a d) := by
  have := nextM_bounds h.map.dim a d
  rw [h.size_eq] at this
  exact ⟨hn, by omega⟩
theorem left0 : Left 1048576 := by unfold Left; omega
/-- What a step costs in addition. -/
def wthr (w : Int) (road : Bool) : Int := if road = true ∧ 0 < w then w - 1 else w
def Wth (w : Int) : Prop := 0 ≤ w ∧ w ≤ 2
theorem wthr_le {w : Int} (h : Wth w) (r : Bool) : 0 ≤ wthr w r ∧ wthr w r ≤ 2 := by unfold Wth at h; unfold wthr; split <;> omega
theorem c_spec_csWeather (w : Int) (road : Bool) (h : Wth w) : C n_spec_csWeather [I w, Bo road] = some (I (wthr w road)) := by
  refine callC p_spec_csWeather rfl ?_
  have : w = 0 ∨ w = 1 ∨ w = 2 := by unfold Wth at h; omega
  have z0 : IntKind.i64.wrap 0 = 0 := by decide
  have z1 : IntKind.i64.wrap 1 = 1 := by decide
  rcases this with rfl | rfl | rfl <;> cases road <;> simp [xRun, a_spec_csWeather, wthr, z0, z1]
theorem c_impl_weatherCost (w : Int) (road : Bool) (h : Wth w) : C n_impl_weatherCost [I w, Bo road] = some (I (wthr w road)) := by
  refine callC p_impl_weatherCost rfl ?_
  have : w = 0 ∨ w = 1 ∨ w = 2 := by unfold Wth at h; omega
  have z0 : IntKind.i64.wrap 0 = 0 := by decide
  have z1 : IntKind.i64.wrap 1 = 1 := by decide
  rcases this with rfl | rfl | rfl <;> cases road <;> simp [xRun, a_impl_weatherCost, wthr, z0, z1]
/-- The cost of a step, or 0. -/
noncomputable def stepM (b : Board) (k w i d : Int) : Int := if nextM b.map i d < 0 ∨ cost b k (nextM b.map i d) = 0 then 0 else
  if roadM b.map i d then b.rules.road + wthr w true else cost b k (nextM b.map i d) + wthr w false + (if riverM b.map i d then b.rules.river else 0)
theorem stepM_le {b : Board} (h : BoardOK b) {k w i d : Int} (hk : KindOf b k) (hw : Wth w) : 0 ≤ stepM b k w i d ∧ stepM b k w i d ≤ 20 := by
  unfold stepM
  have h1 := h.rules.road
  have h2 := h.rules.river
  have h3 := wthr_le hw true
  have h4 := wthr_le hw false
  split
  · omega
  · rename_i hh
    have h5 := h.cost_le hk (next_on h (a := i) (d := d) (by omega))
    split
    · omega
    · split <;> omega
theorem c_spec_cStep (b : Board) (k i d w : Int) (hl : LenB b) (h : BoardOK b) (hk : KindOf b k) (hi : On b i) (hd : Dir d) (hw : Wth w) :
    C n_spec_cStep [BoardV false b, I k, I i, I d, I w] = some (I (stepM b k w i d)) := by
  refine callC p_spec_cStep rfl ?_
  have hm := h.map.dim
  have e1 := c_spec_mNext b.map i d hm (hi.ix h) hd
  by_cases h1 : nextM b.map i d < 0
  · simp [xRun, a_spec_cStep, e1, h1, stepM]
  have hn := next_on h (a := i) (d := d) (by omega)
  have e2 := c_spec_bCost b k _ h hk hn
  by_cases h2 : cost b k (nextM b.map i d) = 0
  · simp [xRun, a_spec_cStep, e1, h1, e2, h2, stepM]
  have e3 := c_spec_mRoad b.map i d hm (hi.ix h) hd hl.m
  have e4 := c_spec_mRiver b.map i d hm (hi.ix h) hd hl.m
  have e5 := c_spec_csWeather w true hw
  have e6 := c_spec_csWeather w false hw
  have h7 := h.rules.road
  have h8 := h.rules.river
  have h9 := wthr_le hw true
  have h10 := wthr_le hw false
  have h11 := h.cost_le hk hn
  have w1 : IntKind.i64.wrap (b.rules.road + wthr w true) = b.rules.road + wthr w true := wrap_small (by omega) (by omega)
  have w2 : IntKind.i64.wrap (cost b k (nextM b.map i d) + wthr w false) = cost b k (nextM b.map i d) + wthr w false := wrap_small (by omega) (by omega)
  have w3 : IntKind.i64.wrap (cost b k (nextM b.map i d) + wthr w false + b.rules.river) = cost b k (nextM b.map i d) + wthr w false + b.rules.river := wrap_small (by omega) (by omega)
  by_cases h3 : roadM b.map i d
  · simp [xRun, a_spec_cStep, e1, h1, e2, h2, e3, h3, e5, w1, stepM]
  · by_cases h4 : riverM b.map i d
    · simp [xRun, a_spec_cStep, e1, h1, e2, h2, e3, h3, e4, h4, e6, w2, w3, stepM]
    · simp [xRun, a_spec_cStep, e1, h1, e2, h2, e3, h3, e4, h4, e6, w2, w3, stepM]
theorem c_impl_stepCost (b : Board) (k w i d : Int) (hl : LenB b) (h : BoardOK b) (hk : KindOf b k) (hi : On b i) (hd : Dir d) (hw : Wth w) :
    C n_impl_stepCost [BoardV false b, I k, I w, I i, I d] = some (I (stepM b k w i d)) := by
  refine callC p_impl_stepCost rfl ?_
  have hm := h.map.dim
  have e1 := c_impl_nextTo b.map i d hm (hi.ix h) hd
  by_cases h1 : nextM b.map i d < 0
  · simp [xRun, a_impl_stepCost, e1, h1, stepM]
  have hn := next_on h (a := i) (d := d) (by omega)
  have e2 := c_impl_enterCost b k _ h hk hn
  by_cases h2 : cost b k (nextM b.map i d) = 0
  · simp [xRun, a_impl_stepCost, e1, h1, e2, h2, stepM]
  have e0 := c_impl_edgeOf b.map i d hm (hi.ix h) hd (by omega)
  have e3 := c_slices_Contains_int_int b.map.roads (edgeM b.map i d) hl.m.d
  have e4 := c_slices_Contains_int_int b.map.rivers (edgeM b.map i d) hl.m.v
  have e5 := c_impl_weatherCost w true hw
  have e6 := c_impl_weatherCost w false hw
  have h7 := h.rules.road
  have h8 := h.rules.river
  have h9 := wthr_le hw true
  have h10 := wthr_le hw false
  have h11 := h.cost_le hk hn
  have w1 : IntKind.i64.wrap (b.rules.road + wthr w true) = b.rules.road + wthr w true := wrap_small (by omega) (by omega)
  have w2 : IntKind.i64.wrap (cost b k (nextM b.map i d) + wthr w false) = cost b k (nextM b.map i d) + wthr w false := wrap_small (by omega) (by omega)
  have w3 : IntKind.i64.wrap (cost b k (nextM b.map i d) + wthr w false + b.rules.river) = cost b k (nextM b.map i d) + wthr w false + b.rules.river := wrap_small (by omega) (by omega)
  by_cases h3 : edgeM b.map i d ∈ b.map.roads
  · have h3' : roadM b.map i d := h3
    simp [xRun, a_impl_stepCost, e1, h1, e2, h2, e0, e3, h3, h3', e5, w1, stepM]
  · have h3' : ¬ roadM b.map i d := h3
    by_cases h4 : edgeM b.map i d ∈ b.map.rivers
    · have h4' : riverM b.map i d := h4
      simp [xRun, a_impl_stepCost, e1, h1, e2, h2, e0, e3, h3, h3', e4, h4, h4', e6, w2, w3, stepM]
    · have h4' : ¬ riverM b.map i d := h4
      simp [xRun, a_impl_stepCost, e1, h1, e2, h2, e0, e3, h3, h3', e4, h4, h4', e6, w2, w3, stepM]
/-- There is room for a unit of a side. -/
def RoomM (b : Board) (s : State) (side i : Int) : Prop := cnt s.units i (1 - side) = 0 ∧ (cnt s.units i side : Int) < b.rules.stack
def Side (side : Int) : Prop := 0 ≤ side ∧ side ≤ 1
theorem owner_cases {b : Board} {s : State} (h : StateOK b s) {i : Int} (hi : 0 ≤ i) :
    (ownerM s i = -1 ∧ cnt s.units i 0 = 0 ∧ cnt s.units i 1 = 0) ∨ (Side (ownerM s i) ∧ 0 < cnt s.units i (ownerM s i) ∧ cnt s.units i (1 - ownerM s i) = 0 ∧ ∃ u ∈ s.units, u.pos = i ∧ u.side = ownerM s i) := by
  cases hf : s.units.find? (fun u => decide (u.pos = i)) with
  | none =>
    left
    rw [List.find?_eq_none] at hf
    have h0 : ∀ side, cnt s.units i side = 0 := fun side => by
      apply Classical.byContradiction
      intro hh
      obtain ⟨u, hu, hp, _⟩ := cnt_pos.1 (show 0 < cnt s.units i side by omega)
      exact hf u hu (by simpa using hp)
    exact ⟨ownerM_none fun u hu hp => hf u hu (by simpa using hp), h0 0, h0 1⟩
  | some u =>
    right
    have ho : ownerM s i = u.side := by simp [ownerM, hf]
    have hm := List.mem_of_find?_eq_some hf
    have hp : u.pos = i := by simpa using List.find?_some hf
    rw [ho]
    have := h.stack u hm (by omega)
    rw [hp] at this
    exact ⟨(h.unit u hm).side, cnt_pos.2 ⟨u, hm, hp, rfl⟩, this.1, u, hm, hp, rfl⟩
/-- A unit can advance into a hex. -/
def CanM (b : Board) (s : State) (x : Unit) (i : Int) : Prop := 0 ≤ dirTo b.map x.pos i ∧ 0 < stepM b x.kind s.weather x.pos (dirTo b.map x.pos i) ∧ RoomM b s x.side i
end Go.Abs.W
set_option linter.unusedSimpArgs false
set_option linter.unusedVariables false
set_option maxRecDepth 100000
set_option maxHeartbeats 2000000
namespace Go.Abs.W
open Go Go.Abs Classical
attribute [-simp] Bool.decide_and
structure LenBattle (x : Battle) : Prop where
  a : Len x.attackers.length
  d : Len x.defenders.length
/-- A unit is in a neighbour of a hex. -/
def Near (b : Board) (i : Int) (x : Unit) : Prop := 0 ≤ x.pos ∧ 0 ≤ dirTo b.map i x.pos
/-- The side on which a unit stands, or -1. -/
noncomputable def sideM (m : Map) (i p : Int) : Int := firstIx (fun d => 0 ≤ nextM m i d ∧ nextM m i d = p) dirsL
structure BattleOK (b : Board) (s : State) (x : Battle) : Prop where
  pos : On b x.pos
  own : 0 ≤ ownerM s x.pos
  ne : ¬ x.attackers = []
  inc : Inc x.attackers
  att : ∀ k ∈ x.attackers, Has s k ∧ ¬ (unitAt s k).side = ownerM s x.pos ∧ Near b x.pos (unitAt s k)
  dfd : x.defenders = unitsIn s x.pos (ownerM s x.pos)
def sumI (f : Int → Int) (l : List Int) : Int := (l.map f).sum
theorem sumI_nil (f : Int → Int) : sumI f [] = 0 := rfl
theorem sumI_snoc (f : Int → Int) (l : List Int) (a : Int) : sumI f (l ++ [a]) = sumI f l + f a := by simp [sumI]
theorem sumI_le (f : Int → Int) (l : List Int) (h : ∀ a ∈ l, 0 ≤ f a ∧ f a ≤ 36) : 0 ≤ sumI f l ∧ sumI f l ≤ 36 * l.length := by
  induction l with
  | nil => simp [sumI]
  | cons a l ih =>
    have h1 := h a (List.mem_cons_self ..)
    have h2 := ih fun x hx => h x (List.mem_cons_of_mem _ hx)
    simp only [sumI, List.map_cons, List.sum_cons, List.length_cons] at h2 ⊢
    omega
theorem BattleOK.d_has {b : Board} {s : State} {x : Battle} (h : BattleOK b s x) : ∀ k ∈ x.defenders, Has s k := by
  intro k hk
  rw [h.dfd] at hk
  obtain ⟨i, a, rfl, ha, _⟩ := mem_ixs.1 hk
  exact ⟨by omega, by have := (List.getElem?_eq_some_iff.1 ha).1; omega⟩
theorem Has.ok {b : Board} {s : State} (h : StateOK b s) {u : Int} (hu : Has s u) : UnitOK b (unitAt s u) := h.unit _ (at_mem hu.1 hu.2)
end Go.Abs.W
set_option linter.unusedSimpArgs false
set_option linter.unusedVariables false
set_option maxRecDepth 100000
set_option maxHeartbeats 2000000
namespace Go.Abs.W
open Go Go.Abs Classical
attribute [-simp] Bool.decide_and
end Go.Abs.W
set_option linter.unusedSimpArgs false
set_option linter.unusedVariables false
set_option maxRecDepth 100000
set_option maxHeartbeats 2000000
namespace Go.Abs.W
open Go Go.Abs Classical
attribute [-simp] Bool.decide_and
theorem ints_nil : ints [] = [] := rfl
@[simp] theorem safe_ints (l : List Int) : safeLL (ints l) = true := by
  induction l with
  | nil => rfl
  | cons x l ih => simp only [ints, List.map_cons] at ih ⊢; simp [safeLL, safeL, D.safe, ih]
@[simp] theorem safe_rows (l : List (List Int)) : safeLL (rowsOfL true l) = true := by
  induction l with
  | nil => rfl
  | cons x l ih => simp only [rowsOfL, List.map_cons] at ih ⊢; simp [safeLL, safeL, D.safe, ih]
theorem ints_snoc (l : List Int) (n : Int) : ints l ++ [[D.int .i64 n]] = ints (l ++ [n]) := by simp [ints]
/-- The units that are somewhere. -/
theorem ixs_unit {s : State} {p : Unit → Prop} {k : Int} : k ∈ ixs p s.units ↔ Has s k ∧ p (unitAt s k) := by
  rw [mem_ixs]
  constructor
  · rintro ⟨i, a, rfl, h1, h2⟩
    have hi := (List.getElem?_eq_some_iff.1 h1).1
    have : unitAt s (i : Int) = a := at_nat h1
    exact ⟨⟨by omega, by omega⟩, by rw [this]; exact h2⟩
  · rintro ⟨h1, h2⟩
    refine ⟨k.toNat, unitAt s k, by have := h1.1; omega, ?_, h2⟩
    exact at_some h1.1 h1.2
end Go.Abs.W
