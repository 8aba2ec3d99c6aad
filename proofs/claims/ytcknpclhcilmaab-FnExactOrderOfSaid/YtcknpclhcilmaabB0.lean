import Derived.Test.YtcknpclhcilmaabCode
import GoSem.ClaimData
set_option linter.unusedSimpArgs false
set_option linter.unusedVariables false
namespace Go.Abs.W
open Go Go.Abs
attribute [simp] trim trimFrom trimV List.replicate
abbrev I (n : Int) : AV := .val (.one (.int .i64 n))
abbrev Bo (b : Bool) : AV := .val (.one (.bool b))
abbrev St (s : ByteArray) : AV := .val (.one (.str s))
def ints (l : List Int) : List (List D) := l.map fun n => [D.int .i64 n]
/-- A list of numbers that is looked at; one of one's own. -/
abbrev Li (l : List Int) : AV := .val (.one (.list false 1 (ints l)))
abbrev Lo (l : List Int) : AV := .val (.one (.list true 1 (ints l)))
theorem ints_length (l : List Int) : (ints l).length = l.length := by simp [ints]
theorem ints_at {l : List Int} {i : Nat} {n : Int} (h : l[i]? = some n) : (ints l)[i]? = some [D.int .i64 n] := by simp [ints, h]
theorem wrap_small {n : Int} (h0 : -4611686018427387904 ≤ n) (h1 : n ≤ 4611686018427387904) : IntKind.i64.wrap n = n := by rw [IntKind.wrap_i64]; omega
@[simp] theorem nat_neg (i : Nat) : ((i : Int) < 0) = False := by simp
theorem at_of {α : Type} {l : List α} {i : Nat} {a : α} (h : l[i]? = some a) : ∀ h : i < l.length, l[i]'h = a := fun _ => (List.getElem?_eq_some_iff.1 h).2
/-- All calls of the program. -/
noncomputable abbrev C (f : FuncId) (args : List AV) : Option AV := callF prog hand glob f args
theorem callC {f : FuncId} {x : AFn} {args : List AV} {r : AV} (hx : prog f = some x) (hh : hand f = none) (h : xRun (callF prog hand glob) glob x args = some r) : C f args = some r := call_of hh hx h

/-- Goals of a round: what is looked into is the round's run alone. -/
@[congr] theorem Round_congr {o o' : Option (AE × Nat × Env)} (N : Env → Prop) (E : AE → Env → Prop) (h : o = o') : Round o N E = Round o' N E := by rw [h]
section
variable {α σ R : Type} {res : R} {P : Option R → Prop} {body : Env → Option (AE × Nat × Env)} {keep out : List Nat} {e : Env} {k : AE → Nat → Env → Option R}
/-- A loop over a list: s, what the slots hold; Inv, what holds of it in front of element i. -/
theorem list_loopP (l : List α) (hl : l.length ≤ 4611686018427387000) (ch : Nat → σ → Upd) (Inv : Nat → σ → Prop) (s0 : σ)
    (he : Env.app (trim keep e) (ch 0 s0) = trim keep e) (h0 : Inv 0 s0)
    (hround : ∀ (N : Env → Prop) (E : AE → Env → Prop) (i : Nat) (a : α) (s : σ), l[i]? = some a → i < l.length → a ∈ l → l.take (i + 1) = l.take i ++ [a] → IntKind.i64.wrap ((i : Int) + 1) = ((i + 1 : Nat) : Int) → Inv i s →
      (∀ e' s', trim keep e' = Env.app (trim keep e) (ch (i + 1) s') → Inv (i + 1) s' → N e') → (∀ x e', (∀ st, P (k x st (trim out e'))) → E x e') → Round (body (Env.app (trim keep e) (ch i s))) N E)
    (hend : ∀ (N : Env → Prop) (E : AE → Env → Prop) (s : σ), Inv l.length s → (∀ x e', (∀ st, P (k x st (trim out e'))) → E x e') → Round (body (Env.app (trim keep e) (ch l.length s))) N E) :
    P (loopE (loopF body keep e) out k) := by
  have key : ∀ (m i : Nat) (s : σ) (e1 : Env), m = l.length - i → i ≤ l.length → Inv i s → trim keep e1 = Env.app (trim keep e) (ch i s) → LoopTo body keep out e1 fun x e' => ∀ st, P (k x st e') := by
    intro m
    induction m with
    | zero =>
      intro i s e1 hm hi hs h1
      have : i = l.length := by omega
      subst this
      exact .round h1 fun N hN => hend _ _ s hs fun x e' h => h
    | succ m ih =>
      intro i s e1 hm hi hs h1
      have hlt : i < l.length := by omega
      have ha : l[i]? = some l[i] := by simp [hlt]
      refine .round h1 fun N hN => hround _ _ i l[i] s ha hlt (List.getElem_mem hlt) (by simp) (by rw [wrap_small (by omega) (by omega)]; rfl) hs (fun e' s' h2 h3 => hN e' (ih (i + 1) s' e' (by omega) (by omega) h3 h2)) fun x e' h => h
  obtain ⟨x, st, e', h1, h2⟩ := key l.length 0 s0 e (by omega) (by omega) h0 he.symm
  unfold loopE
  rw [h1]
  exact h2 _
/-- A loop that looks for the first element that p holds of; t: the slot of the index. -/
theorem find_loopP (l : List α) (hl : l.length ≤ 4611686018427387000) (t : Nat) (p : α → Prop)
    (he : Env.app (trim keep e) [(t, I 0)] = trim keep e)
    (hround : ∀ (N : Env → Prop) (E : AE → Env → Prop) (i : Nat) (a : α), l[i]? = some a → i < l.length → a ∈ l → IntKind.i64.wrap ((i : Int) + 1) = ((i + 1 : Nat) : Int) → (∀ b ∈ l.take i, ¬ p b) →
      (∀ e', trim keep e' = Env.app (trim keep e) [(t, I ((i + 1 : Nat) : Int))] → ¬ p a → N e') → (∀ x e', (∀ st, P (k x st (trim out e'))) → E x e') → Round (body (Env.app (trim keep e) [(t, I (i : Int))])) N E)
    (hend : ∀ (N : Env → Prop) (E : AE → Env → Prop), (∀ b ∈ l, ¬ p b) → (∀ x e', (∀ st, P (k x st (trim out e'))) → E x e') → Round (body (Env.app (trim keep e) [(t, I (l.length : Int))])) N E) :
    P (loopE (loopF body keep e) out k) := by
  refine list_loopP l hl (fun i (_ : PUnit) => [(t, I (i : Int))]) (fun i _ => ∀ b ∈ l.take i, ¬ p b) ⟨⟩ he (by simp) ?_ ?_
  · intro N E i a s ha hi hm ht hw hs hN hE
    refine hround N E i a ha hi hm hw hs (fun e' h1 h2 => hN e' s h1 fun b hb => ?_) hE
    rw [ht] at hb
    rcases List.mem_append.1 hb with hb | hb
    · exact hs b hb
    · simp at hb; subst hb; exact h2
  · intro N E s hs hE
    rw [List.take_length] at hs
    exact hend N E hs hE
/-- A loop with a measure. -/
theorem while_loopP (ch : σ → Upd) (Inv : σ → Prop) (m : σ → Nat) (s0 : σ)
    (he : Env.app (trim keep e) (ch s0) = trim keep e) (h0 : Inv s0)
    (hround : ∀ (N : Env → Prop) (E : AE → Env → Prop) (s : σ), Inv s →
      (∀ e' s', trim keep e' = Env.app (trim keep e) (ch s') → Inv s' → m s' < m s → N e') → (∀ x e', (∀ st, P (k x st (trim out e'))) → E x e') → Round (body (Env.app (trim keep e) (ch s))) N E) :
    P (loopE (loopF body keep e) out k) := by
  have key : ∀ (n : Nat) (s : σ) (e1 : Env), m s < n → Inv s → trim keep e1 = Env.app (trim keep e) (ch s) → LoopTo body keep out e1 fun x e' => ∀ st, P (k x st e') := by
    intro n
    induction n with
    | zero => intro s e1 hn; omega
    | succ n ih =>
      intro s e1 hn hs h1
      exact .round h1 fun N hN => hround _ _ s hs (fun e' s' h2 h3 h4 => hN e' (ih s' e' (by omega) h3 h2)) fun x e' h => h
  obtain ⟨x, st, e', h1, h2⟩ := key (m s0 + 1) s0 e (by omega) h0 he.symm
  unfold loopE
  rw [h1]
  exact h2 _
theorem list_loop (l : List α) (hl : l.length ≤ 4611686018427387000) (ch : Nat → σ → Upd) (Inv : Nat → σ → Prop) (s0 : σ)
    (he : Env.app (trim keep e) (ch 0 s0) = trim keep e) (h0 : Inv 0 s0)
    (hround : ∀ (N : Env → Prop) (E : AE → Env → Prop) (i : Nat) (a : α) (s : σ), l[i]? = some a → i < l.length → a ∈ l → l.take (i + 1) = l.take i ++ [a] → IntKind.i64.wrap ((i : Int) + 1) = ((i + 1 : Nat) : Int) → Inv i s →
      (∀ e' s', trim keep e' = Env.app (trim keep e) (ch (i + 1) s') → Inv (i + 1) s' → N e') → (∀ x e', (∀ st, k x st (trim out e') = some res) → E x e') → Round (body (Env.app (trim keep e) (ch i s))) N E)
    (hend : ∀ (N : Env → Prop) (E : AE → Env → Prop) (s : σ), Inv l.length s → (∀ x e', (∀ st, k x st (trim out e') = some res) → E x e') → Round (body (Env.app (trim keep e) (ch l.length s))) N E) :
    loopE (loopF body keep e) out k = some res := list_loopP (P := fun o => o = some res) l hl ch Inv s0 he h0 hround hend
theorem list_loopR {k : AE → Nat → Env → Option (AE × Nat × Env)} {N0 : Env → Prop} {E0 : AE → Env → Prop} (l : List α) (hl : l.length ≤ 4611686018427387000) (ch : Nat → σ → Upd) (Inv : Nat → σ → Prop) (s0 : σ)
    (he : Env.app (trim keep e) (ch 0 s0) = trim keep e) (h0 : Inv 0 s0)
    (hround : ∀ (N : Env → Prop) (E : AE → Env → Prop) (i : Nat) (a : α) (s : σ), l[i]? = some a → i < l.length → a ∈ l → l.take (i + 1) = l.take i ++ [a] → IntKind.i64.wrap ((i : Int) + 1) = ((i + 1 : Nat) : Int) → Inv i s →
      (∀ e' s', trim keep e' = Env.app (trim keep e) (ch (i + 1) s') → Inv (i + 1) s' → N e') → (∀ x e', (∀ st, Round (k x st (trim out e')) N0 E0) → E x e') → Round (body (Env.app (trim keep e) (ch i s))) N E)
    (hend : ∀ (N : Env → Prop) (E : AE → Env → Prop) (s : σ), Inv l.length s → (∀ x e', (∀ st, Round (k x st (trim out e')) N0 E0) → E x e') → Round (body (Env.app (trim keep e) (ch l.length s))) N E) :
    Round (loopE (loopF body keep e) out k) N0 E0 := list_loopP (P := fun o => Round o N0 E0) l hl ch Inv s0 he h0 hround hend
theorem find_loop (l : List α) (hl : l.length ≤ 4611686018427387000) (t : Nat) (p : α → Prop)
    (he : Env.app (trim keep e) [(t, I 0)] = trim keep e)
    (hround : ∀ (N : Env → Prop) (E : AE → Env → Prop) (i : Nat) (a : α), l[i]? = some a → i < l.length → a ∈ l → IntKind.i64.wrap ((i : Int) + 1) = ((i + 1 : Nat) : Int) → (∀ b ∈ l.take i, ¬ p b) →
      (∀ e', trim keep e' = Env.app (trim keep e) [(t, I ((i + 1 : Nat) : Int))] → ¬ p a → N e') → (∀ x e', (∀ st, k x st (trim out e') = some res) → E x e') → Round (body (Env.app (trim keep e) [(t, I (i : Int))])) N E)
    (hend : ∀ (N : Env → Prop) (E : AE → Env → Prop), (∀ b ∈ l, ¬ p b) → (∀ x e', (∀ st, k x st (trim out e') = some res) → E x e') → Round (body (Env.app (trim keep e) [(t, I (l.length : Int))])) N E) :
    loopE (loopF body keep e) out k = some res := find_loopP (P := fun o => o = some res) l hl t p he hround hend
theorem find_loopR {k : AE → Nat → Env → Option (AE × Nat × Env)} {N0 : Env → Prop} {E0 : AE → Env → Prop} (l : List α) (hl : l.length ≤ 4611686018427387000) (t : Nat) (p : α → Prop)
    (he : Env.app (trim keep e) [(t, I 0)] = trim keep e)
    (hround : ∀ (N : Env → Prop) (E : AE → Env → Prop) (i : Nat) (a : α), l[i]? = some a → i < l.length → a ∈ l → IntKind.i64.wrap ((i : Int) + 1) = ((i + 1 : Nat) : Int) → (∀ b ∈ l.take i, ¬ p b) →
      (∀ e', trim keep e' = Env.app (trim keep e) [(t, I ((i + 1 : Nat) : Int))] → ¬ p a → N e') → (∀ x e', (∀ st, Round (k x st (trim out e')) N0 E0) → E x e') → Round (body (Env.app (trim keep e) [(t, I (i : Int))])) N E)
    (hend : ∀ (N : Env → Prop) (E : AE → Env → Prop), (∀ b ∈ l, ¬ p b) → (∀ x e', (∀ st, Round (k x st (trim out e')) N0 E0) → E x e') → Round (body (Env.app (trim keep e) [(t, I (l.length : Int))])) N E) :
    Round (loopE (loopF body keep e) out k) N0 E0 := find_loopP (P := fun o => Round o N0 E0) l hl t p he hround hend
theorem while_loop (ch : σ → Upd) (Inv : σ → Prop) (m : σ → Nat) (s0 : σ)
    (he : Env.app (trim keep e) (ch s0) = trim keep e) (h0 : Inv s0)
    (hround : ∀ (N : Env → Prop) (E : AE → Env → Prop) (s : σ), Inv s →
      (∀ e' s', trim keep e' = Env.app (trim keep e) (ch s') → Inv s' → m s' < m s → N e') → (∀ x e', (∀ st, k x st (trim out e') = some res) → E x e') → Round (body (Env.app (trim keep e) (ch s))) N E) :
    loopE (loopF body keep e) out k = some res := while_loopP (P := fun o => o = some res) ch Inv m s0 he h0 hround
theorem while_loopR {k : AE → Nat → Env → Option (AE × Nat × Env)} {N0 : Env → Prop} {E0 : AE → Env → Prop} (ch : σ → Upd) (Inv : σ → Prop) (m : σ → Nat) (s0 : σ)
    (he : Env.app (trim keep e) (ch s0) = trim keep e) (h0 : Inv s0)
    (hround : ∀ (N : Env → Prop) (E : AE → Env → Prop) (s : σ), Inv s →
      (∀ e' s', trim keep e' = Env.app (trim keep e) (ch s') → Inv s' → m s' < m s → N e') → (∀ x e', (∀ st, Round (k x st (trim out e')) N0 E0) → E x e') → Round (body (Env.app (trim keep e) (ch s))) N E) :
    Round (loopE (loopF body keep e) out k) N0 E0 := while_loopP (P := fun o => Round o N0 E0) ch Inv m s0 he h0 hround
end
end Go.Abs.W
set_option linter.unusedSimpArgs false
set_option linter.unusedVariables false
namespace Go.Abs.W
open Go Go.Abs
structure Terrain where
  name : ByteArray
  cost : List Int
  shift : Int
  height : Int
  blocks : Bool
  deriving Inhabited
structure Kind where
  name : ByteArray
  strength : Int
  moves : Int
  steps : Int
  zone : Bool
  view : Int
  deriving Inhabited
structure Unit where
  side : Int
  kind : Int
  pos : Int
  steps : Int
  deriving Inhabited
structure Rules where
  terrains : List Terrain
  kinds : List Kind
  stack : Int
  river : Int
  road : Int
  supply : Int
  turns : Int
  deriving Inhabited
structure Map where
  width : Int
  height : Int
  terrain : List Int
  rivers : List Int
  roads : List Int
  deriving Inhabited
structure Board where
  rules : Rules
  map : Map
  deriving Inhabited
structure State where
  turn : Int
  weather : Int
  units : List Unit
  deriving Inhabited
structure Battle where
  pos : Int
  attackers : List Int
  defenders : List Int
  deriving Inhabited
structure Attempt where
  unit : Int
  src : Int
  dst : Int
  deriving Inhabited
structure Order where
  unit : Int
  path : List Int
  attack : Int
  deriving Inhabited
structure Sheet where
  side : Int
  orders : List Order
  deriving Inhabited
structure Odds where
  num : Int
  den : Int
  deriving Inhabited
structure CombatTable where
  columns : List Odds
  dice : Int
  results : List (List Int)
  deriving Inhabited
structure Attack where
  unit : Int
  pos : Int
  deriving Inhabited
def Terrain.enc (o : Bool) (t : Terrain) : List D := [.str t.name, .list o 1 (ints t.cost), .int .i64 t.shift, .int .i64 t.height, .bool t.blocks]
def Kind.enc (k : Kind) : List D := [.str k.name, .int .i64 k.strength, .int .i64 k.moves, .int .i64 k.steps, .bool k.zone, .int .i64 k.view]
def Unit.enc (u : Unit) : List D := [.int .i64 u.side, .int .i64 u.kind, .int .i64 u.pos, .int .i64 u.steps]
def Attempt.enc (a : Attempt) : List D := [.int .i64 a.unit, .int .i64 a.src, .int .i64 a.dst]
def Order.enc (o : Bool) (a : Order) : List D := [.int .i64 a.unit, .list o 1 (ints a.path), .int .i64 a.attack]
def Odds.enc (a : Odds) : List D := [.int .i64 a.num, .int .i64 a.den]
def Attack.enc (a : Attack) : List D := [.int .i64 a.unit, .int .i64 a.pos]
def rowsOfL (o : Bool) (l : List (List Int)) : List (List D) := l.map fun r => [.list o 1 (ints r)]
/-- The cells of a struct that is looked at. -/
def RulesL (r : Rules) : List D := [.list false 5 (r.terrains.map (Terrain.enc false)), .list false 6 (r.kinds.map Kind.enc), .int .i64 r.stack, .int .i64 r.river, .int .i64 r.road, .int .i64 r.supply, .int .i64 r.turns]
def MapL (m : Map) : List D := [.int .i64 m.width, .int .i64 m.height, .list false 1 (ints m.terrain), .list false 1 (ints m.rivers), .list false 1 (ints m.roads)]
def BoardL (b : Board) : List D := RulesL b.rules ++ MapL b.map
def StateL (s : State) : List D := [.int .i64 s.turn, .int .i64 s.weather, .list false 4 (s.units.map Unit.enc)]
def BattleL (x : Battle) : List D := [.int .i64 x.pos, .list false 1 (ints x.attackers), .list false 1 (ints x.defenders)]
def SheetL (x : Sheet) : List D := [.int .i64 x.side, .list false 3 (x.orders.map (Order.enc false))]
def CombatTableL (t : CombatTable) : List D := [.list false 2 (t.columns.map Odds.enc), .int .i64 t.dice, .list false 1 (rowsOfL false t.results)]
/-- A list of rows, own or looked at. -/
abbrev Rows (o : Bool) (e : Nat) (rows : List (List D)) : AV := .val (.one (.list o e rows))
abbrev TerrainV (o : Bool) (t : Terrain) : AV := .val (.agg [.str t.name, .list o 1 (ints t.cost), .int .i64 t.shift, .int .i64 t.height, .bool t.blocks])
abbrev KindV (k : Kind) : AV := .val (.agg [.str k.name, .int .i64 k.strength, .int .i64 k.moves, .int .i64 k.steps, .bool k.zone, .int .i64 k.view])
abbrev UnitV (u : Unit) : AV := .val (.agg [.int .i64 u.side, .int .i64 u.kind, .int .i64 u.pos, .int .i64 u.steps])
abbrev RulesV (o : Bool) (r : Rules) : AV := .val (.agg [.list o 5 (r.terrains.map (Terrain.enc o)), .list o 6 (r.kinds.map Kind.enc), .int .i64 r.stack, .int .i64 r.river, .int .i64 r.road, .int .i64 r.supply, .int .i64 r.turns])
abbrev MapV (o : Bool) (m : Map) : AV := .val (.agg [.int .i64 m.width, .int .i64 m.height, .list o 1 (ints m.terrain), .list o 1 (ints m.rivers), .list o 1 (ints m.roads)])
abbrev BoardV (o : Bool) (b : Board) : AV := .val (.agg [.list o 5 (b.rules.terrains.map (Terrain.enc o)), .list o 6 (b.rules.kinds.map Kind.enc), .int .i64 b.rules.stack, .int .i64 b.rules.river, .int .i64 b.rules.road, .int .i64 b.rules.supply, .int .i64 b.rules.turns,
  .int .i64 b.map.width, .int .i64 b.map.height, .list o 1 (ints b.map.terrain), .list o 1 (ints b.map.rivers), .list o 1 (ints b.map.roads)])
abbrev StateV (o : Bool) (s : State) : AV := .val (.agg [.int .i64 s.turn, .int .i64 s.weather, .list o 4 (s.units.map Unit.enc)])
abbrev BattleV (o : Bool) (x : Battle) : AV := .val (.agg [.int .i64 x.pos, .list o 1 (ints x.attackers), .list o 1 (ints x.defenders)])
abbrev AttemptV (a : Attempt) : AV := .val (.agg [.int .i64 a.unit, .int .i64 a.src, .int .i64 a.dst])
abbrev OrderV (o : Bool) (a : Order) : AV := .val (.agg [.int .i64 a.unit, .list o 1 (ints a.path), .int .i64 a.attack])
abbrev SheetV (o : Bool) (x : Sheet) : AV := .val (.agg [.int .i64 x.side, .list o 3 (x.orders.map (Order.enc o))])
abbrev OddsV (a : Odds) : AV := .val (.agg [.int .i64 a.num, .int .i64 a.den])
abbrev CombatTableV (o : Bool) (t : CombatTable) : AV := .val (.agg [.list o 2 (t.columns.map Odds.enc), .int .i64 t.dice, .list o 1 (rowsOfL o t.results)])
abbrev AttackV (a : Attack) : AV := .val (.agg [.int .i64 a.unit, .int .i64 a.pos])
/-- Own rows, looked at. -/
@[simp] theorem stale_ints (l : List Int) : staleLL (ints l) = ints l := by
  induction l with
  | nil => rfl
  | cons x l ih => simp only [ints, List.map_cons] at ih ⊢; simp [staleLL, staleL, D.stale, ih]
@[simp] theorem stale_terrains (l : List Terrain) (o : Bool) : staleLL (l.map (Terrain.enc o)) = l.map (Terrain.enc false) := by
  induction l with
  | nil => rfl
  | cons x l ih => simp [staleLL, staleL, D.stale, ih, Terrain.enc]
@[simp] theorem stale_kinds (l : List Kind) : staleLL (l.map Kind.enc) = l.map Kind.enc := by
  induction l with
  | nil => rfl
  | cons x l ih => simp [staleLL, staleL, D.stale, ih, Kind.enc]
@[simp] theorem stale_units (l : List Unit) : staleLL (l.map Unit.enc) = l.map Unit.enc := by
  induction l with
  | nil => rfl
  | cons x l ih => simp [staleLL, staleL, D.stale, ih, Unit.enc]
@[simp] theorem stale_attempts (l : List Attempt) : staleLL (l.map Attempt.enc) = l.map Attempt.enc := by
  induction l with
  | nil => rfl
  | cons x l ih => simp [staleLL, staleL, D.stale, ih, Attempt.enc]
@[simp] theorem stale_orders (l : List Order) (o : Bool) : staleLL (l.map (Order.enc o)) = l.map (Order.enc false) := by
  induction l with
  | nil => rfl
  | cons x l ih => simp [staleLL, staleL, D.stale, ih, Order.enc]
@[simp] theorem stale_odds (l : List Odds) : staleLL (l.map Odds.enc) = l.map Odds.enc := by
  induction l with
  | nil => rfl
  | cons x l ih => simp [staleLL, staleL, D.stale, ih, Odds.enc]
@[simp] theorem stale_attacks (l : List Attack) : staleLL (l.map Attack.enc) = l.map Attack.enc := by
  induction l with
  | nil => rfl
  | cons x l ih => simp [staleLL, staleL, D.stale, ih, Attack.enc]
@[simp] theorem stale_rows (l : List (List Int)) (o : Bool) : staleLL (rowsOfL o l) = rowsOfL false l := by
  induction l with
  | nil => rfl
  | cons x l ih => unfold rowsOfL at *; simp [staleLL, staleL, D.stale, ih]
end Go.Abs.W
set_option linter.unusedSimpArgs false
set_option linter.unusedVariables false
namespace Go.Abs.W
open Go Go.Abs
/-- What is left, or -1. -/
def less (n : Int) (k : Nat) : Int := if n < k then -1 else n - k
/-- A number of which the laws count down. -/
def Left (n : Int) : Prop := 0 ≤ n ∧ n ≤ 1048576
/-- Lengths that memory can hold. -/
def Wide (k : Nat) : Prop := k ≤ maxLen
theorem less_small {n : Int} {k : Nat} (h : Left n) (hk : Wide k) : IntKind.i64.wrap (n - k) = n - k := by
  unfold Left at h; unfold Wide maxLen at hk; rw [IntKind.wrap_i64]; omega
theorem less_yes {n : Int} {k : Nat} (h : n < k) : less n k = -1 := by simp [less, h]
theorem less_no {n : Int} {k : Nat} (h : ¬ n < k) : less n k = n - k := by simp [less, h]
theorem less_left {n : Int} {k : Nat} (hn : Left n) (h : ¬ n < k) : Left (n - k) := by unfold Left at *; omega
def sumN {α : Type} (f : α → Nat) (l : List α) : Nat := (l.map f).sum
theorem sumN_nil {α : Type} (f : α → Nat) : sumN f [] = 0 := rfl
theorem sumN_app {α : Type} (f : α → Nat) (l m : List α) : sumN f (l ++ m) = sumN f l + sumN f m := by simp [sumN]
theorem sumN_one {α : Type} (f : α → Nat) (a : α) : sumN f [a] = f a := by simp [sumN]
theorem sumN_take {α : Type} (f : α → Nat) (l : List α) (i : Nat) : sumN f (l.take i) ≤ sumN f l := by
  conv => rhs; rw [← List.take_append_drop i l, sumN_app]
  exact Nat.le_add_right ..
theorem c_laws_szIntS (l : List Int) (n : Int) (hn : Left n) (hl : Wide l.length) : C n_laws_szIntS [Li l, I n] = some (I (less n l.length)) := by
  refine callC p_laws_szIntS rfl ?_
  have hw := less_small hn hl
  by_cases hc : n < l.length
  · have : n - (l.length : Int) < 0 := by omega
    simp [xRun, a_laws_szIntS, ints_length, less, hw, hc, this]
  · have : ¬ n - (l.length : Int) < 0 := by omega
    simp [xRun, a_laws_szIntS, ints_length, less, hw, hc, this]
def WideT (t : Terrain) : Prop := Wide t.name.size ∧ Wide t.cost.length
def cntT (t : Terrain) : Nat := t.name.size + t.cost.length
/-- One part, then another. -/
theorem less_then {n : Int} (a b : Nat) : (if less n a < 0 then (-1 : Int) else if less (less n a) b < 0 then -1 else less (less n a) b) = less n (a + b) := by
  unfold less; split <;> split <;> (try split) <;> (try split) <;> omega
structure WideR (r : Rules) : Prop where
  ts : Wide r.terrains.length
  t : ∀ t ∈ r.terrains, WideT t
  ks : Wide r.kinds.length
  k : ∀ k ∈ r.kinds, Wide k.name.size
def cntR (r : Rules) : Nat := (r.terrains.length + sumN cntT r.terrains) + (r.kinds.length + sumN (fun t => t.name.size) r.kinds)
structure WideM (m : Map) : Prop where
  t : Wide m.terrain.length
  v : Wide m.rivers.length
  d : Wide m.roads.length
def cntM (m : Map) : Nat := m.terrain.length + m.rivers.length + m.roads.length
structure WideB (b : Board) : Prop where
  r : WideR b.rules
  m : WideM b.map
def cntB (b : Board) : Nat := cntR b.rules + cntM b.map
structure WideBattle (x : Battle) : Prop where
  a : Wide x.attackers.length
  d : Wide x.defenders.length
structure WideSheet (x : Sheet) : Prop where
  n : Wide x.orders.length
  o : ∀ a ∈ x.orders, Wide a.path.length
structure WideTable (t : CombatTable) : Prop where
  c : Wide t.columns.length
  n : Wide t.results.length
  r : ∀ l ∈ t.results, Wide l.length
/-- Lengths that the laws let in. -/
def Len (k : Nat) : Prop := k ≤ 1048576
def LenT (t : Terrain) : Prop := Len t.name.size ∧ Len t.cost.length
structure LenR (r : Rules) : Prop where
  ts : Len r.terrains.length
  t : ∀ t ∈ r.terrains, LenT t
  ks : Len r.kinds.length
  k : ∀ k ∈ r.kinds, Len k.name.size
structure LenM (m : Map) : Prop where
  t : Len m.terrain.length
  v : Len m.rivers.length
  d : Len m.roads.length
structure LenB (b : Board) : Prop where
  r : LenR b.rules
  m : LenM b.map
theorem sumN_mem {α : Type} (f : α → Nat) {l : List α} {a : α} (h : a ∈ l) : f a ≤ sumN f l := by
  obtain ⟨p, q, rfl⟩ := List.append_of_mem h
  rw [sumN_app, show a :: q = [a] ++ q from rfl, sumN_app, sumN_one]; omega
theorem LenR_of {r : Rules} (h : cntR r ≤ 1048576) : LenR r := by
  unfold cntR at h
  refine ⟨by unfold Len; omega, fun t ht => ?_, by unfold Len; omega, fun k hk => ?_⟩
  · have := sumN_mem cntT ht
    have e : cntT t = t.name.size + t.cost.length := rfl
    unfold LenT Len; omega
  · have := sumN_mem (fun t : Kind => t.name.size) hk
    unfold Len; omega
theorem LenM_of {m : Map} (h : cntM m ≤ 1048576) : LenM m := by
  unfold cntM at h; exact ⟨by unfold Len; omega, by unfold Len; omega, by unfold Len; omega⟩
theorem LenB_of {b : Board} (h : cntB b ≤ 1048576) : LenB b := by
  unfold cntB at h; exact ⟨LenR_of (by omega), LenM_of (by omega)⟩
end Go.Abs.W
set_option linter.unusedSimpArgs false
set_option linter.unusedVariables false
set_option maxRecDepth 100000
namespace Go.Abs.W
open Go Go.Abs
section
variable {α : Type}
/-- A list whose first i rows are done, the others as they were made. -/
def fillR (f : α → List D) (z : List D) (l : List α) (i : Nat) : List (List D) := (l.take i).map f ++ (l.drop i).map fun _ => z
theorem fillR_zero (f : α → List D) (z : List D) (l : List α) : fillR f z l 0 = List.replicate l.length z := by simp [fillR, List.map_const']
theorem fillR_end (f : α → List D) (z : List D) (l : List α) : fillR f z l l.length = l.map f := by simp [fillR]
@[simp] theorem fillR_len (f : α → List D) (z : List D) (l : List α) (i : Nat) : (fillR f z l i).length = l.length := by simp [fillR]; omega
theorem fillR_at (f : α → List D) (z : List D) {l : List α} {i : Nat} (hi : i < l.length) : ∀ h : i < (fillR f z l i).length, (fillR f z l i)[i]'h = z := by
  intro h
  have h1 : (fillR f z l i)[i]? = some z := by
    unfold fillR
    rw [List.getElem?_append_right (by simp; omega)]
    have : i - (List.map f (List.take i l)).length = 0 := by simp; omega
    rw [this]
    cases hd : l.drop i with
    | nil => have := congrArg List.length hd; simp at this; omega
    | cons x t => simp
  exact (List.getElem?_eq_some_iff.1 h1).2
theorem fillR_set (f : α → List D) (z : List D) {l : List α} {i : Nat} {a : α} (ha : l[i]? = some a) : (fillR f z l i).set i (f a) = fillR f z l (i + 1) := by
  have hi : i < l.length := (List.getElem?_eq_some_iff.1 ha).1
  have h0 := (List.getElem?_eq_some_iff.1 ha).2
  unfold fillR
  rw [List.set_append_right _ _ (by simp; omega)]
  have : i - (List.map f (List.take i l)).length = 0 := by simp; omega
  rw [this, List.drop_eq_getElem_cons hi, List.map_cons, List.set_cons_zero, List.take_succ_eq_append_getElem hi, List.map_append, h0]
  simp
end
theorem make_ok {k : Nat} (h : Len k) : (k : Int) ≤ 68719476736 := by unfold Len at h; omega
theorem c_laws_toIntS (l : List Int) (hl : Len l.length) : C n_laws_toIntS [Li l] = some (Lo l) := by
  refine callC p_laws_toIntS rfl ?_
  have h0 := make_ok hl
  simp [xRun, a_laws_toIntS, ints_length, h0, -List.replicate]
  refine list_loop l (by unfold Len at hl; omega) (fun i (_ : Unit) => [(3, .own 0 1 (fillR (fun n => [.int .i64 n]) [.int .i64 0] l i)), (4, I i)]) (fun _ _ => True) default (by simp [fillR_zero, -List.replicate]) trivial ?_ ?_
  · intro N E i a s ha hi hm ht hwi _ hN hE
    simp [bodyF, b_laws_toIntS_0, hi, ints_length, ints, ha, at_of ha, hwi, fillR_at _ _ hi, fillR_set (fun n => [D.int .i64 n]) [.int .i64 0] ha]
    exact hN _ s (by simp [ints]) trivial
  · intro N E s _ hE
    simp [bodyF, b_laws_toIntS_0, ints_length]
    refine hE _ _ fun st => ?_
    simp [fillR_end, ints]
theorem c_laws_eqIntS (l : List Int) (hl : Len l.length) : C n_laws_eqIntS [Li l, Li l] = some (Bo true) := by
  refine callC p_laws_eqIntS rfl ?_
  simp [xRun, a_laws_eqIntS, ints_length]
  refine list_loop l (by unfold Len at hl; omega) (fun i (_ : Unit) => [(5, I i)]) (fun _ _ => True) default (by simp) trivial ?_ ?_
  · intro N E i a s ha hi hm ht hwi _ hN hE
    simp [bodyF, b_laws_eqIntS_0, hi, ints_length, ints, ha, at_of ha, hwi]
    exact hN _ s (by simp [ints]) trivial
  · intro N E s _ hE
    simp [bodyF, b_laws_eqIntS_0, ints_length]
    exact hE _ _ fun st => by simp
end Go.Abs.W
set_option linter.unusedSimpArgs false
set_option linter.unusedVariables false
set_option maxRecDepth 100000
namespace Go.Abs.W
open Go Go.Abs Classical
theorem ints_get {l : List Int} {i : Nat} {n : Int} (h : l[i]? = some n) : ∀ h' : i < (ints l).length, (ints l)[i]'h' = [D.int .i64 n] := fun _ => (List.getElem?_eq_some_iff.1 (ints_at h)).2
/-- All of them lie from lo to hi. -/
def AllIn (l : List Int) (lo hi : Int) : Prop := ∀ n ∈ l, lo ≤ n ∧ n ≤ hi
/-- Strictly increasing. -/
def Inc (l : List Int) : Prop := ∀ (i : Nat) a b, l[i]? = some a → l[i + 1]? = some b → a < b
/-- The index of the first element that p holds of, or -1. -/
noncomputable def firstIx {α : Type} (p : α → Prop) (l : List α) : Int := match l.findIdx? (fun a => decide (p a)) with
  | some i => i
  | none => -1
theorem firstIx_at {α : Type} {p : α → Prop} {l : List α} {i : Nat} {a : α} (ha : l[i]? = some a) (hp : p a) (hs : ∀ b ∈ l.take i, ¬ p b) : firstIx p l = i := by
  have hi := (List.getElem?_eq_some_iff.1 ha).1
  have : l.findIdx? (fun a => decide (p a)) = some i := by
    rw [List.findIdx?_eq_some_iff_getElem]
    refine ⟨hi, by simp [at_of ha, hp], fun j hj => ?_⟩
    have := hs (l[j]'(by omega)) (by rw [List.mem_take_iff_getElem]; exact ⟨j, by omega, rfl⟩)
    simpa using this
  simp [firstIx, this]
theorem firstIx_none {α : Type} {p : α → Prop} {l : List α} (hs : ∀ b ∈ l, ¬ p b) : firstIx p l = -1 := by
  have : l.findIdx? (fun a => decide (p a)) = none := by rw [List.findIdx?_eq_none_iff]; simpa using hs
  simp [firstIx, this]
theorem firstIx_neg {α : Type} {p : α → Prop} {l : List α} : firstIx p l < 0 ↔ ∀ b ∈ l, ¬ p b := by
  unfold firstIx
  cases h : l.findIdx? (fun a => decide (p a)) with
  | none => rw [List.findIdx?_eq_none_iff] at h; simp; simpa using h
  | some i =>
    rw [List.findIdx?_eq_some_iff_getElem] at h
    obtain ⟨hi, h1, _⟩ := h
    simp only [iff_def]
    refine ⟨fun hh => by simp at hh, fun hh => absurd (by simpa using h1) (hh _ (List.getElem_mem hi))⟩
end Go.Abs.W
set_option linter.unusedSimpArgs false
set_option linter.unusedVariables false
set_option maxRecDepth 100000
namespace Go.Abs.W
open Go Go.Abs Classical
attribute [-simp] Bool.decide_and
def NameOK (s : ByteArray) : Prop := (∀ b ∈ s.data.toList, 97 ≤ b.toNat ∧ b.toNat ≤ 122) ∧ 1 ≤ (s.size : Int) ∧ (s.size : Int) ≤ 8
theorem bytes_len (s : ByteArray) : s.data.toList.length = s.size := by simp
theorem byte_at {s : ByteArray} {i : Nat} {n : UInt8} (h : s.data.toList[i]? = some n) : ∀ h, s.data[i]'h = n := by
  intro h'; rw [← Array.getElem_toList]; exact (List.getElem?_eq_some_iff.1 h).2
theorem firstIx_pos {α : Type} {p : α → Prop} {l : List α} : 0 ≤ firstIx p l ↔ ∃ b ∈ l, p b := by
  rw [← Int.not_lt, firstIx_neg]; simp
end Go.Abs.W
set_option linter.unusedSimpArgs false
set_option linter.unusedVariables false
set_option maxRecDepth 100000
set_option maxHeartbeats 2000000
namespace Go.Abs.W
open Go Go.Abs Classical
attribute [-simp] Bool.decide_and
structure TerrOK (t : Terrain) (n : Nat) : Prop where
  name : NameOK t.name
  len : (t.cost.length : Int) = n
  cost : AllIn t.cost 0 9
  shift : -3 ≤ t.shift ∧ t.shift ≤ 3
  height : 0 ≤ t.height ∧ t.height ≤ 3
structure KindOK (k : Kind) : Prop where
  name : NameOK k.name
  strength : 1 ≤ k.strength ∧ k.strength ≤ 9
  moves : 0 ≤ k.moves ∧ k.moves ≤ 9
  steps : 1 ≤ k.steps ∧ k.steps ≤ 4
  view : 0 ≤ k.view ∧ k.view ≤ 4
theorem not_ex {α : Type} {l : List α} {p : α → Prop} [DecidablePred p] : decide (∃ b ∈ l, ¬ p b) = !decide (∀ b ∈ l, p b) := by
  rw [← decide_not, decide_eq_decide]
  constructor
  · rintro ⟨b, hb, hp⟩ h; exact hp (h b hb)
  · intro h; exact Classical.byContradiction fun hn => h fun b hb => Classical.byContradiction fun hp => hn ⟨b, hb, hp⟩
structure RulesOK (r : Rules) : Prop where
  ts : 1 ≤ (r.terrains.length : Int) ∧ (r.terrains.length : Int) ≤ 6
  ks : 1 ≤ (r.kinds.length : Int) ∧ (r.kinds.length : Int) ≤ 4
  terr : ∀ (i : Nat) t, r.terrains[i]? = some t → TerrOK t r.kinds.length ∧ firstIx (fun x => x.name = t.name) r.terrains = i
  kind : ∀ (i : Nat) k, r.kinds[i]? = some k → KindOK k ∧ firstIx (fun x => x.name = k.name) r.kinds = i
  stack : 1 ≤ r.stack ∧ r.stack ≤ 4
  river : 0 ≤ r.river ∧ r.river ≤ 9
  road : 1 ≤ r.road ∧ r.road ≤ 9
  supply : 0 ≤ r.supply ∧ r.supply ≤ 20
  turns : 1 ≤ r.turns ∧ r.turns ≤ 30
end Go.Abs.W
set_option linter.unusedSimpArgs false
set_option linter.unusedVariables false
set_option maxRecDepth 100000
set_option maxHeartbeats 2000000
namespace Go.Abs.W
open Go Go.Abs Classical
attribute [-simp] Bool.decide_and
abbrev HexV (q r : Int) : AV := .val (.agg [.int .i64 q, .int .i64 r])
/-- The changes of Q and R in a direction. -/
def dq (d : Int) : Int := if d = 0 ∨ d = 1 then 1 else if d = 3 ∨ d = 4 then -1 else 0
def dr (d : Int) : Int := if d = 1 ∨ d = 2 then -1 else if d = 4 ∨ d = 5 then 1 else 0
/-- A direction. -/
def Dir (d : Int) : Prop := 0 ≤ d ∧ d ≤ 5
theorem Dir.cases {d : Int} (h : Dir d) : d = 0 ∨ d = 1 ∨ d = 2 ∨ d = 3 ∨ d = 4 ∨ d = 5 := by unfold Dir at h; omega
theorem dq_small (d : Int) : -1 ≤ dq d ∧ dq d ≤ 1 := by unfold dq; split <;> (try split) <;> omega
theorem dr_small (d : Int) : -1 ≤ dr d ∧ dr d ≤ 1 := by unfold dr; split <;> (try split) <;> omega
/-- A map's sides. -/
structure Dim (m : Map) : Prop where
  w : 1 ≤ m.width ∧ m.width ≤ 10
  h : 1 ≤ m.height ∧ m.height ≤ 10
theorem mul_bounds {a b x y : Int} (ha : 0 ≤ a ∧ a ≤ x) (hb : 0 ≤ b ∧ b ≤ y) : 0 ≤ a * b ∧ a * b ≤ x * y :=
  ⟨Int.mul_nonneg ha.1 hb.1, Int.mul_le_mul ha.2 hb.2 hb.1 (by omega)⟩
theorem Dim.size {m : Map} (h : Dim m) : 1 ≤ m.width * m.height ∧ m.width * m.height ≤ 100 := by
  have := mul_bounds (a := m.width) (b := m.height) (x := 10) (y := 10) (by have := h.w; omega) (by have := h.h; omega)
  have h2 := Int.mul_pos (a := m.width) (b := m.height) (by have := h.w; omega) (by have := h.h; omega)
  omega
/-- Indices that may be asked for. -/
def Ix (i : Int) : Prop := 0 ≤ i ∧ i ≤ 1000
theorem Ix.div {i w : Int} (h : Ix i) (hw : 1 ≤ w) : 0 ≤ i / w ∧ i / w ≤ 1000 := by
  unfold Ix at h
  exact ⟨Int.ediv_nonneg h.1 (by omega), Int.le_trans (Int.ediv_le_self _ h.1) h.2⟩
theorem Ix.mod {i w : Int} (h : Ix i) (hw : 1 ≤ w) : 0 ≤ i % w ∧ i % w < w := ⟨Int.emod_nonneg _ (by omega), Int.emod_lt_of_pos _ (by omega)⟩
/-- The index of a hex, or -1. -/
def indexM (m : Map) (q r : Int) : Int := if (0 ≤ q ∧ q < m.width) ∧ (0 ≤ r ∧ r < m.height) then r * m.width + q else -1
/-- The index of a neighbour, or -1. -/
def nextM (m : Map) (i d : Int) : Int := indexM m (i % m.width + dq d) (i / m.width + dr d)
theorem indexM_bounds {m : Map} (h : Dim m) (q r : Int) : indexM m q r = -1 ∨ (0 ≤ indexM m q r ∧ indexM m q r < m.width * m.height) := by
  unfold indexM
  split
  · rename_i hh
    right
    have h1 := mul_bounds (a := r) (b := m.width) (x := m.height - 1) (y := m.width) (by omega) (by have := h.w; omega)
    have h2 : (m.height - 1) * m.width = m.width * m.height - m.width := by rw [Int.sub_mul, Int.mul_comm]; simp
    omega
  · left; rfl
theorem nextM_bounds {m : Map} (h : Dim m) (i d : Int) : nextM m i d = -1 ∨ (0 ≤ nextM m i d ∧ nextM m i d < m.width * m.height) := indexM_bounds h _ _
structure EdgeOK (m : Map) (e : Int) : Prop where
  r : 0 ≤ e ∧ e ≤ 3 * (m.width * m.height) - 1
  n : 0 ≤ nextM m (e / 3) (e % 3)
theorem edge_facts {m : Map} (h : Dim m) {e : Int} (he : 0 ≤ e ∧ e ≤ 3 * (m.width * m.height) - 1) :
    Ix (e / 3) ∧ Dir (e % 3) ∧ IntKind.i64.wrap (e.tdiv 3) = e / 3 ∧ e.tmod 3 = e % 3 := by
  have := h.size
  refine ⟨by unfold Ix; omega, by unfold Dir; omega, ?_, Int.tmod_eq_emod_of_nonneg he.1⟩
  rw [Int.tdiv_eq_ediv_of_nonneg he.1]
  exact wrap_small (by omega) (by omega)
structure EdgesOK (m : Map) (l : List Int) : Prop where
  e : ∀ x ∈ l, EdgeOK m x
  inc : Inc l
structure MapOK (m : Map) : Prop where
  w : 1 ≤ m.width ∧ m.width ≤ 10
  h : 1 ≤ m.height ∧ m.height ≤ 10
  len : (m.terrain.length : Int) = m.width * m.height
  terr : AllIn m.terrain 0 5
  rivers : EdgesOK m m.rivers
  roads : EdgesOK m m.roads
end Go.Abs.W
set_option linter.unusedSimpArgs false
set_option linter.unusedVariables false
set_option maxRecDepth 100000
set_option maxHeartbeats 2000000
namespace Go.Abs.W
open Go Go.Abs Classical
attribute [-simp] Bool.decide_and
theorem MapOK.dim {m : Map} (h : MapOK m) : Dim m := ⟨h.w, h.h⟩
structure BoardOK (b : Board) : Prop where
  rules : RulesOK b.rules
  map : MapOK b.map
  terr : AllIn b.map.terrain 0 (b.rules.terrains.length - 1)
end Go.Abs.W
set_option linter.unusedSimpArgs false
set_option linter.unusedVariables false
set_option maxRecDepth 100000
set_option maxHeartbeats 2000000
namespace Go.Abs.W
open Go Go.Abs Classical
attribute [-simp] Bool.decide_and
/-- The element with an index. -/
def at' {α : Type} [Inhabited α] (l : List α) (i : Int) : α := l.getD i.toNat default
theorem at_some {α : Type} [Inhabited α] {l : List α} {i : Int} (h0 : 0 ≤ i) (h1 : i < l.length) : l[i.toNat]? = some (at' l i) := by
  have : i.toNat < l.length := by omega
  simp [at', this]
theorem at_lt {α : Type} {l : List α} {i : Int} (h0 : 0 ≤ i) (h1 : i < l.length) : i.toNat < l.length := by omega
theorem at_get {α : Type} [Inhabited α] {l : List α} {i : Int} (h0 : 0 ≤ i) (h1 : i < l.length) : ∀ h : i.toNat < l.length, l[i.toNat]'h = at' l i := at_of (at_some h0 h1)
theorem at_mem {α : Type} [Inhabited α] {l : List α} {i : Int} (h0 : 0 ≤ i) (h1 : i < l.length) : at' l i ∈ l := List.mem_of_getElem? (at_some h0 h1)
theorem at_nat {α : Type} [Inhabited α] {l : List α} {i : Nat} {a : α} (h : l[i]? = some a) : at' l (i : Int) = a := by simp [at', h]
theorem ints_at' {l : List Int} {i : Int} (h0 : 0 ≤ i) (h1 : i < l.length) : ∀ h : i.toNat < (ints l).length, (ints l)[i.toNat]'h = [D.int .i64 (at' l i)] := ints_get (at_some h0 h1)
def terrAt (b : Board) (i : Int) : Terrain := at' b.rules.terrains (at' b.map.terrain i)
def cost (b : Board) (k i : Int) : Int := at' (terrAt b i).cost k
def kindAt (b : Board) (k : Int) : Kind := at' b.rules.kinds k
/-- How many hexes a board has. -/
def size (b : Board) : Int := b.map.terrain.length
theorem BoardOK.size_eq {b : Board} (h : BoardOK b) : b.map.width * b.map.height = size b := h.map.len.symm
theorem BoardOK.size_le {b : Board} (h : BoardOK b) : 1 ≤ size b ∧ size b ≤ 100 := by
  have := h.map.dim.size; have := h.size_eq; omega
/-- A hex of the board. -/
def On (b : Board) (i : Int) : Prop := 0 ≤ i ∧ i < size b
theorem BoardOK.t1 {b : Board} (h : BoardOK b) {i : Int} (hi : On b i) : 0 ≤ at' b.map.terrain i ∧ at' b.map.terrain i < b.rules.terrains.length := by
  have := h.terr _ (at_mem hi.1 hi.2); omega
theorem BoardOK.t2 {b : Board} (h : BoardOK b) {i : Int} (hi : On b i) : TerrOK (terrAt b i) b.rules.kinds.length := by
  have := h.t1 hi
  exact (h.rules.terr _ _ (at_some this.1 this.2)).1
theorem BoardOK.cost_le {b : Board} (h : BoardOK b) {k i : Int} (hk : 0 ≤ k ∧ k < b.rules.kinds.length) (hi : On b i) : 0 ≤ cost b k i ∧ cost b k i ≤ 9 := by
  have := h.t2 hi
  exact this.cost _ (at_mem hk.1 (by have := this.len; omega))
theorem BoardOK.kind {b : Board} (h : BoardOK b) {k : Int} (hk : 0 ≤ k ∧ k < b.rules.kinds.length) : KindOK (kindAt b k) :=
  (h.rules.kind _ _ (at_some hk.1 hk.2)).1
/-- A kind of the board. -/
def KindOf (b : Board) (k : Int) : Prop := 0 ≤ k ∧ k < b.rules.kinds.length
structure UnitOK (b : Board) (u : Unit) : Prop where
  side : 0 ≤ u.side ∧ u.side ≤ 1
  kind : KindOf b u.kind
  steps : 0 ≤ u.steps ∧ u.steps ≤ (kindAt b u.kind).steps
  pos : u.pos = -1 ∨ (0 < u.steps ∧ On b u.pos ∧ ¬ cost b u.kind u.pos = 0)
end Go.Abs.W
set_option linter.unusedSimpArgs false
set_option linter.unusedVariables false
set_option maxRecDepth 100000
set_option maxHeartbeats 2000000
namespace Go.Abs.W
open Go Go.Abs Classical
attribute [-simp] Bool.decide_and
/-- The indices, from n on, of the elements that p holds of. -/
noncomputable def ixs {α : Type} (p : α → Prop) (l : List α) : List Int := (l.zipIdx.filter fun x => decide (p x.1)).map fun x => (x.2 : Int)
theorem ixs_nil {α : Type} (p : α → Prop) : ixs p [] = [] := rfl
theorem ixs_snoc {α : Type} (p : α → Prop) (l : List α) (a : α) : ixs p (l ++ [a]) = if p a then ixs p l ++ [(l.length : Int)] else ixs p l := by
  unfold ixs
  rw [List.zipIdx_append]
  by_cases h : p a <;> simp [h]
theorem ixs_take {α : Type} {p : α → Prop} {l : List α} {i : Nat} {a : α} (ht : l.take (i + 1) = l.take i ++ [a]) (hi : i < l.length) : ixs p (l.take (i + 1)) = if p a then ixs p (l.take i) ++ [(i : Int)] else ixs p (l.take i) := by
  rw [ht, ixs_snoc]
  have : (l.take i).length = i := by simp; omega
  rw [this]
theorem ixs_length_le {α : Type} (p : α → Prop) (l : List α) : (ixs p l).length ≤ l.length := by
  unfold ixs
  rw [List.length_map]
  exact Nat.le_trans (List.length_filter_le ..) (by simp)
theorem ixs_length_take {α : Type} (p : α → Prop) (l : List α) (i : Nat) : (ixs p (l.take i)).length ≤ l.length :=
  Nat.le_trans (ixs_length_le ..) (by rw [List.length_take]; omega)
theorem mem_ixs {α : Type} {p : α → Prop} {l : List α} {k : Int} : k ∈ ixs p l ↔ ∃ (i : Nat) (a : α), k = i ∧ l[i]? = some a ∧ p a := by
  unfold ixs
  simp only [List.mem_map, List.mem_filter, decide_eq_true_eq]
  constructor
  · rintro ⟨⟨a, i⟩, ⟨h1, h2⟩, rfl⟩
    refine ⟨i, a, rfl, ?_, h2⟩
    have := List.mem_zipIdx h1
    simp at this
    rw [List.getElem?_eq_some_iff]
    exact ⟨this.1, this.2.symm⟩
  · rintro ⟨i, a, rfl, h1, h2⟩
    refine ⟨(a, i), ⟨?_, h2⟩, rfl⟩
    rw [List.mem_zipIdx_iff_getElem?]
    exact h1
noncomputable abbrev unitsIn (s : State) (i side : Int) : List Int := ixs (fun u : Unit => u.pos = i ∧ u.side = side) s.units
theorem append_ok {n k : Nat} (h : n ≤ 1048576) (hk : k ≤ 1048576) : n + k ≤ 68719476736 := by omega
/-- The side of the first unit in a hex, or -1. -/
def ownerM (s : State) (i : Int) : Int := match s.units.find? (fun u => decide (u.pos = i)) with
  | some u => u.side
  | none => -1
theorem ownerM_at {s : State} {i : Int} {n : Nat} {a : Unit} (ha : s.units[n]? = some a) (hp : a.pos = i) (hs : ∀ b ∈ s.units.take n, ¬ b.pos = i) : ownerM s i = a.side := by
  have hn := (List.getElem?_eq_some_iff.1 ha).1
  have : s.units.find? (fun u => decide (u.pos = i)) = some a := by
    rw [List.find?_eq_some_iff_getElem]
    refine ⟨by simpa using hp, n, hn, at_of ha hn, fun j hj => ?_⟩
    have := hs (s.units[j]'(by omega)) (by rw [List.mem_take_iff_getElem]; exact ⟨j, by omega, rfl⟩)
    simpa using this
  simp [ownerM, this]
theorem ownerM_none {s : State} {i : Int} (hs : ∀ b ∈ s.units, ¬ b.pos = i) : ownerM s i = -1 := by
  have : s.units.find? (fun u => decide (u.pos = i)) = none := by rw [List.find?_eq_none]; simpa using hs
  simp [ownerM, this]
/-- How many units of a side are in a hex. -/
def cnt (l : List Unit) (i side : Int) : Nat := l.countP fun u => decide (u.pos = i) && decide (u.side = side)
theorem ixs_length {α : Type} (p : α → Prop) (l : List α) : (ixs p l).length = l.countP fun a => decide (p a) := by
  unfold ixs
  rw [List.length_map, ← List.countP_eq_length_filter, show (fun x : α × Nat => decide (p x.1)) = (fun a => decide (p a)) ∘ Prod.fst from rfl, ← List.countP_map]
  congr 1
  simp
theorem unitsIn_length (s : State) (i side : Int) : (unitsIn s i side).length = cnt s.units i side := by
  rw [ixs_length]
  unfold cnt
  congr 1
  funext u
  by_cases h1 : u.pos = i <;> by_cases h2 : u.side = side <;> simp [h1, h2]
theorem cnt_snoc (l : List Unit) (u : Unit) (i side : Int) : cnt (l ++ [u]) i side = cnt l i side + if u.pos = i ∧ u.side = side then 1 else 0 := by
  unfold cnt
  rw [List.countP_append, List.countP_singleton]
  by_cases h1 : u.pos = i <;> by_cases h2 : u.side = side <;> simp [h1, h2]
theorem cnt_take (l : List Unit) (n : Nat) (i side : Int) : cnt (l.take n) i side ≤ cnt l i side := List.Sublist.countP_le (List.take_sublist ..)
theorem cnt_pos {l : List Unit} {i side : Int} : 0 < cnt l i side ↔ ∃ u ∈ l, u.pos = i ∧ u.side = side := by
  unfold cnt
  rw [List.countP_pos_iff]
  simp
structure StateOK (b : Board) (s : State) : Prop where
  board : BoardOK b
  turn : 0 ≤ s.turn ∧ s.turn ≤ b.rules.turns
  weather : 0 ≤ s.weather ∧ s.weather ≤ 2
  len : (s.units.length : Int) ≤ 12
  unit : ∀ u ∈ s.units, UnitOK b u
  stack : ∀ u ∈ s.units, 0 ≤ u.pos → cnt s.units u.pos (1 - u.side) = 0 ∧ (cnt s.units u.pos u.side : Int) ≤ b.rules.stack
end Go.Abs.W
set_option linter.unusedSimpArgs false
set_option linter.unusedVariables false
set_option maxRecDepth 100000
set_option maxHeartbeats 2000000
namespace Go.Abs.W
open Go Go.Abs Classical
attribute [-simp] Bool.decide_and
/-- How many units of each side are in each hex. -/
def thereR (l : List Unit) (n : Nat) : List (List D) := (List.range n).map fun (h : Nat) => [.int .i64 (cnt l h 0), .int .i64 (cnt l h 1)]
@[simp] theorem thereR_len (l : List Unit) (n : Nat) : (thereR l n).length = n := by simp [thereR]
theorem thereR_at (l : List Unit) {n k : Nat} : ∀ h : k < (thereR l n).length, (thereR l n)[k]'h = [.int .i64 (cnt l k 0), .int .i64 (cnt l k 1)] := by
  intro h; simp [thereR]
theorem thereR_nil (n : Nat) : thereR [] n = List.replicate n [.int .i64 0, .int .i64 0] := by
  unfold thereR
  rw [List.eq_replicate_iff]
  refine ⟨by simp, fun b hb => ?_⟩
  simp at hb
  obtain ⟨h, _, rfl⟩ := hb
  simp [cnt]
theorem thereR_out (l : List Unit) (u : Unit) (n : Nat) (h : u.pos < 0) : thereR (l ++ [u]) n = thereR l n := by
  unfold thereR
  refine List.map_congr_left fun k hk => ?_
  have : ¬ u.pos = (k : Int) := by omega
  simp [cnt_snoc, this]
theorem thereR_set (l : List Unit) (u : Unit) (n : Nat) (h0 : 0 ≤ u.pos) (x y : Int) (hx : x = cnt (l ++ [u]) u.pos 0) (hy : y = cnt (l ++ [u]) u.pos 1) :
    (thereR l n).set u.pos.toNat [.int .i64 x, .int .i64 y] = thereR (l ++ [u]) n := by
  refine List.ext_getElem (by simp) fun k h1 h2 => ?_
  rw [List.getElem_set, thereR_at, thereR_at]
  have hk : ((u.pos.toNat : Nat) : Int) = u.pos := by omega
  split
  · rename_i hh; subst hh; rw [hk, hx, hy]
  · rename_i hh
    have : ¬ u.pos = (k : Int) := by omega
    simp [cnt_snoc, this]
theorem cnt_last (l : List Unit) (i side : Int) : ∀ n, 0 < cnt (l.take n) i side → ∃ (m : Nat) (v : Unit), m < n ∧ l[m]? = some v ∧ v.pos = i ∧ v.side = side ∧ cnt (l.take (m + 1)) i side = cnt (l.take n) i side := by
  intro n
  induction n with
  | zero => intro h; simp [cnt] at h
  | succ n ih =>
    intro h
    by_cases hn : n < l.length
    · have ht : l.take (n + 1) = l.take n ++ [l[n]] := by simp
      by_cases hp : l[n].pos = i ∧ l[n].side = side
      · exact ⟨n, l[n], by omega, by simp, hp.1, hp.2, rfl⟩
      · rw [ht, cnt_snoc, if_neg hp] at h ⊢
        obtain ⟨m, v, h1, h2, h3, h4, h5⟩ := ih (by simpa using h)
        exact ⟨m, v, by omega, h2, h3, h4, by simpa using h5⟩
    · have h1 : l.take (n + 1) = l := List.take_of_length_le (by omega)
      have h2 : l.take n = l := List.take_of_length_le (by omega)
      rw [h1] at h ⊢
      rw [h2] at ih
      obtain ⟨m, v, g1, g2⟩ := ih h
      exact ⟨m, v, by omega, g2⟩
theorem stack_iff {l : List Unit} {k : Int} (hs : ∀ u ∈ l, 0 ≤ u.side ∧ u.side ≤ 1)
    (h : ∀ (j : Nat) (u : Unit), l[j]? = some u → 0 ≤ u.pos → cnt (l.take (j + 1)) u.pos (1 - u.side) = 0 ∧ (cnt (l.take (j + 1)) u.pos u.side : Int) ≤ k) :
    ∀ u ∈ l, 0 ≤ u.pos → cnt l u.pos (1 - u.side) = 0 ∧ (cnt l u.pos u.side : Int) ≤ k := by
  intro u hu hp
  obtain ⟨j, hj⟩ := List.mem_iff_getElem?.1 hu
  have hjl := (List.getElem?_eq_some_iff.1 hj).1
  refine ⟨?_, ?_⟩
  · apply Classical.byContradiction
    intro hne
    have hpos : 0 < cnt l u.pos (1 - u.side) := by omega
    obtain ⟨v, hv, hv1, hv2⟩ := cnt_pos.1 hpos
    obtain ⟨m, hm⟩ := List.mem_iff_getElem?.1 hv
    have hml := (List.getElem?_eq_some_iff.1 hm).1
    by_cases hjm : m ≤ j
    · have := (h j u hj hp).1
      have h2 : 0 < cnt (l.take (j + 1)) u.pos (1 - u.side) := cnt_pos.2 ⟨v, List.mem_of_getElem? (i := m) (by rw [List.getElem?_take]; simp [hm]; omega), hv1, hv2⟩
      omega
    · have := (h m v hm (by omega)).1
      have h2 : 0 < cnt (l.take (m + 1)) v.pos (1 - v.side) := cnt_pos.2 ⟨u, List.mem_of_getElem? (i := j) (by rw [List.getElem?_take]; simp [hj]; omega), hv1.symm, by omega⟩
      omega
  · have hpos : 0 < cnt (l.take l.length) u.pos u.side := by rw [List.take_length]; exact cnt_pos.2 ⟨u, hu, rfl, rfl⟩
    obtain ⟨m, v, _, hv, hv1, hv2, hv3⟩ := cnt_last l u.pos u.side l.length hpos
    rw [List.take_length] at hv3
    have := (h m v hv (by omega)).2
    rw [hv1, hv2, hv3] at this
    exact this
theorem stack_if {l : List Unit} {k : Int} (h : ∀ u ∈ l, 0 ≤ u.pos → cnt l u.pos (1 - u.side) = 0 ∧ (cnt l u.pos u.side : Int) ≤ k) (j : Nat) (u : Unit) (hj : l[j]? = some u) (hp : 0 ≤ u.pos) :
    cnt (l.take (j + 1)) u.pos (1 - u.side) = 0 ∧ (cnt (l.take (j + 1)) u.pos u.side : Int) ≤ k := by
  have := h u (List.mem_of_getElem? hj) hp
  have h1 := cnt_take l (j + 1) u.pos (1 - u.side)
  have h2 := cnt_take l (j + 1) u.pos u.side
  omega
theorem cnt_le (l : List Unit) (i side : Int) : cnt l i side ≤ l.length := List.countP_le_length
end Go.Abs.W
set_option linter.unusedSimpArgs false
set_option linter.unusedVariables false
set_option maxRecDepth 100000
set_option maxHeartbeats 2000000
namespace Go.Abs.W
open Go Go.Abs Classical
attribute [-simp] Bool.decide_and
/-- A unit's index. -/
def Has (s : State) (u : Int) : Prop := 0 ≤ u ∧ u < s.units.length
def unitAt (s : State) (u : Int) : Unit := at' s.units u
theorem unit_row {s : State} {u : Int} (h : Has s u) : ∀ h : u.toNat < s.units.length, s.units[u.toNat]'h = unitAt s u := at_get h.1 h.2
/-- The number of an edge that is there. -/
def edgeM (m : Map) (i d : Int) : Int := if d < 3 then 3 * i + d else 3 * nextM m i d + d - 3
def riverM (m : Map) (i d : Int) : Prop := edgeM m i d ∈ m.rivers
def roadM (m : Map) (i d : Int) : Prop := edgeM m i d ∈ m.roads
def freeM (m : Map) (i d : Int) : Prop := ¬ riverM m i d ∨ roadM m i d
/-- The directions. -/
def dirsL : List Int := [0, 1, 2, 3, 4, 5]
theorem dirs_at {i : Nat} {a : Int} (h : dirsL[i]? = some a) : a = i ∧ Dir a ∧ (i : Int) < 6 := by
  have hi : i < 6 := (List.getElem?_eq_some_iff.1 h).1
  have : i = 0 ∨ i = 1 ∨ i = 2 ∨ i = 3 ∨ i = 4 ∨ i = 5 := by omega
  unfold Dir
  rcases this with rfl | rfl | rfl | rfl | rfl | rfl <;> simp [dirsL] at h <;> subst h <;> simp
/-- The first direction in which a hex lies, or -1. -/
noncomputable def dirTo (m : Map) (a i : Int) : Int := firstIx (fun d => nextM m a d = i) dirsL
theorem firstIx_dirs {p : Int → Prop} (h : 0 ≤ firstIx p dirsL) : p (firstIx p dirsL) ∧ Dir (firstIx p dirsL) := by
  unfold firstIx at h ⊢
  cases hf : dirsL.findIdx? (fun a => decide (p a)) with
  | none => rw [hf] at h; simp at h
  | some i =>
    rw [List.findIdx?_eq_some_iff_getElem] at hf
    obtain ⟨hi, h1, _⟩ := hf
    have ha : dirsL[i]? = some dirsL[i] := by simp
    obtain ⟨h2, h3, _⟩ := dirs_at ha
    simp only
    rw [← h2]
    exact ⟨by simpa using h1, h3⟩
theorem dirTo_next {m : Map} {a i : Int} (h : 0 ≤ dirTo m a i) : nextM m a (dirTo m a i) = i ∧ Dir (dirTo m a i) := firstIx_dirs h
/-- A unit exerts control on a hex. -/
def Ctl (b : Board) (u : Unit) (i : Int) : Prop := 0 ≤ u.pos ∧ (kindAt b u.kind).zone = true ∧ ¬ cost b u.kind i = 0 ∧ 0 ≤ dirTo b.map u.pos i ∧ freeM b.map u.pos (dirTo b.map u.pos i)
theorem On.ix {b : Board} {i : Int} (h : On b i) (hb : BoardOK b) : Ix i := by
  have := hb.size_le; unfold On at h; unfold Ix; omega
theorem UnitOK.on {b : Board} {u : Unit} (h : UnitOK b u) (hp : 0 ≤ u.pos) : On b u.pos := h.pos.elim (fun hh => by omega) fun hh => hh.2.1
theorem StateOK.lens {b : Board} {s : State} (h : StateOK b s) : s.units.length ≤ 12 := by have := h.len; omega
/-- A hex is in the zone of a side. -/
def InZ (b : Board) (s : State) (side i : Int) : Prop := ∃ u ∈ s.units, u.side = side ∧ Ctl b u i
theorem ixs_pos {α : Type} {p : α → Prop} {l : List α} : 0 < (ixs p l).length ↔ ∃ a ∈ l, p a := by
  rw [ixs_length, List.countP_pos_iff]; simp
/-- The reason of zones against a step. -/
noncomputable def zoneR (b : Board) (s : State) (x : Unit) (to : Int) (moved : Bool) : Int := if InZ b s (1 - x.side) x.pos ∧ (moved = true ∨ InZ b s (1 - x.side) to) then 5 else 0
theorem side_wrap {b : Board} {u : Unit} (h : UnitOK b u) : IntKind.i64.wrap (1 - u.side) = 1 - u.side := wrap_small (by have := h.side; omega) (by have := h.side; omega)
end Go.Abs.W
set_option linter.unusedSimpArgs false
set_option linter.unusedVariables false
set_option maxRecDepth 100000
set_option maxHeartbeats 2000000
namespace Go.Abs.W
open Go Go.Abs Classical
attribute [-simp] Bool.decide_and
abbrev Tup2 (a b : D) : AV := .tup [some (.one a), some (.one b)]
theorem next_on {b : Board} (h : BoardOK b) {a d : Int} (hn : 0 ≤ nextM b.map a d) : On b (nextM b.map a d) := by
  have := nextM_bounds h.map.dim a d
  rw [h.size_eq] at this
  exact ⟨hn, by omega⟩
theorem left0 : Left 1048576 := by unfold Left; omega
/-- What a step costs in addition. -/
def wthr (w : Int) (road : Bool) : Int := if road = true ∧ 0 < w then w - 1 else w
def Wth (w : Int) : Prop := 0 ≤ w ∧ w ≤ 2
theorem wthr_le {w : Int} (h : Wth w) (r : Bool) : 0 ≤ wthr w r ∧ wthr w r ≤ 2 := by unfold Wth at h; unfold wthr; split <;> omega
/-- The cost of a step, or 0. -/
noncomputable def stepM (b : Board) (k w i d : Int) : Int := if nextM b.map i d < 0 ∨ cost b k (nextM b.map i d) = 0 then 0 else
  if roadM b.map i d then b.rules.road + wthr w true else cost b k (nextM b.map i d) + wthr w false + (if riverM b.map i d then b.rules.river else 0)
theorem stepM_le {b : Board} (h : BoardOK b) {k w i d : Int} (hk : KindOf b k) (hw : Wth w) : 0 ≤ stepM b k w i d ∧ stepM b k w i d ≤ 20 := by
  unfold stepM
  have h1 := h.rules.road
  have h2 := h.rules.river
  have h3 := wthr_le hw true
  have h4 := wthr_le hw false
  split
  · omega
  · rename_i hh
    have h5 := h.cost_le hk (next_on h (a := i) (d := d) (by omega))
    split
    · omega
    · split <;> omega
/-- There is room for a unit of a side. -/
def RoomM (b : Board) (s : State) (side i : Int) : Prop := cnt s.units i (1 - side) = 0 ∧ (cnt s.units i side : Int) < b.rules.stack
def Side (side : Int) : Prop := 0 ≤ side ∧ side ≤ 1
theorem all_at (l : List Unit) (i : Int) (hs : ∀ u ∈ l, 0 ≤ u.side ∧ u.side ≤ 1) : (ixs (fun u : Unit => u.pos = i) l).length = cnt l i 0 + cnt l i 1 := by
  rw [ixs_length]
  induction l with
  | nil => rfl
  | cons u l ih =>
    have hu := hs u (List.mem_cons_self ..)
    have := ih fun v hv => hs v (List.mem_cons_of_mem _ hv)
    unfold cnt at *
    rw [List.countP_cons, List.countP_cons, List.countP_cons, this]
    have : u.side = 0 ∨ u.side = 1 := by omega
    by_cases hp : u.pos = i <;> rcases this with h | h <;> simp [hp, h] <;> omega
theorem owner_cases {b : Board} {s : State} (h : StateOK b s) {i : Int} (hi : 0 ≤ i) :
    (ownerM s i = -1 ∧ cnt s.units i 0 = 0 ∧ cnt s.units i 1 = 0) ∨ (Side (ownerM s i) ∧ 0 < cnt s.units i (ownerM s i) ∧ cnt s.units i (1 - ownerM s i) = 0 ∧ ∃ u ∈ s.units, u.pos = i ∧ u.side = ownerM s i) := by
  cases hf : s.units.find? (fun u => decide (u.pos = i)) with
  | none =>
    left
    rw [List.find?_eq_none] at hf
    have h0 : ∀ side, cnt s.units i side = 0 := fun side => by
      apply Classical.byContradiction
      intro hh
      obtain ⟨u, hu, hp, _⟩ := cnt_pos.1 (show 0 < cnt s.units i side by omega)
      exact hf u hu (by simpa using hp)
    exact ⟨ownerM_none fun u hu hp => hf u hu (by simpa using hp), h0 0, h0 1⟩
  | some u =>
    right
    have ho : ownerM s i = u.side := by simp [ownerM, hf]
    have hm := List.mem_of_find?_eq_some hf
    have hp : u.pos = i := by simpa using List.find?_some hf
    rw [ho]
    have := h.stack u hm (by omega)
    rw [hp] at this
    exact ⟨(h.unit u hm).side, cnt_pos.2 ⟨u, hm, hp, rfl⟩, this.1, u, hm, hp, rfl⟩
/-- How many units more can be placed, the program's way. -/
noncomputable def roomI (b : Board) (s : State) (side i : Int) : Int := if ownerM s i = 1 - side then 0 else b.rules.stack - (ixs (fun u : Unit => u.pos = i) s.units).length
theorem roomI_iff {b : Board} {s : State} (h : StateOK b s) {side i : Int} (hs : Side side) (hi : 0 ≤ i) : 0 < roomI b s side i ↔ RoomM b s side i := by
  have hst := h.board.rules.stack
  have ha := all_at s.units i fun u hu => (h.unit u hu).side
  unfold Side at hs
  have h01 : side = 0 ∨ side = 1 := by omega
  unfold roomI RoomM
  rw [ha]
  rcases owner_cases h hi with ⟨o1, o2, o3⟩ | ⟨o1, o2, o3, _⟩
  · rw [o1]
    rcases h01 with rfl | rfl <;> simp [o2, o3] <;> omega
  · unfold Side at o1
    have : ownerM s i = 0 ∨ ownerM s i = 1 := by omega
    rcases this with h0 | h0 <;> rw [h0] at o2 o3 ⊢ <;> rcases h01 with rfl | rfl <;> simp at o3 <;> simp [o3] <;> omega
/-- A unit can advance into a hex. -/
def CanM (b : Board) (s : State) (x : Unit) (i : Int) : Prop := 0 ≤ dirTo b.map x.pos i ∧ 0 < stepM b x.kind s.weather x.pos (dirTo b.map x.pos i) ∧ RoomM b s x.side i
def CA (b : Board) (s : State) (u i : Int) : Prop := StateOK b s ∧ Has s u ∧ 0 ≤ (unitAt s u).pos ∧ On b i
end Go.Abs.W
set_option linter.unusedSimpArgs false
set_option linter.unusedVariables false
set_option maxRecDepth 100000
set_option maxHeartbeats 2000000
namespace Go.Abs.W
open Go Go.Abs Classical
attribute [-simp] Bool.decide_and
def cntBattle (x : Battle) : Nat := x.attackers.length + x.defenders.length
structure LenBattle (x : Battle) : Prop where
  a : Len x.attackers.length
  d : Len x.defenders.length
theorem LenBattle_of {x : Battle} (h : cntBattle x ≤ 1048576) : LenBattle x := by unfold cntBattle at h; exact ⟨by unfold Len; omega, by unfold Len; omega⟩
/-- A unit is in a neighbour of a hex. -/
def Near (b : Board) (i : Int) (x : Unit) : Prop := 0 ≤ x.pos ∧ 0 ≤ dirTo b.map i x.pos
/-- The side on which a unit stands, or -1. -/
noncomputable def sideM (m : Map) (i p : Int) : Int := firstIx (fun d => 0 ≤ nextM m i d ∧ nextM m i d = p) dirsL
theorem sideM_eq {m : Map} {i p : Int} (hp : 0 ≤ p) : sideM m i p = dirTo m i p := by
  unfold sideM dirTo
  congr 1
  funext d
  exact propext ⟨fun h => h.2, fun h => ⟨by omega, h⟩⟩
theorem sideM_no {m : Map} {i p : Int} (hp : p < 0) : sideM m i p = -1 := firstIx_none fun d _ h => by omega
structure BattleOK (b : Board) (s : State) (x : Battle) : Prop where
  pos : On b x.pos
  own : 0 ≤ ownerM s x.pos
  ne : ¬ x.attackers = []
  inc : Inc x.attackers
  att : ∀ k ∈ x.attackers, Has s k ∧ ¬ (unitAt s k).side = ownerM s x.pos ∧ Near b x.pos (unitAt s k)
  dfd : x.defenders = unitsIn s x.pos (ownerM s x.pos)
theorem ixs_congr {α : Type} {p q : α → Prop} {l : List α} (h : ∀ a ∈ l, p a ↔ q a) : ixs p l = ixs q l := by
  unfold ixs
  congr 1
  refine List.filter_congr fun x hx => ?_
  have hm : x.1 ∈ l := by
    have := List.mem_zipIdx hx
    simp at this
    rw [this.2]
    exact List.getElem_mem _
  exact decide_eq_decide.2 (h _ hm)
theorem units_own {b : Board} {s : State} (h : StateOK b s) {i : Int} (hi : 0 ≤ i) : ixs (fun u : Unit => u.pos = i) s.units = unitsIn s i (ownerM s i) := by
  refine ixs_congr fun u hu => ⟨fun hp => ⟨hp, ?_⟩, fun hp => hp.1⟩
  have hus := (h.unit u hu).side
  rcases owner_cases h hi with ⟨_, h0, h1⟩ | ⟨o1, _, o3, _⟩
  · have : 0 < cnt s.units i u.side := cnt_pos.2 ⟨u, hu, hp, rfl⟩
    have h01 : u.side = 0 ∨ u.side = 1 := by omega
    rcases h01 with hh | hh <;> rw [hh] at this <;> omega
  · apply Classical.byContradiction
    intro hne
    have : 0 < cnt s.units i (1 - ownerM s i) := cnt_pos.2 ⟨u, hu, hp, by unfold Side at o1; omega⟩
    omega
/-- A unit's strength times its steps. -/
def force (b : Board) (x : Unit) : Int := (kindAt b x.kind).strength * x.steps
theorem force_le {b : Board} {x : Unit} (h : BoardOK b) (hx : UnitOK b x) : 0 ≤ force b x ∧ force b x ≤ 36 := by
  have hk := h.kind hx.kind
  have := mul_bounds (a := (kindAt b x.kind).strength) (b := x.steps) (x := 9) (y := 4) (by have := hk.strength; omega) (by have := hx.steps; have := hk.steps; omega)
  exact ⟨this.1, by have := this.2; unfold force; omega⟩
def sumI (f : Int → Int) (l : List Int) : Int := (l.map f).sum
theorem sumI_nil (f : Int → Int) : sumI f [] = 0 := rfl
theorem sumI_snoc (f : Int → Int) (l : List Int) (a : Int) : sumI f (l ++ [a]) = sumI f l + f a := by simp [sumI]
theorem sumI_le (f : Int → Int) (l : List Int) (h : ∀ a ∈ l, 0 ≤ f a ∧ f a ≤ 36) : 0 ≤ sumI f l ∧ sumI f l ≤ 36 * l.length := by
  induction l with
  | nil => simp [sumI]
  | cons a l ih =>
    have h1 := h a (List.mem_cons_self ..)
    have h2 := ih fun x hx => h x (List.mem_cons_of_mem _ hx)
    simp only [sumI, List.map_cons, List.sum_cons, List.length_cons] at h2 ⊢
    omega
theorem BattleOK.d_has {b : Board} {s : State} {x : Battle} (h : BattleOK b s x) : ∀ k ∈ x.defenders, Has s k := by
  intro k hk
  rw [h.dfd] at hk
  obtain ⟨i, a, rfl, ha, _⟩ := mem_ixs.1 hk
  exact ⟨by omega, by have := (List.getElem?_eq_some_iff.1 ha).1; omega⟩
theorem Has.ok {b : Board} {s : State} (h : StateOK b s) {u : Int} (hu : Has s u) : UnitOK b (unitAt s u) := h.unit _ (at_mem hu.1 hu.2)
end Go.Abs.W
set_option linter.unusedSimpArgs false
set_option linter.unusedVariables false
set_option maxRecDepth 100000
set_option maxHeartbeats 2000000
namespace Go.Abs.W
open Go Go.Abs Classical
attribute [-simp] Bool.decide_and
/-- The strength of one attacker. -/
noncomputable def attF (b : Board) (s : State) (i k : Int) : Int := if freeM b.map i (dirTo b.map i (unitAt s k).pos) then force b (unitAt s k) else force b (unitAt s k) / 2
theorem attF_le {b : Board} {s : State} (h : StateOK b s) {i k : Int} (hu : Has s k) : 0 ≤ attF b s i k ∧ attF b s i k ≤ 36 := by
  have := force_le h.board (hu.ok h)
  unfold attF; split <;> omega
theorem half {n : Int} (h : 0 ≤ n ∧ n ≤ 36) : IntKind.i64.wrap (n.tdiv 2) = n / 2 := by
  rw [Int.tdiv_eq_ediv_of_nonneg h.1]; exact wrap_small (by omega) (by omega)
/-- The sides of the attackers. -/
noncomputable def sidesM (b : Board) (s : State) (i : Int) (l : List Int) : List Int := l.map fun k => dirTo b.map i (unitAt s k).pos
/-- Two attackers stand on opposite sides. -/
def Opp (l : List Int) : Prop := (0 ∈ l ∧ 3 ∈ l) ∨ (1 ∈ l ∧ 4 ∈ l) ∨ (2 ∈ l ∧ 5 ∈ l)
noncomputable def shiftM (b : Board) (s : State) (x : Battle) : Int := - (terrAt b x.pos).shift + (if Opp (sidesM b s x.pos x.attackers) then 1 else 0) - (if s.weather = 2 then 1 else 0)
end Go.Abs.W
set_option linter.unusedSimpArgs false
set_option linter.unusedVariables false
set_option maxRecDepth 100000
set_option maxHeartbeats 2000000
namespace Go.Abs.W
open Go Go.Abs Classical
attribute [-simp] Bool.decide_and
theorem ints_nil : ints [] = [] := rfl
@[simp] theorem safe_ints (l : List Int) : safeLL (ints l) = true := by
  induction l with
  | nil => rfl
  | cons x l ih => simp only [ints, List.map_cons] at ih ⊢; simp [safeLL, safeL, D.safe, ih]
@[simp] theorem safe_rows (l : List (List Int)) : safeLL (rowsOfL true l) = true := by
  induction l with
  | nil => rfl
  | cons x l ih => simp only [rowsOfL, List.map_cons] at ih ⊢; simp [safeLL, safeL, D.safe, ih]
theorem rows_length (o : Bool) (l : List (List Int)) : (rowsOfL o l).length = l.length := by simp [rowsOfL]
theorem rows_append (o : Bool) (l m : List (List Int)) : rowsOfL o l ++ rowsOfL o m = rowsOfL o (l ++ m) := by simp [rowsOfL]
theorem ints_snoc (l : List Int) (n : Int) : ints l ++ [[D.int .i64 n]] = ints (l ++ [n]) := by simp [ints]
theorem rows_nil (o : Bool) : rowsOfL o [] = [] := rfl
theorem rows_one (o : Bool) (l : List Int) : [[D.list o 1 (ints l)]] = rowsOfL o [l] := rfl
/-- A copy of a list. -/
theorem c_slices_Clone (l : List Int) (hl : Len l.length) : C n_slices_Clone_int_int [Li l] = some (Lo l) := by
  refine callC p_slices_Clone_int_int rfl ?_
  have h1 : l.length ≤ 68719476736 := by unfold Len at hl; omega
  by_cases h : l = []
  · subst h
    simp [xRun, a_slices_Clone_int_int, ints]
  · have h2 : ¬ (l.length : Int) = 0 := by
      intro hh; exact h (List.eq_nil_of_length_eq_zero (by omega))
    have h3 : ¬ l.length = 0 := by omega
    simp [xRun, a_slices_Clone_int_int, ints_length, h2, h3, h, h1]
theorem c_spec_l1Own (l : List Int) (hl : Len l.length) : C n_spec_l1Own [Li l] = some (Lo l) := by
  refine callC p_spec_l1Own rfl ?_
  have h1 : l.length ≤ 68719476736 := by unfold Len at hl; omega
  simp [xRun, a_spec_l1Own, ints_length, h1, rowsOf]
/-- The units that are somewhere. -/
theorem ixs_unit {s : State} {p : Unit → Prop} {k : Int} : k ∈ ixs p s.units ↔ Has s k ∧ p (unitAt s k) := by
  rw [mem_ixs]
  constructor
  · rintro ⟨i, a, rfl, h1, h2⟩
    have hi := (List.getElem?_eq_some_iff.1 h1).1
    have : unitAt s (i : Int) = a := at_nat h1
    exact ⟨⟨by omega, by omega⟩, by rw [this]; exact h2⟩
  · rintro ⟨h1, h2⟩
    refine ⟨k.toNat, unitAt s k, by have := h1.1; omega, ?_, h2⟩
    exact at_some h1.1 h1.2
theorem cnt_has {s : State} {i side : Int} : 0 < cnt s.units i side ↔ ∃ k, Has s k ∧ (unitAt s k).pos = i ∧ (unitAt s k).side = side := by
  rw [← unitsIn_length, List.length_pos_iff_exists_mem]
  exact exists_congr fun k => ixs_unit
end Go.Abs.W
