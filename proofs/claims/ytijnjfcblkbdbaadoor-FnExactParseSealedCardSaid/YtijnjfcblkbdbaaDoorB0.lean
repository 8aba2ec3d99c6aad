import Derived.Test.YtijnjfcblkbdbaaDoorCode
import GoSem.ClaimData
set_option linter.unusedSimpArgs false
set_option linter.unusedVariables false
namespace Go.Abs.W
open Go Go.Abs
attribute [simp] trim trimFrom trimV List.replicate
abbrev I (n : Int) : AV := .val (.one (.int .i64 n))
abbrev Bo (b : Bool) : AV := .val (.one (.bool b))
abbrev St (s : ByteArray) : AV := .val (.one (.str s))
def ints (l : List Int) : List (List D) := l.map fun n => [D.int .i64 n]
/-- A list of numbers that is looked at; one of one's own. -/
abbrev Li (l : List Int) : AV := .val (.one (.list false 1 (ints l)))
abbrev Lo (l : List Int) : AV := .val (.one (.list true 1 (ints l)))
theorem ints_length (l : List Int) : (ints l).length = l.length := by simp [ints]
theorem ints_at {l : List Int} {i : Nat} {n : Int} (h : l[i]? = some n) : (ints l)[i]? = some [D.int .i64 n] := by simp [ints, h]
theorem wrap_small {n : Int} (h0 : -4611686018427387904 ≤ n) (h1 : n ≤ 4611686018427387904) : IntKind.i64.wrap n = n := by rw [IntKind.wrap_i64]; omega
@[simp] theorem nat_neg (i : Nat) : ((i : Int) < 0) = False := by simp
theorem at_of {α : Type} {l : List α} {i : Nat} {a : α} (h : l[i]? = some a) : ∀ h : i < l.length, l[i]'h = a := fun _ => (List.getElem?_eq_some_iff.1 h).2
/-- All calls of the program. -/
noncomputable abbrev C (f : FuncId) (args : List AV) : Option AV := callF prog hand glob f args
theorem callC {f : FuncId} {x : AFn} {args : List AV} {r : AV} (hx : prog f = some x) (hh : hand f = none) (h : xRun (callF prog hand glob) glob x args = some r) : C f args = some r := call_of hh hx h

/-- Goals of a round: what is looked into is the round's run alone. -/
@[congr] theorem Round_congr {o o' : Option (AE × Nat × Env)} (N : Env → Prop) (E : AE → Env → Prop) (h : o = o') : Round o N E = Round o' N E := by rw [h]
section
variable {α σ R : Type} {res : R} {P : Option R → Prop} {body : Env → Option (AE × Nat × Env)} {keep out : List Nat} {e : Env} {k : AE → Nat → Env → Option R}
/-- A loop over a list: s, what the slots hold; Inv, what holds of it in front of element i. -/
theorem list_loopP (l : List α) (hl : l.length ≤ 4611686018427387000) (ch : Nat → σ → Upd) (Inv : Nat → σ → Prop) (s0 : σ)
    (he : Env.app (trim keep e) (ch 0 s0) = trim keep e) (h0 : Inv 0 s0)
    (hround : ∀ (N : Env → Prop) (E : AE → Env → Prop) (i : Nat) (a : α) (s : σ), l[i]? = some a → i < l.length → a ∈ l → l.take (i + 1) = l.take i ++ [a] → IntKind.i64.wrap ((i : Int) + 1) = ((i + 1 : Nat) : Int) → Inv i s →
      (∀ e' s', trim keep e' = Env.app (trim keep e) (ch (i + 1) s') → Inv (i + 1) s' → N e') → (∀ x e', (∀ st, P (k x st (trim out e'))) → E x e') → Round (body (Env.app (trim keep e) (ch i s))) N E)
    (hend : ∀ (N : Env → Prop) (E : AE → Env → Prop) (s : σ), Inv l.length s → (∀ x e', (∀ st, P (k x st (trim out e'))) → E x e') → Round (body (Env.app (trim keep e) (ch l.length s))) N E) :
    P (loopE (loopF body keep e) out k) := by
  have key : ∀ (m i : Nat) (s : σ) (e1 : Env), m = l.length - i → i ≤ l.length → Inv i s → trim keep e1 = Env.app (trim keep e) (ch i s) → LoopTo body keep out e1 fun x e' => ∀ st, P (k x st e') := by
    intro m
    induction m with
    | zero =>
      intro i s e1 hm hi hs h1
      have : i = l.length := by omega
      subst this
      exact .round h1 fun N hN => hend _ _ s hs fun x e' h => h
    | succ m ih =>
      intro i s e1 hm hi hs h1
      have hlt : i < l.length := by omega
      have ha : l[i]? = some l[i] := by simp [hlt]
      refine .round h1 fun N hN => hround _ _ i l[i] s ha hlt (List.getElem_mem hlt) (by simp) (by rw [wrap_small (by omega) (by omega)]; rfl) hs (fun e' s' h2 h3 => hN e' (ih (i + 1) s' e' (by omega) (by omega) h3 h2)) fun x e' h => h
  obtain ⟨x, st, e', h1, h2⟩ := key l.length 0 s0 e (by omega) (by omega) h0 he.symm
  unfold loopE
  rw [h1]
  exact h2 _
/-- A loop that looks for the first element that p holds of; t: the slot of the index. -/
theorem find_loopP (l : List α) (hl : l.length ≤ 4611686018427387000) (t : Nat) (p : α → Prop)
    (he : Env.app (trim keep e) [(t, I 0)] = trim keep e)
    (hround : ∀ (N : Env → Prop) (E : AE → Env → Prop) (i : Nat) (a : α), l[i]? = some a → i < l.length → a ∈ l → IntKind.i64.wrap ((i : Int) + 1) = ((i + 1 : Nat) : Int) → (∀ b ∈ l.take i, ¬ p b) →
      (∀ e', trim keep e' = Env.app (trim keep e) [(t, I ((i + 1 : Nat) : Int))] → ¬ p a → N e') → (∀ x e', (∀ st, P (k x st (trim out e'))) → E x e') → Round (body (Env.app (trim keep e) [(t, I (i : Int))])) N E)
    (hend : ∀ (N : Env → Prop) (E : AE → Env → Prop), (∀ b ∈ l, ¬ p b) → (∀ x e', (∀ st, P (k x st (trim out e'))) → E x e') → Round (body (Env.app (trim keep e) [(t, I (l.length : Int))])) N E) :
    P (loopE (loopF body keep e) out k) := by
  refine list_loopP l hl (fun i (_ : PUnit) => [(t, I (i : Int))]) (fun i _ => ∀ b ∈ l.take i, ¬ p b) ⟨⟩ he (by simp) ?_ ?_
  · intro N E i a s ha hi hm ht hw hs hN hE
    refine hround N E i a ha hi hm hw hs (fun e' h1 h2 => hN e' s h1 fun b hb => ?_) hE
    rw [ht] at hb
    rcases List.mem_append.1 hb with hb | hb
    · exact hs b hb
    · simp at hb; subst hb; exact h2
  · intro N E s hs hE
    rw [List.take_length] at hs
    exact hend N E hs hE
/-- A loop with a measure. -/
theorem while_loopP (ch : σ → Upd) (Inv : σ → Prop) (m : σ → Nat) (s0 : σ)
    (he : Env.app (trim keep e) (ch s0) = trim keep e) (h0 : Inv s0)
    (hround : ∀ (N : Env → Prop) (E : AE → Env → Prop) (s : σ), Inv s →
      (∀ e' s', trim keep e' = Env.app (trim keep e) (ch s') → Inv s' → m s' < m s → N e') → (∀ x e', (∀ st, P (k x st (trim out e'))) → E x e') → Round (body (Env.app (trim keep e) (ch s))) N E) :
    P (loopE (loopF body keep e) out k) := by
  have key : ∀ (n : Nat) (s : σ) (e1 : Env), m s < n → Inv s → trim keep e1 = Env.app (trim keep e) (ch s) → LoopTo body keep out e1 fun x e' => ∀ st, P (k x st e') := by
    intro n
    induction n with
    | zero => intro s e1 hn; omega
    | succ n ih =>
      intro s e1 hn hs h1
      exact .round h1 fun N hN => hround _ _ s hs (fun e' s' h2 h3 h4 => hN e' (ih s' e' (by omega) h3 h2)) fun x e' h => h
  obtain ⟨x, st, e', h1, h2⟩ := key (m s0 + 1) s0 e (by omega) h0 he.symm
  unfold loopE
  rw [h1]
  exact h2 _
theorem list_loop (l : List α) (hl : l.length ≤ 4611686018427387000) (ch : Nat → σ → Upd) (Inv : Nat → σ → Prop) (s0 : σ)
    (he : Env.app (trim keep e) (ch 0 s0) = trim keep e) (h0 : Inv 0 s0)
    (hround : ∀ (N : Env → Prop) (E : AE → Env → Prop) (i : Nat) (a : α) (s : σ), l[i]? = some a → i < l.length → a ∈ l → l.take (i + 1) = l.take i ++ [a] → IntKind.i64.wrap ((i : Int) + 1) = ((i + 1 : Nat) : Int) → Inv i s →
      (∀ e' s', trim keep e' = Env.app (trim keep e) (ch (i + 1) s') → Inv (i + 1) s' → N e') → (∀ x e', (∀ st, k x st (trim out e') = some res) → E x e') → Round (body (Env.app (trim keep e) (ch i s))) N E)
    (hend : ∀ (N : Env → Prop) (E : AE → Env → Prop) (s : σ), Inv l.length s → (∀ x e', (∀ st, k x st (trim out e') = some res) → E x e') → Round (body (Env.app (trim keep e) (ch l.length s))) N E) :
    loopE (loopF body keep e) out k = some res := list_loopP (P := fun o => o = some res) l hl ch Inv s0 he h0 hround hend
theorem list_loopR {k : AE → Nat → Env → Option (AE × Nat × Env)} {N0 : Env → Prop} {E0 : AE → Env → Prop} (l : List α) (hl : l.length ≤ 4611686018427387000) (ch : Nat → σ → Upd) (Inv : Nat → σ → Prop) (s0 : σ)
    (he : Env.app (trim keep e) (ch 0 s0) = trim keep e) (h0 : Inv 0 s0)
    (hround : ∀ (N : Env → Prop) (E : AE → Env → Prop) (i : Nat) (a : α) (s : σ), l[i]? = some a → i < l.length → a ∈ l → l.take (i + 1) = l.take i ++ [a] → IntKind.i64.wrap ((i : Int) + 1) = ((i + 1 : Nat) : Int) → Inv i s →
      (∀ e' s', trim keep e' = Env.app (trim keep e) (ch (i + 1) s') → Inv (i + 1) s' → N e') → (∀ x e', (∀ st, Round (k x st (trim out e')) N0 E0) → E x e') → Round (body (Env.app (trim keep e) (ch i s))) N E)
    (hend : ∀ (N : Env → Prop) (E : AE → Env → Prop) (s : σ), Inv l.length s → (∀ x e', (∀ st, Round (k x st (trim out e')) N0 E0) → E x e') → Round (body (Env.app (trim keep e) (ch l.length s))) N E) :
    Round (loopE (loopF body keep e) out k) N0 E0 := list_loopP (P := fun o => Round o N0 E0) l hl ch Inv s0 he h0 hround hend
theorem find_loop (l : List α) (hl : l.length ≤ 4611686018427387000) (t : Nat) (p : α → Prop)
    (he : Env.app (trim keep e) [(t, I 0)] = trim keep e)
    (hround : ∀ (N : Env → Prop) (E : AE → Env → Prop) (i : Nat) (a : α), l[i]? = some a → i < l.length → a ∈ l → IntKind.i64.wrap ((i : Int) + 1) = ((i + 1 : Nat) : Int) → (∀ b ∈ l.take i, ¬ p b) →
      (∀ e', trim keep e' = Env.app (trim keep e) [(t, I ((i + 1 : Nat) : Int))] → ¬ p a → N e') → (∀ x e', (∀ st, k x st (trim out e') = some res) → E x e') → Round (body (Env.app (trim keep e) [(t, I (i : Int))])) N E)
    (hend : ∀ (N : Env → Prop) (E : AE → Env → Prop), (∀ b ∈ l, ¬ p b) → (∀ x e', (∀ st, k x st (trim out e') = some res) → E x e') → Round (body (Env.app (trim keep e) [(t, I (l.length : Int))])) N E) :
    loopE (loopF body keep e) out k = some res := find_loopP (P := fun o => o = some res) l hl t p he hround hend
theorem find_loopR {k : AE → Nat → Env → Option (AE × Nat × Env)} {N0 : Env → Prop} {E0 : AE → Env → Prop} (l : List α) (hl : l.length ≤ 4611686018427387000) (t : Nat) (p : α → Prop)
    (he : Env.app (trim keep e) [(t, I 0)] = trim keep e)
    (hround : ∀ (N : Env → Prop) (E : AE → Env → Prop) (i : Nat) (a : α), l[i]? = some a → i < l.length → a ∈ l → IntKind.i64.wrap ((i : Int) + 1) = ((i + 1 : Nat) : Int) → (∀ b ∈ l.take i, ¬ p b) →
      (∀ e', trim keep e' = Env.app (trim keep e) [(t, I ((i + 1 : Nat) : Int))] → ¬ p a → N e') → (∀ x e', (∀ st, Round (k x st (trim out e')) N0 E0) → E x e') → Round (body (Env.app (trim keep e) [(t, I (i : Int))])) N E)
    (hend : ∀ (N : Env → Prop) (E : AE → Env → Prop), (∀ b ∈ l, ¬ p b) → (∀ x e', (∀ st, Round (k x st (trim out e')) N0 E0) → E x e') → Round (body (Env.app (trim keep e) [(t, I (l.length : Int))])) N E) :
    Round (loopE (loopF body keep e) out k) N0 E0 := find_loopP (P := fun o => Round o N0 E0) l hl t p he hround hend
theorem while_loop (ch : σ → Upd) (Inv : σ → Prop) (m : σ → Nat) (s0 : σ)
    (he : Env.app (trim keep e) (ch s0) = trim keep e) (h0 : Inv s0)
    (hround : ∀ (N : Env → Prop) (E : AE → Env → Prop) (s : σ), Inv s →
      (∀ e' s', trim keep e' = Env.app (trim keep e) (ch s') → Inv s' → m s' < m s → N e') → (∀ x e', (∀ st, k x st (trim out e') = some res) → E x e') → Round (body (Env.app (trim keep e) (ch s))) N E) :
    loopE (loopF body keep e) out k = some res := while_loopP (P := fun o => o = some res) ch Inv m s0 he h0 hround
theorem while_loopR {k : AE → Nat → Env → Option (AE × Nat × Env)} {N0 : Env → Prop} {E0 : AE → Env → Prop} (ch : σ → Upd) (Inv : σ → Prop) (m : σ → Nat) (s0 : σ)
    (he : Env.app (trim keep e) (ch s0) = trim keep e) (h0 : Inv s0)
    (hround : ∀ (N : Env → Prop) (E : AE → Env → Prop) (s : σ), Inv s →
      (∀ e' s', trim keep e' = Env.app (trim keep e) (ch s') → Inv s' → m s' < m s → N e') → (∀ x e', (∀ st, Round (k x st (trim out e')) N0 E0) → E x e') → Round (body (Env.app (trim keep e) (ch s))) N E) :
    Round (loopE (loopF body keep e) out k) N0 E0 := while_loopP (P := fun o => Round o N0 E0) ch Inv m s0 he h0 hround
end
end Go.Abs.W
set_option linter.unusedSimpArgs false
set_option linter.unusedVariables false
namespace Go.Abs.W
open Go Go.Abs
structure Terrain where
  name : ByteArray
  cost : List Int
  shift : Int
  height : Int
  blocks : Bool
  deriving Inhabited
structure Kind where
  name : ByteArray
  strength : Int
  moves : Int
  steps : Int
  zone : Bool
  view : Int
  deriving Inhabited
structure Unit where
  side : Int
  kind : Int
  pos : Int
  steps : Int
  deriving Inhabited
structure Rules where
  terrains : List Terrain
  kinds : List Kind
  stack : Int
  river : Int
  road : Int
  supply : Int
  turns : Int
  deriving Inhabited
structure Map where
  width : Int
  height : Int
  terrain : List Int
  rivers : List Int
  roads : List Int
  deriving Inhabited
structure Board where
  rules : Rules
  map : Map
  deriving Inhabited
structure State where
  turn : Int
  weather : Int
  units : List Unit
  deriving Inhabited
structure Battle where
  pos : Int
  attackers : List Int
  defenders : List Int
  deriving Inhabited
structure Attempt where
  unit : Int
  src : Int
  dst : Int
  deriving Inhabited
structure Order where
  unit : Int
  path : List Int
  attack : Int
  deriving Inhabited
structure Sheet where
  side : Int
  orders : List Order
  deriving Inhabited
structure Odds where
  num : Int
  den : Int
  deriving Inhabited
structure CombatTable where
  columns : List Odds
  dice : Int
  results : List (List Int)
  deriving Inhabited
structure Attack where
  unit : Int
  pos : Int
  deriving Inhabited
def Terrain.enc (o : Bool) (t : Terrain) : List D := [.str t.name, .list o 1 (ints t.cost), .int .i64 t.shift, .int .i64 t.height, .bool t.blocks]
def Kind.enc (k : Kind) : List D := [.str k.name, .int .i64 k.strength, .int .i64 k.moves, .int .i64 k.steps, .bool k.zone, .int .i64 k.view]
def Unit.enc (u : Unit) : List D := [.int .i64 u.side, .int .i64 u.kind, .int .i64 u.pos, .int .i64 u.steps]
def Attempt.enc (a : Attempt) : List D := [.int .i64 a.unit, .int .i64 a.src, .int .i64 a.dst]
def Order.enc (o : Bool) (a : Order) : List D := [.int .i64 a.unit, .list o 1 (ints a.path), .int .i64 a.attack]
def Odds.enc (a : Odds) : List D := [.int .i64 a.num, .int .i64 a.den]
def Attack.enc (a : Attack) : List D := [.int .i64 a.unit, .int .i64 a.pos]
def rowsOfL (o : Bool) (l : List (List Int)) : List (List D) := l.map fun r => [.list o 1 (ints r)]
/-- The cells of a struct that is looked at. -/
def RulesL (r : Rules) : List D := [.list false 5 (r.terrains.map (Terrain.enc false)), .list false 6 (r.kinds.map Kind.enc), .int .i64 r.stack, .int .i64 r.river, .int .i64 r.road, .int .i64 r.supply, .int .i64 r.turns]
def MapL (m : Map) : List D := [.int .i64 m.width, .int .i64 m.height, .list false 1 (ints m.terrain), .list false 1 (ints m.rivers), .list false 1 (ints m.roads)]
def BoardL (b : Board) : List D := RulesL b.rules ++ MapL b.map
def StateL (s : State) : List D := [.int .i64 s.turn, .int .i64 s.weather, .list false 4 (s.units.map Unit.enc)]
def BattleL (x : Battle) : List D := [.int .i64 x.pos, .list false 1 (ints x.attackers), .list false 1 (ints x.defenders)]
def SheetL (x : Sheet) : List D := [.int .i64 x.side, .list false 3 (x.orders.map (Order.enc false))]
def CombatTableL (t : CombatTable) : List D := [.list false 2 (t.columns.map Odds.enc), .int .i64 t.dice, .list false 1 (rowsOfL false t.results)]
/-- A list of rows, own or looked at. -/
abbrev Rows (o : Bool) (e : Nat) (rows : List (List D)) : AV := .val (.one (.list o e rows))
abbrev TerrainV (o : Bool) (t : Terrain) : AV := .val (.agg [.str t.name, .list o 1 (ints t.cost), .int .i64 t.shift, .int .i64 t.height, .bool t.blocks])
abbrev KindV (k : Kind) : AV := .val (.agg [.str k.name, .int .i64 k.strength, .int .i64 k.moves, .int .i64 k.steps, .bool k.zone, .int .i64 k.view])
abbrev UnitV (u : Unit) : AV := .val (.agg [.int .i64 u.side, .int .i64 u.kind, .int .i64 u.pos, .int .i64 u.steps])
abbrev RulesV (o : Bool) (r : Rules) : AV := .val (.agg [.list o 5 (r.terrains.map (Terrain.enc o)), .list o 6 (r.kinds.map Kind.enc), .int .i64 r.stack, .int .i64 r.river, .int .i64 r.road, .int .i64 r.supply, .int .i64 r.turns])
abbrev MapV (o : Bool) (m : Map) : AV := .val (.agg [.int .i64 m.width, .int .i64 m.height, .list o 1 (ints m.terrain), .list o 1 (ints m.rivers), .list o 1 (ints m.roads)])
abbrev BoardV (o : Bool) (b : Board) : AV := .val (.agg [.list o 5 (b.rules.terrains.map (Terrain.enc o)), .list o 6 (b.rules.kinds.map Kind.enc), .int .i64 b.rules.stack, .int .i64 b.rules.river, .int .i64 b.rules.road, .int .i64 b.rules.supply, .int .i64 b.rules.turns,
  .int .i64 b.map.width, .int .i64 b.map.height, .list o 1 (ints b.map.terrain), .list o 1 (ints b.map.rivers), .list o 1 (ints b.map.roads)])
abbrev StateV (o : Bool) (s : State) : AV := .val (.agg [.int .i64 s.turn, .int .i64 s.weather, .list o 4 (s.units.map Unit.enc)])
abbrev BattleV (o : Bool) (x : Battle) : AV := .val (.agg [.int .i64 x.pos, .list o 1 (ints x.attackers), .list o 1 (ints x.defenders)])
abbrev AttemptV (a : Attempt) : AV := .val (.agg [.int .i64 a.unit, .int .i64 a.src, .int .i64 a.dst])
abbrev OrderV (o : Bool) (a : Order) : AV := .val (.agg [.int .i64 a.unit, .list o 1 (ints a.path), .int .i64 a.attack])
abbrev SheetV (o : Bool) (x : Sheet) : AV := .val (.agg [.int .i64 x.side, .list o 3 (x.orders.map (Order.enc o))])
abbrev OddsV (a : Odds) : AV := .val (.agg [.int .i64 a.num, .int .i64 a.den])
abbrev CombatTableV (o : Bool) (t : CombatTable) : AV := .val (.agg [.list o 2 (t.columns.map Odds.enc), .int .i64 t.dice, .list o 1 (rowsOfL o t.results)])
abbrev AttackV (a : Attack) : AV := .val (.agg [.int .i64 a.unit, .int .i64 a.pos])
/-- Own rows, looked at. -/
@[simp] theorem stale_ints (l : List Int) : staleLL (ints l) = ints l := by
  induction l with
  | nil => rfl
  | cons x l ih => simp only [ints, List.map_cons] at ih ⊢; simp [staleLL, staleL, D.stale, ih]
@[simp] theorem stale_terrains (l : List Terrain) (o : Bool) : staleLL (l.map (Terrain.enc o)) = l.map (Terrain.enc false) := by
  induction l with
  | nil => rfl
  | cons x l ih => simp [staleLL, staleL, D.stale, ih, Terrain.enc]
@[simp] theorem stale_kinds (l : List Kind) : staleLL (l.map Kind.enc) = l.map Kind.enc := by
  induction l with
  | nil => rfl
  | cons x l ih => simp [staleLL, staleL, D.stale, ih, Kind.enc]
@[simp] theorem stale_units (l : List Unit) : staleLL (l.map Unit.enc) = l.map Unit.enc := by
  induction l with
  | nil => rfl
  | cons x l ih => simp [staleLL, staleL, D.stale, ih, Unit.enc]
@[simp] theorem stale_attempts (l : List Attempt) : staleLL (l.map Attempt.enc) = l.map Attempt.enc := by
  induction l with
  | nil => rfl
  | cons x l ih => simp [staleLL, staleL, D.stale, ih, Attempt.enc]
@[simp] theorem stale_orders (l : List Order) (o : Bool) : staleLL (l.map (Order.enc o)) = l.map (Order.enc false) := by
  induction l with
  | nil => rfl
  | cons x l ih => simp [staleLL, staleL, D.stale, ih, Order.enc]
@[simp] theorem stale_odds (l : List Odds) : staleLL (l.map Odds.enc) = l.map Odds.enc := by
  induction l with
  | nil => rfl
  | cons x l ih => simp [staleLL, staleL, D.stale, ih, Odds.enc]
@[simp] theorem stale_attacks (l : List Attack) : staleLL (l.map Attack.enc) = l.map Attack.enc := by
  induction l with
  | nil => rfl
  | cons x l ih => simp [staleLL, staleL, D.stale, ih, Attack.enc]
@[simp] theorem stale_rows (l : List (List Int)) (o : Bool) : staleLL (rowsOfL o l) = rowsOfL false l := by
  induction l with
  | nil => rfl
  | cons x l ih => unfold rowsOfL at *; simp [staleLL, staleL, D.stale, ih]
end Go.Abs.W
set_option linter.unusedSimpArgs false
set_option linter.unusedVariables false
namespace Go.Abs.W
open Go Go.Abs
/-- What is left, or -1. -/
def less (n : Int) (k : Nat) : Int := if n < k then -1 else n - k
/-- A number of which the laws count down. -/
def Left (n : Int) : Prop := 0 ≤ n ∧ n ≤ 1048576
/-- Lengths that memory can hold. -/
def Wide (k : Nat) : Prop := k ≤ maxLen
theorem less_small {n : Int} {k : Nat} (h : Left n) (hk : Wide k) : IntKind.i64.wrap (n - k) = n - k := by
  unfold Left at h; unfold Wide maxLen at hk; rw [IntKind.wrap_i64]; omega
theorem less_yes {n : Int} {k : Nat} (h : n < k) : less n k = -1 := by simp [less, h]
theorem less_no {n : Int} {k : Nat} (h : ¬ n < k) : less n k = n - k := by simp [less, h]
theorem less_left {n : Int} {k : Nat} (hn : Left n) (h : ¬ n < k) : Left (n - k) := by unfold Left at *; omega
def sumN {α : Type} (f : α → Nat) (l : List α) : Nat := (l.map f).sum
theorem sumN_nil {α : Type} (f : α → Nat) : sumN f [] = 0 := rfl
theorem sumN_app {α : Type} (f : α → Nat) (l m : List α) : sumN f (l ++ m) = sumN f l + sumN f m := by simp [sumN]
theorem sumN_one {α : Type} (f : α → Nat) (a : α) : sumN f [a] = f a := by simp [sumN]
theorem sumN_take {α : Type} (f : α → Nat) (l : List α) (i : Nat) : sumN f (l.take i) ≤ sumN f l := by
  conv => rhs; rw [← List.take_append_drop i l, sumN_app]
  exact Nat.le_add_right ..
def WideT (t : Terrain) : Prop := Wide t.name.size ∧ Wide t.cost.length
def cntT (t : Terrain) : Nat := t.name.size + t.cost.length
/-- One part, then another. -/
theorem less_then {n : Int} (a b : Nat) : (if less n a < 0 then (-1 : Int) else if less (less n a) b < 0 then -1 else less (less n a) b) = less n (a + b) := by
  unfold less; split <;> split <;> (try split) <;> (try split) <;> omega
structure WideR (r : Rules) : Prop where
  ts : Wide r.terrains.length
  t : ∀ t ∈ r.terrains, WideT t
  ks : Wide r.kinds.length
  k : ∀ k ∈ r.kinds, Wide k.name.size
def cntR (r : Rules) : Nat := (r.terrains.length + sumN cntT r.terrains) + (r.kinds.length + sumN (fun t => t.name.size) r.kinds)
structure WideM (m : Map) : Prop where
  t : Wide m.terrain.length
  v : Wide m.rivers.length
  d : Wide m.roads.length
def cntM (m : Map) : Nat := m.terrain.length + m.rivers.length + m.roads.length
structure WideB (b : Board) : Prop where
  r : WideR b.rules
  m : WideM b.map
def cntB (b : Board) : Nat := cntR b.rules + cntM b.map
structure WideBattle (x : Battle) : Prop where
  a : Wide x.attackers.length
  d : Wide x.defenders.length
structure WideSheet (x : Sheet) : Prop where
  n : Wide x.orders.length
  o : ∀ a ∈ x.orders, Wide a.path.length
structure WideTable (t : CombatTable) : Prop where
  c : Wide t.columns.length
  n : Wide t.results.length
  r : ∀ l ∈ t.results, Wide l.length
/-- Lengths that the laws let in. -/
def Len (k : Nat) : Prop := k ≤ 1048576
def LenT (t : Terrain) : Prop := Len t.name.size ∧ Len t.cost.length
structure LenR (r : Rules) : Prop where
  ts : Len r.terrains.length
  t : ∀ t ∈ r.terrains, LenT t
  ks : Len r.kinds.length
  k : ∀ k ∈ r.kinds, Len k.name.size
structure LenM (m : Map) : Prop where
  t : Len m.terrain.length
  v : Len m.rivers.length
  d : Len m.roads.length
structure LenB (b : Board) : Prop where
  r : LenR b.rules
  m : LenM b.map
theorem sumN_mem {α : Type} (f : α → Nat) {l : List α} {a : α} (h : a ∈ l) : f a ≤ sumN f l := by
  obtain ⟨p, q, rfl⟩ := List.append_of_mem h
  rw [sumN_app, show a :: q = [a] ++ q from rfl, sumN_app, sumN_one]; omega
theorem LenR_of {r : Rules} (h : cntR r ≤ 1048576) : LenR r := by
  unfold cntR at h
  refine ⟨by unfold Len; omega, fun t ht => ?_, by unfold Len; omega, fun k hk => ?_⟩
  · have := sumN_mem cntT ht
    have e : cntT t = t.name.size + t.cost.length := rfl
    unfold LenT Len; omega
  · have := sumN_mem (fun t : Kind => t.name.size) hk
    unfold Len; omega
theorem LenM_of {m : Map} (h : cntM m ≤ 1048576) : LenM m := by
  unfold cntM at h; exact ⟨by unfold Len; omega, by unfold Len; omega, by unfold Len; omega⟩
theorem LenB_of {b : Board} (h : cntB b ≤ 1048576) : LenB b := by
  unfold cntB at h; exact ⟨LenR_of (by omega), LenM_of (by omega)⟩
end Go.Abs.W
set_option linter.unusedSimpArgs false
set_option linter.unusedVariables false
set_option maxRecDepth 100000
namespace Go.Abs.W
open Go Go.Abs
section
variable {α : Type}
/-- A list whose first i rows are done, the others as they were made. -/
def fillR (f : α → List D) (z : List D) (l : List α) (i : Nat) : List (List D) := (l.take i).map f ++ (l.drop i).map fun _ => z
theorem fillR_zero (f : α → List D) (z : List D) (l : List α) : fillR f z l 0 = List.replicate l.length z := by simp [fillR, List.map_const']
theorem fillR_end (f : α → List D) (z : List D) (l : List α) : fillR f z l l.length = l.map f := by simp [fillR]
@[simp] theorem fillR_len (f : α → List D) (z : List D) (l : List α) (i : Nat) : (fillR f z l i).length = l.length := by simp [fillR]; omega
theorem fillR_at (f : α → List D) (z : List D) {l : List α} {i : Nat} (hi : i < l.length) : ∀ h : i < (fillR f z l i).length, (fillR f z l i)[i]'h = z := by
  intro h
  have h1 : (fillR f z l i)[i]? = some z := by
    unfold fillR
    rw [List.getElem?_append_right (by simp; omega)]
    have : i - (List.map f (List.take i l)).length = 0 := by simp; omega
    rw [this]
    cases hd : l.drop i with
    | nil => have := congrArg List.length hd; simp at this; omega
    | cons x t => simp
  exact (List.getElem?_eq_some_iff.1 h1).2
theorem fillR_set (f : α → List D) (z : List D) {l : List α} {i : Nat} {a : α} (ha : l[i]? = some a) : (fillR f z l i).set i (f a) = fillR f z l (i + 1) := by
  have hi : i < l.length := (List.getElem?_eq_some_iff.1 ha).1
  have h0 := (List.getElem?_eq_some_iff.1 ha).2
  unfold fillR
  rw [List.set_append_right _ _ (by simp; omega)]
  have : i - (List.map f (List.take i l)).length = 0 := by simp; omega
  rw [this, List.drop_eq_getElem_cons hi, List.map_cons, List.set_cons_zero, List.take_succ_eq_append_getElem hi, List.map_append, h0]
  simp
end
theorem make_ok {k : Nat} (h : Len k) : (k : Int) ≤ 68719476736 := by unfold Len at h; omega
end Go.Abs.W
set_option linter.unusedSimpArgs false
set_option linter.unusedVariables false
set_option maxRecDepth 100000
namespace Go.Abs.W
open Go Go.Abs Classical
theorem ints_get {l : List Int} {i : Nat} {n : Int} (h : l[i]? = some n) : ∀ h' : i < (ints l).length, (ints l)[i]'h' = [D.int .i64 n] := fun _ => (List.getElem?_eq_some_iff.1 (ints_at h)).2
@[simp] theorem c_spec_l1In (n lo hi : Int) : C n_spec_l1In [I n, I lo, I hi] = some (Bo (decide (lo ≤ n ∧ n ≤ hi))) := by
  refine callC p_spec_l1In rfl ?_
  by_cases h1 : lo ≤ n <;> by_cases h2 : n ≤ hi <;> simp [xRun, a_spec_l1In, h1, h2]
@[simp] theorem c_impl_inRange (n lo hi : Int) : C n_impl_inRange [I n, I lo, I hi] = some (Bo (decide (lo ≤ n ∧ n ≤ hi))) := by
  refine callC p_impl_inRange rfl ?_
  by_cases h1 : lo ≤ n <;> by_cases h2 : n ≤ hi <;> simp [xRun, a_impl_inRange, h1, h2]
@[simp] theorem c_impl_isSide (d : Int) : C n_impl_isSide [I d] = some (Bo (decide (0 ≤ d ∧ d ≤ 1))) := by
  refine callC p_impl_isSide rfl ?_
  simp [xRun, a_impl_isSide]
/-- All of them lie from lo to hi. -/
def AllIn (l : List Int) (lo hi : Int) : Prop := ∀ n ∈ l, lo ≤ n ∧ n ≤ hi
/-- Strictly increasing. -/
def Inc (l : List Int) : Prop := ∀ (i : Nat) a b, l[i]? = some a → l[i + 1]? = some b → a < b
/-- The index of the first element that p holds of, or -1. -/
noncomputable def firstIx {α : Type} (p : α → Prop) (l : List α) : Int := match l.findIdx? (fun a => decide (p a)) with
  | some i => i
  | none => -1
theorem firstIx_at {α : Type} {p : α → Prop} {l : List α} {i : Nat} {a : α} (ha : l[i]? = some a) (hp : p a) (hs : ∀ b ∈ l.take i, ¬ p b) : firstIx p l = i := by
  have hi := (List.getElem?_eq_some_iff.1 ha).1
  have : l.findIdx? (fun a => decide (p a)) = some i := by
    rw [List.findIdx?_eq_some_iff_getElem]
    refine ⟨hi, by simp [at_of ha, hp], fun j hj => ?_⟩
    have := hs (l[j]'(by omega)) (by rw [List.mem_take_iff_getElem]; exact ⟨j, by omega, rfl⟩)
    simpa using this
  simp [firstIx, this]
theorem firstIx_none {α : Type} {p : α → Prop} {l : List α} (hs : ∀ b ∈ l, ¬ p b) : firstIx p l = -1 := by
  have : l.findIdx? (fun a => decide (p a)) = none := by rw [List.findIdx?_eq_none_iff]; simpa using hs
  simp [firstIx, this]
theorem firstIx_neg {α : Type} {p : α → Prop} {l : List α} : firstIx p l < 0 ↔ ∀ b ∈ l, ¬ p b := by
  unfold firstIx
  cases h : l.findIdx? (fun a => decide (p a)) with
  | none => rw [List.findIdx?_eq_none_iff] at h; simp; simpa using h
  | some i =>
    rw [List.findIdx?_eq_some_iff_getElem] at h
    obtain ⟨hi, h1, _⟩ := h
    simp only [iff_def]
    refine ⟨fun hh => by simp at hh, fun hh => absurd (by simpa using h1) (hh _ (List.getElem_mem hi))⟩
end Go.Abs.W
