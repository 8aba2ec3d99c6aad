import Derived.Control
import Derived.RowKit3
import Derived.Laws.AppendOwn
import Derived.MapKept
import Derived.Laws.CopyRow
import Derived.Laws.Cells
import Derived.Lib.Strings
import Derived.Lib.SliceRun
import Derived.MapFrom
import Derived.Laws.StructEq
namespace Go.Abs
open Go

/-- A datum in one cell. A slice: is it owned (no other part of the frame leads to its array), the cells of an element, the elements. -/
inductive D where
  | int (k : IntKind) (n : Int)
  | bool (b : Bool)
  | str (s : ByteArray)
  | list (own : Bool) (e : Nat) (rows : List (List D))
  | err (b : Bool)
  | anyi (k : IntKind)
  | gone
  deriving Inhabited

/-- A value: one cell, or a struct's cells. -/
inductive V where
  | one (d : D)
  | agg (ds : List D)
  | mapv (kv : List (Int × Int))
  deriving Inhabited

/-- What a slot of a frame holds. Owners ('own', 'box') bear a stamp; what leads into them bears it too. -/
inductive AV where
  | val (v : V)
  | tup (vs : List (Option V))
  | own (id e : Nat) (rows : List (List D))
  | box (id ver : Nat) (ds : List D)
  | rp (ds : List D)
  | ref (t : Nat) (j : Option Nat) (id : Nat)
  | copy (t ver : Nat)
  | part (t ver off n : Nat)
  | bp (t id off : Nat)
  | into (t : Nat) (j : Option Nat) (id e i o : Nat)
  | cell (t id i o : Nat)
  | mapv (id : Nat) (kv : List (Int × Int))
  | mref (t id : Nat)
  | clo (f : FuncId) (caps : List (List D))
  | someb
  | undef
  | dead
  deriving Inhabited

/-- An operand: a slot (and the one owner that it may lead to); the same, given away to a callee; a slot that is copied; a constant; a constant that is given away; a package's variable; a function. -/
inductive X where
  | t (n : Nat)
  | a (n r : Nat)
  | m (n r : Nat)
  | p (n : Nat)
  | c (d : D)
  | k (d : D)
  | g (n : Nat)
  | f (n : Nat)

inductive AOp where
  | mv (x : X)
  | rf (x : X)
  | asg (x : X)
  | frz (x : X)
  | sub (w : Nat) (x : X) (lo hi : Option X)
  | ssub (x : X) (lo hi : Option X)
  | errq (neg : Bool) (x : X)
  | eqs (n : Nat) (x y : X)
  | frk (s : Nat)
  | mkmap
  | mrf (s : Nat)
  | mset (s r : Nat) (x y : X)
  | mend (s r : Nat)
  | junk
  | mget (ok : Bool) (s r : Nat) (x : X)
  | mdel (s r : Nat) (x : X)
  | mlen (s r : Nat)
  | pick (c a b : X)
  | box (x : X)
  | boxk (s : Nat)
  | alloc (z : List D)
  | build (z : List D) (ps : List (Nat × Nat × X))
  | bslice (e n : Nat) (z : List D) (ps : List (Nat × X))
  | load (agg : Bool) (n : Nat) (x : X)
  | store (n : Nat) (a x : X)
  | faddr (off : Nat) (x : X)
  | nc (x : X)
  | iaddr (e : Nat) (x i : X)
  | aaddr (len e : Nat) (x i : X)
  | field (agg : Bool) (off n : Nat) (x : X)
  | sidx (x i : X)
  | bin (op : BinOp) (x y : X)
  | beq (neg : Bool) (x y : X)
  | un (op : UnOp) (x : X)
  | len (x : X)
  | isnil (x : X)
  | bstr (s : Nat)
  | slen (x : X)
  | mm (mx : Bool) (x y : X)
  | append (w : Nat) (x y : X)
  | mslice (e : Nat) (z : List D) (l : X)
  | call (f : FuncId) (args : List X)
  | calli (f : FuncId) (s r : Nat) (args : List X)
  | callv (x : X) (args : List X)
  | mkf (f : FuncId) (caps : List X)
  | extract (x : X) (i : Nat)
  | conv (k : IntKind) (x : X)

structure AOper where
  dst : Option Nat
  guard : Option (Nat × Bool)
  op : AOp

/-- An operation without a guard, in short. -/
def J (d : Nat) (p : AOp) : AOper := ⟨some d, none, p⟩
inductive AC where
  | skip
  | ret
  | exit (id : Nat)
  | reg (ops : List AOper)
  | seq (a b : AC)
  | cond (x : X) (a b : AC)
  | condn (s : Nat) (a b : AC)
  | condf (x : X) (b : AC)
  | block (id : Nat) (a : AC)
  | loop (keep out : List Nat) (a : AC)
  | each (m it dk dv b : Nat) (keep out : List Nat) (a : AC)

inductive AR where
  | tmp (t : Nat)
  | cell (t n : Nat) (agg : Bool)
  | io (s : Nat)

structure AFn where
  params : Nat
  ntmps : Nat
  results : List AR
  body : AC

inductive AE where
  | normal
  | exit (id : Nat)
  | ret

abbrev Env := List AV
abbrev Upd := List (Nat × AV)

def Env.get (e : Env) (t : Nat) : AV := match e, t with
  | [], _ => .dead
  | v :: _, 0 => v
  | _ :: l, n + 1 => Env.get l n
def Env.upd (e : Env) (t : Nat) (v : AV) : Env := match e, t with
  | [], _ => []
  | _ :: l, 0 => v :: l
  | x :: l, n + 1 => x :: Env.upd l n v
def Env.app (e : Env) : Upd → Env
  | [] => e
  | (t, v) :: us => Env.app (Env.upd e t v) us

def plainL : List D → Bool
  | [] => true
  | .list true _ _ :: _ => false
  | _ :: l => plainL l

mutual
def D.stale : D → D
  | .list _ e rows => .list false e (staleLL rows)
  | d => d
def staleL : List D → List D
  | [] => []
  | d :: l => d.stale :: staleL l
def staleLL : List (List D) → List (List D)
  | [] => []
  | d :: l => staleL d :: staleLL l
end
mutual
/-- No slice in it that is not owned. -/
def D.safe : D → Bool
  | .list o _ rows => o && safeLL rows
  | _ => true
def safeL : List D → Bool
  | [] => true
  | d :: l => d.safe && safeL l
def safeLL : List (List D) → Bool
  | [] => true
  | d :: l => safeL d && safeLL l
end
def V.safe : V → Bool
  | .one d => d.safe
  | .agg ds => safeL ds
  | .mapv _ => true
def safeT : List (Option V) → Bool
  | [] => true
  | some v :: l => v.safe && safeT l
  | none :: l => safeT l
def AV.safe : AV → Bool
  | .val v => v.safe
  | .tup vs => safeT vs
  | _ => false

def AV.ofV (st : Nat) : V → AV
  | .one (.list true e rows) => .own st e rows
  | .mapv kv => .mapv st kv
  | v => .val v
/-- What a call hands back, with the stamp of its slot. -/
def AV.stamp (st : Nat) : AV → AV
  | .val v => AV.ofV st v
  | v => v
def outU (us : Upd) (d : Option Nat) (v : AV) : Upd :=
  match d with
  | none => us
  | some t => us ++ [(t, v)]

/-- The own slice at a place: a slot's, or a cell's of a slot's box. -/
def ownAt (L : Env) (t : Nat) (j : Option Nat) (id : Nat) : Option (Nat × List (List D)) :=
  match j with
  | none => match Env.get L t with
    | .own id' e rows => if id' = id then some (e, rows) else none
    | _ => none
  | some j => match Env.get L t with
    | .box _ ver ds => if ver = id then (match ds[j]? with | some (.list true e rows) => some (e, rows) | _ => none) else none
    | _ => none

section
variable {R : Type}
/-- Go on with what is there. -/
def onSome {α R : Type} (o : Option α) (k : α → Option R) : Option R :=
  match o with
  | some a => k a
  | none => none
/-- The forms in which a run waits for a fact: nothing behind them is looked into before the fact is there. -/
def rowK (o : Option (List D)) (dst : Option Nat) (k : Upd → Option R) : Option R :=
  match o with
  | some row => k (outU [] dst (.rp row))
  | none => none
def byteK (o : Option UInt8) (dst : Option Nat) (k : Upd → Option R) : Option R :=
  match o with
  | some b => k (outU [] dst (.val (.one (.int .u8 b.toNat))))
  | none => none
/-- What a call yields that hands back an argument: a tuple without a first part. -/
def isIO : AV → Bool
  | .tup (none :: _) => true
  | _ => false
def callK (o : Option AV) (lent : Bool) (st : Nat) (us : Upd) (dst : Option Nat) (k : Upd → Option R) : Option R :=
  match o with
  | some r => match isIO r with
    | true => none
    | false => match lent with
      | true => if r.safe = true then k (outU us dst (r.stamp st)) else none
      | false => k (outU us dst (r.stamp st))
  | none => none
def V.cells : V → List D
  | .one d => [d]
  | .agg ds => ds
  | .mapv _ => []

/-- What is owned, looked at from now on. -/
def V.stale : V → V
  | .one d => .one d.stale
  | .agg ds => .agg (staleL ds)
  | .mapv _ => .one .gone
def rowTakeK (row : Option (List D)) (o t : Nat) (k : V → Upd → Option R) : Option R :=
  match row with
  | some row => match row[o]? with
    | some (.list true w inner) => k (.one (.list true w inner)) [(t, .dead)]
    | _ => none
  | none => none
/-- A value with what it owns: the source gives it up. -/
def takeS (L : Env) (st s : Nat) (r : Option Nat) (k : V → Upd → Option R) : Option R :=
  match Env.get L s with
  | .own _ e rows => k (.one (.list true e rows)) [(s, .dead)]
  | .val (.one (.list true _ _)) => none
  | .val (.one d) => k (.one d) []
  | .val (.agg ds) => match plainL ds with
    | true => k (.agg ds) []
    | false => k (.agg ds) [(s, .dead)]
  | .ref t none id => if r = some t then (match Env.get L t with
      | .own id' e rows => if id' = id then k (.one (.list true e rows)) [(t, .dead)] else none
      | _ => none) else none
  | .ref t (some j) id => if r = some t then (match Env.get L t with
      | .box b ver ds => if ver = id then (match ds[j]? with
        | some (.list true e rows) => k (.one (.list true e rows)) [(t, .box b st (ds.set j .gone))]
        | _ => none) else none
      | _ => none) else none
  | .copy t ver => if r = some t then (match Env.get L t with
      | .box _ ver' ds => if ver' = ver then k (.agg ds) [(t, .dead)] else none
      | _ => none) else none
  | .cell t id i o => if r = some t then (match Env.get L t with
      | .own id' _ rows => if id' = id then rowTakeK rows[i]? o t k else none
      | _ => none) else none
  | _ => none
/-- A value that owns nothing. -/
def peekS (L : Env) (s : Nat) (k : V → Option R) : Option R :=
  match Env.get L s with
  | .val (.one (.list true _ _)) => none
  | .val (.one d) => k (.one d)
  | .val (.agg ds) => match plainL ds with
    | true => k (.agg ds)
    | false => none
  | _ => none
def take (L : Env) (st : Nat) (x : X) (k : V → Upd → Option R) : Option R :=
  match x with
  | .c d => k (.one d) []
  | .p s => peekS L s fun v => k v []
  | .t s => takeS L st s none k
  | .a s r => takeS L st s (some r) k
  | _ => none

def peek (L : Env) (x : X) (k : V → Option R) : Option R :=
  match x with
  | .c d => k (.one d)
  | .p s => peekS L s k
  | .t s => peekS L s k
  | .a s _ => peekS L s k
  | _ => none
def intS (v : V) (k : IntKind → Int → Option R) : Option R :=
  match v with
  | .one (.int i n) => k i n
  | _ => none
def boolS (v : V) (k : Bool → Option R) : Option R :=
  match v with
  | .one (.bool b) => k b
  | _ => none
def peekInt (L : Env) (x : X) (k : IntKind → Int → Option R) : Option R := peek L x fun v => intS v k
def peekBool (L : Env) (x : X) (k : Bool → Option R) : Option R := peek L x fun v => boolS v k

/-- What is given away to a callee, in order. -/
def movesOf (st : Nat) : Env → List X → List V → Upd → (List V → Upd → Option R) → Option R
  | _, [], acc, us, k => k acc.reverse us
  | L, .m s r :: xs, acc, us, k => takeS L st s (some r) fun v us' => movesOf st (Env.app L us') xs (v :: acc) (us ++ us') k
  | L, _ :: xs, acc, us, k => movesOf st L xs acc us k
/-- An argument of a call: whether something owned is lent; the argument. -/
def argS (L : Env) (s : Nat) (r : Option Nat) (k : Bool → AV → Option R) : Option R :=
  match Env.get L s with
  | .own _ e rows => k true (.val (.one (.list false e (staleLL rows))))
  | .val (.one (.list true _ _)) => none
  | .val (.one d) => k false (.val (.one d))
  | .val (.agg ds) => match plainL ds with
    | true => k false (.val (.agg ds))
    | false => k true (.val (.agg (staleL ds)))
  | .ref t j id => if r = some t then onSome (ownAt L t j id) fun q => k true (.val (.one (.list false q.1 (staleLL q.2)))) else none
  | .copy t ver => if r = some t then (match Env.get L t with
      | .box _ ver' ds => if ver' = ver then k true (.val (.agg (staleL ds))) else none
      | _ => none) else none
  | .rp ds => k false (.rp ds)
  | .clo f c => k false (.clo f c)
  | _ => none
def argsOf (L : Env) : List X → List V → Bool → List AV → (Bool → List AV → Option R) → Option R
  | [], _, b, acc, k => k b acc.reverse
  | .c d :: xs, vs, b, acc, k => argsOf L xs vs b (.val (.one d.stale) :: acc) k
  | .k d :: xs, vs, b, acc, k => argsOf L xs vs b (.val (.one d) :: acc) k
  | .f f :: xs, vs, b, acc, k => argsOf L xs vs b (.clo f [] :: acc) k
  | .t s :: xs, vs, b, acc, k => argS L s none fun b' a => argsOf L xs vs (b || b') (a :: acc) k
  | .a s r :: xs, vs, b, acc, k => argS L s (some r) fun b' a => argsOf L xs vs (b || b') (a :: acc) k
  | .m _ _ :: xs, v :: vs, b, acc, k => argsOf L xs vs b (.val v :: acc) k
  | .m _ _ :: _, [], _, _, _ => none
  | .g _ :: _, _, _, _, _ => none
  | .p _ :: _, _, _, _, _ => none

/-- How an argument that was lent is put back. -/
def ownBack (st e : Nat) : V → Option AV
  | .one (.list true e' rows) => if e' = e then some (.own st e rows) else none
  | _ => none
def cellBack (b ver j e : Nat) (ds : List D) : V → Option AV
  | .one (.list true e' rows) => if e' = e then some (.box b ver (ds.set j (.list true e rows))) else none
  | _ => none
/-- The slices in them are as wide. -/
def sameW : List D → List D → Bool
  | [], [] => true
  | .list true e _ :: a, .list true e' _ :: b => e == e' && sameW a b
  | .list true _ _ :: _, _ => false
  | _ :: a, _ :: b => sameW a b
  | _, _ => false
def rowBack (st e w i o : Nat) (rows : List (List D)) (row : List D) : V → Option AV
  | .one (.list true w' inner) => if w' = w then some (.own st e (rows.set i (row.set o (.list true w inner)))) else none
  | _ => none
def rowLendK (st e i o : Nat) (rows : List (List D)) (row : Option (List D)) (k : V → AV → (V → Option AV) → Option R) : Option R :=
  match row with
  | some row => match row[o]? with
    | some (.list true w inner) => k (.one (.list true w inner)) (.own st e (rows.set i (row.set o .gone))) (rowBack st e w i o rows row)
    | _ => none
  | none => none
def partBack (b ver off n : Nat) (ds : List D) : V → Option AV
  | .agg ds' => if ds'.length = n ∧ sameW ((ds.drop off).take n) ds' = true then some (.box b ver (ds.take off ++ ds' ++ ds.drop (off + n))) else none
  | _ => none
def boxBack (b ver : Nat) (ds : List D) : V → Option AV
  | .agg ds' => if sameW ds ds' = true then some (.box b ver ds') else none
  | _ => none
/-- An argument that is lent to be written: what it holds; what its owner holds meanwhile; how it comes back. -/
def lendS (L : Env) (st s r : Nat) (k : V → AV → (V → Option AV) → Option R) : Option R :=
  match Env.get L s with
  | .ref t none id => if t = r then (match Env.get L t with
      | .own id' e rows => if id' = id then k (.one (.list true e rows)) .dead (ownBack st e) else none
      | _ => none) else none
  | .ref t (some j) id => if t = r then (match Env.get L t with
      | .box b ver ds => if ver = id then (match ds[j]? with
        | some (.list true e rows) => k (.one (.list true e rows)) (.box b st (ds.set j .gone)) (cellBack b ver j e ds)
        | _ => none) else none
      | _ => none) else none
  | .copy t id => if t = r then (match Env.get L t with
      | .box b ver ds => if ver = id then k (.agg ds) (.box b st (ds.map fun _ => .gone)) (boxBack b ver ds) else none
      | _ => none) else none
  | .part t id off n => if t = r then (match Env.get L t with
      | .box b ver ds => if ver = id then (if off + n ≤ ds.length then k (.agg ((ds.drop off).take n)) (.box b st (ds.take off ++ ((ds.drop off).take n).map (fun _ => .gone) ++ ds.drop (off + n))) (partBack b ver off n ds) else none) else none
      | _ => none) else none
  | .cell t id i o => if t = r then (match Env.get L t with
      | .own id' e rows => if id' = id then rowLendK st e i o rows rows[i]? k else none
      | _ => none) else none
  | _ => none
/-- What such a call yields beside that: a value, or nothing. -/
def ovAV (st : Nat) : Option V → AV
  | some x => AV.ofV st x
  | none => .dead
def ovSafe : Option V → Bool
  | some x => x.safe
  | none => true
/-- What goes back is no map. -/
def backV (back : V → Option AV) : V → Option AV
  | .mapv _ => none
  | y => back y
/-- A call that writes into its first argument: behind it. -/
def calliK (o : Option AV) (lent : Bool) (st r : Nat) (back : V → Option AV) (dst : Option Nat) (k : Upd → Option R) : Option R :=
  match o with
  | some (.tup [none, x, some y]) => if lent = true ∧ (ovSafe x && y.safe) = false then none else onSome (backV back y) fun av => k (outU [(r, av)] dst (ovAV st x))
  | _ => none
/-- Cells are written at a pointer. -/
def rowWriteK (row : Option (List D)) (o : Nat) (ds : List D) (k : List D → Option R) : Option R :=
  match row with
  | some row => if o + ds.length ≤ row.length then k (row.take o ++ ds ++ row.drop (o + ds.length)) else none
  | none => none
def writeS (L : Env) (st s : Nat) (r : Option Nat) (ds : List D) (us : Upd) (k : Upd → Option R) : Option R :=
  match Env.get L s with
  | .box b _ old => if old.length = ds.length then k (us ++ [(s, .box b st ds)]) else none
  | .bp t id off => if r = some t then (match Env.get L t with
      | .box b _ old => if b = id then (if off + ds.length ≤ old.length then k (us ++ [(t, .box b st (old.take off ++ ds ++ old.drop (off + ds.length)))]) else none) else none
      | _ => none) else none
  | .into t j id _ i o => if r = some t then (match j with
      | none => match Env.get L t with
        | .own id' e rows => if id' = id then rowWriteK rows[i]? o ds fun row => k (us ++ [(t, .own (if plainL ds = true then id else st) e (rows.set i row))]) else none
        | _ => none
      | some j => match Env.get L t with
        | .box b ver old => if ver = id then (match old[j]? with
          | some (.list true e rows) => rowWriteK rows[i]? o ds fun row => k (us ++ [(t, .box b ver (old.set j (.list true e (rows.set i row))))])
          | _ => none) else none
        | _ => none) else none
  | _ => none
def writeAt (L : Env) (st : Nat) (a : X) (ds : List D) (us : Upd) (k : Upd → Option R) : Option R :=
  match a with
  | .t s => writeS L st s none ds us k
  | .a s r => writeS L st s (some r) ds us k
  | _ => none

/-- What leads to an own slice in a cell of an element of a slot's own slice. -/
def cellV (t : Nat) (j : Option Nat) (id i o : Nat) : AV := match j with
  | none => .cell t id i o
  | some _ => .dead
/-- Cells are read: a struct's, or one. 'own': what to hand back where the one cell is an own slice; 'whole': where a struct's cells are not all plain. -/
def readV (agg : Bool) (n : Nat) (ds : List D) (own : AV) (whole : AV) (k : AV → Option R) : Option R :=
  match agg with
  | true => if n ≤ ds.length then (match plainL (ds.take n) with
    | true => k (.val (.agg (ds.take n)))
    | false => k whole) else none
  | false => match ds with
    | .list true _ _ :: _ => k own
    | d :: _ => k (.val (.one d))
    | [] => none
def rowReadK (row : Option (List D)) (agg : Bool) (n o : Nat) (own : AV) (k : AV → Option R) : Option R :=
  match row with
  | some row => readV agg n (row.drop o) own .dead k
  | none => none
def readS (L : Env) (s : Nat) (r : Option Nat) (agg : Bool) (n : Nat) (k : AV → Option R) : Option R :=
  match Env.get L s with
  | .box _ ver ds => readV agg n ds (.ref s (some 0) ver) (if n = ds.length then .copy s ver else .part s ver 0 n) k
  | .bp t id off => if r = some t then (match Env.get L t with
      | .box b ver ds => if b = id then readV agg n (ds.drop off) (.ref t (some off) ver) (.part t ver off n) k else none
      | _ => none) else none
  | .into t j id _ i o => if r = some t then onSome (ownAt L t j id) fun q => rowReadK q.2[i]? agg n o (cellV t j id i o) k else none
  | .rp ds => readV agg n ds .dead .dead k
  | _ => none
def readAt (L : Env) (glob : Nat → List D) (agg : Bool) (n : Nat) (a : X) (k : AV → Option R) : Option R :=
  match a with
  | .t s => readS L s none agg n k
  | .a s r => readS L s (some r) agg n k
  | .g g => readV agg n (glob g) .dead .dead k
  | _ => none

def binInt (op : BinOp) (i : IntKind) (a b : Int) (k : D → Option R) : Option R :=
  match op with
  | .add => k (.int i (i.wrap (a + b)))
  | .sub => k (.int i (i.wrap (a - b)))
  | .mul => k (.int i (i.wrap (a * b)))
  | .quo => if b = 0 then none else k (.int i (i.wrap (a.tdiv b)))
  | .rem => if b = 0 then none else k (.int i (a.tmod b))
  | .eql => k (.bool (a == b))
  | .neq => k (.bool (a != b))
  | .lss => k (.bool (decide (a < b)))
  | .leq => k (.bool (decide (a ≤ b)))
  | .gtr => k (.bool (decide (a > b)))
  | .geq => k (.bool (decide (a ≥ b)))
  | _ => none
def binV (op : BinOp) (x y : V) (k : D → Option R) : Option R :=
  match x, y with
  | .one (.int i a), .one (.int j b) => if i = j then binInt op i a b k else none
  | .one (.str a), .one (.str b) => match op with
    | .eql => k (.bool (decide (a = b)))
    | .neq => k (.bool (!decide (a = b)))
    | .add => if a.size + b.size ≤ 1099511627776 then k (.str (a ++ b)) else none
    | _ => none
  | _, _ => none
def beqV (neg : Bool) (x y : V) (k : D → Option R) : Option R :=
  match x, y with
  | .one (.bool a), .one (.bool b) => match neg with
    | false => k (.bool (a == b))
    | true => k (.bool (a != b))
  | _, _ => none
def slenV (x : V) (k : D → Option R) : Option R :=
  match x with
  | .one (.str s) => k (.int .i64 s.size)
  | _ => none
def unV (op : UnOp) (x : V) (k : D → Option R) : Option R :=
  match op, x with
  | .not, .one (.bool b) => k (.bool (!b))
  | .neg, .one (.int i n) => k (.int i (i.wrap (0 - n)))
  | _, _ => none

def lenS (L : Env) (s : Nat) (r : Option Nat) (k : Int → Option R) : Option R :=
  match Env.get L s with
  | .val (.one (.list false _ rows)) => k rows.length
  | .own _ _ rows => k rows.length
  | .ref t j id => if r = some t then onSome (ownAt L t j id) fun q => k q.2.length else none
  | _ => none
def lenOf (L : Env) (x : X) (k : Int → Option R) : Option R :=
  match x with
  | .t s => lenS L s none k
  | .a s r => lenS L s (some r) k
  | _ => none

def takes (st : Nat) : Env → List X → List V → Upd → (List V → Upd → Option R) → Option R
  | _, [], acc, us, k => k acc.reverse us
  | L, x :: xs, acc, us, k => take L st x fun v us' => takes st (Env.app L us') xs (v :: acc) (us ++ us') k

def fillCells (z : List D) : List (Nat × Nat) → List V → Option (List D)
  | [], [] => some z
  | (off, n) :: ps, v :: vs => if v.cells.length = n ∧ off + n ≤ z.length then fillCells (z.take off ++ v.cells ++ z.drop (off + n)) ps vs else none
  | _, _ => none
def rowsOf (e : Nat) : Nat → List D → List (List D)
  | 0, _ => []
  | n + 1, ds => ds.take e :: rowsOf e n (ds.drop e)
def V.ofCells (agg : Bool) (ds : List D) : Option V :=
  match agg, ds with
  | true, ds => some (.agg ds)
  | false, [d] => some (.one d)
  | _, _ => none
def repl (n : Nat) (z : List D) : List D := (List.replicate n z).flatten

/-- The greater of two numbers, or the smaller. -/
def mmI : Bool → Int → Int → Int
  | true, n, m => if m > n then m else n
  | false, n, m => if m < n then m else n
abbrev Orc := FuncId → List AV → Option AV

def iaddrS (L : Env) (s : Nat) (r : Option Nat) (w : Nat) (n : Nat) (dst : Option Nat) (k : Upd → Option R) : Option R :=
  match Env.get L s with
  | .val (.one (.list false w' rows)) => if w' = w then rowK rows[n]? dst k else none
  | .own id w' rows => if w' = w then (if n < rows.length then k (outU [] dst (.into s none id w n 0)) else none) else none
  | .ref t j id => if r = some t then onSome (ownAt L t j id) fun q => if q.1 = w then (if n < q.2.length then k (outU [] dst (.into t j id w n 0)) else none) else none else none
  | _ => none
def offS (L : Env) (s : Nat) (r : Option Nat) (n : Nat) (dst : Option Nat) (k : Upd → Option R) : Option R :=
  match Env.get L s with
  | .box b _ _ => k (outU [] dst (.bp s b n))
  | .bp t id o => if r = some t then (match Env.get L t with
      | .box b _ _ => if b = id then k (outU [] dst (.bp t id (o + n))) else none
      | _ => none) else none
  | .into t j id w i o => if r = some t then onSome (ownAt L t j id) fun _ => k (outU [] dst (.into t j id w i (o + n))) else none
  | .rp ds => k (outU [] dst (.rp (ds.drop n)))
  | _ => none
def offX (L : Env) (glob : Nat → List D) (x : X) (n : Nat) (dst : Option Nat) (k : Upd → Option R) : Option R :=
  match x with
  | .t s => offS L s none n dst k
  | .a s r => offS L s (some r) n dst k
  | .g g => k (outU [] dst (.rp ((glob g).drop n)))
  | _ => none
def mvS (L : Env) (s : Nat) (dst : Option Nat) (k : Upd → Option R) : Option R :=
  match Env.get L s with
  | .own id _ _ => k (outU [] dst (.ref s none id))
  | .val (.one (.list true _ _)) => none
  | .val (.one d) => k (outU [] dst (.val (.one d)))
  | .val (.agg ds) => match plainL ds with
    | true => k (outU [] dst (.val (.agg ds)))
    | false => k (outU [(s, .dead)] dst (.val (.agg ds)))
  | .tup vs => k (outU [(s, .dead)] dst (.tup vs))
  | .rp ds => k (outU [] dst (.rp ds))
  | .clo f c => k (outU [] dst (.clo f c))
  | .ref t j id => k (outU [] dst (.ref t j id))
  | .bp t id o => k (outU [] dst (.bp t id o))
  | .into t j id w i o => k (outU [] dst (.into t j id w i o))
  | .copy t ver => k (outU [] dst (.copy t ver))
  | .box b _ _ => k (outU [] dst (.bp s b 0))
  | _ => none
/-- A slice, a pointer, a function: what leads to it is copied. -/
def rfS (L : Env) (s : Nat) (dst : Option Nat) (k : Upd → Option R) : Option R :=
  match Env.get L s with
  | .own id _ _ => k (outU [] dst (.ref s none id))
  | .val (.one (.list true _ _)) => none
  | .val (.one d) => k (outU [] dst (.val (.one d)))
  | .rp ds => k (outU [] dst (.rp ds))
  | .clo f c => k (outU [] dst (.clo f c))
  | .ref t j id => k (outU [] dst (.ref t j id))
  | .bp t id o => k (outU [] dst (.bp t id o))
  | .into t j id w i o => k (outU [] dst (.into t j id w i o))
  | .box b _ _ => k (outU [] dst (.bp s b 0))
  | _ => none
/-- Two structs of whole numbers: are they alike. -/
def eqInts : List D → List D → Option Bool
  | [], [] => some true
  | .int .i64 m :: a, .int .i64 n :: b => match eqInts a b with
    | some r => some (m == n && r)
    | none => none
  | _, _ => none
def eqsK (n : Nat) (v u : V) (k : Bool → Option R) : Option R :=
  match v, u with
  | .agg a, .agg b => if a.length = n then onSome (eqInts a b) k else none
  | _, _ => none
/-- A list is looked at from now on, where it lies too. -/
def frkS (L : Env) (s : Nat) (dst : Option Nat) (k : Upd → Option R) : Option R :=
  match Env.get L s with
  | .own _ w rows => k (outU [(s, .val (.one (.list false w (staleLL rows))))] dst (.val (.one (.list false w (staleLL rows)))))
  | .val (.one (.list false w rows)) => k (outU [] dst (.val (.one (.list false w rows))))
  | _ => none
/-- A bound of a part of a list. -/
def peekO (L : Env) (x : Option X) (d : Int) (k : Int → Option R) : Option R :=
  match x with
  | none => k d
  | some x => peekInt L x fun _ n => k n
def lenV : V → Int
  | .one (.list _ _ rows) => rows.length
  | _ => 0
/-- A part of a list that is looked at. -/
def subK (w : Nat) (v : V) (l h : Int) (k : D → Option R) : Option R :=
  match v with
  | .one (.list false w' rows) => if w' = w ∧ 0 ≤ l ∧ l ≤ h ∧ h ≤ rows.length then k (.list false w ((rows.drop l.toNat).take (h.toNat - l.toNat))) else none
  | _ => none
/-- A part of a text. -/
def ssubK (v : V) (l h : Int) (k : D → Option R) : Option R :=
  match v with
  | .one (.str s) => if 0 ≤ l ∧ l ≤ h ∧ h ≤ s.size then k (.str (s.extract l.toNat h.toNat)) else none
  | _ => none
def sizeV : V → Int
  | .one (.str s) => s.size
  | _ => 0
/-- An error is compared with nil. -/
def errK (neg : Bool) (v : V) (k : D → Option R) : Option R :=
  match v with
  | .one (.err b) => k (.bool (if neg = true then b else !b))
  | _ => none
/-- What a map holds, in the order of the keys' coming. -/
def kvGet : List (Int × Int) → Int → Option Int
  | [], _ => none
  | (a, b) :: l, n => if a = n then some b else kvGet l n
def kvSet : List (Int × Int) → Int → Int → List (Int × Int)
  | [], n, m => [(n, m)]
  | (a, b) :: l, n, m => if a = n then (a, m) :: l else (a, b) :: kvSet l n m
def kvDel : List (Int × Int) → Int → List (Int × Int)
  | [], _ => []
  | (a, b) :: l, n => if a = n then l else (a, b) :: kvDel l n
def kvVal (o : Option Int) : Int := match o with
  | some m => m
  | none => 0
/-- What leads to a map. -/
def mrfS (L : Env) (s : Nat) (dst : Option Nat) (k : Upd → Option R) : Option R :=
  match Env.get L s with
  | .mapv id _ => k (outU [] dst (.mref s id))
  | .mref t id => k (outU [] dst (.mref t id))
  | _ => none
/-- The map that a slot leads to is there. -/
def mapS (L : Env) (s r : Nat) (k : Nat → List (Int × Int) → Option R) : Option R :=
  match Env.get L s with
  | .mref t id => if t = r then (match Env.get L t with
      | .mapv id' kv => if id' = id then k id kv else none
      | _ => none) else none
  | .mapv id kv => if s = r then k id kv else none
  | _ => none
def extractS (L : Env) (st s i : Nat) (dst : Option Nat) (k : Upd → Option R) : Option R :=
  match Env.get L s with
  | .tup vs => match vs[i]? with
    | some (some v) => k (outU [(s, .tup (vs.set i none))] dst (AV.ofV st v))
    | _ => none
  | _ => none
def flatD : D → Bool
  | .int _ _ => true
  | .bool _ => true
  | .str _ => true
  | .err _ => true
  | _ => false
def extractP (L : Env) (s i : Nat) (dst : Option Nat) (k : Upd → Option R) : Option R :=
  match Env.get L s with
  | .tup vs => match vs[i]? with
    | some (some (.one d)) => if flatD d = true then k (outU [] dst (.val (.one d))) else none
    | _ => none
  | _ => none
def capS (L : Env) (s : Nat) (k : List D → Upd → Option R) : Option R :=
  match Env.get L s with
  | .box _ _ ds => match plainL ds with
    | true => k ds [(s, .rp ds)]
    | false => none
  | .rp ds => k ds []
  | _ => none
def caps : Env → List X → List (List D) → Upd → (List (List D) → Upd → Option R) → Option R
  | _, [], acc, us, k => k acc.reverse us
  | L, .t s :: xs, acc, us, k => capS L s fun ds us' => caps (Env.app L us') xs (ds :: acc) (us ++ us') k
  | _, _ :: _, _, _, _ => none
def strAt (v : V) (n : Nat) (dst : Option Nat) (k : Upd → Option R) : Option R :=
  match v with
  | .one (.str s) => byteK s.data.toList[n]? dst k
  | _ => none
def fieldV (v : V) (agg : Bool) (off n : Nat) (k : AV → Option R) : Option R :=
  match v with
  | .agg ds => readV agg n (ds.drop off) .dead .dead k
  | _ => none
def callvS (c : Orc) (L : Env) (st s : Nat) (dst : Option Nat) (args : List X) (k : Upd → Option R) : Option R :=
  match Env.get L s with
  | .clo f cs => movesOf st L args [] [] fun vs us => argsOf (Env.app L us) args vs false [] fun b as => callK (c f (as ++ cs.map .rp)) b st us dst k
  | _ => none
def appendV (w : Nat) (v u : V) (k : List (List D) → Option R) : Option R :=
  match v, u with
  | .one (.list true w1 rows), .one (.list _ w2 more) => if w1 = w ∧ w2 = w then (if rows.length + more.length ≤ 68719476736 then k (rows ++ more) else none) else none
  | _, _ => none

/-- A slice is compared with nil: one with elements is not nil; of another nothing is known. -/
def nilV (n : Int) : AV := if n = 0 then .someb else .val (.one (.bool false))
/-- What an operation does to the slots. -/
def opK (c : Orc) (glob : Nat → List D) (st : Nat) (dst : Option Nat) (o : AOp) (L : Env) (k : Upd → Option R) : Option R :=
  match o with
  | .mv x => match x with
    | .c d => k (outU [] dst (AV.ofV st (.one d)))
    | .g g => k (outU [] dst (.rp (glob g)))
    | .f f => k (outU [] dst (.clo f []))
    | .t s => mvS L s dst k
    | .a s _ => mvS L s dst k
    | .p s => peekS L s fun v => k (outU [] dst (.val v))
    | .m _ _ => none
    | .k _ => none
  | .rf x => match x with
    | .t s => rfS L s dst k
    | .a s _ => rfS L s dst k
    | _ => none
  | .asg x => take L st x fun v us => k (outU us dst (AV.ofV st v))
  | .frz x => take L st x fun v us => k (outU us dst (.val v.stale))
  | .sub w x lo hi => peek L x fun v => peekO L lo 0 fun l => peekO L hi (lenV v) fun h => subK w v l h fun d => k (outU [] dst (.val (.one d)))
  | .ssub x lo hi => peek L x fun v => peekO L lo 0 fun l => peekO L hi (sizeV v) fun h => ssubK v l h fun d => k (outU [] dst (.val (.one d)))
  | .errq neg x => peek L x fun v => errK neg v fun d => k (outU [] dst (.val (.one d)))
  | .eqs n x y => peek L x fun v => peek L y fun u => eqsK n v u fun r => k (outU [] dst (.val (.one (.bool r))))
  | .frk s => frkS L s dst k
  | .mkmap => k (outU [] dst (.mapv st []))
  | .mrf s => mrfS L s dst k
  | .mset s r x y => mapS L s r fun id kv => peekInt L x fun i n => if i = .i64 then peekInt L y fun j m => if j = .i64 then k [(r, .mapv id (kvSet kv n m))] else none else none
  | .mend s r => mapS L s r fun _ kv => k (outU [(r, .dead)] dst (.mapv st kv))
  | .mget ok s r x => mapS L s r fun _ kv => peekInt L x fun i n => if i = .i64 then k (outU [] dst (if ok = true then .tup [some (.one (.int .i64 (kvVal (kvGet kv n)))), some (.one (.bool (kvGet kv n).isSome))] else .val (.one (.int .i64 (kvVal (kvGet kv n)))))) else none
  | .mdel s r x => mapS L s r fun id kv => peekInt L x fun i n => if i = .i64 then k [(r, .mapv id (kvDel kv n))] else none
  | .mlen s r => mapS L s r fun _ kv => k (outU [] dst (.val (.one (.int .i64 kv.length))))
  | .junk => k (outU [] dst (.val (.one .gone)))
  | .pick x a b => peekBool L x fun t => if t = true then peek L a fun v => k (outU [] dst (.val v)) else peek L b fun v => k (outU [] dst (.val v))
  | .box x => take L st x fun v us => k (outU us dst (.box st st v.cells))
  | .boxk s => match dst, Env.get L s with
    | some d, .val (.agg ds) => k [(s, .copy d st), (d, .box st st ds)]
    | _, _ => none
  | .alloc z => k (outU [] dst (.box st st z))
  | .build z ps => takes st L (ps.map (·.2.2)) [] [] fun vs us => onSome (fillCells z (ps.map fun p => (p.1, p.2.1)) vs) fun ds => k (outU us dst (.val (.agg ds)))
  | .bslice w n z ps => takes st L (ps.map (·.2)) [] [] fun vs us => onSome (fillCells (repl n z) (ps.map fun p => (p.1 * w, w)) vs) fun ds =>
      k (outU us dst (.own st w (rowsOf w n ds)))
  | .load agg n x => readAt L glob agg n x fun v => k (outU [] dst v)
  | .store n a x => take L st x fun v us => if v.cells.length = n then writeAt (Env.app L us) st a v.cells us k else none
  | .faddr off x => offX L glob x off dst k
  | .nc x => offX L glob x 0 dst k
  | .iaddr w x i => peekInt L i fun _ n => if n < 0 then none else match x with
    | .t s => iaddrS L s none w n.toNat dst k
    | .a s r => iaddrS L s (some r) w n.toNat dst k
    | _ => none
  | .aaddr len w x i => peekInt L i fun _ n => if 0 ≤ n ∧ n < len then offX L glob x (n.toNat * w) dst k else none
  | .field agg off n x => peek L x fun v => fieldV v agg off n fun v => k (outU [] dst v)
  | .sidx x i => peekInt L i fun _ n => if n < 0 then none else peek L x fun v => strAt v n.toNat dst k
  | .bin op x y => peek L x fun v => peek L y fun u => binV op v u fun d => k (outU [] dst (.val (.one d)))
  | .beq neg x y => peek L x fun v => peek L y fun u => beqV neg v u fun d => k (outU [] dst (.val (.one d)))
  | .mm mx x y => peekInt L x fun i n => peekInt L y fun j m => if i = j then k (outU [] dst (.val (.one (.int i (mmI mx n m))))) else none
  | .slen x => peek L x fun v => slenV v fun d => k (outU [] dst (.val (.one d)))
  | .un op x => peek L x fun v => unV op v fun d => k (outU [] dst (.val (.one d)))
  | .len x => lenOf L x fun n => k (outU [] dst (.val (.one (.int .i64 n))))
  | .bstr s => match Env.get L s with
    | .own _ 1 [[.int .u8 n]] => k (outU [] dst (.val (.one (.str (ByteArray.empty.push (UInt8.ofNat n.toNat))))))
    | _ => none
  | .isnil x => lenOf L x fun n => k (outU [] dst (nilV n))
  | .append w x y => take L st x fun v us => take (Env.app L us) st y fun u us' => appendV w v u fun rows => k (outU (us ++ us') dst (.own st w rows))
  | .mslice w z l => peekInt L l fun _ n => if 0 ≤ n ∧ n ≤ 68719476736 then k (outU [] dst (.own st w (List.replicate n.toNat z))) else none
  | .call f args => movesOf st L args [] [] fun vs us => argsOf (Env.app L us) args vs false [] fun b as => callK (c f as) b st us dst k
  | .calli f s r args => lendS L st s r fun v mid back => argsOf (Env.upd L r mid) args [] false [] fun b as => calliK (c f (.val v :: as)) b st r back dst k
  | .callv x args => match x with
    | .t s => callvS c L st s dst args k
    | .a s _ => callvS c L st s dst args k
    | _ => none
  | .mkf f cs => caps L cs [] [] fun ds us => k (outU us dst (.clo f ds))
  | .extract x i => match x with
    | .t s => extractS L st s i dst k
    | .a s _ => extractS L st s i dst k
    | .p s => extractP L s i dst k
    | _ => none
  | .conv i x => peekInt L x fun _ n => k (outU [] dst (.val (.one (.int i (i.wrap n)))))

def evalOps (c : Orc) (glob : Nat → List D) : Nat → List AOper → Env → (Nat → Env → Option R) → Option R
  | st, [], e, k => k st e
  | st, o :: os, e, k => match o.guard with
    | none => opK c glob st o.dst o.op e fun us => evalOps c glob (st + 1) os (Env.app e us) k
    | some (t, b) => match Env.get e t with
      | .val (.one (.bool v)) => match b with
        | true => if v = true then opK c glob st o.dst o.op (Env.upd e t (.val (.one (.bool true)))) fun us => evalOps c glob (st + 1) os (Env.app (Env.upd e t (.val (.one (.bool true)))) us) k
          else evalOps c glob (st + 1) os (Env.app (Env.upd e t (.val (.one (.bool false)))) (outU [] o.dst .undef)) k
        | false => if v = true then evalOps c glob (st + 1) os (Env.app (Env.upd e t (.val (.one (.bool true)))) (outU [] o.dst .undef)) k
          else opK c glob st o.dst o.op (Env.upd e t (.val (.one (.bool false)))) fun us => evalOps c glob (st + 1) os (Env.app (Env.upd e t (.val (.one (.bool false)))) us) k
      | .undef => evalOps c glob (st + 1) os (Env.app e (outU [] o.dst .undef)) k
      | _ => none

/-- At a loop's head: what is kept, with stamps anew; what leads into an owner that is there stays. -/
def trimV (keep : List Nat) (e : Env) (s : Nat) (v : AV) : AV :=
  match keep.contains s with
  | false => .dead
  | true => match v with
    | .own _ w rows => .own 0 w rows
    | .box _ _ ds => .box 0 0 ds
    | .ref t none id => if keep.contains t = true then (match Env.get e t with
        | .own id' _ _ => if id' = id then .ref t none 0 else .dead
        | _ => .dead) else .dead
    | .ref _ (some _) _ => .dead
    | .copy _ _ => .dead
    | .part _ _ _ _ => .dead
    | .bp _ _ _ => .dead
    | .into _ _ _ _ _ _ => .dead
    | .cell _ _ _ _ => .dead
    | .mapv _ kv => .mapv 0 kv
    | .mref t id => if keep.contains t = true then (match Env.get e t with
        | .mapv id' _ => if id' = id then .mref t 0 else .dead
        | _ => .dead) else .dead
    | v => v
def trimFrom (keep : List Nat) (e0 : Env) : Nat → Env → Env
  | _, [] => []
  | s, v :: l => trimV keep e0 s v :: trimFrom keep e0 (s + 1) l
def trim (keep : List Nat) (e : Env) : Env := trimFrom keep e 0 e

/-- Rounds of a loop, at most n. -/
def loopN (body : Env → Option (AE × Nat × Env)) (keep : List Nat) : Nat → Env → Option (AE × Nat × Env)
  | 0, _ => none
  | n + 1, e => match body (trim keep e) with
    | some (.normal, _, e') => loopN body keep n e'
    | r => r
open Classical in
/-- The loop, as long as it takes. -/
noncomputable def loopF (body : Env → Option (AE × Nat × Env)) (keep : List Nat) (e : Env) : Option (AE × Nat × Env) :=
  if h : ∃ n r, loopN body keep n e = some r then loopN body keep h.choose e else none

/-- The results out of the last frame. -/
def resOf (e : Env) : AR → Option V
  | .tmp t => match Env.get e t with
    | .val v => some v
    | .own _ w rows => some (.one (.list true w rows))
    | _ => none
  | .cell t n agg => match Env.get e t with
    | .box _ _ ds => if ds.length = n then V.ofCells agg ds else none
    | _ => none
  | .io s => match Env.get e s with
    | .own _ w rows => some (.one (.list true w rows))
    | .copy t ver => match Env.get e t with
      | .box _ ver' ds => if ver' = ver then some (.agg ds) else none
      | _ => none
    | _ => none
/-- A part of what is handed back: a map too. -/
def resPart (e : Env) : AR → Option V
  | .tmp t => match Env.get e t with
    | .mapv _ kv => some (.mapv kv)
    | _ => resOf e (.tmp t)
  | r => resOf e r
def resAll (e : Env) : List AR → Option (List V)
  | [] => some []
  | r :: rs => match resPart e r, resAll e rs with
    | some v, some vs => some (v :: vs)
    | _, _ => none
/-- The results of a function that hands back its first argument: one, or none. -/
def ioOf : List AR → Option (List AR)
  | [r, .io 0] => some [r]
  | [.io 0] => some []
  | _ => none
def finPlain (rs : List AR) (e : Env) : Option AV :=
  match rs with
  | [r] => match resOf e r with
    | some v => some (.val v)
    | none => none
  | rs => match resAll e rs with
    | some vs => some (.tup (vs.map some))
    | none => none
def finIO (rs : List AR) (e : Env) : Option AV :=
  match rs with
  | [r] => match resOf e r, resOf e (.io 0) with
    | some (.one d), some y => if flatD d = true then some (.tup [none, some (.one d), some y]) else none
    | _, _ => none
  | [] => match resOf e (.io 0) with
    | some y => some (.tup [none, none, some y])
    | none => none
  | _ => none
def finish (rs : List AR) (e : Env) : Option AV :=
  match ioOf rs with
  | some r => finIO r e
  | none => finPlain rs e
/-- The map in a slot. -/
def mapAt (e : Env) (m b : Nat) : Option (List (Int × Int)) :=
  if b ≤ e.length then (match Env.get e m with
    | .mapv _ kv => some kv
    | _ => none) else none
/-- Rounds over a map's pairs, in one order. -/
def eachN (body : Env → Option (AE × Nat × Env)) (dk dv : Nat) (keep out : List Nat) : List (Int × Int) → Env → Option Env
  | [], e => some (trim out e)
  | p :: l, e => match body (Env.upd (Env.upd (trim keep e) dk (.val (.one (.int .i64 p.1)))) dv (.val (.one (.int .i64 p.2)))) with
    | some (.normal, _, e') => eachN body dk dv keep out l e'
    | _ => none
open Classical in
/-- What they come to, whatever the order. -/
noncomputable def eachF (body : Env → Option (AE × Nat × Env)) (dk dv : Nat) (keep out : List Nat) (kv : List (Int × Int)) (e : Env) : Option Env :=
  if h : ∃ r, ∀ l, l.Perm kv → eachN body dk dv keep out l (trim keep e) = some r then some h.choose else none
def loopK (o : Option (AE × Nat × Env)) (k : AE → Nat → Env → Option R) : Option R :=
  match o with
  | some r => k r.1 r.2.1 r.2.2
  | none => none

open Classical in
/-- Two runs that end alike. -/
noncomputable def bothK (a b : Option R) : Option R := if a = b then a else none
end

noncomputable def exec (c : Orc) (glob : Nat → List D) : {R : Type} → Nat → AC → Env → (AE → Nat → Env → Option R) → Option R
  | _, st, .skip, e, k => k .normal st e
  | _, st, .ret, e, k => k .ret st e
  | _, st, .exit id, e, k => k (.exit id) st e
  | _, st, .reg ops, e, k => evalOps c glob st ops e (k .normal)
  | _, st, .seq a b, e, k => exec c glob st a e fun x st' e' => match x with
    | .normal => exec c glob st' b e' k
    | x => k x st' e'
  | _, st, .cond x a b, e, k => peekBool e x fun t => if t = true then exec c glob st a e k else exec c glob st b e k
  | _, st, .condf x b, e, k => peekBool e x fun t => if t = true then none else exec c glob st b e k
  | _, st, .condn s a b, e, k => match Env.get e s with
    | .someb => bothK (exec c glob st a e k) (exec c glob st b e k)
    | .val (.one (.bool t)) => if t = true then exec c glob st a e k else exec c glob st b e k
    | _ => none
  | _, st, .block id a, e, k => exec c glob st a e fun x st' e' => match x with
    | .exit i => if i = id then k .normal st' e' else k (.exit i) st' e'
    | x => k x st' e'
  | _, _, .each m _ dk dv b keep out a, e, k => onSome (mapAt e m b) fun kv => onSome (eachF (fun e => exec c glob 1 a e fun x st' e' => some (x, st', e')) dk dv keep out kv e) fun e' => k .normal 1 e'
  | _, _, .loop keep out a, e, k => loopK (loopF (fun e => exec c glob 1 a e fun x st' e' => some (x, st', e')) keep e) fun x st' e' => k x (st' + 1) (trim out e')

noncomputable def runF (c : Orc) (glob : Nat → List D) (fn : AFn) (args : List AV) : Option AV :=
  if args.length = fn.params then
    exec c glob 1 fn.body (args.map (AV.stamp 0) ++ List.replicate (fn.ntmps - fn.params) .undef) fun x _ e => match x with
      | .normal => finish fn.results e
      | .ret => finish fn.results e
      | _ => none
  else none

/-- Calls nested at most n deep. -/
noncomputable def callN (prog : FuncId → Option AFn) (hand : FuncId → Option (List AV → Option AV)) (glob : Nat → List D) : Nat → Orc
  | 0, _, _ => none
  | n + 1, f, args => match hand f with
    | some h => h args
    | none => match prog f with
      | some fn => runF (callN prog hand glob n) glob fn args
      | none => none
open Classical in
/-- A call, as deep as it goes. -/
noncomputable def callF (prog : FuncId → Option AFn) (hand : FuncId → Option (List AV → Option AV)) (glob : Nat → List D) (f : FuncId) (args : List AV) : Option AV :=
  if h : ∃ n r, callN prog hand glob n f args = some r then callN prog hand glob h.choose f args else none
end Go.Abs
namespace Go.Abs
open Go

/-- An error: is it not nil? -/
def errB : Value → Option Bool
  | .nilIface => some false
  | .iface _ _ => some true
  | _ => none
theorem errB_one {v : Value} {b : Bool} (h : errB v = some b) : v.oneCell' = true := by
  cases v <;> first | rfl | cases h
mutual
/-- In the world w the value v reads as the datum d; B: the blocks that d owns; ok: the blocks that may be looked into besides. -/
inductive Rd (ok : Nat → Prop) (w : World) : Value → D → List Nat → Prop
  | int (k : IntKind) (n : Int) : Rd ok w (.int k n) (.int k n) []
  | bool (b : Bool) : Rd ok w (.bool b) (.bool b) []
  | str (s : ByteArray) : Rd ok w (.string s) (.str s) []
  | err (v : Value) (b : Bool) (h : errB v = some b) : Rd ok w v (.err b) []
  | anyi (k : IntKind) (n : Int) : Rd ok w (.int k n) (.anyi k) []
  | gone (v : Value) (h : v.oneCell' = true) : Rd ok w v .gone []
  | empty (a : Option Addr) (o : Bool) (e : Nat) : Rd ok w (.slice a 0 0) (.list o e []) []
  | view (b off n cap e : Nat) (rows : List (List D)) (vs : List Value) (he : ∀ r ∈ rows, r.length = e) (hn : n = rows.length) (hc : n ≤ cap) (hm : cap ≤ maxLen)
      (hcell : ∀ j v, vs[j]? = some v → ok b ∧ w.cell? ⟨b, off + j, none⟩ = some v) (hr : RdL ok w vs rows.flatten []) :
      Rd ok w (.slice (some ⟨b, off, none⟩) n cap) (.list false e rows) []
  | own (g n cap e : Nat) (cur : Array Value) (E : TypeId) (rows : List (List D)) (B : List Nat) (he : ∀ r ∈ rows, r.length = e) (hn : n = rows.length) (hp : True) (hc : n ≤ cap) (hm : cap ≤ maxLen)
      (hg : w.heap[g]? = some (.cells cur E (0, 0))) (hs : cur.size = cap * e) (hr : RdL ok w (cur.toList.take (n * e)) rows.flatten B) (hB : g ∉ B) :
      Rd ok w (.slice (some ⟨g, 0, none⟩) n cap) (.list true e rows) (g :: B)
inductive RdL (ok : Nat → Prop) (w : World) : List Value → List D → List Nat → Prop
  | nil : RdL ok w [] [] []
  | cons (v : Value) (d : D) (vs : List Value) (ds : List D) (B1 B2 : List Nat) (h1 : Rd ok w v d B1) (h2 : RdL ok w vs ds B2) (hd : ∀ b ∈ B1, b ∉ B2) : RdL ok w (v :: vs) (d :: ds) (B1 ++ B2)
end

section
variable {ok ok' : Nat → Prop} {w w' : World}

theorem RdL.cons_inv {v : Value} {vs : List Value} {d : D} {ds : List D} {B : List Nat} (h : RdL ok w (v :: vs) (d :: ds) B) :
    ∃ B1 B2, B = B1 ++ B2 ∧ Rd ok w v d B1 ∧ RdL ok w vs ds B2 ∧ ∀ b ∈ B1, b ∉ B2 := by
  cases h with
  | cons _ _ _ _ B1 B2 h1 h2 hd => exact ⟨B1, B2, rfl, h1, h2, hd⟩
theorem Rd.single {v : Value} {d : D} {B : List Nat} (h : Rd ok w v d B) : RdL ok w [v] [d] B := by
  have := RdL.cons v d [] [] B [] h .nil (by simp)
  rwa [List.append_nil] at this
theorem RdL.nil_inv {ds : List D} {B : List Nat} (h : RdL ok w [] ds B) : ds = [] ∧ B = [] := by
  cases h; exact ⟨rfl, rfl⟩
theorem RdL.single {v : Value} {d : D} {B : List Nat} (h : RdL ok w [v] [d] B) : Rd ok w v d B := by
  obtain ⟨B1, B2, rfl, h1, h2, _⟩ := h.cons_inv
  obtain ⟨_, rfl⟩ := h2.nil_inv
  rwa [List.append_nil]

theorem RdL.length {vs : List Value} {ds : List D} {B : List Nat} (h : RdL ok w vs ds B) : vs.length = ds.length := by
  refine RdL.rec (motive_1 := fun _ _ _ _ => True) (motive_2 := fun vs ds _ _ => vs.length = ds.length) ?_ ?_ ?_ ?_ ?_ ?_ ?_ ?_ ?_ ?_ ?_ h <;> intros <;> simp_all

theorem Rd.one {v : Value} {d : D} {B : List Nat} (h : Rd ok w v d B) : v.oneCell' = true := by
  cases h <;> first | rfl | assumption | (exact errB_one ‹_›)

theorem RdL.ones {vs : List Value} {ds : List D} {B : List Nat} (h : RdL ok w vs ds B) : ∀ u ∈ vs, u.oneCell' = true := by
  refine RdL.rec (motive_1 := fun v _ _ _ => v.oneCell' = true) (motive_2 := fun vs _ _ _ => ∀ u ∈ vs, u.oneCell' = true) ?_ ?_ ?_ ?err ?_ ?_ ?_ ?_ ?_ ?_ ?cons h
  case err => exact fun v b h => errB_one h
  case cons =>
    intro v d vs ds B1 B2 _ _ _ h1 h2 u hu
    rcases List.mem_cons.1 hu with rfl | hu
    · exact h1
    · exact h2 u hu
  all_goals first | (intros; rfl) | (intros; assumption) | (intros; simp_all)

/-- A step of the world that leaves what is read alone. -/
theorem RdL.step {vs : List Value} {ds : List D} {B : List Nat} (h : RdL ok w vs ds B) (hok : ∀ k, k < w.heap.size → ok k → ok' k) (hw : ∀ k, k < w.heap.size → ok k ∨ k ∈ B → w'.heap[k]? = w.heap[k]?) : RdL ok' w' vs ds B := by
  revert hw
  refine RdL.rec (motive_1 := fun v d B _ => (∀ k, k < w.heap.size → ok k ∨ k ∈ B → w'.heap[k]? = w.heap[k]?) → Rd ok' w' v d B)
    (motive_2 := fun vs ds B _ => (∀ k, k < w.heap.size → ok k ∨ k ∈ B → w'.heap[k]? = w.heap[k]?) → RdL ok' w' vs ds B) ?int ?bool ?str ?err ?anyi ?gone ?empty ?view ?own ?nil ?cons h
  case int => exact fun k n _ => .int k n
  case bool => exact fun b _ => .bool b
  case str => exact fun s _ => .str s
  case err => exact fun v b h _ => .err v b h
  case anyi => exact fun k n _ => .anyi k n
  case gone => exact fun v h _ => .gone v h
  case empty => exact fun a o e _ => .empty a o e
  case view =>
    intro b off n cap e rows vs he hn hc hm hcell hr ih hw
    refine .view b off n cap e rows vs he hn hc hm (fun j v hj => ?_) (ih (fun k hk hh => hw k hk hh))
    obtain ⟨h1, h2⟩ := hcell j v hj
    have hlt := World.block_lt_of_cell? w _ h2
    exact ⟨hok _ hlt h1, (World.cell?_of_block (w := w) (w' := w') (hw _ hlt (.inl h1))).trans h2⟩
  case own =>
    intro g n cap e cur E rows B he hn hp hc hm hg hs hr hB ih hw
    have hlt : g < w.heap.size := (Array.getElem?_eq_some_iff.1 hg).1
    exact .own g n cap e cur E rows B he hn hp hc hm ((hw g hlt (.inr (List.mem_cons_self ..))).trans hg) hs
      (ih (fun k hk hh => hw k hk (hh.imp id (List.mem_cons_of_mem _)))) hB
  case nil => exact fun _ => .nil
  case cons =>
    intro v d vs ds B1 B2 h1 h2 hd ih1 ih2 hw
    exact .cons v d vs ds B1 B2 (ih1 fun k hk hh => hw k hk (hh.imp id (List.mem_append_left _))) (ih2 fun k hk hh => hw k hk (hh.imp id (List.mem_append_right _))) hd
theorem Rd.step {v : Value} {d : D} {B : List Nat} (h : Rd ok w v d B) (hok : ∀ k, k < w.heap.size → ok k → ok' k) (hw : ∀ k, k < w.heap.size → ok k ∨ k ∈ B → w'.heap[k]? = w.heap[k]?) : Rd ok' w' v d B :=
  (h.single.step hok hw).single

/-- What it owns is there. -/
theorem RdL.lt {vs : List Value} {ds : List D} {B : List Nat} (h : RdL ok w vs ds B) : ∀ k ∈ B, k < w.heap.size := by
  refine RdL.rec (motive_1 := fun _ _ B _ => ∀ k ∈ B, k < w.heap.size) (motive_2 := fun _ _ B _ => ∀ k ∈ B, k < w.heap.size) ?_ ?_ ?_ ?_ ?_ ?_ ?_ ?_ ?own ?_ ?cons h
  case own =>
    intro g n cap e cur E rows B he hn hp hc hm hg hs hr hB ih k hk
    rcases List.mem_cons.1 hk with rfl | hk
    · exact (Array.getElem?_eq_some_iff.1 hg).1
    · exact ih k hk
  case cons =>
    intro v d vs ds B1 B2 h1 h2 hd ih1 ih2 k hk
    exact (List.mem_append.1 hk).elim (ih1 k) (ih2 k)
  all_goals (intros; simp_all)
theorem Rd.lt {v : Value} {d : D} {B : List Nat} (h : Rd ok w v d B) : ∀ k ∈ B, k < w.heap.size := h.single.lt
theorem staleL_append (a b : List D) : staleL (a ++ b) = staleL a ++ staleL b := by
  induction a with
  | nil => rfl
  | cons x a ih => simp [staleL, ih]
theorem staleL_length (a : List D) : (staleL a).length = a.length := by
  induction a with
  | nil => rfl
  | cons x a ih => simp [staleL, ih]
theorem staleLL_flatten (a : List (List D)) : (staleLL a).flatten = staleL a.flatten := by
  induction a with
  | nil => rfl
  | cons x a ih => simp [staleLL, ih, staleL_append]
theorem staleLL_length (a : List (List D)) : (staleLL a).length = a.length := by
  induction a with
  | nil => rfl
  | cons x a ih => simp [staleLL, ih]
theorem staleLL_all {e : Nat} (a : List (List D)) (h : ∀ r ∈ a, r.length = e) : ∀ r ∈ staleLL a, r.length = e := by
  induction a with
  | nil => simp [staleLL]
  | cons x a ih =>
    simp only [staleLL, List.mem_cons, forall_eq_or_imp, staleL_length] at h ⊢
    exact ⟨h.1, ih h.2⟩

/-- Looked at by one who may look into what it owns. -/
theorem RdL.stale {vs : List Value} {ds : List D} {B : List Nat} (h : RdL ok w vs ds B) (hok : ∀ k, k < w.heap.size → ok k → ok' k) (hk : ∀ k ∈ B, ok' k) : RdL ok' w vs (staleL ds) [] := by
  revert hk
  refine RdL.rec (motive_1 := fun v d B _ => (∀ k ∈ B, ok' k) → Rd ok' w v d.stale []) (motive_2 := fun vs ds B _ => (∀ k ∈ B, ok' k) → RdL ok' w vs (staleL ds) []) ?int ?bool ?str ?err ?anyi ?gone ?empty ?view ?own ?nil ?cons h
  case int => exact fun k n _ => by simp only [D.stale]; exact .int k n
  case bool => exact fun b _ => by simp only [D.stale]; exact .bool b
  case str => exact fun s _ => by simp only [D.stale]; exact .str s
  case err => exact fun v b h _ => by simp only [D.stale]; exact .err v b h
  case anyi => exact fun k n _ => by simp only [D.stale]; exact .anyi k n
  case gone => exact fun v h _ => by simp only [D.stale]; exact .gone v h
  case empty => exact fun a o e _ => by simp only [D.stale, staleLL]; exact .empty a false e
  case view =>
    intro b off n cap e rows vs he hn hc hm hcell hr ih hB
    simp only [D.stale]
    refine .view b off n cap e _ vs (staleLL_all _ he) (by rw [staleLL_length]; exact hn) hc hm (fun j v hj => ⟨hok _ (World.block_lt_of_cell? w _ (hcell j v hj).2) (hcell j v hj).1, (hcell j v hj).2⟩) ?_
    rw [staleLL_flatten]
    exact ih hB
  case own =>
    intro g n cap e cur E rows B he hn hp hc hm hg hs hr hB ih hk
    simp only [D.stale]
    refine .view g 0 n cap e _ (cur.toList.take (n * e)) (staleLL_all _ he) (by rw [staleLL_length]; exact hn) hc hm (fun j v hj => ⟨hk g (List.mem_cons_self ..), ?_⟩) ?_
    · rw [Nat.zero_add, cell_of_row w g j cur E (0, 0) hg]
      rw [List.getElem?_take] at hj
      split at hj
      · simpa using hj
      · cases hj
    · rw [staleLL_flatten]
      exact ih fun k hh => hk k (List.mem_cons_of_mem _ hh)
  case nil => exact fun _ => by simp only [staleL]; exact .nil
  case cons =>
    intro v d vs ds B1 B2 h1 h2 hd ih1 ih2 hk
    simp only [staleL]
    exact .cons v _ vs _ [] [] (ih1 fun k hh => hk k (List.mem_append_left _ hh)) (ih2 fun k hh => hk k (List.mem_append_right _ hh)) (by simp)
theorem Rd.stale {v : Value} {d : D} {B : List Nat} (h : Rd ok w v d B) (hok : ∀ k, k < w.heap.size → ok k → ok' k) (hk : ∀ k ∈ B, ok' k) : Rd ok' w v d.stale [] := by
  have := h.single.stale hok hk
  simp only [staleL] at this
  exact this.single
end
end Go.Abs
set_option linter.unusedVariables false
set_option linter.unusedSimpArgs false
namespace Go.Abs
open Go

section
variable {ok ok' : Nat → Prop} {w w' : World}
/-- What a map's entries hold. -/
def MapHas (es : Array MapEntry) (clk : Nat) (kv : List (Int × Int)) : Prop := MapKept.Stamped es clk ∧ es.toList.map (fun x => (x.key, x.val)) = kv.map fun p => (Value.int .i64 p.1, Value.int .i64 p.2)
inductive VR (ok : Nat → Prop) (w : World) : Value → V → List Nat → Prop
  | one (v : Value) (d : D) (B : List Nat) (h : Rd ok w v d B) : VR ok w v (.one d) B
  | agg (vs : List Value) (ds : List D) (B : List Nat) (h : RdL ok w vs ds B) : VR ok w (.agg vs.toArray) (.agg ds) B
inductive TR (ok : Nat → Prop) (w : World) : List Value → List (Option V) → List Nat → Prop
  | nil : TR ok w [] [] []
  | put (v : Value) (x : V) (vs : List Value) (xs : List (Option V)) (B1 B2 : List Nat) (h1 : VR ok w v x B1) (h2 : TR ok w vs xs B2) (hd : ∀ b ∈ B1, b ∉ B2) : TR ok w (v :: vs) (some x :: xs) (B1 ++ B2)
  | skip (v : Value) (vs : List Value) (xs : List (Option V)) (B : List Nat) (h : TR ok w vs xs B) : TR ok w (v :: vs) (none :: xs) B
  | map (r clk : Nat) (es : Array MapEntry) (kv : List (Int × Int)) (vs : List Value) (xs : List (Option V)) (B : List Nat) (hg : w.heap[r]? = some (.map es clk)) (hk : MapHas es clk kv) (h : TR ok w vs xs B) (hd : r ∉ B) :
      TR ok w (.map (some r) :: vs) (some (.mapv kv) :: xs) (r :: B)
/-- A pointer to cells that are only read. -/
def RP (ok : Nat → Prop) (w : World) (v : Value) (ds : List D) : Prop :=
  ∃ b off vs, v = .pointer (some ⟨b, off, none⟩) ∧ (∀ j u, vs[j]? = some u → ok b ∧ w.cell? ⟨b, off + j, none⟩ = some u) ∧ RdL ok w vs ds []
inductive AvR (ok : Nat → Prop) (w : World) : Value → AV → List Nat → Prop
  | val (v : Value) (x : V) (B : List Nat) (h : VR ok w v x B) : AvR ok w v (.val x) B
  | tup (vs : List Value) (xs : List (Option V)) (B : List Nat) (h : TR ok w vs xs B) : AvR ok w (.tuple vs.toArray) (.tup xs) B
  | own (v : Value) (id e : Nat) (rows : List (List D)) (B : List Nat) (h : Rd ok w v (.list true e rows) B) : AvR ok w v (.own id e rows) B
  | box (g id ver : Nat) (cur : Array Value) (E : TypeId) (ds : List D) (B : List Nat) (hg : w.heap[g]? = some (.cells cur E (0, 0))) (h : RdL ok w cur.toList ds B) (hB : g ∉ B) :
      AvR ok w (.pointer (some ⟨g, 0, none⟩)) (.box id ver ds) (g :: B)
  | rp (v : Value) (ds : List D) (h : RP ok w v ds) : AvR ok w v (.rp ds) []
  | clo (f : FuncId) (ps : List Value) (cs : List (List D)) (hl : ps.length = cs.length) (h : ∀ (j : Nat) (p : Value) (c : List D), ps[j]? = some p → cs[j]? = some c → RP ok w p c) : AvR ok w (.func (.func f) #[] ps.toArray) (.clo f cs) []
  | someb (b : Bool) : AvR ok w (.bool b) .someb []
  | undef : AvR ok w undef .undef []
  | dead (v : Value) : AvR ok w v .dead []
  | ref (v : Value) (t : Nat) (j : Option Nat) (id : Nat) : AvR ok w v (.ref t j id) []
  | copy (v : Value) (t id : Nat) : AvR ok w v (.copy t id) []
  | part (v : Value) (t id off n : Nat) : AvR ok w v (.part t id off n) []
  | bp (v : Value) (t id off : Nat) : AvR ok w v (.bp t id off) []
  | into (v : Value) (t : Nat) (j : Option Nat) (id e i o : Nat) : AvR ok w v (.into t j id e i o) []
  | cell (v : Value) (t id i o : Nat) : AvR ok w v (.cell t id i o) []
  | mapv (r id clk : Nat) (es : Array MapEntry) (kv : List (Int × Int)) (hg : w.heap[r]? = some (.map es clk)) (hk : MapHas es clk kv) : AvR ok w (.map (some r)) (.mapv id kv) [r]
  | mref (v : Value) (t id : Nat) : AvR ok w v (.mref t id) []

theorem VR.step {v : Value} {x : V} {B : List Nat} (h : VR ok w v x B) (hok : ∀ k, k < w.heap.size → ok k → ok' k) (hw : ∀ k, k < w.heap.size → ok k ∨ k ∈ B → w'.heap[k]? = w.heap[k]?) : VR ok' w' v x B := by
  cases h with
  | one _ _ _ h => exact .one _ _ _ (h.step hok hw)
  | agg _ _ _ h => exact .agg _ _ _ (h.step hok hw)
theorem TR.step {v : List Value} {x : List (Option V)} {B : List Nat} (h : TR ok w v x B) (hok : ∀ k, k < w.heap.size → ok k → ok' k) (hw : ∀ k, k < w.heap.size → ok k ∨ k ∈ B → w'.heap[k]? = w.heap[k]?) : TR ok' w' v x B := by
  induction h with
  | nil => exact .nil
  | put v x vs xs B1 B2 h1 h2 hd ih =>
    exact .put _ _ _ _ _ _ (h1.step hok fun k hk hh => hw k hk (hh.imp id (List.mem_append_left _))) (ih fun k hk hh => hw k hk (hh.imp id (List.mem_append_right _))) hd
  | skip v vs xs B h ih => exact .skip _ _ _ _ (ih hw)
  | map r clk es kv vs xs B hg hk h hd ih => exact .map r clk es kv _ _ _ ((hw r (Array.getElem?_eq_some_iff.1 hg).1 (.inr (List.mem_cons_self ..))).trans hg) hk (ih fun k hk hh => hw k hk (hh.imp id (List.mem_cons_of_mem _))) hd
theorem RP.step {v : Value} {ds : List D} (h : RP ok w v ds) (hok : ∀ k, k < w.heap.size → ok k → ok' k) (hw : ∀ k, k < w.heap.size → ok k → w'.heap[k]? = w.heap[k]?) : RP ok' w' v ds := by
  obtain ⟨b, off, vs, rfl, hc, hr⟩ := h
  refine ⟨b, off, vs, rfl, fun j u hj => ?_, hr.step hok fun k hk hh => hw k hk (by simpa using hh)⟩
  obtain ⟨h1, h2⟩ := hc j u hj
  have hlt := World.block_lt_of_cell? w _ h2
  exact ⟨hok _ hlt h1, (World.cell?_of_block (w := w) (w' := w') (hw _ hlt h1)).trans h2⟩
theorem AvR.step {v : Value} {x : AV} {B : List Nat} (h : AvR ok w v x B) (hok : ∀ k, k < w.heap.size → ok k → ok' k) (hw : ∀ k, k < w.heap.size → ok k ∨ k ∈ B → w'.heap[k]? = w.heap[k]?) : AvR ok' w' v x B := by
  cases h with
  | val _ _ _ h => exact .val _ _ _ (h.step hok hw)
  | tup _ _ _ h => exact .tup _ _ _ (h.step hok hw)
  | own _ _ _ _ _ h => exact .own _ _ _ _ _ (h.step hok hw)
  | box g i ver cur E ds B hg h hB =>
    exact .box g i ver cur E ds B ((hw g (Array.getElem?_eq_some_iff.1 hg).1 (.inr (List.mem_cons_self ..))).trans hg)
      (h.step hok fun k hk hh => hw k hk (hh.imp id (List.mem_cons_of_mem _))) hB
  | rp _ _ h => exact .rp _ _ (h.step hok fun k hk hh => hw k hk (.inl hh))
  | clo f ps cs hl h => exact .clo f ps cs hl fun j p c h1 h2 => (h j p c h1 h2).step hok fun k hk hh => hw k hk (.inl hh)
  | someb b => exact .someb b
  | undef => exact .undef
  | dead => exact .dead _
  | ref => exact .ref _ _ _ _
  | copy => exact .copy _ _ _
  | part => exact .part _ _ _ _ _
  | bp => exact .bp _ _ _ _
  | into => exact .into _ _ _ _ _ _ _
  | cell => exact .cell _ _ _ _ _
  | mapv r id clk es kv hg hk => exact .mapv r id clk es kv ((hw r (Array.getElem?_eq_some_iff.1 hg).1 (.inr (List.mem_cons_self ..))).trans hg) hk
  | mref => exact .mref _ _ _
theorem AvR.box_inv {v : Value} {id ver : Nat} {ds : List D} {B : List Nat} (h : AvR ok w v (.box id ver ds) B) :
    ∃ g cur E B', v = .pointer (some ⟨g, 0, none⟩) ∧ B = g :: B' ∧ w.heap[g]? = some (.cells cur E (0, 0)) ∧ RdL ok w cur.toList ds B' ∧ g ∉ B' := by
  cases h with
  | box g _ _ cur E _ B hg h hB => exact ⟨g, cur, E, B, rfl, rfl, hg, h, hB⟩
theorem AvR.own_inv {v : Value} {id e : Nat} {rows : List (List D)} {B : List Nat} (h : AvR ok w v (.own id e rows) B) : Rd ok w v (.list true e rows) B := by
  cases h with
  | own _ _ _ _ _ h => exact h
theorem AvR.val_inv {v : Value} {x : V} {B : List Nat} (h : AvR ok w v (.val x) B) : VR ok w v x B := by
  cases h with
  | val _ _ _ h => exact h
theorem VR.one_inv {v : Value} {d : D} {B : List Nat} (h : VR ok w v (.one d) B) : Rd ok w v d B := by
  cases h with
  | one _ _ _ h => exact h
theorem VR.agg_inv {v : Value} {ds : List D} {B : List Nat} (h : VR ok w v (.agg ds) B) : ∃ vs : List Value, v = .agg vs.toArray ∧ RdL ok w vs ds B := by
  cases h with
  | agg vs _ _ h => exact ⟨vs, rfl, h⟩
end

/-! ### the slots -/
theorem Env.get_upd (e : Env) (t s : Nat) (v : AV) : (e.upd t v).get s = if s = t ∧ t < e.length then v else e.get s := by
  induction e generalizing t s with
  | nil => simp [Env.upd, Env.get]
  | cons x l ih =>
    cases t with
    | zero => cases s <;> simp [Env.upd, Env.get]
    | succ t => cases s with
      | zero => simp [Env.upd, Env.get]
      | succ s => simp [Env.upd, Env.get, ih]
theorem Env.upd_length (e : Env) (t : Nat) (v : AV) : (e.upd t v).length = e.length := by
  induction e generalizing t with
  | nil => rfl
  | cons x l ih => cases t <;> simp [Env.upd, ih]
theorem Env.get_out (e : Env) (s : Nat) (h : e.length ≤ s) : e.get s = .dead := by
  induction e generalizing s with
  | nil => rfl
  | cons x l ih => cases s with
    | zero => simp at h
    | succ s => exact ih s (by simpa using h)
theorem Env.ext_get {e e' : Env} (hl : e.length = e'.length) (h : ∀ s, e.get s = e'.get s) : e = e' := by
  induction e generalizing e' with
  | nil => cases e' with
    | nil => rfl
    | cons => simp at hl
  | cons x l ih => cases e' with
    | nil => simp at hl
    | cons y l' =>
      have h0 := h 0
      simp [Env.get] at h0
      rw [h0, ih (by simpa using hl) fun s => by simpa [Env.get] using h (s + 1)]
theorem Env.app_append (e : Env) (a b : Upd) : e.app (a ++ b) = (e.app a).app b := by
  induction a generalizing e with
  | nil => rfl
  | cons x a ih => obtain ⟨t, v⟩ := x; simp [Env.app, ih]
theorem Env.app_length (e : Env) (a : Upd) : (e.app a).length = e.length := by
  induction a generalizing e with
  | nil => rfl
  | cons x a ih => obtain ⟨t, v⟩ := x; simp [Env.app, ih, Env.upd_length]
theorem Env.app_out (e : Env) (us : Upd) (d : Option Nat) (v : AV) : e.app (outU us d v) = match d with | none => e.app us | some t => (e.app us).upd t v := by
  cases d with
  | none => rfl
  | some t => simp [outU, Env.app_append, Env.app]

/-! ### what leads into an owner -/
def aliasOf : AV → Option Nat
  | .ref t _ _ => some t
  | .copy t _ => some t
  | .part t _ _ _ => some t
  | .bp t _ _ => some t
  | .into t _ _ _ _ _ => some t
  | .cell t _ _ _ => some t
  | .mref t _ => some t
  | _ => none
/-- What an alias promises, as long as its owner bears its stamp. -/
def AliasOK (L : Nat → AV) (w : World) (tmps : Array Value) (v : Value) : AV → Prop
  | .ref t none id => ∀ e rows, L t = .own id e rows → tmps[t]? = some v
  | .ref t (some j) ver => ∀ b ds, L t = .box b ver ds → ∃ g, tmps[t]? = some (.pointer (some ⟨g, 0, none⟩)) ∧ w.cell? ⟨g, j, none⟩ = some v
  | .copy t ver => ∀ b ds, L t = .box b ver ds → ∃ g cur E, tmps[t]? = some (.pointer (some ⟨g, 0, none⟩)) ∧ w.heap[g]? = some (.cells cur E (0, 0)) ∧ v = .agg cur
  | .part t ver off n => ∀ b ds, L t = .box b ver ds → ∃ g cur E, tmps[t]? = some (.pointer (some ⟨g, 0, none⟩)) ∧ w.heap[g]? = some (.cells cur E (0, 0)) ∧ v = .agg ((cur.toList.drop off).take n).toArray
  | .bp t id off => ∀ ver ds, L t = .box id ver ds → ∃ g, tmps[t]? = some (.pointer (some ⟨g, 0, none⟩)) ∧ v = .pointer (some ⟨g, off, none⟩)
  | .into t none id e i o => ∀ e' rows, L t = .own id e' rows → e' = e ∧ ∃ g n c, tmps[t]? = some (.slice (some ⟨g, 0, none⟩) n c) ∧ v = .pointer (some ⟨g, i * e + o, none⟩)
  | .into t (some j) ver e i o => ∀ b ds, L t = .box b ver ds → ∃ g g' n c, tmps[t]? = some (.pointer (some ⟨g, 0, none⟩)) ∧ w.cell? ⟨g, j, none⟩ = some (.slice (some ⟨g', 0, none⟩) n c) ∧
      v = .pointer (some ⟨g', i * e + o, none⟩) ∧ ∃ rows, ds[j]? = some (.list true e rows)
  | .cell t id i o => ∀ e rows row w0 inner, L t = .own id e rows → rows[i]? = some row → row[o]? = some (.list true w0 inner) → ∃ g n c, tmps[t]? = some (.slice (some ⟨g, 0, none⟩) n c) ∧ w.cell? ⟨g, i * e + o, none⟩ = some v
  | .mref t id => ∀ kv, L t = .mapv id kv → tmps[t]? = some v
  | _ => True
/-- The stamp that an alias asks of its owner. -/
def askStamp : AV → Option Nat
  | .ref _ _ id => some id
  | .copy _ id => some id
  | .part _ id _ _ => some id
  | .bp _ id _ => some id
  | .into _ _ id _ _ _ => some id
  | .cell _ id _ _ => some id
  | .mref _ id => some id
  | _ => none
def OwnIn (used : Nat → Prop) : AV → Prop
  | .own id _ _ => used id
  | .box id ver _ => used id ∧ used ver
  | .mapv id _ => used id
  | _ => True
/-- Nothing that bears stamp id alone. -/
def Stampless (id : Nat) : AV → Prop
  | .own i _ _ => i = id
  | .box i ver _ => i = id ∧ ver = id
  | .mapv i _ => i = id
  | _ => True

def okOf (ok0 : Nat → Prop) (fp : Nat → List Nat) (k : Nat) : Prop := ok0 k ∧ ∀ s, k ∉ fp s

structure Sim (ok0 mine ua uo : Nat → Prop) (e : Env) (tmps : Array Value) (w : World) (fp : Nat → List Nat) : Prop where
  size : e.length = tmps.size
  rel : ∀ s v, tmps[s]? = some v → AvR (okOf ok0 fp) w v (e.get s) (fp s)
  al : ∀ s v, tmps[s]? = some v → AliasOK e.get w tmps v (e.get s)
  disj : ∀ s t b, s ≠ t → b ∈ fp s → b ∉ fp t
  lt : ∀ s b, b ∈ fp s → b < w.heap.size ∧ mine b
  ask : ∀ s id, askStamp (e.get s) = some id → ua id
  stamps : ∀ s, OwnIn uo (e.get s)

theorem OwnIn.mono {used used' : Nat → Prop} (h : ∀ k, used k → used' k) {v : AV} (hv : OwnIn used v) : OwnIn used' v := by
  cases v <;> first | exact h _ hv | exact ⟨h _ hv.1, h _ hv.2⟩ | exact hv

/-- An alias whose owner's slot and whose owner's block stay as they are. -/
theorem AliasOK.keep {L L' : Nat → AV} {w w' : World} {tmps tmps' : Array Value} {v : Value} {av : AV} (h : AliasOK L w tmps v av)
    (hk : ∀ t, aliasOf av = some t → L' t = L t ∧ tmps'[t]? = tmps[t]? ∧ ∀ b ver ds g, (L t = .box b ver ds → tmps[t]? = some (.pointer (some ⟨g, 0, none⟩)) → w'.heap[g]? = w.heap[g]?))
    (hk2 : ∀ t, aliasOf av = some t → ∀ id e rows g n c, L t = .own id e rows → rows ≠ [] → tmps[t]? = some (.slice (some ⟨g, 0, none⟩) n c) → w'.heap[g]? = w.heap[g]?) :
    AliasOK L' w' tmps' v av := by
  cases av with
  | ref t j id =>
    obtain ⟨h1, h2, h3⟩ := hk t rfl
    cases j with
    | none => intro e rows hL; rw [h1] at hL; rw [h2]; exact h e rows hL
    | some j =>
      intro b ds hL
      rw [h1] at hL
      obtain ⟨g, hg, hc⟩ := h b ds hL
      exact ⟨g, h2.trans hg, (World.cell?_of_block (w := w) (w' := w') (h3 _ _ _ g hL hg)).trans hc⟩
  | copy t ver =>
    obtain ⟨h1, h2, h3⟩ := hk t rfl
    intro b ds hL
    rw [h1] at hL
    obtain ⟨g, cur, E, hg, hc, hv⟩ := h b ds hL
    exact ⟨g, cur, E, h2.trans hg, (h3 _ _ _ g hL hg).trans hc, hv⟩
  | part t ver off n =>
    obtain ⟨h1, h2, h3⟩ := hk t rfl
    intro b ds hL
    rw [h1] at hL
    obtain ⟨g, cur, E, hg, hc, hv⟩ := h b ds hL
    exact ⟨g, cur, E, h2.trans hg, (h3 _ _ _ g hL hg).trans hc, hv⟩
  | bp t id off =>
    obtain ⟨h1, h2, h3⟩ := hk t rfl
    intro ver ds hL
    rw [h1] at hL
    obtain ⟨g, hg, hv⟩ := h ver ds hL
    exact ⟨g, h2.trans hg, hv⟩
  | into t j id e i o =>
    obtain ⟨h1, h2, h3⟩ := hk t rfl
    cases j with
    | none =>
      intro e' rows hL
      rw [h1] at hL
      obtain ⟨he, g, n, c, hg, hv⟩ := h e' rows hL
      exact ⟨he, g, n, c, h2.trans hg, hv⟩
    | some j =>
      intro b ds hL
      rw [h1] at hL
      obtain ⟨g, g', n, c, hg, hc, hv, hr⟩ := h b ds hL
      exact ⟨g, g', n, c, h2.trans hg, (World.cell?_of_block (w := w) (w' := w') (h3 _ _ _ g hL hg)).trans hc, hv, hr⟩
  | cell t id i o =>
    obtain ⟨h1, h2, _⟩ := hk t rfl
    intro e rows row w0 inner hL hi ho
    rw [h1] at hL
    obtain ⟨g, n, c, hg, hc⟩ := h e rows row w0 inner hL hi ho
    exact ⟨g, n, c, h2.trans hg, (World.cell?_of_block (w := w) (w' := w') (hk2 t rfl _ _ _ g n c hL (by rintro rfl; simp at hi) hg)).trans hc⟩
  | mref t id =>
    obtain ⟨h1, h2, _⟩ := hk t rfl
    intro kv hL
    rw [h1] at hL
    exact h2.trans (h kv hL)
  | _ => trivial
/-- An alias whose owner no longer bears its stamp promises nothing. -/
theorem AliasOK.stale {L : Nat → AV} {w : World} {tmps : Array Value} {v : Value} {av : AV}
    (hk : ∀ t, aliasOf av = some t → (∀ id e rows, L t = .own id e rows → askStamp av ≠ some id) ∧ (∀ b ver ds, L t = .box b ver ds → askStamp av ≠ some b ∧ askStamp av ≠ some ver) ∧ ∀ id kv, L t = .mapv id kv → askStamp av ≠ some id) :
    AliasOK L w tmps v av := by
  cases av with
  | ref t j id =>
    obtain ⟨h1, h2, h3⟩ := hk t rfl
    cases j with
    | none => intro e rows hL; exact absurd rfl (h1 _ _ _ hL)
    | some j => intro b ds hL; exact absurd rfl (h2 _ _ _ hL).2
  | copy t ver =>
    obtain ⟨h1, h2, h3⟩ := hk t rfl
    intro b ds hL; exact absurd rfl (h2 _ _ _ hL).2
  | part t ver off n =>
    obtain ⟨h1, h2, h3⟩ := hk t rfl
    intro b ds hL; exact absurd rfl (h2 _ _ _ hL).2
  | bp t id off =>
    obtain ⟨h1, h2, h3⟩ := hk t rfl
    intro ver ds hL; exact absurd rfl (h2 _ _ _ hL).1
  | into t j id e i o =>
    obtain ⟨h1, h2, h3⟩ := hk t rfl
    cases j with
    | none => intro e' rows hL; exact absurd rfl (h1 _ _ _ hL)
    | some j => intro b ds hL; exact absurd rfl (h2 _ _ _ hL).2
  | cell t id i o =>
    obtain ⟨h1, h2, h3⟩ := hk t rfl
    intro e rows row w0 inner hL; exact absurd rfl (h1 _ _ _ hL)
  | mref t id =>
    obtain ⟨h1, h2, h3⟩ := hk t rfl
    intro kv hL; exact absurd rfl (h3 _ kv hL)
  | _ => trivial

theorem Rd.ownBlock {ok : Nat → Prop} {w : World} {g n c e : Nat} {rows : List (List D)} {B : List Nat} (h : Rd ok w (.slice (some ⟨g, 0, none⟩) n c) (.list true e rows) B) (hr : rows ≠ []) : g ∈ B ∧ g < w.heap.size := by
  cases h with
  | empty => exact absurd rfl hr
  | own _ _ _ _ cur E _ B he hn hp hc hm hg hs hrd hB => exact ⟨List.mem_cons_self .., (Array.getElem?_eq_some_iff.1 hg).1⟩
section
variable {ok0 mine ua uo : Nat → Prop} {e : Env} {tmps : Array Value} {w w' : World} {fp : Nat → List Nat}
theorem Sim.ownBlock (h : Sim ok0 mine ua uo e tmps w fp) {t id e' g n c : Nat} {rows : List (List D)} (hL : e.get t = .own id e' rows) (hr : rows ≠ []) (hg : tmps[t]? = some (.slice (some ⟨g, 0, none⟩) n c)) : g ∈ fp t ∧ g < w.heap.size := by
  have h1 := h.rel t _ hg
  rw [hL] at h1
  exact h1.own_inv.ownBlock hr

/-- Slot d gets B; the slot q is emptied. -/
def fpOut (fp : Nat → List Nat) (d q : Nat) (B : List Nat) : Nat → List Nat := fun s => if s = d then B else if s = q then [] else fp s
theorem fpOut_same (d q : Nat) (B : List Nat) : fpOut fp d q B d = B := by simp [fpOut]
theorem fpOut_sub {d s q b : Nat} {B : List Nat} (h : s ≠ d) (hb : b ∈ fpOut fp d q B s) : s ≠ q ∧ b ∈ fp s := by
  unfold fpOut at hb
  rw [if_neg h] at hb
  split at hb
  · cases hb
  · rename_i hq; exact ⟨hq, hb⟩
theorem fpOut_other {d s q : Nat} {B : List Nat} (h : s ≠ d) (hq : s ≠ q) : fpOut fp d q B s = fp s := by simp [fpOut, h, hq]

/-- A slot is written. -/
theorem Sim.put (h : Sim ok0 mine ua uo e tmps w fp) {ua' uo' : Nat → Prop} (hua : ∀ k, ua k → ua' k) (huo : ∀ k, uo k → uo' k) {st : Nat} (hst : ¬ ua st) {d q : Nat} (hq : tmps.size ≤ q) {v : Value} {av : AV} {B : List Nat}
    (hask : ∀ id, askStamp av = some id → ua' id) (hav : OwnIn uo' av) (hown : Stampless st av)
    (hw : ∀ k, k < w.heap.size → (okOf ok0 fp k ∨ ∃ s, s ≠ d ∧ s ≠ q ∧ k ∈ fp s) → w'.heap[k]? = w.heap[k]?) (hsz : w.heap.size ≤ w'.heap.size)
    (hB : ∀ k ∈ B, k < w'.heap.size ∧ mine k ∧ (∀ s, s ≠ d → s ≠ q → k ∉ fp s) ∧ (k < w.heap.size → ¬ okOf ok0 fp k))
    (hrel : AvR (okOf ok0 (fpOut fp d q B)) w' v av B)
    (hal : AliasOK (e.upd d av).get w' (tmps.setIfInBounds d v) v av) :
    Sim ok0 mine ua' uo' (e.upd d av) (tmps.setIfInBounds d v) w' (fpOut fp d q B) ∧ ∀ k, k < w.heap.size → okOf ok0 fp k → okOf ok0 (fpOut fp d q B) k := by
  have hok : ∀ k, k < w.heap.size → okOf ok0 fp k → okOf ok0 (fpOut fp d q B) k := by
    intro k hk ho
    refine ⟨ho.1, fun s hs' => ?_⟩
    by_cases hs : s = d
    · subst hs; rw [fpOut_same] at hs'; exact (hB k hs').2.2.2 hk ho
    · exact ho.2 s (fpOut_sub hs hs').2
  refine ⟨⟨by rw [Env.upd_length, Array.size_setIfInBounds]; exact h.size, fun s u hs => ?_, fun s u hs => ?_, fun s t b hst' hb => ?_, fun s b hb => ?_, fun s id hid => ?_, fun s => ?_⟩, hok⟩
  · have hss : s < tmps.size := by have := (Array.getElem?_eq_some_iff.1 hs).1; simpa using this
    by_cases hsd : s = d
    · subst hsd
      have hu : u = v := by simp [hss] at hs; exact hs.symm
      subst hu
      rw [fpOut_same, Env.get_upd, if_pos ⟨rfl, by rw [h.size]; exact hss⟩]
      exact hrel
    · rw [fpOut_other hsd (by omega), Env.get_upd, if_neg (fun hh => hsd hh.1)]
      have hs' : tmps[s]? = some u := by rw [Array.getElem?_setIfInBounds_ne (fun hh => hsd hh.symm)] at hs; exact hs
      exact (h.rel s u hs').step hok fun k hk hh => hw k hk (hh.imp id fun hh => ⟨s, hsd, by omega, hh⟩)
  · have hss : s < tmps.size := by have := (Array.getElem?_eq_some_iff.1 hs).1; simpa using this
    by_cases hsd : s = d
    · subst hsd
      have hu : u = v := by simp [hss] at hs; exact hs.symm
      subst hu
      have : (e.upd s av).get s = av := by rw [Env.get_upd, if_pos ⟨rfl, by rw [h.size]; exact hss⟩]
      rw [this]
      exact hal
    · have hs' : tmps[s]? = some u := by rw [Array.getElem?_setIfInBounds_ne (fun hh => hsd hh.symm)] at hs; exact hs
      have hg : (e.upd d av).get s = e.get s := by rw [Env.get_upd, if_neg (fun hh => hsd hh.1)]
      rw [hg]
      by_cases hd : aliasOf (e.get s) = some d ∧ d < e.length
      · refine AliasOK.stale fun t ht => ?_
        have htd : t = d := by rw [hd.1] at ht; exact (Option.some.inj ht).symm
        subst htd
        rw [Env.get_upd, if_pos ⟨rfl, hd.2⟩]
        refine ⟨?_, ?_, ?_⟩
        · intro id e' rows hL hk
          subst hL
          have := h.ask s _ hk
          exact hst (by have h1 : id = st := hown; rw [← h1]; exact this)
        · intro b ver ds hL
          subst hL
          obtain ⟨h1, h2⟩ : b = st ∧ ver = st := hown
          exact ⟨fun hk => hst (by rw [← h1]; exact h.ask s _ hk), fun hk => hst (by rw [← h2]; exact h.ask s _ hk)⟩
        · intro id kv hL hk
          subst hL
          have := h.ask s _ hk
          exact hst (by have h1 : id = st := hown; rw [← h1]; exact this)
      · refine (h.al s u hs').keep (fun t ht => ?_) fun t ht id e2 rows g n c hL hr hg' => ?_
        · have htd : ¬ (t = d ∧ d < e.length) := fun hh => hd ⟨by rw [ht, hh.1], hh.2⟩
          refine ⟨by rw [Env.get_upd, if_neg htd], ?_, fun b ver ds g hL hg' => ?_⟩
          · by_cases htd' : t = d
            · subst htd'
              have : ¬ t < tmps.size := fun hh => htd ⟨rfl, by rw [h.size]; exact hh⟩
              rw [Array.getElem?_eq_none (by simpa using this), Array.getElem?_eq_none (by omega)]
            · exact Array.getElem?_setIfInBounds_ne (fun hh => htd' hh.symm)
          · have hr := h.rel t _ hg'
            rw [hL] at hr
            have htlt : t < tmps.size := (Array.getElem?_eq_some_iff.1 hg').1
            have htd' : t ≠ d := fun hh => htd ⟨hh, by rw [h.size, ← hh]; exact htlt⟩
            obtain ⟨g2, cur, E, B', hv2, hfp, hg2, _, _⟩ := hr.box_inv
            obtain rfl : g = g2 := by injection hv2 with h1; injection h1 with h1; injection h1
            refine hw g (Array.getElem?_eq_some_iff.1 hg2).1 (.inr ⟨t, htd', by omega, ?_⟩)
            rw [hfp]
            exact List.mem_cons_self ..
        · obtain ⟨p1, p2⟩ := h.ownBlock hL hr hg'
          have htlt : t < tmps.size := (Array.getElem?_eq_some_iff.1 hg').1
          have htd' : t ≠ d := fun hh => hd ⟨by rw [ht, hh], by rw [h.size, ← hh]; exact htlt⟩
          exact hw g p2 (.inr ⟨t, htd', by omega, p1⟩)
  · by_cases hsd : s = d
    · subst hsd
      rw [fpOut_same] at hb
      intro hb'
      obtain ⟨h1, h2⟩ := fpOut_sub (fun hh => hst' hh.symm) hb'
      exact (hB b hb).2.2.1 t (fun hh => hst' hh.symm) h1 h2
    · obtain ⟨h1, h2⟩ := fpOut_sub hsd hb
      intro hb'
      by_cases htd : t = d
      · subst htd
        rw [fpOut_same] at hb'
        exact (hB b hb').2.2.1 s hsd h1 h2
      · exact h.disj s t b hst' h2 (fpOut_sub htd hb').2
  · by_cases hsd : s = d
    · subst hsd; rw [fpOut_same] at hb; exact ⟨(hB b hb).1, (hB b hb).2.1⟩
    · have h2 := (fpOut_sub hsd hb).2
      exact ⟨Nat.lt_of_lt_of_le (h.lt s b h2).1 hsz, (h.lt s b h2).2⟩
  · rw [Env.get_upd] at hid
    split at hid
    · exact hask id hid
    · exact hua _ (h.ask s id hid)
  · rw [Env.get_upd]
    split
    · exact hav
    · exact (h.stamps s).mono huo

/-- A slot's abstract value is turned, and what it owned goes to it and to the slot q; the world may change in what it owned. -/
theorem Sim.turn (h : Sim ok0 mine ua uo e tmps w fp) {uo' : Nat → Prop} (hus : ∀ k, uo k → uo' k) {t q : Nat} {vt : Value} (ht : tmps[t]? = some vt) (hq : tmps.size ≤ q)
    {av : AV} {fp' : Nat → List Nat} (hfp : ∀ s, s ≠ t → s ≠ q → fp' s = fp s)
    (hsub : ∀ b, b ∈ fp' t ∨ b ∈ fp' q → b ∈ fp t ∨ b ∈ fp q) (hdisj : ∀ b, b ∈ fp' t → b ∉ fp' q)
    (hw : ∀ k, k < w.heap.size → (okOf ok0 fp k ∨ ∃ s, s ≠ t ∧ k ∈ fp s) → w'.heap[k]? = w.heap[k]?) (hsz : w.heap.size ≤ w'.heap.size)
    (hrel : AvR (okOf ok0 fp') w' vt av (fp' t)) (hna : askStamp av = none) (hst : OwnIn uo' av)
    (hal : ∀ s v, s ≠ t → tmps[s]? = some v → aliasOf (e.get s) = some t → AliasOK (e.upd t av).get w' tmps v (e.get s))
    (hself : AliasOK (e.upd t av).get w' tmps vt av) :
    Sim ok0 mine ua uo' (e.upd t av) tmps w' fp' ∧ ∀ k, okOf ok0 fp k → okOf ok0 fp' k := by
  have htl : t < tmps.size := (Array.getElem?_eq_some_iff.1 ht).1
  have htq : t ≠ q := by omega
  have hok : ∀ k, okOf ok0 fp k → okOf ok0 fp' k := by
    intro k ho
    refine ⟨ho.1, fun s hs => ?_⟩
    by_cases hst : s = t
    · subst hst; exact (hsub k (.inl hs)).elim (ho.2 s) (ho.2 q)
    · by_cases hsq : s = q
      · subst hsq; exact (hsub k (.inr hs)).elim (ho.2 t) (ho.2 s)
      · rw [hfp s hst hsq] at hs; exact ho.2 s hs
  refine ⟨⟨by rw [Env.upd_length]; exact h.size, fun s u hs => ?_, fun s u hs => ?_, fun s s' b hne hb => ?_, fun s b hb => ?_, fun s id hid => ?_, fun s => ?_⟩, hok⟩
  · have hss : s < tmps.size := (Array.getElem?_eq_some_iff.1 hs).1
    by_cases hst : s = t
    · subst hst
      rw [Env.get_upd, if_pos ⟨rfl, by rw [h.size]; exact hss⟩]
      rw [ht] at hs
      obtain rfl := Option.some.inj hs
      exact hrel
    · rw [Env.get_upd, if_neg (fun hh => hst hh.1), hfp s hst (by omega)]
      exact (h.rel s u hs).step (fun k _ => hok k) fun k hk hh => hw k hk (hh.imp id fun hh => ⟨s, hst, hh⟩)
  · have hss : s < tmps.size := (Array.getElem?_eq_some_iff.1 hs).1
    by_cases hst : s = t
    · subst hst
      have : (e.upd s av).get s = av := by rw [Env.get_upd, if_pos ⟨rfl, by rw [h.size]; exact hss⟩]
      rw [this]
      rw [ht] at hs
      obtain rfl := Option.some.inj hs
      exact hself
    · have hg : (e.upd t av).get s = e.get s := by rw [Env.get_upd, if_neg (fun hh => hst hh.1)]
      rw [hg]
      by_cases hd : aliasOf (e.get s) = some t
      · exact hal s u hst hs hd
      · refine (h.al s u hs).keep (fun r hr => ?_) fun r hr id e2 rows g n c hL hne hg' => ?_
        · have hrt : r ≠ t := fun hh => hd (by rw [hr, hh])
          refine ⟨by rw [Env.get_upd, if_neg (fun hh => hrt hh.1)], rfl, fun b ver ds g hL hg' => ?_⟩
          have hr2 := h.rel r _ hg'
          rw [hL] at hr2
          obtain ⟨g2, cur, E, B', hv2, hfp2, hg2, _, _⟩ := hr2.box_inv
          obtain rfl : g = g2 := by injection hv2 with h1; injection h1 with h1; injection h1
          refine hw g (Array.getElem?_eq_some_iff.1 hg2).1 (.inr ⟨r, hrt, ?_⟩)
          rw [hfp2]
          exact List.mem_cons_self ..
        · obtain ⟨p1, p2⟩ := h.ownBlock hL hne hg'
          have hrt : r ≠ t := fun hh => hd (by rw [hr, hh])
          exact hw g p2 (.inr ⟨r, hrt, p1⟩)
  · have back : ∀ s, b ∈ fp' s → (s = t ∨ s = q) ∧ (b ∈ fp t ∨ b ∈ fp q) ∨ (s ≠ t ∧ s ≠ q ∧ b ∈ fp s) := by
      intro s hb
      by_cases hst : s = t
      · subst hst; exact .inl ⟨.inl rfl, hsub b (.inl hb)⟩
      · by_cases hsq : s = q
        · subst hsq; exact .inl ⟨.inr rfl, hsub b (.inr hb)⟩
        · rw [hfp s hst hsq] at hb; exact .inr ⟨hst, hsq, hb⟩
    intro hb'
    rcases back s hb with ⟨h1, h2⟩ | ⟨h1, h2, h3⟩
    · rcases back s' hb' with ⟨h1', h2'⟩ | ⟨h1', h2', h3'⟩
      · rcases h1 with rfl | rfl
        · rcases h1' with rfl | rfl
          · exact hne rfl
          · exact hdisj b hb hb'
        · rcases h1' with rfl | rfl
          · exact hdisj b hb' hb
          · exact hne rfl
      · rcases h2 with h2 | h2
        · exact h.disj t s' b (fun hh => h1' hh.symm) h2 h3'
        · exact h.disj q s' b (fun hh => h2' hh.symm) h2 h3'
    · rcases back s' hb' with ⟨h1', h2'⟩ | ⟨h1', h2', h3'⟩
      · rcases h2' with h2' | h2'
        · exact h.disj s t b h1 h3 h2'
        · exact h.disj s q b h2 h3 h2'
      · exact h.disj s s' b hne h3 h3'
  · have hb2 : ∃ s, b ∈ fp s := by
      by_cases hst : s = t
      · subst hst; exact (hsub b (.inl hb)).elim (fun h => ⟨s, h⟩) (fun h => ⟨q, h⟩)
      · by_cases hsq : s = q
        · subst hsq; exact (hsub b (.inr hb)).elim (fun h => ⟨t, h⟩) (fun h => ⟨s, h⟩)
        · rw [hfp s hst hsq] at hb; exact ⟨s, hb⟩
    obtain ⟨s', hb'⟩ := hb2
    exact ⟨Nat.lt_of_lt_of_le (h.lt s' b hb').1 hsz, (h.lt s' b hb').2⟩
  · rw [Env.get_upd] at hid
    split at hid
    · rw [hna] at hid; cases hid
    · exact h.ask s id hid
  · rw [Env.get_upd]
    split
    · exact hst
    · exact (h.stamps s).mono hus

theorem Rd.plain {ok : Nat → Prop} {v : Value} {d : D} {B : List Nat} (h : Rd ok w v d B) (hd : ∀ e rows, d ≠ .list true e rows) : B = [] := by
  cases h with
  | own g n cap e cur E rows B he hn hp hc hm hg hs hr hB => exact absurd rfl (hd _ _)
  | _ => rfl
theorem RdL.plain {ok : Nat → Prop} {vs : List Value} {ds : List D} {B : List Nat} (h : RdL ok w vs ds B) (hd : plainL ds = true) : B = [] := by
  induction ds generalizing vs B with
  | nil => cases h; rfl
  | cons d ds ih =>
    cases vs with
    | nil => exact h.nil_inv.2
    | cons v vs =>
      obtain ⟨B1, B2, rfl, h1, h2, _⟩ := h.cons_inv
      have hd1 : (∀ e rows, d ≠ .list true e rows) ∧ plainL ds = true := by
        cases d with
        | list o e rows => cases o with
          | true => simp [plainL] at hd
          | false => exact ⟨fun _ _ hh => (by injection hh with hh; cases hh), by simpa [plainL] using hd⟩
        | _ => exact ⟨fun _ _ hh => (by cases hh), by simpa [plainL] using hd⟩
      rw [h1.plain hd1.1, ih h2 hd1.2]
      rfl

/-- What slot t owned goes to the slot q. -/
def fpMove (fp : Nat → List Nat) (t q : Nat) (B : List Nat) : Nat → List Nat := fun s => if s = q then B else if s = t then [] else fp s
theorem Sim.giveup (h : Sim ok0 mine ua uo e tmps w fp) {t q : Nat} {vt : Value} (ht : tmps[t]? = some vt) (hq : tmps.size ≤ q) (hq0 : fp q = []) {B : List Nat} (hB : ∀ b ∈ B, b ∈ fp t) :
    Sim ok0 mine ua uo (e.upd t .dead) tmps w (fpMove fp t q B) ∧ ∀ k, okOf ok0 fp k → okOf ok0 (fpMove fp t q B) k := by
  have htl : t < tmps.size := (Array.getElem?_eq_some_iff.1 ht).1
  have htq : t ≠ q := by omega
  have e1 : fpMove fp t q B t = [] := by simp [fpMove, htq]
  have e2 : fpMove fp t q B q = B := by simp [fpMove]
  refine h.turn (fun _ hk => hk) ht hq (fun s h1 h2 => by simp [fpMove, h1, h2]) (fun b hb => .inl ?_) (fun b hb => ?_) (fun _ _ _ => rfl) (Nat.le_refl _) ?_ rfl trivial (fun s v hs hv ha => ?_) trivial
  · rw [e1, e2] at hb; exact hB b (by simpa using hb)
  · rw [e1] at hb; cases hb
  · rw [e1]; exact .dead _
  · refine AliasOK.stale fun r hr => ?_
    rw [ha] at hr
    obtain rfl := Option.some.inj hr
    rw [Env.get_upd, if_pos ⟨rfl, by rw [h.size]; exact htl⟩]
    exact ⟨fun _ _ _ hh => (by cases hh), fun _ _ _ hh => (by cases hh), fun _ _ hh => (by cases hh)⟩
end
end Go.Abs
set_option linter.unusedVariables false
set_option linter.unusedSimpArgs false
namespace Go.Abs
open Go
theorem flat_len {e : Nat} {rows : List (List D)} (he : ∀ r ∈ rows, r.length = e) : rows.flatten.length = rows.length * e := by
  induction rows with
  | nil => simp
  | cons r rows ih =>
    simp only [List.flatten_cons, List.length_append, List.length_cons, he r (List.mem_cons_self ..), ih fun x hx => he x (List.mem_cons_of_mem _ hx)]
    rw [Nat.add_mul]; omega
theorem flat_split {e i : Nat} {rows : List (List D)} {row : List D} (he : ∀ r ∈ rows, r.length = e) (hi : rows[i]? = some row) :
    ∃ l1 l2, rows.flatten = l1 ++ (row ++ l2) ∧ l1.length = i * e ∧ (∀ row' : List D, (rows.set i row').flatten = l1 ++ (row' ++ l2)) ∧ row.length = e ∧ i < rows.length := by
  obtain ⟨hlt, hrow⟩ := List.getElem?_eq_some_iff.1 hi
  have hd : rows = rows.take i ++ row :: rows.drop (i + 1) := by rw [← hrow]; simp
  refine ⟨(rows.take i).flatten, (rows.drop (i + 1)).flatten, ?_, ?_, fun row' => ?_, he row (by rw [← hrow]; exact List.getElem_mem hlt), hlt⟩
  · conv => lhs; rw [hd]
    simp
  · rw [flat_len (e := e) fun r hr => he r (List.mem_of_mem_take hr)]
    rw [List.length_take, Nat.min_eq_left (by omega)]
  · rw [List.set_eq_take_append_cons_drop, if_pos hlt]
    simp


section
variable {ok ok' : Nat → Prop} {w w' : World}
theorem RdL.app {vs1 vs2 : List Value} {ds1 ds2 : List D} {B1 B2 : List Nat} (h1 : RdL ok w vs1 ds1 B1) (h2 : RdL ok w vs2 ds2 B2) (hd : ∀ b ∈ B1, b ∉ B2) : RdL ok w (vs1 ++ vs2) (ds1 ++ ds2) (B1 ++ B2) := by
  induction ds1 generalizing vs1 B1 with
  | nil => cases h1; exact h2
  | cons d ds1 ih =>
    cases vs1 with
    | nil => cases h1
    | cons v vs1 =>
      obtain ⟨C1, C2, rfl, g1, g2, gd⟩ := h1.cons_inv
      rw [List.append_assoc]
      refine .cons v d _ _ C1 _ g1 (ih g2 fun b hb => hd b (List.mem_append_right _ hb)) fun b hb hb' => ?_
      rcases List.mem_append.1 hb' with hb' | hb'
      · exact gd b hb hb'
      · exact hd b (List.mem_append_left _ hb) hb'
theorem RdL.split {ds1 ds2 : List D} {vs : List Value} {B : List Nat} (h : RdL ok w vs (ds1 ++ ds2) B) :
    ∃ B1 B2, B = B1 ++ B2 ∧ RdL ok w (vs.take ds1.length) ds1 B1 ∧ RdL ok w (vs.drop ds1.length) ds2 B2 ∧ ∀ b ∈ B1, b ∉ B2 := by
  induction ds1 generalizing vs B with
  | nil => exact ⟨[], B, rfl, .nil, by simpa using h, by simp⟩
  | cons d ds1 ih =>
    cases vs with
    | nil => cases h
    | cons v vs =>
      obtain ⟨C1, C2, rfl, g1, g2, gd⟩ := h.cons_inv
      obtain ⟨B1, B2, rfl, k1, k2, kd⟩ := ih g2
      refine ⟨C1 ++ B1, B2, by simp, ?_, by simpa using k2, fun b hb hb' => ?_⟩
      · exact .cons v d _ _ C1 B1 g1 k1 fun b hb hb' => gd b hb (List.mem_append_left _ hb')
      · rcases List.mem_append.1 hb with hb | hb
        · exact gd b hb (List.mem_append_right _ hb')
        · exact kd b hb hb'
/-- One of them, and what stands before and behind it. -/
theorem RdL.at {ds : List D} {vs : List Value} {B : List Nat} (h : RdL ok w vs ds B) {j : Nat} {d : D} (hj : ds[j]? = some d) :
    ∃ v B1 B2 B3, B = B1 ++ (B2 ++ B3) ∧ vs[j]? = some v ∧ Rd ok w v d B2 ∧ RdL ok w (vs.take j) (ds.take j) B1 ∧ RdL ok w (vs.drop (j + 1)) (ds.drop (j + 1)) B3 ∧ (∀ b ∈ B1, b ∉ B2 ++ B3) ∧ ∀ b ∈ B2, b ∉ B3 := by
  have hlt : j < ds.length := (List.getElem?_eq_some_iff.1 hj).1
  have hds : ds = ds.take j ++ d :: ds.drop (j + 1) := by
    have hd : ds[j] = d := (List.getElem?_eq_some_iff.1 hj).2
    rw [← hd]
    simp
  rw [hds] at h
  obtain ⟨B1, B2, rfl, g1, g2, gd⟩ := h.split
  have hl : (ds.take j).length = j := by simp; omega
  rw [hl] at g1 g2
  cases hv : vs.drop j with
  | nil => rw [hv] at g2; cases g2
  | cons v vs' =>
    rw [hv] at g2
    obtain ⟨C1, C2, rfl, k1, k2, kd⟩ := g2.cons_inv
    have hvj : vs[j]? = some v := by
      have : (vs.drop j)[0]? = some v := by rw [hv]; rfl
      simpa using this
    have hvs' : vs' = vs.drop (j + 1) := by
      have : vs.drop (j + 1) = (vs.drop j).drop 1 := by rw [List.drop_drop]
      rw [this, hv]; rfl
    subst hvs'
    exact ⟨v, B1, C1, C2, rfl, hvj, k1, g1, k2, gd, kd⟩
theorem RdL.set {ds : List D} {vs : List Value} {B1 B2 B3 : List Nat} {j : Nat} {v : Value} {d : D} (hj : j < ds.length) (hvl : j < vs.length)
    (h1 : RdL ok w (vs.take j) (ds.take j) B1) (h2 : Rd ok w v d B2) (h3 : RdL ok w (vs.drop (j + 1)) (ds.drop (j + 1)) B3) (hd : ∀ b ∈ B1, b ∉ B2 ++ B3) (hd' : ∀ b ∈ B2, b ∉ B3) :
    RdL ok w (vs.set j v) (ds.set j d) (B1 ++ (B2 ++ B3)) := by
  rw [List.set_eq_take_append_cons_drop, List.set_eq_take_append_cons_drop, if_pos hvl, if_pos hj]
  exact h1.app (.cons v d _ _ B2 B3 h2 h3 hd') hd
end

theorem set_same {α : Type} {l : List α} {j : Nat} {v : α} (h : l[j]? = some v) : l.set j v = l := by
  apply List.ext_getElem?
  intro i
  rw [List.getElem?_set]
  split
  · rename_i hij; subst hij
    split
    · exact h.symm
    · rename_i hl; rw [List.getElem?_eq_none (by simpa using hl)] at h; cases h
  · rfl

/-- The value of an operand. -/
def evalT (tmps : Array Value) : Operand → Value
  | .tmp t => tmps.getD t undef
  | .const v => v
  | .global g => .pointer (some ⟨g, 0, none⟩)
  | .func f => .func (.func f) #[] #[]
theorem evalT_eq (a : Act) (o : Operand) : a.eval o = evalT a.tmps o := by cases o <;> rfl

def constD : Value → D → Bool
  | .int k n, .int k' n' => k == k' && n == n'
  | .bool b, .bool b' => b == b'
  | .string s, .str t => s.data == t.data
  | .slice none 0 0, .list _ _ [] => true
  | .nilIface, .err false => true
  | _, _ => false
def okX : Operand → X → Bool
  | .tmp n, .t m => n == m
  | .tmp n, .a m _ => n == m
  | .tmp n, .m m _ => n == m
  | .tmp n, .p m => n == m
  | .const v, .c d => constD v d
  | .const v, .k d => constD v d
  | .global g, .g h => g == h
  | .func f, .f h => f == h
  | _, _ => false
theorem constD_rd {ok : Nat → Prop} {w : World} {v : Value} {d : D} (h : constD v d = true) : Rd ok w v d [] := by
  unfold constD at h
  split at h
  · simp at h; obtain ⟨rfl, rfl⟩ := h; exact .int _ _
  · simp at h; subst h; exact .bool _
  · rename_i s t
    simp at h
    have : s = t := by cases s; cases t; simp at h; subst h; rfl
    subst this; exact .str _
  · exact .empty _ _ _
  · exact .err _ _ rfl
  · cases h

section
variable {R : Type} {ok0 mine ua uo : Nat → Prop} {e : Env} {tmps : Array Value} {w : World} {fp : Nat → List Nat} {st q : Nat} {res : R}

theorem Sim.slot (h : Sim ok0 mine ua uo e tmps w fp) {s : Nat} (hs : e.get s ≠ .dead) : ∃ v, tmps[s]? = some v ∧ tmps.getD s undef = v := by
  have hlt : s < tmps.size := by
    rcases Nat.lt_or_ge s tmps.size with h' | h'
    · exact h'
    · exact absurd (Env.get_out e s (by rw [h.size]; exact h')) hs
  exact ⟨tmps[s], by simp [hlt], by simp [hlt]⟩

theorem Sim.plain_nil (h : Sim ok0 mine ua uo e tmps w fp) {s : Nat} {v : Value} {d : D} (hv : tmps[s]? = some v) (hs : e.get s = .val (.one d)) (hd : ∀ e rows, d ≠ .list true e rows) :
    Rd (okOf ok0 fp) w v d [] := by
  have hr := h.rel s v hv
  rw [hs] at hr
  have h1 := hr.val_inv.one_inv
  rwa [h1.plain hd] at h1
theorem Sim.plain_agg (h : Sim ok0 mine ua uo e tmps w fp) {s : Nat} {v : Value} {ds : List D} (hv : tmps[s]? = some v) (hs : e.get s = .val (.agg ds)) (hd : plainL ds = true) :
    ∃ vs : List Value, v = .agg vs.toArray ∧ RdL (okOf ok0 fp) w vs ds [] := by
  have hr := h.rel s v hv
  rw [hs] at hr
  obtain ⟨vs, rfl, h1⟩ := hr.val_inv.agg_inv
  rw [h1.plain hd] at h1
  exact ⟨vs, rfl, h1⟩

/-- What is looked at without being taken. -/
theorem peekS_sound (h : Sim ok0 mine ua uo e tmps w fp) {s : Nat} {k : V → Option R} (hk : peekS e s k = some res) :
    ∃ V, k V = some res ∧ VR (okOf ok0 fp) w (tmps.getD s undef) V [] := by
  unfold peekS at hk
  split at hk
  · cases hk
  · rename_i d hnd hs
    obtain ⟨v, hv, hv'⟩ := h.slot (s := s) (by rw [hs]; simp)
    rw [hv']
    exact ⟨_, hk, .one _ _ _ (h.plain_nil hv hs fun e rows hd => hnd e rows hd)⟩
  · rename_i ds hs
    split at hk
    · rename_i hp
      obtain ⟨v, hv, hv'⟩ := h.slot (s := s) (by rw [hs]; simp)
      obtain ⟨vs, rfl, h1⟩ := h.plain_agg hv hs hp
      rw [hv']
      exact ⟨_, hk, .agg _ _ _ h1⟩
    · cases hk
  · cases hk
theorem peek_sound (h : Sim ok0 mine ua uo e tmps w fp) {o : Operand} {x : X} (hx : okX o x = true) {k : V → Option R} (hk : peek e x k = some res) :
    ∃ V, k V = some res ∧ VR (okOf ok0 fp) w (evalT tmps o) V [] := by
  cases x with
  | c d =>
    cases o <;> simp [okX] at hx
    exact ⟨_, hk, .one _ _ _ (constD_rd hx)⟩
  | p s =>
    cases o <;> simp [okX] at hx
    subst hx
    exact peekS_sound h hk
  | t s =>
    cases o <;> simp [okX] at hx
    subst hx
    exact peekS_sound h hk
  | a s r =>
    cases o <;> simp [okX] at hx
    subst hx
    exact peekS_sound h hk
  | _ => simp [peek] at hk
theorem peekInt_sound (h : Sim ok0 mine ua uo e tmps w fp) {o : Operand} {x : X} (hx : okX o x = true) {k : IntKind → Int → Option R} (hk : peekInt e x k = some res) :
    ∃ i n, k i n = some res ∧ evalT tmps o = .int i n := by
  obtain ⟨V, h1, h2⟩ := peek_sound h hx hk
  unfold intS at h1
  split at h1
  · have h3 := h2.one_inv
    cases hv : evalT tmps o <;> rw [hv] at h3 <;> cases h3
    exact ⟨_, _, h1, rfl⟩
  · cases h1
theorem peekBool_sound (h : Sim ok0 mine ua uo e tmps w fp) {o : Operand} {x : X} (hx : okX o x = true) {k : Bool → Option R} (hk : peekBool e x k = some res) :
    ∃ b, k b = some res ∧ evalT tmps o = .bool b := by
  obtain ⟨V, h1, h2⟩ := peek_sound h hx hk
  unfold boolS at h1
  split at h1
  · have h3 := h2.one_inv
    cases hv : evalT tmps o <;> rw [hv] at h3 <;> cases h3
    exact ⟨_, h1, rfl⟩
  · cases h1

theorem VR.ok_mono {ok ok' : Nat → Prop} {v : Value} {x : V} {B : List Nat} (h : VR ok w v x B) (hok : ∀ k, ok k → ok' k) : VR ok' w v x B :=
  h.step (fun k _ => hok k) fun _ _ _ => rfl

/-- What a take leaves behind. -/
structure Taken (ok0 mine ua uo : Nat → Prop) (e : Env) (tmps : Array Value) (w : World) (fp : Nat → List Nat) (st q : Nat) (us : Upd) (fp' : Nat → List Nat) : Prop where
  sim : Sim ok0 mine ua (fun k => uo k ∨ k = st) (e.app us) tmps w fp'
  virt : ∀ t, tmps.size ≤ t → t ≠ q → fp' t = fp t
  ok : ∀ k, okOf ok0 fp k → okOf ok0 fp' k

/-- A cell of an element of an own slice. -/
theorem Rd.cellAt {ok : Nat → Prop} {w : World} {v : Value} {e i o : Nat} {rows : List (List D)} {row : List D} {d : D} {B : List Nat} (h : Rd ok w v (.list true e rows) B) (hi : rows[i]? = some row) (ho : row[o]? = some d) :
    ∃ g n cap v0 B2, v = .slice (some ⟨g, 0, none⟩) n cap ∧ w.cell? ⟨g, i * e + o, none⟩ = some v0 ∧ Rd ok w v0 d B2 ∧ ∀ b ∈ B2, b ∈ B := by
  cases h with
  | empty => simp at hi
  | own g n cap _ cur E _ B he hn hp hc hm hg hs hr hB =>
    obtain ⟨l1, l2, h1, h2, h3, h4, h5⟩ := flat_split he hi
    have hol : o < row.length := (List.getElem?_eq_some_iff.1 ho).1
    have hj : rows.flatten[i * e + o]? = some d := by
      rw [h1, List.getElem?_append_right (by omega), List.getElem?_append_left (by omega)]
      rw [← ho]; congr 1; omega
    obtain ⟨v0, B1, B2, B3, rfl, hv0, hrd, hr1, hr3, hd1, hd2⟩ := hr.at hj
    have hcell : w.cell? ⟨g, i * e + o, none⟩ = some v0 := by
      rw [cell_of_row w g (i * e + o) cur E (0, 0) hg]
      rw [List.getElem?_take] at hv0
      split at hv0
      · simpa using hv0
      · cases hv0
    exact ⟨g, n, cap, v0, B2, rfl, hcell, hrd, fun b hb => by simp [hb]⟩
theorem takeS_sound (h : Sim ok0 mine ua uo e tmps w fp) (hst : ¬ ua st) (hq : tmps.size ≤ q) (hq0 : fp q = []) {s : Nat} {r : Option Nat} {k : V → Upd → Option R} (hk : takeS e st s r k = some res) :
    ∃ V us fp', k V us = some res ∧ Taken ok0 mine ua uo e tmps w fp st q us fp' ∧ VR (okOf ok0 fp') w (tmps.getD s undef) V (fp' q) := by
  have h' : Sim ok0 mine ua (fun k => uo k ∨ k = st) e tmps w fp := ⟨h.size, h.rel, h.al, h.disj, h.lt, h.ask, fun s => (h.stamps s).mono fun k hk => .inl hk⟩
  have same : ∀ {V : V}, k V [] = some res → VR (okOf ok0 fp) w (tmps.getD s undef) V [] → ∃ V us fp', k V us = some res ∧ Taken ok0 mine ua uo e tmps w fp st q us fp' ∧ VR (okOf ok0 fp') w (tmps.getD s undef) V (fp' q) :=
    fun {V} h1 h2 => ⟨V, [], fp, h1, ⟨h', fun _ _ _ => rfl, fun _ h => h⟩, by rw [hq0]; exact h2⟩
  unfold takeS at hk
  split at hk
  · -- own
    rename_i id w' rows hs
    obtain ⟨v, hv, hv'⟩ := h.slot (s := s) (by rw [hs]; simp)
    obtain ⟨h1, h2⟩ := h'.giveup hv hq hq0 (B := fp s) (fun b hb => hb)
    have hr := h.rel s v hv
    rw [hs] at hr
    refine ⟨_, _, fpMove fp s q (fp s), hk, ⟨h1, fun t ht htq => ?_, h2⟩, ?_⟩
    · have : t ≠ s := fun hh => by subst hh; have := (Array.getElem?_eq_some_iff.1 hv).1; omega
      simp [fpMove, htq, this]
    · rw [hv']
      have e1 : fpMove fp s q (fp s) q = fp s := by simp [fpMove]
      rw [e1]
      exact (VR.one _ _ _ hr.own_inv).ok_mono h2
  · cases hk
  · rename_i d hnd hs
    obtain ⟨v, hv, hv'⟩ := h.slot (s := s) (by rw [hs]; simp)
    refine same hk ?_
    rw [hv']
    exact .one _ _ _ (h.plain_nil hv hs fun e rows hd => hnd e rows hd)
  · rename_i ds hs
    obtain ⟨v, hv, hv'⟩ := h.slot (s := s) (by rw [hs]; simp)
    split at hk
    · rename_i hp
      obtain ⟨vs, rfl, h1⟩ := h.plain_agg hv hs hp
      refine same hk ?_
      rw [hv']
      exact .agg _ _ _ h1
    · obtain ⟨h1, h2⟩ := h'.giveup hv hq hq0 (B := fp s) (fun b hb => hb)
      have hr := h.rel s v hv
      rw [hs] at hr
      refine ⟨_, _, fpMove fp s q (fp s), hk, ⟨h1, fun t ht htq => ?_, h2⟩, ?_⟩
      · have : t ≠ s := fun hh => by subst hh; have := (Array.getElem?_eq_some_iff.1 hv).1; omega
        simp [fpMove, htq, this]
      · rw [hv']
        have e1 : fpMove fp s q (fp s) q = fp s := by simp [fpMove]
        rw [e1]
        exact hr.val_inv.ok_mono h2
  · -- an alias of a slot's own slice
    rename_i t id hs
    split at hk
    · split at hk
      · rename_i id' e' rows ht
        split at hk
        · rename_i hid
          subst hid
          obtain ⟨v, hv, hv'⟩ := h.slot (s := s) (by rw [hs]; simp)
          have ha := h.al s v hv
          rw [hs] at ha
          have htv : tmps[t]? = some v := ha _ _ ht
          obtain ⟨h1, h2⟩ := h'.giveup htv hq hq0 (B := fp t) (fun b hb => hb)
          have hr := h.rel t v htv
          rw [ht] at hr
          refine ⟨_, _, fpMove fp t q (fp t), hk, ⟨h1, fun t' ht' htq => ?_, h2⟩, ?_⟩
          · have : t' ≠ t := fun hh => by subst hh; have := (Array.getElem?_eq_some_iff.1 htv).1; omega
            simp [fpMove, htq, this]
          · rw [hv']
            have e1 : fpMove fp t q (fp t) q = fp t := by simp [fpMove]
            rw [e1]
            exact (VR.one _ _ _ hr.own_inv).ok_mono h2
        · cases hk
      · cases hk
    · cases hk
  · -- a cell of a box
    rename_i t j id hs
    split at hk
    · split at hk
      · rename_i b ver ds ht
        split at hk
        · rename_i hid
          subst hid
          split at hk
          · rename_i e' rows hj
            obtain ⟨v, hv, hv'⟩ := h.slot (s := s) (by rw [hs]; simp)
            have ha := h.al s v hv
            rw [hs] at ha
            obtain ⟨g, htv, hcell⟩ := ha _ _ ht
            have hr := h.rel t _ htv
            rw [ht] at hr
            obtain ⟨g2, cur, E, B', hv2, hfp, hg, hrd, hgB⟩ := hr.box_inv
            obtain rfl : g = g2 := by injection hv2 with h1; injection h1 with h1; injection h1
            obtain ⟨u, B1, B2, B3, rfl, hu, hru, hr1, hr3, hd1, hd2⟩ := hrd.at hj
            have huv : u = v := by
              rw [cell_of_row w g j cur E (0, 0) hg] at hcell
              simpa [hcell] using hu.symm
            subst huv
            have htl : t < tmps.size := (Array.getElem?_eq_some_iff.1 htv).1
            have htq : t ≠ q := by omega
            let fp' : Nat → List Nat := fun x => if x = q then B2 else if x = t then g :: (B1 ++ ([] ++ B3)) else fp x
            have e1 : fp' t = g :: (B1 ++ ([] ++ B3)) := by simp [fp', htq]
            have e2 : fp' q = B2 := by simp [fp']
            have hmem : ∀ b, b ∈ fp' t ∨ b ∈ fp' q → b ∈ fp t := by
              intro b hb
              rw [e1, e2] at hb
              rw [hfp]
              simp only [List.mem_cons, List.mem_append, List.nil_append] at hb ⊢
              grind
            have hgone : RdL (okOf ok0 fp) w cur.toList (ds.set j .gone) (B1 ++ ([] ++ B3)) := by
              have hjl : j < ds.length := (List.getElem?_eq_some_iff.1 hj).1
              have := RdL.set (vs := cur.toList) (v := u) hjl (List.getElem?_eq_some_iff.1 hu).1 hr1 (.gone u hru.one) hr3 (fun b hb hb' => hd1 b hb (List.mem_append_right _ (by simpa using hb'))) (by simp)
              rwa [set_same hu] at this
            have hok' : ∀ k, okOf ok0 fp k → okOf ok0 fp' k := by
              intro k ho
              refine ⟨ho.1, fun x hx => ?_⟩
              by_cases hxt : x = t
              · subst hxt; exact ho.2 x (hmem k (.inl hx))
              · by_cases hxq : x = q
                · subst hxq; exact ho.2 t (hmem k (.inr hx))
                · simp only [fp', hxq, hxt, if_false] at hx; exact ho.2 x hx
            obtain ⟨h1, h2⟩ := h.turn (uo' := fun k => uo k ∨ k = st) (fun k hk => .inl hk) (t := t) (q := q) htv hq (av := .box b st (ds.set j .gone)) (fp' := fp')
              (fun x hx1 hx2 => by simp [fp', hx1, hx2]) (fun b hb => .inl (hmem b hb))
              (fun b hb hb' => by
                rw [e1] at hb
                rw [e2] at hb'
                simp only [List.mem_cons, List.mem_append, List.nil_append] at hb hgB
                rcases hb with rfl | hb | hb
                · exact hgB (.inr (.inl hb'))
                · exact hd1 b hb (List.mem_append_left _ hb')
                · exact hd2 b hb' hb)
              (fun _ _ _ => rfl) (Nat.le_refl _)
              (by
                rw [e1]
                refine .box g b st cur E _ _ hg (hgone.step (fun k _ => hok' k) fun _ _ _ => rfl) ?_
                intro hh
                simp only [List.mem_append, List.nil_append] at hh hgB
                exact hgB (hh.imp id .inr))
              rfl ⟨.inl (by have := h.stamps t; rw [ht] at this; exact this.1), .inr rfl⟩
              (fun x u' hx hu' hal => by
                have hax := h.al x u' hu'
                have hgt : ∀ y, (e.upd t (.box b st (ds.set j .gone))).get t = y → y = .box b st (ds.set j .gone) := by
                  intro y hy; rw [Env.get_upd, if_pos ⟨rfl, by rw [h.size]; exact htl⟩] at hy; exact hy.symm
                have hask := h.ask x
                cases hav : e.get x with
                | ref t2 j2 i2 =>
                  rw [hav] at hal hax; simp only [aliasOf, Option.some.injEq] at hal; subst hal
                  have := hask i2 (by rw [hav]; rfl)
                  cases j2 with
                  | none => intro e2 rows2 hL; have := hgt _ hL; cases this
                  | some j2 => intro b2 ds2 hL; have h4 := hgt _ hL; injection h4 with h5 h6; subst h6; exact absurd this hst
                | copy t2 i2 =>
                  rw [hav] at hal hax; simp only [aliasOf, Option.some.injEq] at hal; subst hal
                  have := hask i2 (by rw [hav]; rfl)
                  intro b2 ds2 hL; have h4 := hgt _ hL; injection h4 with h5 h6; subst h6; exact absurd this hst
                | part t2 i2 o2 n2 =>
                  rw [hav] at hal hax; simp only [aliasOf, Option.some.injEq] at hal; subst hal
                  have := hask i2 (by rw [hav]; rfl)
                  intro b2 ds2 hL; have h4 := hgt _ hL; injection h4 with h5 h6; subst h6; exact absurd this hst
                | bp t2 i2 o2 =>
                  rw [hav] at hal hax; simp only [aliasOf, Option.some.injEq] at hal; subst hal
                  intro v2 ds2 hL; have h4 := hgt _ hL; injection h4 with h5 h6; subst h5
                  exact hax _ _ ht
                | into t2 j2 i2 e2 i3 o2 =>
                  rw [hav] at hal hax; simp only [aliasOf, Option.some.injEq] at hal; subst hal
                  have := hask i2 (by rw [hav]; rfl)
                  cases j2 with
                  | none => intro e2 rows2 hL; have := hgt _ hL; cases this
                  | some j2 => intro b2 ds2 hL; have h4 := hgt _ hL; injection h4 with h5 h6; subst h6; exact absurd this hst
                | cell t2 i2 i3 o2 =>
                  rw [hav] at hal; simp only [aliasOf, Option.some.injEq] at hal; subst hal
                  intro e2 rows2 row2 w2 inner2 hL; have := hgt _ hL; cases this
                | mref t2 i2 =>
                  rw [hav] at hal; simp only [aliasOf, Option.some.injEq] at hal; subst hal
                  intro _ hL; have := hgt _ hL; cases this
                | _ => rw [hav] at hal; simp [aliasOf] at hal)
              trivial
            refine ⟨_, _, fp', hk, ⟨h1, fun t' ht' htq' => ?_, h2⟩, ?_⟩
            · have : t' ≠ t := by omega
              simp [fp', htq', this]
            · rw [hv', e2]
              exact (VR.one _ _ _ hru).ok_mono hok'
          · cases hk
        · cases hk
      · cases hk
    · cases hk
  · -- a struct's copy
    rename_i t ver hs
    split at hk
    · split at hk
      · rename_i b ver' ds ht
        split at hk
        · rename_i hid
          subst hid
          obtain ⟨v, hv, hv'⟩ := h.slot (s := s) (by rw [hs]; simp)
          have ha := h.al s v hv
          rw [hs] at ha
          obtain ⟨g, cur, E, htv, hg, rfl⟩ := ha _ _ ht
          have hr := h.rel t _ htv
          rw [ht] at hr
          obtain ⟨g2, cur2, E2, B', hv2, hfp, hg2, hrd, hgB⟩ := hr.box_inv
          obtain rfl : g = g2 := by injection hv2 with h1; injection h1 with h1; injection h1
          obtain rfl : cur = cur2 := by rw [hg] at hg2; injection hg2 with h1; injection h1
          obtain ⟨h1, h2⟩ := h'.giveup htv hq hq0 (B := B') (fun b hb => by rw [hfp]; exact List.mem_cons_of_mem _ hb)
          refine ⟨_, _, fpMove fp t q B', hk, ⟨h1, fun t' ht' htq => ?_, h2⟩, ?_⟩
          · have : t' ≠ t := fun hh => by subst hh; have := (Array.getElem?_eq_some_iff.1 htv).1; omega
            simp [fpMove, htq, this]
          · rw [hv']
            have e1 : fpMove fp t q B' q = B' := by simp [fpMove]
            rw [e1]
            have := VR.agg (w := w) _ _ _ hrd
            exact (show VR (okOf ok0 fp) w (.agg cur) (.agg ds) B' by simpa using this).ok_mono h2
        · cases hk
      · cases hk
    · cases hk
  · -- a cell of an element
    rename_i t id i o hs
    split at hk
    · split at hk
      · rename_i id' e' rows ht
        split at hk
        · rename_i hid
          subst hid
          unfold rowTakeK at hk
          split at hk
          · rename_i row hrow
            split at hk
            · rename_i w' inner hro
              obtain ⟨v, hv, hv'⟩ := h.slot (s := s) (by rw [hs]; simp)
              have ha := h.al s v hv
              rw [hs] at ha
              obtain ⟨g, n, c, htv, hcell⟩ := ha _ _ _ _ _ ht hrow hro
              have hr := h.rel t _ htv
              rw [ht] at hr
              obtain ⟨g2, n2, c2, v0, B2, hvv, hc0, hrd, hsub⟩ := hr.own_inv.cellAt hrow hro
              obtain rfl : g = g2 := by injection hvv with h1; injection h1 with h1; injection h1
              obtain rfl : v = v0 := by rw [hcell] at hc0; injection hc0
              obtain ⟨h1, h2⟩ := h'.giveup htv hq hq0 (B := B2) hsub
              refine ⟨_, _, fpMove fp t q B2, hk, ⟨h1, fun t' ht' htq => ?_, h2⟩, ?_⟩
              · have : t' ≠ t := fun hh => by subst hh; have := (Array.getElem?_eq_some_iff.1 htv).1; omega
                simp [fpMove, htq, this]
              · rw [hv']
                have e1 : fpMove fp t q B2 q = B2 := by simp [fpMove]
                rw [e1]
                exact (VR.one _ _ _ hrd).ok_mono h2
            · cases hk
          · cases hk
        · cases hk
      · cases hk
    · cases hk
  · cases hk
end
end Go.Abs
set_option linter.unusedVariables false
set_option linter.unusedSimpArgs false
namespace Go.Abs
open Go

theorem addr_add (g o j : Nat) : (⟨g, o, none⟩ : Addr).add j = ⟨g, o + j, none⟩ := by unfold Addr.add; split <;> simp_all

/-- What a load of n cells at p yields. -/
def Loads (w : World) (agg : Bool) (n : Nat) (p v : Value) : Prop :=
  ∃ b off, p = .pointer (some ⟨b, off, none⟩) ∧
    match agg with
    | true => ∃ us : List Value, us.length = n ∧ (∀ j u, us[j]? = some u → w.cell? ⟨b, off + j, none⟩ = some u) ∧ v = .agg us.toArray
    | false => w.cell? ⟨b, off, none⟩ = some v
def aggD : TypeDesc → Bool
  | .struct _ => true
  | .array _ _ => true
  | _ => false
def okTy (P : Program) (t : TypeId) (agg : Bool) (n : Nat) : Bool :=
  match P.info? t, P.underlying t with
  | some i, some d => i.size == n && aggD d == agg
  | _, _ => false

theorem run_underlying' {P : Program} {t : TypeId} {d : TypeDesc} {w : World} (h : P.underlying t = some d) : (underlying t).run P w = .ok d w := by
  simp [underlying, h]
theorem run_isAgg {P : Program} {t : TypeId} {d : TypeDesc} {w : World} (h : P.underlying t = some d) : (isAgg t).run P w = .ok (aggD d) w := by
  cases d <;> simp [isAgg, underlying, h, aggD]
theorem run_sizeOf' {P : Program} {t : TypeId} {i : TypeInfo} {w : World} (h : P.info? t = some i) : (sizeOf t).run P w = .ok i.size w := by
  simp [sizeOf, typeInfo, h]

theorem okTy_spec {P : Program} {t : TypeId} {agg : Bool} {n : Nat} (h : okTy P t agg n = true) :
    ∃ i d, P.info? t = some i ∧ i.size = n ∧ P.underlying t = some d ∧ aggD d = agg := by
  unfold okTy at h
  split at h
  · rename_i i d h1 h2
    simp at h
    exact ⟨i, d, h1, h.1, h2, h.2⟩
  · cases h

theorem run_loadAt {P : Program} {t : TypeId} {agg : Bool} {n : Nat} {w : World} {p v : Value} (ht : okTy P t agg n = true) (h : Loads w agg n p v) :
    (Instr.loadAt t p).run P w = .ok v w := by
  obtain ⟨i, d, h1, h2, h3, h4⟩ := okTy_spec ht
  obtain ⟨b, off, rfl, h5⟩ := h
  subst h4
  cases hd : aggD d with
  | true =>
    rw [hd] at h5
    obtain ⟨us, hl, hc, rfl⟩ := h5
    have hr := run_loadCells_list (P := P) w ⟨b, off, none⟩ us (fun j u hj => by rw [addr_add]; exact hc j u hj)
    simp only [Instr.loadAt, Instr.sureAddr, Sem.run_bind, loadVar, run_isAgg h3, hd, Result.andThen_ok, if_true, run_sizeOf' h1, h2, ← hl, hr, Sem.run_pure, pure_bind]
  | false =>
    rw [hd] at h5
    simp only [Instr.loadAt, Instr.sureAddr, Sem.run_bind, loadVar, run_isAgg h3, hd, Result.andThen_ok, pure_bind]
    simp [load, Sem.run, h5]

def NoOwn (av : AV) : Prop := (∀ id e rows, av ≠ .own id e rows) ∧ (∀ b ver ds, av ≠ .box b ver ds) ∧ ∀ id kv, av ≠ .mapv id kv
theorem NoOwn.own {av : AV} (h : NoOwn av) (p : Nat → Prop) : OwnIn p av := by
  cases av <;> first | trivial | exact absurd rfl (h.1 _ _ _) | exact absurd rfl (h.2.1 _ _ _) | exact absurd rfl (h.2.2 _ _)
theorem NoOwn.less {av : AV} (h : NoOwn av) (st : Nat) : Stampless st av := by
  cases av <;> first | trivial | exact absurd rfl (h.1 _ _ _) | exact absurd rfl (h.2.1 _ _ _) | exact absurd rfl (h.2.2 _ _)

/-- What the package's variables hold. -/
def GlobOK (ok0 mine : Nat → Prop) (glob : Nat → List D) (w : World) : Prop :=
  ∀ g, ∃ vs, RdL (fun _ => False) w vs (glob g) [] ∧ (∀ j u, vs[j]? = some u → (ok0 g ∧ ¬ mine g) ∧ w.cell? ⟨g, j, none⟩ = some u) ∧
    (vs ≠ [] → glob g ≠ [.anyi .i64] → ∃ E k, w.heap[g]? = some (.cells vs.toArray E k))

section
variable {R : Type} {ok0 mine ua uo : Nat → Prop} {e : Env} {tmps : Array Value} {w : World} {fp : Nat → List Nat} {st q : Nat} {res : R} {glob : Nat → List D}

/-- What is found where cells are read. -/
structure Found (ok0 uo : Nat → Prop) (e : Env) (tmps : Array Value) (w : World) (fp : Nat → List Nat) (v : Value) (av : AV) : Prop where
  rel : AvR (okOf ok0 fp) w v av []
  al : AliasOK e.get w tmps v av
  ask : ∀ id, askStamp av = some id → uo id
  no : NoOwn av

theorem Found.val {v : Value} {x : V} (h : VR (okOf ok0 fp) w v x []) : Found ok0 uo e tmps w fp v (.val x) :=
  ⟨.val _ _ _ h, trivial, fun _ h => (by cases h), ⟨fun _ _ _ h => (by cases h), fun _ _ _ h => (by cases h), fun _ _ h => (by cases h)⟩⟩
theorem Found.dead (v : Value) : Found ok0 uo e tmps w fp v .dead :=
  ⟨.dead _, trivial, fun _ h => (by cases h), ⟨fun _ _ _ h => (by cases h), fun _ _ _ h => (by cases h), fun _ _ h => (by cases h)⟩⟩

/-- The cells of b from off on read as ds. -/
theorem readV_sound {ok : Nat → Prop} (hok : ∀ k, ok k → okOf ok0 fp k) {b off : Nat} {vs : List Value} {ds : List D} {B : List Nat} (hc : ∀ j u, vs[j]? = some u → w.cell? ⟨b, off + j, none⟩ = some u)
    (hr : RdL ok w vs ds B) {agg : Bool} {n : Nat} {own whole : AV} {k : AV → Option R} (hk : readV agg n ds own whole k = some res)
    (hown : ∀ v, agg = false → vs[0]? = some v → (∃ e' rows, ds[0]? = some (.list true e' rows)) → Found ok0 uo e tmps w fp v own)
    (hwhole : agg = true → n ≤ ds.length → Found ok0 uo e tmps w fp (.agg (vs.take n).toArray) whole) :
    ∃ v av, k av = some res ∧ Loads w agg n (.pointer (some ⟨b, off, none⟩)) v ∧ Found ok0 uo e tmps w fp v av := by
  have hl := hr.length
  unfold readV at hk
  split at hk
  · split at hk
    · rename_i hn
      have hload : Loads w true n (.pointer (some ⟨b, off, none⟩)) (.agg (vs.take n).toArray) :=
        ⟨b, off, rfl, vs.take n, by simp; omega, fun j u hj => hc j u (by rw [List.getElem?_take] at hj; split at hj <;> first | exact hj | cases hj), rfl⟩
      split at hk
      · rename_i hp
        have h1 : ds = ds.take n ++ ds.drop n := (List.take_append_drop n ds).symm
        rw [h1] at hr
        obtain ⟨B1, B2, rfl, g1, _, _⟩ := hr.split
        have hlen : (ds.take n).length = n := by simp; omega
        rw [hlen] at g1
        have := g1.plain hp
        subst this
        exact ⟨_, _, hk, hload, .val (.agg _ _ _ (g1.step (fun k _ => hok k) fun _ _ _ => rfl))⟩
      · exact ⟨_, _, hk, hload, hwhole rfl hn⟩
    · cases hk
  · split at hk
    · rename_i e' rows _
      cases vs with
      | nil => simp at hl
      | cons v vs =>
        have h0 := hc 0 v rfl
        simp only [Nat.add_zero] at h0
        exact ⟨v, _, hk, ⟨b, off, rfl, h0⟩, hown v rfl rfl ⟨_, _, rfl⟩⟩
    · rename_i d ds' hnd
      cases vs with
      | nil => simp at hl
      | cons v vs =>
        have h0 := hc 0 v rfl
        simp only [Nat.add_zero] at h0
        obtain ⟨B1, B2, rfl, g1, _, _⟩ := hr.cons_inv
        have := g1.plain fun e' rows hd => hnd e' rows hd
        subst this
        exact ⟨v, _, hk, ⟨b, off, rfl, h0⟩, .val (.one _ _ _ (g1.step (fun k _ => hok k) fun _ _ _ => rfl))⟩
    · cases hk

theorem Sim.boxAt (h : Sim ok0 mine ua uo e tmps w fp) {s b ver : Nat} {ds : List D} (hs : e.get s = .box b ver ds) :
    ∃ g cur E B, tmps[s]? = some (.pointer (some ⟨g, 0, none⟩)) ∧ tmps.getD s undef = .pointer (some ⟨g, 0, none⟩) ∧ fp s = g :: B ∧ w.heap[g]? = some (.cells cur E (0, 0)) ∧ RdL (okOf ok0 fp) w cur.toList ds B ∧ g ∉ B ∧ uo b ∧ uo ver := by
  obtain ⟨v, hv, hv'⟩ := h.slot (s := s) (by rw [hs]; simp)
  have hr := h.rel s v hv
  rw [hs] at hr
  obtain ⟨g, cur, E, B, rfl, hfp, hg, hrd, hgB⟩ := hr.box_inv
  have hst := h.stamps s
  rw [hs] at hst
  exact ⟨g, cur, E, B, hv, hv', hfp, hg, hrd, hgB, hst.1, hst.2⟩
theorem cells_of_row {g : Nat} {cur : Array Value} {E : TypeId} (hg : w.heap[g]? = some (.cells cur E (0, 0))) (off : Nat) : ∀ j u, (cur.toList.drop off)[j]? = some u → w.cell? ⟨g, off + j, none⟩ = some u := by
  intro j u hj
  rw [cell_of_row w g (off + j) cur E (0, 0) hg]
  simpa using hj

/-- The own slice at a place. -/
def PlaceIs (e : Env) (tmps : Array Value) (w : World) (t : Nat) (j : Option Nat) (id : Nat) (r : Nat × List (List D)) (v : Value) : Prop :=
  match j with
  | none => tmps[t]? = some v ∧ e.get t = .own id r.1 r.2
  | some j => ∃ g b ds, tmps[t]? = some (.pointer (some ⟨g, 0, none⟩)) ∧ e.get t = .box b id ds ∧ w.cell? ⟨g, j, none⟩ = some v ∧ ds[j]? = some (.list true r.1 r.2)
theorem Sim.ownAt (h : Sim ok0 mine ua uo e tmps w fp) {t : Nat} {j : Option Nat} {id : Nat} {r : Nat × List (List D)} (hr : ownAt e t j id = some r) :
    ∃ v B, Rd (okOf ok0 fp) w v (.list true r.1 r.2) B ∧ (∀ b ∈ B, b ∈ fp t) ∧ uo id ∧ t < tmps.size ∧ PlaceIs e tmps w t j id r v := by
  cases j with
  | none =>
    simp only [Go.Abs.ownAt] at hr
    split at hr
    · rename_i id' e' rows ht
      split at hr
      · rename_i hid
        subst hid
        obtain rfl := Option.some.inj hr
        obtain ⟨v, hv, hv'⟩ := h.slot (s := t) (by rw [ht]; simp)
        have hrel := h.rel t v hv
        rw [ht] at hrel
        have hst := h.stamps t
        rw [ht] at hst
        exact ⟨v, fp t, hrel.own_inv, fun b hb => hb, hst, (Array.getElem?_eq_some_iff.1 hv).1, hv, ht⟩
      · cases hr
    · cases hr
  | some j =>
    simp only [Go.Abs.ownAt] at hr
    split at hr
    · rename_i b ver ds ht
      split at hr
      · rename_i hid
        subst hid
        split at hr
        · rename_i e' rows hj
          obtain rfl := Option.some.inj hr
          obtain ⟨g, cur, E, B, hv, _, hfp, hg, hrd, hgB, _, hu⟩ := h.boxAt ht
          obtain ⟨v, B1, B2, B3, rfl, hvj, hrv, _, _, _, _⟩ := hrd.at hj
          refine ⟨v, B2, hrv, fun x hx => by rw [hfp]; simp [hx], hu, (Array.getElem?_eq_some_iff.1 hv).1, g, b, ds, hv, ht, ?_, hj⟩
          rw [cell_of_row w g j cur E (0, 0) hg]
          simpa using hvj
        · cases hr
      · cases hr
    · cases hr
end
end Go.Abs
set_option linter.unusedVariables false
set_option linter.unusedSimpArgs false
namespace Go.Abs
open Go

section
variable {ok : Nat → Prop} {w : World}
theorem Rd.row {v : Value} {e i : Nat} {rows : List (List D)} {row : List D} {B : List Nat} (h : Rd ok w v (.list true e rows) B) (hi : rows[i]? = some row) :
    ∃ g n cap vs B', v = .slice (some ⟨g, 0, none⟩) n cap ∧ g ∈ B ∧ (∀ j u, vs[j]? = some u → w.cell? ⟨g, i * e + j, none⟩ = some u) ∧ RdL ok w vs row B' ∧ (∀ b ∈ B', b ∈ B) ∧ i < n ∧ n = rows.length := by
  cases h with
  | empty => simp at hi
  | own g n cap _ cur E _ B he hn hp hc hm hg hs hr hB =>
    obtain ⟨l1, l2, h1, h2, _, h4, h5⟩ := flat_split he hi
    rw [h1] at hr
    obtain ⟨B1, B2, rfl, _, k2, _⟩ := hr.split
    obtain ⟨B3, B4, rfl, k3, _, _⟩ := k2.split
    rw [h2] at k3
    refine ⟨g, n, cap, _, B3, rfl, List.mem_cons_self .., fun j u hj => ?_, k3, fun b hb => by simp [hb], by omega, hn⟩
    rw [cell_of_row w g (i * e + j) cur E (0, 0) hg]
    rw [List.getElem?_take] at hj
    split at hj
    · rw [List.getElem?_drop, List.getElem?_take] at hj
      split at hj
      · simpa using hj
      · cases hj
    · cases hj
theorem Rd.viewRow {v : Value} {e i : Nat} {rows : List (List D)} {row : List D} {B : List Nat} (h : Rd ok w v (.list false e rows) B) (hi : rows[i]? = some row) :
    ∃ b off n cap, v = .slice (some ⟨b, off, none⟩) n cap ∧ RP ok w (.pointer (some ⟨b, off + i * e, none⟩)) row ∧ i < n := by
  cases h with
  | empty => simp at hi
  | view b off n cap _ _ vs he hn hc hm hcell hr =>
    obtain ⟨l1, l2, h1, h2, _, h4, h5⟩ := flat_split he hi
    rw [h1] at hr
    obtain ⟨B1, B2, hBB, _, k2, _⟩ := hr.split
    obtain ⟨rfl, rfl⟩ : B1 = [] ∧ B2 = [] := by simpa using hBB.symm
    obtain ⟨B3, B4, hBB, k3, _, _⟩ := k2.split
    obtain ⟨rfl, rfl⟩ : B3 = [] ∧ B4 = [] := by simpa using hBB.symm
    rw [h2] at k3
    refine ⟨b, off, n, cap, rfl, ⟨b, off + i * e, _, rfl, fun j u hj => ?_, k3⟩, by omega⟩
    rw [List.getElem?_take] at hj
    split at hj
    · rw [List.getElem?_drop] at hj
      obtain ⟨x1, x2⟩ := hcell _ _ hj
      exact ⟨x1, by rw [Nat.add_assoc]; exact x2⟩
    · cases hj
theorem Rd.listLen {v : Value} {o : Bool} {e : Nat} {rows : List (List D)} {B : List Nat} (h : Rd ok w v (.list o e rows) B) : ∃ a cap, v = .slice a rows.length cap ∧ (rows.length ≠ 0 → a.isSome = true) := by
  cases h with
  | empty a => exact ⟨a, 0, rfl, fun h => absurd rfl h⟩
  | view b off n cap _ _ vs he hn hc hm hcell hr => exact ⟨_, cap, by rw [hn], fun _ => rfl⟩
  | own g n cap _ cur E _ B he hn hp hc hm hg hs hr hB => exact ⟨_, cap, by rw [hn], fun _ => rfl⟩
end

section
variable {R : Type} {ok0 mine ua uo : Nat → Prop} {e : Env} {tmps : Array Value} {w : World} {fp : Nat → List Nat} {st q : Nat} {res : R} {glob : Nat → List D}

theorem Sim.valOne (h : Sim ok0 mine ua uo e tmps w fp) {s : Nat} {x : V} (hs : e.get s = .val x) : ∃ v, tmps[s]? = some v ∧ tmps.getD s undef = v ∧ VR (okOf ok0 fp) w v x (fp s) := by
  obtain ⟨v, hv, hv'⟩ := h.slot (s := s) (by rw [hs]; simp)
  have hr := h.rel s v hv
  rw [hs] at hr
  exact ⟨v, hv, hv', hr.val_inv⟩

theorem drop_cells {g i : Nat} {vs : List Value} (hc : ∀ j u, vs[j]? = some u → w.cell? ⟨g, i + j, none⟩ = some u) (o : Nat) : ∀ j u, (vs.drop o)[j]? = some u → w.cell? ⟨g, i + o + j, none⟩ = some u := by
  intro j u hj
  rw [List.getElem?_drop] at hj
  rw [Nat.add_assoc]; exact hc _ _ hj
theorem RdL.drop {ok : Nat → Prop} {vs : List Value} {ds : List D} {B : List Nat} (h : RdL ok w vs ds B) (o : Nat) : ∃ B', RdL ok w (vs.drop o) (ds.drop o) B' ∧ ∀ b ∈ B', b ∈ B := by
  have h1 : ds = ds.take o ++ ds.drop o := (List.take_append_drop o ds).symm
  rw [h1] at h
  have hl := h.length
  obtain ⟨B1, B2, rfl, _, k2, _⟩ := h.split
  refine ⟨B2, ?_, fun b hb => by simp [hb]⟩
  by_cases ho : o ≤ ds.length
  · have : (ds.take o).length = o := by simp; omega
    rwa [this] at k2
  · have hd : ds.drop o = [] := List.drop_eq_nil_of_le (by omega)
    have hv : vs.drop o = [] := List.drop_eq_nil_of_le (by simp at hl; omega)
    rw [hd] at k2
    cases hx : vs.drop (ds.take o).length with
    | nil => rw [hx] at k2; rw [hv, hd]; exact k2
    | cons => rw [hx] at k2; cases k2

theorem readS_sound (h : Sim ok0 mine ua uo e tmps w fp) {s : Nat} {r : Option Nat} {agg : Bool} {n : Nat} {k : AV → Option R} (hk : readS e s r agg n k = some res) :
    ∃ v av, k av = some res ∧ Loads w agg n (tmps.getD s undef) v ∧ Found ok0 uo e tmps w fp v av := by
  unfold readS at hk
  split at hk
  · -- a box
    rename_i b ver ds hs
    obtain ⟨g, cur, E, B, hv, hv', hfp, hg, hrd, hgB, hub, huv⟩ := h.boxAt hs
    rw [hv']
    have hc := cells_of_row hg 0
    simp only [List.drop_zero, Nat.zero_add] at hc
    refine readV_sound (fun _ h => h) (off := 0) (by simpa using hc) hrd hk ?_ ?_
    · intro v _ hv0 _
      refine ⟨.ref _ _ _ _, ?_, fun id hid => by injection hid with hid; rw [← hid]; exact huv, fun _ _ _ h => (by cases h), fun _ _ _ h => (by cases h), fun _ _ h => (by cases h)⟩
      intro b2 ds2 hL
      rw [hs] at hL
      exact ⟨g, hv, hc 0 v hv0⟩
    · intro _ hn
      split
      · rename_i hnl
        have hlen := hrd.length
        have htk : cur.toList.take n = cur.toList := List.take_of_length_le (by omega)
        rw [htk]
        refine ⟨.copy _ _ _, ?_, fun id hid => by injection hid with hid; rw [← hid]; exact huv, fun _ _ _ h => (by cases h), fun _ _ _ h => (by cases h), fun _ _ h => (by cases h)⟩
        intro b2 ds2 hL
        exact ⟨g, cur, E, hv, hg, by simp⟩
      · refine ⟨.part _ _ _ _ _, ?_, fun id hid => by injection hid with hid; rw [← hid]; exact huv, fun _ _ _ h => (by cases h), fun _ _ _ h => (by cases h), fun _ _ h => (by cases h)⟩
        intro b2 ds2 hL
        exact ⟨g, cur, E, hv, hg, by simp⟩
  · -- into a box
    rename_i t id off hs
    split at hk
    · split at hk
      · rename_i b ver ds ht
        split at hk
        · rename_i hb
          subst hb
          obtain ⟨v, hv, hv'⟩ := h.slot (s := s) (by rw [hs]; simp)
          have ha := h.al s v hv
          rw [hs] at ha
          obtain ⟨g0, hg0, rfl⟩ := ha _ _ ht
          obtain ⟨g, cur, E, B, htv, htv', hfp, hg, hrd, hgB, hub, huv⟩ := h.boxAt ht
          obtain rfl : g0 = g := by rw [hg0] at htv; injection htv with h1; injection h1 with h1; injection h1 with h1; injection h1
          rw [hv']
          obtain ⟨B', hrd', _⟩ := hrd.drop off
          refine readV_sound (fun _ h => h) (cells_of_row hg off) hrd' hk ?_ ?_
          · intro v _ hv0 _
            refine ⟨.ref _ _ _ _, ?_, fun id hid => by injection hid with hid; rw [← hid]; exact huv, fun _ _ _ h => (by cases h), fun _ _ _ h => (by cases h), fun _ _ h => (by cases h)⟩
            intro b2 ds2 hL
            have := cells_of_row hg off 0 v hv0
            exact ⟨g0, htv, by simpa using this⟩
          · intro _ _
            refine ⟨.part _ _ _ _ _, ?_, fun id hid => by injection hid with hid; rw [← hid]; exact huv, fun _ _ _ h => (by cases h), fun _ _ _ h => (by cases h), fun _ _ h => (by cases h)⟩
            intro b2 ds2 hL
            exact ⟨g0, cur, E, htv, hg, by simp⟩
        · cases hk
      · cases hk
    · cases hk
  · -- into an own slice
    rename_i t j id w' i o hs
    split at hk
    · unfold onSome at hk
      split at hk
      · rename_i qr hq
        dsimp only at hk
        unfold rowReadK at hk
        split at hk
        · rename_i row hrow
          obtain ⟨v, hv, hv'⟩ := h.slot (s := s) (by rw [hs]; simp)
          have ha := h.al s v hv
          rw [hs] at ha
          obtain ⟨v2, B, hrd, hB, hu, htl, hpl⟩ := h.ownAt hq
          obtain ⟨g, n', cap, vs, B', rfl, hgB, hc, hrv, hB', hin, _⟩ := hrd.row hrow
          have hp : v = .pointer (some ⟨g, i * qr.1 + o, none⟩) := by
            cases j with
            | none =>
              obtain ⟨p1, p2⟩ := hpl
              obtain ⟨he, g3, n3, c3, hg3, rfl⟩ := ha _ _ p2
              rw [p1] at hg3
              injection hg3 with h1; injection h1 with h1; injection h1 with h1; injection h1 with h1
              rw [h1, he]
            | some j =>
              obtain ⟨g4, b4, ds4, p1, p2, p3, p4⟩ := hpl
              obtain ⟨g3, g5, n3, c3, hg3, hc3, rfl, rows, hd⟩ := ha _ _ p2
              rw [p1] at hg3
              injection hg3 with h1; injection h1 with h1; injection h1 with h1; injection h1 with h1
              subst h1
              rw [p3] at hc3
              injection hc3 with h1; injection h1 with h1; injection h1 with h1; injection h1 with h1
              rw [p4] at hd
              injection hd with h2; injection h2 with _ h2
              rw [h1, h2]
          subst hp
          rw [hv']
          obtain ⟨B2, hrd2, _⟩ := hrv.drop o
          refine readV_sound (fun _ h => h) (drop_cells hc o) hrd2 hk ?_ (fun _ _ => .dead _)
          cases j with
          | some j => exact fun _ _ _ _ => .dead _
          | none =>
            obtain ⟨p1, p2⟩ := hpl
            intro v0 _ hv0 _
            refine ⟨.cell _ _ _ _ _, ?_, fun id' hid => by injection hid with hid; rw [← hid]; exact hu, fun _ _ _ h => (by cases h), fun _ _ _ h => (by cases h), fun _ _ h => (by cases h)⟩
            intro e2 rows2 row2 w2 inner2 hL hri hro
            rw [p2] at hL
            injection hL with h1 h2 h3
            subst h2
            exact ⟨g, n', cap, p1, by simpa using drop_cells hc o 0 v0 hv0⟩
        · cases hk
      · cases hk
    · cases hk
  · -- cells that are only read
    rename_i ds hs
    obtain ⟨v, hv, hv'⟩ := h.slot (s := s) (by rw [hs]; simp)
    have hr := h.rel s v hv
    rw [hs] at hr
    obtain ⟨b, off, vs, rfl, hc, hrd⟩ : RP (okOf ok0 fp) w v ds := by
      generalize hB : fp s = B at hr
      cases hr with
      | rp _ _ h => exact h
    rw [hv']
    exact readV_sound (fun _ h => h) (fun j u hj => (hc j u hj).2) hrd hk (fun _ _ _ _ => .dead _) (fun _ _ => .dead _)
  · cases hk
theorem readAt_sound (h : Sim ok0 mine ua uo e tmps w fp) (hglob : GlobOK ok0 mine glob w) {o : Operand} {x : X} (hx : okX o x = true) {agg : Bool} {n : Nat} {k : AV → Option R} (hk : readAt e glob agg n x k = some res) :
    ∃ v av, k av = some res ∧ Loads w agg n (evalT tmps o) v ∧ Found ok0 uo e tmps w fp v av := by
  cases x with
  | t s => cases o <;> simp [okX] at hx; subst hx; exact readS_sound h hk
  | a s r => cases o <;> simp [okX] at hx; subst hx; exact readS_sound h hk
  | g g =>
    cases o <;> simp [okX] at hx
    subst hx
    obtain ⟨vs, hrd, hc, _⟩ := hglob _
    exact readV_sound (ok := fun _ => False) (fun _ h => h.elim) (off := 0) (fun j u hj => by rw [Nat.zero_add]; exact (hc j u hj).2) hrd hk (fun _ _ _ _ => .dead _) (fun _ _ => .dead _)
  | _ => simp [readAt] at hk
end
end Go.Abs
set_option linter.unusedVariables false
set_option linter.unusedSimpArgs false
namespace Go.Abs
open Go

section
variable {ok : Nat → Prop} {w : World}
/-- A stretch of cells is written anew. -/
theorem RdL.patch {ds ns : List D} {vs us : List Value} {B Bq : List Nat} (h : RdL ok w vs ds B) (hn : RdL ok w us ns Bq) {off : Nat} (hle : off + ns.length ≤ ds.length) (hdis : ∀ b ∈ B, b ∉ Bq) :
    ∃ B', RdL ok w (vs.take off ++ us ++ vs.drop (off + us.length)) (ds.take off ++ ns ++ ds.drop (off + ns.length)) B' ∧ (∀ b ∈ B', b ∈ B ∨ b ∈ Bq) := by
  have hl := hn.length
  have h1 : ds = ds.take off ++ ds.drop off := (List.take_append_drop off ds).symm
  rw [h1] at h
  obtain ⟨B1, B2, rfl, k1, k2, kd⟩ := h.split
  have e1 : (ds.take off).length = off := by simp; omega
  rw [e1] at k1 k2
  have h2 : ds.drop off = (ds.drop off).take ns.length ++ (ds.drop off).drop ns.length := (List.take_append_drop _ _).symm
  rw [h2] at k2
  obtain ⟨B3, B4, rfl, _, k4, kd2⟩ := k2.split
  have e2 : ((ds.drop off).take ns.length).length = ns.length := by simp; omega
  rw [e2, List.drop_drop, List.drop_drop] at k4
  rw [hl]
  refine ⟨B1 ++ Bq ++ B4, (k1.app hn fun b hb => hdis b (by simp [hb])).app k4 fun b hb hb' => ?_, fun b hb => ?_⟩
  · rcases List.mem_append.1 hb with hb | hb
    · exact kd b hb (by simp [hb'])
    · exact hdis b (by simp [hb']) hb
  · simp at hb ⊢; grind

theorem setRow_step {g : Nat} {cs : Array Value} {k : Nat} (h : k ≠ g) : (w.setRow g cs).heap[k]? = w.heap[k]? := setRow_other w g k cs h
theorem setRow_size (g : Nat) (cs : Array Value) : (w.setRow g cs).heap.size = w.heap.size := by simp [World.setRow]

/-- Cells of an element of an own slice are written. -/
theorem Rd.rowWrite {v : Value} {e i o : Nat} {rows : List (List D)} {row ns : List D} {us : List Value} {B Bq : List Nat} (h : Rd ok w v (.list true e rows) B) (hi : rows[i]? = some row)
    (ho : o + ns.length ≤ row.length) (hn : RdL ok w us ns Bq) (hdis : ∀ b ∈ B, b ∉ Bq) (hok : ∀ b ∈ B, ¬ ok b) :
    ∃ g n cap cur E B', v = .slice (some ⟨g, 0, none⟩) n cap ∧ g ∈ B ∧ w.heap[g]? = some (.cells cur E (0, 0)) ∧ i * e + o + us.length ≤ cur.size ∧
      Rd ok (w.setRow g (cur.toList.take (i * e + o) ++ us ++ cur.toList.drop (i * e + o + us.length)).toArray) v (.list true e (rows.set i (row.take o ++ ns ++ row.drop (o + ns.length)))) B' ∧
      (∀ b ∈ B', b ∈ B ∨ b ∈ Bq) := by
  cases h with
  | empty => simp at hi
  | own g n cap _ cur E _ B he hn' hp hc hm hg hs hr hB =>
    obtain ⟨l1, l2, h1, h2, h3, h4, h5⟩ := flat_split he hi
    have hlen := hn.length
    have hfl := flat_len he
    have hrl := hr.length
    have hbound : i * e + o + us.length ≤ n * e := by
      have : (i + 1) * e ≤ n * e := Nat.mul_le_mul_right _ (by omega)
      rw [Nat.add_mul] at this
      omega
    have hcape : n * e ≤ cap * e := Nat.mul_le_mul_right _ hc
    have hflat : (rows.set i (row.take o ++ ns ++ row.drop (o + ns.length))).flatten = rows.flatten.take (i * e + o) ++ ns ++ rows.flatten.drop (i * e + o + ns.length) := by
      rw [h3, h1, ← h2]
      rw [List.take_append, List.drop_append]
      have a1 : l1.take (l1.length + o) = l1 := List.take_of_length_le (by omega)
      have a2 : l1.drop (l1.length + o + ns.length) = [] := List.drop_eq_nil_of_le (by omega)
      have a3 : l1.length + o - l1.length = o := by omega
      have a4 : l1.length + o + ns.length - l1.length = o + ns.length := by omega
      rw [a1, a2, a3, a4, List.take_append, List.drop_append]
      have a5 : o - row.length = 0 := by omega
      have a6 : o + ns.length - row.length = 0 := by omega
      rw [a5, a6]
      simp
    obtain ⟨B', hp1, hp2⟩ := hr.patch hn (off := i * e + o) (by rw [hfl]; rw [← hn']; omega) (fun b hb => hdis b (List.mem_cons_of_mem _ hb))
    have hcell : (cur.toList.take (n * e)).take (i * e + o) ++ us ++ (cur.toList.take (n * e)).drop (i * e + o + us.length) =
        (cur.toList.take (i * e + o) ++ us ++ cur.toList.drop (i * e + o + us.length)).take (n * e) := by
      have hcl : cur.toList.length = cap * e := by simpa using hs
      rw [List.take_append, List.take_append, List.take_take, List.take_take]
      have b1 : min (i * e + o) (n * e) = i * e + o := Nat.min_eq_left (by omega)
      have b2 : min (n * e) (i * e + o) = i * e + o := Nat.min_eq_right (by omega)
      have b3 : (cur.toList.take (i * e + o)).length = i * e + o := by simp; omega
      rw [b1, b2, b3]
      have b4 : us.take (n * e - (i * e + o)) = us := List.take_of_length_le (by omega)
      rw [b4, List.length_append, b3, List.drop_take]
    rw [hcell, ← hflat] at hp1
    refine ⟨g, n, cap, cur, E, g :: B', rfl, List.mem_cons_self .., hg, by omega, ?_, fun b hb => ?_⟩
    · refine .own g n cap e _ E _ B' (fun r hr => ?_) (by simp [hn']) hp hc hm (setRow_heap w g cur _ E (0, 0) hg) ?_ ?_ ?_
      · rcases List.mem_or_eq_of_mem_set hr with hr | rfl
        · exact he r hr
        · simp; omega
      · simp only [List.size_toArray, List.length_append, List.length_take, List.length_drop, Array.length_toList]
        omega
      · simp only [List.toList_toArray] at hp1 ⊢
        refine hp1.step (fun _ _ h => h) fun k hk hh => setRow_step fun hkg => ?_
        subst hkg
        rcases hh with hh | hh
        · exact hok k (List.mem_cons_self ..) hh
        · rcases hp2 k hh with hh | hh
          · exact hB hh
          · exact hdis k (List.mem_cons_self ..) hh
      · intro hgB
        rcases hp2 g hgB with hh | hh
        · exact hB hh
        · exact hdis g (List.mem_cons_self ..) hh
    · rcases List.mem_cons.1 hb with rfl | hb
      · exact .inl (List.mem_cons_self ..)
      · exact (hp2 b hb).imp (List.mem_cons_of_mem _) id
end

section
variable {R : Type} {ok0 mine ua uo : Nat → Prop} {e : Env} {tmps : Array Value} {w : World} {fp : Nat → List Nat} {st q : Nat} {res : R} {glob : Nat → List D}

/-- What a store leaves behind. -/
structure Stored (ok0 mine ua uo : Nat → Prop) (e : Env) (tmps : Array Value) (w : World) (fp : Nat → List Nat) (st q : Nat) (p : Value) (vs : List Value) (u : Upd) : Prop where
  ex : ∃ g off cur E fp', p = .pointer (some ⟨g, off, none⟩) ∧ w.heap[g]? = some (.cells cur E (0, 0)) ∧ off + vs.length ≤ cur.size ∧ mine g ∧
    Sim ok0 mine ua (fun k => uo k ∨ k = st) (e.app u) tmps (w.setRow g (cur.toList.take off ++ vs ++ cur.toList.drop (off + vs.length)).toArray) fp' ∧ (∀ x, tmps.size ≤ x → x ≠ q → fp' x = fp x) ∧ fp' q = []

/-- Aliases of a box whose stamp of contents is new. -/
theorem AliasOK.rebox {L L' : Nat → AV} {w' : World} {v : Value} {av : AV} {t b ver ver' : Nat} {ds ds' : List D} (h : AliasOK L w tmps v av) (ht : L t = .box b ver ds) (ht' : L' t = .box b ver' ds')
    (hnew : ∀ id, askStamp av = some id → id ≠ ver') (ha : aliasOf av = some t) : AliasOK L' w' tmps v av := by
  cases av with
  | ref t2 j2 i2 =>
    simp only [aliasOf, Option.some.injEq] at ha; subst ha
    cases j2 with
    | none => intro e2 rows2 hL; rw [ht'] at hL; cases hL
    | some j2 => intro b2 ds2 hL; rw [ht'] at hL; injection hL with h5 h6; subst h6; exact absurd rfl (hnew _ rfl)
  | copy t2 i2 =>
    simp only [aliasOf, Option.some.injEq] at ha; subst ha
    intro b2 ds2 hL; rw [ht'] at hL; injection hL with h5 h6; subst h6; exact absurd rfl (hnew _ rfl)
  | part t2 i2 o2 n2 =>
    simp only [aliasOf, Option.some.injEq] at ha; subst ha
    intro b2 ds2 hL; rw [ht'] at hL; injection hL with h5 h6; subst h6; exact absurd rfl (hnew _ rfl)
  | bp t2 i2 o2 =>
    simp only [aliasOf, Option.some.injEq] at ha; subst ha
    intro v2 ds2 hL; rw [ht'] at hL; injection hL with h5 h6; subst h5
    exact h _ _ ht
  | into t2 j2 i2 e2 i3 o2 =>
    simp only [aliasOf, Option.some.injEq] at ha; subst ha
    cases j2 with
    | none => intro e2 rows2 hL; rw [ht'] at hL; cases hL
    | some j2 => intro b2 ds2 hL; rw [ht'] at hL; injection hL with h5 h6; subst h6; exact absurd rfl (hnew _ rfl)
  | cell t2 i2 i3 o2 =>
    simp only [aliasOf, Option.some.injEq] at ha; subst ha
    intro e2 rows2 row2 w2 inner2 hL; rw [ht'] at hL; cases hL
  | mref t2 i2 =>
    simp only [aliasOf, Option.some.injEq] at ha; subst ha
    intro _ hL; rw [ht'] at hL; cases hL
  | _ => simp [aliasOf] at ha

/-- Cells of a box are written. -/
theorem Sim.boxWrite (h : Sim ok0 mine ua uo e tmps w fp) (hst : ¬ ua st) (hq : tmps.size ≤ q) {t b ver : Nat} {old : List D} (ht : e.get t = .box b ver old) {vs : List Value} {ds : List D}
    (hr : RdL (okOf ok0 fp) w vs ds (fp q)) {off : Nat} (hle : off + ds.length ≤ old.length) {g : Nat} (htv : tmps[t]? = some (.pointer (some ⟨g, 0, none⟩))) :
    Stored ok0 mine ua uo e tmps w fp st q (.pointer (some ⟨g, off, none⟩)) vs [(t, .box b st (old.take off ++ ds ++ old.drop (off + ds.length)))] := by
  obtain ⟨g2, cur, E, B, htv2, _, hfp, hg, hrd, hgB, hub, huv⟩ := h.boxAt ht
  obtain rfl : g = g2 := by rw [htv] at htv2; injection htv2 with h1; injection h1 with h1; injection h1 with h1; injection h1
  have htl : t < tmps.size := (Array.getElem?_eq_some_iff.1 htv).1
  have htq : t ≠ q := by omega
  have hdis : ∀ x ∈ fp t, x ∉ fp q := fun x hx => h.disj t q x htq hx
  have hl1 := hrd.length
  have hl2 := hr.length
  obtain ⟨B', hp1, hp2⟩ := hrd.patch hr hle (fun x hx => hdis x (by rw [hfp]; exact List.mem_cons_of_mem _ hx))
  have hgmine : mine g := (h.lt t g (by rw [hfp]; exact List.mem_cons_self ..)).2
  have hgq : g ∉ fp q := hdis g (by rw [hfp]; exact List.mem_cons_self ..)
  have hgB' : g ∉ B' := fun hh => (hp2 g hh).elim hgB hgq
  let fp' : Nat → List Nat := fun x => if x = q then [] else if x = t then g :: B' else fp x
  have e1 : fp' t = g :: B' := by simp [fp', htq]
  have e2 : fp' q = [] := by simp [fp']
  have hgok : ¬ okOf ok0 fp g := fun hh => hh.2 t (by rw [hfp]; exact List.mem_cons_self ..)
  have hmem : ∀ x, x ∈ fp' t ∨ x ∈ fp' q → x ∈ fp t ∨ x ∈ fp q := by
    intro x hx
    rw [e1, e2] at hx
    rcases hx with hx | hx
    · rcases List.mem_cons.1 hx with rfl | hx
      · exact .inl (by rw [hfp]; exact List.mem_cons_self ..)
      · exact (hp2 x hx).imp (fun hh => by rw [hfp]; exact List.mem_cons_of_mem _ hh) id
    · cases hx
  have hok' : ∀ k, okOf ok0 fp k → okOf ok0 fp' k := by
    intro k ho
    refine ⟨ho.1, fun x hx => ?_⟩
    by_cases hxt : x = t
    · subst hxt; exact (hmem k (.inl hx)).elim (ho.2 x) (ho.2 q)
    · by_cases hxq : x = q
      · subst hxq; rw [e2] at hx; cases hx
      · simp only [fp', hxq, hxt, if_false] at hx; exact ho.2 x hx
  refine ⟨g, off, cur, E, fp', rfl, hg, by simp at hl1; omega, hgmine, ?_, fun x hx hxq => ?_, e2⟩
  · refine (h.turn (uo' := fun k => uo k ∨ k = st) (fun k hk => .inl hk) (t := t) (q := q) htv hq (av := .box b st (old.take off ++ ds ++ old.drop (off + ds.length))) (fp' := fp') (fun x hx1 hx2 => by simp [fp', hx1, hx2]) hmem (fun x hx hx' => by rw [e2] at hx'; cases hx')
      (fun k hk hh => setRow_step fun hkg => ?_) (by rw [setRow_size]; exact Nat.le_refl _) ?_ rfl ⟨.inl hub, .inr rfl⟩ ?_ trivial).1
    · subst hkg
      rcases hh with hh | ⟨s, hs, hh⟩
      · exact hgok hh
      · exact h.disj s t k hs hh (by rw [hfp]; exact List.mem_cons_self ..)
    · rw [e1]
      refine .box g b st _ E _ B' (setRow_heap w g cur _ E (0, 0) hg) ?_ hgB'
      simp only [List.toList_toArray]
      refine hp1.step (fun k _ => hok' k) fun k hk hh => setRow_step fun hkg => ?_
      subst hkg
      exact hh.elim hgok hgB'
    · intro s v hs hv ha
      refine (h.al s v hv).rebox ht (ver' := st) (by rw [Env.get_upd, if_pos ⟨rfl, by rw [h.size]; exact htl⟩]) (fun id hid hh => ?_) ha
      subst hh
      exact hst (h.ask s _ hid)
  · have : x ≠ t := by omega
    simp [fp', hxq, this]

theorem Rd.rowsLen {ok : Nat → Prop} {w : World} {v : Value} {o : Bool} {e : Nat} {rows : List (List D)} {B : List Nat} (h : Rd ok w v (.list o e rows) B) : ∀ r ∈ rows, r.length = e := by
  cases h with
  | empty => simp
  | view b off n cap _ _ vs he hn hc hm hcell hr => exact he
  | own g n cap _ cur E _ B he hn hp hc hm hg hs hr hB => exact he
theorem plainL_get : ∀ {ds : List D}, plainL ds = true → ∀ (j e : Nat) (rows : List (List D)), ds[j]? ≠ some (.list true e rows)
  | [], _, j, e, rows => by simp
  | d :: ds, h, j, e, rows => by
    have h2 : plainL ds = true ∧ ∀ e rows, d ≠ .list true e rows := by
      cases d with
      | list o e1 r1 => cases o with
        | false => exact ⟨by simpa [plainL] using h, fun _ _ hh => by cases hh⟩
        | true => simp [plainL] at h
      | _ => exact ⟨by simpa [plainL] using h, fun _ _ hh => by cases hh⟩
    cases j with
    | zero => simp; exact h2.2 e rows
    | succ j => simpa using plainL_get h2.1 j e rows
theorem seg_other {α : Type} {l us : List α} {a x : Nat} (h : a + us.length ≤ l.length) (hx : x < a ∨ a + us.length ≤ x) : (l.take a ++ us ++ l.drop (a + us.length))[x]? = l[x]? := by
  rw [List.append_assoc]
  rcases hx with hx | hx
  · rw [List.getElem?_append_left (by rw [List.length_take]; omega), List.getElem?_take, if_pos hx]
  · rw [List.getElem?_append_right (by rw [List.length_take]; omega), List.getElem?_append_right (by rw [List.length_take]; omega), List.getElem?_drop, List.length_take]
    congr 1; omega
theorem seg_in {α : Type} {l us : List α} {a x : Nat} (h : a + us.length ≤ l.length) (h1 : a ≤ x) (h2 : x < a + us.length) : (l.take a ++ us ++ l.drop (a + us.length))[x]? = us[x - a]? := by
  rw [List.append_assoc, List.getElem?_append_right (by rw [List.length_take]; omega), List.getElem?_append_left (by rw [List.length_take]; omega), List.length_take]
  congr 1; omega
/-- Cells of an element of a slot's own slice are written. -/
theorem Sim.ownWrite (h : Sim ok0 mine ua uo e tmps w fp) (hstn : ¬ ua st) (hq : tmps.size ≤ q) {t id e' : Nat} {rows : List (List D)} (ht : e.get t = .own id e' rows) {vs : List Value} {ds row : List D}
    (hr : RdL (okOf ok0 fp) w vs ds (fp q)) {i o : Nat} (hi : rows[i]? = some row) (hle : o + ds.length ≤ row.length) {g n c : Nat} (htv : tmps[t]? = some (.slice (some ⟨g, 0, none⟩) n c)) :
    Stored ok0 mine ua uo e tmps w fp st q (.pointer (some ⟨g, i * e' + o, none⟩)) vs [(t, .own (if plainL ds = true then id else st) e' (rows.set i (row.take o ++ ds ++ row.drop (o + ds.length))))] := by
  generalize hid : (if plainL ds = true then id else st) = id'
  have htl : t < tmps.size := (Array.getElem?_eq_some_iff.1 htv).1
  have htq : t ≠ q := by omega
  have hrel := h.rel t _ htv
  rw [ht] at hrel
  have hst := h.stamps t
  rw [ht] at hst
  have hdis : ∀ x ∈ fp t, x ∉ fp q := fun x hx => h.disj t q x htq hx
  obtain ⟨g2, n2, cap, cur, E, B', hv2, hgB, hg, hbound, hrd, hp2⟩ := hrel.own_inv.rowWrite hi hle hr hdis (fun x hx ho => ho.2 t hx)
  obtain rfl : g = g2 := by injection hv2 with h1; injection h1 with h1; injection h1
  have hgmine : mine g := (h.lt t g hgB).2
  let fp' : Nat → List Nat := fun x => if x = q then [] else if x = t then B' else fp x
  have e1 : fp' t = B' := by simp [fp', htq]
  have e2 : fp' q = [] := by simp [fp']
  have hmem : ∀ x, x ∈ fp' t ∨ x ∈ fp' q → x ∈ fp t ∨ x ∈ fp q := by
    intro x hx
    rw [e1, e2] at hx
    rcases hx with hx | hx
    · exact hp2 x hx
    · cases hx
  have hok' : ∀ k, okOf ok0 fp k → okOf ok0 fp' k := by
    intro k ho
    refine ⟨ho.1, fun x hx => ?_⟩
    by_cases hxt : x = t
    · subst hxt; exact (hmem k (.inl hx)).elim (ho.2 x) (ho.2 q)
    · by_cases hxq : x = q
      · subst hxq; rw [e2] at hx; cases hx
      · simp only [fp', hxq, hxt, if_false] at hx; exact ho.2 x hx
  refine ⟨g, _, cur, E, fp', rfl, hg, hbound, hgmine, ?_, fun x hx hxq => ?_, e2⟩
  · refine (h.turn (uo' := fun k => uo k ∨ k = st) (fun k hk => .inl hk) (t := t) (q := q) htv hq (av := .own id' e' (rows.set i (row.take o ++ ds ++ row.drop (o + ds.length)))) (fp' := fp') (fun x hx1 hx2 => by simp [fp', hx1, hx2]) hmem (fun x hx hx' => by rw [e2] at hx'; cases hx')
      (fun k hk hh => setRow_step fun hkg => ?_) (by rw [setRow_size]; exact Nat.le_refl _) ?_ rfl (show uo id' ∨ id' = st by rw [← hid]; split; exact .inl hst; exact .inr rfl) ?_ trivial).1
    · subst hkg
      rcases hh with hh | ⟨s, hs, hh⟩
      · exact hh.2 t hgB
      · exact h.disj s t k hs hh hgB
    · rw [e1]
      exact .own _ _ _ _ _ (hrd.step (fun k _ => hok' k) fun _ _ _ => rfl)
    · intro s v hs hv ha
      have hax := h.al s v hv
      have hgt : ∀ y, (e.upd t (.own id' e' (rows.set i (row.take o ++ ds ++ row.drop (o + ds.length))))).get t = y → y = .own id' e' (rows.set i (row.take o ++ ds ++ row.drop (o + ds.length))) := by
        intro y hy; rw [Env.get_upd, if_pos ⟨rfl, by rw [h.size]; exact htl⟩] at hy; exact hy.symm
      have hkey : ∀ i2, askStamp (e.get s) = some i2 → id' = i2 → id = i2 ∧ plainL ds = true := by
        intro i2 h1 h2
        cases hp : plainL ds with
        | true => rw [hp] at hid; simp only [if_true] at hid; exact ⟨hid.trans h2, rfl⟩
        | false =>
          rw [hp] at hid
          simp at hid
          exact absurd (h.ask s i2 h1) (by rw [← h2, ← hid]; exact hstn)
      cases hav : e.get s with
      | ref t2 j2 i2 =>
        rw [hav] at ha hax; simp only [aliasOf, Option.some.injEq] at ha; subst ha
        cases j2 with
        | none => intro e2 rows2 hL; have h4 := hgt _ hL; injection h4 with h5 h6; obtain ⟨rfl, _⟩ := hkey _ (by rw [hav]; rfl) h5.symm; exact hax _ _ ht
        | some j2 => intro b2 ds2 hL; have := hgt _ hL; cases this
      | copy t2 i2 =>
        rw [hav] at ha hax; simp only [aliasOf, Option.some.injEq] at ha; subst ha
        intro b2 ds2 hL; have := hgt _ hL; cases this
      | part t2 i2 o2 n2 =>
        rw [hav] at ha hax; simp only [aliasOf, Option.some.injEq] at ha; subst ha
        intro b2 ds2 hL; have := hgt _ hL; cases this
      | bp t2 i2 o2 =>
        rw [hav] at ha hax; simp only [aliasOf, Option.some.injEq] at ha; subst ha
        intro b2 ds2 hL; have := hgt _ hL; cases this
      | into t2 j2 i2 e2 i3 o2 =>
        rw [hav] at ha hax; simp only [aliasOf, Option.some.injEq] at ha; subst ha
        cases j2 with
        | none => intro e3 rows2 hL; have h4 := hgt _ hL; injection h4 with h5 h6 h7; subst h6; obtain ⟨rfl, _⟩ := hkey _ (by rw [hav]; rfl) h5.symm; exact hax _ _ ht
        | some j2 => intro b2 ds2 hL; have := hgt _ hL; cases this
      | cell t2 i2 i3 o2 =>
        rw [hav] at ha hax; simp only [aliasOf, Option.some.injEq] at ha; subst ha
        intro e3 rows3 row3 w3 inner3 hL hri hro
        have h4 := hgt _ hL
        injection h4 with h5 h6 h7
        subst h6; subst h7
        obtain ⟨rfl, hpl⟩ := hkey _ (by rw [hav]; rfl) h5.symm
        have hlen := hrel.own_inv.rowsLen
        have hrowl := hlen row (List.mem_of_getElem? hi)
        have hvl := hr.length
        have hlist : cur.toList.length = cur.size := by simp
        -- the old place of the cell
        have hold : ∃ row4, rows[i3]? = some row4 ∧ row4[o2]? = some (.list true w3 inner3) ∧ (i3 = i → o2 < o ∨ o + ds.length ≤ o2) := by
          rw [List.getElem?_set] at hri
          by_cases hii : i = i3
          · subst hii
            rw [if_pos rfl, if_pos (List.getElem?_eq_some_iff.1 hi).1] at hri
            obtain rfl := Option.some.inj hri
            by_cases hin : o ≤ o2 ∧ o2 < o + ds.length
            · rw [seg_in (by omega) hin.1 hin.2] at hro
              exact absurd hro (plainL_get hpl _ _ _)
            · refine ⟨row, hi, ?_, fun _ => by omega⟩
              rw [seg_other (by omega) (by omega)] at hro
              exact hro
          · rw [if_neg hii] at hri
            exact ⟨row3, hri, hro, fun hh => absurd hh.symm hii⟩
        obtain ⟨row4, q1, q2, q3⟩ := hold
        obtain ⟨g3, n3, c3, p1, p2⟩ := hax _ _ row4 w3 inner3 ht q1 q2
        obtain rfl : g = g3 := by rw [htv] at p1; injection p1 with h1; injection h1 with h1; injection h1 with h1; injection h1
        refine ⟨g, n3, c3, p1, ?_⟩
        rw [cell_of_row w g _ cur E (0, 0) hg] at p2
        rw [cell_of_row _ g _ _ E (0, 0) (setRow_heap w g cur _ E (0, 0) hg)]
        have hr4 := hlen row4 (List.mem_of_getElem? q1)
        have ho2 : o2 < row4.length := (List.getElem?_eq_some_iff.1 q2).1
        have hout : i3 * e3 + o2 < i * e3 + o ∨ i * e3 + o + vs.length ≤ i3 * e3 + o2 := by
          rcases Nat.lt_trichotomy i3 i with hlt | heq | hgt'
          · left
            have : (i3 + 1) * e3 ≤ i * e3 := Nat.mul_le_mul_right _ hlt
            rw [Nat.add_mul] at this; omega
          · subst heq
            rcases q3 rfl with hh | hh <;> omega
          · right
            have : (i + 1) * e3 ≤ i3 * e3 := Nat.mul_le_mul_right _ hgt'
            rw [Nat.add_mul] at this; omega
        have := seg_other (l := cur.toList) (us := vs) (a := i * e3 + o) (x := i3 * e3 + o2) (by omega) hout
        simpa using this.trans (by simpa using p2)
      | mref t2 i2 =>
        rw [hav] at ha; simp only [aliasOf, Option.some.injEq] at ha; subst ha
        intro _ hL; have := hgt _ hL; cases this
      | _ => rw [hav] at ha; simp [aliasOf] at ha
  · have : x ≠ t := by omega
    simp [fp', hxq, this]

/-- Cells of an element of an own slice that lies in a box's cell are written. -/
theorem Sim.cellWrite (h : Sim ok0 mine ua uo e tmps w fp) (hq : tmps.size ≤ q) {t b ver j e' : Nat} {old : List D} {rows : List (List D)} (ht : e.get t = .box b ver old) (hj : old[j]? = some (.list true e' rows)) {vs : List Value} {ds row : List D}
    (hr : RdL (okOf ok0 fp) w vs ds (fp q)) {i o : Nat} (hi : rows[i]? = some row) (hle : o + ds.length ≤ row.length) {g0 g n c : Nat} (htv : tmps[t]? = some (.pointer (some ⟨g0, 0, none⟩)))
    (hcell : w.cell? ⟨g0, j, none⟩ = some (.slice (some ⟨g, 0, none⟩) n c)) :
    Stored ok0 mine ua uo e tmps w fp st q (.pointer (some ⟨g, i * e' + o, none⟩)) vs [(t, .box b ver (old.set j (.list true e' (rows.set i (row.take o ++ ds ++ row.drop (o + ds.length))))))] := by
  have htl : t < tmps.size := (Array.getElem?_eq_some_iff.1 htv).1
  have htq : t ≠ q := by omega
  obtain ⟨g2, curb, Eb, B, htv2, _, hfp, hgb, hrdb, hgB, hub, huv⟩ := h.boxAt ht
  obtain rfl : g0 = g2 := by rw [htv] at htv2; injection htv2 with h1; injection h1 with h1; injection h1 with h1; injection h1
  obtain ⟨v, B1, B2, B3, rfl, hvj, hrv, hr1, hr3, hd1, hd2⟩ := hrdb.at hj
  have hv : v = .slice (some ⟨g, 0, none⟩) n c := by
    rw [cell_of_row w g0 j curb Eb (0, 0) hgb] at hcell
    have : curb.toList[j]? = some (.slice (some ⟨g, 0, none⟩) n c) := by simpa using hcell
    rw [this] at hvj
    exact (Option.some.inj hvj).symm
  subst hv
  have hdis : ∀ x ∈ fp t, x ∉ fp q := fun x hx => h.disj t q x htq hx
  have hin2 : ∀ x ∈ B2, x ∈ fp t := fun x hx => by rw [hfp]; simp [hx]
  obtain ⟨g2, n2, cap, cur, E, B', hv2, hgB2, hg, hbound, hrd, hp2⟩ := hrv.rowWrite hi hle hr (fun x hx => hdis x (hin2 x hx)) (fun x hx ho => ho.2 t (hin2 x hx))
  obtain rfl : g = g2 := by injection hv2 with h1; injection h1 with h1; injection h1
  have hgt : g ∈ fp t := hin2 g hgB2
  have hgmine : mine g := (h.lt t g hgt).2
  have hgne : g ≠ g0 := fun hh => hgB (by rw [← hh]; simp [hgB2])
  let fp' : Nat → List Nat := fun x => if x = q then [] else if x = t then g0 :: (B1 ++ (B' ++ B3)) else fp x
  have e1 : fp' t = g0 :: (B1 ++ (B' ++ B3)) := by simp [fp', htq]
  have e2 : fp' q = [] := by simp [fp']
  have hmem : ∀ x, x ∈ fp' t ∨ x ∈ fp' q → x ∈ fp t ∨ x ∈ fp q := by
    intro x hx
    rw [e1, e2] at hx
    rcases hx with hx | hx
    · rw [hfp]
      simp only [List.mem_cons, List.mem_append] at hx ⊢
      rcases hx with rfl | hx | hx | hx
      · exact .inl (.inl rfl)
      · exact .inl (.inr (.inl hx))
      · exact (hp2 x hx).imp (fun hh => .inr (.inr (.inl hh))) id
      · exact .inl (.inr (.inr (.inr hx)))
    · cases hx
  have hok' : ∀ k, okOf ok0 fp k → okOf ok0 fp' k := by
    intro k ho
    refine ⟨ho.1, fun x hx => ?_⟩
    by_cases hxt : x = t
    · subst hxt; exact (hmem k (.inl hx)).elim (ho.2 x) (ho.2 q)
    · by_cases hxq : x = q
      · subst hxq; rw [e2] at hx; cases hx
      · simp only [fp', hxq, hxt, if_false] at hx; exact ho.2 x hx
  have hgok : ¬ okOf ok0 fp g := fun hh => hh.2 t hgt
  have hjl : j < old.length := (List.getElem?_eq_some_iff.1 hj).1
  have hB1t : ∀ x ∈ B1, x ∈ fp t := fun x hx => by rw [hfp]; simp [hx]
  have hB3t : ∀ x ∈ B3, x ∈ fp t := fun x hx => by rw [hfp]; simp [hx]
  have hkeep : ∀ {vs2 : List Value} {ds2 : List D} {C : List Nat}, RdL (okOf ok0 fp) w vs2 ds2 C → g ∉ C → RdL (okOf ok0 fp') (w.setRow g (cur.toList.take (i * e' + o) ++ vs ++ cur.toList.drop (i * e' + o + vs.length)).toArray) vs2 ds2 C := by
    intro vs2 ds2 C hC hgC
    refine hC.step (fun k _ => hok' k) fun k hk hh => setRow_step fun hkg => ?_
    subst hkg
    exact hh.elim hgok hgC
  have hnew := RdL.set (vs := curb.toList) (v := .slice (some ⟨g, 0, none⟩) n c) hjl (List.getElem?_eq_some_iff.1 hvj).1 (hkeep hr1 (fun hh => hd1 g hh (by simp [hgB2])))
    (hrd.step (fun k _ => hok' k) fun _ _ _ => rfl) (hkeep hr3 (hd2 g hgB2))
    (fun x hx hx' => by
      rcases List.mem_append.1 hx' with hx' | hx'
      · rcases hp2 x hx' with hh | hh
        · exact hd1 x hx (by simp [hh])
        · exact hdis x (hB1t x hx) hh
      · exact hd1 x hx (by simp [hx']))
    (fun x hx hx' => by
      rcases hp2 x hx with hh | hh
      · exact hd2 x hh hx'
      · exact hdis x (hB3t x hx') hh)
  rw [set_same hvj] at hnew
  refine ⟨g, _, cur, E, fp', rfl, hg, hbound, hgmine, ?_, fun x hx hxq => ?_, e2⟩
  · refine (h.turn (uo' := fun k => uo k ∨ k = st) (fun k hk => .inl hk) (t := t) (q := q) htv hq (av := .box b ver (old.set j (.list true e' (rows.set i (row.take o ++ ds ++ row.drop (o + ds.length)))))) (fp' := fp')
      (fun x hx1 hx2 => by simp [fp', hx1, hx2]) hmem (fun x hx hx' => by rw [e2] at hx'; cases hx')
      (fun k hk hh => setRow_step fun hkg => ?_) (by rw [setRow_size]; exact Nat.le_refl _) ?_ rfl ⟨.inl hub, .inl huv⟩ ?_ trivial).1
    · subst hkg
      rcases hh with hh | ⟨s, hs, hh⟩
      · exact hgok hh
      · exact h.disj s t k hs hh hgt
    · rw [e1]
      refine .box g0 b ver curb Eb _ _ ((setRow_step hgne.symm).trans hgb) hnew fun hh => ?_
      simp only [List.mem_append] at hh hgB
      rcases hh with hh | hh | hh
      · exact hgB (.inl hh)
      · rcases hp2 g0 hh with hh | hh
        · exact hgB (.inr (.inl hh))
        · exact hdis g0 (by rw [hfp]; exact List.mem_cons_self ..) hh
      · exact hgB (.inr (.inr hh))
    · intro s v hs hv ha
      have hax := h.al s v hv
      have hgt' : ∀ y, (e.upd t (.box b ver (old.set j (.list true e' (rows.set i (row.take o ++ ds ++ row.drop (o + ds.length))))))).get t = y → y = .box b ver (old.set j (.list true e' (rows.set i (row.take o ++ ds ++ row.drop (o + ds.length))))) := by
        intro y hy; rw [Env.get_upd, if_pos ⟨rfl, by rw [h.size]; exact htl⟩] at hy; exact hy.symm
      have hcells : ∀ j2, (w.setRow g (cur.toList.take (i * e' + o) ++ vs ++ cur.toList.drop (i * e' + o + vs.length)).toArray).cell? ⟨g0, j2, none⟩ = w.cell? ⟨g0, j2, none⟩ :=
        fun j2 => World.cell?_of_block (setRow_step hgne.symm)
      cases hav : e.get s with
      | ref t2 j2 i2 =>
        rw [hav] at ha hax; simp only [aliasOf, Option.some.injEq] at ha; subst ha
        cases j2 with
        | none => intro e2 rows2 hL; have := hgt' _ hL; cases this
        | some j2 =>
          intro b2 ds2 hL; have h4 := hgt' _ hL; injection h4 with h5 h6; subst h6
          obtain ⟨g3, p1, p2⟩ := hax _ _ ht
          obtain rfl : g0 = g3 := by rw [htv] at p1; injection p1 with h1; injection h1 with h1; injection h1 with h1; injection h1
          exact ⟨g0, p1, (hcells j2).trans p2⟩
      | copy t2 i2 =>
        rw [hav] at ha hax; simp only [aliasOf, Option.some.injEq] at ha; subst ha
        intro b2 ds2 hL; have h4 := hgt' _ hL; injection h4 with h5 h6; subst h6
        obtain ⟨g3, c3, E3, p1, p2, p3⟩ := hax _ _ ht
        obtain rfl : g0 = g3 := by rw [htv] at p1; injection p1 with h1; injection h1 with h1; injection h1 with h1; injection h1
        exact ⟨g0, c3, E3, p1, (setRow_step hgne.symm).trans p2, p3⟩
      | part t2 i2 o2 n2 =>
        rw [hav] at ha hax; simp only [aliasOf, Option.some.injEq] at ha; subst ha
        intro b2 ds2 hL; have h4 := hgt' _ hL; injection h4 with h5 h6; subst h6
        obtain ⟨g3, c3, E3, p1, p2, p3⟩ := hax _ _ ht
        obtain rfl : g0 = g3 := by rw [htv] at p1; injection p1 with h1; injection h1 with h1; injection h1 with h1; injection h1
        exact ⟨g0, c3, E3, p1, (setRow_step hgne.symm).trans p2, p3⟩
      | bp t2 i2 o2 =>
        rw [hav] at ha hax; simp only [aliasOf, Option.some.injEq] at ha; subst ha
        intro b2 ds2 hL; have h4 := hgt' _ hL; injection h4 with h5 h6; subst h5; exact hax _ _ ht
      | into t2 j2 i2 e2 i3 o2 =>
        rw [hav] at ha hax; simp only [aliasOf, Option.some.injEq] at ha; subst ha
        cases j2 with
        | none => intro e3 rows2 hL; have := hgt' _ hL; cases this
        | some j2 =>
          intro b2 ds2 hL; have h4 := hgt' _ hL; injection h4 with h5 h6 h7; subst h6; subst h7
          obtain ⟨g3, g4, n4, c4, p1, p2, p3, rows4, p4⟩ := hax _ _ ht
          obtain rfl : g0 = g3 := by rw [htv] at p1; injection p1 with h1; injection h1 with h1; injection h1 with h1; injection h1
          refine ⟨g0, g4, n4, c4, p1, (hcells j2).trans p2, p3, ?_⟩
          rw [List.getElem?_set]
          by_cases hjj : j = j2
          · subst hjj
            rw [hj] at p4
            injection p4 with p4; injection p4 with _ p4 _
            rw [if_pos rfl, if_pos hjl, p4]
            exact ⟨_, rfl⟩
          · rw [if_neg hjj]; exact ⟨rows4, p4⟩
      | cell t2 i2 i3 o2 =>
        rw [hav] at ha; simp only [aliasOf, Option.some.injEq] at ha; subst ha
        intro e2 rows2 row2 w2 inner2 hL; have := hgt' _ hL; cases this
      | mref t2 i2 =>
        rw [hav] at ha; simp only [aliasOf, Option.some.injEq] at ha; subst ha
        intro _ hL; have := hgt' _ hL; cases this
      | _ => rw [hav] at ha; simp [aliasOf] at ha
  · have : x ≠ t := by omega
    simp [fp', hxq, this]

theorem writeS_sound (h : Sim ok0 mine ua uo e tmps w fp) (hst : ¬ ua st) (hq : tmps.size ≤ q) {s : Nat} {r : Option Nat} {vs : List Value} {ds : List D} (hr : RdL (okOf ok0 fp) w vs ds (fp q)) {us : Upd} {k : Upd → Option R}
    (hk : writeS e st s r ds us k = some res) : ∃ u, k (us ++ u) = some res ∧ Stored ok0 mine ua uo e tmps w fp st q (tmps.getD s undef) vs u := by
  unfold writeS at hk
  split at hk
  · rename_i b ver old hs
    split at hk
    · rename_i hl
      obtain ⟨g, cur, E, B, hv, hv', _⟩ := h.boxAt hs
      have := h.boxWrite hst hq hs hr (off := 0) (by omega) hv
      rw [hv']
      refine ⟨_, hk, ?_⟩
      rw [List.take_zero, Nat.zero_add, List.drop_eq_nil_of_le (by omega)] at this
      simpa using this
    · cases hk
  · rename_i t id off hs
    split at hk
    · split at hk
      · rename_i b ver old ht
        split at hk
        · rename_i hb
          subst hb
          split at hk
          · rename_i hle
            obtain ⟨v, hv, hv'⟩ := h.slot (s := s) (by rw [hs]; simp)
            have ha := h.al s v hv
            rw [hs] at ha
            obtain ⟨g0, hg0, rfl⟩ := ha _ _ ht
            rw [hv']
            exact ⟨_, hk, h.boxWrite hst hq ht hr hle hg0⟩
          · cases hk
        · cases hk
      · cases hk
    · cases hk
  · rename_i t j id w' i o hs
    split at hk
    · obtain ⟨v, hv, hv'⟩ := h.slot (s := s) (by rw [hs]; simp)
      have ha := h.al s v hv
      rw [hs] at ha
      rw [hv']
      cases j with
      | none =>
        dsimp only at hk
        split at hk
        · rename_i id' e' rows ht
          split at hk
          · rename_i hb
            subst hb
            unfold rowWriteK at hk
            split at hk
            · rename_i row hrow
              split at hk
              · rename_i hle
                obtain ⟨rfl, g3, n3, c3, hg3, rfl⟩ := ha _ _ ht
                exact ⟨_, hk, h.ownWrite hst hq ht hr hrow hle hg3⟩
              · cases hk
            · cases hk
          · cases hk
        · cases hk
      | some j =>
        dsimp only at hk
        split at hk
        · rename_i b ver old ht
          split at hk
          · rename_i hb
            subst hb
            split at hk
            · rename_i e' rows hj
              unfold rowWriteK at hk
              split at hk
              · rename_i row hrow
                split at hk
                · rename_i hle
                  obtain ⟨g3, g4, n4, c4, p1, p2, rfl, rows4, p4⟩ := ha _ _ ht
                  rw [hj] at p4
                  injection p4 with p4; injection p4 with _ p4 _
                  subst p4
                  exact ⟨_, hk, h.cellWrite hq ht hj hr hrow hle p1 p2⟩
                · cases hk
              · cases hk
            · cases hk
          · cases hk
        · cases hk
    · cases hk
  · cases hk
theorem writeAt_sound (h : Sim ok0 mine ua uo e tmps w fp) (hst : ¬ ua st) (hq : tmps.size ≤ q) {o : Operand} {x : X} (hx : okX o x = true) {vs : List Value} {ds : List D} (hr : RdL (okOf ok0 fp) w vs ds (fp q)) {us : Upd} {k : Upd → Option R}
    (hk : writeAt e st x ds us k = some res) : ∃ u, k (us ++ u) = some res ∧ Stored ok0 mine ua uo e tmps w fp st q (evalT tmps o) vs u := by
  cases x with
  | t s => cases o <;> simp [okX] at hx; subst hx; exact writeS_sound h hst hq hr hk
  | a s r => cases o <;> simp [okX] at hx; subst hx; exact writeS_sound h hst hq hr hk
  | _ => simp [writeAt] at hk
end
end Go.Abs
set_option linter.unusedVariables false
set_option linter.unusedSimpArgs false
namespace Go.Abs
open Go

/-- Nothing has turned but what is mine. -/
structure Fr (mine : Nat → Prop) (w w' : World) : Prop where
  os : w'.os = w.os
  tape : w'.tape = w.tape
  output : w'.output = w.output
  size : w.heap.size ≤ w'.heap.size
  block : ∀ k, k < w.heap.size → ¬ mine k → w'.heap[k]? = w.heap[k]?
theorem Fr.refl (mine : Nat → Prop) (w : World) : Fr mine w w := ⟨rfl, rfl, rfl, Nat.le_refl _, fun _ _ _ => rfl⟩
theorem Fr.trans {mine : Nat → Prop} {a b c : World} (h : Fr mine a b) (k : Fr mine b c) : Fr mine a c :=
  ⟨k.os.trans h.os, k.tape.trans h.tape, k.output.trans h.output, Nat.le_trans h.size k.size, fun i hi hm => (k.block i (Nat.lt_of_lt_of_le hi h.size) hm).trans (h.block i hi hm)⟩
theorem Fr.alloc (mine : Nat → Prop) (w : World) (o : Obj) : Fr mine w (w.alloc o) := ⟨rfl, rfl, rfl, by simp, fun k hk _ => heap_alloc_old w o k hk⟩
theorem Fr.setRow {mine : Nat → Prop} (w : World) {g : Nat} (hg : mine g) (cs : Array Value) : Fr mine w (w.setRow g cs) :=
  ⟨rfl, rfl, rfl, by rw [setRow_size]; exact Nat.le_refl _, fun k hk hm => setRow_other w g k cs fun hh => hm (hh ▸ hg)⟩
theorem Fr.drew (mine : Nat → Prop) (w : World) : Fr mine w w.drew := ⟨rfl, rfl, rfl, Nat.le_refl _, fun _ _ _ => rfl⟩

/-- The state of a frame between two operations. -/
structure St (ok0 mine u : Nat → Prop) (e : Env) (tmps : Array Value) (w : World) : Prop where
  sim : ∃ fp, Sim ok0 mine u u e tmps w fp ∧ ∀ s, tmps.size ≤ s → fp s = []
  big : ∀ k, w.heap.size ≤ k → mine k
  mok : ∀ k, mine k → ok0 k

section
variable {R : Type} {ok0 mine ua uo : Nat → Prop} {e : Env} {tmps : Array Value} {w w' : World} {fp : Nat → List Nat} {st q : Nat} {res : R} {glob : Nat → List D}

/-- What lies beyond the frame's slots is let go. -/
theorem Sim.clean (h : Sim ok0 mine ua uo e tmps w fp) : ∃ fp', Sim ok0 mine ua uo e tmps w fp' ∧ ∀ s, tmps.size ≤ s → fp' s = [] := by
  let fp' : Nat → List Nat := fun s => if s < tmps.size then fp s else []
  have e1 : ∀ s b, b ∈ fp' s → b ∈ fp s := by
    intro s b hb
    by_cases hs : s < tmps.size
    · simpa [fp', hs] using hb
    · simp [fp', hs] at hb
  have hok : ∀ k, okOf ok0 fp k → okOf ok0 fp' k := fun k ho => ⟨ho.1, fun s hs => ho.2 s (e1 s k hs)⟩
  refine ⟨fp', ⟨h.size, fun s v hs => ?_, h.al, fun s t b hne hb hb' => h.disj s t b hne (e1 s b hb) (e1 t b hb'), fun s b hb => h.lt s b (e1 s b hb), h.ask, h.stamps⟩, fun s hs => ?_⟩
  · have hss : s < tmps.size := (Array.getElem?_eq_some_iff.1 hs).1
    have : fp' s = fp s := by simp [fp', hss]
    rw [this]
    exact (h.rel s v hs).step (fun k _ => hok k) fun _ _ _ => rfl
  · have : ¬ s < tmps.size := by omega
    simp [fp', this]
theorem Sim.weak (h : Sim ok0 mine ua uo e tmps w fp) {ua' uo' : Nat → Prop} (h1 : ∀ k, ua k → ua' k) (h2 : ∀ k, uo k → uo' k) : Sim ok0 mine ua' uo' e tmps w fp :=
  ⟨h.size, h.rel, h.al, h.disj, h.lt, fun s id hid => h1 _ (h.ask s id hid), fun s => (h.stamps s).mono h2⟩

theorem NoOwn.val (x : V) : NoOwn (.val x) := ⟨fun _ _ _ h => (by cases h), fun _ _ _ h => (by cases h), fun _ _ h => (by cases h)⟩

/-- An alias, once its slot is written. -/
theorem AliasOK.put {d : Nat} {v : Value} {av : AV} (hsz : e.length = tmps.size) (h : AliasOK e.get w tmps v av) (hno : NoOwn av) : AliasOK (e.upd d av).get w (tmps.setIfInBounds d v) v av := by
  by_cases hd : aliasOf av = some d ∧ d < e.length
  · refine AliasOK.stale fun t ht => ?_
    rw [hd.1] at ht
    obtain rfl := Option.some.inj ht
    rw [Env.get_upd, if_pos ⟨rfl, hd.2⟩]
    exact ⟨fun id e' rows hh => absurd hh (hno.1 _ _ _), fun b ver ds hh => absurd hh (hno.2.1 _ _ _), fun _ _ hh => absurd hh (hno.2.2 _ _)⟩
  · refine h.keep (fun t ht => ?_) fun _ _ _ _ _ _ _ _ _ _ _ => rfl
    have htd : ¬ (t = d ∧ d < e.length) := fun hh => hd ⟨by rw [ht, hh.1], hh.2⟩
    refine ⟨by rw [Env.get_upd, if_neg htd], ?_, fun _ _ _ _ _ _ => rfl⟩
    by_cases h1 : t = d
    · subst h1
      have : ¬ t < tmps.size := fun hh => htd ⟨rfl, by rw [hsz]; exact hh⟩
      rw [Array.getElem?_eq_none (by simpa using this), Array.getElem?_eq_none (by omega)]
    · exact Array.getElem?_setIfInBounds_ne (fun hh => h1 hh.symm)

def putT (tmps : Array Value) (d : Option Nat) (v : Value) : Array Value :=
  match d with
  | some d => tmps.setIfInBounds d v
  | none => tmps
theorem putT_size (tmps : Array Value) (d : Option Nat) (v : Value) : (putT tmps d v).size = tmps.size := by cases d <;> simp [putT]
theorem putT_pin {tmps : Array Value} {d : Option Nat} {v : Value} {s : Nat} (h : d ≠ some s) : (putT tmps d v)[s]? = tmps[s]? := by
  cases d with
  | none => rfl
  | some d => simp only [putT]; exact Array.getElem?_setIfInBounds_ne fun hh => h (by rw [hh])
theorem putT_eq (a : Act) (d : Option Nat) (v : Value) : (a.put d v).tmps = putT a.tmps d v := by cases d <;> rfl
theorem put_defers (a : Act) (d : Option Nat) (v : Value) : (a.put d v).defers = a.defers := by cases d <;> rfl

/-- The end: the slot gets the value; q, what was taken on the way. -/
theorem Sim.fin (h : Sim ok0 mine ua uo e tmps w fp) (hst : ¬ ua st) (hq : tmps.size ≤ q) {ua' uo' : Nat → Prop} (hua : ∀ k, ua k → ua' k) (huo : ∀ k, uo k → uo' k) {us : Upd} {e0 : Env} (he : e = e0.app us)
    {dst : Option Nat} {v : Value} {av : AV} {B : List Nat}
    (hask : ∀ id, askStamp av = some id → ua' id) (hav : OwnIn uo' av) (hown : Stampless st av)
    (hw : ∀ k, k < w.heap.size → k ∉ fp q → w'.heap[k]? = w.heap[k]?) (hsz : w.heap.size ≤ w'.heap.size)
    (hB : ∀ k ∈ B, k ∈ fp q ∨ (w.heap.size ≤ k ∧ k < w'.heap.size ∧ mine k))
    (hrel : ∀ ok : Nat → Prop, (∀ k, k ∉ B → ok0 k → (okOf ok0 fp k ∨ k ∈ fp q ∨ w.heap.size ≤ k) → ok k) → AvR ok w' v av B)
    (hal : (aliasOf av = none) ∨ (w' = w ∧ NoOwn av ∧ AliasOK e.get w tmps v av)) :
    ∃ fp', Sim ok0 mine ua' uo' (e0.app (outU us dst av)) (putT tmps dst v) w' fp' := by
  rw [Env.app_out]
  cases dst with
  | none =>
    refine ⟨fun s => if s = q then [] else fp s, ?_⟩
    have e1 : ∀ s b, b ∈ (if s = q then [] else fp s) → s ≠ q ∧ b ∈ fp s := by
      intro s b hb
      split at hb
      · cases hb
      · rename_i hs; exact ⟨hs, hb⟩
    have hok : ∀ k, okOf ok0 fp k → okOf ok0 (fun s => if s = q then [] else fp s) k := fun k ho => ⟨ho.1, fun s hs => ho.2 s (e1 s k hs).2⟩
    have hblk : ∀ s, s ≠ q → ∀ k, k ∈ fp s → w'.heap[k]? = w.heap[k]? := fun s hs k hk => hw k (h.lt s k hk).1 fun hh => h.disj s q k hs hk hh
    subst he
    refine ⟨h.size, fun s u hs => ?_, fun s u hs => ?_, fun s t b hne hb hb' => h.disj s t b hne (e1 s b hb).2 (e1 t b hb').2, fun s b hb => ⟨Nat.lt_of_lt_of_le (h.lt s b (e1 s b hb).2).1 hsz, (h.lt s b (e1 s b hb).2).2⟩,
      fun s id hid => hua _ (h.ask s id hid), fun s => (h.stamps s).mono huo⟩
    · have hss : s < tmps.size := (Array.getElem?_eq_some_iff.1 hs).1
      have hsq : s ≠ q := by omega
      have : (if s = q then [] else fp s) = fp s := if_neg hsq
      rw [this]
      exact (h.rel s u hs).step (fun k _ => hok k) fun k hk hh => hh.elim (fun ho => hw k hk (ho.2 q)) (fun hh => hblk s hsq k hh)
    · refine (h.al s u hs).keep (fun t ht => ⟨rfl, rfl, fun b ver ds g hL hg => ?_⟩) fun t ht id e2 rows g n c hL hr hg => ?_
      · have hr := h.rel t _ hg
        rw [hL] at hr
        obtain ⟨g2, cur, E, B', hv2, hfp, hg2, _, _⟩ := hr.box_inv
        obtain rfl : g = g2 := by injection hv2 with h1; injection h1 with h1; injection h1
        have : t < tmps.size := (Array.getElem?_eq_some_iff.1 hg).1
        exact hblk t (by omega) g (by rw [hfp]; exact List.mem_cons_self ..)
      · have : t < tmps.size := (Array.getElem?_eq_some_iff.1 hg).1
        exact hblk t (by omega) g (h.ownBlock hL hr hg).1
  | some d =>
    subst he
    have hok : ∀ k, k < w.heap.size → okOf ok0 fp k → okOf ok0 (fpOut fp d q B) k := by
      intro k hk ho
      refine ⟨ho.1, fun s hs' => ?_⟩
      by_cases hs : s = d
      · subst hs; rw [fpOut_same] at hs'
        rcases hB k hs' with hh | hh
        · exact ho.2 q hh
        · omega
      · exact ho.2 s (fpOut_sub hs hs').2
    have hok2 : ∀ k, k ∉ B → ok0 k → (okOf ok0 fp k ∨ k ∈ fp q ∨ w.heap.size ≤ k) → okOf ok0 (fpOut fp d q B) k := by
      intro k hkB h0 hk
      refine ⟨h0, fun s hs' => ?_⟩
      by_cases hs : s = d
      · subst hs; rw [fpOut_same] at hs'; exact hkB hs'
      · obtain ⟨h1, h2⟩ := fpOut_sub hs hs'
        rcases hk with hk | hk | hk
        · exact hk.2 s h2
        · exact h.disj s q k h1 h2 hk
        · have := (h.lt s k h2).1; omega
    refine ⟨_, (h.put hua huo hst hq hask hav hown (fun k hk hh => hw k hk fun hkq => ?_) hsz (fun k hk => ?_) (hrel _ hok2) ?_).1⟩
    · rcases hh with ho | ⟨s, _, hs2, hs3⟩
      · exact ho.2 q hkq
      · exact h.disj s q k hs2 hs3 hkq
    · rcases hB k hk with hh | hh
      · exact ⟨Nat.lt_of_lt_of_le (h.lt q k hh).1 hsz, (h.lt q k hh).2, fun s hsd hsq hs => h.disj s q k hsq hs hh, fun _ ho => ho.2 q hh⟩
      · exact ⟨hh.2.1, hh.2.2, fun s _ _ hs => by have := (h.lt s k hs).1; omega, fun hlt => by omega⟩
    · rcases hal with hn | ⟨rfl, hno, ha⟩
      · exact AliasOK.stale fun t ht => by rw [hn] at ht; cases ht
      · exact ha.put h.size hno
end
end Go.Abs
set_option linter.unusedVariables false
set_option linter.unusedSimpArgs false
namespace Go.Abs
open Go

section
variable {P : Program} {w w' : World} {ρ : Operand → Value} {o : Oper}

theorem exec_val {s : Sem Value} {v : Value} (h : s.run P w = .ok v w') : ((do pure (.value (← s)) : Sem Next)).run P w = .ok (.value v) w' := by
  simp [h]
theorem exec_unit {s : Sem Unit} (h : s.run P w = .ok () w') : ((do s; pure .skip : Sem Next)).run P w = .ok .skip w' := by
  simp [h]

theorem run_move {x : Operand} (ho : o.op = .move x) : (execOp ρ o).run P w = .ok (.value (ρ x)) w := by unfold execOp; rw [ho]; simp
theorem run_assign {x : Operand} (ho : o.op = .assign x) : (execOp ρ o).run P w = .ok (.value (ρ x)) w := by unfold execOp; rw [ho]; simp
theorem run_pick {c x y : Operand} {b : Bool} (ho : o.op = .pick c x y) (hc : ρ c = .bool b) : (execOp ρ o).run P w = .ok (.value (if b then ρ x else ρ y)) w := by
  unfold execOp; rw [ho]; simp [hc, asBool]
theorem run_box {t : TypeId} {x : Operand} (ho : o.op = .box t x) : (execOp ρ o).run P w = .ok (.value (.pointer (some ⟨w.heap.size, 0, none⟩))) (w.alloc (.cells (ρ x).cells t)) := by
  unfold execOp; rw [ho]
  exact exec_val (by simp [Instr.box, newVar, newRow])
/-- A bound, told. -/
def Bound (ρ : Operand → Value) (x : Option Operand) (d : Nat) (n : Nat) : Prop := match x with
  | none => n = d
  | some y => ∃ k, ρ y = .int k (n : Int)
theorem run_sub {t el : TypeId} {i : TypeInfo} {x : Operand} {lo hi : Option Operand} {a : Option Addr} {len cap l h : Nat} (ho : o.op = .slice t x lo hi none) (hu : P.underlying t = some (.slice el)) (hi' : P.info? el = some i)
    (hx : ρ x = .slice a len cap) (hl : Bound ρ lo 0 l) (hh : Bound ρ hi len h) (h1 : l ≤ h) (h2 : h ≤ cap) :
    (execOp ρ o).run P w = .ok (.value (.slice (if cap = l then a else a.map (·.add (l * i.size))) (h - l) (cap - l))) w := by
  have hb : (Instr.sliceBounds true len cap (lo.map ρ) (hi.map ρ) none).run P w = .ok (l, h, cap) w := by
    cases lo with
    | none =>
      obtain rfl : l = 0 := hl
      cases hi with
      | none => obtain rfl : h = len := hh; simp [Instr.sliceBounds]
      | some y =>
        obtain ⟨k, hk⟩ := hh
        simp [Instr.sliceBounds, Instr.sliceBound, hk, asIntOf, h2]
    | some z =>
      obtain ⟨k2, hk2⟩ := hl
      cases hi with
      | none => obtain rfl : h = len := hh; simp [Instr.sliceBounds, Instr.sliceBound, hk2, asIntOf, h1]
      | some y =>
        obtain ⟨k, hk⟩ := hh
        simp [Instr.sliceBounds, Instr.sliceBound, hk, hk2, asIntOf, h1, h2]
  unfold execOp; rw [ho]
  exact exec_val (by simp [Instr.sliceAt, Instr.slice, run_underlying hu, hx, hb, run_sizeOf' hi'])
theorem run_ssub {t : TypeId} {x : Operand} {lo hi : Option Operand} {s : ByteArray} {l h : Nat} (ho : o.op = .slice t x lo hi none) (hu : P.underlying t = some .string)
    (hx : ρ x = .string s) (hl : Bound ρ lo 0 l) (hh : Bound ρ hi s.size h) (h1 : l ≤ h) (h2 : h ≤ s.size) :
    (execOp ρ o).run P w = .ok (.value (.string (s.extract l h))) w := by
  have hb : (Instr.sliceBounds false s.size s.size (lo.map ρ) (hi.map ρ) none).run P w = .ok (l, h, s.size) w := by
    cases lo with
    | none =>
      obtain rfl : l = 0 := hl
      cases hi with
      | none => obtain rfl : h = s.size := hh; simp [Instr.sliceBounds]
      | some y =>
        obtain ⟨k, hk⟩ := hh
        simp [Instr.sliceBounds, Instr.sliceBound, hk, asIntOf, h2]
    | some z =>
      obtain ⟨k2, hk2⟩ := hl
      cases hi with
      | none => obtain rfl : h = s.size := hh; simp [Instr.sliceBounds, Instr.sliceBound, hk2, asIntOf, h1]
      | some y =>
        obtain ⟨k, hk⟩ := hh
        simp [Instr.sliceBounds, Instr.sliceBound, hk, hk2, asIntOf, h1, h2]
  unfold execOp; rw [ho]
  exact exec_val (by simp [Instr.sliceAt, Instr.slice, run_underlying hu, hx, hb])
/-- Fields that are whole numbers, one behind the other. -/
def intFields (P : Program) : Nat → List Field → Bool
  | _, [] => true
  | off, f :: fs => (f.name != "_") && f.offset == off && (match P.underlying f.type with | some (.int .i64) => true | _ => false) && intFields P (off + 1) fs
def structIs (P : Program) (t : TypeId) (n : Nat) : Bool := (match P.underlying t with | some (.struct fs) => intFields P 0 fs.toList && fs.size == n | _ => false) && !P.stoodInHeld t && !P.eqGuardType P.depth t
theorem run_partInt {t : TypeId} {cs : Array Value} {off : Nat} {v : Value} (hu : P.underlying t = some (.int .i64)) (hv : cs[off]? = some v) : (part t cs off).run P w = .ok v w := by
  simp [part, run_isAgg hu, aggD, hv]
theorem run_eqFields {ok : Nat → Prop} {xs ys : Array Value} (d : Nat) : ∀ (fs : List Field) (off : Nat) (ds es : List D) (B1 B2 : List Nat) (r : Bool), intFields P off fs = true → fs.length = ds.length → RdL ok w (xs.toList.drop off) ds B1 → RdL ok w (ys.toList.drop off) es B2 → eqInts ds es = some r →
    (Op.eqFields (d + 1) xs ys fs).run P w = .ok r w := by
  intro fs
  induction fs with
  | nil =>
    intro off ds es B1 B2 r _ hl _ _ hr
    cases ds with
    | nil =>
      cases es with
      | nil => simp [eqInts] at hr; subst hr; simp [Op.eqFields]
      | cons e es => simp [eqInts] at hr
    | cons d0 ds => simp at hl
  | cons f fs ih =>
    intro off ds es B1 B2 r hf hl hx hy hr
    simp only [intFields, Bool.and_eq_true, bne_iff_ne, beq_iff_eq] at hf
    obtain ⟨⟨⟨hn, ho⟩, hu⟩, hrest⟩ := hf
    have hu' : P.underlying f.type = some (.int .i64) := by
      split at hu
      · assumption
      · cases hu
    unfold eqInts at hr
    split at hr
    · simp at hl
    · rename_i m a n b
      generalize hvx : xs.toList.drop off = vx at hx
      generalize hvy : ys.toList.drop off = vy at hy
      cases vx with
      | nil => have := hx.length; simp at this
      | cons v vx =>
        cases vy with
        | nil => have := hy.length; simp at this
        | cons u vy =>
          obtain ⟨C1, C2, _, r1, r2, _⟩ := hx.cons_inv
          obtain ⟨C3, C4, _, r3, r4, _⟩ := hy.cons_inv
          cases r1
          cases r3
          have gx : xs[off]? = some (.int .i64 m) := by
            have : (xs.toList.drop off)[0]? = some (.int .i64 m) := by rw [hvx]; rfl
            rw [List.getElem?_drop] at this
            simpa using this
          have gy : ys[off]? = some (.int .i64 n) := by
            have : (ys.toList.drop off)[0]? = some (.int .i64 n) := by rw [hvy]; rfl
            rw [List.getElem?_drop] at this
            simpa using this
          have dx : xs.toList.drop (off + 1) = vx := by rw [← List.drop_drop, hvx]; rfl
          have dy : ys.toList.drop (off + 1) = vy := by rw [← List.drop_drop, hvy]; rfl
          split at hr
          · rename_i r' hr'
            injection hr with hr
            have hi := ih (off + 1) a b C2 C4 r' hrest (by simpa using hl) (by rw [dx]; exact r2) (by rw [dy]; exact r4) hr'
            have p1 : (part f.type xs f.offset).run P w = .ok (.int .i64 m) w := run_partInt hu' (by rw [ho]; exact gx)
            have p2 : (part f.type ys f.offset).run P w = .ok (.int .i64 n) w := run_partInt hu' (by rw [ho]; exact gy)
            have p3 := run_equalIn_int (P := P) w d f.type .i64 .i64 m n hu'
            by_cases hmn : m = n
            · subst hmn
              simp at hr
              subst hr
              simp [Op.eqFields, hn, p1, p2, p3, hi]
            · have hb : (m == n) = false := by simpa using hmn
              rw [hb] at hr p3
              simp at hr
              subst hr
              simp [Op.eqFields, hn, p1, p2, p3]
          · cases hr
    · cases hr
theorem run_makeMap {t : TypeId} (ho : o.op = .makeMap t none) : (execOp ρ o).run P w = .ok (.value (.map (some w.heap.size))) (w.alloc (.map #[] 0)) := by
  unfold execOp; rw [ho]
  exact exec_val (by simp [Instr.makeMap])
theorem kv_none : ∀ {kv : List (Int × Int)} {n : Int}, (∀ p ∈ kv, p.1 ≠ n) → kvGet kv n = none ∧ (∀ m, kvSet kv n m = kv ++ [(n, m)]) ∧ kvDel kv n = kv
  | [], n, _ => ⟨rfl, fun _ => rfl, rfl⟩
  | (a, b) :: l, n, h => by
    obtain ⟨h1, h2, h3⟩ := kv_none (kv := l) (n := n) fun p hp => h p (by simp [hp])
    have ha : ¬ a = n := h (a, b) (by simp)
    exact ⟨by simp [kvGet, ha, h1], fun m => by simp [kvSet, ha, h2 m], by simp [kvDel, ha, h3]⟩
theorem kv_at : ∀ {kv : List (Int × Int)} {n v : Int} {j : Nat}, (kv.map (·.1)).Nodup → kv[j]? = some (n, v) → kvGet kv n = some v ∧ (∀ m, kvSet kv n m = kv.set j (n, m)) ∧ kvDel kv n = kv.eraseIdx j
  | [], _, _, _, _, h => by simp at h
  | (a, b) :: l, n, v, 0, _, h => by
    simp at h
    obtain ⟨rfl, rfl⟩ := h
    exact ⟨by simp [kvGet], fun m => by simp [kvSet], by simp [kvDel]⟩
  | (a, b) :: l, n, v, j + 1, hn, h => by
    have hn' : a ∉ l.map (·.1) ∧ (l.map (·.1)).Nodup := List.nodup_cons.1 hn
    have hj : l[j]? = some (n, v) := by simpa using h
    have ha : ¬ a = n := fun hh => hn'.1 (List.mem_map.2 ⟨(n, v), List.mem_of_getElem? hj, hh.symm⟩)
    obtain ⟨h1, h2, h3⟩ := kv_at (kv := l) hn'.2 hj
    exact ⟨by simp [kvGet, ha, h1], fun m => by simp [kvSet, ha, h2 m], by simp [kvDel, ha, h3]⟩
theorem MapHas.isKey {es : Array MapEntry} {clk : Nat} {kv : List (Int × Int)} (h : MapHas es clk kv) : ∀ x ∈ es.toList, MapKept.IsKey (.int .i64) x.key := by
  intro x hx
  have : (x.key, x.val) ∈ kv.map fun p => (Value.int .i64 p.1, Value.int .i64 p.2) := h.2 ▸ List.mem_map.2 ⟨x, hx, rfl⟩
  obtain ⟨p, _, hp⟩ := List.mem_map.1 this
  have := (Prod.mk.inj hp).1
  rw [← this]; rfl
theorem MapHas.nodup {es : Array MapEntry} {clk : Nat} {kv : List (Int × Int)} (h : MapHas es clk kv) : (kv.map (·.1)).Nodup := by
  have h1 := h.1.2.2
  have h2 : es.toList.map (·.key) = kv.map fun p => Value.int .i64 p.1 := by
    have := congrArg (List.map Prod.fst) h.2
    simpa [List.map_map, Function.comp_def] using this
  rw [h2] at h1
  rw [show (kv.map fun p => Value.int .i64 p.1) = (kv.map (·.1)).map (Value.int .i64) by simp [List.map_map, Function.comp_def]] at h1
  exact (List.pairwise_map.1 h1).imp fun hab hh => hab (by rw [hh])
theorem MapHas.size {es : Array MapEntry} {clk : Nat} {kv : List (Int × Int)} (h : MapHas es clk kv) : es.size = kv.length := by
  have := congrArg List.length h.2
  simpa using this
theorem MapHas.find {es : Array MapEntry} {clk : Nat} {kv : List (Int × Int)} (h : MapHas es clk kv) (n : Int) :
    (Instr.findNow (.int .i64) (.int .i64 n) es.toList 0 = some none ∧ (∀ x ∈ es.toList, x.key ≠ .int .i64 n) ∧ ∀ p ∈ kv, p.1 ≠ n) ∨
    ∃ j e v, Instr.findNow (.int .i64) (.int .i64 n) es.toList 0 = some (some (j, .int .i64 v)) ∧ es[j]? = some e ∧ e.key = .int .i64 n ∧ kv[j]? = some (n, v) := by
  have hk : MapKept.IsKey (.int .i64) (.int .i64 n) := rfl
  rcases MapKept.findNow_spec hk es.toList 0 h.isKey with ⟨h1, h2⟩ | ⟨j, e, h1, h2, h3⟩
  · refine .inl ⟨h1, h2, fun p hp hh => ?_⟩
    have : (Value.int .i64 p.1, Value.int .i64 p.2) ∈ es.toList.map fun x => (x.key, x.val) := h.2 ▸ List.mem_map.2 ⟨p, hp, rfl⟩
    obtain ⟨x, hx, hxe⟩ := List.mem_map.1 this
    exact h2 x hx (by rw [(Prod.mk.inj hxe).1, hh])
  · have h4 : (es.toList.map fun x => (x.key, x.val))[j]? = some (e.key, e.val) := by rw [List.getElem?_map, h2]; rfl
    rw [h.2, List.getElem?_map] at h4
    cases hp : kv[j]? with
    | none => rw [hp] at h4; cases h4
    | some p =>
      rw [hp] at h4
      have h5 := Option.some.inj h4
      have h6 := (Prod.mk.inj h5).1
      have h7 := (Prod.mk.inj h5).2
      rw [h3] at h6
      injection h6 with _ h6
      refine .inr ⟨j, e, p.2, by rw [h1, ← h7, Nat.zero_add], by simpa using h2, h3, by rw [hp, ← h6]⟩
theorem MapHas.set {es : Array MapEntry} {clk : Nat} {kv : List (Int × Int)} (h : MapHas es clk kv) {n m : Int} (hn : ∀ x ∈ es.toList, x.key ≠ .int .i64 n) (hp : ∀ p ∈ kv, p.1 ≠ n) :
    MapHas (es.push { key := .int .i64 n, val := .int .i64 m, born := clk }) (clk + 1) (kvSet kv n m) :=
  ⟨MapKept.stamped_push h.1 hn, by rw [(kv_none hp).2.1]; simp [h.2]⟩
theorem MapHas.mod {es : Array MapEntry} {clk : Nat} {kv : List (Int × Int)} (h : MapHas es clk kv) {n v m : Int} {j : Nat} {e : MapEntry} (he : es[j]? = some e) (hk : e.key = .int .i64 n) (hp : kv[j]? = some (n, v)) :
    MapHas (es.modify j fun e => { e with key := .int .i64 n, val := .int .i64 m }) clk (kvSet kv n m) := by
  refine ⟨MapKept.stamped_modify h.1 _ _ (fun _ _ => rfl) (fun e' _ he' => by rw [he] at he'; cases he'; exact hk.symm), ?_⟩
  rw [(kv_at h.nodup hp).2.1]
  apply List.ext_getElem?
  intro i
  have h1 : ∀ i : Nat, (es.toList.map fun x => (x.key, x.val))[i]? = (kv.map fun p => (Value.int .i64 p.1, Value.int .i64 p.2))[i]? := fun i => by rw [h.2]
  have h2 := h1 i
  simp only [List.getElem?_map, Array.getElem?_toList, Array.getElem?_modify, List.getElem?_set] at h2 ⊢
  by_cases hij : j = i
  · subst hij
    have hlt := (List.getElem?_eq_some_iff.1 hp).1
    simp [he, hlt]
  · simp [hij, h2]
theorem MapHas.del {es : Array MapEntry} {clk : Nat} {kv : List (Int × Int)} (h : MapHas es clk kv) {n v : Int} {j : Nat} (hp : kv[j]? = some (n, v)) : MapHas (es.eraseIdxIfInBounds j) clk (kvDel kv n) := by
  refine ⟨MapKept.stamped_erase h.1 _, ?_⟩
  rw [(kv_at h.nodup hp).2.2]
  have hlt : j < es.size := by rw [h.size]; exact (List.getElem?_eq_some_iff.1 hp).1
  unfold Array.eraseIdxIfInBounds
  rw [dif_pos hlt, Array.toList_eraseIdx]
  have key : ∀ {α β : Type} (f : α → β) (l : List α) (j : Nat), (l.eraseIdx j).map f = (l.map f).eraseIdx j := by
    intro α β f l
    induction l with
    | nil => intro j; simp
    | cons a l ih => intro j; cases j with
      | zero => simp
      | succ j => simp [ih j]
  rw [key, key, h.2]
theorem MapHas.empty : MapHas #[] 0 [] := ⟨MapKept.stamped_empty 0, rfl⟩
theorem run_mapSet {t kt et : TypeId} {m x y : Operand} {r clk : Nat} {es : Array MapEntry} {kv : List (Int × Int)} {n v : Int} (ho : o.op = .mapUpdate t m x y) (hm : P.underlying t = some (.map kt et)) (hd : P.underlying kt = some (.int .i64))
    (hb : w.heap[r]? = some (.map es clk)) (hks : MapHas es clk kv) (hr : ρ m = .map (some r)) (hx : ρ x = .int .i64 n) (hy : ρ y = .int .i64 v) :
    ∃ es' clk', (execOp ρ o).run P w = .ok .skip { w with heap := w.heap.setIfInBounds r (.map es' clk') } ∧ MapHas es' clk' (kvSet kv n v) := by
  have hk : MapKept.IsKey (.int .i64) (.int .i64 n) := rfl
  have main : ∃ es' clk', (Instr.mapUpdate t (.map (some r)) (.int .i64 n) (.int .i64 v)).run P w = .ok () { w with heap := w.heap.setIfInBounds r (.map es' clk') } ∧ MapHas es' clk' (kvSet kv n v) := by
    rcases hks.find n with ⟨h1, h2, h3⟩ | ⟨j, e, v0, h1, h2, h3, h4⟩
    · exact ⟨_, _, by simp [Instr.mapUpdate, run_underlying hm, MapKept.run_getObj_map hb, MapKept.run_checkKey hd hk, MapKept.run_findKey hd h1, MapKept.run_setObj_map _ hb, Result.andThen], hks.set h2 h3⟩
    · exact ⟨_, _, by simp [Instr.mapUpdate, run_underlying hm, MapKept.run_getObj_map hb, MapKept.run_checkKey hd hk, MapKept.run_findKey hd h1, h2, h3, MapKept.run_keyThatStays hk, MapKept.run_setObj_map _ hb, Result.andThen], hks.mod h2 h3 h4⟩
  obtain ⟨es', clk', h1, h2⟩ := main
  refine ⟨es', clk', ?_, h2⟩
  unfold execOp; rw [ho]
  exact exec_unit (by simp [hr, hx, hy, h1])
theorem run_lenMap {t kt et : TypeId} {m : Operand} {r clk : Nat} {es : Array MapEntry} {kv : List (Int × Int)} (ho : o.op = .call ⟨.builtin .len, #[m], #[t]⟩) (hm : P.underlying t = some (.map kt et))
    (hb : w.heap[r]? = some (.map es clk)) (hks : MapHas es clk kv) (hr : ρ m = .map (some r)) : (execOp ρ o).run P w = .ok (.value (.int .i64 kv.length)) w := by
  unfold execOp; rw [ho]
  simp [resolve, invoke, builtin, Builtin.len_, hr, run_underlying hm, MapKept.run_getObj_map hb, Result.andThen, goInt, hks.size]
theorem run_mapGet {t kt et : TypeId} {m x : Operand} {b : Bool} {r clk : Nat} {es : Array MapEntry} {kv : List (Int × Int)} {n : Int} (ho : o.op = .lookup t m x b) (hm : P.underlying t = some (.map kt et)) (hd : P.underlying kt = some (.int .i64))
    (hz : ∀ w, (zeroValue et).run P w = .ok (.int .i64 0) w) (hb : w.heap[r]? = some (.map es clk)) (hks : MapHas es clk kv) (hr : ρ m = .map (some r)) (hx : ρ x = .int .i64 n) :
    (execOp ρ o).run P w = .ok (.value (if b = true then .tuple [.int .i64 (kvVal (kvGet kv n)), .bool (kvGet kv n).isSome].toArray else .int .i64 (kvVal (kvGet kv n)))) w := by
  have hk : MapKept.IsKey (.int .i64) (.int .i64 n) := rfl
  have main : (Instr.lookup t (.map (some r)) (.int .i64 n) b).run P w = .ok (if b = true then .tuple [.int .i64 (kvVal (kvGet kv n)), .bool (kvGet kv n).isSome].toArray else .int .i64 (kvVal (kvGet kv n))) w := by
    rcases hks.find n with ⟨h1, h2, h3⟩ | ⟨j, e, v0, h1, h2, h3, h4⟩
    · rw [(kv_none h3).1]
      cases b <;> simp [Instr.lookup, run_underlying hm, MapKept.run_getObj_map hb, MapKept.run_checkKey hd hk, MapKept.run_findKey hd h1, Result.andThen, hz, kvVal]
    · rw [(kv_at hks.nodup h4).1]
      cases b <;> simp [Instr.lookup, run_underlying hm, MapKept.run_getObj_map hb, MapKept.run_checkKey hd hk, MapKept.run_findKey hd h1, Result.andThen, kvVal]
  unfold execOp; rw [ho]
  exact exec_val (by simp [hr, hx, main])
theorem run_mapDel {t kt kt0 et : TypeId} {m x : Operand} {r clk : Nat} {es : Array MapEntry} {kv : List (Int × Int)} {n : Int} (ho : o.op = .call ⟨.builtin .delete, #[m, x], #[t, kt0]⟩) (hm : P.underlying t = some (.map kt et)) (hd : P.underlying kt = some (.int .i64))
    (hb : w.heap[r]? = some (.map es clk)) (hks : MapHas es clk kv) (hr : ρ m = .map (some r)) (hx : ρ x = .int .i64 n) :
    ∃ es', (execOp ρ o).run P w = .ok (.value (.tuple #[])) { w with heap := w.heap.setIfInBounds r (.map es' clk) } ∧ MapHas es' clk (kvDel kv n) := by
  have hk : MapKept.IsKey (.int .i64) (.int .i64 n) := rfl
  have main : ∃ es', (Builtin.delete_ #[t, kt0] o.type #[.map (some r), .int .i64 n]).run P w = .ok (.tuple #[]) { w with heap := w.heap.setIfInBounds r (.map es' clk) } ∧ MapHas es' clk (kvDel kv n) := by
    rcases hks.find n with ⟨h1, h2, h3⟩ | ⟨j, e, v0, h1, h2, h3, h4⟩
    · exact ⟨es, by simp [Builtin.delete_, run_underlying hm, MapKept.run_getObj_map hb, MapKept.run_checkKey hd hk, MapKept.run_findKey hd h1, MapKept.run_setObj_map _ hb, Result.andThen], by rw [(kv_none h3).2.2]; exact hks⟩
    · exact ⟨_, by simp [Builtin.delete_, run_underlying hm, MapKept.run_getObj_map hb, MapKept.run_checkKey hd hk, MapKept.run_findKey hd h1, MapKept.run_setObj_map _ hb, Result.andThen], hks.del h4⟩
  obtain ⟨es', h1, h2⟩ := main
  refine ⟨es', ?_, h2⟩
  unfold execOp; rw [ho]
  simp [resolve, invoke, builtin, hr, hx, h1, Result.andThen]
theorem run_alloc {t : TypeId} {i : TypeInfo} {z : Value} (ho : o.op = .alloc t) (hi : P.info? t = some i) (hz : i.zero = some z) :
    (execOp ρ o).run P w = .ok (.value (.pointer (some ⟨w.heap.size, 0, none⟩))) (w.alloc (.cells z.cells t)) := by
  unfold execOp; rw [ho]
  exact exec_val (by simp [Instr.alloc, zeroValue, typeInfo, hi, hz, newVar, newRow])
theorem run_load' {t : TypeId} {x : Operand} {agg : Bool} {n : Nat} {v : Value} (ho : o.op = .load t x) (ht : okTy P t agg n = true) (h : Loads w agg n (ρ x) v) : (execOp ρ o).run P w = .ok (.value v) w := by
  unfold execOp; rw [ho]
  exact exec_val (run_loadAt ht h)
theorem run_store' {t : TypeId} {x y : Operand} {i : TypeInfo} {g off : Nat} {cur : Array Value} {E : TypeId} (ho : o.op = .store t x y) (hi : P.info? t = some i) (hn : (ρ y).cells.size = i.size)
    (hp : ρ x = .pointer (some ⟨g, off, none⟩)) (hg : w.heap[g]? = some (.cells cur E (0, 0))) (hl : off + (ρ y).cells.size ≤ cur.size) (h1 : ∀ u ∈ (ρ y).cells.toList, u.oneCell' = true) :
    (execOp ρ o).run P w = .ok .skip (w.setRow g (cur.toList.take off ++ (ρ y).cells.toList ++ cur.toList.drop (off + (ρ y).cells.toList.length)).toArray) := by
  unfold execOp; rw [ho]
  have hst := run_storeCells_at P g off E (ρ y).cells.toList 0 cur w hg (by simpa using hl) h1
  simp only [Nat.add_zero] at hst
  exact exec_unit (by simp [Instr.storeAt, Instr.sureAddr, hp, storeVar, run_sizeOf' hi, hn, hst])
theorem run_faddr {t : TypeId} {x : Operand} {f : Nat} {fs : Array Field} {fl : Field} {i : TypeInfo} {g off : Nat} (ho : o.op = .fieldAddr t x f) (hu : P.underlying t = some (.struct fs)) (hf : fs[f]? = some fl)
    (hi : P.info? fl.type = some i) (hz : i.size ≠ 0) (hp : ρ x = .pointer (some ⟨g, off, none⟩)) : (execOp ρ o).run P w = .ok (.value (.pointer (some ⟨g, off + fl.offset, none⟩))) w := by
  unfold execOp; rw [ho]
  exact exec_val (by simp [Instr.fieldAt, Instr.sureAddr, run_underlying' hu, hf, hp, fieldPlace, run_sizeOf' hi, hz, addr_add])
theorem run_iaddr {t : TypeId} {x y : Operand} {el : TypeId} {i : TypeInfo} {k : IntKind} {n : Int} {g off len cap : Nat} (ho : o.op = .indexAddr t x y) (hu : P.underlying t = some (.slice el)) (hi : P.info? el = some i)
    (hy : ρ y = .int k n) (hx : ρ x = .slice (some ⟨g, off, none⟩) len cap) (h0 : 0 ≤ n) (h1 : n < len) : (execOp ρ o).run P w = .ok (.value (.pointer (some ⟨g, off + n.toNat * i.size, none⟩))) w := by
  unfold execOp; rw [ho]
  exact exec_val (by simp [Instr.indexAt, asIntOf, hy, run_underlying' hu, hx, h0, h1, run_sizeOf' hi, addr_add])
theorem run_aaddr {t : TypeId} {x y : Operand} {el : TypeId} {i : TypeInfo} {k : IntKind} {n : Int} {g off len : Nat} (ho : o.op = .indexAddr t x y) (hu : P.underlying t = some (.array len el)) (hi : P.info? el = some i)
    (hy : ρ y = .int k n) (hx : ρ x = .pointer (some ⟨g, off, none⟩)) (h0 : 0 ≤ n) (h1 : n < len) : (execOp ρ o).run P w = .ok (.value (.pointer (some ⟨g, off + n.toNat * i.size, none⟩))) w := by
  unfold execOp; rw [ho]
  exact exec_val (by simp [Instr.indexAt, asIntOf, hy, run_underlying' hu, hx, h0, h1, run_sizeOf' hi, addr_add, Instr.sureAddr])
theorem run_extract {x : Operand} {j : Nat} {vs : Array Value} {v : Value} (ho : o.op = .extract x j) (hx : ρ x = .tuple vs) (hv : vs[j]? = some v) : (execOp ρ o).run P w = .ok (.value v) w := by
  unfold execOp; rw [ho]
  exact exec_val (by simp [Instr.extract, hx, hv])
theorem run_sidx {t : TypeId} {x y : Operand} {s : ByteArray} {k : IntKind} {n : Int} {b : UInt8} (ho : o.op = .index t x y) (hu : P.underlying t = some .string) (hx : ρ x = .string s) (hy : ρ y = .int k n) (h0 : 0 ≤ n) (hb : s[n.toNat]? = some b) :
    (execOp ρ o).run P w = .ok (.value (.int .u8 b.toNat)) w := by
  unfold execOp; rw [ho]
  exact exec_val (by simp [Instr.index, asIntOf, hy, run_underlying' hu, hx, h0, hb])
theorem run_field {t : TypeId} {x : Operand} {f : Nat} {fs : Array Field} {fl : Field} {cs : Array Value} (ho : o.op = .field t x f) (hu : P.underlying t = some (.struct fs)) (hf : fs[f]? = some fl) (hx : ρ x = .agg cs) {v : Value}
    (hp : (part fl.type cs fl.offset).run P w = .ok v w) : (execOp ρ o).run P w = .ok (.value v) w := by
  unfold execOp; rw [ho]
  exact exec_val (by simp [Instr.field, run_underlying' hu, hf, hx, asAgg, hp])
theorem run_un {op : UnOp} {t : TypeId} {x : Operand} {v : Value} (ho : o.op = .unOp op t x) (h : (Op.unary op (ρ x)).run P w = .ok v w) : (execOp ρ o).run P w = .ok (.value v) w := by
  unfold execOp; rw [ho]
  exact exec_val h
theorem run_conv {s d : TypeId} {x : Operand} {k k' : IntKind} {ds : TypeDesc} {n : Int} (ho : o.op = .convert s d x) (hs : P.underlying s = some ds) (hd : P.underlying d = some (.int k)) (hx : ρ x = .int k' n) :
    (execOp ρ o).run P w = .ok (.value (.int k (k.wrap n))) w := by
  unfold execOp; rw [ho]
  exact exec_val (by simp [convert, run_underlying' hs, run_underlying' hd, hx, Conv.intToInt])
theorem run_lenSlice {x : Operand} {t : TypeId} {el : TypeId} {a : Option Addr} {len cap : Nat} (ho : o.op = .call ⟨.builtin .len, #[x], #[t]⟩) (hu : P.underlying t = some (.slice el)) (hx : ρ x = .slice a len cap) :
    (execOp ρ o).run P w = .ok (.value (.int .i64 len)) w := by
  unfold execOp; rw [ho]
  simp [resolve, invoke, builtin, Builtin.len_, run_underlying' hu, hx, goInt]
theorem run_lenString {x : Operand} {t : TypeId} {s : ByteArray} (ho : o.op = .call ⟨.builtin .len, #[x], #[t]⟩) (hu : P.underlying t = some .string) (hx : ρ x = .string s) :
    (execOp ρ o).run P w = .ok (.value (.int .i64 s.size)) w := by
  unfold execOp; rw [ho]
  simp [resolve, invoke, builtin, Builtin.len_, run_underlying' hu, hx, goInt]
theorem run_max {x y : Operand} {ts : Array TypeId} {k : IntKind} {n m : Int} (ho : o.op = .call ⟨.builtin .max, #[x, y], ts⟩) (hx : ρ x = .int k n) (hy : ρ y = .int k m) :
    (execOp ρ o).run P w = .ok (.value (.int k (mmI true n m))) w := by
  unfold execOp; rw [ho]
  simp [resolve, invoke, builtin, Builtin.max_, Builtin.max2, hx, hy, mmI]
theorem run_min {x y : Operand} {ts : Array TypeId} {k : IntKind} {n m : Int} (ho : o.op = .call ⟨.builtin .min, #[x, y], ts⟩) (hx : ρ x = .int k n) (hy : ρ y = .int k m) :
    (execOp ρ o).run P w = .ok (.value (.int k (mmI false n m))) w := by
  unfold execOp; rw [ho]
  simp [resolve, invoke, builtin, Builtin.min_, Builtin.min2, hx, hy, mmI]
theorem run_append' {x y : Operand} {t : TypeId} {v : Value} (ho : o.op = .call ⟨.builtin .append, #[x, y], #[t, t]⟩) (h : (Builtin.append_ #[t, t] o.type #[ρ x, ρ y]).run P w = .ok v w') :
    (execOp ρ o).run P w = .ok (.value v) w' := by
  unfold execOp; rw [ho]
  simp [resolve, invoke, builtin, h]
theorem run_mkf {f : FuncId} {cs : Array Operand} (ho : o.op = .makeFunc (.func f) #[] cs) : (execOp ρ o).run P w = .ok (.value (.func (.func f) #[] (cs.map ρ))) w := by
  unfold execOp; rw [ho]
  exact exec_val (by simp [Instr.makeFunc])
/-- A function that a call enters. -/
def Enter (P : Program) (f : FuncId) : Prop := ∃ fn, P.funcs[f]? = some fn ∧ fn.body.isSome = true ∧ fn.name ≠ "runtime.NumGoroutine"
theorem run_callFunc {f : FuncId} (h : Enter P f) (args : Array Value) : (callFunc f args).run P w = .ok (.enter f args) w := by
  obtain ⟨fn, h1, h2, h3⟩ := h
  have h4 : fn.body ≠ none := by intro hb; rw [hb] at h2; cases h2
  simp [callFunc, h1, h4, h3]
theorem run_call {x : Operand} {args : Array Operand} {ts : Array TypeId} {f : FuncId} {caps : Array Value} (ho : o.op = .call ⟨.value x, args, ts⟩) (hx : ρ x = .func (.func f) #[] caps) (hf : Enter P f) :
    (execOp ρ o).run P w = .ok (.enter f (args.map ρ ++ caps)) w := by
  unfold execOp; rw [ho]
  simp [resolve, Deferred.ofValue, hx, invoke, run_callFunc hf]

theorem run_binOp {op : BinOp} {t yt : TypeId} {x y : Operand} {v : Value} (ho : o.op = .binOp op t x y yt) (hg : (eqGuard op t x y (ρ x) (ρ y)).run P w = .ok () w) (h : (binOp op t (ρ x) (ρ y)).run P w = .ok v w) :
    (execOp ρ o).run P w = .ok (.value v) w := by
  unfold execOp; rw [ho]
  simp [hg, h]
theorem eqGuard_int {op : BinOp} {t : TypeId} {x y : Operand} {k k' : IntKind} {a b : Int} : (eqGuard op t x y (.int k a) (.int k' b)).run P w = .ok () w := by
  unfold eqGuard; split <;> simp
theorem eqGuard_str {op : BinOp} {t : TypeId} {x y : Operand} {a b : ByteArray} : (eqGuard op t x y (.string a) (.string b)).run P w = .ok () w := by
  unfold eqGuard; split <;> simp
theorem eqGuard_bool {op : BinOp} {t : TypeId} {x y : Operand} {a b : Bool} : (eqGuard op t x y (.bool a) (.bool b)).run P w = .ok () w := by
  unfold eqGuard; split <;> simp

theorem binInt_sound {R : Type} {op : BinOp} {i : IntKind} {a b : Int} {k : D → Option R} {res : R} (hk : binInt op i a b k = some res) (t : TypeId) :
    ∃ d v, k d = some res ∧ (binOp op t (.int i a) (.int i b)).run P w = .ok v w ∧ Rd (fun _ => False) w v d [] := by
  unfold binInt at hk
  split at hk
  case h_4 => split at hk
              · cases hk
              · rename_i hb; exact ⟨_, _, hk, by simp [binOp, Op.intDiv, hb], .int _ _⟩
  case h_5 => split at hk
              · cases hk
              · rename_i hb; exact ⟨_, _, hk, by simp [binOp, Op.intDiv, hb], .int _ _⟩
  case h_12 => cases hk
  all_goals first
    | exact ⟨_, _, hk, by simp [binOp, Op.intArith], .int _ _⟩
    | exact ⟨_, _, hk, by simp [binOp, Op.intCmp]; rfl, .bool _⟩
    | exact ⟨_, _, hk, by simp [binOp, Op.intCmp], .bool _⟩
theorem str_eq (a b : ByteArray) : (a.toList == b.toList) = decide (a = b) := by
  rw [Lib.toList_data, Lib.toList_data, Bool.eq_iff_iff]
  simp only [beq_iff_eq, decide_eq_true_eq]
  constructor
  · intro h; cases a; cases b; simpa using h
  · intro h; rw [h]
theorem binV_sound {R : Type} {op : BinOp} {x y : V} {k : D → Option R} {res : R} {ok : Nat → Prop} {vx vy : Value} (hk : binV op x y k = some res) (hx : VR ok w vx x []) (hy : VR ok w vy y []) (t : TypeId) (p q : Operand) :
    ∃ d v, k d = some res ∧ (eqGuard op t p q vx vy).run P w = .ok () w ∧ (binOp op t vx vy).run P w = .ok v w ∧ Rd (fun _ => False) w v d [] := by
  unfold binV at hk
  split at hk
  · rename_i i a j b
    split at hk
    · rename_i hij
      subst hij
      have h1 := hx.one_inv
      have h2 := hy.one_inv
      cases h1
      cases h2
      obtain ⟨d, v, h3, h4, h5⟩ := binInt_sound (P := P) (w := w) hk t
      exact ⟨d, v, h3, eqGuard_int, h4, h5⟩
    · cases hk
  · rename_i a b
    have h1 := hx.one_inv
    have h2 := hy.one_inv
    cases h1
    cases h2
    split at hk
    · exact ⟨_, .bool (decide (a = b)), hk, eqGuard_str, by simp only [binOp, Op.stringOp, str_eq]; simp, .bool _⟩
    · exact ⟨_, .bool (!decide (a = b)), hk, eqGuard_str, by simp only [binOp, Op.stringOp, str_eq]; simp, .bool _⟩
    · split at hk
      · rename_i hs
        refine ⟨_, _, hk, eqGuard_str, ?_, .str _⟩
        have : ¬ ((a.size + b.size : Nat) : Int) > IntKind.i64.max := by simp [IntKind.max, IntKind.bits, IntKind.signed]; omega
        simp only [binOp, Op.stringOp, if_neg this]
        simp
      · cases hk
    · cases hk
  · cases hk
theorem beqV_sound {R : Type} {neg : Bool} {op : BinOp} {x y : V} {k : D → Option R} {res : R} {ok : Nat → Prop} {vx vy : Value} (hop : op = if neg then .neq else .eql) (hk : beqV neg x y k = some res) (hx : VR ok w vx x []) (hy : VR ok w vy y [])
    {t : TypeId} (hu : P.underlying t = some .bool) (p q : Operand) :
    ∃ d v, k d = some res ∧ (eqGuard op t p q vx vy).run P w = .ok () w ∧ (binOp op t vx vy).run P w = .ok v w ∧ Rd (fun _ => False) w v d [] := by
  unfold beqV at hk
  split at hk
  · rename_i a b
    have h1 := hx.one_inv
    have h2 := hy.one_inv
    cases h1
    cases h2
    subst hop
    have he : (Op.equal t (.bool a) (.bool b)).run P w = .ok (a == b) w := by
      have h3 : ∀ d, (Op.equalIn (d + 1) t (.bool a) (.bool b)).run P w = .ok (a == b) w := fun d => by simp [Op.equalIn, run_underlying' hu]
      exact h3 9999
    split at hk
    · exact ⟨_, .bool (a == b), hk, eqGuard_bool, by simp [binOp, he], .bool _⟩
    · exact ⟨_, .bool (a != b), hk, eqGuard_bool, by simp [binOp, he, bne], .bool _⟩
  · cases hk
theorem unV_sound {R : Type} {op : UnOp} {x : V} {k : D → Option R} {res : R} {ok : Nat → Prop} {vx : Value} (hk : unV op x k = some res) (hx : VR ok w vx x []) :
    ∃ d v, k d = some res ∧ (Op.unary op vx).run P w = .ok v w ∧ Rd (fun _ => False) w v d [] := by
  unfold unV at hk
  split at hk
  · have h1 := hx.one_inv
    cases h1
    exact ⟨_, _, hk, by simp [Op.unary], .bool _⟩
  · have h1 := hx.one_inv
    cases h1
    exact ⟨_, _, hk, by simp [Op.unary, Op.intArith], .int _ _⟩
  · cases hk
end
end Go.Abs
set_option linter.unusedVariables false
set_option linter.unusedSimpArgs false
namespace Go.Abs
open Go

def constL : List Value → List D → Bool
  | [], [] => true
  | v :: vs, d :: ds => constD v d && constL vs ds
  | _, _ => false
theorem constL_rd {ok : Nat → Prop} {w : World} {vs : List Value} {ds : List D} (h : constL vs ds = true) : RdL ok w vs ds [] := by
  induction vs generalizing ds with
  | nil => cases ds with
    | nil => exact .nil
    | cons => cases h
  | cons v vs ih => cases ds with
    | nil => cases h
    | cons d ds =>
      simp [constL] at h
      exact .cons v d vs ds [] [] (constD_rd h.1) (ih h.2) (by simp)

theorem foldl_set (off : Nat) : ∀ (cs : List Value) (j : Nat) (a : Array Value), off + j + cs.length ≤ a.size →
    ((cs.zipIdx j).foldl (fun (acc : Array Value) (x : Value × Nat) => acc.setIfInBounds (off + x.2) x.1) a).toList = a.toList.take (off + j) ++ cs ++ a.toList.drop (off + j + cs.length)
  | [], j, a, _ => by simp
  | c :: cs, j, a, h => by
    have ih := foldl_set off cs (j + 1) (a.setIfInBounds (off + j) c) (by simp at h ⊢; omega)
    simp only [List.zipIdx_cons, List.foldl_cons]
    rw [ih]
    have hlt : off + j < a.toList.length := by simp at h ⊢; omega
    simp only [Array.toList_setIfInBounds]
    rw [List.set_eq_take_append_cons_drop, if_pos hlt]
    have e1 : (a.toList.take (off + j)).length = off + j := by simp at hlt ⊢; omega
    have e2 : off + (j + 1) = (a.toList.take (off + j)).length + 1 := by rw [e1]; omega
    have e3 : off + (j + 1) + cs.length = (a.toList.take (off + j)).length + (1 + cs.length) := by rw [e1]; omega
    rw [e3, e2, List.take_length_add_append, List.drop_length_add_append]
    have e4 : 1 + cs.length = cs.length + 1 := by omega
    rw [e4, List.drop_succ_cons, List.drop_drop]
    simp only [List.take_succ_cons, List.take_zero, List.append_assoc, List.cons_append, List.nil_append, List.length_cons]
    have e5 : off + j + 1 + cs.length = off + j + (cs.length + 1) := by omega
    rw [e5]
theorem fold_cells (off : Nat) (cs a : Array Value) (h : off + cs.size ≤ a.size) :
    (cs.zipIdx.foldl (fun (acc : Array Value) (x : Value × Nat) => acc.setIfInBounds (off + x.2) x.1) a).toList = a.toList.take off ++ cs.toList ++ a.toList.drop (off + cs.toList.length) := by
  have := foldl_set off cs.toList 0 a (by simpa using h)
  simp only [Nat.add_zero] at this
  rw [← this, ← Array.foldl_toList, Array.toList_zipIdx]

section
variable {R : Type} {ok0 mine ua uo : Nat → Prop} {e : Env} {tmps : Array Value} {w w' : World} {fp : Nat → List Nat} {st q : Nat} {res : R} {glob : Nat → List D}

theorem VR.cells {ok : Nat → Prop} {v : Value} {x : V} {B : List Nat} (h : VR ok w v x B) : RdL ok w v.cells.toList x.cells B := by
  cases h with
  | one v d B h =>
    have h1 := h.one
    have : v.cells = #[v] := by cases v <;> first | rfl | (simp [Value.oneCell'] at h1)
    rw [this]
    exact h.single
  | agg vs ds B h => simpa [Value.cells, V.cells] using h

theorem Sim.revirt (h : Sim ok0 mine ua uo e tmps w fp) {fp' : Nat → List Nat} (hsame : ∀ s, s < tmps.size → fp' s = fp s) (hsub : ∀ s b, tmps.size ≤ s → b ∈ fp' s → ∃ s', tmps.size ≤ s' ∧ b ∈ fp s')
    (hdisj : ∀ s t b, tmps.size ≤ s → tmps.size ≤ t → s ≠ t → b ∈ fp' s → b ∉ fp' t) : Sim ok0 mine ua uo e tmps w fp' ∧ ∀ k, okOf ok0 fp k → okOf ok0 fp' k := by
  have hok : ∀ k, okOf ok0 fp k → okOf ok0 fp' k := by
    intro k ho
    refine ⟨ho.1, fun s hs => ?_⟩
    by_cases hss : s < tmps.size
    · rw [hsame s hss] at hs; exact ho.2 s hs
    · obtain ⟨s', _, hs'⟩ := hsub s k (by omega) hs
      exact ho.2 s' hs'
  refine ⟨⟨h.size, fun s v hs => ?_, h.al, fun s t b hne hb hb' => ?_, fun s b hb => ?_, h.ask, h.stamps⟩, hok⟩
  · rw [hsame s (Array.getElem?_eq_some_iff.1 hs).1]
    exact (h.rel s v hs).step (fun k _ => hok k) fun _ _ _ => rfl
  · by_cases hs : s < tmps.size
    · rw [hsame s hs] at hb
      by_cases ht : t < tmps.size
      · rw [hsame t ht] at hb'; exact h.disj s t b hne hb hb'
      · obtain ⟨t', ht', hbt⟩ := hsub t b (by omega) hb'
        exact h.disj s t' b (by omega) hb hbt
    · by_cases ht : t < tmps.size
      · rw [hsame t ht] at hb'
        obtain ⟨s', hs', hbs⟩ := hsub s b (by omega) hb
        exact h.disj s' t b (by omega) hbs hb'
      · exact hdisj s t b (by omega) (by omega) hne hb hb'
  · by_cases hs : s < tmps.size
    · rw [hsame s hs] at hb; exact h.lt s b hb
    · obtain ⟨s', _, hbs⟩ := hsub s b (by omega) hb
      exact h.lt s' b hbs

theorem take_sound (h : Sim ok0 mine ua uo e tmps w fp) (hst : ¬ ua st) (hq : tmps.size ≤ q) (hq0 : fp q = []) {o : Operand} {x : X} (hx : okX o x = true) {k : V → Upd → Option R} (hk : take e st x k = some res) :
    ∃ V us fp', k V us = some res ∧ Taken ok0 mine ua uo e tmps w fp st q us fp' ∧ VR (okOf ok0 fp') w (evalT tmps o) V (fp' q) := by
  cases x with
  | c d =>
    cases o <;> simp [okX] at hx
    refine ⟨_, [], fp, hk, ⟨h.weak (fun _ h => h) (fun _ h => .inl h), fun _ _ _ => rfl, fun _ h => h⟩, ?_⟩
    rw [hq0]
    exact .one _ _ _ (constD_rd hx)
  | p s =>
    cases o <;> simp [okX] at hx
    subst hx
    simp only [take] at hk
    obtain ⟨V, hk1, hv⟩ := peekS_sound h hk
    refine ⟨V, [], fp, hk1, ⟨h.weak (fun _ h => h) (fun _ h => .inl h), fun _ _ _ => rfl, fun _ h => h⟩, ?_⟩
    rw [hq0]
    exact hv
  | t s => cases o <;> simp [okX] at hx; subst hx; exact takeS_sound h hst hq hq0 hk
  | a s r => cases o <;> simp [okX] at hx; subst hx; exact takeS_sound h hst hq hq0 hk
  | _ => simp [take] at hk

/-- Values that have been taken one behind the other, their blocks at q, q + 1, .. -/
inductive Row (ok : Nat → Prop) (w : World) (fp : Nat → List Nat) : Nat → List Value → List V → Prop
  | nil (q : Nat) : Row ok w fp q [] []
  | cons (q : Nat) (v : Value) (x : V) (vs : List Value) (xs : List V) (h1 : VR ok w v x (fp q)) (h2 : Row ok w fp (q + 1) vs xs) : Row ok w fp q (v :: vs) (x :: xs)

def okXs : List Operand → List X → Bool
  | [], [] => true
  | o :: os, x :: xs => okX o x && okXs os xs
  | _, _ => false

theorem takes_sound (h : Sim ok0 mine ua uo e tmps w fp) (hst : ¬ ua st) (hq : tmps.size ≤ q) (hq0 : ∀ s, q ≤ s → fp s = []) (huo : uo st) {os : List Operand} {xs : List X} (hx : okXs os xs = true) {acc : List V} {us : Upd} {k : List V → Upd → Option R}
    (hk : takes st e xs acc us k = some res) :
    ∃ Vs u fp', k (acc.reverse ++ Vs) (us ++ u) = some res ∧ Sim ok0 mine ua uo (e.app u) tmps w fp' ∧ Row (okOf ok0 fp') w fp' q (os.map (evalT tmps)) Vs ∧
      (∀ s, tmps.size ≤ s → s < q → fp' s = fp s) ∧ (∀ s, q + xs.length ≤ s → fp' s = []) ∧ ∀ k, okOf ok0 fp k → okOf ok0 fp' k := by
  induction xs generalizing e fp q os acc us with
  | nil =>
    cases os with
    | nil => exact ⟨[], [], fp, by simpa [takes] using hk, h, .nil _, fun _ _ _ => rfl, fun s hs => hq0 s (by simpa using hs), fun _ h => h⟩
    | cons => cases hx
  | cons x xs ih =>
    cases os with
    | nil => cases hx
    | cons o os =>
      simp only [okXs, Bool.and_eq_true] at hx
      simp only [takes] at hk
      obtain ⟨V, u1, fp1, hk1, ht, hv⟩ := take_sound h hst hq (hq0 q (Nat.le_refl _)) hx.1 hk
      have hsim : Sim ok0 mine ua uo (e.app u1) tmps w fp1 := ht.sim.weak (fun _ h => h) fun k hk => hk.elim id (fun hh => hh ▸ huo)
      obtain ⟨Vs, u2, fp2, hk2, hs2, hrow, hlow, hhigh, hok⟩ := ih (q := q + 1) hsim (by omega) (fun s hs => by rw [ht.virt s (by omega) (by omega)]; exact hq0 s (by omega)) hx.2 hk1
      refine ⟨V :: Vs, u1 ++ u2, fp2, by simpa using hk2, by rw [Env.app_append]; exact hs2, .cons q _ _ _ _ ?_ hrow, fun s hs hsq => ?_, fun s hs => hhigh s (by simp at hs; omega), fun k hk => hok k (ht.ok k hk)⟩
      · rw [hlow q hq (by omega)]
        exact hv.ok_mono hok
      · rw [hlow s hs (by omega)]; exact ht.virt s hs (by omega)

/-- Parts laid into cells. -/
theorem fill_sound {ok : Nat → Prop} (hdis : ∀ s t b, s ≠ t → b ∈ fp s → b ∉ fp t) {place : Nat → Option (Nat × Nat)} : ∀ (ps : List (Nat × Nat)) (is : List Nat) (vs : List Value) (xs : List V) (q : Nat) (cs : Array Value) (z : List D) (B : List Nat) (ds : List D),
    Row ok w fp q vs xs → ps.length = vs.length → is.map place = ps.map some → RdL ok w cs.toList z B → (∀ b ∈ B, ∀ s, q ≤ s → b ∉ fp s) → fillCells z ps xs = some ds →
    ∃ cells B', Instr.fill place cs (is.zip vs) = some cells ∧ RdL ok w cells.toList ds B' ∧ ∀ b ∈ B', b ∈ B ∨ ∃ s, q ≤ s ∧ s < q + vs.length ∧ b ∈ fp s
  | [], is, vs, xs, q, cs, z, B, ds, hrow, hl, hp, hz, hB, hf => by
    cases vs with
    | cons => cases hl
    | nil =>
      cases hrow
      simp only [fillCells, Option.some.injEq] at hf
      subst hf
      exact ⟨cs, B, by cases is <;> simp [Instr.fill], hz, fun b hb => .inl hb⟩
  | (off, n) :: ps, is, vs, xs, q, cs, z, B, ds, hrow, hl, hp, hz, hB, hf => by
    cases hrow with
    | nil => cases hl
    | cons _ v x vs xs h1 h2 =>
      cases is with
      | nil => cases hp
      | cons i is =>
        simp only [List.map_cons, List.cons.injEq] at hp
        simp only [fillCells] at hf
        split at hf
        · rename_i hcond
          have hcl := h1.cells
          have hlen := hcl.length
          have hzl := hz.length
          simp only [Array.length_toList] at hlen hzl
          obtain ⟨B1, hp1, hp2⟩ := hz.patch hcl (off := off) (by omega) (fun b hb => hB b hb q (Nat.le_refl _))
          have hfold := fold_cells off v.cells cs (by omega)
          rw [← hfold] at hp1
          rw [← hcond.1] at hf
          obtain ⟨cells, B', hf1, hf2, hf3⟩ := fill_sound hdis ps is vs xs (q + 1) _ _ B1 ds h2 (by simpa using hl) hp.2 hp1 (fun b hb s hs hbs => by
            rcases hp2 b hb with hh | hh
            · exact hB b hh s (by omega) hbs
            · exact hdis q s b (by omega) hh hbs) (by simpa [hcond.1] using hf)
          refine ⟨cells, B', ?_, hf2, fun b hb => ?_⟩
          · simp only [List.zip_cons_cons, Instr.fill, hp.1]
            rw [if_neg (by simp; omega)]
            exact hf1
          · rcases hf3 b hb with hh | ⟨s, hs1, hs2, hs3⟩
            · rcases hp2 b hh with hh | hh
              · exact .inl hh
              · exact .inr ⟨q, Nat.le_refl _, by simp, hh⟩
            · exact .inr ⟨s, by omega, by simp; omega, hs3⟩
        · cases hf
end
end Go.Abs
set_option linter.unusedVariables false
set_option linter.unusedSimpArgs false
namespace Go.Abs
open Go

section
variable {R : Type} {ok0 mine ua uo : Nat → Prop} {e : Env} {tmps : Array Value} {w w' : World} {fp : Nat → List Nat} {st q : Nat} {res : R} {glob : Nat → List D}

theorem no_bp (t i o : Nat) : NoOwn (.bp t i o) := ⟨fun _ _ _ h => (by cases h), fun _ _ _ h => (by cases h), fun _ _ h => (by cases h)⟩
theorem no_into (t : Nat) (j : Option Nat) (a b c d : Nat) : NoOwn (.into t j a b c d) := ⟨fun _ _ _ h => (by cases h), fun _ _ _ h => (by cases h), fun _ _ h => (by cases h)⟩
theorem no_ref (t : Nat) (j : Option Nat) (a : Nat) : NoOwn (.ref t j a) := ⟨fun _ _ _ h => (by cases h), fun _ _ _ h => (by cases h), fun _ _ h => (by cases h)⟩
theorem no_copy (t a : Nat) : NoOwn (.copy t a) := ⟨fun _ _ _ h => (by cases h), fun _ _ _ h => (by cases h), fun _ _ h => (by cases h)⟩
theorem no_rp (ds : List D) : NoOwn (.rp ds) := ⟨fun _ _ _ h => (by cases h), fun _ _ _ h => (by cases h), fun _ _ h => (by cases h)⟩
theorem no_clo (f : FuncId) (c : List (List D)) : NoOwn (.clo f c) := ⟨fun _ _ _ h => (by cases h), fun _ _ _ h => (by cases h), fun _ _ h => (by cases h)⟩
theorem no_undef : NoOwn .undef := ⟨fun _ _ _ h => (by cases h), fun _ _ _ h => (by cases h), fun _ _ h => (by cases h)⟩
theorem Found.rp {v : Value} {ds : List D} (h : RP (okOf ok0 fp) w v ds) : Found ok0 uo e tmps w fp v (.rp ds) := ⟨.rp _ _ h, trivial, fun _ h => (by cases h), no_rp _⟩
theorem RP.drop {ok : Nat → Prop} {b off : Nat} {ds : List D} (h : RP ok w (.pointer (some ⟨b, off, none⟩)) ds) (n : Nat) : RP ok w (.pointer (some ⟨b, off + n, none⟩)) (ds.drop n) := by
  obtain ⟨b', off', vs, hp, hc, hr⟩ := h
  injection hp with hp; injection hp with hp; injection hp with h1 h2
  subst h1; subst h2
  obtain ⟨B', hr', hB⟩ := hr.drop n
  have : B' = [] := by cases B' with
    | nil => rfl
    | cons x _ => exact absurd (hB x (List.mem_cons_self ..)) (by simp)
  subst this
  refine ⟨b, off + n, vs.drop n, rfl, fun j u hj => ?_, hr'⟩
  rw [List.getElem?_drop] at hj
  rw [Nat.add_assoc]; exact hc _ _ hj
theorem Sim.rpAt (h : Sim ok0 mine ua uo e tmps w fp) {s : Nat} {ds : List D} (hs : e.get s = .rp ds) : ∃ v, tmps[s]? = some v ∧ tmps.getD s undef = v ∧ RP (okOf ok0 fp) w v ds := by
  obtain ⟨v, hv, hv'⟩ := h.slot (s := s) (by rw [hs]; simp)
  have hr := h.rel s v hv
  rw [hs] at hr
  refine ⟨v, hv, hv', ?_⟩
  generalize fp s = B at hr
  cases hr with
  | rp _ _ h => exact h

theorem glob_rp (hglob : GlobOK ok0 mine glob w) (hlt : ∀ s b, b ∈ fp s → mine b) (g : Nat) : RP (okOf ok0 fp) w (.pointer (some ⟨g, 0, none⟩)) (glob g) := by
  obtain ⟨vs, hrd, hc, _⟩ := hglob g
  refine ⟨g, 0, vs, rfl, fun j u hj => ?_, hrd.step (fun _ _ h => h.elim) fun _ _ _ => rfl⟩
  obtain ⟨⟨h1, h2⟩, h3⟩ := hc j u hj
  exact ⟨⟨h1, fun s hs => h2 (hlt s g hs)⟩, by rw [Nat.zero_add]; exact h3⟩

theorem offS_sound (h : Sim ok0 mine ua uo e tmps w fp) {s n : Nat} {r dst : Option Nat} {k : Upd → Option R} (hk : offS e s r n dst k = some res) :
    ∃ av g off, k (outU [] dst av) = some res ∧ tmps.getD s undef = .pointer (some ⟨g, off, none⟩) ∧ Found ok0 uo e tmps w fp (.pointer (some ⟨g, off + n, none⟩)) av := by
  unfold offS at hk
  split at hk
  · rename_i b ver ds hs
    obtain ⟨g, cur, E, B, hv, hv', hfp, hg, hrd, hgB, hub, huv⟩ := h.boxAt hs
    refine ⟨_, g, 0, hk, hv', .bp _ _ _ _, ?_, fun id hid => by injection hid with hid; rw [← hid]; exact hub, no_bp _ _ _⟩
    intro ver2 ds2 hL
    exact ⟨g, hv, by rw [Nat.zero_add]⟩
  · rename_i t id o hs
    split at hk
    · split at hk
      · rename_i b ver ds ht
        split at hk
        · rename_i hb
          subst hb
          obtain ⟨v, hv, hv'⟩ := h.slot (s := s) (by rw [hs]; simp)
          have ha := h.al s v hv
          rw [hs] at ha
          obtain ⟨g, hg, rfl⟩ := ha _ _ ht
          have hst := h.stamps t
          rw [ht] at hst
          exact ⟨_, g, o, hk, hv', .bp _ _ _ _, fun ver2 ds2 hL2 => ⟨g, hg, rfl⟩, fun i hi => by injection hi with hi; rw [← hi]; exact hst.1, no_bp _ _ _⟩
        · cases hk
      · cases hk
    · cases hk
  · rename_i t j id w' i o hs
    split at hk
    · unfold onSome at hk
      split at hk
      · rename_i qr hq
        dsimp only at hk
        obtain ⟨v, hv, hv'⟩ := h.slot (s := s) (by rw [hs]; simp)
        have ha := h.al s v hv
        rw [hs] at ha
        obtain ⟨v2, B, hrd, hB, hu, htl, hpl⟩ := h.ownAt hq
        cases j with
        | none =>
          obtain ⟨p1, p2⟩ := hpl
          obtain ⟨he, g3, n3, c3, hg3, rfl⟩ := ha _ _ p2
          refine ⟨_, g3, i * w' + o, hk, hv', .into _ _ _ _ _ _ _, fun e2 rows2 hL => ?_, fun i hi => by injection hi with hi; rw [← hi]; exact hu, no_into _ _ _ _ _ _⟩
          rw [p2] at hL
          injection hL with h5 h6 h7
          exact ⟨h6 ▸ he, g3, n3, c3, hg3, by rw [Nat.add_assoc]⟩
        | some j =>
          obtain ⟨g4, b4, ds4, p1, p2, p3, p4⟩ := hpl
          obtain ⟨g3, g5, n3, c3, hg3, hc3, rfl, rows, hd⟩ := ha _ _ p2
          refine ⟨_, g5, i * w' + o, hk, hv', .into _ _ _ _ _ _ _, fun b2 ds2 hL => ?_, fun i hi => by injection hi with hi; rw [← hi]; exact hu, no_into _ _ _ _ _ _⟩
          rw [p2] at hL
          injection hL with h5 h6 h7
          subst h7
          exact ⟨g3, g5, n3, c3, hg3, hc3, by rw [Nat.add_assoc], rows, hd⟩
      · cases hk
    · cases hk
  · rename_i ds hs
    obtain ⟨v, hv, hv', hr⟩ := h.rpAt hs
    obtain ⟨b, off, vs, rfl, _, _⟩ := id hr
    exact ⟨_, b, off, hk, hv', .rp (hr.drop n)⟩
  · cases hk
theorem offX_sound (h : Sim ok0 mine ua uo e tmps w fp) (hglob : GlobOK ok0 mine glob w) {o : Operand} {x : X} (hx : okX o x = true) {n : Nat} {dst : Option Nat} {k : Upd → Option R} (hk : offX e glob x n dst k = some res) :
    ∃ av g off, k (outU [] dst av) = some res ∧ evalT tmps o = .pointer (some ⟨g, off, none⟩) ∧ Found ok0 uo e tmps w fp (.pointer (some ⟨g, off + n, none⟩)) av := by
  cases x with
  | t s => cases o <;> simp [okX] at hx; subst hx; exact offS_sound h hk
  | a s r => cases o <;> simp [okX] at hx; subst hx; exact offS_sound h hk
  | g g =>
    cases o <;> simp [okX] at hx
    subst hx
    exact ⟨_, _, 0, hk, rfl, .rp ((glob_rp hglob (fun s b hb => (h.lt s b hb).2) _).drop n)⟩
  | _ => simp [offX] at hk

theorem iaddrS_sound (h : Sim ok0 mine ua uo e tmps w fp) {s w0 n : Nat} {r dst : Option Nat} {k : Upd → Option R} (hk : iaddrS e s r w0 n dst k = some res) :
    ∃ av g off len cap, k (outU [] dst av) = some res ∧ tmps.getD s undef = .slice (some ⟨g, off, none⟩) len cap ∧ n < len ∧ Found ok0 uo e tmps w fp (.pointer (some ⟨g, off + n * w0, none⟩)) av := by
  unfold iaddrS at hk
  split at hk
  · rename_i w' rows hs
    split at hk
    · rename_i hw
      subst hw
      unfold rowK at hk
      split at hk
      · rename_i row hrow
        obtain ⟨v, hv, hv', hr⟩ := h.valOne hs
        obtain ⟨b, off, len, cap, rfl, hrp, hlt⟩ := hr.one_inv.viewRow hrow
        exact ⟨_, b, off, len, cap, hk, hv', hlt, .rp hrp⟩
      · cases hk
    · cases hk
  · rename_i id w' rows hs
    split at hk
    · rename_i hw
      subst hw
      split at hk
      · rename_i hn
        obtain ⟨v, hv, hv'⟩ := h.slot (s := s) (by rw [hs]; simp)
        have hr := h.rel s v hv
        rw [hs] at hr
        have hst := h.stamps s
        rw [hs] at hst
        obtain ⟨g, len, cap, vs, B', rfl, hgB, hc, hrv, hB', hin, hnl⟩ := hr.own_inv.row (i := n) (row := rows[n]) (by simp [hn])
        refine ⟨_, g, 0, len, cap, hk, hv', hin, .into _ _ _ _ _ _ _, fun e2 rows2 hL => ?_, fun i hi => by injection hi with hi; rw [← hi]; exact hst, no_into _ _ _ _ _ _⟩
        rw [hs] at hL
        injection hL with h5 h6 h7
        exact ⟨h6.symm, g, len, cap, hv, by rw [Nat.zero_add, Nat.add_zero]⟩
      · cases hk
    · cases hk
  · rename_i t j id hs
    split at hk
    · unfold onSome at hk
      split at hk
      · rename_i qr hq
        dsimp only at hk
        split at hk
        · rename_i hw
          split at hk
          · rename_i hn
            obtain ⟨v, hv, hv'⟩ := h.slot (s := s) (by rw [hs]; simp)
            have ha := h.al s v hv
            rw [hs] at ha
            obtain ⟨v2, B, hrd, hB, hu, htl, hpl⟩ := h.ownAt hq
            obtain ⟨g, len, cap, vs, B', rfl, hgB, hc, hrv, hB', hin, hnl⟩ := hrd.row (i := n) (row := qr.2[n]) (by simp [hn])
            cases j with
            | none =>
              obtain ⟨p1, p2⟩ := hpl
              have hva : tmps[t]? = some v := ha _ _ p2
              rw [p1] at hva
              obtain rfl := Option.some.inj hva
              refine ⟨_, g, 0, len, cap, hk, hv', hin, .into _ _ _ _ _ _ _, fun e2 rows2 hL => ?_, fun i hi => by injection hi with hi; rw [← hi]; exact hu, no_into _ _ _ _ _ _⟩
              rw [p2] at hL
              injection hL with h5 h6 h7
              exact ⟨by rw [← h6, hw], g, len, cap, p1, by rw [Nat.zero_add, Nat.add_zero]⟩
            | some j =>
              obtain ⟨g4, b4, ds4, p1, p2, p3, p4⟩ := hpl
              obtain ⟨g3, hg3, hc3⟩ := ha _ _ p2
              obtain rfl : g4 = g3 := by rw [p1] at hg3; injection hg3 with h1; injection h1 with h1; injection h1 with h1; injection h1
              rw [p3] at hc3
              obtain rfl := Option.some.inj hc3
              refine ⟨_, g, 0, len, cap, hk, hv', hin, .into _ _ _ _ _ _ _, fun b2 ds2 hL => ?_, fun i hi => by injection hi with hi; rw [← hi]; exact hu, no_into _ _ _ _ _ _⟩
              rw [p2] at hL
              injection hL with h5 h6 h7
              subst h7
              exact ⟨g4, g, len, cap, p1, p3, by rw [Nat.zero_add, Nat.add_zero], qr.2, by rw [p4, hw]⟩
          · cases hk
        · cases hk
      · cases hk
    · cases hk
  · cases hk

theorem lenS_sound (h : Sim ok0 mine ua uo e tmps w fp) {s : Nat} {r : Option Nat} {k : Int → Option R} (hk : lenS e s r k = some res) :
    ∃ n a cap, k (n : Nat) = some res ∧ tmps.getD s undef = .slice a n cap ∧ (n ≠ 0 → a.isSome = true) := by
  unfold lenS at hk
  split at hk
  · rename_i w' rows hs
    obtain ⟨v, hv, hv', hr⟩ := h.valOne hs
    obtain ⟨a, cap, rfl, hn0⟩ := hr.one_inv.listLen
    exact ⟨_, a, cap, hk, hv', hn0⟩
  · rename_i id w' rows hs
    obtain ⟨v, hv, hv'⟩ := h.slot (s := s) (by rw [hs]; simp)
    have hr := h.rel s v hv
    rw [hs] at hr
    obtain ⟨a, cap, rfl, hn0⟩ := hr.own_inv.listLen
    exact ⟨_, a, cap, hk, hv', hn0⟩
  · rename_i t j id hs
    split at hk
    · unfold onSome at hk
      split at hk
      · rename_i qr hq
        dsimp only at hk
        obtain ⟨v, hv, hv'⟩ := h.slot (s := s) (by rw [hs]; simp)
        have ha := h.al s v hv
        rw [hs] at ha
        obtain ⟨v2, B, hrd, hB, hu, htl, hpl⟩ := h.ownAt hq
        have hv2 : v2 = v := by
          cases j with
          | none =>
            obtain ⟨p1, p2⟩ := hpl
            have hva : tmps[t]? = some v := ha _ _ p2
            rw [p1] at hva
            exact Option.some.inj hva
          | some j =>
            obtain ⟨g4, b4, ds4, p1, p2, p3, p4⟩ := hpl
            obtain ⟨g3, hg3, hc3⟩ := ha _ _ p2
            obtain rfl : g4 = g3 := by rw [p1] at hg3; injection hg3 with h1; injection h1 with h1; injection h1 with h1; injection h1
            rw [p3] at hc3
            exact Option.some.inj hc3
        subst hv2
        obtain ⟨a, cap, rfl, hn0⟩ := hrd.listLen
        exact ⟨_, a, cap, hk, hv', hn0⟩
      · cases hk
    · cases hk
  · cases hk
theorem lenOf_sound (h : Sim ok0 mine ua uo e tmps w fp) {o : Operand} {x : X} (hx : okX o x = true) {k : Int → Option R} (hk : lenOf e x k = some res) :
    ∃ n a cap, k (n : Nat) = some res ∧ evalT tmps o = .slice a n cap ∧ (n ≠ 0 → a.isSome = true) := by
  cases x with
  | t s => cases o <;> simp [okX] at hx; subst hx; exact lenS_sound h hk
  | a s r => cases o <;> simp [okX] at hx; subst hx; exact lenS_sound h hk
  | _ => simp [lenOf] at hk
end
end Go.Abs
set_option linter.unusedVariables false
set_option linter.unusedSimpArgs false
namespace Go.Abs
open Go

section
variable {R : Type} {ok0 mine u : Nat → Prop} {e : Env} {tmps : Array Value} {w w' : World} {fp : Nat → List Nat} {st q : Nat} {res : R} {glob : Nat → List D}

/-- The slots after an operation. -/
def Done (ok0 mine u : Nat → Prop) (e : Env) (st : Nat) (k : Upd → Option R) (res : R) (tmps' : Array Value) (w' : World) : Prop :=
  ∃ us fp', k us = some res ∧ Sim ok0 mine (fun k => u k ∨ k = st) (fun k => u k ∨ k = st) (e.app us) tmps' w' fp'

theorem Sim.found_done (h : Sim ok0 mine u u e tmps w fp) (hst : ¬ u st) (hv : ∀ s, tmps.size ≤ s → fp s = []) {v : Value} {av : AV} (hf : Found ok0 u e tmps w fp v av) {dst : Option Nat} {k : Upd → Option R} (hk : k (outU [] dst av) = some res) :
    Done ok0 mine u e st k res (putT tmps dst v) w := by
  obtain ⟨fp', h'⟩ := h.fin (q := tmps.size) (us := []) (e0 := e) (ua' := fun k => u k ∨ k = st) (uo' := fun k => u k ∨ k = st) (dst := dst) (w' := w) (B := []) hst (Nat.le_refl _) (fun _ h => .inl h) (fun _ h => .inl h) rfl (v := v)
    (fun id hid => .inl (hf.ask id hid)) (hf.no.own _) (hf.no.less _) (fun _ _ _ => rfl) (Nat.le_refl _) (by simp)
    (fun ok hok => hf.rel.step (fun k _ hk => hok k (by simp) hk.1 (.inl hk)) fun _ _ _ => rfl) (.inr ⟨rfl, hf.no, hf.al⟩)
  exact ⟨_, fp', hk, h'⟩
theorem Sim.taken_done {fp1 : Nat → List Nat} {us : Upd} (h : Sim ok0 mine u (fun k => u k ∨ k = st) (e.app us) tmps w fp1) (hst : ¬ u st) (hq : tmps.size ≤ q) {v : Value} {av : AV}
    (hr : AvR (okOf ok0 fp1) w v av (fp1 q)) (hal : aliasOf av = none) (hask : askStamp av = none) (hown : OwnIn (fun k => u k ∨ k = st) av) (hless : Stampless st av) {dst : Option Nat} {k : Upd → Option R} (hk : k (outU us dst av) = some res) :
    Done ok0 mine u e st k res (putT tmps dst v) w := by
  obtain ⟨fp', h'⟩ := h.fin (q := q) (us := us) (e0 := e) (ua' := fun k => u k ∨ k = st) (uo' := fun k => u k ∨ k = st) (dst := dst) (w' := w) (B := fp1 q) hst hq (fun _ h => .inl h) (fun _ h => h) rfl (v := v)
    (fun id hid => by rw [hask] at hid; cases hid) hown hless (fun _ _ _ => rfl) (Nat.le_refl _) (fun k hk => .inl hk)
    (fun ok hok => hr.step (fun k _ hk => hok k (hk.2 q) hk.1 (.inl hk)) fun _ _ _ => rfl) (.inl hal)
  exact ⟨_, fp', hk, h'⟩

theorem VR.stale {ok ok' : Nat → Prop} {v : Value} {x : V} {B : List Nat} (h : VR ok w v x B) (hok : ∀ k, k < w.heap.size → ok k → ok' k) (hk : ∀ k ∈ B, ok' k) : VR ok' w v x.stale [] := by
  cases h with
  | one _ _ _ h => exact .one _ _ _ (h.stale hok hk)
  | agg _ _ _ h => exact .agg _ _ _ (h.stale hok hk)
/-- What was taken is owned by nobody from now on. -/
theorem Sim.frozen_done {fp1 : Nat → List Nat} {us : Upd} (h : Sim ok0 mine u (fun k => u k ∨ k = st) (e.app us) tmps w fp1) (hst : ¬ u st) (hq : tmps.size ≤ q) {v : Value} {V : V}
    (hr : VR (okOf ok0 fp1) w v V (fp1 q)) (mok : ∀ k, mine k → ok0 k) {dst : Option Nat} {k : Upd → Option R} (hk : k (outU us dst (.val V.stale)) = some res) :
    Done ok0 mine u e st k res (putT tmps dst v) w := by
  obtain ⟨fp', h'⟩ := h.fin (q := q) (us := us) (e0 := e) (ua' := fun k => u k ∨ k = st) (uo' := fun k => u k ∨ k = st) (dst := dst) (w' := w) (B := []) hst hq (fun _ h => .inl h) (fun _ h => h) rfl (v := v) (av := .val V.stale)
    (fun id hid => by cases hid) trivial trivial (fun _ _ _ => rfl) (Nat.le_refl _) (fun k hk => by cases hk)
    (fun ok hok => .val _ _ _ (hr.stale (fun k _ hk => hok k (by simp) hk.1 (.inl hk)) fun k hk => hok k (by simp) (mok k (h.lt q k hk).2) (.inr (.inl hk)))) (.inl rfl)
  exact ⟨_, fp', hk, h'⟩
theorem ofV_rel {ok : Nat → Prop} {v : Value} {x : V} {B : List Nat} (h : VR ok w v x B) (st : Nat) : AvR ok w v (AV.ofV st x) B := by
  unfold AV.ofV
  split
  · exact .own _ _ _ _ _ h.one_inv
  · cases h
  · exact .val _ _ _ h
/-- A part of a tuple: a value, or a map. -/
inductive PR (ok : Nat → Prop) (w : World) : Value → V → List Nat → Prop
  | v (v : Value) (x : V) (B : List Nat) (h : VR ok w v x B) : PR ok w v x B
  | map (r clk : Nat) (es : Array MapEntry) (kv : List (Int × Int)) (hg : w.heap[r]? = some (.map es clk)) (hk : MapHas es clk kv) : PR ok w (.map (some r)) (.mapv kv) [r]
theorem PR.step {ok ok' : Nat → Prop} {w w' : World} {v : Value} {x : V} {B : List Nat} (h : PR ok w v x B) (hok : ∀ k, k < w.heap.size → ok k → ok' k) (hw : ∀ k, k < w.heap.size → ok k ∨ k ∈ B → w'.heap[k]? = w.heap[k]?) : PR ok' w' v x B := by
  cases h with
  | v _ _ _ h => exact .v _ _ _ (h.step hok hw)
  | map r clk es kv hg hk => exact .map r clk es kv ((hw r (Array.getElem?_eq_some_iff.1 hg).1 (.inr (List.mem_cons_self ..))).trans hg) hk
theorem TR.putP {ok : Nat → Prop} {w : World} {v : Value} {x : V} {vs : List Value} {xs : List (Option V)} {B1 B2 : List Nat} (h1 : PR ok w v x B1) (h2 : TR ok w vs xs B2) (hd : ∀ b ∈ B1, b ∉ B2) : TR ok w (v :: vs) (some x :: xs) (B1 ++ B2) := by
  cases h1 with
  | v _ _ _ h => exact .put _ _ _ _ _ _ h h2 hd
  | map r clk es kv hg hk => exact .map r clk es kv _ _ _ hg hk h2 (hd r (by simp))
theorem PR.one_inv {ok : Nat → Prop} {w : World} {v : Value} {d : D} {B : List Nat} (h : PR ok w v (.one d) B) : Rd ok w v d B := by
  cases h with
  | v _ _ _ h => exact h.one_inv
theorem PR.ofV {ok : Nat → Prop} {w : World} {v : Value} {x : V} {B : List Nat} (h : PR ok w v x B) (st : Nat) : AvR ok w v (AV.ofV st x) B := by
  cases h with
  | v _ _ _ h => exact ofV_rel h st
  | map r clk es kv hg hk => exact .mapv r st clk es kv hg hk
theorem ofV_alias (st : Nat) (x : V) : aliasOf (AV.ofV st x) = none ∧ askStamp (AV.ofV st x) = none := by
  unfold AV.ofV; split <;> exact ⟨rfl, rfl⟩
theorem ofV_own (p : Nat → Prop) (st : Nat) (hp : p st) (x : V) : OwnIn p (AV.ofV st x) ∧ Stampless st (AV.ofV st x) := by
  unfold AV.ofV; split
  · exact ⟨hp, rfl⟩
  · exact ⟨hp, rfl⟩
  · exact ⟨trivial, trivial⟩

/-- A take, then the slot. -/
theorem Taken.val_done {fp1 : Nat → List Nat} {us : Upd} (h : Taken ok0 mine u u e tmps w fp st q us fp1) (hst : ¬ u st) (hq : tmps.size ≤ q) {v : Value} {x : V} (hr : VR (okOf ok0 fp1) w v x (fp1 q))
    {dst : Option Nat} {k : Upd → Option R} (hk : k (outU us dst (AV.ofV st x)) = some res) : Done ok0 mine u e st k res (putT tmps dst v) w :=
  h.sim.taken_done hst hq (ofV_rel hr st) (ofV_alias st x).1 (ofV_alias st x).2 (ofV_own _ st (.inr rfl) x).1 (ofV_own (fun _ => True) st trivial x).2 hk

theorem mvS_sound (h : Sim ok0 mine u u e tmps w fp) (hst : ¬ u st) (hv : ∀ s, tmps.size ≤ s → fp s = []) {s : Nat} {dst : Option Nat} {k : Upd → Option R} (hk : mvS e s dst k = some res) :
    Done ok0 mine u e st k res (putT tmps dst (tmps.getD s undef)) w := by
  have gv : ∀ {av : AV}, e.get s = av → av ≠ .dead → aliasOf av = none → askStamp av = none → OwnIn (fun k => u k ∨ k = st) av → Stampless st av → ∀ k : Upd → Option R, k (outU [(s, .dead)] dst av) = some res →
      Done ok0 mine u e st k res (putT tmps dst (tmps.getD s undef)) w := by
    intro av hs hnd h1 h2 h3 h4 k hk
    obtain ⟨v, hv1, hv2⟩ := h.slot (s := s) (by rw [hs]; exact hnd)
    have h' : Sim ok0 mine u (fun k => u k ∨ k = st) e tmps w fp := h.weak (fun _ h => h) (fun _ h => .inl h)
    obtain ⟨g1, g2⟩ := h'.giveup hv1 (Nat.le_refl tmps.size) (hv _ (Nat.le_refl _)) (B := fp s) (fun b hb => hb)
    have hr := h.rel s v hv1
    rw [hs] at hr
    rw [hv2]
    have e1 : fpMove fp s tmps.size (fp s) tmps.size = fp s := by simp [fpMove]
    exact Sim.taken_done (us := [(s, .dead)]) g1 hst (Nat.le_refl _) (by rw [e1]; exact hr.step (fun k _ => g2 k) fun _ _ _ => rfl) h1 h2 h3 h4 hk
  have al : ∀ {av : AV}, e.get s = av → NoOwn av → aliasOf av ≠ none → av ≠ .dead → (∀ v, AvR (okOf ok0 fp) w v av []) → ∀ k : Upd → Option R, k (outU [] dst av) = some res → Done ok0 mine u e st k res (putT tmps dst (tmps.getD s undef)) w := by
    intro av hs hno _ hnd hrel k hk
    obtain ⟨v, hv1, hv2⟩ := h.slot (s := s) (by rw [hs]; exact hnd)
    rw [hv2]
    have ha := h.al s v hv1
    have hask := h.ask s
    rw [hs] at ha hask
    exact h.found_done hst hv ⟨hrel v, ha, hask, hno⟩ hk
  unfold mvS at hk
  split at hk
  · rename_i id w' rows hs
    obtain ⟨v, hv1, hv2⟩ := h.slot (s := s) (by rw [hs]; simp)
    have hs2 := h.stamps s
    rw [hs] at hs2
    rw [hv2]
    refine h.found_done hst hv (av := .ref s none id) ⟨.ref _ _ _ _, fun e2 rows2 hL => hv1, fun i hi => by injection hi with hi; rw [← hi]; exact hs2, no_ref _ _ _⟩ hk
  · cases hk
  · rename_i d hnd hs
    obtain ⟨v, hv1, hv2⟩ := h.slot (s := s) (by rw [hs]; simp)
    rw [hv2]
    exact h.found_done hst hv (.val (.one _ _ _ (h.plain_nil hv1 hs fun e rows hd => hnd e rows hd))) hk
  · rename_i ds hs
    split at hk
    · rename_i hp
      obtain ⟨v, hv1, hv2⟩ := h.slot (s := s) (by rw [hs]; simp)
      obtain ⟨vs, rfl, h1⟩ := h.plain_agg hv1 hs hp
      rw [hv2]
      exact h.found_done hst hv (.val (.agg _ _ _ h1)) hk
    · exact gv hs (by simp) rfl rfl trivial trivial k hk
  · rename_i vs hs
    exact gv hs (by simp) rfl rfl trivial trivial k hk
  · rename_i ds hs
    obtain ⟨v, hv1, hv2, hr⟩ := h.rpAt hs
    rw [hv2]
    exact h.found_done hst hv (.rp hr) hk
  · rename_i f c hs
    obtain ⟨v, hv1, hv2⟩ := h.slot (s := s) (by rw [hs]; simp)
    have hr := h.rel s v hv1
    rw [hs] at hr
    rw [hv2]
    refine h.found_done hst hv (av := .clo f c) ⟨?_, trivial, fun _ h => (by cases h), no_clo _ _⟩ hk
    generalize hB : fp s = B at hr
    cases hr with
    | clo _ ps _ hl hh => exact .clo _ ps _ hl hh
  · rename_i t j id hs
    exact al hs (no_ref _ _ _) (by simp [aliasOf]) (by simp) (fun v => .ref _ _ _ _) k hk
  · rename_i t id o hs
    exact al hs (no_bp _ _ _) (by simp [aliasOf]) (by simp) (fun v => .bp _ _ _ _) k hk
  · rename_i t j id w' i o hs
    exact al hs (no_into _ _ _ _ _ _) (by simp [aliasOf]) (by simp) (fun v => .into _ _ _ _ _ _ _) k hk
  · rename_i t ver hs
    exact al hs (no_copy _ _) (by simp [aliasOf]) (by simp) (fun v => .copy _ _ _) k hk
  · rename_i b ver ds hs
    obtain ⟨g, cur, E, B, hv1, hv2, hfp, hg, hrd, hgB, hub, huv⟩ := h.boxAt hs
    rw [hv2]
    refine h.found_done hst hv (av := .bp s b 0) ⟨.bp _ _ _ _, fun v2 ds2 hL => ⟨g, hv1, rfl⟩, fun i hi => by injection hi with hi; rw [← hi]; exact hub, no_bp _ _ _⟩ hk
  · cases hk

theorem TR.at {ok : Nat → Prop} {vs : List Value} {xs : List (Option V)} {B : List Nat} (h : TR ok w vs xs B) {i : Nat} {x : V} (hi : xs[i]? = some (some x)) :
    ∃ v B1 B2, vs[i]? = some v ∧ PR ok w v x B1 ∧ TR ok w vs (xs.set i none) B2 ∧ (∀ b ∈ B1, b ∈ B) ∧ (∀ b ∈ B2, b ∈ B) ∧ ∀ b ∈ B1, b ∉ B2 := by
  induction h generalizing i with
  | nil => simp at hi
  | put v x' vs xs B1 B2 h1 h2 hd ih =>
    cases i with
    | zero =>
      simp at hi
      subst hi
      exact ⟨v, B1, B2, rfl, .v _ _ _ h1, .skip _ _ _ _ h2, fun b hb => by simp [hb], fun b hb => by simp [hb], hd⟩
    | succ i =>
      obtain ⟨v', C1, C2, g1, g2, g3, g4, g5, g6⟩ := ih (i := i) (by simpa using hi)
      refine ⟨v', C1, B1 ++ C2, by simpa using g1, g2, .put _ _ _ _ _ _ h1 g3 fun b hb hb' => hd b hb (g5 b hb'), fun b hb => by simp [g4 b hb], fun b hb => ?_, fun b hb hb' => ?_⟩
      · rcases List.mem_append.1 hb with hb | hb
        · simp [hb]
        · simp [g5 b hb]
      · rcases List.mem_append.1 hb' with hb' | hb'
        · exact hd b hb' (g4 b hb)
        · exact g6 b hb hb'
  | skip v vs xs B h ih =>
    cases i with
    | zero => simp at hi
    | succ i =>
      obtain ⟨v', C1, C2, g1, g2, g3, g4, g5, g6⟩ := ih (i := i) (by simpa using hi)
      exact ⟨v', C1, C2, by simpa using g1, g2, .skip _ _ _ _ g3, g4, g5, g6⟩
  | map r clk es kv vs xs B hg hk h hd ih =>
    cases i with
    | zero =>
      simp at hi
      subst hi
      exact ⟨_, [r], B, rfl, .map r clk es kv hg hk, .skip _ _ _ _ h, fun b hb => by simp at hb; simp [hb], fun b hb => by simp [hb], fun b hb => by simp at hb; subst hb; exact hd⟩
    | succ i =>
      obtain ⟨v', C1, C2, g1, g2, g3, g4, g5, g6⟩ := ih (i := i) (by simpa using hi)
      refine ⟨v', C1, r :: C2, by simpa using g1, g2, .map r clk es kv _ _ _ hg hk g3 fun hh => hd (g5 r hh), fun b hb => by simp [g4 b hb], fun b hb => ?_, fun b hb hb' => ?_⟩
      · rcases List.mem_cons.1 hb with rfl | hb
        · simp
        · simp [g5 b hb]
      · rcases List.mem_cons.1 hb' with rfl | hb'
        · exact hd (g4 b hb)
        · exact g6 b hb hb'

theorem extractS_sound (h : Sim ok0 mine u u e tmps w fp) (hst : ¬ u st) (hv : ∀ s, tmps.size ≤ s → fp s = []) {s i : Nat} {dst : Option Nat} {k : Upd → Option R} (hk : extractS e st s i dst k = some res) :
    ∃ vs v, tmps.getD s undef = .tuple vs ∧ vs[i]? = some v ∧ Done ok0 mine u e st k res (putT tmps dst v) w := by
  unfold extractS at hk
  split at hk
  · rename_i xs hs
    split at hk
    · rename_i x hi
      obtain ⟨v, hv1, hv2⟩ := h.slot (s := s) (by rw [hs]; simp)
      have hr := h.rel s v hv1
      rw [hs] at hr
      obtain ⟨vs, rfl, hr2⟩ : ∃ vs : List Value, v = .tuple vs.toArray ∧ TR (okOf ok0 fp) w vs xs (fp s) := by
        generalize fp s = B at hr
        cases hr with
        | tup vs _ _ hh => exact ⟨vs, rfl, hh⟩
      obtain ⟨v, B1, B2, g1, g2, g3, g4, g5, g6⟩ := hr2.at hi
      have hsl : s < tmps.size := (Array.getElem?_eq_some_iff.1 hv1).1
      let fp' : Nat → List Nat := fun x => if x = tmps.size then B1 else if x = s then B2 else fp x
      have e1 : fp' s = B2 := by have : s ≠ tmps.size := by omega
                                 simp [fp', this]
      have e2 : fp' tmps.size = B1 := by simp [fp']
      have hok' : ∀ k, okOf ok0 fp k → okOf ok0 fp' k := by
        intro k ho
        refine ⟨ho.1, fun x hx => ?_⟩
        by_cases hxs : x = s
        · subst hxs; rw [e1] at hx; exact ho.2 x (g5 k hx)
        · by_cases hxq : x = tmps.size
          · subst hxq; rw [e2] at hx; exact ho.2 s (g4 k hx)
          · simp only [fp', hxq, hxs, if_false] at hx; exact ho.2 x hx
      obtain ⟨k1, k2⟩ := h.turn (uo' := fun k => u k ∨ k = st) (fun k hk => .inl hk) (t := s) (q := tmps.size) hv1 (Nat.le_refl _) (av := .tup (xs.set i none)) (fp' := fp') (fun x hx1 hx2 => by simp [fp', hx1, hx2])
        (fun b hb => .inl (by rw [e1, e2] at hb; exact hb.elim (g5 b) (g4 b))) (fun b hb hb' => by rw [e1] at hb; rw [e2] at hb'; exact g6 b hb' hb) (fun _ _ _ => rfl) (Nat.le_refl _)
        (by rw [e1]; exact .tup _ _ _ (g3.step (fun k _ => hok' k) fun _ _ _ => rfl)) rfl trivial
        (fun x v' hx hv' ha => AliasOK.stale fun t ht => by
          rw [ha] at ht
          obtain rfl := Option.some.inj ht
          rw [Env.get_upd, if_pos ⟨rfl, by rw [h.size]; exact hsl⟩]
          exact ⟨fun _ _ _ hh => (by cases hh), fun _ _ _ hh => (by cases hh), fun _ _ hh => (by cases hh)⟩) trivial
      refine ⟨vs.toArray, v, hv2, by simpa using g1, ?_⟩
      have g2' : PR (okOf ok0 fp') w v x (fp' tmps.size) := by rw [e2]; exact g2.step (fun k _ => hok' k) fun _ _ _ => rfl
      exact Sim.taken_done (us := [(s, .tup (xs.set i none))]) k1 hst (Nat.le_refl _) (g2'.ofV st) (ofV_alias st x).1 (ofV_alias st x).2 (ofV_own _ st (.inr rfl) x).1 (ofV_own (fun _ => True) st trivial x).2 hk
    · cases hk
  · cases hk
end
end Go.Abs
