/- A small deterministic evaluator ('E') for a part of the model's code: abstract values, an abstract heap, the operations, the code. Plain definitions, no proof; nothing of a program stands here. -/
import Derived.Orders
import Derived.LoopN
namespace Go.PE

/-- Abstract values. A box is a row of cells (or a map) by its number in the abstract heap; a pointer or a slice into a row bears the row's version and how many cells lie behind it. 'psl' and 'pptr' are slices and pointers into memory that never turns: they bear what they read as. -/
inductive V where
  | bool (b : Bool)
  | int (k : IntKind) (n : Int)
  | str (s : ByteArray)
  | ptr (b v off ext : Nat)
  | nilptr
  | pptr (l : List V)
  | slice (b v off len es : Nat) (cap : Option Nat)
  | nils
  | emp0
  | psl (n : Nat) (l : List V)
  | map (b : Nat)
  | nilmap
  | fn (f : FuncId) (first captured : List V)
  | nilfn
  | iface (t : TypeId) (v : V)
  | nilif
  | agg (l : List V)
  | tup (l : List V)
  deriving Inhabited

mutual
def V.beq : V → V → Bool
  | .bool a, .bool b => a == b
  | .int k n, .int k' n' => k == k' && n == n'
  | .str s, .str s' => s.data.toList == s'.data.toList
  | .ptr b v o e, .ptr b' v' o' e' => b == b' && v == v' && o == o' && e == e'
  | .nilptr, .nilptr => true
  | .pptr l, .pptr l' => V.beqL l l'
  | .slice b v o n e c, .slice b' v' o' n' e' c' => b == b' && v == v' && o == o' && n == n' && e == e' && c == c'
  | .nils, .nils => true
  | .emp0, .emp0 => true
  | .psl n l, .psl n' l' => n == n' && V.beqL l l'
  | .map b, .map b' => b == b'
  | .nilmap, .nilmap => true
  | .fn f a c, .fn f' a' c' => f == f' && V.beqL a a' && V.beqL c c'
  | .nilfn, .nilfn => true
  | .iface t v, .iface t' v' => t == t' && V.beq v v'
  | .nilif, .nilif => true
  | .agg l, .agg l' => V.beqL l l'
  | .tup l, .tup l' => V.beqL l l'
  | _, _ => false
def V.beqL : List V → List V → Bool
  | [], [] => true
  | a :: l, b :: l' => V.beq a b && V.beqL l l'
  | _, _ => false
end

abbrev V.undef : V := .tup []

def V.cells : V → List V
  | .agg l => l
  | v => [v]

def V.one : V → Bool
  | .agg _ => false
  | .tup _ => false
  | _ => true

inductive Box where
  | cells (l : List V) (ver mn : Nat)
  | map (es : List (V × V × Nat)) (clock : Nat)
  deriving Inhabited

abbrev Heap := List Box
abbrev Env := List V

def Env.get (e : Env) (i : Nat) : V := e.getD i V.undef
def Env.put (e : Env) (d : Option Nat) (v : V) : Env := match d with | some d => e.set d v | none => e

inductive Opd where
  | t (n : Nat)
  | c (v : V)
  deriving Inhabited

def Opd.ev (e : Env) : Opd → V
  | .t n => e.getD n V.undef
  | .c v => v

/-! ### memory -/

def readCells (H : Heap) (b v off n : Nat) : Option (List V) :=
  match H[b]? with
  | some (.cells l _ mn) => if mn ≤ v ∧ off + n ≤ l.length then some ((l.drop off).take n) else none
  | _ => none

def mk (agg : Bool) (cs : List V) : Option V :=
  if agg then some (.agg cs) else match cs with | [v] => some v | _ => none

def loadE (agg : Bool) (n : Nat) (a : V) (H : Heap) : Option V :=
  match a with
  | .ptr b v off ext => if n ≤ ext then (readCells H b v off n).bind (mk agg) else none
  | .pptr l => if n ≤ l.length then mk agg (l.take n) else none
  | _ => none

def splice (l : List V) (off : Nat) (cs : List V) : List V := l.take off ++ cs ++ l.drop (off + cs.length)

/-- Write cells through a version of a row: the version must be the newest; the elder ones are dead then. -/
def writeCells (H : Heap) (b v off : Nat) (cs : List V) : Option Heap :=
  match H[b]? with
  | some (.cells l ver _) => if v = ver ∧ off + cs.length ≤ l.length ∧ cs.all V.one then some (H.set b (.cells (splice l off cs) ver ver)) else none
  | _ => none

def storeE (n : Nat) (a x : V) (H : Heap) : Option Heap :=
  match a with
  | .ptr b v off ext => if x.cells.length = n ∧ n ≤ ext then writeCells H b v off x.cells else none
  | _ => none

def newBox (cs : List V) (H : Heap) : Option (V × Heap) :=
  if cs.all V.one then some (.ptr H.length 0 0 cs.length, H ++ [.cells cs 0 0]) else none

/-! ### operations that touch no memory -/

def arithE (op : BinOp) (k : IntKind) (a b : Int) : Option V :=
  match op with
  | .add => some (.int k (k.wrap (a + b)))
  | .sub => some (.int k (k.wrap (a - b)))
  | .mul => some (.int k (k.wrap (a * b)))
  | .quo => if b = 0 then none else some (.int k (k.wrap (a.tdiv b)))
  | .rem => if b = 0 then none else some (.int k (a.tmod b))
  | .and => some (.int k (k.wrap (BitVec.ofInt k.bits a &&& BitVec.ofInt k.bits b).toNat))
  | .or => some (.int k (k.wrap (BitVec.ofInt k.bits a ||| BitVec.ofInt k.bits b).toNat))
  | .xor => some (.int k (k.wrap (BitVec.ofInt k.bits a ^^^ BitVec.ofInt k.bits b).toNat))
  | .eql => some (.bool (a == b))
  | .neq => some (.bool (a != b))
  | .lss => some (.bool (a < b))
  | .leq => some (.bool (a ≤ b))
  | .gtr => some (.bool (a > b))
  | .geq => some (.bool (a ≥ b))
  | _ => none

def shiftE (op : BinOp) (k : IntKind) (a b : Int) : Option V :=
  if b < 0 then none else
  match op with
  | .shl => some (.int k (k.wrap (a * 2 ^ (min b.toNat k.bits))))
  | .shr => some (.int k (a.fdiv (2 ^ (min b.toNat k.bits))))
  | _ => none

def catStr (x y : ByteArray) : ByteArray := ⟨(x.data.toList ++ y.data.toList).toArray⟩
def subStr (s : ByteArray) (l h : Nat) : ByteArray := ⟨((s.data.toList.drop l).take (h - l)).toArray⟩
def eqStr (x y : ByteArray) : Bool := x.data.toList == y.data.toList

def strE (op : BinOp) (x y : ByteArray) : Option V :=
  match op with
  | .add => if x.size + y.size < 2 ^ 62 then some (.str (catStr x y)) else none
  | _ => none

def binE (op : BinOp) (x y : V) : Option V :=
  match x, y with
  | .int k a, .int k' b => if op = .shl ∨ op = .shr then shiftE op k a b else if k = k' then arithE op k a b else none
  | .str a, .str b => strE op a b
  | _, _ => none

/-- The kinds of the cells of plain data. -/
inductive Leaf where
  | bool
  | int
  | str
  deriving DecidableEq, Inhabited

def eqLeaf : Leaf → V → V → Option Bool
  | .bool, .bool a, .bool b => some (a == b)
  | .int, .int k a, .int k' b => if k = k' then some (a == b) else none
  | .str, .str a, .str b => some (eqStr a b)
  | _, _, _ => none

/-- Are two rows of cells alike? None: they aren't rows of these kinds. -/
def eqLs : List Leaf → List V → List V → Option Bool
  | [], [], [] => some true
  | k :: ks, a :: l, b :: l' =>
    match eqLeaf k a b, eqLs ks l l' with
    | some x, some y => some (x && y)
    | _, _ => none
  | _, _, _ => none

/-- The kinds of values that can be nil. -/
inductive NK where
  | ptr
  | sl
  | mp
  | fn
  deriving DecidableEq, Inhabited

def isNilE : NK → V → Option Bool
  | .ptr, .nilptr => some true
  | .ptr, .ptr .. => some false
  | .ptr, .pptr _ => some false
  | .sl, .nils => some true
  | .sl, .slice .. => some false
  | .sl, .emp0 => some false
  | .sl, .psl .. => some false
  | .mp, .nilmap => some true
  | .mp, .map _ => some false
  | .fn, .nilfn => some true
  | .fn, .fn .. => some false
  | _, _ => none

/-- What '==' compares: plain data, or something that can be nil with nil. -/
inductive EqKind where
  | leaf (k : Leaf)
  | agg (ks : List Leaf)
  | nilR (k : NK)
  | nilL (k : NK)
  deriving DecidableEq, Inhabited

def eqE (ek : EqKind) (a b : V) : Option Bool :=
  match ek with
  | .leaf k => eqLeaf k a b
  | .agg ks => match a, b with | .agg l, .agg l' => eqLs ks l l' | _, _ => none
  | .nilR k => isNilE k a
  | .nilL k => isNilE k b

def unE (op : UnOp) (a : V) : Option V :=
  match op, a with
  | .not, .bool b => some (.bool !b)
  | .neg, .int k n => some (.int k (k.wrap (0 - n)))
  | _, _ => none

def fieldAddrE (off : Nat) : V → Option V
  | .ptr b v o ext => if off ≤ ext then some (.ptr b v (o + off) (ext - off)) else none
  | .pptr l => some (.pptr (l.drop off))
  | _ => none

def fieldE (agg : Bool) (off n : Nat) : V → Option V
  | .agg cs => if off + n ≤ cs.length then mk agg ((cs.drop off).take n) else none
  | _ => none

def indexAddrArrE (len es : Nat) (x i : V) : Option V :=
  match i with
  | .int _ i => if 0 ≤ i ∧ i < len then
      match x with
      | .ptr b v o ext => if i.toNat * es + es ≤ ext then some (.ptr b v (o + i.toNat * es) es) else none
      | .pptr l => some (.pptr ((l.drop (i.toNat * es)).take es))
      | _ => none
    else none
  | _ => none

def indexAddrSlE (es : Nat) (x i : V) : Option V :=
  match i with
  | .int _ i => match x with
      | .slice b v o len es' _ => if 0 ≤ i ∧ i < len ∧ es = es' then some (.ptr b v (o + i.toNat * es) es) else none
      | .psl n l => if 0 ≤ i ∧ i < n then some (.pptr ((l.drop (i.toNat * es)).take es)) else none
      | _ => none
  | _ => none

def indexE (arr : Option (Nat × Nat × Bool)) (x i : V) : Option V :=
  match i with
  | .int _ i => match arr, x with
      | some (len, es, agg), .agg cs => if 0 ≤ i ∧ i < len ∧ i.toNat * es + es ≤ cs.length then mk agg ((cs.drop (i.toNat * es)).take es) else none
      | none, .str s => if 0 ≤ i then match s.data.toList[i.toNat]? with | some b => some (.int .u8 b.toNat) | none => none else none
      | _, _ => none
  | _ => none

def boundE (y : Nat) (x : Option V) (d : Nat) : Option Nat :=
  match x with
  | none => some d
  | some (.int _ i) => if 0 ≤ i ∧ i ≤ y then some i.toNat else none
  | some _ => none

/-- 'x[lo:hi]' of a string. -/
def subsE (x : V) (lo hi : Option V) : Option V :=
  match x with
  | .str s => do
    let h ← boundE s.size hi s.size
    let l ← boundE h lo 0
    some (.str (subStr s l h))
  | _ => none

/-- 'x[lo:hi]' of a slice; an upper bound above the length is refused. -/
def sliceE (es : Nat) (x : V) (lo hi : Option V) : Option V :=
  match x with
  | .slice b v off len es' cap => do
    let h ← boundE len hi len
    let l ← boundE h lo 0
    if es = es' then some (.slice b v (off + l * es) (h - l) es (cap.map (· - l))) else none
  | .psl n cs => do
    let h ← boundE n hi n
    let l ← boundE h lo 0
    some (.psl (h - l) ((cs.drop (l * es)).take ((h - l) * es)))
  | .nils => do
    let h ← boundE 0 hi 0
    let _ ← boundE h lo 0
    some .nils
  | .emp0 => do
    let h ← boundE 0 hi 0
    let _ ← boundE h lo 0
    some .emp0
  | _ => none

/-- 'p[lo:hi]' of a pointer to an array. -/
def sliceArrE (len es : Nat) (x : V) (lo hi : Option V) : Option V :=
  match x with
  | .ptr b v off ext => do
    let h ← boundE len hi len
    let l ← boundE h lo 0
    if len * es ≤ ext then some (.slice b v (off + l * es) (h - l) es (some (len - l))) else none
  | _ => none

def fillE : List V → List (Nat × Nat × V) → Option (List V)
  | cells, [] => some cells
  | cells, (off, size, v) :: rest =>
    if v.cells.length = size ∧ off + size ≤ cells.length then fillE (splice cells off v.cells) rest else none

def lenE : V → Option Nat
  | .str s => some s.size
  | .slice _ _ _ len _ _ => some len
  | .psl n _ => some n
  | .nils => some 0
  | .emp0 => some 0
  | _ => none

/-- The length of a string, or of a slice. -/
def lenK (st : Bool) (v : V) : Option Nat :=
  match st, v with
  | true, .str s => some s.size
  | false, .slice _ _ _ len _ _ => some len
  | false, .psl n _ => some n
  | false, .nils => some 0
  | false, .emp0 => some 0
  | _, _ => none

def minE (mx : Bool) : V → V → Option V
  | .int k x, .int _ y => some (.int k (if mx then (if y > x then y else x) else (if y < x then y else x)))
  | _, _ => none

/-! ### operations over memory -/

/-- The cells of the first n elements of a slice or a string. -/
def firstE (es n : Nat) (x : V) (H : Heap) : Option (List V) :=
  match x with
  | .slice b v off len es' _ => if es = es' ∧ n ≤ len then readCells H b v off (n * es) else none
  | .psl m l => if n ≤ m ∧ n * es ≤ l.length then some (l.take (n * es)) else none
  | .nils => if n = 0 then some [] else none
  | .emp0 => if n = 0 then some [] else none
  | .str s => if es = 1 then some ((s.data.toList.take n).map fun b => .int .u8 b.toNat) else none
  | _ => none

def room (need bytes : Nat) : Bool := (2 * need + 1000) * bytes ≤ 2 ^ 47

def appendE (es bytes : Nat) (s x : V) (H : Heap) : Option (V × Heap) := do
  let k ← lenE x
  let xs ← firstE es k x H
  if xs.all V.one && xs.length == k * es then
    if k = 0 then
      match s with
      | .nils => some (.nils, H)
      | .emp0 => some (.emp0, H)
      | .slice b v off len es' cap => some (.slice b v off len es' cap, H)
      | .psl n l => some (.psl n l, H)
      | _ => none
    else
      match s with
      | .nils => if room (0 + k) bytes then some (.slice H.length 0 0 (0 + k) es none, H ++ [.cells xs 0 0]) else none
      | .emp0 => if room (0 + k) bytes then some (.slice H.length 0 0 (0 + k) es none, H ++ [.cells xs 0 0]) else none
      | .slice b v off len es' none =>
        match H[b]? with
        | some (.cells l ver mn) =>
          if es = es' ∧ v = ver ∧ mn ≤ v ∧ off + len * es = l.length ∧ room (len + k) bytes then
            some (.slice b (ver + 1) off (len + k) es none, H.set b (.cells (l ++ xs) (ver + 1) mn)) else none
        | _ => none
      | .slice b v off len es' (some c) =>
        if len + k ≤ c then none else
        match firstE es len (.slice b v off len es' (some c)) H with
        | some old => if old.all V.one && old.length == len * es && room (len + k) bytes then some (.slice H.length 0 0 (len + k) es none, H ++ [.cells (old ++ xs) 0 0]) else none
        | none => none
      | _ => none
  else none

def copyE (es : Nat) (d x : V) (H : Heap) : Option (V × Heap) :=
  match lenE x with
  | none => none
  | some k =>
    match d with
    | .slice b v off len es' _ =>
      match firstE es (min k len) x H with
      | some xs =>
        if es = es' ∧ xs.length = min k len * es then
          if min k len = 0 then some (.int .i64 0, H) else (writeCells H b v off xs).map fun H' => (.int .i64 (min k len : Nat), H')
        else none
      | none => none
    | .nils => some (.int .i64 0, H)
    | .emp0 => some (.int .i64 0, H)
    | _ => none

def repeatL (z : List V) : Nat → List V
  | 0 => []
  | n + 1 => z ++ repeatL z n

def clearE (zero : List V) (es : Nat) (d : V) (H : Heap) : Option (V × Heap) :=
  match d with
  | .nils => some (.tup [], H)
  | .emp0 => some (.tup [], H)
  | .slice _ _ _ 0 _ _ => some (.tup [], H)
  | .slice b v off len es' _ => if es = es' ∧ zero.length = es then (writeCells H b v off (repeatL zero len)).map fun H' => (.tup [], H') else none
  | _ => none

def findE (k : V) : List (V × V × Nat) → Option (Option V)
  | [] => some none
  | (k', v, _) :: es =>
    match k, k' with
    | .int a m, .int b n => if a = b then (if m == n then some (some v) else findE k es) else none
    | _, _ => none

def updE (k v : V) (clock : Nat) : List (V × V × Nat) → Option (List (V × V × Nat))
  | [] => some [(k, v, clock)]
  | (k', v', n') :: es =>
    match k, k' with
    | .int a m, .int b n => if a = b then (if m == n then some ((k, v, n') :: es) else (updE k v clock es).map ((k', v', n') :: ·)) else none
    | _, _ => none

def outE (zero : V) (ok : Bool) (r : Option V) : V := if ok then .tup [r.getD zero, .bool r.isSome] else r.getD zero

def lookupE (zero : V) (ok : Bool) (m k : V) (H : Heap) : Option V :=
  match m, k with
  | .nilmap, .int _ _ => some (outE zero ok none)
  | .map b, .int a n =>
    match H[b]? with
    | some (.map es _) => (findE (.int a n) es).map (outE zero ok)
    | _ => none
  | _, _ => none

def mapUpdE (m k v : V) (H : Heap) : Option Heap :=
  match m, k with
  | .map b, .int a n =>
    match H[b]? with
    | some (.map es clock) => (updE (.int a n) v clock es).map fun es' => H.set b (.map es' (if es'.length = es.length then clock else clock + 1))
    | _ => none
  | _, _ => none

/-! ### operations, compiled -/

inductive EOp where
  | move (x : Opd)
  | pick (c a b : Opd)
  | new (cells : List V)
  | box (n : Nat) (x : Opd)
  | build (zero : List V) (parts : List (Nat × Nat × Opd))
  | buildSl (es : Nat) (zero : List V) (len : Nat) (parts : List (Nat × Nat × Opd))
  | load (agg : Bool) (n : Nat) (a : Opd)
  | store (n : Nat) (a x : Opd)
  | nilc (x : Opd)
  | bin (op : BinOp) (x y : Opd)
  | eq (neg : Bool) (ek : EqKind) (x y : Opd)
  | un (op : UnOp) (x : Opd)
  | conv (k : IntKind) (x : Opd)
  | toStr (x : Opd)
  | mkIface (t : TypeId) (x : Opd)
  | mkFn (f : FuncId) (first captured : List Opd)
  | mkMap
  | mkSl (es bytes : Nat) (zero : List V) (len cap : Opd)
  | subs (x : Opd) (lo hi : Option Opd)
  | strId (x : Opd)
  | slice (es : Nat) (x : Opd) (lo hi : Option Opd)
  | sliceArr (len es : Nat) (x : Opd) (lo hi : Option Opd)
  | fieldAddr (off : Nat) (x : Opd)
  | field (agg : Bool) (off n : Nat) (x : Opd)
  | indexAddrArr (len es : Nat) (x i : Opd)
  | indexAddrSl (es : Nat) (x i : Opd)
  | index (arr : Option (Nat × Nat × Bool)) (x i : Opd)
  | lookup (zero : V) (ok : Bool) (m k : Opd)
  | mapUpd (m k v : Opd)
  | extract (x : Opd) (i : Nat)
  | call (f : FuncId) (args : List Opd)
  | callv (f : Opd) (args : List Opd)
  | len (st : Bool) (x : Opd)
  | lenArr (n : Nat)
  | append (es bytes : Nat) (s x : Opd)
  | copy (es : Nat) (d x : Opd)
  | clear (zero : List V) (es : Nat) (d : Opd)
  | minmax (mx : Bool) (x y : Opd)
  | fail
  deriving Inhabited

/-- The slots that an operation looks at. -/
def Opd.tm : Opd → List Nat
  | .t n => [n]
  | .c _ => []

def tmO : Option Opd → List Nat
  | some x => x.tm
  | none => []

def EOp.tms : EOp → List Nat
  | .move x | .box _ x | .load _ _ x | .nilc x | .un _ x | .conv _ x | .toStr x | .mkIface _ x | .strId x | .fieldAddr _ x | .field _ _ _ x | .extract x _ | .len _ x | .clear _ _ x => x.tm
  | .pick c a b => c.tm ++ a.tm ++ b.tm
  | .build _ ps | .buildSl _ _ _ ps => ps.flatMap fun p => p.2.2.tm
  | .store _ a x | .bin _ a x | .eq _ _ a x | .mkSl _ _ _ a x | .indexAddrArr _ _ a x | .indexAddrSl _ a x | .index _ a x | .lookup _ _ a x | .append _ _ a x | .copy _ a x | .minmax _ a x => a.tm ++ x.tm
  | .mkFn _ a c => a.flatMap Opd.tm ++ c.flatMap Opd.tm
  | .subs x lo hi | .slice _ x lo hi | .sliceArr _ _ x lo hi => x.tm ++ tmO lo ++ tmO hi
  | .mapUpd m k v => m.tm ++ k.tm ++ v.tm
  | .call _ args => args.flatMap Opd.tm
  | .callv f args => f.tm ++ args.flatMap Opd.tm
  | .new _ | .mkMap | .lenArr _ | .fail => []

/-- What is known of the functions that are called: from arguments and a heap, what comes back. -/
abbrev Ctx := FuncId → List V → Heap → Option (V × Heap)

def pure1 (H : Heap) (v : Option V) : Option (V × Heap) := v.map fun v => (v, H)

def bytesE : List V → Option (List UInt8)
  | [] => some []
  | .int .u8 b :: l => (bytesE l).map (UInt8.ofNat b.toNat :: ·)
  | _ => none

def evalOp (X : Ctx) (e : Env) (H : Heap) : EOp → Option (V × Heap)
  | .move x => some (x.ev e, H)
  | .pick c a b => match c.ev e with | .bool t => some (if t then a.ev e else b.ev e, H) | _ => none
  | .new cells => newBox cells H
  | .box _ x => newBox (x.ev e).cells H
  | .build zero parts => pure1 H ((fillE zero (parts.map fun p => (p.1, p.2.1, p.2.2.ev e))).map .agg)
  | .buildSl es zero len parts =>
    if len = 0 then some (.emp0, H) else
    match fillE (repeatL zero len) (parts.map fun p => (p.1, p.2.1, p.2.2.ev e)) with
    | some cs => if cs.all V.one then some (.slice H.length 0 0 len es (some len), H ++ [.cells cs 0 0]) else none
    | none => none
  | .load agg n a => pure1 H (loadE agg n (a.ev e) H)
  | .store n a x => (storeE n (a.ev e) (x.ev e) H).map fun H' => (V.undef, H')
  | .nilc x => match x.ev e with | .ptr b v o n => some (.ptr b v o n, H) | .pptr l => some (.pptr l, H) | .fn f a c => some (.fn f a c, H) | _ => none
  | .bin op x y => pure1 H (binE op (x.ev e) (y.ev e))
  | .eq neg ek x y => pure1 H ((eqE ek (x.ev e) (y.ev e)).map fun b => .bool (b != neg))
  | .un op x => pure1 H (unE op (x.ev e))
  | .conv k x => match x.ev e with | .int _ n => some (.int k (k.wrap n), H) | _ => none
  | .toStr x =>
    match lenE (x.ev e), x.ev e with
    | some _, .str _ => none
    | some n, v => match firstE 1 n v H with
      | some cs => pure1 H ((bytesE cs).map fun bs => .str ⟨bs.toArray⟩)
      | none => none
    | none, _ => none
  | .mkIface t x => some (.iface t (x.ev e), H)
  | .mkFn f a c => some (.fn f (a.map (Opd.ev e)) (c.map (Opd.ev e)), H)
  | .mkMap => some (.map H.length, H ++ [.map [] 0])
  | .mkSl es bytes zero len cap => match len.ev e, cap.ev e with
    | .int _ l, .int _ c => if 0 ≤ l ∧ l = c ∧ c < 2 ^ 40 ∧ c * bytes ≤ 2 ^ 47 ∧ zero.all V.one ∧ zero.length = es then
        some (if l = 0 then (.emp0, H) else (.slice H.length 0 0 l.toNat es (some c.toNat), H ++ [.cells (repeatL zero c.toNat) 0 0])) else none
    | _, _ => none
  | .subs x lo hi => pure1 H (subsE (x.ev e) (lo.map (Opd.ev e)) (hi.map (Opd.ev e)))
  | .strId x => match x.ev e with | .str s => some (.str s, H) | _ => none
  | .slice es x lo hi => pure1 H (sliceE es (x.ev e) (lo.map (Opd.ev e)) (hi.map (Opd.ev e)))
  | .sliceArr len es x lo hi => pure1 H (sliceArrE len es (x.ev e) (lo.map (Opd.ev e)) (hi.map (Opd.ev e)))
  | .fieldAddr off x => pure1 H (fieldAddrE off (x.ev e))
  | .field agg off n x => pure1 H (fieldE agg off n (x.ev e))
  | .indexAddrArr len es x i => pure1 H (indexAddrArrE len es (x.ev e) (i.ev e))
  | .indexAddrSl es x i => pure1 H (indexAddrSlE es (x.ev e) (i.ev e))
  | .index arr x i => pure1 H (indexE arr (x.ev e) (i.ev e))
  | .lookup zero ok m k => pure1 H (lookupE zero ok (m.ev e) (k.ev e) H)
  | .mapUpd m k v => (mapUpdE (m.ev e) (k.ev e) (v.ev e) H).map fun H' => (V.undef, H')
  | .extract x i => match x.ev e with | .tup l => pure1 H l[i]? | _ => none
  | .call f args => X f (args.map (Opd.ev e)) H
  | .callv f args => match f.ev e with | .fn f a c => X f (a ++ args.map (Opd.ev e) ++ c) H | _ => none
  | .len st x => (lenK st (x.ev e)).map fun (n : Nat) => (V.int .i64 (n : Int), H)
  | .lenArr n => some (V.int .i64 n, H)
  | .append es bytes s x => appendE es bytes (s.ev e) (x.ev e) H
  | .copy es d x => copyE es (d.ev e) (x.ev e) H
  | .clear zero es d => clearE zero es (d.ev e) H
  | .minmax mx x y => pure1 H (minE mx (x.ev e) (y.ev e))
  | .fail => none

structure EOper where
  dst : Option Nat
  op : EOp
  guard : Option (Nat × Bool) := none
  deriving Inhabited

def EOper.tms (o : EOper) : List Nat := o.op.tms ++ (match o.guard with | some (t, _) => [t] | none => [])

def EOper.wanted (o : EOper) (e : Env) : Bool :=
  match o.guard with
  | none => true
  | some (t, want) => match e.getD t V.undef with | .bool b => b == want | _ => false

def evalOper (X : Ctx) (o : EOper) (e : Env) (H : Heap) : Option (Env × Heap) :=
  if o.wanted e then (evalOp X e H o.op).map fun (v, H') => (e.put o.dst v, H') else some (e.put o.dst V.undef, H)

def evalOps (X : Ctx) : List EOper → Env → Heap → Option (Env × Heap)
  | [], e, H => some (e, H)
  | o :: os, e, H => (evalOper X o e H).bind fun (e, H) => evalOps X os e H

/-- In a region that draws its order: an operation that only computes or makes memory; one that reads, with the least and the greatest number of writers that can be ahead of it; one that writes, or calls. -/
inductive DK where
  | N
  | R (lo hi : Nat)
  | W
  deriving DecidableEq, Inhabited

/-- Is what was read the same in each state of the heap in which it may be read? -/
def sameRead (X : Ctx) (e : Env) (op : EOp) (v : V) (snaps : List Heap) : Bool :=
  snaps.all fun H => match evalOp X e H op with | some (v', _) => V.beq v v' | none => false

/-- The operations of a region that draws its order, by the text; 'pend': what was read, to be held against the states that come; 'snaps': the states ahead of each writer that was passed. -/
def evalDraw (X : Ctx) : List (EOper × DK) → Env → Heap → List Heap → List (Env × EOp × V × Nat × Nat) → Option (Env × Heap × List Heap × List (Env × EOp × V × Nat × Nat))
  | [], e, H, snaps, pend => some (e, H, snaps ++ [H], pend)
  | (o, k) :: os, e, H, snaps, pend =>
    match k with
    | .N => (evalOper X o e H).bind fun (e', H') => evalDraw X os e' H' snaps pend
    | .W => (evalOper X o e H).bind fun (e', H') => evalDraw X os e' H' (snaps ++ [H]) pend
    | .R lo hi =>
      if o.wanted e then
        (evalOp X e H o.op).bind fun (v, H') => evalDraw X os (e.put o.dst v) H' snaps (if lo = hi then pend else (e, o.op, v, lo, hi) :: pend)
      else evalDraw X os (e.put o.dst V.undef) H snaps pend

def drawOk (X : Ctx) (snaps : List Heap) (pend : List (Env × EOp × V × Nat × Nat)) : Bool :=
  pend.all fun (e, op, v, lo, hi) => sameRead X e op v ((snaps.drop lo).take (hi + 1 - lo))

inductive ECode where
  | skip
  | ops (l : List EOper)
  | draw (l : List (EOper × DK))
  | seq (a b : ECode)
  | cond (c : Opd) (a b : ECode)
  | block (id : Nat) (c : ECode)
  | loop (c : ECode)
  | exit (id : Nat)
  | ret
  | fail
  deriving Inhabited

inductive Ex where
  | normal
  | exit (id : Nat)
  | ret
  deriving DecidableEq, Inhabited

def loopE (f : Env → Heap → Option (Ex × Env × Heap)) : Nat → Env → Heap → Option (Ex × Env × Heap)
  | 0, _, _ => none
  | n + 1, e, H =>
    match f e H with
    | some (.normal, e', H') => loopE f n e' H'
    | r => r

def evalCode (X : Ctx) (fuel : Nat) : ECode → Env → Heap → Option (Ex × Env × Heap)
  | .skip, e, H => some (.normal, e, H)
  | .ops l, e, H => (evalOps X l e H).map fun (e, H) => (.normal, e, H)
  | .draw l, e, H =>
    match evalDraw X l e H [] [] with
    | some (e', H', snaps, pend) => if drawOk X snaps pend then some (.normal, e', H') else none
    | none => none
  | .seq a b, e, H =>
    match evalCode X fuel a e H with
    | some (.normal, e', H') => evalCode X fuel b e' H'
    | r => r
  | .cond c a b, e, H => match c.ev e with
    | .bool true => evalCode X fuel a e H
    | .bool false => evalCode X fuel b e H
    | _ => none
  | .block id c, e, H =>
    match evalCode X fuel c e H with
    | some (.exit i, e', H') => some (if i = id then .normal else .exit i, e', H')
    | r => r
  | .loop c, e, H => loopE (evalCode X fuel c) fuel e H
  | .exit id, e, H => some (.exit id, e, H)
  | .ret, e, H => some (.ret, e, H)
  | .fail, _, _ => none

inductive ERes where
  | tmp (t : Nat)
  | cell (a : Nat) (agg : Bool) (n : Nat)
  deriving Inhabited

structure EFunc where
  nparams : Nat
  ntmps : Nat
  results : List ERes
  body : ECode
  deriving Inhabited

def evalRes (e : Env) (H : Heap) : ERes → Option V
  | .tmp t => some (e.getD t V.undef)
  | .cell a agg n => loadE agg n (e.getD a V.undef) H

def resultsE (rs : List ERes) (e : Env) (H : Heap) : Option V :=
  match rs.mapM (evalRes e H) with
  | some [v] => some v
  | some l => some (.tup l)
  | none => none

def evalFunc (X : Ctx) (fuel : Nat) (f : EFunc) (args : List V) (H : Heap) : Option (V × Heap) :=
  if args.length ≤ f.ntmps then
    match evalCode X fuel f.body (args ++ List.replicate (f.ntmps - args.length) V.undef) H with
    | some (.normal, e, H') => (resultsE f.results e H').map fun v => (v, H')
    | some (.ret, e, H') => (resultsE f.results e H').map fun v => (v, H')
    | _ => none
  else none

end Go.PE
