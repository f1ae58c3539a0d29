/- The evaluator, its compiler, the relation to the model. Nothing of a program stands here. -/
import Derived.Orders
import Derived.LoopN
import Derived.Laws.CopyRow
import Derived.Laws.World
import Derived.Tactics
namespace Go.PE
structure Dom where
  id : Option Nat
  off : Int
  lo : Int
  hi : Int
  m : Nat
  r : Nat
  deriving DecidableEq, Inhabited
inductive V where
  | bool (b : Bool)
  | int (k : IntKind) (n : Int)
  | str (s : ByteArray)
  | ptr (b v off ext : Nat)
  | nilptr
  | pptr (l : List V)
  | slice (b v off len es : Nat) (cap : Option Nat)
  | nils
  | emp0
  | psl (n : Nat) (l : List V)
  | map (b : Nat)
  | nilmap
  | fn (f : FuncId) (first captured : List V)
  | nilfn
  | iface (t : TypeId) (v : V)
  | nilif
  | agg (l : List V)
  | tup (l : List V)
  | top
  | abs (k : IntKind) (d : Dom)
  | syms (i lo hi : Nat)
  deriving Inhabited
mutual
def V.beq : V → V → Bool
  | .bool a, .bool b => a == b
  | .int k n, .int k' n' => k == k' && n == n'
  | .str s, .str s' => s.data.toList == s'.data.toList
  | .ptr b v o e, .ptr b' v' o' e' => b == b' && v == v' && o == o' && e == e'
  | .nilptr, .nilptr => true
  | .pptr l, .pptr l' => V.beqL l l'
  | .slice b v o n e c, .slice b' v' o' n' e' c' => b == b' && v == v' && o == o' && n == n' && e == e' && c == c'
  | .nils, .nils => true
  | .emp0, .emp0 => true
  | .psl n l, .psl n' l' => n == n' && V.beqL l l'
  | .map b, .map b' => b == b'
  | .nilmap, .nilmap => true
  | .fn f a c, .fn f' a' c' => f == f' && V.beqL a a' && V.beqL c c'
  | .nilfn, .nilfn => true
  | .iface t v, .iface t' v' => t == t' && V.beq v v'
  | .nilif, .nilif => true
  | .agg l, .agg l' => V.beqL l l'
  | .tup l, .tup l' => V.beqL l l'
  | .top, .top => true
  | .abs k d, .abs k' d' => k == k' && d == d'
  | .syms i l h, .syms i' l' h' => i == i' && l == l' && h == h'
  | _, _ => false
def V.beqL : List V → List V → Bool
  | [], [] => true
  | a :: l, b :: l' => V.beq a b && V.beqL l l'
  | _, _ => false
end
abbrev V.undef : V := .tup []
def V.cells : V → List V
  | .agg l => l
  | v => [v]
def V.one : V → Bool
  | .agg _ => false
  | .tup _ => false
  | _ => true
inductive Box where
  | cells (l : List V) (ver mn : Nat)
  | map (es : List (V × V × Nat)) (clock : Nat)
  deriving Inhabited
abbrev Heap := List Box
abbrev Env := List V
def Env.get (e : Env) (i : Nat) : V := e.getD i V.undef
def Env.put (e : Env) (d : Option Nat) (v : V) : Env := match d with | some d => e.set d v | none => e
inductive Opd where
  | t (n : Nat)
  | c (v : V)
  deriving Inhabited
def Opd.ev (e : Env) : Opd → V
  | .t n => e.getD n V.undef
  | .c v => v
def readCells (H : Heap) (b v off n : Nat) : Option (List V) :=
  match H[b]? with
  | some (.cells l _ mn) => if mn ≤ v ∧ off + n ≤ l.length then some ((l.drop off).take n) else none
  | _ => none
def mk (agg : Bool) (cs : List V) : Option V :=
  if agg then some (.agg cs) else match cs with | [v] => some v | _ => none
def loadE (agg : Bool) (n : Nat) (a : V) (H : Heap) : Option V :=
  match a with
  | .ptr b v off ext => if n ≤ ext then (readCells H b v off n).bind (mk agg) else none
  | .pptr l => if n ≤ l.length then mk agg (l.take n) else none
  | _ => none
def splice (l : List V) (off : Nat) (cs : List V) : List V := l.take off ++ cs ++ l.drop (off + cs.length)
def writeCells (H : Heap) (b v off : Nat) (cs : List V) : Option Heap :=
  match H[b]? with
  | some (.cells l ver _) => if v = ver ∧ off + cs.length ≤ l.length ∧ cs.all V.one then some (H.set b (.cells (splice l off cs) ver ver)) else none
  | _ => none
def storeE (n : Nat) (a x : V) (H : Heap) : Option Heap :=
  match a with
  | .ptr b v off ext => if x.cells.length = n ∧ n ≤ ext then writeCells H b v off x.cells else none
  | _ => none
def newBox (cs : List V) (H : Heap) : Option (V × Heap) :=
  if cs.all V.one then some (.ptr H.length 0 0 cs.length, H ++ [.cells cs 0 0]) else none
def arithE (op : BinOp) (k : IntKind) (a b : Int) : Option V :=
  match op with
  | .add => some (.int k (k.wrap (a + b)))
  | .sub => some (.int k (k.wrap (a - b)))
  | .mul => some (.int k (k.wrap (a * b)))
  | .quo => if b = 0 then none else some (.int k (k.wrap (a.tdiv b)))
  | .rem => if b = 0 then none else some (.int k (a.tmod b))
  | .and => some (.int k (k.wrap (BitVec.ofInt k.bits a &&& BitVec.ofInt k.bits b).toNat))
  | .or => some (.int k (k.wrap (BitVec.ofInt k.bits a ||| BitVec.ofInt k.bits b).toNat))
  | .xor => some (.int k (k.wrap (BitVec.ofInt k.bits a ^^^ BitVec.ofInt k.bits b).toNat))
  | .eql => some (.bool (a == b))
  | .neq => some (.bool (a != b))
  | .lss => some (.bool (a < b))
  | .leq => some (.bool (a ≤ b))
  | .gtr => some (.bool (a > b))
  | .geq => some (.bool (a ≥ b))
  | _ => none
def kLo (k : IntKind) : Int := if k.signed then -(2 ^ (k.bits - 1) : Nat) else 0
def kHi (k : IntKind) : Int := if k.signed then (2 ^ (k.bits - 1) : Nat) - 1 else (2 ^ k.bits : Nat) - 1
def fitsK (k : IntKind) (d : Dom) : Bool := decide (kLo k ≤ d.lo) && decide (d.hi ≤ kHi k)
def Dom.shift (d : Dom) (c : Int) : Dom := if d.r < d.m then ⟨d.id, d.off + c, d.lo + c, d.hi + c, d.m, ((d.r + c) % (d.m : Int)).toNat⟩ else ⟨d.id, d.off + c, d.lo + c, d.hi + c, 1, 0⟩
def absE (op : BinOp) (k : IntKind) (d : Dom) (c : Int) : Option V :=
  match op with
  | .add => if fitsK k (d.shift c) then some (.abs k (d.shift c)) else none
  | .sub => if fitsK k (d.shift (-c)) then some (.abs k (d.shift (-c))) else none
  | .rem => if 0 ≤ d.lo ∧ 0 < c ∧ ((d.m : Int) % c = 0) ∧ d.r < d.m then some (.int k ((d.r : Int) % c)) else if 0 ≤ d.lo ∧ 0 < c ∧ (d.m : Int) = c ∧ ¬ d.r < d.m then some (.abs k ⟨none, 0, 1, c - 1, 1, 0⟩) else none
  | .quo => if 0 ≤ d.lo ∧ 0 < c ∧ ((d.m : Int) % c = 0) ∧ fitsK k d = true ∧ d.r < d.m then some (.abs k ⟨none, 0, d.lo / c, d.hi / c, d.m / c.toNat, d.r / c.toNat⟩) else none
  | .lss => if d.hi < c then some (.bool true) else if c ≤ d.lo then some (.bool false) else none
  | .leq => if d.hi ≤ c then some (.bool true) else if c < d.lo then some (.bool false) else none
  | .gtr => if c < d.lo then some (.bool true) else if d.hi ≤ c then some (.bool false) else none
  | .geq => if c ≤ d.lo then some (.bool true) else if d.hi < c then some (.bool false) else none
  | _ => none
def abs2E (op : BinOp) (d d' : Dom) : Option V :=
  if d.id.isSome && d.id == d'.id then
    match op with
    | .lss => some (.bool (decide (d.off < d'.off)))
    | .leq => some (.bool (decide (d.off ≤ d'.off)))
    | .gtr => some (.bool (decide (d.off > d'.off)))
    | .geq => some (.bool (decide (d.off ≥ d'.off)))
    | _ => none
  else none
def absE' (op : BinOp) (k : IntKind) (c : Int) (d : Dom) : Option V :=
  match op with
  | .add => absE .add k d c
  | .lss => absE .gtr k d c
  | .leq => absE .geq k d c
  | .gtr => absE .lss k d c
  | .geq => absE .leq k d c
  | _ => none
def shiftE (op : BinOp) (k : IntKind) (a b : Int) : Option V :=
  if b < 0 then none else
  match op with
  | .shl => some (.int k (k.wrap (a * 2 ^ (min b.toNat k.bits))))
  | .shr => some (.int k (a.fdiv (2 ^ (min b.toNat k.bits))))
  | _ => none
def catStr (x y : ByteArray) : ByteArray := ⟨(x.data.toList ++ y.data.toList).toArray⟩
def subStr (s : ByteArray) (l h : Nat) : ByteArray := ⟨((s.data.toList.drop l).take (h - l)).toArray⟩
def eqStr (x y : ByteArray) : Bool := x.data.toList == y.data.toList
def strE (op : BinOp) (x y : ByteArray) : Option V :=
  match op with
  | .add => if x.size + y.size < 2 ^ 62 then some (.str (catStr x y)) else none
  | _ => none
def binE (op : BinOp) (x y : V) : Option V :=
  match x, y with
  | .int k a, .int k' b => if op = .shl ∨ op = .shr then shiftE op k a b else if k = k' then arithE op k a b else none
  | .str a, .str b => strE op a b
  | .abs k d, .int k' b => if op = .shl ∨ op = .shr then none else if k = k' then absE op k d b else none
  | .int k a, .abs k' d => if op = .shl ∨ op = .shr then none else if k = k' then absE' op k a d else none
  | .abs k d, .abs k' d' => if op = .shl ∨ op = .shr then none else if k = k' then abs2E op d d' else none
  | .str a, .syms i l h => if op = .add ∧ a.size = 0 ∧ h < 2 ^ 61 then some (.syms i l h) else none
  | .syms i l h, .str b => if op = .add ∧ b.size = 0 ∧ h < 2 ^ 61 then some (.syms i l h) else none
  | _, _ => none
inductive Leaf where
  | bool
  | int
  | str
  deriving DecidableEq, Inhabited
def Dom.eqc (d : Dom) (c : Int) : Option Bool :=
  if c < d.lo ∨ d.hi < c ∨ (d.r < d.m ∧ c % (d.m : Int) ≠ (d.r : Int) % (d.m : Int)) then some false else if d.lo = c ∧ d.hi = c then some true else none
def eqLeaf3 : Leaf → V → V → Option (Option Bool)
  | .bool, .bool a, .bool b => some (some (a == b))
  | .int, .int k a, .int k' b => if k = k' then some (some (a == b)) else none
  | .str, .str a, .str b => some (some (eqStr a b))
  | .int, .abs k d, .int k' b => if k = k' then some (d.eqc b) else none
  | .int, .int k a, .abs k' d => if k = k' then some (d.eqc a) else none
  | .int, .abs k d, .abs k' d' => if k = k' then some (if d.id.isSome && d.id == d'.id then some (d.off == d'.off) else none) else none
  | .str, .syms i _ _, .syms j _ _ => some (if i = j then some true else none)
  | .str, .syms _ lo hi, .str b => some (if b.size < lo ∨ hi < b.size then some false else none)
  | .str, .str a, .syms _ lo hi => some (if a.size < lo ∨ hi < a.size then some false else none)
  | _, _, _ => none
def eqLeaf (k : Leaf) (a b : V) : Option Bool := (eqLeaf3 k a b).bind id
def and3 : Option Bool → Option Bool → Option Bool
  | some false, _ => some false
  | _, some false => some false
  | some true, some true => some true
  | _, _ => none
def eqLs3 : List Leaf → List V → List V → Option (Option Bool)
  | [], [], [] => some (some true)
  | k :: ks, a :: l, b :: l' =>
    match eqLeaf3 k a b, eqLs3 ks l l' with
    | some x, some y => some (and3 x y)
    | _, _ => none
  | _, _, _ => none
def eqLs (ks : List Leaf) (l l' : List V) : Option Bool := (eqLs3 ks l l').bind id
inductive NK where
  | ptr
  | sl
  | mp
  | fn
  deriving DecidableEq, Inhabited
def isNilE : NK → V → Option Bool
  | .ptr, .nilptr => some true
  | .ptr, .ptr .. => some false
  | .ptr, .pptr _ => some false
  | .sl, .nils => some true
  | .sl, .slice .. => some false
  | .sl, .emp0 => some false
  | .sl, .psl .. => some false
  | .mp, .nilmap => some true
  | .mp, .map _ => some false
  | .fn, .nilfn => some true
  | .fn, .fn .. => some false
  | _, _ => none
inductive EqKind where
  | leaf (k : Leaf)
  | agg (ks : List Leaf)
  | nilR (k : NK)
  | nilL (k : NK)
  deriving DecidableEq, Inhabited
def eqE (ek : EqKind) (a b : V) : Option Bool :=
  match ek with
  | .leaf k => eqLeaf k a b
  | .agg ks => match a, b with | .agg l, .agg l' => eqLs ks l l' | _, _ => none
  | .nilR k => isNilE k a
  | .nilL k => isNilE k b
def unE (op : UnOp) (a : V) : Option V :=
  match op, a with
  | .not, .bool b => some (.bool !b)
  | .neg, .int k n => some (.int k (k.wrap (0 - n)))
  | _, _ => none
def fieldAddrE (off : Nat) : V → Option V
  | .ptr b v o ext => if off ≤ ext then some (.ptr b v (o + off) (ext - off)) else none
  | .pptr l => some (.pptr (l.drop off))
  | _ => none
def fieldE (agg : Bool) (off n : Nat) : V → Option V
  | .agg cs => if off + n ≤ cs.length then mk agg ((cs.drop off).take n) else none
  | _ => none
def indexAddrArrE (len es : Nat) (x i : V) : Option V :=
  match i with
  | .int _ i => if 0 ≤ i ∧ i < len then
      match x with
      | .ptr b v o ext => if i.toNat * es + es ≤ ext then some (.ptr b v (o + i.toNat * es) es) else none
      | .pptr l => some (.pptr ((l.drop (i.toNat * es)).take es))
      | _ => none
    else none
  | _ => none
def indexAddrSlE (es : Nat) (x i : V) : Option V :=
  match i with
  | .int _ i => match x with
      | .slice b v o len es' _ => if 0 ≤ i ∧ i < len ∧ es = es' then some (.ptr b v (o + i.toNat * es) es) else none
      | .psl n l => if 0 ≤ i ∧ i < n then some (.pptr ((l.drop (i.toNat * es)).take es)) else none
      | _ => none
  | _ => none
def indexE (arr : Option (Nat × Nat × Bool)) (x i : V) : Option V :=
  match i with
  | .int _ i => match arr, x with
      | some (len, es, agg), .agg cs => if 0 ≤ i ∧ i < len ∧ i.toNat * es + es ≤ cs.length then mk agg ((cs.drop (i.toNat * es)).take es) else none
      | none, .str s => if 0 ≤ i then match s.data.toList[i.toNat]? with | some b => some (.int .u8 b.toNat) | none => none else none
      | _, _ => none
  | _ => none
def boundE (y : Nat) (x : Option V) (d : Nat) : Option Nat :=
  match x with
  | none => some d
  | some (.int _ i) => if 0 ≤ i ∧ i ≤ y then some i.toNat else none
  | some _ => none
def subsE (x : V) (lo hi : Option V) : Option V :=
  match x with
  | .str s => do
    let h ← boundE s.size hi s.size
    let l ← boundE h lo 0
    some (.str (subStr s l h))
  | .syms i n m => if n = m then do
      let h ← boundE m hi m
      let l ← boundE h lo 0
      if l = h then some (.str ⟨#[]⟩) else if l = 0 ∧ h = m then some (.syms i n m) else none
    else none
  | _ => none
def sliceE (es : Nat) (x : V) (lo hi : Option V) : Option V :=
  match x with
  | .slice b v off len es' cap => do
    let h ← boundE len hi len
    let l ← boundE h lo 0
    if es = es' then some (.slice b v (off + l * es) (h - l) es (cap.map (· - l))) else none
  | .psl n cs => do
    let h ← boundE n hi n
    let l ← boundE h lo 0
    some (.psl (h - l) ((cs.drop (l * es)).take ((h - l) * es)))
  | .nils => do
    let h ← boundE 0 hi 0
    let _ ← boundE h lo 0
    some .nils
  | .emp0 => do
    let h ← boundE 0 hi 0
    let _ ← boundE h lo 0
    some .emp0
  | _ => none
def sliceArrE (len es : Nat) (x : V) (lo hi : Option V) : Option V :=
  match x with
  | .ptr b v off ext => do
    let h ← boundE len hi len
    let l ← boundE h lo 0
    if len * es ≤ ext then some (.slice b v (off + l * es) (h - l) es (some (len - l))) else none
  | _ => none
def fillE : List V → List (Nat × Nat × V) → Option (List V)
  | cells, [] => some cells
  | cells, (off, size, v) :: rest =>
    if v.cells.length = size ∧ off + size ≤ cells.length then fillE (splice cells off v.cells) rest else none
def lenE : V → Option Nat
  | .str s => some s.size
  | .slice _ _ _ len _ _ => some len
  | .psl n _ => some n
  | .nils => some 0
  | .emp0 => some 0
  | _ => none
def lenK (st : Bool) (v : V) : Option Nat :=
  match st, v with
  | true, .str s => some s.size
  | false, .slice _ _ _ len _ _ => some len
  | false, .psl n _ => some n
  | false, .nils => some 0
  | false, .emp0 => some 0
  | _, _ => none
def lenV (st : Bool) (v : V) : Option V :=
  match lenK st v with
  | some n => some (.int .i64 (n : Int))
  | none => match st, v with
    | true, .syms _ lo hi => if hi < 2 ^ 63 then (if lo = hi then some (.int .i64 (hi : Int)) else some (.abs .i64 ⟨none, 0, lo, hi, 1, 0⟩)) else none
    | _, _ => none
def minE (mx : Bool) : V → V → Option V
  | .int k x, .int _ y => some (.int k (if mx then (if y > x then y else x) else (if y < x then y else x)))
  | _, _ => none
def firstE (es n : Nat) (x : V) (H : Heap) : Option (List V) :=
  match x with
  | .slice b v off len es' _ => if es = es' ∧ n ≤ len then readCells H b v off (n * es) else none
  | .psl m l => if n ≤ m ∧ n * es ≤ l.length then some (l.take (n * es)) else none
  | .nils => if n = 0 then some [] else none
  | .emp0 => if n = 0 then some [] else none
  | .str s => if es = 1 then some ((s.data.toList.take n).map fun b => .int .u8 b.toNat) else none
  | _ => none
def room (need bytes : Nat) : Bool := (2 * need + 1000) * bytes ≤ 2 ^ 47
def appendE (es bytes : Nat) (s x : V) (H : Heap) : Option (V × Heap) := do
  let k ← lenE x
  let xs ← firstE es k x H
  if xs.all V.one && xs.length == k * es then
    if k = 0 then
      match s with
      | .nils => some (.nils, H)
      | .emp0 => some (.emp0, H)
      | .slice b v off len es' cap => some (.slice b v off len es' cap, H)
      | .psl n l => some (.psl n l, H)
      | _ => none
    else
      match s with
      | .nils => if room (0 + k) bytes then some (.slice H.length 0 0 (0 + k) es none, H ++ [.cells xs 0 0]) else none
      | .emp0 => if room (0 + k) bytes then some (.slice H.length 0 0 (0 + k) es none, H ++ [.cells xs 0 0]) else none
      | .slice b v off len es' none =>
        match H[b]? with
        | some (.cells l ver mn) =>
          if es = es' ∧ v = ver ∧ mn ≤ v ∧ off + len * es = l.length ∧ room (len + k) bytes then
            some (.slice b (ver + 1) off (len + k) es none, H.set b (.cells (l ++ xs) (ver + 1) mn)) else none
        | _ => none
      | .slice b v off len es' (some c) =>
        if len + k ≤ c then none else
        match firstE es len (.slice b v off len es' (some c)) H with
        | some old => if old.all V.one && old.length == len * es && room (len + k) bytes then some (.slice H.length 0 0 (len + k) es none, H ++ [.cells (old ++ xs) 0 0]) else none
        | none => none
      | _ => none
  else none
def copyE (es : Nat) (d x : V) (H : Heap) : Option (V × Heap) :=
  match lenE x with
  | none => none
  | some k =>
    match d with
    | .slice b v off len es' _ =>
      match firstE es (min k len) x H with
      | some xs =>
        if es = es' ∧ xs.length = min k len * es then
          if min k len = 0 then some (.int .i64 0, H) else (writeCells H b v off xs).map fun H' => (.int .i64 (min k len : Nat), H')
        else none
      | none => none
    | .nils => some (.int .i64 0, H)
    | .emp0 => some (.int .i64 0, H)
    | _ => none
def repeatL (z : List V) : Nat → List V
  | 0 => []
  | n + 1 => z ++ repeatL z n
def clearE (zero : List V) (es : Nat) (d : V) (H : Heap) : Option (V × Heap) :=
  match d with
  | .nils => some (.tup [], H)
  | .emp0 => some (.tup [], H)
  | .slice _ _ _ 0 _ _ => some (.tup [], H)
  | .slice b v off len es' _ => if es = es' ∧ zero.length = es then (writeCells H b v off (repeatL zero len)).map fun H' => (.tup [], H') else none
  | _ => none
def findE (k : V) : List (V × V × Nat) → Option (Option V)
  | [] => some none
  | (k', v, _) :: es =>
    match k, k' with
    | .int a m, .int b n => if a = b then (if m == n then some (some v) else findE k es) else none
    | _, _ => none
def updE (k v : V) (clock : Nat) : List (V × V × Nat) → Option (List (V × V × Nat))
  | [] => some [(k, v, clock)]
  | (k', v', n') :: es =>
    match k, k' with
    | .int a m, .int b n => if a = b then (if m == n then some ((k, v, n') :: es) else (updE k v clock es).map ((k', v', n') :: ·)) else none
    | _, _ => none
def outE (zero : V) (ok : Bool) (r : Option V) : V := if ok then .tup [r.getD zero, .bool r.isSome] else r.getD zero
def lookupE (zero : V) (ok : Bool) (m k : V) (H : Heap) : Option V :=
  match m, k with
  | .nilmap, .int _ _ => some (outE zero ok none)
  | .map b, .int a n =>
    match H[b]? with
    | some (.map es _) => (findE (.int a n) es).map (outE zero ok)
    | _ => none
  | _, _ => none
def mapUpdE (m k v : V) (H : Heap) : Option Heap :=
  match m, k with
  | .map b, .int a n =>
    match H[b]? with
    | some (.map es clock) => (updE (.int a n) v clock es).map fun es' => H.set b (.map es' (if es'.length = es.length then clock else clock + 1))
    | _ => none
  | _, _ => none
inductive EOp where
  | move (x : Opd)
  | pick (c a b : Opd)
  | new (cells : List V)
  | box (n : Nat) (x : Opd)
  | build (zero : List V) (parts : List (Nat × Nat × Opd))
  | buildSl (es : Nat) (zero : List V) (len : Nat) (parts : List (Nat × Nat × Opd))
  | load (agg : Bool) (n : Nat) (a : Opd)
  | store (n : Nat) (a x : Opd)
  | nilc (x : Opd)
  | bin (op : BinOp) (x y : Opd)
  | eq (neg : Bool) (ek : EqKind) (x y : Opd)
  | un (op : UnOp) (x : Opd)
  | conv (k : IntKind) (x : Opd)
  | toStr (x : Opd)
  | mkIface (t : TypeId) (x : Opd)
  | mkFn (f : FuncId) (first captured : List Opd)
  | mkMap
  | mkSl (es bytes : Nat) (zero : List V) (len cap : Opd)
  | subs (x : Opd) (lo hi : Option Opd)
  | strId (x : Opd)
  | slice (es : Nat) (x : Opd) (lo hi : Option Opd)
  | sliceArr (len es : Nat) (x : Opd) (lo hi : Option Opd)
  | fieldAddr (off : Nat) (x : Opd)
  | field (agg : Bool) (off n : Nat) (x : Opd)
  | indexAddrArr (len es : Nat) (x i : Opd)
  | indexAddrSl (es : Nat) (x i : Opd)
  | index (arr : Option (Nat × Nat × Bool)) (x i : Opd)
  | lookup (zero : V) (ok : Bool) (m k : Opd)
  | mapUpd (m k v : Opd)
  | extract (x : Opd) (i : Nat)
  | call (f : FuncId) (args : List Opd)
  | callv (f : Opd) (args : List Opd)
  | len (st : Bool) (x : Opd)
  | lenArr (n : Nat)
  | append (es bytes : Nat) (s x : Opd)
  | copy (es : Nat) (d x : Opd)
  | clear (zero : List V) (es : Nat) (d : Opd)
  | minmax (mx : Bool) (x y : Opd)
  | fail
  deriving Inhabited
def Opd.tm : Opd → List Nat
  | .t n => [n]
  | .c _ => []
def tmO : Option Opd → List Nat
  | some x => x.tm
  | none => []
def EOp.tms : EOp → List Nat
  | .move x | .box _ x | .load _ _ x | .nilc x | .un _ x | .conv _ x | .toStr x | .mkIface _ x | .strId x | .fieldAddr _ x | .field _ _ _ x | .extract x _ | .len _ x | .clear _ _ x => x.tm
  | .pick c a b => c.tm ++ a.tm ++ b.tm
  | .build _ ps | .buildSl _ _ _ ps => ps.flatMap fun p => p.2.2.tm
  | .store _ a x | .bin _ a x | .eq _ _ a x | .mkSl _ _ _ a x | .indexAddrArr _ _ a x | .indexAddrSl _ a x | .index _ a x | .lookup _ _ a x | .append _ _ a x | .copy _ a x | .minmax _ a x => a.tm ++ x.tm
  | .mkFn _ a c => a.flatMap Opd.tm ++ c.flatMap Opd.tm
  | .subs x lo hi | .slice _ x lo hi | .sliceArr _ _ x lo hi => x.tm ++ tmO lo ++ tmO hi
  | .mapUpd m k v => m.tm ++ k.tm ++ v.tm
  | .call _ args => args.flatMap Opd.tm
  | .callv f args => f.tm ++ args.flatMap Opd.tm
  | .new _ | .mkMap | .lenArr _ | .fail => []
abbrev Ctx := FuncId → List V → Heap → Option (V × Heap)
def pure1 (H : Heap) (v : Option V) : Option (V × Heap) := v.map fun v => (v, H)
def bytesE : List V → Option (List UInt8)
  | [] => some []
  | .int .u8 b :: l => (bytesE l).map (UInt8.ofNat b.toNat :: ·)
  | _ => none
def evalOp (X : Ctx) (e : Env) (H : Heap) : EOp → Option (V × Heap)
  | .move x => some (x.ev e, H)
  | .pick c a b => match c.ev e with | .bool t => some (if t then a.ev e else b.ev e, H) | _ => none
  | .new cells => newBox cells H
  | .box _ x => newBox (x.ev e).cells H
  | .build zero parts => pure1 H ((fillE zero (parts.map fun p => (p.1, p.2.1, p.2.2.ev e))).map .agg)
  | .buildSl es zero len parts =>
    if len = 0 then some (.emp0, H) else
    match fillE (repeatL zero len) (parts.map fun p => (p.1, p.2.1, p.2.2.ev e)) with
    | some cs => if cs.all V.one then some (.slice H.length 0 0 len es (some len), H ++ [.cells cs 0 0]) else none
    | none => none
  | .load agg n a => pure1 H (loadE agg n (a.ev e) H)
  | .store n a x => (storeE n (a.ev e) (x.ev e) H).map fun H' => (V.undef, H')
  | .nilc x => match x.ev e with | .ptr b v o n => some (.ptr b v o n, H) | .pptr l => some (.pptr l, H) | .fn f a c => some (.fn f a c, H) | _ => none
  | .bin op x y => pure1 H (binE op (x.ev e) (y.ev e))
  | .eq neg ek x y => pure1 H ((eqE ek (x.ev e) (y.ev e)).map fun b => .bool (b != neg))
  | .un op x => pure1 H (unE op (x.ev e))
  | .conv k x => match x.ev e with | .int _ n => some (.int k (k.wrap n), H) | .abs _ d => if fitsK k d then some (.abs k d, H) else none | _ => none
  | .toStr x =>
    match lenE (x.ev e), x.ev e with
    | some _, .str _ => none
    | some n, v => match firstE 1 n v H with
      | some cs => pure1 H ((bytesE cs).map fun bs => .str ⟨bs.toArray⟩)
      | none => none
    | none, _ => none
  | .mkIface t x => some (.iface t (x.ev e), H)
  | .mkFn f a c => some (.fn f (a.map (Opd.ev e)) (c.map (Opd.ev e)), H)
  | .mkMap => some (.map H.length, H ++ [.map [] 0])
  | .mkSl es bytes zero len cap => match len.ev e, cap.ev e with
    | .int _ l, .int _ c => if 0 ≤ l ∧ l = c ∧ c < 2 ^ 40 ∧ c * bytes ≤ 2 ^ 47 ∧ zero.all V.one ∧ zero.length = es then
        some (if l = 0 then (.emp0, H) else (.slice H.length 0 0 l.toNat es (some c.toNat), H ++ [.cells (repeatL zero c.toNat) 0 0])) else none
    | _, _ => none
  | .subs x lo hi => pure1 H (subsE (x.ev e) (lo.map (Opd.ev e)) (hi.map (Opd.ev e)))
  | .strId x => match x.ev e with | .str s => some (.str s, H) | _ => none
  | .slice es x lo hi => pure1 H (sliceE es (x.ev e) (lo.map (Opd.ev e)) (hi.map (Opd.ev e)))
  | .sliceArr len es x lo hi => pure1 H (sliceArrE len es (x.ev e) (lo.map (Opd.ev e)) (hi.map (Opd.ev e)))
  | .fieldAddr off x => pure1 H (fieldAddrE off (x.ev e))
  | .field agg off n x => pure1 H (fieldE agg off n (x.ev e))
  | .indexAddrArr len es x i => pure1 H (indexAddrArrE len es (x.ev e) (i.ev e))
  | .indexAddrSl es x i => pure1 H (indexAddrSlE es (x.ev e) (i.ev e))
  | .index arr x i => pure1 H (indexE arr (x.ev e) (i.ev e))
  | .lookup zero ok m k => pure1 H (lookupE zero ok (m.ev e) (k.ev e) H)
  | .mapUpd m k v => (mapUpdE (m.ev e) (k.ev e) (v.ev e) H).map fun H' => (V.undef, H')
  | .extract x i => match x.ev e with | .tup l => pure1 H l[i]? | _ => none
  | .call f args => X f (args.map (Opd.ev e)) H
  | .callv f args => match f.ev e with | .fn f a c => X f (a ++ args.map (Opd.ev e) ++ c) H | _ => none
  | .len st x => (lenV st (x.ev e)).map fun v => (v, H)
  | .lenArr n => some (V.int .i64 n, H)
  | .append es bytes s x => appendE es bytes (s.ev e) (x.ev e) H
  | .copy es d x => copyE es (d.ev e) (x.ev e) H
  | .clear zero es d => clearE zero es (d.ev e) H
  | .minmax mx x y => pure1 H (minE mx (x.ev e) (y.ev e))
  | .fail => none
structure EOper where
  dst : Option Nat
  op : EOp
  guard : Option (Nat × Bool) := none
  deriving Inhabited
def EOper.tms (o : EOper) : List Nat := o.op.tms ++ (match o.guard with | some (t, _) => [t] | none => [])
def EOper.wanted (o : EOper) (e : Env) : Bool :=
  match o.guard with
  | none => true
  | some (t, want) => match e.getD t V.undef with | .bool b => b == want | _ => false
def evalOper (X : Ctx) (o : EOper) (e : Env) (H : Heap) : Option (Env × Heap) :=
  if o.wanted e then (evalOp X e H o.op).map fun (v, H') => (e.put o.dst v, H') else some (e.put o.dst V.undef, H)
def evalOps (X : Ctx) : List EOper → Env → Heap → Option (Env × Heap)
  | [], e, H => some (e, H)
  | o :: os, e, H => (evalOper X o e H).bind fun (e, H) => evalOps X os e H
inductive DK where
  | N
  | R (lo hi : Nat)
  | W
  deriving DecidableEq, Inhabited
def sameRead (X : Ctx) (e : Env) (op : EOp) (v : V) (snaps : List Heap) : Bool :=
  snaps.all fun H => match evalOp X e H op with | some (v', _) => V.beq v v' | none => false
def evalDraw (X : Ctx) : List (EOper × DK) → Env → Heap → List Heap → List (Env × EOp × V × Nat × Nat) → Option (Env × Heap × List Heap × List (Env × EOp × V × Nat × Nat))
  | [], e, H, snaps, pend => some (e, H, snaps ++ [H], pend)
  | (o, k) :: os, e, H, snaps, pend =>
    match k with
    | .N => (evalOper X o e H).bind fun (e', H') => evalDraw X os e' H' snaps pend
    | .W => (evalOper X o e H).bind fun (e', H') => evalDraw X os e' H' (snaps ++ [H]) pend
    | .R lo hi =>
      if o.wanted e then
        (evalOp X e H o.op).bind fun (v, H') => evalDraw X os (e.put o.dst v) H' snaps (if lo = hi then pend else (e, o.op, v, lo, hi) :: pend)
      else evalDraw X os (e.put o.dst V.undef) H snaps pend
def drawOk (X : Ctx) (snaps : List Heap) (pend : List (Env × EOp × V × Nat × Nat)) : Bool :=
  pend.all fun (e, op, v, lo, hi) => sameRead X e op v ((snaps.drop lo).take (hi + 1 - lo))
inductive ECode where
  | skip
  | ops (l : List EOper)
  | draw (l : List (EOper × DK))
  | seq (a b : ECode)
  | cond (c : Opd) (a b : ECode)
  | block (id : Nat) (c : ECode)
  | loop (c : ECode)
  | exit (id : Nat)
  | ret
  | fail
  deriving Inhabited
inductive Ex where
  | normal
  | exit (id : Nat)
  | ret
  deriving DecidableEq, Inhabited
def loopE (f : Env → Heap → Option (Ex × Env × Heap)) : Nat → Env → Heap → Option (Ex × Env × Heap)
  | 0, _, _ => none
  | n + 1, e, H =>
    match f e H with
    | some (.normal, e', H') => loopE f n e' H'
    | r => r
def evalCode (X : Ctx) (fuel : Nat) : ECode → Env → Heap → Option (Ex × Env × Heap)
  | .skip, e, H => some (.normal, e, H)
  | .ops l, e, H => (evalOps X l e H).map fun (e, H) => (.normal, e, H)
  | .draw l, e, H =>
    match evalDraw X l e H [] [] with
    | some (e', H', snaps, pend) => if drawOk X snaps pend then some (.normal, e', H') else none
    | none => none
  | .seq a b, e, H =>
    match evalCode X fuel a e H with
    | some (.normal, e', H') => evalCode X fuel b e' H'
    | r => r
  | .cond c a b, e, H => match c.ev e with
    | .bool true => evalCode X fuel a e H
    | .bool false => evalCode X fuel b e H
    | _ => none
  | .block id c, e, H =>
    match evalCode X fuel c e H with
    | some (.exit i, e', H') => some (if i = id then .normal else .exit i, e', H')
    | r => r
  | .loop c, e, H => loopE (evalCode X fuel c) fuel e H
  | .exit id, e, H => some (.exit id, e, H)
  | .ret, e, H => some (.ret, e, H)
  | .fail, _, _ => none
inductive ERes where
  | tmp (t : Nat)
  | cell (a : Nat) (agg : Bool) (n : Nat)
  deriving Inhabited
structure EFunc where
  nparams : Nat
  ntmps : Nat
  results : List ERes
  body : ECode
  deriving Inhabited
def evalRes (e : Env) (H : Heap) : ERes → Option V
  | .tmp t => some (e.getD t V.undef)
  | .cell a agg n => loadE agg n (e.getD a V.undef) H
def resultsE (rs : List ERes) (e : Env) (H : Heap) : Option V :=
  match rs.mapM (evalRes e H) with
  | some [v] => some v
  | some l => some (.tup l)
  | none => none
def evalFunc (X : Ctx) (fuel : Nat) (f : EFunc) (args : List V) (H : Heap) : Option (V × Heap) :=
  if args.length ≤ f.ntmps then
    match evalCode X fuel f.body (args ++ List.replicate (f.ntmps - args.length) V.undef) H with
    | some (.normal, e, H') => (resultsE f.results e H').map fun v => (v, H')
    | some (.ret, e, H') => (resultsE f.results e H').map fun v => (v, H')
    | _ => none
  else none
end Go.PE
namespace Go.PE
def ofCell : Value → Option V
  | .bool b => some (.bool b)
  | .int k n => some (.int k n)
  | .string s => some (.str s)
  | .pointer none => some .nilptr
  | .slice none 0 0 => some .nils
  | .map none => some .nilmap
  | .nilFunc => some .nilfn
  | .nilIface => some .nilif
  | _ => none
def ofCells : List Value → Option (List V)
  | [] => some []
  | v :: l => match ofCell v, ofCells l with | some x, some xs => some (x :: xs) | _, _ => none
def ofConst : Value → Option V
  | .agg cs => (ofCells cs.toList).map .agg
  | .tuple vs => if vs.isEmpty then some V.undef else none
  | v => ofCell v
def cOpd : Operand → Option Opd
  | .tmp t => some (.t t)
  | .const v => (ofConst v).map .c
  | .func f => some (.c (.fn f [] []))
  | .global _ => none
def cOpds : List Operand → Option (List Opd)
  | [] => some []
  | x :: l => match cOpd x, cOpds l with | some x, some xs => some (x :: xs) | _, _ => none
section
variable (P : Program)
def aggT (t : TypeId) : Bool := match P.underlying t with | some (.struct _) | some (.array _ _) => true | _ => false
def sizeT (t : TypeId) : Option Nat := (P.info? t).map (·.size)
def bytesT (t : TypeId) : Option Nat := (P.info? t).map (·.bytes)
def zeroT (t : TypeId) : Option (List V) := ((P.info? t).bind (·.zero)).bind fun z => ofCells z.cells.toList
def zeroV (t : TypeId) : Option V := ((P.info? t).bind (·.zero)).bind ofConst
def shapeT (t : TypeId) : Option (Bool × Nat) :=
  match sizeT P t with
  | some n => if (P.underlying t).isNone then none else if aggT P t then (if 0 < n then some (true, n) else none) else if n = 1 then some (false, 1) else none
  | none => none
def leafsF (f : TypeId → Option (List Leaf)) : List Field → Nat → Option (List Leaf)
  | [], _ => some []
  | fd :: fs, off =>
    if fd.name != "_" && fd.offset == off then
      match f fd.type, sizeT P fd.type with
      | some l, some n => if l.length = n ∧ 0 < n then (leafsF f fs (off + n)).map (l ++ ·) else none
      | _, _ => none
    else none
def repeatK (l : List Leaf) : Nat → List Leaf
  | 0 => []
  | n + 1 => l ++ repeatK l n
def leafsT : Nat → TypeId → Option (List Leaf)
  | 0, _ => none
  | d + 1, t =>
    match P.underlying t with
    | some .bool => some [.bool]
    | some (.int _) => some [.int]
    | some .string => some [.str]
    | some (.struct fs) => if P.stoodInHeld t then none else leafsF P (leafsT d) fs.toList 0
    | some (.array n e) =>
      match leafsT d e, sizeT P e with
      | some l, some s => if l.length = s ∧ 0 < s then some (repeatK l n) else none
      | _, _ => none
    | _ => none
def eqDepth : Nat := 12
def cParts (place : Nat → Option (Nat × Nat)) : List (Nat × Operand) → Option (List (Nat × Nat × Opd))
  | [] => some []
  | (i, x) :: l =>
    match place i, cOpd x, cParts place l with
    | some (off, n), some x, some ps => some ((off, n, x) :: ps)
    | _, _, _ => none
def isNilConst : NK → Operand → Bool
  | .ptr, .const (.pointer none) | .sl, .const (.slice none _ _) | .mp, .const (.map none) | .fn, .const .nilFunc => true
  | _, _ => false
def nkOf : TypeDesc → Option NK
  | .pointer _ => some .ptr
  | .slice _ => some .sl
  | .map _ _ => some .mp
  | .func _ _ _ => some .fn
  | _ => none
def cEq (neg : Bool) (t : TypeId) (x y : Operand) (a b : Opd) : Option EOp :=
  match P.underlying t with
  | some .bool => some (.eq neg (.leaf .bool) a b)
  | some (.int _) => some (.eq neg (.leaf .int) a b)
  | some .string => some (.eq neg (.leaf .str) a b)
  | some (.struct _) => if P.eqGuardType P.depth t then none else (leafsT P eqDepth t).map fun ks => .eq neg (.agg ks) a b
  | some (.array _ _) => if P.eqGuardType P.depth t then none else (leafsT P eqDepth t).map fun ks => .eq neg (.agg ks) a b
  | some d => match nkOf d with
    | some k => if isNilConst k y then some (.eq neg (.nilR k) a b) else if isNilConst k x then some (.eq neg (.nilL k) a b) else none
    | none => none
  | none => none
def isNeq : BinOp → Bool
  | .neq => true
  | _ => false
def cBin (op : BinOp) (t : TypeId) (x y : Operand) : Option EOp :=
  match cOpd x, cOpd y with
  | some a, some b => if op = .eql ∨ op = .neq then cEq P (isNeq op) t x y a b else some (.bin op a b)
  | _, _ => none
def elemSlice (t : TypeId) : Option (TypeId × Nat) :=
  match P.underlying t with
  | some (.slice e) => (sizeT P e).map fun n => (e, n)
  | _ => none
def callable (f : FuncId) : Bool :=
  match P.funcs[f]? with
  | some fn => fn.body.isSome && fn.name != "runtime.NumGoroutine"
  | none => false
def isIntT : TypeDesc → Bool
  | .int _ => true
  | _ => false
def cBuiltin (b : Builtin) (argTypes : Array TypeId) (args : List Operand) : Option EOp :=
  match b, argTypes.toList, args with
  | .len, [t], [x] =>
    match P.underlying t with
    | some .string => (cOpd x).map (.len true)
    | some (.slice _) => (cOpd x).map (.len false)
    | some (.array n _) => some (.lenArr n)
    | some (.pointer a) => match P.underlying a with | some (.array n _) => some (.lenArr n) | _ => none
    | _ => none
  | .append, [t, u], [s, x] =>
    match elemSlice P t, P.underlying u with
    | some (e, n), some d =>
      if isIntT d then none else
      match bytesT P e, zeroT P e, cOpd s, cOpd x with
      | some bs, some z, some s, some x => if 0 < n && 0 < bs && z.length == n then some (.append n bs s x) else none
      | _, _, _, _ => none
    | _, _ => none
  | .copy, _ :: _, [d, x] =>
    match argTypes[0]? with
    | some t =>
      match elemSlice P t, cOpd d, cOpd x with
      | some (_, n), some d, some x => if 0 < n then some (.copy n d x) else none
      | _, _, _ => none
    | none => none
  | .clear, [t], [d] =>
    match elemSlice P t with
    | some (e, n) =>
      match zeroT P e, cOpd d with
      | some z, some d => if 0 < n && z.length == n && z.all V.one then some (.clear z n d) else none
      | _, _ => none
    | none => none
  | .min, _, [x, y] => match cOpd x, cOpd y with | some x, some y => some (.minmax false x y) | _, _ => none
  | .max, _, [x, y] => match cOpd x, cOpd y with | some x, some y => some (.minmax true x y) | _, _ => none
  | _, _, _ => none
def cOp (o : Oper) : Option EOp :=
  match o.op with
  | .move x | .assign x => (cOpd x).map .move
  | .pick c a b => do some (.pick (← cOpd c) (← cOpd a) (← cOpd b))
  | .alloc t => (zeroT P t).map .new
  | .box _ x => (cOpd x).map (.box 0)
  | .build t parts =>
    match zeroT P t, P.underlying t with
    | some z, some (.struct fs) => if fs.toList.all fun f => (sizeT P f.type).isSome then (cParts (fun i => (fs[i]?).bind fun f => (sizeT P f.type).map fun n => (f.offset, n)) parts.toList).map (.build z) else none
    | some z, some (.array _ e) => match sizeT P e with
      | some n => (cParts (fun i => some (i * n, n)) parts.toList).map (.build z)
      | none => none
    | _, _ => none
  | .buildSlice t len parts =>
    match elemSlice P t with
    | some (e, n) =>
      match zeroT P e with
      | some z => if 0 < n && z.length == n && len * n ≤ 2 ^ 20 && (len != 0 || parts.isEmpty) then (cParts (fun i => some (i * n, n)) parts.toList).map (.buildSl n z len) else none
      | none => none
    | none => none
  | .load t a => match shapeT P t, cOpd a with | some (g, n), some a => some (.load g n a) | _, _ => none
  | .store t a v => match shapeT P t, cOpd a, cOpd v with | some (_, n), some a, some v => some (.store n a v) | _, _, _ => none
  | .nilCheck x => (cOpd x).map .nilc
  | .binOp op t x y _ => cBin P op t x y
  | .unOp op _ x => (cOpd x).map (.un op)
  | .convert src dst x =>
    match P.underlying src, P.underlying dst with
    | some (.int _), some (.int k) => (cOpd x).map (.conv k)
    | some .string, some .string => (cOpd x).map .strId
    | some (.slice e), some .string => match P.underlying e with
      | some (.int .u8) => (cOpd x).map .toStr
      | _ => none
    | _, _ => none
  | .makeInterface t x => match P.underlying t with
    | some (.interface _) => none
    | some _ => (cOpd x).map (.mkIface t)
    | none => none
  | .makeFunc (.func f) first captured => match cOpds first.toList, cOpds captured.toList with
    | some a, some c => some (.mkFn f a c)
    | _, _ => none
  | .makeMap t none => match P.underlying t with
    | some (.map k _) => match P.underlying k with | some (.int _) => some .mkMap | _ => none
    | _ => none
  | .makeSlice t l c => match elemSlice P t with
    | some (e, n) => match zeroT P e, bytesT P e, cOpd l, cOpd c with
      | some z, some bs, some l, some c => if 0 < n && z.length == n then some (.mkSl n bs z l c) else none
      | _, _, _, _ => none
    | none => none
  | .slice t x lo hi none =>
    let b (y : Option Operand) : Option (Option Opd) := match y with | none => some none | some y => (cOpd y).map some
    match cOpd x, b lo, b hi with
    | some x, some lo, some hi =>
      match P.underlying t with
      | some .string => some (.subs x lo hi)
      | some (.slice e) => match sizeT P e with | some n => if 0 < n then some (.slice n x lo hi) else none | none => none
      | some (.array len e) => match sizeT P e with | some n => if 0 < n then some (.sliceArr len n x lo hi) else none | none => none
      | some (.pointer a) => match P.underlying a with
        | some (.array len e) => match sizeT P e with | some n => if 0 < n then some (.sliceArr len n x lo hi) else none | none => none
        | _ => none
      | _ => none
    | _, _, _ => none
  | .fieldAddr s x f => match P.underlying s with
    | some (.struct fs) => match fs[f]? with
      | some f => match sizeT P f.type, cOpd x with
        | some n, some x => if 0 < n then some (.fieldAddr f.offset x) else none
        | _, _ => none
      | none => none
    | _ => none
  | .field t x f => match P.underlying t with
    | some (.struct fs) => match fs[f]? with
      | some f => match shapeT P f.type, cOpd x with
        | some (g, n), some x => some (.field g f.offset n x)
        | _, _ => none
      | none => none
    | _ => none
  | .indexAddr t x i => match P.underlying t, cOpd x, cOpd i with
    | some (.array len e), some x, some i => match sizeT P e with | some n => if 0 < n then some (.indexAddrArr len n x i) else none | none => none
    | some (.slice e), some x, some i => match sizeT P e with | some n => if 0 < n then some (.indexAddrSl n x i) else none | none => none
    | _, _, _ => none
  | .index t x i => match P.underlying t, cOpd x, cOpd i with
    | some (.array len e), some x, some i => match shapeT P e with | some (g, n) => some (.index (some (len, n, g)) x i) | none => none
    | some .string, some x, some i => some (.index none x i)
    | _, _, _ => none
  | .lookup t m k ok => match P.underlying t with
    | some (.map key e) => match P.underlying key, zeroV P e, cOpd m, cOpd k with
      | some (.int _), some z, some m, some k => some (.lookup z ok m k)
      | _, _, _, _ => none
    | _ => none
  | .mapUpdate t m k v => match P.underlying t with
    | some (.map key _) => match P.underlying key, cOpd m, cOpd k, cOpd v with
      | some (.int _), some m, some k, some v => some (.mapUpd m k v)
      | _, _, _, _ => none
    | _ => none
  | .extract x i => (cOpd x).map fun x => .extract x i
  | .call c =>
    match c.callee with
    | .builtin b => cBuiltin P b c.argTypes c.args.toList
    | .value (.func f) => (cOpds c.args.toList).map (.call f)
    | .value f => match cOpd f, cOpds c.args.toList with | some f, some a => some (.callv f a) | _, _ => none
    | .invoke .. => none
  | _ => none
def cGuard (ops : Array Oper) (o : Oper) : Option (Option (Nat × Bool)) :=
  match o.guard with
  | none => some none
  | some (j, want) => match (ops[j]?).bind (·.dst) with
    | some d => some (some (d, want))
    | none => none
def cOper (ops : Array Oper) (o : Oper) : EOper :=
  match cGuard ops o with
  | some g => { dst := o.dst, op := (cOp P o).getD .fail, guard := g }
  | none => { dst := none, op := .fail, guard := none }
def writes : EOp → Bool
  | .store .. | .mapUpd .. | .append .. | .copy .. | .clear .. | .call .. | .callv .. => true
  | _ => false
def readsMem : EOp → Bool
  | .load .. | .lookup .. | .toStr .. => true
  | _ => false
def hard (e : Edge) : Bool := Region.binds .any e
def bitsOf (acc : List Nat) (o : Oper) : Nat := o.after.toList.foldl (fun s e => if hard e then s ||| 2 ^ e.on ||| acc.getD e.on 0 else s) 0
def befL (ops : List Oper) : List Nat := ops.foldl (fun acc o => acc ++ [bitsOf acc o]) []
def isWr (es : List EOper) (i : Nat) : Bool := match es[i]? with | some o => writes o.op | none => false
def dstAt (es : List EOper) (i : Nat) : Option Nat := (es[i]?).bind (·.dst)
def tmsAt (es : List EOper) (i : Nat) : List Nat := match es[i]? with | some o => o.tms | none => []
def bef (b : List Nat) (j i : Nat) : Bool := (b.getD i 0).testBit j
def orderOk (md : Region.Mode) (ops : Array Oper) : Bool :=
  let l := Region.linearise md ops 0
  (List.range ops.size).all fun i => match ops[i]? with
    | some o => o.after.toList.all fun e => !Region.binds md e || (e.on < ops.size && l.idxOf e.on < l.idxOf i)
    | none => false
def wrs (es : List EOper) : List Nat := (List.range es.length).filter (isWr es)
structure Lay where
  ord : List Nat
  lev : List Nat
  hi : List Nat
  m : Nat
def layOf (es : List EOper) (b : List Nat) : Lay :=
  let ws := wrs es
  let n := es.length
  let lev := (List.range n).map fun i => ws.countP fun j => bef b j i
  { lev := lev
    hi := (List.range n).map fun i => ws.length - ws.countP fun j => bef b i j
    m := ws.length
    ord := (List.range (ws.length + 1)).flatMap fun k =>
      ((List.range n).filter fun i => lev.getD i 0 == k && !isWr es i) ++ (List.range n).filter fun i => lev.getD i 0 == k && isWr es i }
def pairOk (es : List EOper) (b : List Nat) (L : Lay) (i j : Nat) : Bool :=
  (i == j || (dstAt es i).isNone || dstAt es i != dstAt es j) &&
  (match dstAt es i with
    | some t => !(tmsAt es j).contains t || i == j || bef b i j || bef b j i
    | none => true) &&
  (!bef b i j || decide (L.ord.idxOf i < L.ord.idxOf j)) &&
  (i == j || !isWr es i || !isWr es j || L.lev.getD i 0 != L.lev.getD j 0)
def oneOk (es : List EOper) (b : List Nat) (L : Lay) (i : Nat) : Bool :=
  decide (b.getD i 0 < 2 ^ i) && L.ord.contains i && (L.ord.idxOf (L.ord.getD i 0) == i) && decide (L.ord.getD i 0 < es.length) &&
  (L.lev.getD i 0 == 0 || (wrs es).any fun q => L.lev.getD q 0 + 1 == L.lev.getD i 0 && bef b q i) &&
  (L.hi.getD i 0 == L.m || (wrs es).any fun q => L.lev.getD q 0 == L.hi.getD i 0 && bef b i q) &&
  (((L.ord.take (L.ord.idxOf i)).countP (isWr es)) == L.lev.getD i 0) &&
  (!isWr es i || decide (L.lev.getD i 0 < L.m)) &&
  (decide (L.m ≤ i) || (wrs es).any fun q => L.lev.getD q 0 == i) &&
  (List.range es.length).all fun j => pairOk es b L i j
def drawOkP (ops : Array Oper) (es : List EOper) (b : List Nat) (L : Lay) : Bool :=
  ((List.range es.length).all fun j => oneOk es b L j) && (L.ord.length == es.length) && decide (L.m ≤ es.length) && (L.ord.countP (isWr es) == L.m) &&
  orderOk .any ops
def kindAt (es : List EOper) (L : Lay) (i : Nat) : DK :=
  match es[i]? with
  | some o => if writes o.op then .W else if readsMem o.op then .R (L.lev.getD i 0) (L.hi.getD i 0) else .N
  | none => .N
def cDraw (es : List EOper) (L : Lay) : List (EOper × DK) := L.ord.map fun i => (es.getD i default, kindAt es L i)
def cRegion (ops : Array Oper) (draw : Bool) : ECode :=
  if !draw then .ops (ops.toList.map (cOper P ops))
  else if drawOkP ops (ops.toList.map (cOper P ops)) (befL ops.toList) (layOf (ops.toList.map (cOper P ops)) (befL ops.toList)) then
    .draw (cDraw (ops.toList.map (cOper P ops)) (layOf (ops.toList.map (cOper P ops)) (befL ops.toList)))
  else .fail
def cCode : Code → ECode
  | .skip => .skip
  | .region _ ops draw => cRegion P ops draw
  | .seq a b => .seq (cCode a) (cCode b)
  | .cond c a b => match cOpd c with | some c => .cond c (cCode a) (cCode b) | none => .fail
  | .block id c => .block id (cCode c)
  | .loop c => .loop (cCode c)
  | .exit id => .exit id
  | .ret => .ret
  | _ => .fail
def cRes : ResultVar → Option ERes
  | .tmp t => some (.tmp t)
  | .cell a t => (shapeT P t).map fun (g, n) => .cell a g n
def cFunc (fn : Func) : Option EFunc :=
  match fn.body, fn.results.toList.mapM (cRes P) with
  | some c, some rs => some { nparams := fn.params.size, ntmps := fn.ntmps, results := rs, body := cCode P c }
  | _, _ => none
end
end Go.PE
namespace Go.PE
structure Loc where
  r : Nat
  lo : Nat
  hi : Nat
  n : Nat
  sh : Nat
structure Ren where
  loc : Nat → Nat → Option Loc
  mp : Nat → Option Nat
  im : Nat → Nat → Option V
  nums : Nat → Option Int := fun _ => none
  strs : Nat → Option ByteArray := fun _ => none
structure Dom.holds (g : Nat → Option Int) (d : Dom) (n : Int) : Prop where
  lo : d.lo ≤ n
  hi : n ≤ d.hi
  pos : 0 < d.m
  md : n % (d.m : Int) = (d.r : Int) ∨ (¬ d.r < d.m ∧ n % (d.m : Int) ≠ 0)
  id : ∀ i, d.id = some i → ∃ a, g i = some a ∧ n = a + d.off
theorem Dom.holds.mod {g : Nat → Option Int} {d : Dom} {n : Int} (h : d.holds g n) (hr : d.r < d.m) : n % (d.m : Int) = (d.r : Int) := by
  rcases h.md with h | h
  · exact h
  · exact absurd hr h.1
def topOK : Value → Bool
  | .agg _ | .tuple _ | .bool _ => false
  | _ => true
theorem topOK.one {x : Value} (h : topOK x = true) : x.oneCell' = true := by cases x <;> first | rfl | exact absurd h (by simp [topOK])
mutual
inductive VR (R : Ren) : V → Value → Prop
  | bool (b : Bool) : VR R (.bool b) (.bool b)
  | int (k : IntKind) (n : Int) : VR R (.int k n) (.int k n)
  | str (s : ByteArray) : VR R (.str s) (.string s)
  | ptr {b v off ext : Nat} {L : Loc} : R.loc b v = some L → L.lo ≤ off → off + ext ≤ L.hi → VR R (.ptr b v off ext) (.pointer (some ⟨L.r, off + L.sh - L.lo, none⟩))
  | nilptr : VR R .nilptr (.pointer none)
  | pptr {l : List V} {r o : Nat} : (∀ j x, l[j]? = some x → R.im r (o + j) = some x) → VR R (.pptr l) (.pointer (some ⟨r, o, none⟩))
  | slice {b v off len es c : Nat} {cap : Option Nat} {L : Loc} : R.loc b v = some L → L.lo ≤ off → off + len * es ≤ L.hi → len ≤ c →
      (∀ k, cap = some k → c = k) → (cap = none → off + L.sh - L.lo + c * es ≤ L.n) →
      VR R (.slice b v off len es cap) (.slice (some ⟨L.r, off + L.sh - L.lo, none⟩) len c)
  | slice0 {b v off es r o : Nat} {cap : Option Nat} {L : Loc} : R.loc b v = some L → L.lo ≤ off → off ≤ L.hi → (∀ k, cap = some k → k = 0) →
      VR R (.slice b v off 0 es cap) (.slice (some ⟨r, o, none⟩) 0 0)
  | nils : VR R .nils (.slice none 0 0)
  | emp0 {r o : Nat} : VR R .emp0 (.slice (some ⟨r, o, none⟩) 0 0)
  | psl {n r o c : Nat} {l : List V} : (∀ j x, l[j]? = some x → R.im r (o + j) = some x) → n ≤ c → VR R (.psl n l) (.slice (some ⟨r, o, none⟩) n c)
  | map {b r : Nat} : R.mp b = some r → VR R (.map b) (.map (some r))
  | nilmap : VR R .nilmap (.map none)
  | fn {f : FuncId} {a c : List V} {a' c' : Array Value} : VRL R a a'.toList → VRL R c c'.toList → VR R (.fn f a c) (.func (.func f) a' c')
  | nilfn : VR R .nilfn .nilFunc
  | iface {t : TypeId} {v : V} {v' : Value} : VR R v v' → VR R (.iface t v) (.iface t v')
  | nilif : VR R .nilif .nilIface
  | agg {l : List V} {cs : Array Value} : VRL R l cs.toList → VR R (.agg l) (.agg cs)
  | tup {l : List V} {cs : Array Value} : VRL R l cs.toList → VR R (.tup l) (.tuple cs)
  | top {x : Value} : topOK x = true → VR R .top x
  | abs {k : IntKind} {d : Dom} {n : Int} : d.holds R.nums n → VR R (.abs k d) (.int k n)
  | syms {i lo hi : Nat} {s : ByteArray} : R.strs i = some s → lo ≤ s.size → s.size ≤ hi → VR R (.syms i lo hi) (.string s)
inductive VRL (R : Ren) : List V → List Value → Prop
  | nil : VRL R [] []
  | cons {v : V} {x : Value} {l : List V} {xs : List Value} : VR R v x → VRL R l xs → VRL R (v :: l) (x :: xs)
end
structure Ren.Le (R R' : Ren) : Prop where
  loc : ∀ b v L, R.loc b v = some L → R'.loc b v = some L
  mp : ∀ b r, R.mp b = some r → R'.mp b = some r
  im : ∀ r j x, R.im r j = some x → R'.im r j = some x
  nums : R'.nums = R.nums := by rfl
  strs : R'.strs = R.strs := by rfl
theorem Ren.Le.refl (R : Ren) : R.Le R := ⟨fun _ _ _ h => h, fun _ _ h => h, fun _ _ _ h => h, rfl, rfl⟩
theorem Ren.Le.trans {R R' R'' : Ren} (h : R.Le R') (k : R'.Le R'') : R.Le R'' :=
  ⟨fun b v L e => k.loc b v L (h.loc b v L e), fun b r e => k.mp b r (h.mp b r e), fun r j x e => k.im r j x (h.im r j x e), k.nums.trans h.nums, k.strs.trans h.strs⟩
mutual
theorem VR.mono {R R' : Ren} (h : R.Le R') : ∀ {v : V} {x : Value}, VR R v x → VR R' v x
  | _, _, .bool b => .bool b
  | _, _, .int k n => .int k n
  | _, _, .str s => .str s
  | _, _, .ptr a b c => .ptr (h.loc _ _ _ a) b c
  | _, _, .nilptr => .nilptr
  | _, _, .pptr a => .pptr fun j x e => h.im _ _ _ (a j x e)
  | _, _, .slice a b c d e f => .slice (h.loc _ _ _ a) b c d e f
  | _, _, .slice0 a b c d => .slice0 (h.loc _ _ _ a) b c d
  | _, _, .nils => .nils
  | _, _, .emp0 => .emp0
  | _, _, .psl a b => .psl (fun j x e => h.im _ _ _ (a j x e)) b
  | _, _, .map a => .map (h.mp _ _ a)
  | _, _, .nilmap => .nilmap
  | _, _, .fn a b => .fn (VRL.mono h a) (VRL.mono h b)
  | _, _, .nilfn => .nilfn
  | _, _, .iface a => .iface (VR.mono h a)
  | _, _, .nilif => .nilif
  | _, _, .agg a => .agg (VRL.mono h a)
  | _, _, .tup a => .tup (VRL.mono h a)
  | _, _, .top a => .top a
  | _, _, .abs a => .abs (by rw [h.nums]; exact a)
  | _, _, .syms a b c => .syms (by rw [h.strs]; exact a) b c
theorem VRL.mono {R R' : Ren} (h : R.Le R') : ∀ {l : List V} {xs : List Value}, VRL R l xs → VRL R' l xs
  | _, _, .nil => .nil
  | _, _, .cons a b => .cons (VR.mono h a) (VRL.mono h b)
end
section lists
variable {R : Ren}
theorem VRL.length : ∀ {l : List V} {xs : List Value}, VRL R l xs → l.length = xs.length
  | _, _, .nil => rfl
  | _, _, .cons _ h => by simp [VRL.length h]
theorem VRL.get : ∀ {l : List V} {xs : List Value}, VRL R l xs → ∀ {j : Nat} {v : V}, l[j]? = some v → ∃ x, xs[j]? = some x ∧ VR R v x
  | _, _, .nil, _, _, h => by simp at h
  | _, _, .cons a _, 0, _, h => by simp at h; subst h; exact ⟨_, by simp, a⟩
  | _, _, .cons _ b, j + 1, _, h => by
    simp only [List.getElem?_cons_succ] at h ⊢
    exact VRL.get b h
theorem VRL.getD {l : List V} {xs : List Value} (h : VRL R l xs) (j : Nat) : VR R (l.getD j V.undef) (xs.getD j undef) := by
  by_cases hj : j < l.length
  · obtain ⟨x, hx, hr⟩ := h.get (List.getElem?_eq_getElem hj)
    rw [List.getD_eq_getElem?_getD, List.getElem?_eq_getElem hj, List.getD_eq_getElem?_getD, hx]
    exact hr
  · have hl := h.length
    rw [List.getD_eq_getElem?_getD, List.getElem?_eq_none (by omega), List.getD_eq_getElem?_getD, List.getElem?_eq_none (by omega)]
    exact .tup .nil
theorem VRL.of_get : ∀ {l : List V} {xs : List Value}, l.length = xs.length → (∀ (j : Nat) (v : V), l[j]? = some v → ∃ x, xs[j]? = some x ∧ VR R v x) → VRL R l xs
  | [], [], _, _ => .nil
  | [], _ :: _, h, _ => by simp at h
  | _ :: _, [], h, _ => by simp at h
  | v :: l, x :: xs, h, k => by
    obtain ⟨y, hy, hr⟩ := k 0 v (by simp)
    simp at hy; subst hy
    refine .cons hr (VRL.of_get (by simpa using h) fun j w hw => ?_)
    obtain ⟨y, hy, hr⟩ := k (j + 1) w (by simpa using hw)
    exact ⟨y, by simpa using hy, hr⟩
theorem VRL.append {l m : List V} {xs ys : List Value} (h : VRL R l xs) (k : VRL R m ys) : VRL R (l ++ m) (xs ++ ys) := by
  cases h with
  | nil => exact k
  | cons a b => exact .cons a (VRL.append b k)
theorem VRL.take {l : List V} {xs : List Value} (h : VRL R l xs) (n : Nat) : VRL R (l.take n) (xs.take n) := by
  cases n with
  | zero => simpa using VRL.nil
  | succ n =>
    cases h with
    | nil => simpa using VRL.nil
    | cons a b => exact .cons a (VRL.take b n)
theorem VRL.drop {l : List V} {xs : List Value} (h : VRL R l xs) (n : Nat) : VRL R (l.drop n) (xs.drop n) := by
  cases n with
  | zero => simpa using h
  | succ n =>
    cases h with
    | nil => simpa using VRL.nil
    | cons a b => exact VRL.drop b n
theorem VRL.set {l : List V} {xs : List Value} (h : VRL R l xs) (n : Nat) {v : V} {x : Value} (hv : VR R v x) : VRL R (l.set n v) (xs.set n x) := by
  cases h with
  | nil => simpa using VRL.nil
  | cons a b =>
    cases n with
    | zero => exact .cons hv b
    | succ n => exact .cons a (VRL.set b n hv)
theorem VRL.replicate (n : Nat) {v : V} {x : Value} (hv : VR R v x) : VRL R (List.replicate n v) (List.replicate n x) := by
  induction n with
  | zero => exact .nil
  | succ n ih => exact .cons hv ih
theorem VRL.splice {l cs : List V} {xs ys : List Value} (h : VRL R l xs) (k : VRL R cs ys) (off : Nat) :
    VRL R (PE.splice l off cs) (xs.take off ++ ys ++ xs.drop (off + ys.length)) := by
  unfold PE.splice
  rw [← k.length]
  exact ((h.take off).append k).append (h.drop _)
theorem VR.one {v : V} {x : Value} (h : VR R v x) : x.oneCell' = v.one := by
  cases h <;> first | rfl | (rename_i h; exact topOK.one h)
theorem VR.cells {v : V} {x : Value} (h : VR R v x) : VRL R v.cells x.cells.toList := by
  cases h with
  | agg h => exact h
  | top h =>
    rw [show x.cells = #[x] by cases x <;> first | rfl | exact absurd h (by simp [topOK])]
    exact .cons (.top h) .nil
  | tup h => exact .cons (.tup h) .nil
  | _ => exact .cons (by constructor <;> assumption) .nil
theorem VRL.one {l : List V} {xs : List Value} (h : VRL R l xs) (k : l.all V.one = true) : ∀ x ∈ xs, x.oneCell' = true := by
  cases h with
  | nil => simp
  | cons a b =>
    simp only [List.all_cons, Bool.and_eq_true] at k
    intro x hx
    rcases List.mem_cons.1 hx with rfl | hx
    · rw [a.one]; exact k.1
    · exact VRL.one b k.2 x hx
end lists
end Go.PE
namespace Go.PE
abbrev Get := Nat → Option Box
inductive MapR (R : Ren) : List (V × V × Nat) → List MapEntry → Prop
  | nil : MapR R [] []
  | cons {k v : V} {n : Nat} {e : MapEntry} {l : List (V × V × Nat)} {es : List MapEntry} :
      VR R k e.key → VR R v e.val → n = e.born → MapR R l es → MapR R ((k, v, n) :: l) (e :: es)
theorem MapR.mono {R R' : Ren} (h : R.Le R') : ∀ {l : List (V × V × Nat)} {es : List MapEntry}, MapR R l es → MapR R' l es
  | _, _, .nil => .nil
  | _, _, .cons a b c d => .cons (a.mono h) (b.mono h) c (d.mono h)
structure LocOK (R : Ren) (w : World) (v : Nat) (L : Loc) (l : List V) (ver mn : Nat) (c : Array Value) (e : TypeId) : Prop where
  blk : w.heap[L.r]? = some (.cells c e (0, 0))
  n : c.size = L.n
  lohi : L.lo ≤ L.hi
  hil : L.hi ≤ l.length
  fit : L.hi + L.sh - L.lo ≤ L.n
  vv : v ≤ ver
  mv : mn ≤ ver
  top : v = ver → L.hi = l.length
  cell : mn ≤ v → ∀ (j : Nat) (x : V), L.lo ≤ j → j < L.hi → l[j]? = some x → ∃ y, c[j + L.sh - L.lo]? = some y ∧ VR R x y
structure Rel (R : Ren) (g : Get) (w : World) : Prop where
  loc : ∀ b v L, R.loc b v = some L → ∃ l ver mn c e, g b = some (.cells l ver mn) ∧ l.all V.one = true ∧ LocOK R w v L l ver mn c e
  inj : ∀ b v L b' v' L', R.loc b v = some L → R.loc b' v' = some L' → L.r = L'.r → b = b' ∧ L.lo = L'.lo ∧ L.sh = L'.sh
  mp : ∀ b r, R.mp b = some r → ∃ es clock es', g b = some (.map es clock) ∧ w.heap[r]? = some (.map es' clock) ∧ MapR R es es'.toList
  mpinj : ∀ b b' r, R.mp b = some r → R.mp b' = some r → b = b'
  im : ∀ r j x, R.im r j = some x → ∃ c e fz y, w.heap[r]? = some (.cells c e fz) ∧ c[j]? = some y ∧ VR R x y
  imloc : ∀ r j x b v L, R.im r j = some x → R.loc b v = some L → L.r ≠ r
structure StepR (R : Ren) (w : World) (R' : Ren) (w' : World) : Prop where
  le : R.Le R'
  os : w'.os = w.os
  tape : w'.tape = w.tape
  output : w'.output = w.output
  size : w.heap.size ≤ w'.heap.size
  keep : ∀ r, r < w.heap.size → (∀ b v L, R.loc b v = some L → L.r ≠ r) → (∀ b, R.mp b ≠ some r) → w'.heap[r]? = w.heap[r]?
  new : ∀ b v L, R'.loc b v = some L → (∃ v0 L0, R.loc b v0 = some L0 ∧ L0.r = L.r) ∨ w.heap.size ≤ L.r
  newm : ∀ b r, R'.mp b = some r → R.mp b = some r ∨ w.heap.size ≤ r
  newi : ∀ r j x, R'.im r j = some x → R.im r j = some x ∨ w.heap.size ≤ r
theorem StepR.refl (R : Ren) (w : World) : StepR R w R w :=
  ⟨.refl R, rfl, rfl, rfl, Nat.le_refl _, fun _ _ _ _ => rfl, fun _ v L h => .inl ⟨v, L, h, rfl⟩, fun _ _ h => .inl h, fun _ _ _ h => .inl h⟩
theorem StepR.trans {R R' R'' : Ren} {w w' w'' : World} (h : StepR R w R' w') (k : StepR R' w' R'' w'') : StepR R w R'' w'' where
  le := h.le.trans k.le
  os := k.os.trans h.os
  tape := k.tape.trans h.tape
  output := k.output.trans h.output
  size := Nat.le_trans h.size k.size
  keep r hr h1 h2 := by
    have hs := h.size
    rw [k.keep r (by omega) (fun b v L e => ?_) (fun b e => ?_), h.keep r hr h1 h2]
    · rcases h.new b v L e with ⟨v0, L0, e0, er⟩ | hge
      · rw [← er]; exact h1 b v0 L0 e0
      · omega
    · rcases h.newm b r e with e0 | hge
      · exact h2 b e0
      · omega
  new b v L e := by
    rcases k.new b v L e with ⟨v0, L0, e0, er⟩ | hge
    · rcases h.new b v0 L0 e0 with ⟨v1, L1, e1, er1⟩ | hge
      · exact .inl ⟨v1, L1, e1, er1.trans er⟩
      · exact .inr (er ▸ hge)
    · exact .inr (Nat.le_trans h.size hge)
  newm b r e := by
    rcases k.newm b r e with e0 | hge
    · exact h.newm b r e0
    · exact .inr (Nat.le_trans h.size hge)
  newi r j x e := by
    rcases k.newi r j x e with e0 | hge
    · exact h.newi r j x e0
    · exact .inr (Nat.le_trans h.size hge)
def Ren.Dom (R : Ren) (b : Nat) : Prop := (∃ v L, R.loc b v = some L) ∨ ∃ r, R.mp b = some r
theorem Ren.Le.dom {R R' : Ren} (h : R.Le R') {b : Nat} (d : R.Dom b) : R'.Dom b := by
  rcases d with ⟨v, L, e⟩ | ⟨r, e⟩
  · exact .inl ⟨v, L, h.loc b v L e⟩
  · exact .inr ⟨r, h.mp b r e⟩
structure StepH (R : Ren) (H : Heap) (R' : Ren) (H' : Heap) : Prop where
  len : H.length ≤ H'.length
  dom : ∀ b, R'.Dom b → R.Dom b ∨ H.length ≤ b
  keep : ∀ b, b < H.length → ¬ R.Dom b → H'[b]? = H[b]?
theorem StepH.refl (R : Ren) (H : Heap) : StepH R H R H := ⟨Nat.le_refl _, fun _ h => .inl h, fun _ _ _ => rfl⟩
theorem StepH.trans {R R' R'' : Ren} {H H' H'' : Heap} (h : StepH R H R' H') (k : StepH R' H' R'' H'') : StepH R H R'' H'' where
  len := Nat.le_trans h.len k.len
  dom b d := by
    rcases k.dom b d with d' | hge
    · exact h.dom b d'
    · exact .inr (Nat.le_trans h.len hge)
  keep b hb hd := by
    have hl := h.len
    rw [k.keep b (by omega) (fun d => ?_), h.keep b hb hd]
    rcases h.dom b d with d' | hge
    · exact hd d'
    · omega
theorem StepH.set {R : Ren} {H : Heap} {b : Nat} (d : R.Dom b) (x : Box) : StepH R H R (H.set b x) :=
  ⟨by simp, fun _ h => .inl h, fun k _ hk => by
    rw [List.getElem?_set, if_neg]
    rintro rfl
    exact hk d⟩
theorem StepH.mono {R R' : Ren} {H H' : Heap} (h : StepH R H R H') (d : ∀ b, R'.Dom b → R.Dom b ∨ H.length ≤ b) : StepH R H R' H' := ⟨h.len, d, h.keep⟩
theorem StepH.push {R R' : Ren} {H : Heap} (x : Box) (d : ∀ b, R'.Dom b → R.Dom b ∨ b = H.length) : StepH R H R' (H ++ [x]) :=
  ⟨by simp, fun b hb => (d b hb).imp id fun e => Nat.le_of_eq e.symm, fun k hk _ => by rw [List.getElem?_append_left hk]⟩
theorem StepR.drew (R : Ren) (w : World) (n : Nat) : StepR R w R { w with drawn := n } :=
  ⟨.refl R, rfl, rfl, rfl, Nat.le_refl _, fun _ _ _ _ => rfl, fun _ v L h => .inl ⟨v, L, h, rfl⟩, fun _ _ h => .inl h, fun _ _ _ h => .inl h⟩
theorem Rel.drew {R : Ren} {g : Get} {w : World} (h : Rel R g w) (n : Nat) : Rel R g { w with drawn := n } where
  loc b v L e := by
    obtain ⟨l, ver, mn, c, t, hg, ho, hk⟩ := h.loc b v L e
    exact ⟨l, ver, mn, c, t, hg, ho, ⟨hk.blk, hk.n, hk.lohi, hk.hil, hk.fit, hk.vv, hk.mv, hk.top, hk.cell⟩⟩
  inj := h.inj
  mp := h.mp
  mpinj := h.mpinj
  im := h.im
  imloc := h.imloc
theorem Rel.lt {R : Ren} {g : Get} {w : World} (h : Rel R g w) {b v : Nat} {L : Loc} (e : R.loc b v = some L) : L.r < w.heap.size := by
  obtain ⟨l, ver, mn, c, t, hg, ho, hk⟩ := h.loc b v L e
  exact (Array.getElem?_eq_some_iff.1 hk.blk).1
theorem Rel.mlt {R : Ren} {g : Get} {w : World} (h : Rel R g w) {b r : Nat} (e : R.mp b = some r) : r < w.heap.size := by
  obtain ⟨es, clock, es', hg, hk, _⟩ := h.mp b r e
  exact (Array.getElem?_eq_some_iff.1 hk).1
theorem Rel.ilt {R : Ren} {g : Get} {w : World} (h : Rel R g w) {r j : Nat} {x : V} (e : R.im r j = some x) : r < w.heap.size := by
  obtain ⟨c, t, fz, y, hk, _⟩ := h.im r j x e
  exact (Array.getElem?_eq_some_iff.1 hk).1
theorem Rel.locmp {R : Ren} {g : Get} {w : World} (h : Rel R g w) {b v b' r : Nat} {L : Loc} (e : R.loc b v = some L) (e' : R.mp b' = some r) : L.r ≠ r := by
  obtain ⟨l, ver, mn, c, t, hg, ho, hk⟩ := h.loc b v L e
  obtain ⟨es, clock, es', hg', hk', _⟩ := h.mp b' r e'
  intro heq
  have := hk.blk
  rw [heq, hk'] at this
  simp at this
theorem addr_add (r o n : Nat) : (⟨r, o, none⟩ : Addr).add n = ⟨r, o + n, none⟩ := by
  unfold Addr.add; split <;> simp_all
theorem Rel.read {R : Ren} {H : Heap} {w : World} (h : Rel R (H[·]?) w) {b v off n : Nat} {L : Loc} {cs : List V} (e : R.loc b v = some L) (h1 : L.lo ≤ off)
    (h2 : off + n ≤ L.hi) (hr : readCells H b v off n = some cs) :
    cs.length = n ∧ ∃ xs : List Value, VRL R cs xs ∧ ∀ (j : Nat) (y : Value), xs[j]? = some y → w.cell? ((⟨L.r, off + L.sh - L.lo, none⟩ : Addr).add j) = some y := by
  obtain ⟨l, ver, mn, c, t, hg, ho, hk⟩ := h.loc b v L e
  have hg' : H[b]? = some (.cells l ver mn) := hg
  simp only [readCells, hg'] at hr
  split at hr
  · rename_i hc
    have hcs : cs = (l.drop off).take n := by simpa using hr.symm
    subst hcs
    have hlen : ((l.drop off).take n).length = n := by simp; omega
    have hhil := hk.hil
    have hfit := hk.fit
    have hn := hk.n
    refine ⟨hlen, (c.toList.drop (off + L.sh - L.lo)).take n, VRL.of_get ?_ ?_, ?_⟩
    · rw [hlen]; simp; omega
    · intro j x hx
      have hj : j < n := by
        have := (List.getElem?_eq_some_iff.1 hx).1
        rw [hlen] at this; exact this
      have hx' : l[off + j]? = some x := by
        rw [List.getElem?_take, if_pos hj, List.getElem?_drop] at hx; exact hx
      obtain ⟨y, hy, hv⟩ := hk.cell hc.1 (off + j) x (by omega) (by omega) hx'
      refine ⟨y, ?_, hv⟩
      rw [List.getElem?_take, if_pos hj, List.getElem?_drop, Array.getElem?_toList, ← hy]
      congr 1; omega
    · intro j y hy
      have hj : j < n := by
        have := (List.getElem?_eq_some_iff.1 hy).1
        simp at this; omega
      rw [List.getElem?_take, if_pos hj, List.getElem?_drop, Array.getElem?_toList] at hy
      rw [addr_add]
      simp only [World.cell?, hk.blk]
      simpa using hy
  · simp at hr
theorem Rel.readIm {R : Ren} {g : Get} {w : World} (h : Rel R g w) {l : List V} {r o : Nat} (k : ∀ (j : Nat) (x : V), l[j]? = some x → R.im r (o + j) = some x) (n : Nat) (hn : n ≤ l.length) :
    ∃ xs : List Value, VRL R (l.take n) xs ∧ ∀ (j : Nat) (y : Value), xs[j]? = some y → w.cell? ((⟨r, o, none⟩ : Addr).add j) = some y := by
  by_cases hz : n = 0
  · subst hz; exact ⟨[], by simpa using VRL.nil, by simp⟩
  · have h0 : ∃ x, l[0]? = some x := ⟨l[0]'(by omega), by simp⟩
    obtain ⟨x0, hx0⟩ := h0
    obtain ⟨c, t, fz, y0, hb, _, _⟩ := h.im r (o + 0) x0 (k 0 x0 hx0)
    have hall : ∀ (j : Nat) (x : V), l[j]? = some x → ∃ y, c[o + j]? = some y ∧ VR R x y := by
      intro j x hx
      obtain ⟨c', t', fz', y, hb', hy, hv⟩ := h.im r (o + j) x (k j x hx)
      rw [hb] at hb'
      simp only [Option.some.injEq, Obj.cells.injEq] at hb'
      obtain ⟨rfl, _, _⟩ := hb'
      exact ⟨y, hy, hv⟩
    have hlast : o + (n - 1) < c.size := by
      obtain ⟨y, hy, _⟩ := hall (n - 1) (l[n - 1]'(by omega)) (by simp)
      exact (Array.getElem?_eq_some_iff.1 hy).1
    refine ⟨(c.toList.drop o).take n, VRL.of_get (by simp; omega) ?_, ?_⟩
    · intro j x hx
      have hj : j < n := by
        have := (List.getElem?_eq_some_iff.1 hx).1
        simp at this; omega
      rw [List.getElem?_take, if_pos hj] at hx
      obtain ⟨y, hy, hv⟩ := hall j x hx
      refine ⟨y, ?_, hv⟩
      rw [List.getElem?_take, if_pos hj, List.getElem?_drop, Array.getElem?_toList, ← hy]
    · intro j y hy
      have hj : j < n := by
        have := (List.getElem?_eq_some_iff.1 hy).1
        simp at this; omega
      rw [List.getElem?_take, if_pos hj, List.getElem?_drop, Array.getElem?_toList] at hy
      rw [addr_add]
      simp only [World.cell?, hb]
      simpa using hy
theorem getElem?_splice {l cs : List V} {off j : Nat} (h : off + cs.length ≤ l.length) :
    (splice l off cs)[j]? = if j < off then l[j]? else if j < off + cs.length then cs[j - off]? else l[j]? := by
  unfold splice
  have h1 : (l.take off).length = off := by simp; omega
  by_cases a : j < off
  · rw [if_pos a, List.append_assoc, List.getElem?_append_left (by omega), List.getElem?_take, if_pos a]
  · rw [if_neg a]
    by_cases b : j < off + cs.length
    · rw [if_pos b, List.getElem?_append_left (by simp; omega), List.getElem?_append_right (by omega), h1]
    · rw [if_neg b, List.getElem?_append_right (by simp; omega), List.getElem?_drop]
      congr 1
      simp; omega
theorem length_splice {l cs : List V} {off : Nat} (h : off + cs.length ≤ l.length) : (splice l off cs).length = l.length := by
  simp [splice]; omega
theorem all_splice {l cs : List V} {off : Nat} (h : l.all V.one = true) (k : cs.all V.one = true) : (splice l off cs).all V.one = true := by
  unfold splice
  rw [List.all_append, List.all_append, Bool.and_eq_true, Bool.and_eq_true]
  refine ⟨⟨List.all_eq_true.2 fun x hx => List.all_eq_true.1 h x (List.mem_of_mem_take hx), k⟩, List.all_eq_true.2 fun x hx => List.all_eq_true.1 h x (List.mem_of_mem_drop hx)⟩
theorem getElem?_set_heap {H : Heap} {b k : Nat} {x : Box} (hb : b < H.length) : (H.set b x)[k]? = if k = b then some x else H[k]? := by
  rw [List.getElem?_set]
  by_cases h : b = k
  · subst h; simp [hb]
  · rw [if_neg h, if_neg (fun e => h e.symm)]
theorem Rel.write {P : Program} {R : Ren} {H H' : Heap} {w : World} (h : Rel R (H[·]?) w) {b v off : Nat} {L : Loc} {cs : List V} {xs : List Value} (e : R.loc b v = some L) (h1 : L.lo ≤ off)
    (h2 : off + cs.length ≤ L.hi) (hx : VRL R cs xs) (hr : writeCells H b v off cs = some H') :
    ∃ w', (storeCells (⟨L.r, off + L.sh - L.lo, none⟩ : Addr) xs).run P w = .ok () w' ∧ StepR R w R w' ∧ Rel R (H'[·]?) w' := by
  obtain ⟨l, ver, mn, c, t, hg, ho, hk⟩ := h.loc b v L e
  have hg' : H[b]? = some (.cells l ver mn) := hg
  have hbl : b < H.length := (List.getElem?_eq_some_iff.1 hg').1
  simp only [writeCells, hg'] at hr
  split at hr
  · rename_i hc
    obtain ⟨hv, hle, hone⟩ := hc
    subst hv
    have hH : H' = H.set b (.cells (splice l off cs) v v) := by simpa using hr.symm
    subst hH
    have hlen := hx.length
    have hhil := hk.hil
    have hfit := hk.fit
    have hn := hk.n
    have htop := hk.top rfl
    have hrun := run_storeCells_at P L.r (off + L.sh - L.lo) t xs 0 c w hk.blk (by omega) (hx.one hone)
    simp only [Nat.add_zero] at hrun
    refine ⟨_, hrun, ⟨.refl R, rfl, rfl, rfl, by simp, fun r _ h1 _ => setRow_other w L.r r _ (fun er => h1 b v L e er.symm), fun _ v L h => .inl ⟨v, L, h, rfl⟩, fun _ _ h => .inl h, fun _ _ _ h => .inl h⟩, ?_⟩
    refine ⟨?_, h.inj, ?_, h.mpinj, ?_, h.imloc⟩
    · intro b' v' L' e'
      by_cases hbb : b' = b
      · subst hbb
        obtain ⟨l', ver', mn', c', t', hg2, ho2, hk2⟩ := h.loc b' v' L' e'
        rw [hg] at hg2
        simp only [Option.some.injEq, Box.cells.injEq] at hg2
        obtain ⟨rfl, rfl, rfl⟩ := hg2
        by_cases hrr : L'.r = L.r
        · have hblk2 := hk2.blk
          rw [hrr, hk.blk] at hblk2
          simp only [Option.some.injEq, Obj.cells.injEq] at hblk2
          obtain ⟨rfl, rfl, _⟩ := hblk2
          refine ⟨splice l off cs, v, v, (c.toList.take (off + L.sh - L.lo) ++ xs ++ c.toList.drop (off + L.sh - L.lo + xs.length)).toArray, t, by simp [hbl], all_splice ho hone, ⟨?_, ?_, hk2.lohi, ?_, hk2.fit, hk2.vv, Nat.le_refl _, ?_, ?_⟩⟩
          · rw [hrr]; exact setRow_heap w L.r c _ t _ hk.blk
          · have := hk2.n; simp; omega
          · rw [length_splice (by omega)]; exact hk2.hil
          · intro hv; rw [length_splice (by omega)]; exact hk2.top hv
          · intro hv j x hlo hhi hj
            have hvv : v' = v := Nat.le_antisymm hk2.vv hv
            subst hvv
            rw [e] at e'
            simp only [Option.some.injEq] at e'
            subst e'
            rw [getElem?_splice (by omega)] at hj
            simp only [List.getElem?_toArray]
            by_cases a1 : j < off
            · rw [if_pos a1] at hj
              obtain ⟨y, hy, hvr⟩ := hk.cell hk.mv j x hlo hhi hj
              refine ⟨y, ?_, hvr⟩
              rw [List.getElem?_append_left (by simp; omega), List.getElem?_append_left (by simp; omega), List.getElem?_take, if_pos (by omega), Array.getElem?_toList]
              exact hy
            · rw [if_neg a1] at hj
              by_cases a2 : j < off + cs.length
              · rw [if_pos a2] at hj
                obtain ⟨y, hy, hvr⟩ := hx.get hj
                refine ⟨y, ?_, hvr⟩
                rw [List.getElem?_append_left (by simp; omega), List.getElem?_append_right (by simp; omega), ← hy]
                congr 1
                simp; omega
              · rw [if_neg a2] at hj
                obtain ⟨y, hy, hvr⟩ := hk.cell hk.mv j x hlo hhi hj
                refine ⟨y, ?_, hvr⟩
                rw [List.getElem?_append_right (by simp; omega), List.getElem?_drop, Array.getElem?_toList, ← hy]
                congr 1
                simp; omega
        · refine ⟨splice l off cs, v, v, c', t', by simp [hbl], all_splice ho hone, ⟨?_, hk2.n, hk2.lohi, ?_, hk2.fit, hk2.vv, Nat.le_refl _, ?_, ?_⟩⟩
          · rw [setRow_other w L.r L'.r _ hrr]; exact hk2.blk
          · rw [length_splice (by omega)]; exact hk2.hil
          · intro hv; rw [length_splice (by omega)]; exact hk2.top hv
          · intro hv
            have hvv : v' = v := Nat.le_antisymm hk2.vv hv
            subst hvv
            rw [e] at e'
            simp only [Option.some.injEq] at e'
            subst e'
            exact absurd rfl hrr
      · obtain ⟨l', ver', mn', c', t', hg2, ho2, hk2⟩ := h.loc b' v' L' e'
        have hrr : L'.r ≠ L.r := fun er => hbb (h.inj b' v' L' b v L e' e er).1
        refine ⟨l', ver', mn', c', t', ?_, ho2, ⟨?_, hk2.n, hk2.lohi, hk2.hil, hk2.fit, hk2.vv, hk2.mv, hk2.top, hk2.cell⟩⟩
        · show (H.set b _)[b']? = _
          rw [getElem?_set_heap hbl, if_neg hbb]; exact hg2
        · rw [setRow_other w L.r L'.r _ hrr]; exact hk2.blk
    · intro b' r e'
      obtain ⟨es, clock, es', hg2, hk2, hm⟩ := h.mp b' r e'
      have hbb : b' ≠ b := by
        rintro rfl
        rw [hg] at hg2
        simp at hg2
      refine ⟨es, clock, es', ?_, ?_, hm⟩
      · show (H.set b _)[b']? = _
        rw [getElem?_set_heap hbl, if_neg hbb]; exact hg2
      · rw [setRow_other w L.r r _ (fun er => h.locmp e e' er.symm)]; exact hk2
    · intro r j x ei
      obtain ⟨c', t', fz, y, hb', hy, hv'⟩ := h.im r j x ei
      refine ⟨c', t', fz, y, ?_, hy, hv'⟩
      rw [setRow_other w L.r r _ (fun er => h.imloc r j x b v L ei e er.symm)]; exact hb'
  · simp at hr
end Go.PE
namespace Go.PE
def Ren.addLoc (R : Ren) (b v : Nat) (L : Loc) : Ren := { R with loc := fun b' v' => if b' = b ∧ v' = v then some L else R.loc b' v' }
def Ren.addMp (R : Ren) (b r : Nat) : Ren := { R with mp := fun b' => if b' = b then some r else R.mp b' }
theorem Ren.addLoc_le {R : Ren} {b v : Nat} {L : Loc} (h : R.loc b v = none) : R.Le (R.addLoc b v L) :=
  ⟨fun b' v' L' e => by
    unfold Ren.addLoc; dsimp only
    split
    · rename_i hc; obtain ⟨rfl, rfl, rfl⟩ := hc; rw [h] at e; simp at e
    · exact e, fun _ _ e => e, fun _ _ _ e => e, rfl, rfl⟩
theorem Ren.addLoc_self (R : Ren) (b v : Nat) (L : Loc) : (R.addLoc b v L).loc b v = some L := by simp [Ren.addLoc]
theorem Ren.addLoc_inv {R : Ren} {b v b' v' : Nat} {L L' : Loc} (h : (R.addLoc b v L).loc b' v' = some L') : (b' = b ∧ v' = v ∧ L' = L) ∨ R.loc b' v' = some L' := by
  unfold Ren.addLoc at h; dsimp only at h
  split at h
  · rename_i hc; exact .inl ⟨hc.1, hc.2, by simpa using h.symm⟩
  · exact .inr h
theorem Ren.addMp_le {R : Ren} {b r : Nat} (h : R.mp b = none) : R.Le (R.addMp b r) :=
  ⟨fun _ _ _ e => e, fun b' r' e => by
    unfold Ren.addMp; dsimp only
    split
    · rename_i hc; subst hc; rw [h] at e; simp at e
    · exact e, fun _ _ _ e => e, rfl, rfl⟩
theorem Ren.addMp_inv {R : Ren} {b r b' r' : Nat} (h : (R.addMp b r).mp b' = some r') : (b' = b ∧ r' = r) ∨ R.mp b' = some r' := by
  unfold Ren.addMp at h; dsimp only at h
  split at h
  · rename_i hc; exact .inl ⟨hc, by simpa using h.symm⟩
  · exact .inr h
theorem Ren.addLoc_dom {R : Ren} {b v k : Nat} {L : Loc} (h : (R.addLoc b v L).Dom k) : R.Dom k ∨ k = b := by
  rcases h with ⟨v', L', e⟩ | ⟨r, e⟩
  · rcases Ren.addLoc_inv e with ⟨rfl, _, _⟩ | e'
    · exact .inr rfl
    · exact .inl (.inl ⟨v', L', e'⟩)
  · exact .inl (.inr ⟨r, e⟩)
theorem Ren.addMp_dom {R : Ren} {b r k : Nat} (h : (R.addMp b r).Dom k) : R.Dom k ∨ k = b := by
  rcases h with ⟨v', L', e⟩ | ⟨r, e⟩
  · exact .inl (.inl ⟨v', L', e⟩)
  · rcases Ren.addMp_inv e with ⟨rfl, _⟩ | e'
    · exact .inr rfl
    · exact .inl (.inr ⟨r, e'⟩)
theorem push_lt {w : World} {o : Obj} {k : Nat} (h : k < w.heap.size) : (w.alloc o).heap[k]? = w.heap[k]? := by
  show (w.heap.push o)[k]? = _
  rw [Array.getElem?_push, if_neg (by omega)]
theorem push_size (w : World) (o : Obj) : w.heap.size ≤ (w.alloc o).heap.size := by
  show _ ≤ (w.heap.push o).size
  simp
theorem push_at (w : World) (o : Obj) : (w.alloc o).heap[w.heap.size]? = some o := by
  show (w.heap.push o)[w.heap.size]? = _
  simp
theorem LocOK.push {R R' : Ren} {w : World} {o : Obj} {v : Nat} {L : Loc} {l : List V} {ver mn : Nat} {c : Array Value} {e : TypeId} (h : LocOK R w v L l ver mn c e) (le : R.Le R') :
    LocOK R' (w.alloc o) v L l ver mn c e where
  blk := by rw [push_lt (Array.getElem?_eq_some_iff.1 h.blk).1]; exact h.blk
  n := h.n
  lohi := h.lohi
  hil := h.hil
  fit := h.fit
  vv := h.vv
  mv := h.mv
  top := h.top
  cell hv j x h1 h2 h3 := by
    obtain ⟨y, hy, hr⟩ := h.cell hv j x h1 h2 h3
    exact ⟨y, hy, hr.mono le⟩
theorem LocOK.mono {R R' : Ren} {w : World} {v : Nat} {L : Loc} {l : List V} {ver mn : Nat} {c : Array Value} {e : TypeId} (h : LocOK R w v L l ver mn c e) (le : R.Le R') :
    LocOK R' w v L l ver mn c e where
  blk := h.blk
  n := h.n
  lohi := h.lohi
  hil := h.hil
  fit := h.fit
  vv := h.vv
  mv := h.mv
  top := h.top
  cell hv j x h1 h2 h3 := by
    obtain ⟨y, hy, hr⟩ := h.cell hv j x h1 h2 h3
    exact ⟨y, hy, hr.mono le⟩
theorem Rel.none_of_get {R : Ren} {g : Get} {w : World} (h : Rel R g w) {b : Nat} (hb : g b = none) : (∀ v, R.loc b v = none) ∧ R.mp b = none := by
  constructor
  · intro v
    cases e : R.loc b v with
    | none => rfl
    | some L => obtain ⟨_, _, _, _, _, hg, _⟩ := h.loc b v L e; rw [hb] at hg; simp at hg
  · cases e : R.mp b with
    | none => rfl
    | some L => obtain ⟨_, _, _, hg, _⟩ := h.mp b L e; rw [hb] at hg; simp at hg
theorem Rel.alloc {R : Ren} {g g' : Get} {w : World} (h : Rel R g w) {b : Nat} (hb : ∀ v, R.loc b v = none) (hm : R.mp b = none) {cs : List V} {c : Array Value} {t : TypeId}
    (hg : g' b = some (.cells cs 0 0)) (hk : ∀ k, k ≠ b → ((∃ v L, R.loc k v = some L) ∨ ∃ r, R.mp k = some r) → g' k = g k) (hone : cs.all V.one = true)
    (hc : cs.length ≤ c.size) (hv : VRL R cs (c.toList.take cs.length)) :
    Rel (R.addLoc b 0 ⟨w.heap.size, 0, cs.length, c.size, 0⟩) g' (w.alloc (.cells c t)) ∧ StepR R w (R.addLoc b 0 ⟨w.heap.size, 0, cs.length, c.size, 0⟩) (w.alloc (.cells c t)) := by
  have le : R.Le (R.addLoc b 0 ⟨w.heap.size, 0, cs.length, c.size, 0⟩) := Ren.addLoc_le (hb 0)
  refine ⟨⟨?_, ?_, ?_, h.mpinj, ?_, ?_⟩, ⟨le, rfl, rfl, rfl, push_size w _, fun r hr _ _ => push_lt hr, ?_, fun _ _ e => .inl e, fun _ _ _ e => .inl e⟩⟩
  · intro b' v' L' e
    rcases Ren.addLoc_inv e with ⟨rfl, rfl, rfl⟩ | e'
    · refine ⟨cs, 0, 0, c, t, hg, hone, ⟨push_at _ _, rfl, Nat.zero_le _, Nat.le_refl _, by simpa using hc, Nat.le_refl _, Nat.le_refl _, fun _ => rfl, ?_⟩⟩
      intro _ j x _ hj hx
      obtain ⟨y, hy, hr⟩ := hv.get hx
      refine ⟨y, ?_, hr.mono le⟩
      rw [List.getElem?_take, if_pos hj, Array.getElem?_toList] at hy
      simpa using hy
    · obtain ⟨l, ver, mn, c', t', hg2, ho2, hk2⟩ := h.loc b' v' L' e'
      have hne : b' ≠ b := by rintro rfl; rw [hb v'] at e'; simp at e'
      exact ⟨l, ver, mn, c', t', by rw [hk b' hne (.inl ⟨v', L', e'⟩)]; exact hg2, ho2, hk2.push le⟩
  · intro b1 v1 L1 b2 v2 L2 e1 e2 er
    rcases Ren.addLoc_inv e1 with ⟨rfl, rfl, rfl⟩ | e1' <;> rcases Ren.addLoc_inv e2 with ⟨rfl, rfl, rfl⟩ | e2'
    · exact ⟨rfl, rfl, rfl⟩
    · have := h.lt e2'; simp only at er; omega
    · have := h.lt e1'; simp only at er; omega
    · exact h.inj b1 v1 L1 b2 v2 L2 e1' e2' er
  · intro b' r e
    obtain ⟨es, clock, es', hg2, hk2, hmm⟩ := h.mp b' r e
    have hne : b' ≠ b := by rintro rfl; have e' : R.mp b' = some r := e; rw [hm] at e'; simp at e'
    exact ⟨es, clock, es', by rw [hk b' hne (.inr ⟨r, e⟩)]; exact hg2, by rw [push_lt (h.mlt e)]; exact hk2, hmm.mono le⟩
  · intro r j x e
    obtain ⟨c', t', fz, y, hb', hy, hr⟩ := h.im r j x e
    exact ⟨c', t', fz, y, by rw [push_lt (h.ilt e)]; exact hb', hy, hr.mono le⟩
  · intro r j x b' v' L' e e'
    rcases Ren.addLoc_inv e' with ⟨rfl, rfl, rfl⟩ | e''
    · have := h.ilt e; simp only; omega
    · exact h.imloc r j x b' v' L' e e''
  · intro b' v' L' e
    rcases Ren.addLoc_inv e with ⟨rfl, rfl, rfl⟩ | e'
    · exact .inr (Nat.le_refl _)
    · exact .inl ⟨v', L', e', rfl⟩
theorem Rel.junk {R : Ren} {g : Get} {w : World} (h : Rel R g w) (o : Obj) : Rel R g (w.alloc o) ∧ StepR R w R (w.alloc o) := by
  refine ⟨⟨?_, h.inj, ?_, h.mpinj, ?_, h.imloc⟩, ⟨.refl R, rfl, rfl, rfl, push_size w _, fun r hr _ _ => push_lt hr, fun _ v L h => .inl ⟨v, L, h, rfl⟩, fun _ _ e => .inl e, fun _ _ _ e => .inl e⟩⟩
  · intro b v L e
    obtain ⟨l, ver, mn, c, t, hg, ho, hk⟩ := h.loc b v L e
    exact ⟨l, ver, mn, c, t, hg, ho, hk.push (.refl R)⟩
  · intro b r e
    obtain ⟨es, clock, es', hg2, hk2, hmm⟩ := h.mp b r e
    exact ⟨es, clock, es', hg2, by rw [push_lt (h.mlt e)]; exact hk2, hmm⟩
  · intro r j x e
    obtain ⟨c', t', fz, y, hb', hy, hr⟩ := h.im r j x e
    exact ⟨c', t', fz, y, by rw [push_lt (h.ilt e)]; exact hb', hy, hr⟩
theorem Rel.newMap {R : Ren} {g g' : Get} {w : World} (h : Rel R g w) {b : Nat} (hb : ∀ v, R.loc b v = none) (hm : R.mp b = none)
    (hg : g' b = some (.map [] 0)) (hk : ∀ k, k ≠ b → ((∃ v L, R.loc k v = some L) ∨ ∃ r, R.mp k = some r) → g' k = g k) :
    Rel (R.addMp b w.heap.size) g' (w.alloc (.map #[] 0)) ∧ StepR R w (R.addMp b w.heap.size) (w.alloc (.map #[] 0)) := by
  have le : R.Le (R.addMp b w.heap.size) := Ren.addMp_le hm
  refine ⟨⟨?_, h.inj, ?_, ?_, ?_, h.imloc⟩, ⟨le, rfl, rfl, rfl, push_size w _, fun r hr _ _ => push_lt hr, fun _ v L h => .inl ⟨v, L, h, rfl⟩, ?_, fun _ _ _ e => .inl e⟩⟩
  · intro b' v' L' e
    have e' : R.loc b' v' = some L' := e
    obtain ⟨l, ver, mn, c', t', hg2, ho2, hk2⟩ := h.loc b' v' L' e'
    have hne : b' ≠ b := by rintro rfl; rw [hb v'] at e'; simp at e'
    exact ⟨l, ver, mn, c', t', by rw [hk b' hne (.inl ⟨v', L', e'⟩)]; exact hg2, ho2, hk2.push le⟩
  · intro b' r e
    rcases Ren.addMp_inv e with ⟨rfl, rfl, rfl⟩ | e'
    · exact ⟨[], 0, #[], hg, push_at _ _, .nil⟩
    · obtain ⟨es, clock, es', hg2, hk2, hmm⟩ := h.mp b' r e'
      have hne : b' ≠ b := by rintro rfl; rw [hm] at e'; simp at e'
      exact ⟨es, clock, es', by rw [hk b' hne (.inr ⟨r, e'⟩)]; exact hg2, by rw [push_lt (h.mlt e')]; exact hk2, hmm.mono le⟩
  · intro b1 b2 r e1 e2
    rcases Ren.addMp_inv e1 with ⟨rfl, rfl, rfl⟩ | e1' <;> rcases Ren.addMp_inv e2 with ⟨rfl, er⟩ | e2'
    · rfl
    · have := h.mlt e2'; omega
    · have := h.mlt e1'; omega
    · exact h.mpinj b1 b2 r e1' e2'
  · intro r j x e
    obtain ⟨c', t', fz, y, hb', hy, hr⟩ := h.im r j x e
    exact ⟨c', t', fz, y, by rw [push_lt (h.ilt e)]; exact hb', hy, hr.mono le⟩
  · intro b' r e
    rcases Ren.addMp_inv e with ⟨rfl, rfl, rfl⟩ | e'
    · exact .inr (Nat.le_refl _)
    · exact .inl e'
theorem Rel.growNew {R : Ren} {H : Heap} {w : World} (h : Rel R (H[·]?) w) {b v off : Nat} {L : Loc} {l xs : List V} {mn : Nat} {c : Array Value} {t : TypeId}
    (e : R.loc b v = some L) (hg : H[b]? = some (.cells l v mn)) (_h1 : L.lo ≤ off) (h2 : off ≤ l.length) (hone : xs.all V.one = true) (hmn : mn ≤ v)
    (hc : l.length - off + xs.length ≤ c.size) (hv : VRL R (l.drop off ++ xs) (c.toList.take (l.length - off + xs.length))) :
    ∃ R', R' = R.addLoc b (v + 1) ⟨w.heap.size, off, l.length + xs.length, c.size, 0⟩ ∧
      Rel R' ((H.set b (.cells (l ++ xs) (v + 1) mn))[·]?) (w.alloc (.cells c t)) ∧ StepR R w R' (w.alloc (.cells c t)) := by
  have hnone : R.loc b (v + 1) = none := by
    cases e' : R.loc b (v + 1) with
    | none => rfl
    | some L' =>
      obtain ⟨l', ver', mn', c', t', hg2, _, hk2⟩ := h.loc b (v + 1) L' e'
      have hg3 : H[b]? = some (.cells l' ver' mn') := hg2
      rw [hg] at hg3
      simp only [Option.some.injEq, Box.cells.injEq] at hg3
      obtain ⟨_, rfl, _⟩ := hg3
      have := hk2.vv; omega
  have hbl : b < H.length := (List.getElem?_eq_some_iff.1 hg).1
  have le : R.Le (R.addLoc b (v + 1) ⟨w.heap.size, off, l.length + xs.length, c.size, 0⟩) := Ren.addLoc_le hnone
  obtain ⟨l0, ver0, mn0, c0, t0, hg0, ho0, hk0⟩ := h.loc b v L e
  have hg0' : H[b]? = some (.cells l0 ver0 mn0) := hg0
  rw [hg] at hg0'
  simp only [Option.some.injEq, Box.cells.injEq] at hg0'
  obtain ⟨rfl, rfl, rfl⟩ := hg0'
  have hall : (l ++ xs).all V.one = true := by rw [List.all_append, ho0, hone]; rfl
  refine ⟨_, rfl, ⟨?_, ?_, ?_, h.mpinj, ?_, ?_⟩, ⟨le, rfl, rfl, rfl, push_size w _, fun r hr _ _ => push_lt hr, ?_, fun _ _ e => .inl e, fun _ _ _ e => .inl e⟩⟩
  · intro b' v' L' e'
    rcases Ren.addLoc_inv e' with ⟨rfl, rfl, rfl⟩ | e''
    · refine ⟨l ++ xs, v + 1, mn, c, t, by simp [hbl], hall, ⟨push_at _ _, rfl, ?_, ?_, ?_, Nat.le_refl _, by omega, ?_, ?_⟩⟩
      · dsimp only; omega
      · dsimp only; simp
      · dsimp only; omega
      · intro _; simp
      · intro _ j x hlo hj hx
        dsimp only at hlo hj ⊢
        have hx' : (l.drop off ++ xs)[j - off]? = some x := by
          rw [← hx]
          by_cases hjl : j < l.length
          · rw [List.getElem?_append_left (by simp; omega), List.getElem?_append_left hjl, List.getElem?_drop]
            congr 1; omega
          · rw [List.getElem?_append_right (by simp; omega), List.getElem?_append_right (by omega)]
            congr 1; simp; omega
        obtain ⟨y, hy, hr⟩ := hv.get hx'
        refine ⟨y, ?_, hr.mono le⟩
        rw [List.getElem?_take, if_pos (by omega), Array.getElem?_toList] at hy
        exact hy
    · obtain ⟨l', ver', mn', c', t', hg2, ho2, hk2⟩ := h.loc b' v' L' e''
      by_cases hbb : b' = b
      · subst hbb
        have hg3 : H[b']? = some (.cells l' ver' mn') := hg2
        rw [hg] at hg3
        simp only [Option.some.injEq, Box.cells.injEq] at hg3
        obtain ⟨rfl, rfl, rfl⟩ := hg3
        have hp := hk2.push (o := .cells c t) le
        refine ⟨l ++ xs, v + 1, mn, c', t', by simp [hbl], hall, ⟨hp.blk, hp.n, hp.lohi, ?_, hp.fit, ?_, by omega, ?_, ?_⟩⟩
        · have := hp.hil; simp; omega
        · have := hp.vv; omega
        · intro hv'; have := hp.vv; omega
        · intro hv' j x hlo hj hx
          have := hp.hil
          exact hp.cell hv' j x hlo hj (by rw [List.getElem?_append_left (by omega)] at hx; exact hx)
      · refine ⟨l', ver', mn', c', t', ?_, ho2, hk2.push le⟩
        show (H.set b _)[b']? = _
        rw [getElem?_set_heap hbl, if_neg hbb]; exact hg2
  · intro b1 v1 L1 b2 v2 L2 e1 e2 er
    rcases Ren.addLoc_inv e1 with ⟨rfl, rfl, rfl⟩ | e1' <;> rcases Ren.addLoc_inv e2 with ⟨rfl, rfl, rfl⟩ | e2'
    · exact ⟨rfl, rfl, rfl⟩
    · have := h.lt e2'; simp only at er; omega
    · have := h.lt e1'; simp only at er; omega
    · exact h.inj b1 v1 L1 b2 v2 L2 e1' e2' er
  · intro b' r e'
    obtain ⟨es, clock, es', hg2, hk2, hmm⟩ := h.mp b' r e'
    have hne : b' ≠ b := by
      rintro rfl
      have hg3 : H[b']? = some (.map es clock) := hg2
      rw [hg] at hg3; simp at hg3
    refine ⟨es, clock, es', ?_, by rw [push_lt (h.mlt e')]; exact hk2, hmm.mono le⟩
    show (H.set b _)[b']? = _
    rw [getElem?_set_heap hbl, if_neg hne]; exact hg2
  · intro r j x e'
    obtain ⟨c', t', fz, y, hb', hy, hr⟩ := h.im r j x e'
    exact ⟨c', t', fz, y, by rw [push_lt (h.ilt e')]; exact hb', hy, hr.mono le⟩
  · intro r j x b' v' L' e1 e'
    rcases Ren.addLoc_inv e' with ⟨rfl, rfl, rfl⟩ | e''
    · have := h.ilt e1; simp only; omega
    · exact h.imloc r j x b' v' L' e1 e''
  · intro b' v' L' e'
    rcases Ren.addLoc_inv e' with ⟨rfl, rfl, rfl⟩ | e''
    · exact .inr (Nat.le_refl _)
    · exact .inl ⟨v', L', e'', rfl⟩
theorem Rel.growHere {P : Program} {R : Ren} {H : Heap} {w : World} (h : Rel R (H[·]?) w) {b v : Nat} {L : Loc} {l xs : List V} {ys : List Value} {mn : Nat}
    (e : R.loc b v = some L) (hg : H[b]? = some (.cells l v mn)) (hone : xs.all V.one = true) (hmn : mn ≤ v)
    (hfit : l.length + L.sh - L.lo + xs.length ≤ L.n) (hv : VRL R xs ys) :
    ∃ R' w', R' = R.addLoc b (v + 1) ⟨L.r, L.lo, l.length + xs.length, L.n, L.sh⟩ ∧
      (storeCells (⟨L.r, l.length + L.sh - L.lo, none⟩ : Addr) ys).run P w = .ok () w' ∧
      Rel R' ((H.set b (.cells (l ++ xs) (v + 1) mn))[·]?) w' ∧ StepR R w R' w' := by
  have hnone : R.loc b (v + 1) = none := by
    cases e' : R.loc b (v + 1) with
    | none => rfl
    | some L' =>
      obtain ⟨l', ver', mn', c', t', hg2, _, hk2⟩ := h.loc b (v + 1) L' e'
      have hg3 : H[b]? = some (.cells l' ver' mn') := hg2
      rw [hg] at hg3
      simp only [Option.some.injEq, Box.cells.injEq] at hg3
      obtain ⟨_, rfl, _⟩ := hg3
      have := hk2.vv; omega
  have hbl : b < H.length := (List.getElem?_eq_some_iff.1 hg).1
  have le : R.Le (R.addLoc b (v + 1) ⟨L.r, L.lo, l.length + xs.length, L.n, L.sh⟩) := Ren.addLoc_le hnone
  obtain ⟨l0, ver0, mn0, c0, t0, hg0, ho0, hk0⟩ := h.loc b v L e
  have hg0' : H[b]? = some (.cells l0 ver0 mn0) := hg0
  rw [hg] at hg0'
  simp only [Option.some.injEq, Box.cells.injEq] at hg0'
  obtain ⟨rfl, rfl, rfl⟩ := hg0'
  have hall : (l ++ xs).all V.one = true := by rw [List.all_append, ho0, hone]; rfl
  have hlen := hv.length
  have htop := hk0.top rfl
  have hlohi := hk0.lohi
  have hn := hk0.n
  have hrun := run_storeCells_at P L.r (l.length + L.sh - L.lo) t0 ys 0 c0 w hk0.blk (by omega) (hv.one hone)
  simp only [Nat.add_zero] at hrun
  have hrow := setRow_heap w L.r c0 (c0.toList.take (l.length + L.sh - L.lo) ++ ys ++ c0.toList.drop (l.length + L.sh - L.lo + ys.length)).toArray t0 _ hk0.blk
  have hother : ∀ k, k ≠ L.r → (w.setRow L.r (c0.toList.take (l.length + L.sh - L.lo) ++ ys ++ c0.toList.drop (l.length + L.sh - L.lo + ys.length)).toArray).heap[k]? = w.heap[k]? := fun k hk => setRow_other w L.r k _ hk
  refine ⟨_, _, rfl, hrun, ⟨?_, ?_, ?_, h.mpinj, ?_, ?_⟩, ⟨le, rfl, rfl, rfl, by simp, fun r _ h1 _ => hother r (fun er => h1 b v L e er.symm), ?_, fun _ _ e => .inl e, fun _ _ _ e => .inl e⟩⟩
  · intro b' v' L' e'
    rcases Ren.addLoc_inv e' with ⟨rfl, rfl, rfl⟩ | e''
    · refine ⟨l ++ xs, v + 1, mn, _, t0, by simp [hbl], hall, ⟨hrow, ?_, ?_, ?_, ?_, Nat.le_refl _, by omega, ?_, ?_⟩⟩
      · dsimp only; simp; omega
      · dsimp only; omega
      · dsimp only; simp
      · dsimp only; omega
      · intro _; simp
      · intro _ j x hlo hj hx
        dsimp only at hlo hj ⊢
        simp only [List.getElem?_toArray]
        by_cases hjl : j < l.length
        · rw [List.getElem?_append_left hjl] at hx
          obtain ⟨y, hy, hr⟩ := hk0.cell hmn j x hlo (by omega) hx
          refine ⟨y, ?_, hr.mono le⟩
          rw [List.getElem?_append_left (by simp; omega), List.getElem?_append_left (by simp; omega), List.getElem?_take, if_pos (by omega), Array.getElem?_toList]
          exact hy
        · rw [List.getElem?_append_right (by omega)] at hx
          obtain ⟨y, hy, hr⟩ := hv.get hx
          refine ⟨y, ?_, hr.mono le⟩
          have := (List.getElem?_eq_some_iff.1 hx).1
          rw [List.getElem?_append_left (by simp; omega), List.getElem?_append_right (by simp; omega), ← hy]
          congr 1; simp; omega
    · obtain ⟨l', ver', mn', c', t', hg2, ho2, hk2⟩ := h.loc b' v' L' e''
      by_cases hbb : b' = b
      · subst hbb
        have hg3 : H[b']? = some (.cells l' ver' mn') := hg2
        rw [hg] at hg3
        simp only [Option.some.injEq, Box.cells.injEq] at hg3
        obtain ⟨rfl, rfl, rfl⟩ := hg3
        by_cases hrr : L'.r = L.r
        · have hblk := hk2.blk
          rw [hrr, hk0.blk] at hblk
          simp only [Option.some.injEq, Obj.cells.injEq] at hblk
          obtain ⟨rfl, rfl, _⟩ := hblk
          have hlo := (h.inj b' v' L' b' v L e'' e hrr).2
          have hil2 := hk2.hil
          refine ⟨l ++ xs, v + 1, mn, _, t0, by simp [hbl], hall, ⟨by rw [hrr]; exact hrow, ?_, hk2.lohi, ?_, hk2.fit, ?_, by omega, ?_, ?_⟩⟩
          · have := hk2.n; simp; omega
          · simp; omega
          · have := hk2.vv; omega
          · intro hv'; have := hk2.vv; omega
          · intro hv' j x hlo' hj hx
            rw [List.getElem?_append_left (by omega)] at hx
            obtain ⟨y, hy, hr⟩ := hk2.cell hv' j x hlo' hj hx
            refine ⟨y, ?_, hr.mono le⟩
            simp only [List.getElem?_toArray]
            rw [List.getElem?_append_left (by simp; omega), List.getElem?_append_left (by simp; omega), List.getElem?_take, if_pos (by omega), Array.getElem?_toList]
            exact hy
        · have hp := hk2.mono le
          refine ⟨l ++ xs, v + 1, mn, c', t', by simp [hbl], hall, ⟨by rw [hother _ hrr]; exact hp.blk, hp.n, hp.lohi, ?_, hp.fit, ?_, by omega, ?_, ?_⟩⟩
          · have := hp.hil; simp; omega
          · have := hp.vv; omega
          · intro hv'; have := hp.vv; omega
          · intro hv' j x hlo' hj hx
            have := hp.hil
            exact hp.cell hv' j x hlo' hj (by rw [List.getElem?_append_left (by omega)] at hx; exact hx)
      · have hp := hk2.mono le
        have hrr : L'.r ≠ L.r := fun er => hbb (h.inj b' v' L' b v L e'' e er).1
        refine ⟨l', ver', mn', c', t', ?_, ho2, ⟨by rw [hother _ hrr]; exact hp.blk, hp.n, hp.lohi, hp.hil, hp.fit, hp.vv, hp.mv, hp.top, hp.cell⟩⟩
        show (H.set b _)[b']? = _
        rw [getElem?_set_heap hbl, if_neg hbb]; exact hg2
  · intro b1 v1 L1 b2 v2 L2 e1 e2 er
    rcases Ren.addLoc_inv e1 with ⟨rfl, rfl, rfl⟩ | e1' <;> rcases Ren.addLoc_inv e2 with ⟨rfl, rfl, rfl⟩ | e2'
    · exact ⟨rfl, rfl, rfl⟩
    · exact h.inj _ v L _ v2 L2 e e2' er
    · exact h.inj _ v1 L1 _ v L e1' e er
    · exact h.inj b1 v1 L1 b2 v2 L2 e1' e2' er
  · intro b' r e'
    obtain ⟨es, clock, es', hg2, hk2, hmm⟩ := h.mp b' r e'
    have hne : b' ≠ b := by
      rintro rfl
      have hg3 : H[b']? = some (.map es clock) := hg2
      rw [hg] at hg3; simp at hg3
    refine ⟨es, clock, es', ?_, by rw [hother r (fun er => h.locmp e e' er.symm)]; exact hk2, hmm.mono le⟩
    show (H.set b _)[b']? = _
    rw [getElem?_set_heap hbl, if_neg hne]; exact hg2
  · intro r j x e'
    obtain ⟨c', t', fz, y, hb', hy, hr⟩ := h.im r j x e'
    exact ⟨c', t', fz, y, by rw [hother r (fun er => h.imloc r j x b v L e' e er.symm)]; exact hb', hy, hr.mono le⟩
  · intro r j x b' v' L' e1 e'
    rcases Ren.addLoc_inv e' with ⟨rfl, rfl, rfl⟩ | e''
    · exact h.imloc r j x _ v L e1 e
    · exact h.imloc r j x b' v' L' e1 e''
  · intro b' v' L' e'
    rcases Ren.addLoc_inv e' with ⟨rfl, rfl, rfl⟩ | e''
    · exact .inl ⟨v, L, e, rfl⟩
    · exact .inl ⟨v', L', e'', rfl⟩
end Go.PE
