/- The compiler from the model's code into the evaluator's code ('E'): plain definitions, no proof; nothing of a program stands here. What it does not cover becomes 'fail'. -/
import Derived.Test.YtbpkjhamidpoeaaGreatDoorE1
namespace Go.PE

def ofCell : Value → Option V
  | .bool b => some (.bool b)
  | .int k n => some (.int k n)
  | .string s => some (.str s)
  | .pointer none => some .nilptr
  | .slice none 0 0 => some .nils
  | .map none => some .nilmap
  | .nilFunc => some .nilfn
  | .nilIface => some .nilif
  | _ => none

def ofCells : List Value → Option (List V)
  | [] => some []
  | v :: l => match ofCell v, ofCells l with | some x, some xs => some (x :: xs) | _, _ => none

def ofConst : Value → Option V
  | .agg cs => (ofCells cs.toList).map .agg
  | .tuple vs => if vs.isEmpty then some V.undef else none
  | v => ofCell v

def cOpd : Operand → Option Opd
  | .tmp t => some (.t t)
  | .const v => (ofConst v).map .c
  | .func f => some (.c (.fn f [] []))
  | .global _ => none

def cOpds : List Operand → Option (List Opd)
  | [] => some []
  | x :: l => match cOpd x, cOpds l with | some x, some xs => some (x :: xs) | _, _ => none

section
variable (P : Program)

def aggT (t : TypeId) : Bool := match P.underlying t with | some (.struct _) | some (.array _ _) => true | _ => false
def sizeT (t : TypeId) : Option Nat := (P.info? t).map (·.size)
def bytesT (t : TypeId) : Option Nat := (P.info? t).map (·.bytes)
/-- The zero value's cells. -/
def zeroT (t : TypeId) : Option (List V) := ((P.info? t).bind (·.zero)).bind fun z => ofCells z.cells.toList
/-- The zero value. -/
def zeroV (t : TypeId) : Option V := ((P.info? t).bind (·.zero)).bind ofConst
/-- How a variable of a type is read: as an aggregate, of how many cells. -/
def shapeT (t : TypeId) : Option (Bool × Nat) :=
  match sizeT P t with
  | some n => if (P.underlying t).isNone then none else if aggT P t then (if 0 < n then some (true, n) else none) else if n = 1 then some (false, 1) else none
  | none => none

def leafsF (f : TypeId → Option (List Leaf)) : List Field → Nat → Option (List Leaf)
  | [], _ => some []
  | fd :: fs, off =>
    if fd.name != "_" && fd.offset == off then
      match f fd.type, sizeT P fd.type with
      | some l, some n => if l.length = n ∧ 0 < n then (leafsF f fs (off + n)).map (l ++ ·) else none
      | _, _ => none
    else none

def repeatK (l : List Leaf) : Nat → List Leaf
  | 0 => []
  | n + 1 => l ++ repeatK l n

/-- The kinds of the cells of plain data that '==' compares cell by cell, one behind the other. -/
def leafsT : Nat → TypeId → Option (List Leaf)
  | 0, _ => none
  | d + 1, t =>
    match P.underlying t with
    | some .bool => some [.bool]
    | some (.int _) => some [.int]
    | some .string => some [.str]
    | some (.struct fs) => if P.stoodInHeld t then none else leafsF P (leafsT d) fs.toList 0
    | some (.array n e) =>
      match leafsT d e, sizeT P e with
      | some l, some s => if l.length = s ∧ 0 < s then some (repeatK l n) else none
      | _, _ => none
    | _ => none

def eqDepth : Nat := 12

def cParts (place : Nat → Option (Nat × Nat)) : List (Nat × Operand) → Option (List (Nat × Nat × Opd))
  | [] => some []
  | (i, x) :: l =>
    match place i, cOpd x, cParts place l with
    | some (off, n), some x, some ps => some ((off, n, x) :: ps)
    | _, _, _ => none

def isNilConst : NK → Operand → Bool
  | .ptr, .const (.pointer none) | .sl, .const (.slice none _ _) | .mp, .const (.map none) | .fn, .const .nilFunc => true
  | _, _ => false

def nkOf : TypeDesc → Option NK
  | .pointer _ => some .ptr
  | .slice _ => some .sl
  | .map _ _ => some .mp
  | .func _ _ _ => some .fn
  | _ => none

def cEq (neg : Bool) (t : TypeId) (x y : Operand) (a b : Opd) : Option EOp :=
  match P.underlying t with
  | some .bool => some (.eq neg (.leaf .bool) a b)
  | some (.int _) => some (.eq neg (.leaf .int) a b)
  | some .string => some (.eq neg (.leaf .str) a b)
  | some (.struct _) => if P.eqGuardType P.depth t then none else (leafsT P eqDepth t).map fun ks => .eq neg (.agg ks) a b
  | some (.array _ _) => if P.eqGuardType P.depth t then none else (leafsT P eqDepth t).map fun ks => .eq neg (.agg ks) a b
  | some d => match nkOf d with
    | some k => if isNilConst k y then some (.eq neg (.nilR k) a b) else if isNilConst k x then some (.eq neg (.nilL k) a b) else none
    | none => none
  | none => none

def isNeq : BinOp → Bool
  | .neq => true
  | _ => false

def cBin (op : BinOp) (t : TypeId) (x y : Operand) : Option EOp :=
  match cOpd x, cOpd y with
  | some a, some b => if op = .eql ∨ op = .neq then cEq P (isNeq op) t x y a b else some (.bin op a b)
  | _, _ => none

def elemSlice (t : TypeId) : Option (TypeId × Nat) :=
  match P.underlying t with
  | some (.slice e) => (sizeT P e).map fun n => (e, n)
  | _ => none

/-- A Go function with a body, called as it stands. -/
def callable (f : FuncId) : Bool :=
  match P.funcs[f]? with
  | some fn => fn.body.isSome && fn.name != "runtime.NumGoroutine"
  | none => false

def isIntT : TypeDesc → Bool
  | .int _ => true
  | _ => false

def cBuiltin (b : Builtin) (argTypes : Array TypeId) (args : List Operand) : Option EOp :=
  match b, argTypes.toList, args with
  | .len, [t], [x] =>
    match P.underlying t with
    | some .string => (cOpd x).map (.len true)
    | some (.slice _) => (cOpd x).map (.len false)
    | some (.array n _) => some (.lenArr n)
    | some (.pointer a) => match P.underlying a with | some (.array n _) => some (.lenArr n) | _ => none
    | _ => none
  | .append, [t, u], [s, x] =>
    match elemSlice P t, P.underlying u with
    | some (e, n), some d =>
      if isIntT d then none else
      match bytesT P e, zeroT P e, cOpd s, cOpd x with
      | some bs, some z, some s, some x => if 0 < n && 0 < bs && z.length == n then some (.append n bs s x) else none
      | _, _, _, _ => none
    | _, _ => none
  | .copy, _ :: _, [d, x] =>
    match argTypes[0]? with
    | some t =>
      match elemSlice P t, cOpd d, cOpd x with
      | some (_, n), some d, some x => if 0 < n then some (.copy n d x) else none
      | _, _, _ => none
    | none => none
  | .clear, [t], [d] =>
    match elemSlice P t with
    | some (e, n) =>
      match zeroT P e, cOpd d with
      | some z, some d => if 0 < n && z.length == n && z.all V.one then some (.clear z n d) else none
      | _, _ => none
    | none => none
  | .min, _, [x, y] => match cOpd x, cOpd y with | some x, some y => some (.minmax false x y) | _, _ => none
  | .max, _, [x, y] => match cOpd x, cOpd y with | some x, some y => some (.minmax true x y) | _, _ => none
  | _, _, _ => none

def cOp (o : Oper) : Option EOp :=
  match o.op with
  | .move x | .assign x => (cOpd x).map .move
  | .pick c a b => do some (.pick (← cOpd c) (← cOpd a) (← cOpd b))
  | .alloc t => (zeroT P t).map .new
  | .box _ x => (cOpd x).map (.box 0)
  | .build t parts =>
    match zeroT P t, P.underlying t with
    | some z, some (.struct fs) => if fs.toList.all fun f => (sizeT P f.type).isSome then (cParts (fun i => (fs[i]?).bind fun f => (sizeT P f.type).map fun n => (f.offset, n)) parts.toList).map (.build z) else none
    | some z, some (.array _ e) => match sizeT P e with
      | some n => (cParts (fun i => some (i * n, n)) parts.toList).map (.build z)
      | none => none
    | _, _ => none
  | .buildSlice t len parts =>
    match elemSlice P t with
    | some (e, n) =>
      match zeroT P e with
      | some z => if 0 < n && z.length == n && len * n ≤ 2 ^ 20 && (len != 0 || parts.isEmpty) then (cParts (fun i => some (i * n, n)) parts.toList).map (.buildSl n z len) else none
      | none => none
    | none => none
  | .load t a => match shapeT P t, cOpd a with | some (g, n), some a => some (.load g n a) | _, _ => none
  | .store t a v => match shapeT P t, cOpd a, cOpd v with | some (_, n), some a, some v => some (.store n a v) | _, _, _ => none
  | .nilCheck x => (cOpd x).map .nilc
  | .binOp op t x y _ => cBin P op t x y
  | .unOp op _ x => (cOpd x).map (.un op)
  | .convert src dst x =>
    match P.underlying src, P.underlying dst with
    | some (.int _), some (.int k) => (cOpd x).map (.conv k)
    | some .string, some .string => (cOpd x).map .strId
    | some (.slice e), some .string => match P.underlying e with
      | some (.int .u8) => (cOpd x).map .toStr
      | _ => none
    | _, _ => none
  | .makeInterface t x => match P.underlying t with
    | some (.interface _) => none
    | some _ => (cOpd x).map (.mkIface t)
    | none => none
  | .makeFunc (.func f) first captured => match cOpds first.toList, cOpds captured.toList with
    | some a, some c => some (.mkFn f a c)
    | _, _ => none
  | .makeMap t none => match P.underlying t with
    | some (.map k _) => match P.underlying k with | some (.int _) => some .mkMap | _ => none
    | _ => none
  | .makeSlice t l c => match elemSlice P t with
    | some (e, n) => match zeroT P e, bytesT P e, cOpd l, cOpd c with
      | some z, some bs, some l, some c => if 0 < n && z.length == n then some (.mkSl n bs z l c) else none
      | _, _, _, _ => none
    | none => none
  | .slice t x lo hi none =>
    let b (y : Option Operand) : Option (Option Opd) := match y with | none => some none | some y => (cOpd y).map some
    match cOpd x, b lo, b hi with
    | some x, some lo, some hi =>
      match P.underlying t with
      | some .string => some (.subs x lo hi)
      | some (.slice e) => match sizeT P e with | some n => if 0 < n then some (.slice n x lo hi) else none | none => none
      | some (.array len e) => match sizeT P e with | some n => if 0 < n then some (.sliceArr len n x lo hi) else none | none => none
      | some (.pointer a) => match P.underlying a with
        | some (.array len e) => match sizeT P e with | some n => if 0 < n then some (.sliceArr len n x lo hi) else none | none => none
        | _ => none
      | _ => none
    | _, _, _ => none
  | .fieldAddr s x f => match P.underlying s with
    | some (.struct fs) => match fs[f]? with
      | some f => match sizeT P f.type, cOpd x with
        | some n, some x => if 0 < n then some (.fieldAddr f.offset x) else none
        | _, _ => none
      | none => none
    | _ => none
  | .field t x f => match P.underlying t with
    | some (.struct fs) => match fs[f]? with
      | some f => match shapeT P f.type, cOpd x with
        | some (g, n), some x => some (.field g f.offset n x)
        | _, _ => none
      | none => none
    | _ => none
  | .indexAddr t x i => match P.underlying t, cOpd x, cOpd i with
    | some (.array len e), some x, some i => match sizeT P e with | some n => if 0 < n then some (.indexAddrArr len n x i) else none | none => none
    | some (.slice e), some x, some i => match sizeT P e with | some n => if 0 < n then some (.indexAddrSl n x i) else none | none => none
    | _, _, _ => none
  | .index t x i => match P.underlying t, cOpd x, cOpd i with
    | some (.array len e), some x, some i => match shapeT P e with | some (g, n) => some (.index (some (len, n, g)) x i) | none => none
    | some .string, some x, some i => some (.index none x i)
    | _, _, _ => none
  | .lookup t m k ok => match P.underlying t with
    | some (.map key e) => match P.underlying key, zeroV P e, cOpd m, cOpd k with
      | some (.int _), some z, some m, some k => some (.lookup z ok m k)
      | _, _, _, _ => none
    | _ => none
  | .mapUpdate t m k v => match P.underlying t with
    | some (.map key _) => match P.underlying key, cOpd m, cOpd k, cOpd v with
      | some (.int _), some m, some k, some v => some (.mapUpd m k v)
      | _, _, _, _ => none
    | _ => none
  | .extract x i => (cOpd x).map fun x => .extract x i
  | .call c =>
    match c.callee with
    | .builtin b => cBuiltin P b c.argTypes c.args.toList
    | .value (.func f) => (cOpds c.args.toList).map (.call f)
    | .value f => match cOpd f, cOpds c.args.toList with | some f, some a => some (.callv f a) | _, _ => none
    | .invoke .. => none
  | _ => none

/-- The slot of the operation whose answer decides whether this one runs. -/
def cGuard (ops : Array Oper) (o : Oper) : Option (Option (Nat × Bool)) :=
  match o.guard with
  | none => some none
  | some (j, want) => match (ops[j]?).bind (·.dst) with
    | some d => some (some (d, want))
    | none => none

def cOper (ops : Array Oper) (o : Oper) : EOper :=
  match cGuard ops o with
  | some g => { dst := o.dst, op := (cOp P o).getD .fail, guard := g }
  | none => { dst := none, op := .fail, guard := none }

def writes : EOp → Bool
  | .store .. | .mapUpd .. | .append .. | .copy .. | .clear .. | .call .. | .callv .. => true
  | _ => false

def readsMem : EOp → Bool
  | .load .. | .lookup .. | .toStr .. => true
  | _ => false

/-- An edge that binds in every mode. -/
def hard (e : Edge) : Bool := Region.binds .any e

/-- The numbers of those that are surely ahead of an operation, as the bits of a number; 'acc': of the operations ahead of it by the text. -/
def bitsOf (acc : List Nat) (o : Oper) : Nat := o.after.toList.foldl (fun s e => if hard e then s ||| 2 ^ e.on ||| acc.getD e.on 0 else s) 0
def befL (ops : List Oper) : List Nat := ops.foldl (fun acc o => acc ++ [bitsOf acc o]) []

def isWr (es : List EOper) (i : Nat) : Bool := match es[i]? with | some o => writes o.op | none => false
def dstAt (es : List EOper) (i : Nat) : Option Nat := (es[i]?).bind (·.dst)
def tmsAt (es : List EOper) (i : Nat) : List Nat := match es[i]? with | some o => o.tms | none => []
/-- Is j surely ahead of i? -/
def bef (b : List Nat) (j i : Nat) : Bool := (b.getD i 0).testBit j

/-- Every order that the mode allows comes to an end with all operations done: here is one such order, and each binding edge goes by it. -/
def orderOk (md : Region.Mode) (ops : Array Oper) : Bool :=
  let l := Region.linearise md ops 0
  (List.range ops.size).all fun i => match ops[i]? with
    | some o => o.after.toList.all fun e => !Region.binds md e || (e.on < ops.size && l.idxOf e.on < l.idxOf i)
    | none => false

def wrs (es : List EOper) : List Nat := (List.range es.length).filter (isWr es)

/-- How a region that draws its order is laid: the operations' order, which puts each as far ahead as it can go; for each how many writers are ahead of it at the least and at the most; how many writers there are. -/
structure Lay where
  ord : List Nat
  lev : List Nat
  hi : List Nat
  m : Nat

def layOf (es : List EOper) (b : List Nat) : Lay :=
  let ws := wrs es
  let n := es.length
  let lev := (List.range n).map fun i => ws.countP fun j => bef b j i
  { lev := lev
    hi := (List.range n).map fun i => ws.length - ws.countP fun j => bef b i j
    m := ws.length
    ord := (List.range (ws.length + 1)).flatMap fun k =>
      ((List.range n).filter fun i => lev.getD i 0 == k && !isWr es i) ++ (List.range n).filter fun i => lev.getD i 0 == k && isWr es i }

/-- What is asked of two operations of a region that draws its order: they write other slots; what the one looks at the other doesn't write, or surely ahead of it, or surely behind it; the laid order keeps what is sure; writers have each their own place. -/
def pairOk (es : List EOper) (b : List Nat) (L : Lay) (i j : Nat) : Bool :=
  (i == j || (dstAt es i).isNone || dstAt es i != dstAt es j) &&
  (match dstAt es i with
    | some t => !(tmsAt es j).contains t || i == j || bef b i j || bef b j i
    | none => true) &&
  (!bef b i j || decide (L.ord.idxOf i < L.ord.idxOf j)) &&
  (i == j || !isWr es i || !isWr es j || L.lev.getD i 0 != L.lev.getD j 0)

def oneOk (es : List EOper) (b : List Nat) (L : Lay) (i : Nat) : Bool :=
  decide (b.getD i 0 < 2 ^ i) && L.ord.contains i && (L.ord.idxOf (L.ord.getD i 0) == i) && decide (L.ord.getD i 0 < es.length) &&
  (L.lev.getD i 0 == 0 || (wrs es).any fun q => L.lev.getD q 0 + 1 == L.lev.getD i 0 && bef b q i) &&
  (L.hi.getD i 0 == L.m || (wrs es).any fun q => L.lev.getD q 0 == L.hi.getD i 0 && bef b i q) &&
  (((L.ord.take (L.ord.idxOf i)).countP (isWr es)) == L.lev.getD i 0) &&
  (!isWr es i || decide (L.lev.getD i 0 < L.m)) &&
  (decide (L.m ≤ i) || (wrs es).any fun q => L.lev.getD q 0 == i) &&
  (List.range es.length).all fun j => pairOk es b L i j

def drawOkP (ops : Array Oper) (es : List EOper) (b : List Nat) (L : Lay) : Bool :=
  ((List.range es.length).all fun j => oneOk es b L j) && (L.ord.length == es.length) && decide (L.m ≤ es.length) && (L.ord.countP (isWr es) == L.m) &&
  orderOk .any ops

def kindAt (es : List EOper) (L : Lay) (i : Nat) : DK :=
  match es[i]? with
  | some o => if writes o.op then .W else if readsMem o.op then .R (L.lev.getD i 0) (L.hi.getD i 0) else .N
  | none => .N

def cDraw (es : List EOper) (L : Lay) : List (EOper × DK) := L.ord.map fun i => (es.getD i default, kindAt es L i)

def cRegion (ops : Array Oper) (draw : Bool) : ECode :=
  if !draw then .ops (ops.toList.map (cOper P ops))
  else if drawOkP ops (ops.toList.map (cOper P ops)) (befL ops.toList) (layOf (ops.toList.map (cOper P ops)) (befL ops.toList)) then
    .draw (cDraw (ops.toList.map (cOper P ops)) (layOf (ops.toList.map (cOper P ops)) (befL ops.toList)))
  else .fail

def cCode : Code → ECode
  | .skip => .skip
  | .region _ ops draw => cRegion P ops draw
  | .seq a b => .seq (cCode a) (cCode b)
  | .cond c a b => match cOpd c with | some c => .cond c (cCode a) (cCode b) | none => .fail
  | .block id c => .block id (cCode c)
  | .loop c => .loop (cCode c)
  | .exit id => .exit id
  | .ret => .ret
  | _ => .fail

def cRes : ResultVar → Option ERes
  | .tmp t => some (.tmp t)
  | .cell a t => (shapeT P t).map fun (g, n) => .cell a g n

def cFunc (fn : Func) : Option EFunc :=
  match fn.body, fn.results.toList.mapM (cRes P) with
  | some c, some rs => some { nparams := fn.params.size, ntmps := fn.ntmps, results := rs, body := cCode P c }
  | _, _ => none

end
end Go.PE
