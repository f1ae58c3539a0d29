/- GroupDoubles: its states and its messages, by formulas. -/
import Derived.Test.YtmdnkhidhkbgcaaGreatDoorDbK3
namespace Go.PE
open Go.Proofs
set_option maxRecDepth 100000
def wN (n : Nat) : V := .int .u32 (Int.ofNat n)
def bN (n : Nat) : V := .int .u8 (Int.ofNat n)
def iN (n : Nat) : V := .int .i64 (Int.ofNat n)
def tN (n : Nat) : V := .str (bs [UInt8.ofNat n])
def fz5 : List V := [qf, qf, qf, qf, qf]
def bV (b : Bool) : V := .bool b
def zOp : List V := [qb 0, qw 0, qb 0, qb 0, qb 0, qs]
def zEnt : List V := [qw 0, qw 0, qb 0, qw 0, qb 0, qb 0, qb 0, qs]
def opN (o n : Nat) : List V := [qb 1, wN n, qb 1, bN o, qb 0, tN n]
def ent (o n : Nat) : List V := qw 1 :: wN n :: opN o n
def zSt (s : Nat) (log : V) : List V := wN s :: (zBase ++ (zEnt ++ [log]))
def logV (o n : Nat) : V := bif Nat.beq n 0 then .emp0 else .psl (min n 6) ((List.range' (n - min n 6 + 1) (min n 6)).flatMap (ent o))
def stN (o s n : Nat) : List V :=
  bif Nat.ble n 6 then zSt s (logV o n) else wN s :: (oBase o (wN (n - 6)) (tN (n - 6)) ++ (qw 1 :: wN (n - 6) :: (zOp ++ [logV o n])))
structure GP where
  g : Nat
  a : Nat
  d1 : Nat
  d2 : Nat
  o : Nat
  en : Nat
  oth : List Nat
  act : List Nat
def gps : Nat → GP
  | 0 => ⟨0, 4, 2, 3, 0, 4, [0, 1, 2, 3], [4, 3, 2]⟩
  | 1 => ⟨1, 2, 0, 3, 4, 3, [0, 1, 3, 4], [2, 3, 0]⟩
  | 2 => ⟨2, 4, 2, 3, 3, 4, [0, 1, 2, 3], [4, 2, 3]⟩
  | _ => ⟨3, 3, 2, 4, 2, 4, [0, 1, 2, 4], [3, 2, 4]⟩
def zRd : List V := zOp ++ ([qb 0, qs, qw 0] ++ fz5)
def actV (d : Nat) : V := .slice (16 + d) 0 0 3 1 none
def gBox (c : GP) (d ph : Nat) (st hd has told : List V) (w : V) : List V :=
  [iN d, iN ph, bN c.g] ++ (st ++ ([qw 1, actV d] ++ (hd ++ (has ++ (told ++ (w :: (zRd ++ (zRd ++ zRd))))))))
def hn (c : GP) (p : Nat) : Nat := min (p - 4) c.en
def isHd (c : GP) (p x : Nat) : Bool := Nat.beq x c.a || (c.oth.take (hn c p)).any (Nat.beq x)
def nA (p : Nat) : Nat := (p - 12) / 6 + (bif Nat.beq ((p - 12) % 6) 0 then 0 else 1)
def nD (k p : Nat) : Nat := (p - 12) / 6 + (bif Nat.ble k ((p - 12) % 6) then 1 else 0)
def phA (c : GP) (p : Nat) : Nat := bif Nat.ble 12 p then 4 else bif Nat.ble (4 + c.en) p then 3 else 2
def waitN (p : Nat) : Nat := bif Nat.ble p 12 then 0 else bif Nat.beq ((p - 12) % 6) 0 || Nat.beq ((p - 12) % 6) 5 then 0 else 1
def waitV (p : Nat) : V := bif Nat.ble p 12 then .nils else .slice 21 0 0 (waitN p) 15 none
def hasA (c : GP) (b1 b2 : Bool) : List V := (List.range 5).map fun x => bV (Nat.beq x c.a || (Nat.beq x c.d1 && b1 || Nat.beq x c.d2 && b2))
def waitC (c : GP) (n : Nat) (b : Bool) : List V := ent c.o n ++ ([qb 0, qs] ++ hasA c b false)
def waitB (c : GP) (p : Nat) : Box := .cells (bif Nat.beq (waitN p) 0 then [] else waitC c (nA p) (Nat.beq ((p - 12) % 6) 4)) 0 0
def primC (c : GP) (p : Nat) : List V :=
  gBox c c.a (phA c p) (stN c.o (bif Nat.ble (4 + c.en) p then 1 else 0) (nA p)) ((List.range 5).map fun x => bV (isHd c p x)) (bif Nat.ble (4 + c.en) p then hasA c (Nat.ble 11 p) (Nat.ble 12 p) else fz5)
    ((List.range 5).flatMap fun x => zSt 0 (bif isHd c p x then .emp0 else .nils)) (waitV p)
def told0 : List V := zSt 0 .nils ++ (zSt 0 .nils ++ (zSt 0 .nils ++ (zSt 0 .nils ++ zSt 0 .nils)))
def replC (c : GP) (d x : Nat) : List V := gBox c d 1 (stN c.o (min x 1) (x - 1)) fz5 fz5 told0 .nils
def strayC (c : GP) (d : Nat) : List V := gBox c d 0 (stN c.o 0 0) fz5 fz5 told0 .nils
def lsD (c : GP) (d p : Nat) : Nat := bif Nat.beq d c.d1 then (bif Nat.ble 9 p then nD 2 p + 1 else 0) else bif Nat.beq d c.d2 then (bif Nat.ble 10 p then nD 3 p + 1 else 0) else 0
def grpC (c : GP) (d p : Nat) : List V := bif Nat.beq d c.a then primC c p else bif Nat.beq d c.d1 || Nat.beq d c.d2 then replC c d (lsD c d p) else strayC c d
def hist : Heap := [.cells [.map 1, .map 2, qw 1, .slice 3 0 0 1 2 none, .slice 5 0 0 1 2 none, .slice 7 0 0 1 2 none, .slice 9 0 0 1 2 none] 0 0,
  .map [(qw 1, .agg [qw 1, qt, qi 8, qb 0, qt, qi 8, qb 1, qt, qi 8, qb 2, qt, qi 8, qb 3, qt, qi 8, qb 0], 0)] 1, .map [] 0,
  .cells [qw 1, .slice 4 2 0 3 1 none] 0 0, .cells [qi 4, qi 3, qi 2] 2 0, .cells [qw 1, .slice 6 2 0 3 1 none] 0 0, .cells [qi 2, qi 3, qi 0] 2 0,
  .cells [qw 1, .slice 8 2 0 3 1 none] 0 0, .cells [qi 4, qi 2, qi 3] 2 0, .cells [qw 1, .slice 10 2 0 3 1 none] 0 0, .cells [qi 3, qi 2, qi 4] 2 0]
def actB (c : GP) : Box := .cells (c.act.map iN) 0 0
def fx (c : GP) (p : Nat) : Heap := hist ++ ([.cells (grpC c 0 p) 0 0, .cells (grpC c 1 p) 0 0, .cells (grpC c 2 p) 0 0, .cells (grpC c 3 p) 0 0, .cells (grpC c 4 p) 0 0] ++ [actB c, actB c, actB c, actB c, actB c, waitB c p])
abbrev MI := Nat × Nat × Nat
def msg (k f t e g : Nat) (st diff en : List V) (n : Nat) (op : List V) : List V :=
  [bN k, bN f, bN t, wN e, qw 0, qb 0, qw 0, qb 0, qf, qb 0, qb 0, qi 0, bN g] ++ (st ++ (diff ++ (en ++ (wN n :: (op ++ [qb 0, qs])))))
def zDf (s : Nat) : List V := qi 0 :: qw 0 :: V.nils :: zSt s .nils
def zM : List V := msg 0 0 0 0 0 (zSt 0 .nils) (zDf 0) zEnt 0 zOp
def stI (c : GP) (x : Nat) : List V := stN c.o (min x 1) (x - 1)
def row (c : GP) (y : MI) : List V :=
  bif Nat.beq y.1 0 then msg 7 (10 + c.a) (10 + y.2.1) 1 c.g (zSt 0 .nils) (zDf 0) zEnt 0 zOp else
  bif Nat.beq y.1 1 then msg 8 (10 + y.2.1) (10 + c.a) 1 c.g (stI c y.2.2) (zDf 0) zEnt 0 zOp else
  bif Nat.beq y.1 2 then msg 9 (10 + c.a) (10 + y.2.1) 1 c.g (zSt 0 .nils) (zDf 1) zEnt 0 zOp else
  bif Nat.beq y.1 3 then msg 10 (10 + y.2.1) (10 + c.a) 1 c.g (zSt 0 .nils) (zDf 0) zEnt y.2.2 zOp else
  bif Nat.beq y.1 4 then msg 11 (10 + c.a) (10 + y.2.1) 1 c.g (zSt 0 .nils) (zDf 0) (ent c.o y.2.2) 0 zOp else
  bif Nat.beq y.1 5 then msg 12 (10 + y.2.1) (10 + c.a) 1 c.g (zSt 0 .nils) (zDf 0) zEnt y.2.2 zOp else
  msg 16 (10 + c.a) 21 0 0 (zSt 0 .nils) (zDf 0) zEnt 0 (opN c.o y.2.2)
def toI (c : GP) (y : MI) : Nat := bif Nat.beq (y.1 % 2) 1 then c.a else y.2.1
def main (c : GP) (p : Nat) : MI :=
  bif Nat.blt p 4 then (0, c.oth.getD p 0, 0) else bif Nat.blt p 8 then (1, c.oth.getD (p - 4) 0, 0) else
  bif Nat.beq p 8 then (2, c.d1, 0) else bif Nat.beq p 9 then (2, c.d2, 0) else bif Nat.beq p 10 then (3, c.d1, 0) else bif Nat.beq p 11 then (3, c.d2, 0) else
  bif Nat.beq ((p - 12) % 6) 1 then (4, c.d1, nA p) else bif Nat.beq ((p - 12) % 6) 2 then (4, c.d2, nA p) else
  bif Nat.beq ((p - 12) % 6) 3 then (5, c.d1, nA p) else bif Nat.beq ((p - 12) % 6) 4 then (5, c.d2, nA p) else (6, 0, nA p)
def upto (c : GP) (p : Nat) : Nat :=
  bif Nat.blt p 4 then 4 + p else bif Nat.blt p (4 + c.en) then 8 else bif Nat.ble p 8 then 10 else bif Nat.beq p 9 then 11 else bif Nat.ble p 12 then 12 else
  p - (p - 12) % 6 + (bif Nat.beq ((p - 12) % 6) 0 then 0 else bif Nat.beq ((p - 12) % 6) 1 then 3 else bif Nat.beq ((p - 12) % 6) 2 then 4 else bif Nat.ble ((p - 12) % 6) 4 then 5 else 6)
def news (c : GP) (p : Nat) : List MI := (List.range' (upto c p) (upto c (p + 1) - upto c p)).map (main c)
def back (c : GP) (p : Nat) (y : MI) : List MI :=
  bif Nat.beq y.1 0 then [(1, y.2.1, lsD c y.2.1 p)] else bif Nat.beq y.1 2 then [(3, y.2.1, lsD c y.2.1 p - 1)] else bif Nat.beq y.1 4 then [(5, y.2.1, lsD c y.2.1 p - 1)] else []
def hp (c : GP) (d : Nat) (G : List V) (W : Option Box) (vs : Nat → Box) : Heap :=
  hist ++ ((List.range' 11 17).map fun b => bif Nat.beq b (11 + d) then .cells G 0 0 else bif Nat.beq b (16 + d) then actB c else bif Nat.beq b 21 then (match W with | some W => W | none => vs 21) else vs b)
def argsS (c : GP) (d : Nat) (y : MI) : List V := [.ptr (11 + d) 0 0 352, .ptr 0 0 0 7, .agg (row c y)]
noncomputable def runI (c : GP) (d : Nat) (G : List V) (W : Option Box) (vs : Nat → Box) (y : MI) (zs : List MI) : Option (Bool × List (Option Box)) := callO (ctxD 39) 13 (argsS c d y) (hp c d G W vs) (ckI (zs.map (row c))) (List.range 28)
noncomputable def expI (c : GP) (d : Nat) (G : List V) (W : Option Box) (vs : Nat → Box) : Option (Bool × List (Option Box)) := some (true, (hp c d G W vs).map some)
noncomputable def runM (c : GP) (d : Nat) (pr : Bool) (G : List V) (W : Option Box) (vs : Nat → Box) (y : MI) (G2 : List V) (W2 : Box) (zs : List MI) : Option (Bool × List (Option Box)) :=
  callO (ctxD 39) 13 (argsS c d y) (hp c d G W vs) (ckM pr d (.cells G2 0 0) W2 (zs.map (row c))) (ksM pr d)
noncomputable def expM (c : GP) (d : Nat) (pr : Bool) (G : List V) (W : Option Box) (vs : Nat → Box) : Option (Bool × List (Option Box)) := some (true, (ksM pr d).map fun b => (hp c d G W vs)[b]?)
end Go.PE
