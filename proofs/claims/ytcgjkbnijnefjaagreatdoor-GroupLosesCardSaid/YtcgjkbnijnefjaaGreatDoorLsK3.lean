/- Patterns: what some functions answer wherever their arguments fit; each row is reckoned by the kernel. -/
import Derived.Test.YtcgjkbnijnefjaaGreatDoorLsK2
import Derived.Test.YtcgjkbnijnefjaaGreatDoorEF
import Derived.KernelRfl
namespace Go.PE
open Go.Proofs
set_option maxRecDepth 100000
def xb (l h : Int) : V := .abs .u8 ⟨none, 0, l, h, 1, 0⟩
def xw (l h : Int) : V := .abs .u32 ⟨none, 0, l, h, 1, 0⟩
def xs (i : Nat) : V := .syms i 0 16
def zObj : List V := [qf, qs, qs, qs, qs]
def zLast : List V := [qw 0, qb 0, qs]
def zBase : List V := [qf, qs, qs, qs, qs, qf, qs, qs, qs, qs, qf, qs, qs, qs, qs, qf, qs, qs, qs, qs, qf, qs, qs, qs, qs, qf, qs, qs, qs, qs, qw 0, qb 0, qs, qw 0, qb 0, qs, qw 0, qb 0, qs]
/-- An operation that writes; its text's name. -/
def pOp (i : Nat) : List V := [qb 1, xw 1 4294967295, qb 1, xb 0 5, qb 0, xs i]
def aOp (i : Nat) : List V := [xb 0 3, xw 0 4294967295, xb 0 5, xb 0 5, qb 0, xs i]
def oBase (j : Nat) (s : V) (d : V) : List V := (List.range 6).flatMap (fun i => bif Nat.beq i j then [qt, d, qs, qs, qs] else zObj) ++ [s, qb 0, qs] ++ zLast ++ zLast
def pBase (j : Nat) : List V := oBase j (xw 1 4294967295) (xs (5 * j + 1))
def own : List Nat := [0, 2, 3, 4]
def rBs : List Row := ([.agg zBase], qt) :: own.map fun j => ([.agg (pBase j)], qt)
def rWr : List Row := [([.agg (pOp 5)], qt)]
def rIo : List Row := [([.agg (pOp 5)], qt)]
def pNx (a c : Int) : Row := ([.agg ([qw a, .abs .u32 ⟨some 1, 0, 0, 1000, 1, 0⟩] ++ aOp 7), .agg ([xw c 60, .abs .u32 ⟨some 1, 1, 1, 1001, 1, 0⟩] ++ pOp 1007)], qt)
def rNx : List Row := [pNx 0 1, pNx 1 1]
/-- 'Do', of a write at the object's beginning: the number behind the last one; the text. -/
def nw (i : Nat) (k : Int) : V := .abs .u32 ⟨some i, k, k + 1, k + 1000, 1, 0⟩
def wOp (j : Nat) (s d : V) : List V := [qb 1, s, qb 1, qb (Int.ofNat j), qb 0, d]
def rDo1 (j : Nat) (b : List V) (s d d2 : V) (fam : Bool) (lo : Nat) : RowQ :=
  ⟨[.agg b, .agg (wOp j s d)], .tup [.agg (oBase j s d2), .agg [qb 0, qs]], fam, 1005, lo, 16⟩
def qa : V := .str (bs [97])
def qd : V := .syms 1005 1 16
def qd0 : V := .syms 1005 0 16
def rDo (j : Nat) : List RowQ :=
  [rDo1 j (oBase j (nw 30 0) qa) (nw 30 1) qa qa false 0, rDo1 j (oBase j (nw 30 0) qa) (nw 30 1) qd qd true 1, rDo1 j (oBase j (nw 30 0) qa) (nw 30 1) qs qa false 0, rDo1 j (oBase j (nw 30 0) qa) (nw 30 1) qd0 .top true 0]
def rDo0 (j : Nat) : List RowQ :=
  [rDo1 j zBase (nw 1001 0) qa qa false 0, rDo1 j zBase (nw 1001 0) qd qd true 1, rDo1 j zBase (nw 1001 0) qs qs false 0, rDo1 j zBase (nw 1001 0) qd0 .top true 0]
def rDoA : List RowQ := own.flatMap rDo0

/-- 'known' alone: straw.Draw's table is found by a number (below). -/
def T2n (f : FuncId) (args : List V) : Option V := cond (Nat.beq f 8) (tabE knownT args) ((fun (_ : FuncId) (_ : List V) => (none : Option V)) f args)
theorem T2n_ok (f : FuncId) : CallOK Tryz.prog f fun args H => (T2n f args).map fun v => (v, H) := tab1_ok (law1_ok 8) known_alone none_ok f
def drawE : List Ent := drawT.map fun p => (p.1, .val p.2)
theorem drawE_all : (drawE.all fun p => entB ctx2 201 p) = true := by kernel_rfl

theorem rDo_all : (rDoA.all fun p => rowQB ctx2 93 p) = true := by kernel_rfl
/-- .. with Do. -/
noncomputable def TDo : FuncId → List V → Option V := patQ 93 rDoA T2n
theorem TDo_ok (f : FuncId) : CallOK Tryz.prog f fun args H => (TDo f args).map fun v => (v, H) := patQ_ok (law2_ok 93) (rowsQ_of_sim law2_sim rDo_all) T2n_ok f

theorem rBs_all : rowsB ctx2 91 rBs = true := by kernel_rfl
/-- .. with base. -/
noncomputable def TBs : FuncId → List V → Option V := patT 91 rBs TDo
theorem TBs_ok (f : FuncId) : CallOK Tryz.prog f fun args H => (TBs f args).map fun v => (v, H) := patT_ok (law2_ok 91) (rows_of_sim law2_sim rBs_all) TDo_ok f

theorem rWr_all : rowsB ctx2 9 rWr = true := by kernel_rfl
/-- .. with Writes. -/
noncomputable def TWr : FuncId → List V → Option V := patT 9 rWr TBs
theorem TWr_ok (f : FuncId) : CallOK Tryz.prog f fun args H => (TWr f args).map fun v => (v, H) := patT_ok (law2_ok 9) (rows_of_sim law2_sim rWr_all) TBs_ok f

theorem rIo_all : rowsB ctx2 33 rIo = true := by kernel_rfl
/-- .. with IsOp. -/
noncomputable def TIo : FuncId → List V → Option V := patT 33 rIo TWr
theorem TIo_ok (f : FuncId) : CallOK Tryz.prog f fun args H => (TIo f args).map fun v => (v, H) := patT_ok (law2_ok 33) (rows_of_sim law2_sim rIo_all) TWr_ok f

theorem rNx_all : rowsB ctx2 92 rNx = true := by kernel_rfl
/-- .. with next. -/
noncomputable def TNx : FuncId → List V → Option V := patT 92 rNx TIo
theorem TNx_ok (f : FuncId) : CallOK Tryz.prog f fun args H => (TNx f args).map fun v => (v, H) := patT_ok (law2_ok 92) (rows_of_sim law2_sim rNx_all) TIo_ok f

/-- A state whose log's entries are of the first interval. -/
noncomputable def pLog (j : Nat) (ss : List Nat) : List V := List.rec (motive := fun _ => Nat → List V) (fun _ => []) (fun a _ ih j => qw (Int.ofNat a) :: .abs .u32 ⟨some 41, Int.ofNat (j + 1), Int.ofNat (j + 1), Int.ofNat (1001 + j), 1, 0⟩ :: pOp (1007 + 8 * j) ++ ih (j + 1)) ss j

noncomputable def pIs (b : List V) (t : Nat) (ss : List Nat) : Nat × RowS :=
  let cs := xw 0 60 :: b ++ [qw (Int.ofNat t), .abs .u32 ⟨some 41, 0, 0, 1000, 1, 0⟩, qb 0, qw 0, qb 0, qb 0, qb 0, qs]
  (keyS 40 cs (pLog 0 ss), ⟨cs, ss.length, pLog 0 ss, qt⟩)
noncomputable def rIs : List (Nat × RowS) := (List.range 2).map fun n => pIs zBase 0 (List.replicate n 1)

theorem rIs_all : rowsSB ctx2 50 rIs = true := by kernel_rfl
noncomputable def G3 : HeapS := patN 50 40 rIs (appSeqG 164 125)
theorem G3_ok (f : FuncId) : CallOK Tryz.prog f (heapE G3 f) := patN_ok (law2_ok 50) (rowsS_of_sim law2_sim rIs_all) appSeq_ok f

noncomputable def G4 : HeapS := tabG 201 4 (tabOf 4 drawE) G3
theorem G4_ok (f : FuncId) : CallOK Tryz.prog f (heapE G4 f) := tabG_ok (law2_ok 201) (fun p hp => ent_of_sim law2_sim (List.all_eq_true.1 drawE_all p hp)) G3_ok f

noncomputable def ctx3 : CtxK := ctxS DTs TNx G4 40
noncomputable def law3 : Ctx := ctxE litF (shortE TNx G4) 3000 40
theorem law3_sim : Sim ctx3 law3 := ctxS_simK DTs_ok 40
theorem law3_ok (f : FuncId) : CallOK Tryz.prog f (law3 f) := ctxE_ok tryzMixed litF_ok (shortE_ok TNx_ok G4_ok) 3000 40 f

end Go.PE
