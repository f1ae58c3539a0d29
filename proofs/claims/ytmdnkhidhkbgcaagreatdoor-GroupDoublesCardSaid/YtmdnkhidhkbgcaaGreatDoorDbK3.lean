/- Patterns: what some functions answer wherever their arguments fit; each row is reckoned by the kernel. -/
import Derived.Test.YtmdnkhidhkbgcaaGreatDoorDbK2
import Derived.Test.YtmdnkhidhkbgcaaGreatDoorEF
import Derived.KernelRfl
namespace Go.PE
open Go.Proofs
set_option maxRecDepth 100000
def xb (l h : Int) : V := .abs .u8 ⟨none, 0, l, h, 1, 0⟩
def xw (l h : Int) : V := .abs .u32 ⟨none, 0, l, h, 1, 0⟩
def xs (i : Nat) : V := .syms i 0 16
def zObj : List V := [qf, qs, qs, qs, qs]
def zLast : List V := [qw 0, qb 0, qs]
def zBase : List V := zObj ++ (zObj ++ (zObj ++ (zObj ++ (zObj ++ (zObj ++ (zLast ++ (zLast ++ zLast)))))))
def pOp (i : Nat) : List V := [qb 1, xw 1 4294967295, qb 1, xb 0 5, qb 0, xs i]
def aOp (i : Nat) : List V := [xb 0 3, xw 0 4294967295, xb 0 5, xb 0 5, qb 0, xs i]
def oBase (j : Nat) (s : V) (d : V) : List V := (List.range 6).flatMap (fun i => bif Nat.beq i j then [qt, d, qs, qs, qs] else zObj) ++ [s, qb 0, qs] ++ zLast ++ zLast
def pBase (j : Nat) : List V := oBase j (xw 1 4294967295) (xs (5 * j + 1))
def own : List Nat := [0, 2, 3, 4]
def rBs : List Row := ([.agg zBase], qt) :: own.map fun j => ([.agg (pBase j)], qt)
def rWr : List Row := [([.agg (pOp 5)], qt)]
def rIo : List Row := [([.agg (pOp 5)], qt)]
def pNx (a c : Int) : Row := ([.agg ([qw a, .abs .u32 ⟨some 1, 0, 0, 1000, 1, 0⟩] ++ aOp 7), .agg ([xw c 60, .abs .u32 ⟨some 1, 1, 1, 1001, 1, 0⟩] ++ pOp 1007)], qt)
def rNx : List Row := [pNx 0 1, pNx 1 1]
def T2r (f : FuncId) (args : List V) : Option V := cond (Nat.beq f 6) (tabE knownT args) (TR0 f args)
theorem T2r_ok (f : FuncId) : CallOK Tryz.prog f fun args H => (T2r f args).map fun v => (v, H) := tab1_ok (law1_ok 6) known_alone TR0_ok f
def drawE : List Ent := drawT.map fun p => (p.1, .val p.2)
theorem drawE_all : (drawE.all fun p => entB ctx2 193 p) = true := by kernel_rfl
theorem rBs_all : rowsB ctx2 90 rBs = true := by kernel_rfl
noncomputable def TBs : FuncId → List V → Option V := patT 90 rBs T2r
theorem TBs_ok (f : FuncId) : CallOK Tryz.prog f fun args H => (TBs f args).map fun v => (v, H) := patT_ok (law2_ok 90) (rows_of_sim law2_sim rBs_all) T2r_ok f
theorem rWr_all : rowsB ctx2 91 rWr = true := by kernel_rfl
noncomputable def TWr : FuncId → List V → Option V := patT 91 rWr TBs
theorem TWr_ok (f : FuncId) : CallOK Tryz.prog f fun args H => (TWr f args).map fun v => (v, H) := patT_ok (law2_ok 91) (rows_of_sim law2_sim rWr_all) TBs_ok f
theorem rIo_all : rowsB ctx2 130 rIo = true := by kernel_rfl
noncomputable def TIo : FuncId → List V → Option V := patT 130 rIo TWr
theorem TIo_ok (f : FuncId) : CallOK Tryz.prog f fun args H => (TIo f args).map fun v => (v, H) := patT_ok (law2_ok 130) (rows_of_sim law2_sim rIo_all) TWr_ok f
theorem rNx_all : rowsB ctx2 49 rNx = true := by kernel_rfl
noncomputable def TNx : FuncId → List V → Option V := patT 49 rNx TIo
theorem TNx_ok (f : FuncId) : CallOK Tryz.prog f fun args H => (TNx f args).map fun v => (v, H) := patT_ok (law2_ok 49) (rows_of_sim law2_sim rNx_all) TIo_ok f
noncomputable def pLog (j : Nat) (ss : List Nat) : List V := List.rec (motive := fun _ => Nat → List V) (fun _ => []) (fun a _ ih j => qw (Int.ofNat a) :: .abs .u32 ⟨some 41, Int.ofNat (j + 1), Int.ofNat (j + 1), Int.ofNat (1001 + j), 1, 0⟩ :: pOp (1007 + 8 * j) ++ ih (j + 1)) ss j
def xBase (j : Nat) : List V := oBase j (xw 1 4294967295) (xs (5 * j + 2))
noncomputable def pIs (b : List V) (t : Nat) (ss : List Nat) : Nat × RowS :=
  let cs := xw 0 60 :: b ++ [qw (Int.ofNat t), .abs .u32 ⟨some 41, 0, 0, 1000, 1, 0⟩, qb 0, qw 0, qb 0, qb 0, qb 0, qs]
  (keyS 40 cs (pLog 0 ss), ⟨cs, ss.length, pLog 0 ss, qt⟩)
noncomputable def rIs : List (Nat × RowS) := (List.range 7).map (fun n => pIs zBase 0 (List.replicate n 1)) ++ own.map fun j => pIs (xBase j) 1 (List.replicate 6 1)
theorem rIs_all : rowsSB ctx2 47 rIs = true := by kernel_rfl
noncomputable def G3 : HeapS := patN 47 40 rIs (appSeqG 149 100)
theorem G3_ok (f : FuncId) : CallOK Tryz.prog f (heapE G3 f) := patN_ok (law2_ok 47) (rowsS_of_sim law2_sim rIs_all) appSeq_ok f
noncomputable def G4 : HeapS := tabG 193 4 (tabOf 4 drawE) G3
theorem G4_ok (f : FuncId) : CallOK Tryz.prog f (heapE G4 f) := tabG_ok (law2_ok 193) (fun p hp => ent_of_sim law2_sim (List.all_eq_true.1 drawE_all p hp)) G3_ok f
noncomputable def ctxD (d : Nat) : CtxK := ctxS DTs TNx G4 d
noncomputable def lawD (d : Nat) : Ctx := ctxE litF (shortE TNx G4) 3000 d
theorem lawD_sim (d : Nat) : Sim (ctxD d) (lawD d) := ctxS_simK DTs_ok d
theorem lawD_ok (d : Nat) (f : FuncId) : CallOK Tryz.prog f (lawD d f) := ctxE_ok tryzMixed litF_ok (shortE_ok TNx_ok G4_ok) 3000 d f
end Go.PE
