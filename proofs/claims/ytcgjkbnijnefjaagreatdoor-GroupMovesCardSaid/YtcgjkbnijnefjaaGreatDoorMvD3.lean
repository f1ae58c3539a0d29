/- GroupMoves' checkpoints ahead of its rounds, and the way to them (group 3). -/
import Derived.Test.YtcgjkbnijnefjaaGreatDoorMvD0
namespace Go.PE
open Go.Proofs
set_option maxRecDepth 100000
end Go.PE
namespace Go.PE.Mv3
open Go.Proofs
def pi : List Nat := [1, 2, 3, 43, 71, 108, 136, 173, 225, 262, 282, 283, 287, 290, 294, 297, 301, 304, 308, 311, 364, 367, 1380]
noncomputable def e0 : List V := ([(.abs .u8 ⟨none, 0, 0, 255, 4, 3⟩), (.tup []), (.abs .u8 ⟨none, 0, 0, 255, 3, 0⟩), qf, (.tup []), (.tup []), (.tup []), (.tup []), qf, (.ptr 11 0 0 9), (qw 0), (.ptr 22 0 0 9), (qb 3), (.tup []), (.tup []), (.tup []), qt, qf, (.abs .u8 ⟨none, 0, 0, 255, 4, 3⟩), (.tup []), (.pptr []), (.pptr []), (.pptr []), (.pptr []), (qb 3), (qb 2), qf, (.pptr []), qt, qf, (.agg [(qb 0), (qb 0), (qi 0)]), (.agg [(qb 2), (qb 0), (qi 0)]), (.agg [(qb 1), (qb 0), (qi 0)]), (.agg [(qb 0), (qb 0), (qi 0), (qb 2), (qb 0), (qi 0), (qb 1), (qb 0), (qi 0)]), qf, (.tup []), (.tup []), (.tup []), (.tup []), (.pptr []), (.pptr []), (.pptr []), (.pptr []), (.pptr []), (.pptr []), (.pptr []), (qb 3), (.psl 3 []), (.abs .u8 ⟨none, 0, 0, 255, 3, 0⟩), (.abs .i64 ⟨none, 0, 0, 255, 3, 0⟩), (qi 0), (.pptr []), (qi 3), (qb 3), (.tup []), (.tup []), (.tup []), (.tup []), (.tup []), (.tup []), (.tup []), (.tup []), (.tup []), (.tup []), (.tup []), (.tup []), (.tup []), (.tup []), (.tup []), (.tup []), (.tup []), (.tup []), (.tup []), (.tup []), (.tup []), (.tup []), (.tup []), (.tup []), (.tup []), (.tup []), (.tup []), (.tup []), (.tup []), (.tup []), (.tup []), (.tup []), (.tup []), (.tup []), (.tup []), (.tup []), (.tup []), (.tup []), (.tup []), (.tup []), (.tup []), (.tup []), (.tup []), (.tup []), (.tup []), (.tup [])]).set 19 (.agg (repeatL [(qw 0), qf, qs, qs, qs, qs, qf, qs, qs, qs, qs, qf, qs, qs, qs, qs, qf, qs, qs, qs, qs, qf, qs, qs, qs, qs, qf, qs, qs, qs, qs, (qw 0), (qb 0), qs, (qw 0), (qb 0), qs, (qw 0), (qb 0), qs, (qw 0), (qw 0), (qb 0), (qw 0), (qb 0), (qb 0), (qb 0), qs, .nils] 5))
noncomputable def h0 : Heap := [
 (.map [((qw 1), (.agg [(qw 1), qt, (qi 8), (qb 0), qt, (qi 8), (qb 1), qt, (qi 8), (qb 2), qt, (qi 8), (qb 3), qt, (qi 8), (qb 0)]), 0)] 1),
 (.map [] 0),
 (.cells [(.map 0), (.map 1), (qw 1), (.slice 4 0 0 1 2 none), (.slice 6 0 0 1 2 none), (.slice 8 0 0 1 2 none), (.slice 10 0 0 1 2 none)] 0 0),
 (.cells [(qi 4), (qi 3), (qi 2)] 2 0),
 (.cells [(qw 1), (.slice 3 2 0 3 1 none)] 0 0),
 (.cells [(qi 2), (qi 3), (qi 0)] 2 0),
 (.cells [(qw 1), (.slice 5 2 0 3 1 none)] 0 0),
 (.cells [(qi 4), (qi 2), (qi 3)] 2 0),
 (.cells [(qw 1), (.slice 7 2 0 3 1 none)] 0 0),
 (.cells [(qi 3), (qi 2), (qi 4)] 2 0),
 (.cells [(qw 1), (.slice 9 2 0 3 1 none)] 0 0),
 (.cells [(.ptr 2 0 0 7), (qb 3), (.ptr 12 0 0 352), (.ptr 14 0 0 352), (.ptr 16 0 0 352), (.ptr 18 0 0 352), (.ptr 20 0 0 352), .nils, .nils] 0 0),
 (.cells (patch [(2, (qb 3))] z0) 0 0),
 (.cells [(qi 3), (qi 2), (qi 4)] 0 0),
 (.cells (patch [(0, (qi 1)), (1, (qb 3)), (50, (.slice 15 0 0 3 1 none))] z0) 0 0),
 (.cells [(qi 3), (qi 2), (qi 4)] 0 0),
 (.cells (patch [(0, (qi 2)), (0, (qi 1)), (0, (qb 3)), (0, (qw 1)), (49, (.slice 17 0 0 3 1 none))] z0) 0 0),
 (.cells [(qi 3), (qi 2), (qi 4)] 0 0),
 (.cells (patch [(0, (qi 3)), (0, (qi 4)), (0, (qb 3)), (0, (qw 1)), (49, (.slice 19 0 0 3 1 none)), (0, qt), (0, qt), (0, qt), (0, qt), (0, qt), (2, qt), (0, qt), (0, qt), (48, .emp0), (48, .emp0), (48, .emp0), (48, .emp0), (48, .emp0)] z0) 0 0),
 (.cells [(qi 3), (qi 2), (qi 4)] 0 0),
 (.cells (patch [(0, (qi 4)), (0, (qi 1)), (0, (qb 3)), (0, (qw 1)), (49, (.slice 21 0 0 3 1 none))] z0) 0 0),
 (.cells [(qi 3), (qi 2), (qi 4)] 0 0),
 (.cells [(qb 0), (qb 0), (qi 0), (qb 2), (qb 0), (qi 0), (qb 1), (qb 0), (qi 0)] 0 0)]
def de01 : List (Nat × V) := [(3, qt), (34, qt), (35, (.agg [(qb 0), (qb 0), (qi 0)])), (36, (.agg [(qb 3), (qb 0), (qi 0)])), (37, (.agg [(qb 3), (qb 0), (qi 8)])), (38, (.agg [(qb 0), (qb 0), (qi 0), (qb 3), (qb 0), (qi 0), (qb 3), (qb 0), (qi 8)]))]
def dh01 : List (Nat × Box) := [(22, .cells [(qb 0), (qb 0), (qi 0), (qb 3), (qb 0), (qi 0), (qb 3), (qb 0), (qi 8)] 0 0)]
def de10 : List (Nat × V) := [(2, (.abs .u8 ⟨none, 0, 0, 255, 3, 1⟩)), (12, (qb 2)), (48, (.abs .u8 ⟨none, 0, 0, 255, 3, 1⟩)), (49, (.abs .i64 ⟨none, 0, 0, 255, 3, 1⟩)), (50, (qi 1)), (52, (qi 2)), (53, (qb 2))]
def dh10 : List (Nat × Box) := []
def de11 : List (Nat × V) := [(2, (.abs .u8 ⟨none, 0, 0, 255, 3, 1⟩)), (3, qt), (12, (qb 2)), (34, qt), (35, (.agg [(qb 0), (qb 0), (qi 0)])), (36, (.agg [(qb 3), (qb 0), (qi 0)])), (37, (.agg [(qb 3), (qb 0), (qi 8)])), (38, (.agg [(qb 0), (qb 0), (qi 0), (qb 3), (qb 0), (qi 0), (qb 3), (qb 0), (qi 8)])), (48, (.abs .u8 ⟨none, 0, 0, 255, 3, 1⟩)), (49, (.abs .i64 ⟨none, 0, 0, 255, 3, 1⟩)), (50, (qi 1)), (52, (qi 2)), (53, (qb 2))]
def dh11 : List (Nat × Box) := [(22, .cells [(qb 0), (qb 0), (qi 0), (qb 3), (qb 0), (qi 0), (qb 3), (qb 0), (qi 8)] 0 0)]
def de20 : List (Nat × V) := [(2, (.abs .u8 ⟨none, 0, 0, 255, 3, 2⟩)), (12, (qb 4)), (48, (.abs .u8 ⟨none, 0, 0, 255, 3, 2⟩)), (49, (.abs .i64 ⟨none, 0, 0, 255, 3, 2⟩)), (50, (qi 2)), (52, (qi 4)), (53, (qb 4))]
def dh20 : List (Nat × Box) := []
def de21 : List (Nat × V) := [(2, (.abs .u8 ⟨none, 0, 0, 255, 3, 2⟩)), (3, qt), (12, (qb 4)), (34, qt), (35, (.agg [(qb 0), (qb 0), (qi 0)])), (36, (.agg [(qb 3), (qb 0), (qi 0)])), (37, (.agg [(qb 3), (qb 0), (qi 8)])), (38, (.agg [(qb 0), (qb 0), (qi 0), (qb 3), (qb 0), (qi 0), (qb 3), (qb 0), (qi 8)])), (48, (.abs .u8 ⟨none, 0, 0, 255, 3, 2⟩)), (49, (.abs .i64 ⟨none, 0, 0, 255, 3, 2⟩)), (50, (qi 2)), (52, (qi 4)), (53, (qb 4))]
def dh21 : List (Nat × Box) := [(22, .cells [(qb 0), (qb 0), (qi 0), (qb 3), (qb 0), (qi 0), (qb 3), (qb 0), (qi 8)] 0 0)]
def de00 : List (Nat × V) := []
def dh00 : List (Nat × Box) := []
noncomputable def e00 : Env := upE de00 e0
noncomputable def h00 : Heap := upH dh00 h0
theorem p00 : rP 3 0 false pi e00 h00 = true := by kernel_rfl
noncomputable def e01 : Env := upE de01 e0
noncomputable def h01 : Heap := upH dh01 h0
theorem p01 : rP 3 0 true pi e01 h01 = true := by kernel_rfl
noncomputable def e10 : Env := upE de10 e0
noncomputable def h10 : Heap := upH dh10 h0
theorem p10 : rP 3 1 false pi e10 h10 = true := by kernel_rfl
noncomputable def e11 : Env := upE de11 e0
noncomputable def h11 : Heap := upH dh11 h0
theorem p11 : rP 3 1 true pi e11 h11 = true := by kernel_rfl
noncomputable def e20 : Env := upE de20 e0
noncomputable def h20 : Heap := upH dh20 h0
theorem p20 : rP 3 2 false pi e20 h20 = true := by kernel_rfl
noncomputable def e21 : Env := upE de21 e0
noncomputable def h21 : Heap := upH dh21 h0
theorem p21 : rP 3 2 true pi e21 h21 = true := by kernel_rfl
end Go.PE.Mv3
