/- GroupStray's checkpoint at the loop, and the way to it (group 1). -/
import Derived.Test.YtcgjkbnijnefjaaGreatDoorSrZ
namespace Go.PE.Sr1
open Go.Proofs
set_option maxRecDepth 100000
def pi : List Nat := [2, 3, 4, 44, 72, 109, 137, 174, 226, 263, 283, 284, 288, 291, 295, 298, 302, 305, 358, 361, 365, 368, 1313]
noncomputable def e : List V := ([(.abs .u8 ⟨none, 0, 0, 255, 4, 1⟩), (.tup []), (.tup []), (.tup []), (.tup []), (.tup []), (.tup []), (.ptr 0 0 0 6), qf, (.ptr 12 0 0 9), (.slice 23 0 0 3 1 none), (.tup []), (.tup []), (.tup []), (.tup []), (.tup []), (.tup []), qt, qf, (.tup []), qt, qf, (.abs .u8 ⟨none, 0, 0, 255, 4, 1⟩), (.tup []), (.pptr []), (.pptr []), qt, qf, (.pptr []), (.pptr []), (.pptr []), (.pptr []), (.pptr []), (.pptr []), (.pptr []), (qb 1), (.psl 3 []), (.tup []), (.tup []), (.tup []), (.tup []), (.tup []), (.tup []), (.tup []), (.tup []), (.tup []), (.tup []), (.tup []), (.tup []), (.tup []), (.tup []), (.tup []), (.tup []), (.tup []), (.tup []), (.tup []), (.tup []), (.tup []), (.tup []), (.tup []), (.tup []), (.tup []), (.tup []), (.tup []), (.tup []), (.tup []), (.tup []), (.tup []), (.tup []), (.tup []), (.tup []), (.tup []), (.tup []), (.tup []), (.tup []), (.tup []), (.tup []), (.tup []), (.tup []), (.tup []), (.tup []), (.tup []), (.tup []), (.tup []), (.tup []), (.tup []), (.tup []), (.tup []), (.tup []), (.tup []), (.tup []), (.tup []), (.tup []), (.tup []), (.tup []), (.tup []), (.tup []), (.tup []), (.tup []), (.tup []), (.tup []), (.tup []), (.tup []), (.tup []), (.tup []), (.tup []), (.tup []), (.tup []), (.tup []), (.tup []), (.tup []), (.tup []), (.tup []), (.tup []), (.tup []), (.tup []), (.tup []), (.tup []), (.tup []), (.tup []), (.tup []), (.tup []), (.tup []), (.tup []), (.tup []), (.tup []), (.tup []), (.tup []), (.tup []), (.tup []), (.tup []), (.tup []), (.tup []), (.tup []), (.tup []), (.tup []), (.tup [])]).set 23 (.agg (repeatL [(qw 0), qf, qs, qs, qs, qs, qf, qs, qs, qs, qs, qf, qs, qs, qs, qs, qf, qs, qs, qs, qs, qf, qs, qs, qs, qs, qf, qs, qs, qs, qs, (qw 0), (qb 0), qs, (qw 0), (qb 0), qs, (qw 0), (qb 0), qs, (qw 0), (qw 0), (qb 0), (qw 0), (qb 0), (qb 0), (qb 0), qs, .nils] 5))
noncomputable def ht : Heap := [
 (.map [((qw 1), (.agg [(qw 1), qt, (qi 8), (qb 0), qt, (qi 8), (qb 1), qt, (qi 8), (qb 2), qt, (qi 8), (qb 3), qt, (qi 8), (qb 0)]), 0)] 1),
 (.map [] 0),
 (.cells [(.map 1), (.map 2), (qw 1), (.slice 5 0 0 1 2 none), (.slice 7 0 0 1 2 none), (.slice 9 0 0 1 2 none), (.slice 11 0 0 1 2 none)] 0 0),
 (.cells [(qi 4), (qi 3), (qi 2)] 2 0),
 (.cells [(qw 1), (.slice 4 2 0 3 1 none)] 0 0),
 (.cells [(qi 2), (qi 3), (qi 0)] 2 0),
 (.cells [(qw 1), (.slice 6 2 0 3 1 none)] 0 0),
 (.cells [(qi 4), (qi 2), (qi 3)] 2 0),
 (.cells [(qw 1), (.slice 8 2 0 3 1 none)] 0 0),
 (.cells [(qi 3), (qi 2), (qi 4)] 2 0),
 (.cells [(qw 1), (.slice 10 2 0 3 1 none)] 0 0),
 (.cells [(.ptr 3 0 0 7), (qb 1), (.ptr 13 0 0 352), (.ptr 15 0 0 352), (.ptr 17 0 0 352), (.ptr 19 0 0 352), (.ptr 21 0 0 352), .nils, .nils] 0 0),
 (.cells (patch [(1, (qi 1)), (0, (qb 1)), (0, (qw 1))] z0) 0 0),
 (.cells [(qi 2), (qi 3), (qi 0)] 0 0),
 (.cells (patch [(0, (qi 1)), (1, (qb 1)), (50, (.slice 16 0 0 3 1 none))] z0) 0 0),
 (.cells [(qi 2), (qi 3), (qi 0)] 0 0),
 (.cells (patch [(0, (qi 2)), (0, (qi 4)), (0, (qb 1)), (0, (qw 1)), (49, (.slice 18 0 0 3 1 none)), (0, qt), (0, qt), (0, qt), (0, qt), (1, qt), (1, qt), (0, qt), (49, .emp0), (48, .emp0), (48, .emp0), (48, .emp0)] z0) 0 0),
 (.cells [(qi 2), (qi 3), (qi 0)] 0 0),
 (.cells (patch [(0, (qi 3)), (0, (qi 1)), (0, (qb 1)), (0, (qw 1)), (49, (.slice 20 0 0 3 1 none))] z0) 0 0),
 (.cells [(qi 2), (qi 3), (qi 0)] 0 0),
 (.cells (patch [(0, (qi 4)), (1, (qb 1)), (50, (.slice 22 0 0 3 1 none))] z0) 0 0),
 (.cells [(qi 2), (qi 3), (qi 0)] 0 0),
 (.cells [(qi 2), (qi 3), (qi 0)] 0 0)]

theorem c (x : Box) : rC 1 pi e ht x = some (true, some x) := by kernel_rfl
theorem data : SrData 1 pi e ht := ⟨c, by kernel_rfl, by kernel_rfl, by kernel_rfl⟩
/-- The last part, for all objects. -/
noncomputable def rr (f : Nat) (z : Bool) (k : Nat) : Bool := (List.range 6).all fun o => rR e ht (vf f) (ve z) (co k o)
end Go.PE.Sr1
