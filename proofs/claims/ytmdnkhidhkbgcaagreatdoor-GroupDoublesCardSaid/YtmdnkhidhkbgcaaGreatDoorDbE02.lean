/- GroupDoubles: what group 0 does, reckoned by the kernel (part 3). -/
import Derived.Test.YtmdnkhidhkbgcaaGreatDoorDbR
import Derived.KernelRfl
namespace Go.PE.Db0
open Go.Proofs
set_option maxRecDepth 100000
theorem m0 : Chunk (rM (gps 0)) (eM (gps 0)) (fM (gps 0)) 16 0 := by intro v; kernel_rfl
theorem m1 : Chunk (rM (gps 0)) (eM (gps 0)) (fM (gps 0)) 16 1 := by intro v; kernel_rfl
theorem m2 : Chunk (rM (gps 0)) (eM (gps 0)) (fM (gps 0)) 16 2 := by intro v; kernel_rfl
theorem s1 (v : VT) : rAsk (gps 0) 1 v = xAsk (gps 0) 1 v := by kernel_rfl
theorem z1 (v : VT) : rFin (gps 0) 1 v = some (true, []) := by kernel_rfl
theorem s2 (v : VT) : rAsk (gps 0) 2 v = xAsk (gps 0) 2 v := by kernel_rfl
theorem z2 (v : VT) : rFin (gps 0) 2 v = some (true, []) := by kernel_rfl
theorem s3 (v : VT) : rAsk (gps 0) 3 v = xAsk (gps 0) 3 v := by kernel_rfl
theorem z3 (v : VT) : rFin (gps 0) 3 v = some (true, []) := by kernel_rfl
theorem s4 (v : VT) : rAsk (gps 0) 4 v = xAsk (gps 0) 4 v := by kernel_rfl
theorem z4 (v : VT) : rFin (gps 0) 4 v = some (true, []) := by kernel_rfl
theorem s5 (v : VT) : rAsk (gps 0) 5 v = xAsk (gps 0) 5 v := by kernel_rfl
theorem z5 (v : VT) : rFin (gps 0) 5 v = some (true, []) := by kernel_rfl
theorem s6 (v : VT) : rAsk (gps 0) 6 v = xAsk (gps 0) 6 v := by kernel_rfl
theorem z6 (v : VT) : rFin (gps 0) 6 v = some (true, []) := by kernel_rfl
theorem s7 (v : VT) : rAsk (gps 0) 7 v = xAsk (gps 0) 7 v := by kernel_rfl
theorem z7 (v : VT) : rFin (gps 0) 7 v = some (true, []) := by kernel_rfl
theorem s8 (v : VT) : rAsk (gps 0) 8 v = xAsk (gps 0) 8 v := by kernel_rfl
theorem z8 (v : VT) : rFin (gps 0) 8 v = some (true, []) := by kernel_rfl
theorem s9 (v : VT) : rAsk (gps 0) 9 v = xAsk (gps 0) 9 v := by kernel_rfl
theorem z9 (v : VT) : rFin (gps 0) 9 v = some (true, []) := by kernel_rfl
end Go.PE.Db0
