/- GroupDoubles: what group 3 does, reckoned by the kernel (part 3). -/
import Derived.Test.YtmdnkhidhkbgcaaGreatDoorDbR
import Derived.KernelRfl
namespace Go.PE.Db3
open Go.Proofs
set_option maxRecDepth 100000
theorem m0 : Chunk (rM (gps 3)) (eM (gps 3)) (fM (gps 3)) 16 0 := by intro v; kernel_rfl
theorem m1 : Chunk (rM (gps 3)) (eM (gps 3)) (fM (gps 3)) 16 1 := by intro v; kernel_rfl
theorem m2 : Chunk (rM (gps 3)) (eM (gps 3)) (fM (gps 3)) 16 2 := by intro v; kernel_rfl
theorem s1 (v : VT) : rAsk (gps 3) 1 v = xAsk (gps 3) 1 v := by kernel_rfl
theorem z1 (v : VT) : rFin (gps 3) 1 v = some (true, []) := by kernel_rfl
theorem s2 (v : VT) : rAsk (gps 3) 2 v = xAsk (gps 3) 2 v := by kernel_rfl
theorem z2 (v : VT) : rFin (gps 3) 2 v = some (true, []) := by kernel_rfl
theorem s3 (v : VT) : rAsk (gps 3) 3 v = xAsk (gps 3) 3 v := by kernel_rfl
theorem z3 (v : VT) : rFin (gps 3) 3 v = some (true, []) := by kernel_rfl
theorem s4 (v : VT) : rAsk (gps 3) 4 v = xAsk (gps 3) 4 v := by kernel_rfl
theorem z4 (v : VT) : rFin (gps 3) 4 v = some (true, []) := by kernel_rfl
theorem s5 (v : VT) : rAsk (gps 3) 5 v = xAsk (gps 3) 5 v := by kernel_rfl
theorem z5 (v : VT) : rFin (gps 3) 5 v = some (true, []) := by kernel_rfl
theorem s6 (v : VT) : rAsk (gps 3) 6 v = xAsk (gps 3) 6 v := by kernel_rfl
theorem z6 (v : VT) : rFin (gps 3) 6 v = some (true, []) := by kernel_rfl
theorem s7 (v : VT) : rAsk (gps 3) 7 v = xAsk (gps 3) 7 v := by kernel_rfl
theorem z7 (v : VT) : rFin (gps 3) 7 v = some (true, []) := by kernel_rfl
theorem s8 (v : VT) : rAsk (gps 3) 8 v = xAsk (gps 3) 8 v := by kernel_rfl
theorem z8 (v : VT) : rFin (gps 3) 8 v = some (true, []) := by kernel_rfl
theorem s9 (v : VT) : rAsk (gps 3) 9 v = xAsk (gps 3) 9 v := by kernel_rfl
theorem z9 (v : VT) : rFin (gps 3) 9 v = some (true, []) := by kernel_rfl
end Go.PE.Db3
