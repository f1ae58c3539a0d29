/- GroupDoubles: what group 3 does, reckoned by the kernel (part 1). -/
import Derived.Test.YtmdnkhidhkbgcaaGreatDoorDbR
import Derived.KernelRfl
namespace Go.PE.Db3
open Go.Proofs
set_option maxRecDepth 100000
theorem a0 : Chunk (rA (gps 3)) (eA (gps 3)) (fA (gps 3)) 16 0 := by intro v; kernel_rfl
theorem a1 : Chunk (rA (gps 3)) (eA (gps 3)) (fA (gps 3)) 16 1 := by intro v; kernel_rfl
theorem a2 : Chunk (rA (gps 3)) (eA (gps 3)) (fA (gps 3)) 16 2 := by intro v; kernel_rfl
theorem a3 : Chunk (rA (gps 3)) (eA (gps 3)) (fA (gps 3)) 16 3 := by intro v; kernel_rfl
theorem a4 : Chunk (rA (gps 3)) (eA (gps 3)) (fA (gps 3)) 16 4 := by intro v; kernel_rfl
theorem a5 : Chunk (rA (gps 3)) (eA (gps 3)) (fA (gps 3)) 16 5 := by intro v; kernel_rfl
theorem a6 : Chunk (rA (gps 3)) (eA (gps 3)) (fA (gps 3)) 16 6 := by intro v; kernel_rfl
theorem a7 : Chunk (rA (gps 3)) (eA (gps 3)) (fA (gps 3)) 16 7 := by intro v; kernel_rfl
theorem a8 : Chunk (rA (gps 3)) (eA (gps 3)) (fA (gps 3)) 16 8 := by intro v; kernel_rfl
theorem b0 : Chunk (rB (gps 3)) (eB (gps 3)) (fB (gps 3)) 16 0 := by intro v; kernel_rfl
theorem b1 : Chunk (rB (gps 3)) (eB (gps 3)) (fB (gps 3)) 16 1 := by intro v; kernel_rfl
theorem c0 : Chunk (rC (gps 3)) (eC (gps 3)) (fC (gps 3)) 16 0 := by intro v; kernel_rfl
theorem c1 : Chunk (rC (gps 3)) (eC (gps 3)) (fC (gps 3)) 16 1 := by intro v; kernel_rfl
end Go.PE.Db3
