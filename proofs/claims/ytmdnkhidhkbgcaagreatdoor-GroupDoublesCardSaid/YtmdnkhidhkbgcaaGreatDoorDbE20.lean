/- GroupDoubles: what group 2 does, reckoned by the kernel (part 1). -/
import Derived.Test.YtmdnkhidhkbgcaaGreatDoorDbR
import Derived.KernelRfl
namespace Go.PE.Db2
open Go.Proofs
set_option maxRecDepth 100000
theorem a0 : Chunk (rA (gps 2)) (eA (gps 2)) (fA (gps 2)) 16 0 := by intro v; kernel_rfl
theorem a1 : Chunk (rA (gps 2)) (eA (gps 2)) (fA (gps 2)) 16 1 := by intro v; kernel_rfl
theorem a2 : Chunk (rA (gps 2)) (eA (gps 2)) (fA (gps 2)) 16 2 := by intro v; kernel_rfl
theorem a3 : Chunk (rA (gps 2)) (eA (gps 2)) (fA (gps 2)) 16 3 := by intro v; kernel_rfl
theorem a4 : Chunk (rA (gps 2)) (eA (gps 2)) (fA (gps 2)) 16 4 := by intro v; kernel_rfl
theorem a5 : Chunk (rA (gps 2)) (eA (gps 2)) (fA (gps 2)) 16 5 := by intro v; kernel_rfl
theorem a6 : Chunk (rA (gps 2)) (eA (gps 2)) (fA (gps 2)) 16 6 := by intro v; kernel_rfl
theorem a7 : Chunk (rA (gps 2)) (eA (gps 2)) (fA (gps 2)) 16 7 := by intro v; kernel_rfl
theorem a8 : Chunk (rA (gps 2)) (eA (gps 2)) (fA (gps 2)) 16 8 := by intro v; kernel_rfl
theorem b0 : Chunk (rB (gps 2)) (eB (gps 2)) (fB (gps 2)) 16 0 := by intro v; kernel_rfl
theorem b1 : Chunk (rB (gps 2)) (eB (gps 2)) (fB (gps 2)) 16 1 := by intro v; kernel_rfl
theorem c0 : Chunk (rC (gps 2)) (eC (gps 2)) (fC (gps 2)) 16 0 := by intro v; kernel_rfl
theorem c1 : Chunk (rC (gps 2)) (eC (gps 2)) (fC (gps 2)) 16 1 := by intro v; kernel_rfl
end Go.PE.Db2
