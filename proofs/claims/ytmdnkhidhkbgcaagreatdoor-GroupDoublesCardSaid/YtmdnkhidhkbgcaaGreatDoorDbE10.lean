/- GroupDoubles: what group 1 does, reckoned by the kernel (part 1). -/
import Derived.Test.YtmdnkhidhkbgcaaGreatDoorDbR
import Derived.KernelRfl
namespace Go.PE.Db1
open Go.Proofs
set_option maxRecDepth 100000
theorem a0 : Chunk (rA (gps 1)) (eA (gps 1)) (fA (gps 1)) 16 0 := by intro v; kernel_rfl
theorem a1 : Chunk (rA (gps 1)) (eA (gps 1)) (fA (gps 1)) 16 1 := by intro v; kernel_rfl
theorem a2 : Chunk (rA (gps 1)) (eA (gps 1)) (fA (gps 1)) 16 2 := by intro v; kernel_rfl
theorem a3 : Chunk (rA (gps 1)) (eA (gps 1)) (fA (gps 1)) 16 3 := by intro v; kernel_rfl
theorem a4 : Chunk (rA (gps 1)) (eA (gps 1)) (fA (gps 1)) 16 4 := by intro v; kernel_rfl
theorem a5 : Chunk (rA (gps 1)) (eA (gps 1)) (fA (gps 1)) 16 5 := by intro v; kernel_rfl
theorem a6 : Chunk (rA (gps 1)) (eA (gps 1)) (fA (gps 1)) 16 6 := by intro v; kernel_rfl
theorem a7 : Chunk (rA (gps 1)) (eA (gps 1)) (fA (gps 1)) 16 7 := by intro v; kernel_rfl
theorem a8 : Chunk (rA (gps 1)) (eA (gps 1)) (fA (gps 1)) 16 8 := by intro v; kernel_rfl
theorem b0 : Chunk (rB (gps 1)) (eB (gps 1)) (fB (gps 1)) 16 0 := by intro v; kernel_rfl
theorem b1 : Chunk (rB (gps 1)) (eB (gps 1)) (fB (gps 1)) 16 1 := by intro v; kernel_rfl
theorem c0 : Chunk (rC (gps 1)) (eC (gps 1)) (fC (gps 1)) 16 0 := by intro v; kernel_rfl
theorem c1 : Chunk (rC (gps 1)) (eC (gps 1)) (fC (gps 1)) 16 1 := by intro v; kernel_rfl
end Go.PE.Db1
