/- GroupDoubles: what group 0 does, reckoned by the kernel (part 1). -/
import Derived.Test.YtmdnkhidhkbgcaaGreatDoorDbR
import Derived.KernelRfl
namespace Go.PE.Db0
open Go.Proofs
set_option maxRecDepth 100000
theorem a0 : Chunk (rA (gps 0)) (eA (gps 0)) (fA (gps 0)) 16 0 := by intro v; kernel_rfl
theorem a1 : Chunk (rA (gps 0)) (eA (gps 0)) (fA (gps 0)) 16 1 := by intro v; kernel_rfl
theorem a2 : Chunk (rA (gps 0)) (eA (gps 0)) (fA (gps 0)) 16 2 := by intro v; kernel_rfl
theorem a3 : Chunk (rA (gps 0)) (eA (gps 0)) (fA (gps 0)) 16 3 := by intro v; kernel_rfl
theorem a4 : Chunk (rA (gps 0)) (eA (gps 0)) (fA (gps 0)) 16 4 := by intro v; kernel_rfl
theorem a5 : Chunk (rA (gps 0)) (eA (gps 0)) (fA (gps 0)) 16 5 := by intro v; kernel_rfl
theorem a6 : Chunk (rA (gps 0)) (eA (gps 0)) (fA (gps 0)) 16 6 := by intro v; kernel_rfl
theorem a7 : Chunk (rA (gps 0)) (eA (gps 0)) (fA (gps 0)) 16 7 := by intro v; kernel_rfl
theorem a8 : Chunk (rA (gps 0)) (eA (gps 0)) (fA (gps 0)) 16 8 := by intro v; kernel_rfl
theorem b0 : Chunk (rB (gps 0)) (eB (gps 0)) (fB (gps 0)) 16 0 := by intro v; kernel_rfl
theorem b1 : Chunk (rB (gps 0)) (eB (gps 0)) (fB (gps 0)) 16 1 := by intro v; kernel_rfl
theorem c0 : Chunk (rC (gps 0)) (eC (gps 0)) (fC (gps 0)) 16 0 := by intro v; kernel_rfl
theorem c1 : Chunk (rC (gps 0)) (eC (gps 0)) (fC (gps 0)) 16 1 := by intro v; kernel_rfl
end Go.PE.Db0
