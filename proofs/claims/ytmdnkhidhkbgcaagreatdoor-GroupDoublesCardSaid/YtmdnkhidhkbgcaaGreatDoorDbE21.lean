/- GroupDoubles: what group 2 does, reckoned by the kernel (part 2). -/
import Derived.Test.YtmdnkhidhkbgcaaGreatDoorDbR
import Derived.KernelRfl
namespace Go.PE.Db2
open Go.Proofs
set_option maxRecDepth 100000
theorem c2 : Chunk (rC (gps 2)) (eC (gps 2)) (fC (gps 2)) 16 2 := by intro v; kernel_rfl
theorem d0 : Chunk (rD (gps 2)) (eD (gps 2)) (fD (gps 2)) 16 0 := by intro v; kernel_rfl
theorem d1 : Chunk (rD (gps 2)) (eD (gps 2)) (fD (gps 2)) 16 1 := by intro v; kernel_rfl
theorem e0 : Chunk (rE (gps 2)) (eE (gps 2)) (fE (gps 2)) 16 0 := by intro v; kernel_rfl
theorem e1 : Chunk (rE (gps 2)) (eE (gps 2)) (fE (gps 2)) 16 1 := by intro v; kernel_rfl
theorem e2 : Chunk (rE (gps 2)) (eE (gps 2)) (fE (gps 2)) 16 2 := by intro v; kernel_rfl
theorem e3 : Chunk (rE (gps 2)) (eE (gps 2)) (fE (gps 2)) 16 3 := by intro v; kernel_rfl
theorem e4 : Chunk (rE (gps 2)) (eE (gps 2)) (fE (gps 2)) 16 4 := by intro v; kernel_rfl
theorem e5 : Chunk (rE (gps 2)) (eE (gps 2)) (fE (gps 2)) 16 5 := by intro v; kernel_rfl
theorem e6 : Chunk (rE (gps 2)) (eE (gps 2)) (fE (gps 2)) 16 6 := by intro v; kernel_rfl
theorem e7 : Chunk (rE (gps 2)) (eE (gps 2)) (fE (gps 2)) 16 7 := by intro v; kernel_rfl
theorem e8 : Chunk (rE (gps 2)) (eE (gps 2)) (fE (gps 2)) 16 8 := by intro v; kernel_rfl
theorem e9 : Chunk (rE (gps 2)) (eE (gps 2)) (fE (gps 2)) 16 9 := by intro v; kernel_rfl
end Go.PE.Db2
