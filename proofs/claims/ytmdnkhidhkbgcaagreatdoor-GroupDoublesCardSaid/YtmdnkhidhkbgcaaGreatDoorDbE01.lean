/- GroupDoubles: what group 0 does, reckoned by the kernel (part 2). -/
import Derived.Test.YtmdnkhidhkbgcaaGreatDoorDbR
import Derived.KernelRfl
namespace Go.PE.Db0
open Go.Proofs
set_option maxRecDepth 100000
theorem c2 : Chunk (rC (gps 0)) (eC (gps 0)) (fC (gps 0)) 16 2 := by intro v; kernel_rfl
theorem d0 : Chunk (rD (gps 0)) (eD (gps 0)) (fD (gps 0)) 16 0 := by intro v; kernel_rfl
theorem d1 : Chunk (rD (gps 0)) (eD (gps 0)) (fD (gps 0)) 16 1 := by intro v; kernel_rfl
theorem e0 : Chunk (rE (gps 0)) (eE (gps 0)) (fE (gps 0)) 16 0 := by intro v; kernel_rfl
theorem e1 : Chunk (rE (gps 0)) (eE (gps 0)) (fE (gps 0)) 16 1 := by intro v; kernel_rfl
theorem e2 : Chunk (rE (gps 0)) (eE (gps 0)) (fE (gps 0)) 16 2 := by intro v; kernel_rfl
theorem e3 : Chunk (rE (gps 0)) (eE (gps 0)) (fE (gps 0)) 16 3 := by intro v; kernel_rfl
theorem e4 : Chunk (rE (gps 0)) (eE (gps 0)) (fE (gps 0)) 16 4 := by intro v; kernel_rfl
theorem e5 : Chunk (rE (gps 0)) (eE (gps 0)) (fE (gps 0)) 16 5 := by intro v; kernel_rfl
theorem e6 : Chunk (rE (gps 0)) (eE (gps 0)) (fE (gps 0)) 16 6 := by intro v; kernel_rfl
theorem e7 : Chunk (rE (gps 0)) (eE (gps 0)) (fE (gps 0)) 16 7 := by intro v; kernel_rfl
theorem e8 : Chunk (rE (gps 0)) (eE (gps 0)) (fE (gps 0)) 16 8 := by intro v; kernel_rfl
theorem e9 : Chunk (rE (gps 0)) (eE (gps 0)) (fE (gps 0)) 16 9 := by intro v; kernel_rfl
end Go.PE.Db0
