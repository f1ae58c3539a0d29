/- GroupDoubles: what group 3 does, reckoned by the kernel (part 2). -/
import Derived.Test.YtmdnkhidhkbgcaaGreatDoorDbR
import Derived.KernelRfl
namespace Go.PE.Db3
open Go.Proofs
set_option maxRecDepth 100000
theorem c2 : Chunk (rC (gps 3)) (eC (gps 3)) (fC (gps 3)) 16 2 := by intro v; kernel_rfl
theorem d0 : Chunk (rD (gps 3)) (eD (gps 3)) (fD (gps 3)) 16 0 := by intro v; kernel_rfl
theorem d1 : Chunk (rD (gps 3)) (eD (gps 3)) (fD (gps 3)) 16 1 := by intro v; kernel_rfl
theorem e0 : Chunk (rE (gps 3)) (eE (gps 3)) (fE (gps 3)) 16 0 := by intro v; kernel_rfl
theorem e1 : Chunk (rE (gps 3)) (eE (gps 3)) (fE (gps 3)) 16 1 := by intro v; kernel_rfl
theorem e2 : Chunk (rE (gps 3)) (eE (gps 3)) (fE (gps 3)) 16 2 := by intro v; kernel_rfl
theorem e3 : Chunk (rE (gps 3)) (eE (gps 3)) (fE (gps 3)) 16 3 := by intro v; kernel_rfl
theorem e4 : Chunk (rE (gps 3)) (eE (gps 3)) (fE (gps 3)) 16 4 := by intro v; kernel_rfl
theorem e5 : Chunk (rE (gps 3)) (eE (gps 3)) (fE (gps 3)) 16 5 := by intro v; kernel_rfl
theorem e6 : Chunk (rE (gps 3)) (eE (gps 3)) (fE (gps 3)) 16 6 := by intro v; kernel_rfl
theorem e7 : Chunk (rE (gps 3)) (eE (gps 3)) (fE (gps 3)) 16 7 := by intro v; kernel_rfl
theorem e8 : Chunk (rE (gps 3)) (eE (gps 3)) (fE (gps 3)) 16 8 := by intro v; kernel_rfl
theorem e9 : Chunk (rE (gps 3)) (eE (gps 3)) (fE (gps 3)) 16 9 := by intro v; kernel_rfl
end Go.PE.Db3
