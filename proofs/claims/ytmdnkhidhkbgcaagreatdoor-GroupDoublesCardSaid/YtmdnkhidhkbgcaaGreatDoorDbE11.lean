/- GroupDoubles: what group 1 does, reckoned by the kernel (part 2). -/
import Derived.Test.YtmdnkhidhkbgcaaGreatDoorDbR
import Derived.KernelRfl
namespace Go.PE.Db1
open Go.Proofs
set_option maxRecDepth 100000
theorem c2 : Chunk (rC (gps 1)) (eC (gps 1)) (fC (gps 1)) 16 2 := by intro v; kernel_rfl
theorem d0 : Chunk (rD (gps 1)) (eD (gps 1)) (fD (gps 1)) 16 0 := by intro v; kernel_rfl
theorem d1 : Chunk (rD (gps 1)) (eD (gps 1)) (fD (gps 1)) 16 1 := by intro v; kernel_rfl
theorem e0 : Chunk (rE (gps 1)) (eE (gps 1)) (fE (gps 1)) 16 0 := by intro v; kernel_rfl
theorem e1 : Chunk (rE (gps 1)) (eE (gps 1)) (fE (gps 1)) 16 1 := by intro v; kernel_rfl
theorem e2 : Chunk (rE (gps 1)) (eE (gps 1)) (fE (gps 1)) 16 2 := by intro v; kernel_rfl
theorem e3 : Chunk (rE (gps 1)) (eE (gps 1)) (fE (gps 1)) 16 3 := by intro v; kernel_rfl
theorem e4 : Chunk (rE (gps 1)) (eE (gps 1)) (fE (gps 1)) 16 4 := by intro v; kernel_rfl
theorem e5 : Chunk (rE (gps 1)) (eE (gps 1)) (fE (gps 1)) 16 5 := by intro v; kernel_rfl
theorem e6 : Chunk (rE (gps 1)) (eE (gps 1)) (fE (gps 1)) 16 6 := by intro v; kernel_rfl
theorem e7 : Chunk (rE (gps 1)) (eE (gps 1)) (fE (gps 1)) 16 7 := by intro v; kernel_rfl
theorem e8 : Chunk (rE (gps 1)) (eE (gps 1)) (fE (gps 1)) 16 8 := by intro v; kernel_rfl
theorem e9 : Chunk (rE (gps 1)) (eE (gps 1)) (fE (gps 1)) 16 9 := by intro v; kernel_rfl
end Go.PE.Db1
