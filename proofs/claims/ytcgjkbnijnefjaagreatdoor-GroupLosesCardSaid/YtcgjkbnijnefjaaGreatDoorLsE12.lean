/- GroupLoses' states (group 1, part 3), reckoned by the kernel. -/
import Derived.Test.YtcgjkbnijnefjaaGreatDoorLsD1
import Derived.KernelRfl
namespace Go.PE.Ls1
open Go.Proofs
set_option maxRecDepth 100000
theorem s36 : ((List.range' 288 8).all st) = true := by kernel_rfl
theorem s37 : ((List.range' 296 8).all st) = true := by kernel_rfl
theorem s38 : ((List.range' 304 8).all st) = true := by kernel_rfl
theorem s39 : ((List.range' 312 8).all st) = true := by kernel_rfl
theorem s40 : ((List.range' 320 8).all st) = true := by kernel_rfl
theorem s41 : ((List.range' 328 8).all st) = true := by kernel_rfl
theorem s42 : ((List.range' 336 8).all st) = true := by kernel_rfl
theorem s43 : ((List.range' 344 8).all st) = true := by kernel_rfl
theorem s44 : ((List.range' 352 8).all st) = true := by kernel_rfl
end Go.PE.Ls1
