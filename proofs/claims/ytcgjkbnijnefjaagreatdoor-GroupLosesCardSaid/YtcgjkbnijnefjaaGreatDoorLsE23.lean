/- GroupLoses' states (group 2, part 4), reckoned by the kernel. -/
import Derived.Test.YtcgjkbnijnefjaaGreatDoorLsD2
import Derived.KernelRfl
namespace Go.PE.Ls2
open Go.Proofs
set_option maxRecDepth 100000
theorem s45 : ((List.range' 360 8).all st) = true := by kernel_rfl
theorem s46 : ((List.range' 368 8).all st) = true := by kernel_rfl
theorem s47 : ((List.range' 376 8).all st) = true := by kernel_rfl
theorem s48 : ((List.range' 384 8).all st) = true := by kernel_rfl
theorem s49 : ((List.range' 392 8).all st) = true := by kernel_rfl
theorem s50 : ((List.range' 400 8).all st) = true := by kernel_rfl
theorem s51 : ((List.range' 408 8).all st) = true := by kernel_rfl
theorem s52 : ((List.range' 416 8).all st) = true := by kernel_rfl
theorem s53 : ((List.range' 424 3).all st) = true := by kernel_rfl
end Go.PE.Ls2
