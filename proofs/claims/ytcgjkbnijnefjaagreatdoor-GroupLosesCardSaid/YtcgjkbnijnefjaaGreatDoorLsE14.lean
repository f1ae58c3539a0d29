/- GroupLoses' states (group 1, part 5), reckoned by the kernel. -/
import Derived.Test.YtcgjkbnijnefjaaGreatDoorLsD1
import Derived.KernelRfl
namespace Go.PE.Ls1
open Go.Proofs
set_option maxRecDepth 100000
theorem s53a : ((List.range' 424 2).all st) = true := by kernel_rfl
theorem s53b : ((List.range' 426 2).all st) = true := by kernel_rfl
theorem s53c : ((List.range' 428 2).all st) = true := by kernel_rfl
theorem s53d : ((List.range' 430 2).all st) = true := by kernel_rfl
theorem s53 : ((List.range' 424 8).all st) = true := by
  rw [show List.range' 424 8 = List.range' 424 2 ++ (List.range' 426 2 ++ (List.range' 428 2 ++ List.range' 430 2)) from rfl, List.all_append, List.all_append, List.all_append, s53a, s53b, s53c, s53d]
  rfl
end Go.PE.Ls1
