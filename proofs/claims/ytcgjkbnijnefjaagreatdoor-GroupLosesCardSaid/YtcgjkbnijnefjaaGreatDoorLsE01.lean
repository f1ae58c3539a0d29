/- GroupLoses' states (group 0, part 2), reckoned by the kernel. -/
import Derived.Test.YtcgjkbnijnefjaaGreatDoorLsD0
import Derived.KernelRfl
namespace Go.PE.Ls0
open Go.Proofs
set_option maxRecDepth 100000
theorem s18 : ((List.range' 144 8).all st) = true := by kernel_rfl
theorem s19 : ((List.range' 152 8).all st) = true := by kernel_rfl
theorem s20 : ((List.range' 160 8).all st) = true := by kernel_rfl
theorem s21 : ((List.range' 168 8).all st) = true := by kernel_rfl
theorem s22 : ((List.range' 176 8).all st) = true := by kernel_rfl
theorem s23 : ((List.range' 184 8).all st) = true := by kernel_rfl
theorem s24 : ((List.range' 192 8).all st) = true := by kernel_rfl
theorem s25 : ((List.range' 200 8).all st) = true := by kernel_rfl
theorem s26 : ((List.range' 208 8).all st) = true := by kernel_rfl
theorem s27 : ((List.range' 216 8).all st) = true := by kernel_rfl
theorem s28 : ((List.range' 224 8).all st) = true := by kernel_rfl
theorem s29 : ((List.range' 232 8).all st) = true := by kernel_rfl
theorem s30 : ((List.range' 240 8).all st) = true := by kernel_rfl
theorem s31 : ((List.range' 248 8).all st) = true := by kernel_rfl
theorem s32 : ((List.range' 256 8).all st) = true := by kernel_rfl
theorem s33 : ((List.range' 264 8).all st) = true := by kernel_rfl
theorem s34 : ((List.range' 272 8).all st) = true := by kernel_rfl
theorem s35 : ((List.range' 280 8).all st) = true := by kernel_rfl
end Go.PE.Ls0
