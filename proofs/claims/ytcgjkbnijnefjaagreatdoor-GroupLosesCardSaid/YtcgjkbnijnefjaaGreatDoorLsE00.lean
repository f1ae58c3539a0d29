/- GroupLoses' states (group 0, part 1), reckoned by the kernel. -/
import Derived.Test.YtcgjkbnijnefjaaGreatDoorLsD0
import Derived.KernelRfl
namespace Go.PE.Ls0
open Go.Proofs
set_option maxRecDepth 100000
theorem s0 : ((List.range' 0 8).all st) = true := by kernel_rfl
theorem s1 : ((List.range' 8 8).all st) = true := by kernel_rfl
theorem s2 : ((List.range' 16 8).all st) = true := by kernel_rfl
theorem s3 : ((List.range' 24 8).all st) = true := by kernel_rfl
theorem s4 : ((List.range' 32 8).all st) = true := by kernel_rfl
theorem s5 : ((List.range' 40 8).all st) = true := by kernel_rfl
theorem s6 : ((List.range' 48 8).all st) = true := by kernel_rfl
theorem s7 : ((List.range' 56 8).all st) = true := by kernel_rfl
theorem s8 : ((List.range' 64 8).all st) = true := by kernel_rfl
theorem s9 : ((List.range' 72 8).all st) = true := by kernel_rfl
theorem s10 : ((List.range' 80 8).all st) = true := by kernel_rfl
theorem s11 : ((List.range' 88 8).all st) = true := by kernel_rfl
theorem s12 : ((List.range' 96 8).all st) = true := by kernel_rfl
theorem s13 : ((List.range' 104 8).all st) = true := by kernel_rfl
theorem s14 : ((List.range' 112 8).all st) = true := by kernel_rfl
theorem s15 : ((List.range' 120 8).all st) = true := by kernel_rfl
theorem s16 : ((List.range' 128 8).all st) = true := by kernel_rfl
theorem s17 : ((List.range' 136 8).all st) = true := by kernel_rfl
end Go.PE.Ls0
