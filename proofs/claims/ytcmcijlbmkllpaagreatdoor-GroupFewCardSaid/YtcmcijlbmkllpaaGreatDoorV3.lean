/- The printed functions are what the compiler lays for the program's own (part 3 of 4). -/
import Derived.Test.YtcmcijlbmkllpaaGreatDoorProg
import Derived.Test.YtcmcijlbmkllpaaGreatDoorL3
import Derived.Test.YtcmcijlbmkllpaaGreatDoorED
import Derived.KernelRfl
namespace Go.PE
open Go.Proofs
set_option maxRecDepth 100000
theorem lit10_ok : funcE Tryz.prog 10 = some lit10 := by kernel_rfl
theorem lit16_ok : funcE Tryz.prog 16 = some lit16 := by kernel_rfl
theorem lit25_ok : funcE Tryz.prog 25 = some lit25 := by kernel_rfl
theorem lit28_ok : funcE Tryz.prog 28 = some lit28 := by kernel_rfl
theorem lit29_ok : funcE Tryz.prog 29 = some lit29 := by kernel_rfl
theorem lit32_ok : funcE Tryz.prog 32 = some lit32 := by kernel_rfl
theorem lit39_ok : funcE Tryz.prog 39 = some lit39 := by kernel_rfl
theorem lit40_ok : funcE Tryz.prog 40 = some lit40 := by kernel_rfl
theorem lit41_ok : funcE Tryz.prog 41 = some lit41 := by kernel_rfl
theorem lit49_ok : funcE Tryz.prog 49 = some lit49 := by kernel_rfl
theorem lit52_ok : funcE Tryz.prog 52 = some lit52 := by kernel_rfl
theorem lit65_ok : funcE Tryz.prog 65 = some lit65 := by kernel_rfl
theorem lit76_ok : funcE Tryz.prog 76 = some lit76 := by kernel_rfl
theorem lit77_ok : funcE Tryz.prog 77 = some lit77 := by kernel_rfl
theorem lit82_ok : funcE Tryz.prog 82 = some lit82 := by kernel_rfl
theorem lit90_ok : funcE Tryz.prog 90 = some lit90 := by kernel_rfl
theorem lit91_ok : funcE Tryz.prog 91 = some lit91 := by kernel_rfl
theorem lit93_ok : funcE Tryz.prog 93 = some lit93 := by kernel_rfl
theorem lit96_ok : funcE Tryz.prog 96 = some lit96 := by kernel_rfl
theorem lit97_ok : funcE Tryz.prog 97 = some lit97 := by kernel_rfl
theorem lit98_ok : funcE Tryz.prog 98 = some lit98 := by kernel_rfl
theorem lit100_ok : funcE Tryz.prog 100 = some lit100 := by kernel_rfl
theorem lit107_ok : funcE Tryz.prog 107 = some lit107 := by kernel_rfl
theorem lit118_ok : funcE Tryz.prog 118 = some lit118 := by kernel_rfl
theorem lit124_ok : funcE Tryz.prog 124 = some lit124 := by kernel_rfl
theorem lit130_ok : funcE Tryz.prog 130 = some lit130 := by kernel_rfl
theorem lit132_ok : funcE Tryz.prog 132 = some lit132 := by kernel_rfl
theorem lit138_ok : funcE Tryz.prog 138 = some lit138 := by kernel_rfl
theorem lit157_ok : funcE Tryz.prog 157 = some lit157 := by kernel_rfl
theorem lit173_ok : funcE Tryz.prog 173 = some lit173 := by kernel_rfl
theorem lit175_ok : funcE Tryz.prog 175 = some lit175 := by kernel_rfl
theorem lit178_ok : funcE Tryz.prog 178 = some lit178 := by kernel_rfl
theorem lit184_ok : funcE Tryz.prog 184 = some lit184 := by kernel_rfl
theorem lit189_ok : funcE Tryz.prog 189 = some lit189 := by kernel_rfl
theorem lit197_ok : funcE Tryz.prog 197 = some lit197 := by kernel_rfl
theorem lit199_ok : funcE Tryz.prog 199 = some lit199 := by kernel_rfl
theorem lit201_ok : funcE Tryz.prog 201 = some lit201 := by kernel_rfl
theorem lit205_ok : funcE Tryz.prog 205 = some lit205 := by kernel_rfl
theorem lit214_ok : funcE Tryz.prog 214 = some lit214 := by kernel_rfl
end Go.PE
