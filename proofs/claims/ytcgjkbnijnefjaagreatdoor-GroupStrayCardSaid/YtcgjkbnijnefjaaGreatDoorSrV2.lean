/- The printed functions are what the compiler lays for the program's own (part 2 of 4). -/
import Derived.Test.YtcgjkbnijnefjaaGreatDoorProg
import Derived.Test.YtcgjkbnijnefjaaGreatDoorSrL3
import Derived.KernelRfl
namespace Go.PE
open Go.Proofs
set_option maxRecDepth 100000
theorem lit8_ok : funcE Tryz.prog 8 = some (stripF lit8) := by kernel_rfl
theorem lit9_ok : funcE Tryz.prog 9 = some (stripF lit9) := by kernel_rfl
theorem lit10_ok : funcE Tryz.prog 10 = some (stripF lit10) := by kernel_rfl
theorem lit13_ok : funcE Tryz.prog 13 = some (stripF lit13) := by kernel_rfl
theorem lit22_ok : funcE Tryz.prog 22 = some (stripF lit22) := by kernel_rfl
theorem lit25_ok : funcE Tryz.prog 25 = some (stripF lit25) := by kernel_rfl
theorem lit31_ok : funcE Tryz.prog 31 = some (stripF lit31) := by kernel_rfl
theorem lit32_ok : funcE Tryz.prog 32 = some (stripF lit32) := by kernel_rfl
theorem lit34_ok : funcE Tryz.prog 34 = some (stripF lit34) := by kernel_rfl
theorem lit41_ok : funcE Tryz.prog 41 = some (stripF lit41) := by kernel_rfl
theorem lit42_ok : funcE Tryz.prog 42 = some (stripF lit42) := by kernel_rfl
theorem lit43_ok : funcE Tryz.prog 43 = some (stripF lit43) := by kernel_rfl
theorem lit50_ok : funcE Tryz.prog 50 = some (stripF lit50) := by kernel_rfl
theorem lit54_ok : funcE Tryz.prog 54 = some (stripF lit54) := by kernel_rfl
theorem lit58_ok : funcE Tryz.prog 58 = some (stripF lit58) := by kernel_rfl
theorem lit63_ok : funcE Tryz.prog 63 = some (stripF lit63) := by kernel_rfl
theorem lit83_ok : funcE Tryz.prog 83 = some (stripF lit83) := by kernel_rfl
theorem lit85_ok : funcE Tryz.prog 85 = some (stripF lit85) := by kernel_rfl
theorem lit91_ok : funcE Tryz.prog 91 = some (stripF lit91) := by kernel_rfl
theorem lit95_ok : funcE Tryz.prog 95 = some (stripF lit95) := by kernel_rfl
theorem lit97_ok : funcE Tryz.prog 97 = some (stripF lit97) := by kernel_rfl
theorem lit102_ok : funcE Tryz.prog 102 = some (stripF lit102) := by kernel_rfl
theorem lit105_ok : funcE Tryz.prog 105 = some (stripF lit105) := by kernel_rfl
theorem lit123_ok : funcE Tryz.prog 123 = some (stripF lit123) := by kernel_rfl
theorem lit124_ok : funcE Tryz.prog 124 = some (stripF lit124) := by kernel_rfl
theorem lit127_ok : funcE Tryz.prog 127 = some (stripF lit127) := by kernel_rfl
theorem lit128_ok : funcE Tryz.prog 128 = some (stripF lit128) := by kernel_rfl
theorem lit129_ok : funcE Tryz.prog 129 = some (stripF lit129) := by kernel_rfl
theorem lit139_ok : funcE Tryz.prog 139 = some (stripF lit139) := by kernel_rfl
theorem lit143_ok : funcE Tryz.prog 143 = some (stripF lit143) := by kernel_rfl
theorem lit190_ok : funcE Tryz.prog 190 = some (stripF lit190) := by kernel_rfl
theorem lit212_ok : funcE Tryz.prog 212 = some (stripF lit212) := by kernel_rfl
theorem lit222_ok : funcE Tryz.prog 222 = some (stripF lit222) := by kernel_rfl
end Go.PE
