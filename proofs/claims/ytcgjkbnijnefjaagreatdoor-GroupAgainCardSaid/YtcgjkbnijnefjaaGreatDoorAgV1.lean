/- The printed functions are what the compiler lays for the program's own (part 1 of 4). -/
import Derived.Test.YtcgjkbnijnefjaaGreatDoorProg
import Derived.Test.YtcgjkbnijnefjaaGreatDoorAgL3
import Derived.KernelRfl
namespace Go.PE
open Go.Proofs
set_option maxRecDepth 100000
theorem lit5_ok : funcE Tryz.prog 5 = some (lit5) := by kernel_rfl
theorem lit8_ok : funcE Tryz.prog 8 = some (stripF lit8) := by kernel_rfl
theorem lit12_ok : funcE Tryz.prog 12 = some (stripF lit12) := by kernel_rfl
theorem lit13_ok : funcE Tryz.prog 13 = some (stripF lit13) := by kernel_rfl
theorem lit23_ok : funcE Tryz.prog 23 = some (stripF lit23) := by kernel_rfl
theorem lit29_ok : funcE Tryz.prog 29 = some (stripF lit29) := by kernel_rfl
theorem lit31_ok : funcE Tryz.prog 31 = some (stripF lit31) := by kernel_rfl
theorem lit35_ok : funcE Tryz.prog 35 = some (stripF lit35) := by kernel_rfl
theorem lit41_ok : funcE Tryz.prog 41 = some (stripF lit41) := by kernel_rfl
theorem lit47_ok : funcE Tryz.prog 47 = some (stripF lit47) := by kernel_rfl
theorem lit52_ok : funcE Tryz.prog 52 = some (stripF lit52) := by kernel_rfl
theorem lit54_ok : funcE Tryz.prog 54 = some (stripF lit54) := by kernel_rfl
theorem lit55_ok : funcE Tryz.prog 55 = some (stripF lit55) := by kernel_rfl
theorem lit58_ok : funcE Tryz.prog 58 = some (stripF lit58) := by kernel_rfl
theorem lit62_ok : funcE Tryz.prog 62 = some (stripF lit62) := by kernel_rfl
theorem lit64_ok : funcE Tryz.prog 64 = some (stripF lit64) := by kernel_rfl
theorem lit65_ok : funcE Tryz.prog 65 = some (stripF lit65) := by kernel_rfl
theorem lit66_ok : funcE Tryz.prog 66 = some (stripF lit66) := by kernel_rfl
theorem lit67_ok : funcE Tryz.prog 67 = some (stripF lit67) := by kernel_rfl
theorem lit79_ok : funcE Tryz.prog 79 = some (stripF lit79) := by kernel_rfl
theorem lit83_ok : funcE Tryz.prog 83 = some (stripF lit83) := by kernel_rfl
theorem lit89_ok : funcE Tryz.prog 89 = some (stripF lit89) := by kernel_rfl
theorem lit92_ok : funcE Tryz.prog 92 = some (stripF lit92) := by kernel_rfl
theorem lit96_ok : funcE Tryz.prog 96 = some (stripF lit96) := by kernel_rfl
theorem lit109_ok : funcE Tryz.prog 109 = some (stripF lit109) := by kernel_rfl
theorem lit113_ok : funcE Tryz.prog 113 = some (stripF lit113) := by kernel_rfl
theorem lit116_ok : funcE Tryz.prog 116 = some (stripF lit116) := by kernel_rfl
theorem lit120_ok : funcE Tryz.prog 120 = some (stripF lit120) := by kernel_rfl
theorem lit131_ok : funcE Tryz.prog 131 = some (stripF lit131) := by kernel_rfl
theorem lit133_ok : funcE Tryz.prog 133 = some (stripF lit133) := by kernel_rfl
theorem lit141_ok : funcE Tryz.prog 141 = some (stripF lit141) := by kernel_rfl
theorem lit143_ok : funcE Tryz.prog 143 = some (stripF lit143) := by kernel_rfl
theorem lit160_ok : funcE Tryz.prog 160 = some (stripF lit160) := by kernel_rfl
theorem lit166_ok : funcE Tryz.prog 166 = some (stripF lit166) := by kernel_rfl
theorem lit177_ok : funcE Tryz.prog 177 = some (stripF lit177) := by kernel_rfl
theorem lit183_ok : funcE Tryz.prog 183 = some (stripF lit183) := by kernel_rfl
theorem lit188_ok : funcE Tryz.prog 188 = some (stripF lit188) := by kernel_rfl
theorem lit197_ok : funcE Tryz.prog 197 = some (stripF lit197) := by kernel_rfl
end Go.PE
