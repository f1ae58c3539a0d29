/- The printed functions are what the compiler lays for the program's own (part 3 of 4). -/
import Derived.Test.YtcgjkbnijnefjaaGreatDoorProg
import Derived.Test.YtcgjkbnijnefjaaGreatDoorLsL3
import Derived.KernelRfl
namespace Go.PE
open Go.Proofs
set_option maxRecDepth 100000
theorem lit9_ok : funcE Tryz.prog 9 = some (stripF lit9) := by kernel_rfl
theorem lit10_ok : funcE Tryz.prog 10 = some (stripF lit10) := by kernel_rfl
theorem lit14_ok : funcE Tryz.prog 14 = some (stripF lit14) := by kernel_rfl
theorem lit15_ok : funcE Tryz.prog 15 = some (stripF lit15) := by kernel_rfl
theorem lit16_ok : funcE Tryz.prog 16 = some (stripF lit16) := by kernel_rfl
theorem lit18_ok : funcE Tryz.prog 18 = some (stripF lit18) := by kernel_rfl
theorem lit19_ok : funcE Tryz.prog 19 = some (stripF lit19) := by kernel_rfl
theorem lit20_ok : funcE Tryz.prog 20 = some (stripF lit20) := by kernel_rfl
theorem lit22_ok : funcE Tryz.prog 22 = some (stripF lit22) := by kernel_rfl
theorem lit39_ok : funcE Tryz.prog 39 = some (stripF lit39) := by kernel_rfl
theorem lit40_ok : funcE Tryz.prog 40 = some (stripF lit40) := by kernel_rfl
theorem lit41_ok : funcE Tryz.prog 41 = some (stripF lit41) := by kernel_rfl
theorem lit43_ok : funcE Tryz.prog 43 = some (stripF lit43) := by kernel_rfl
theorem lit58_ok : funcE Tryz.prog 58 = some (stripF lit58) := by kernel_rfl
theorem lit61_ok : funcE Tryz.prog 61 = some (stripF lit61) := by kernel_rfl
theorem lit65_ok : funcE Tryz.prog 65 = some (stripF lit65) := by kernel_rfl
theorem lit71_ok : funcE Tryz.prog 71 = some (stripF lit71) := by kernel_rfl
theorem lit78_ok : funcE Tryz.prog 78 = some (stripF lit78) := by kernel_rfl
theorem lit84_ok : funcE Tryz.prog 84 = some (stripF lit84) := by kernel_rfl
theorem lit85_ok : funcE Tryz.prog 85 = some (stripF lit85) := by kernel_rfl
theorem lit91_ok : funcE Tryz.prog 91 = some (stripF lit91) := by kernel_rfl
theorem lit102_ok : funcE Tryz.prog 102 = some (stripF lit102) := by kernel_rfl
theorem lit106_ok : funcE Tryz.prog 106 = some (stripF lit106) := by kernel_rfl
theorem lit114_ok : funcE Tryz.prog 114 = some (stripF lit114) := by kernel_rfl
theorem lit124_ok : funcE Tryz.prog 124 = some (stripF lit124) := by kernel_rfl
theorem lit129_ok : funcE Tryz.prog 129 = some (stripF lit129) := by kernel_rfl
theorem lit137_ok : funcE Tryz.prog 137 = some (stripF lit137) := by kernel_rfl
theorem lit139_ok : funcE Tryz.prog 139 = some (stripF lit139) := by kernel_rfl
theorem lit143_ok : funcE Tryz.prog 143 = some (stripF lit143) := by kernel_rfl
theorem lit154_ok : funcE Tryz.prog 154 = some (stripF lit154) := by kernel_rfl
theorem lit156_ok : funcE Tryz.prog 156 = some (stripF lit156) := by kernel_rfl
theorem lit163_ok : funcE Tryz.prog 163 = some (stripF lit163) := by kernel_rfl
theorem lit171_ok : funcE Tryz.prog 171 = some (stripF lit171) := by kernel_rfl
theorem lit192_ok : funcE Tryz.prog 192 = some (stripF lit192) := by kernel_rfl
theorem lit194_ok : funcE Tryz.prog 194 = some (stripF lit194) := by kernel_rfl
theorem lit196_ok : funcE Tryz.prog 196 = some (stripF lit196) := by kernel_rfl
theorem lit202_ok : funcE Tryz.prog 202 = some (stripF lit202) := by kernel_rfl
theorem lit212_ok : funcE Tryz.prog 212 = some (stripF lit212) := by kernel_rfl
theorem lit229_ok : funcE Tryz.prog 229 = some (stripF lit229) := by kernel_rfl
end Go.PE
