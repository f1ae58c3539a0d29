/- The printed functions are what the compiler lays for the program's own (part 1 of 4). -/
import Derived.Test.YtcgjkbnijnefjaaGreatDoorProg
import Derived.Test.YtcgjkbnijnefjaaGreatDoorL3
import Derived.KernelRfl
namespace Go.PE
open Go.Proofs
set_option maxRecDepth 100000
theorem lit7_ok : funcE Tryz.prog 7 = some (lit7) := by kernel_rfl
theorem lit9_ok : funcE Tryz.prog 9 = some (stripF lit9) := by kernel_rfl
theorem lit10_ok : funcE Tryz.prog 10 = some (stripF lit10) := by kernel_rfl
theorem lit11_ok : funcE Tryz.prog 11 = some (stripF lit11) := by kernel_rfl
theorem lit12_ok : funcE Tryz.prog 12 = some (stripF lit12) := by kernel_rfl
theorem lit14_ok : funcE Tryz.prog 14 = some (stripF lit14) := by kernel_rfl
theorem lit20_ok : funcE Tryz.prog 20 = some (stripF lit20) := by kernel_rfl
theorem lit21_ok : funcE Tryz.prog 21 = some (stripF lit21) := by kernel_rfl
theorem lit22_ok : funcE Tryz.prog 22 = some (stripF lit22) := by kernel_rfl
theorem lit27_ok : funcE Tryz.prog 27 = some (stripF lit27) := by kernel_rfl
theorem lit34_ok : funcE Tryz.prog 34 = some (stripF lit34) := by kernel_rfl
theorem lit36_ok : funcE Tryz.prog 36 = some (stripF lit36) := by kernel_rfl
theorem lit39_ok : funcE Tryz.prog 39 = some (stripF lit39) := by kernel_rfl
theorem lit43_ok : funcE Tryz.prog 43 = some (stripF lit43) := by kernel_rfl
theorem lit44_ok : funcE Tryz.prog 44 = some (stripF lit44) := by kernel_rfl
theorem lit53_ok : funcE Tryz.prog 53 = some (stripF lit53) := by kernel_rfl
theorem lit59_ok : funcE Tryz.prog 59 = some (stripF lit59) := by kernel_rfl
theorem lit61_ok : funcE Tryz.prog 61 = some (stripF lit61) := by kernel_rfl
theorem lit72_ok : funcE Tryz.prog 72 = some (stripF lit72) := by kernel_rfl
theorem lit81_ok : funcE Tryz.prog 81 = some (stripF lit81) := by kernel_rfl
theorem lit87_ok : funcE Tryz.prog 87 = some (stripF lit87) := by kernel_rfl
theorem lit95_ok : funcE Tryz.prog 95 = some (stripF lit95) := by kernel_rfl
theorem lit102_ok : funcE Tryz.prog 102 = some (stripF lit102) := by kernel_rfl
theorem lit105_ok : funcE Tryz.prog 105 = some (stripF lit105) := by kernel_rfl
theorem lit112_ok : funcE Tryz.prog 112 = some (stripF lit112) := by kernel_rfl
theorem lit132_ok : funcE Tryz.prog 132 = some (stripF lit132) := by kernel_rfl
theorem lit137_ok : funcE Tryz.prog 137 = some (stripF lit137) := by kernel_rfl
theorem lit142_ok : funcE Tryz.prog 142 = some (stripF lit142) := by kernel_rfl
theorem lit143_ok : funcE Tryz.prog 143 = some (stripF lit143) := by kernel_rfl
theorem lit157_ok : funcE Tryz.prog 157 = some (stripF lit157) := by kernel_rfl
theorem lit176_ok : funcE Tryz.prog 176 = some (stripF lit176) := by kernel_rfl
theorem lit177_ok : funcE Tryz.prog 177 = some (stripF lit177) := by kernel_rfl
theorem lit183_ok : funcE Tryz.prog 183 = some (stripF lit183) := by kernel_rfl
theorem lit187_ok : funcE Tryz.prog 187 = some (stripF lit187) := by kernel_rfl
theorem lit194_ok : funcE Tryz.prog 194 = some (stripF lit194) := by kernel_rfl
theorem lit196_ok : funcE Tryz.prog 196 = some (stripF lit196) := by kernel_rfl
theorem lit212_ok : funcE Tryz.prog 212 = some (stripF lit212) := by kernel_rfl
theorem lit229_ok : funcE Tryz.prog 229 = some (stripF lit229) := by kernel_rfl
end Go.PE
