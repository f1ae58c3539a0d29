/- The printed functions are what the compiler lays for the program's own (part 4 of 4). -/
import Derived.Test.YtcgjkbnijnefjaaGreatDoorProg
import Derived.Test.YtcgjkbnijnefjaaGreatDoorMvL3
import Derived.KernelRfl
namespace Go.PE
open Go.Proofs
set_option maxRecDepth 100000
theorem lit6_ok : funcE Tryz.prog 6 = some (lit6) := by kernel_rfl
theorem lit8_ok : funcE Tryz.prog 8 = some (stripF lit8) := by kernel_rfl
theorem lit11_ok : funcE Tryz.prog 11 = some (stripF lit11) := by kernel_rfl
theorem lit12_ok : funcE Tryz.prog 12 = some (stripF lit12) := by kernel_rfl
theorem lit13_ok : funcE Tryz.prog 13 = some (stripF lit13) := by kernel_rfl
theorem lit32_ok : funcE Tryz.prog 32 = some (stripF lit32) := by kernel_rfl
theorem lit35_ok : funcE Tryz.prog 35 = some (stripF lit35) := by kernel_rfl
theorem lit36_ok : funcE Tryz.prog 36 = some (stripF lit36) := by kernel_rfl
theorem lit39_ok : funcE Tryz.prog 39 = some (stripF lit39) := by kernel_rfl
theorem lit41_ok : funcE Tryz.prog 41 = some (stripF lit41) := by kernel_rfl
theorem lit44_ok : funcE Tryz.prog 44 = some (stripF lit44) := by kernel_rfl
theorem lit50_ok : funcE Tryz.prog 50 = some (stripF lit50) := by kernel_rfl
theorem lit51_ok : funcE Tryz.prog 51 = some (stripF lit51) := by kernel_rfl
theorem lit55_ok : funcE Tryz.prog 55 = some (stripF lit55) := by kernel_rfl
theorem lit59_ok : funcE Tryz.prog 59 = some (stripF lit59) := by kernel_rfl
theorem lit61_ok : funcE Tryz.prog 61 = some (stripF lit61) := by kernel_rfl
theorem lit63_ok : funcE Tryz.prog 63 = some (stripF lit63) := by kernel_rfl
theorem lit66_ok : funcE Tryz.prog 66 = some (stripF lit66) := by kernel_rfl
theorem lit73_ok : funcE Tryz.prog 73 = some (stripF lit73) := by kernel_rfl
theorem lit75_ok : funcE Tryz.prog 75 = some (stripF lit75) := by kernel_rfl
theorem lit78_ok : funcE Tryz.prog 78 = some (stripF lit78) := by kernel_rfl
theorem lit82_ok : funcE Tryz.prog 82 = some (stripF lit82) := by kernel_rfl
theorem lit85_ok : funcE Tryz.prog 85 = some (stripF lit85) := by kernel_rfl
theorem lit87_ok : funcE Tryz.prog 87 = some (stripF lit87) := by kernel_rfl
theorem lit98_ok : funcE Tryz.prog 98 = some (stripF lit98) := by kernel_rfl
theorem lit102_ok : funcE Tryz.prog 102 = some (stripF lit102) := by kernel_rfl
theorem lit103_ok : funcE Tryz.prog 103 = some (stripF lit103) := by kernel_rfl
theorem lit109_ok : funcE Tryz.prog 109 = some (stripF lit109) := by kernel_rfl
theorem lit111_ok : funcE Tryz.prog 111 = some (stripF lit111) := by kernel_rfl
theorem lit116_ok : funcE Tryz.prog 116 = some (stripF lit116) := by kernel_rfl
theorem lit120_ok : funcE Tryz.prog 120 = some (stripF lit120) := by kernel_rfl
theorem lit123_ok : funcE Tryz.prog 123 = some (stripF lit123) := by kernel_rfl
theorem lit126_ok : funcE Tryz.prog 126 = some (stripF lit126) := by kernel_rfl
theorem lit128_ok : funcE Tryz.prog 128 = some (stripF lit128) := by kernel_rfl
theorem lit142_ok : funcE Tryz.prog 142 = some (stripF lit142) := by kernel_rfl
theorem lit150_ok : funcE Tryz.prog 150 = some (stripF lit150) := by kernel_rfl
theorem lit155_ok : funcE Tryz.prog 155 = some (stripF lit155) := by kernel_rfl
theorem lit156_ok : funcE Tryz.prog 156 = some (stripF lit156) := by kernel_rfl
theorem lit176_ok : funcE Tryz.prog 176 = some (stripF lit176) := by kernel_rfl
theorem lit196_ok : funcE Tryz.prog 196 = some (stripF lit196) := by kernel_rfl
theorem lit197_ok : funcE Tryz.prog 197 = some (stripF lit197) := by kernel_rfl
end Go.PE
