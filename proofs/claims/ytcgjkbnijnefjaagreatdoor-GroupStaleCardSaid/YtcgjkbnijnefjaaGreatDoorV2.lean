/- The printed functions are what the compiler lays for the program's own (part 2 of 4). -/
import Derived.Test.YtcgjkbnijnefjaaGreatDoorProg
import Derived.Test.YtcgjkbnijnefjaaGreatDoorL3
import Derived.KernelRfl
namespace Go.PE
open Go.Proofs
set_option maxRecDepth 100000
theorem lit8_ok : funcE Tryz.prog 8 = some (stripF lit8) := by kernel_rfl
theorem lit13_ok : funcE Tryz.prog 13 = some (stripF lit13) := by kernel_rfl
theorem lit18_ok : funcE Tryz.prog 18 = some (stripF lit18) := by kernel_rfl
theorem lit23_ok : funcE Tryz.prog 23 = some (stripF lit23) := by kernel_rfl
theorem lit26_ok : funcE Tryz.prog 26 = some (stripF lit26) := by kernel_rfl
theorem lit29_ok : funcE Tryz.prog 29 = some (stripF lit29) := by kernel_rfl
theorem lit35_ok : funcE Tryz.prog 35 = some (stripF lit35) := by kernel_rfl
theorem lit47_ok : funcE Tryz.prog 47 = some (stripF lit47) := by kernel_rfl
theorem lit50_ok : funcE Tryz.prog 50 = some (stripF lit50) := by kernel_rfl
theorem lit51_ok : funcE Tryz.prog 51 = some (stripF lit51) := by kernel_rfl
theorem lit57_ok : funcE Tryz.prog 57 = some (stripF lit57) := by kernel_rfl
theorem lit62_ok : funcE Tryz.prog 62 = some (stripF lit62) := by kernel_rfl
theorem lit63_ok : funcE Tryz.prog 63 = some (stripF lit63) := by kernel_rfl
theorem lit64_ok : funcE Tryz.prog 64 = some (stripF lit64) := by kernel_rfl
theorem lit65_ok : funcE Tryz.prog 65 = some (stripF lit65) := by kernel_rfl
theorem lit67_ok : funcE Tryz.prog 67 = some (stripF lit67) := by kernel_rfl
theorem lit73_ok : funcE Tryz.prog 73 = some (stripF lit73) := by kernel_rfl
theorem lit75_ok : funcE Tryz.prog 75 = some (stripF lit75) := by kernel_rfl
theorem lit80_ok : funcE Tryz.prog 80 = some (stripF lit80) := by kernel_rfl
theorem lit84_ok : funcE Tryz.prog 84 = some (stripF lit84) := by kernel_rfl
theorem lit93_ok : funcE Tryz.prog 93 = some (stripF lit93) := by kernel_rfl
theorem lit101_ok : funcE Tryz.prog 101 = some (stripF lit101) := by kernel_rfl
theorem lit104_ok : funcE Tryz.prog 104 = some (stripF lit104) := by kernel_rfl
theorem lit111_ok : funcE Tryz.prog 111 = some (stripF lit111) := by kernel_rfl
theorem lit113_ok : funcE Tryz.prog 113 = some (stripF lit113) := by kernel_rfl
theorem lit118_ok : funcE Tryz.prog 118 = some (stripF lit118) := by kernel_rfl
theorem lit123_ok : funcE Tryz.prog 123 = some (stripF lit123) := by kernel_rfl
theorem lit126_ok : funcE Tryz.prog 126 = some (stripF lit126) := by kernel_rfl
theorem lit128_ok : funcE Tryz.prog 128 = some (stripF lit128) := by kernel_rfl
theorem lit133_ok : funcE Tryz.prog 133 = some (stripF lit133) := by kernel_rfl
theorem lit138_ok : funcE Tryz.prog 138 = some (stripF lit138) := by kernel_rfl
theorem lit139_ok : funcE Tryz.prog 139 = some (stripF lit139) := by kernel_rfl
theorem lit140_ok : funcE Tryz.prog 140 = some (stripF lit140) := by kernel_rfl
theorem lit141_ok : funcE Tryz.prog 141 = some (stripF lit141) := by kernel_rfl
theorem lit163_ok : funcE Tryz.prog 163 = some (stripF lit163) := by kernel_rfl
theorem lit174_ok : funcE Tryz.prog 174 = some (stripF lit174) := by kernel_rfl
theorem lit192_ok : funcE Tryz.prog 192 = some (stripF lit192) := by kernel_rfl
theorem lit195_ok : funcE Tryz.prog 195 = some (stripF lit195) := by kernel_rfl
theorem lit200_ok : funcE Tryz.prog 200 = some (stripF lit200) := by kernel_rfl
theorem lit211_ok : funcE Tryz.prog 211 = some (stripF lit211) := by kernel_rfl
end Go.PE
