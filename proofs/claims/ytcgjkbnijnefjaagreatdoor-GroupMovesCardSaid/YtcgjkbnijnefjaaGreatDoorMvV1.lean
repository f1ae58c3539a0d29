/- The printed functions are what the compiler lays for the program's own (part 1 of 4). -/
import Derived.Test.YtcgjkbnijnefjaaGreatDoorProg
import Derived.Test.YtcgjkbnijnefjaaGreatDoorMvL3
import Derived.KernelRfl
namespace Go.PE
open Go.Proofs
set_option maxRecDepth 100000
theorem lit16_ok : funcE Tryz.prog 16 = some (stripF lit16) := by kernel_rfl
theorem lit20_ok : funcE Tryz.prog 20 = some (stripF lit20) := by kernel_rfl
theorem lit26_ok : funcE Tryz.prog 26 = some (stripF lit26) := by kernel_rfl
theorem lit28_ok : funcE Tryz.prog 28 = some (stripF lit28) := by kernel_rfl
theorem lit33_ok : funcE Tryz.prog 33 = some (stripF lit33) := by kernel_rfl
theorem lit38_ok : funcE Tryz.prog 38 = some (stripF lit38) := by kernel_rfl
theorem lit62_ok : funcE Tryz.prog 62 = some (stripF lit62) := by kernel_rfl
theorem lit65_ok : funcE Tryz.prog 65 = some (stripF lit65) := by kernel_rfl
theorem lit68_ok : funcE Tryz.prog 68 = some (stripF lit68) := by kernel_rfl
theorem lit79_ok : funcE Tryz.prog 79 = some (stripF lit79) := by kernel_rfl
theorem lit80_ok : funcE Tryz.prog 80 = some (stripF lit80) := by kernel_rfl
theorem lit81_ok : funcE Tryz.prog 81 = some (stripF lit81) := by kernel_rfl
theorem lit86_ok : funcE Tryz.prog 86 = some (stripF lit86) := by kernel_rfl
theorem lit96_ok : funcE Tryz.prog 96 = some (stripF lit96) := by kernel_rfl
theorem lit97_ok : funcE Tryz.prog 97 = some (stripF lit97) := by kernel_rfl
theorem lit101_ok : funcE Tryz.prog 101 = some (stripF lit101) := by kernel_rfl
theorem lit106_ok : funcE Tryz.prog 106 = some (stripF lit106) := by kernel_rfl
theorem lit107_ok : funcE Tryz.prog 107 = some (stripF lit107) := by kernel_rfl
theorem lit110_ok : funcE Tryz.prog 110 = some (stripF lit110) := by kernel_rfl
theorem lit117_ok : funcE Tryz.prog 117 = some (stripF lit117) := by kernel_rfl
theorem lit119_ok : funcE Tryz.prog 119 = some (stripF lit119) := by kernel_rfl
theorem lit122_ok : funcE Tryz.prog 122 = some (stripF lit122) := by kernel_rfl
theorem lit127_ok : funcE Tryz.prog 127 = some (stripF lit127) := by kernel_rfl
theorem lit129_ok : funcE Tryz.prog 129 = some (stripF lit129) := by kernel_rfl
theorem lit132_ok : funcE Tryz.prog 132 = some (stripF lit132) := by kernel_rfl
theorem lit135_ok : funcE Tryz.prog 135 = some (stripF lit135) := by kernel_rfl
theorem lit137_ok : funcE Tryz.prog 137 = some (stripF lit137) := by kernel_rfl
theorem lit140_ok : funcE Tryz.prog 140 = some (stripF lit140) := by kernel_rfl
theorem lit143_ok : funcE Tryz.prog 143 = some (stripF lit143) := by kernel_rfl
theorem lit154_ok : funcE Tryz.prog 154 = some (stripF lit154) := by kernel_rfl
theorem lit163_ok : funcE Tryz.prog 163 = some (stripF lit163) := by kernel_rfl
theorem lit165_ok : funcE Tryz.prog 165 = some (stripF lit165) := by kernel_rfl
theorem lit166_ok : funcE Tryz.prog 166 = some (stripF lit166) := by kernel_rfl
theorem lit174_ok : funcE Tryz.prog 174 = some (stripF lit174) := by kernel_rfl
theorem lit175_ok : funcE Tryz.prog 175 = some (stripF lit175) := by kernel_rfl
theorem lit186_ok : funcE Tryz.prog 186 = some (stripF lit186) := by kernel_rfl
theorem lit200_ok : funcE Tryz.prog 200 = some (stripF lit200) := by kernel_rfl
theorem lit201_ok : funcE Tryz.prog 201 = some (stripF lit201) := by kernel_rfl
theorem lit212_ok : funcE Tryz.prog 212 = some (stripF lit212) := by kernel_rfl
theorem lit222_ok : funcE Tryz.prog 222 = some (stripF lit222) := by kernel_rfl
end Go.PE
