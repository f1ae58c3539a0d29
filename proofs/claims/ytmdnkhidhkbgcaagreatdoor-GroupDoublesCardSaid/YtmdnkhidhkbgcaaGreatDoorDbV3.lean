/- The printed functions are what the compiler lays for the program's own (part 3 of 4). -/
import Derived.Test.YtmdnkhidhkbgcaaGreatDoorProg
import Derived.Test.YtmdnkhidhkbgcaaGreatDoorDbL3
import Derived.KernelRfl
namespace Go.PE
open Go.Proofs
set_option maxRecDepth 100000
theorem lit16_ok : funcE Tryz.prog 16 = some (stripF lit16) := by kernel_rfl
theorem lit17_ok : funcE Tryz.prog 17 = some (stripF lit17) := by kernel_rfl
theorem lit21_ok : funcE Tryz.prog 21 = some (stripF lit21) := by kernel_rfl
theorem lit25_ok : funcE Tryz.prog 25 = some (stripF lit25) := by kernel_rfl
theorem lit26_ok : funcE Tryz.prog 26 = some (stripF lit26) := by kernel_rfl
theorem lit27_ok : funcE Tryz.prog 27 = some (stripF lit27) := by kernel_rfl
theorem lit28_ok : funcE Tryz.prog 28 = some (stripF lit28) := by kernel_rfl
theorem lit33_ok : funcE Tryz.prog 33 = some (stripF lit33) := by kernel_rfl
theorem lit38_ok : funcE Tryz.prog 38 = some (stripF lit38) := by kernel_rfl
theorem lit40_ok : funcE Tryz.prog 40 = some (stripF lit40) := by kernel_rfl
theorem lit47_ok : funcE Tryz.prog 47 = some (stripF lit47) := by kernel_rfl
theorem lit48_ok : funcE Tryz.prog 48 = some (stripF lit48) := by kernel_rfl
theorem lit57_ok : funcE Tryz.prog 57 = some (stripF lit57) := by kernel_rfl
theorem lit62_ok : funcE Tryz.prog 62 = some (stripF lit62) := by kernel_rfl
theorem lit80_ok : funcE Tryz.prog 80 = some (stripF lit80) := by kernel_rfl
theorem lit86_ok : funcE Tryz.prog 86 = some (stripF lit86) := by kernel_rfl
theorem lit89_ok : funcE Tryz.prog 89 = some (stripF lit89) := by kernel_rfl
theorem lit93_ok : funcE Tryz.prog 93 = some (stripF lit93) := by kernel_rfl
theorem lit94_ok : funcE Tryz.prog 94 = some (stripF lit94) := by kernel_rfl
theorem lit102_ok : funcE Tryz.prog 102 = some (stripF lit102) := by kernel_rfl
theorem lit105_ok : funcE Tryz.prog 105 = some (stripF lit105) := by kernel_rfl
theorem lit119_ok : funcE Tryz.prog 119 = some (stripF lit119) := by kernel_rfl
theorem lit120_ok : funcE Tryz.prog 120 = some (stripF lit120) := by kernel_rfl
theorem lit123_ok : funcE Tryz.prog 123 = some (stripF lit123) := by kernel_rfl
theorem lit133_ok : funcE Tryz.prog 133 = some (stripF lit133) := by kernel_rfl
theorem lit134_ok : funcE Tryz.prog 134 = some (stripF lit134) := by kernel_rfl
theorem lit141_ok : funcE Tryz.prog 141 = some (stripF lit141) := by kernel_rfl
theorem lit150_ok : funcE Tryz.prog 150 = some (stripF lit150) := by kernel_rfl
theorem lit159_ok : funcE Tryz.prog 159 = some (stripF lit159) := by kernel_rfl
theorem lit162_ok : funcE Tryz.prog 162 = some (stripF lit162) := by kernel_rfl
theorem lit163_ok : funcE Tryz.prog 163 = some (stripF lit163) := by kernel_rfl
theorem lit167_ok : funcE Tryz.prog 167 = some (stripF lit167) := by kernel_rfl
theorem lit178_ok : funcE Tryz.prog 178 = some (stripF lit178) := by kernel_rfl
theorem lit191_ok : funcE Tryz.prog 191 = some (stripF lit191) := by kernel_rfl
theorem lit193_ok : funcE Tryz.prog 193 = some (stripF lit193) := by kernel_rfl
theorem lit195_ok : funcE Tryz.prog 195 = some (stripF lit195) := by kernel_rfl
theorem lit207_ok : funcE Tryz.prog 207 = some (stripF lit207) := by kernel_rfl
end Go.PE
