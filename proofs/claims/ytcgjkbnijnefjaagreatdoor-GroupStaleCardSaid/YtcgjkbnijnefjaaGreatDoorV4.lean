/- The printed functions are what the compiler lays for the program's own (part 4 of 4). -/
import Derived.Test.YtcgjkbnijnefjaaGreatDoorProg
import Derived.Test.YtcgjkbnijnefjaaGreatDoorL3
import Derived.KernelRfl
namespace Go.PE
open Go.Proofs
set_option maxRecDepth 100000
theorem lit24_ok : funcE Tryz.prog 24 = some (stripF lit24) := by kernel_rfl
theorem lit30_ok : funcE Tryz.prog 30 = some (stripF lit30) := by kernel_rfl
theorem lit32_ok : funcE Tryz.prog 32 = some (stripF lit32) := by kernel_rfl
theorem lit33_ok : funcE Tryz.prog 33 = some (stripF lit33) := by kernel_rfl
theorem lit37_ok : funcE Tryz.prog 37 = some (stripF lit37) := by kernel_rfl
theorem lit38_ok : funcE Tryz.prog 38 = some (stripF lit38) := by kernel_rfl
theorem lit40_ok : funcE Tryz.prog 40 = some (stripF lit40) := by kernel_rfl
theorem lit42_ok : funcE Tryz.prog 42 = some (stripF lit42) := by kernel_rfl
theorem lit45_ok : funcE Tryz.prog 45 = some (stripF lit45) := by kernel_rfl
theorem lit54_ok : funcE Tryz.prog 54 = some (stripF lit54) := by kernel_rfl
theorem lit55_ok : funcE Tryz.prog 55 = some (stripF lit55) := by kernel_rfl
theorem lit56_ok : funcE Tryz.prog 56 = some (stripF lit56) := by kernel_rfl
theorem lit58_ok : funcE Tryz.prog 58 = some (stripF lit58) := by kernel_rfl
theorem lit79_ok : funcE Tryz.prog 79 = some (stripF lit79) := by kernel_rfl
theorem lit82_ok : funcE Tryz.prog 82 = some (stripF lit82) := by kernel_rfl
theorem lit83_ok : funcE Tryz.prog 83 = some (stripF lit83) := by kernel_rfl
theorem lit94_ok : funcE Tryz.prog 94 = some (stripF lit94) := by kernel_rfl
theorem lit96_ok : funcE Tryz.prog 96 = some (stripF lit96) := by kernel_rfl
theorem lit97_ok : funcE Tryz.prog 97 = some (stripF lit97) := by kernel_rfl
theorem lit98_ok : funcE Tryz.prog 98 = some (stripF lit98) := by kernel_rfl
theorem lit107_ok : funcE Tryz.prog 107 = some (stripF lit107) := by kernel_rfl
theorem lit109_ok : funcE Tryz.prog 109 = some (stripF lit109) := by kernel_rfl
theorem lit114_ok : funcE Tryz.prog 114 = some (stripF lit114) := by kernel_rfl
theorem lit116_ok : funcE Tryz.prog 116 = some (stripF lit116) := by kernel_rfl
theorem lit117_ok : funcE Tryz.prog 117 = some (stripF lit117) := by kernel_rfl
theorem lit119_ok : funcE Tryz.prog 119 = some (stripF lit119) := by kernel_rfl
theorem lit124_ok : funcE Tryz.prog 124 = some (stripF lit124) := by kernel_rfl
theorem lit136_ok : funcE Tryz.prog 136 = some (stripF lit136) := by kernel_rfl
theorem lit153_ok : funcE Tryz.prog 153 = some (stripF lit153) := by kernel_rfl
theorem lit154_ok : funcE Tryz.prog 154 = some (stripF lit154) := by kernel_rfl
theorem lit155_ok : funcE Tryz.prog 155 = some (stripF lit155) := by kernel_rfl
theorem lit160_ok : funcE Tryz.prog 160 = some (stripF lit160) := by kernel_rfl
theorem lit167_ok : funcE Tryz.prog 167 = some (stripF lit167) := by kernel_rfl
theorem lit172_ok : funcE Tryz.prog 172 = some (stripF lit172) := by kernel_rfl
theorem lit173_ok : funcE Tryz.prog 173 = some (stripF lit173) := by kernel_rfl
theorem lit175_ok : funcE Tryz.prog 175 = some (stripF lit175) := by kernel_rfl
theorem lit193_ok : funcE Tryz.prog 193 = some (stripF lit193) := by kernel_rfl
theorem lit201_ok : funcE Tryz.prog 201 = some (stripF lit201) := by kernel_rfl
theorem lit202_ok : funcE Tryz.prog 202 = some (stripF lit202) := by kernel_rfl
theorem lit222_ok : funcE Tryz.prog 222 = some (stripF lit222) := by kernel_rfl
end Go.PE
