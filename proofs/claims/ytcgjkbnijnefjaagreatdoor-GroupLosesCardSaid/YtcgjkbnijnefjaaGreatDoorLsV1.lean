/- The printed functions are what the compiler lays for the program's own (part 1 of 4). -/
import Derived.Test.YtcgjkbnijnefjaaGreatDoorProg
import Derived.Test.YtcgjkbnijnefjaaGreatDoorLsL3
import Derived.KernelRfl
namespace Go.PE
open Go.Proofs
set_option maxRecDepth 100000
theorem lit4_ok : funcE Tryz.prog 4 = some (lit4) := by kernel_rfl
theorem lit11_ok : funcE Tryz.prog 11 = some (stripF lit11) := by kernel_rfl
theorem lit21_ok : funcE Tryz.prog 21 = some (stripF lit21) := by kernel_rfl
theorem lit23_ok : funcE Tryz.prog 23 = some (stripF lit23) := by kernel_rfl
theorem lit24_ok : funcE Tryz.prog 24 = some (stripF lit24) := by kernel_rfl
theorem lit30_ok : funcE Tryz.prog 30 = some (stripF lit30) := by kernel_rfl
theorem lit31_ok : funcE Tryz.prog 31 = some (stripF lit31) := by kernel_rfl
theorem lit33_ok : funcE Tryz.prog 33 = some (stripF lit33) := by kernel_rfl
theorem lit37_ok : funcE Tryz.prog 37 = some (stripF lit37) := by kernel_rfl
theorem lit42_ok : funcE Tryz.prog 42 = some (stripF lit42) := by kernel_rfl
theorem lit44_ok : funcE Tryz.prog 44 = some (stripF lit44) := by kernel_rfl
theorem lit45_ok : funcE Tryz.prog 45 = some (stripF lit45) := by kernel_rfl
theorem lit46_ok : funcE Tryz.prog 46 = some (stripF lit46) := by kernel_rfl
theorem lit47_ok : funcE Tryz.prog 47 = some (stripF lit47) := by kernel_rfl
theorem lit52_ok : funcE Tryz.prog 52 = some (stripF lit52) := by kernel_rfl
theorem lit54_ok : funcE Tryz.prog 54 = some (stripF lit54) := by kernel_rfl
theorem lit64_ok : funcE Tryz.prog 64 = some (stripF lit64) := by kernel_rfl
theorem lit67_ok : funcE Tryz.prog 67 = some (stripF lit67) := by kernel_rfl
theorem lit80_ok : funcE Tryz.prog 80 = some (stripF lit80) := by kernel_rfl
theorem lit82_ok : funcE Tryz.prog 82 = some (stripF lit82) := by kernel_rfl
theorem lit83_ok : funcE Tryz.prog 83 = some (stripF lit83) := by kernel_rfl
theorem lit88_ok : funcE Tryz.prog 88 = some (stripF lit88) := by kernel_rfl
theorem lit89_ok : funcE Tryz.prog 89 = some (stripF lit89) := by kernel_rfl
theorem lit98_ok : funcE Tryz.prog 98 = some (stripF lit98) := by kernel_rfl
theorem lit103_ok : funcE Tryz.prog 103 = some (stripF lit103) := by kernel_rfl
theorem lit105_ok : funcE Tryz.prog 105 = some (stripF lit105) := by kernel_rfl
theorem lit108_ok : funcE Tryz.prog 108 = some (stripF lit108) := by kernel_rfl
theorem lit109_ok : funcE Tryz.prog 109 = some (stripF lit109) := by kernel_rfl
theorem lit116_ok : funcE Tryz.prog 116 = some (stripF lit116) := by kernel_rfl
theorem lit123_ok : funcE Tryz.prog 123 = some (stripF lit123) := by kernel_rfl
theorem lit133_ok : funcE Tryz.prog 133 = some (stripF lit133) := by kernel_rfl
theorem lit140_ok : funcE Tryz.prog 140 = some (stripF lit140) := by kernel_rfl
theorem lit141_ok : funcE Tryz.prog 141 = some (stripF lit141) := by kernel_rfl
theorem lit175_ok : funcE Tryz.prog 175 = some (stripF lit175) := by kernel_rfl
theorem lit190_ok : funcE Tryz.prog 190 = some (stripF lit190) := by kernel_rfl
theorem lit195_ok : funcE Tryz.prog 195 = some (stripF lit195) := by kernel_rfl
theorem lit197_ok : funcE Tryz.prog 197 = some (stripF lit197) := by kernel_rfl
theorem lit203_ok : funcE Tryz.prog 203 = some (stripF lit203) := by kernel_rfl
end Go.PE
