/- The printed functions are what the compiler lays for the program's own (part 2 of 4). -/
import Derived.Test.YtcgjkbnijnefjaaGreatDoorProg
import Derived.Test.YtcgjkbnijnefjaaGreatDoorAgL3
import Derived.KernelRfl
namespace Go.PE
open Go.Proofs
set_option maxRecDepth 100000
theorem lit10_ok : funcE Tryz.prog 10 = some (stripF lit10) := by kernel_rfl
theorem lit14_ok : funcE Tryz.prog 14 = some (stripF lit14) := by kernel_rfl
theorem lit15_ok : funcE Tryz.prog 15 = some (stripF lit15) := by kernel_rfl
theorem lit16_ok : funcE Tryz.prog 16 = some (stripF lit16) := by kernel_rfl
theorem lit25_ok : funcE Tryz.prog 25 = some (stripF lit25) := by kernel_rfl
theorem lit26_ok : funcE Tryz.prog 26 = some (stripF lit26) := by kernel_rfl
theorem lit39_ok : funcE Tryz.prog 39 = some (stripF lit39) := by kernel_rfl
theorem lit40_ok : funcE Tryz.prog 40 = some (stripF lit40) := by kernel_rfl
theorem lit42_ok : funcE Tryz.prog 42 = some (stripF lit42) := by kernel_rfl
theorem lit50_ok : funcE Tryz.prog 50 = some (stripF lit50) := by kernel_rfl
theorem lit51_ok : funcE Tryz.prog 51 = some (stripF lit51) := by kernel_rfl
theorem lit56_ok : funcE Tryz.prog 56 = some (stripF lit56) := by kernel_rfl
theorem lit68_ok : funcE Tryz.prog 68 = some (stripF lit68) := by kernel_rfl
theorem lit72_ok : funcE Tryz.prog 72 = some (stripF lit72) := by kernel_rfl
theorem lit81_ok : funcE Tryz.prog 81 = some (stripF lit81) := by kernel_rfl
theorem lit86_ok : funcE Tryz.prog 86 = some (stripF lit86) := by kernel_rfl
theorem lit91_ok : funcE Tryz.prog 91 = some (stripF lit91) := by kernel_rfl
theorem lit95_ok : funcE Tryz.prog 95 = some (stripF lit95) := by kernel_rfl
theorem lit103_ok : funcE Tryz.prog 103 = some (stripF lit103) := by kernel_rfl
theorem lit105_ok : funcE Tryz.prog 105 = some (stripF lit105) := by kernel_rfl
theorem lit107_ok : funcE Tryz.prog 107 = some (stripF lit107) := by kernel_rfl
theorem lit112_ok : funcE Tryz.prog 112 = some (stripF lit112) := by kernel_rfl
theorem lit124_ok : funcE Tryz.prog 124 = some (stripF lit124) := by kernel_rfl
theorem lit126_ok : funcE Tryz.prog 126 = some (stripF lit126) := by kernel_rfl
theorem lit127_ok : funcE Tryz.prog 127 = some (stripF lit127) := by kernel_rfl
theorem lit130_ok : funcE Tryz.prog 130 = some (stripF lit130) := by kernel_rfl
theorem lit136_ok : funcE Tryz.prog 136 = some (stripF lit136) := by kernel_rfl
theorem lit137_ok : funcE Tryz.prog 137 = some (stripF lit137) := by kernel_rfl
theorem lit140_ok : funcE Tryz.prog 140 = some (stripF lit140) := by kernel_rfl
theorem lit142_ok : funcE Tryz.prog 142 = some (stripF lit142) := by kernel_rfl
theorem lit156_ok : funcE Tryz.prog 156 = some (stripF lit156) := by kernel_rfl
theorem lit167_ok : funcE Tryz.prog 167 = some (stripF lit167) := by kernel_rfl
theorem lit187_ok : funcE Tryz.prog 187 = some (stripF lit187) := by kernel_rfl
theorem lit191_ok : funcE Tryz.prog 191 = some (stripF lit191) := by kernel_rfl
theorem lit192_ok : funcE Tryz.prog 192 = some (stripF lit192) := by kernel_rfl
theorem lit196_ok : funcE Tryz.prog 196 = some (stripF lit196) := by kernel_rfl
theorem lit211_ok : funcE Tryz.prog 211 = some (stripF lit211) := by kernel_rfl
theorem lit212_ok : funcE Tryz.prog 212 = some (stripF lit212) := by kernel_rfl
theorem lit222_ok : funcE Tryz.prog 222 = some (stripF lit222) := by kernel_rfl
end Go.PE
