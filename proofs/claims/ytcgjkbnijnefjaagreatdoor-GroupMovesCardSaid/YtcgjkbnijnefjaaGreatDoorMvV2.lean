/- The printed functions are what the compiler lays for the program's own (part 2 of 4). -/
import Derived.Test.YtcgjkbnijnefjaaGreatDoorProg
import Derived.Test.YtcgjkbnijnefjaaGreatDoorMvL3
import Derived.KernelRfl
namespace Go.PE
open Go.Proofs
set_option maxRecDepth 100000
theorem lit9_ok : funcE Tryz.prog 9 = some (stripF lit9) := by kernel_rfl
theorem lit10_ok : funcE Tryz.prog 10 = some (stripF lit10) := by kernel_rfl
theorem lit15_ok : funcE Tryz.prog 15 = some (stripF lit15) := by kernel_rfl
theorem lit17_ok : funcE Tryz.prog 17 = some (stripF lit17) := by kernel_rfl
theorem lit18_ok : funcE Tryz.prog 18 = some (stripF lit18) := by kernel_rfl
theorem lit22_ok : funcE Tryz.prog 22 = some (stripF lit22) := by kernel_rfl
theorem lit23_ok : funcE Tryz.prog 23 = some (stripF lit23) := by kernel_rfl
theorem lit24_ok : funcE Tryz.prog 24 = some (stripF lit24) := by kernel_rfl
theorem lit25_ok : funcE Tryz.prog 25 = some (stripF lit25) := by kernel_rfl
theorem lit30_ok : funcE Tryz.prog 30 = some (stripF lit30) := by kernel_rfl
theorem lit40_ok : funcE Tryz.prog 40 = some (stripF lit40) := by kernel_rfl
theorem lit43_ok : funcE Tryz.prog 43 = some (stripF lit43) := by kernel_rfl
theorem lit56_ok : funcE Tryz.prog 56 = some (stripF lit56) := by kernel_rfl
theorem lit57_ok : funcE Tryz.prog 57 = some (stripF lit57) := by kernel_rfl
theorem lit60_ok : funcE Tryz.prog 60 = some (stripF lit60) := by kernel_rfl
theorem lit67_ok : funcE Tryz.prog 67 = some (stripF lit67) := by kernel_rfl
theorem lit72_ok : funcE Tryz.prog 72 = some (stripF lit72) := by kernel_rfl
theorem lit84_ok : funcE Tryz.prog 84 = some (stripF lit84) := by kernel_rfl
theorem lit88_ok : funcE Tryz.prog 88 = some (stripF lit88) := by kernel_rfl
theorem lit91_ok : funcE Tryz.prog 91 = some (stripF lit91) := by kernel_rfl
theorem lit92_ok : funcE Tryz.prog 92 = some (stripF lit92) := by kernel_rfl
theorem lit95_ok : funcE Tryz.prog 95 = some (stripF lit95) := by kernel_rfl
theorem lit99_ok : funcE Tryz.prog 99 = some (stripF lit99) := by kernel_rfl
theorem lit100_ok : funcE Tryz.prog 100 = some (stripF lit100) := by kernel_rfl
theorem lit104_ok : funcE Tryz.prog 104 = some (stripF lit104) := by kernel_rfl
theorem lit105_ok : funcE Tryz.prog 105 = some (stripF lit105) := by kernel_rfl
theorem lit112_ok : funcE Tryz.prog 112 = some (stripF lit112) := by kernel_rfl
theorem lit118_ok : funcE Tryz.prog 118 = some (stripF lit118) := by kernel_rfl
theorem lit131_ok : funcE Tryz.prog 131 = some (stripF lit131) := by kernel_rfl
theorem lit133_ok : funcE Tryz.prog 133 = some (stripF lit133) := by kernel_rfl
theorem lit136_ok : funcE Tryz.prog 136 = some (stripF lit136) := by kernel_rfl
theorem lit138_ok : funcE Tryz.prog 138 = some (stripF lit138) := by kernel_rfl
theorem lit139_ok : funcE Tryz.prog 139 = some (stripF lit139) := by kernel_rfl
theorem lit157_ok : funcE Tryz.prog 157 = some (stripF lit157) := by kernel_rfl
theorem lit167_ok : funcE Tryz.prog 167 = some (stripF lit167) := by kernel_rfl
theorem lit185_ok : funcE Tryz.prog 185 = some (stripF lit185) := by kernel_rfl
theorem lit187_ok : funcE Tryz.prog 187 = some (stripF lit187) := by kernel_rfl
theorem lit192_ok : funcE Tryz.prog 192 = some (stripF lit192) := by kernel_rfl
theorem lit194_ok : funcE Tryz.prog 194 = some (stripF lit194) := by kernel_rfl
theorem lit195_ok : funcE Tryz.prog 195 = some (stripF lit195) := by kernel_rfl
theorem lit203_ok : funcE Tryz.prog 203 = some (stripF lit203) := by kernel_rfl
end Go.PE
