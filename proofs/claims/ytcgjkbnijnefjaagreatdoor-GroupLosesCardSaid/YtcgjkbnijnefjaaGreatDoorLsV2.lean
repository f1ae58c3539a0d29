/- The printed functions are what the compiler lays for the program's own (part 2 of 4). -/
import Derived.Test.YtcgjkbnijnefjaaGreatDoorProg
import Derived.Test.YtcgjkbnijnefjaaGreatDoorLsL3
import Derived.KernelRfl
namespace Go.PE
open Go.Proofs
set_option maxRecDepth 100000
theorem lit13_ok : funcE Tryz.prog 13 = some (stripF lit13) := by kernel_rfl
theorem lit25_ok : funcE Tryz.prog 25 = some (stripF lit25) := by kernel_rfl
theorem lit29_ok : funcE Tryz.prog 29 = some (stripF lit29) := by kernel_rfl
theorem lit34_ok : funcE Tryz.prog 34 = some (stripF lit34) := by kernel_rfl
theorem lit35_ok : funcE Tryz.prog 35 = some (stripF lit35) := by kernel_rfl
theorem lit36_ok : funcE Tryz.prog 36 = some (stripF lit36) := by kernel_rfl
theorem lit50_ok : funcE Tryz.prog 50 = some (stripF lit50) := by kernel_rfl
theorem lit53_ok : funcE Tryz.prog 53 = some (stripF lit53) := by kernel_rfl
theorem lit55_ok : funcE Tryz.prog 55 = some (stripF lit55) := by kernel_rfl
theorem lit56_ok : funcE Tryz.prog 56 = some (stripF lit56) := by kernel_rfl
theorem lit59_ok : funcE Tryz.prog 59 = some (stripF lit59) := by kernel_rfl
theorem lit60_ok : funcE Tryz.prog 60 = some (stripF lit60) := by kernel_rfl
theorem lit66_ok : funcE Tryz.prog 66 = some (stripF lit66) := by kernel_rfl
theorem lit68_ok : funcE Tryz.prog 68 = some (stripF lit68) := by kernel_rfl
theorem lit72_ok : funcE Tryz.prog 72 = some (stripF lit72) := by kernel_rfl
theorem lit75_ok : funcE Tryz.prog 75 = some (stripF lit75) := by kernel_rfl
theorem lit79_ok : funcE Tryz.prog 79 = some (stripF lit79) := by kernel_rfl
theorem lit81_ok : funcE Tryz.prog 81 = some (stripF lit81) := by kernel_rfl
theorem lit92_ok : funcE Tryz.prog 92 = some (stripF lit92) := by kernel_rfl
theorem lit94_ok : funcE Tryz.prog 94 = some (stripF lit94) := by kernel_rfl
theorem lit96_ok : funcE Tryz.prog 96 = some (stripF lit96) := by kernel_rfl
theorem lit104_ok : funcE Tryz.prog 104 = some (stripF lit104) := by kernel_rfl
theorem lit107_ok : funcE Tryz.prog 107 = some (stripF lit107) := by kernel_rfl
theorem lit110_ok : funcE Tryz.prog 110 = some (stripF lit110) := by kernel_rfl
theorem lit111_ok : funcE Tryz.prog 111 = some (stripF lit111) := by kernel_rfl
theorem lit112_ok : funcE Tryz.prog 112 = some (stripF lit112) := by kernel_rfl
theorem lit118_ok : funcE Tryz.prog 118 = some (stripF lit118) := by kernel_rfl
theorem lit128_ok : funcE Tryz.prog 128 = some (stripF lit128) := by kernel_rfl
theorem lit132_ok : funcE Tryz.prog 132 = some (stripF lit132) := by kernel_rfl
theorem lit135_ok : funcE Tryz.prog 135 = some (stripF lit135) := by kernel_rfl
theorem lit138_ok : funcE Tryz.prog 138 = some (stripF lit138) := by kernel_rfl
theorem lit142_ok : funcE Tryz.prog 142 = some (stripF lit142) := by kernel_rfl
theorem lit157_ok : funcE Tryz.prog 157 = some (stripF lit157) := by kernel_rfl
theorem lit176_ok : funcE Tryz.prog 176 = some (stripF lit176) := by kernel_rfl
theorem lit177_ok : funcE Tryz.prog 177 = some (stripF lit177) := by kernel_rfl
theorem lit187_ok : funcE Tryz.prog 187 = some (stripF lit187) := by kernel_rfl
theorem lit188_ok : funcE Tryz.prog 188 = some (stripF lit188) := by kernel_rfl
theorem lit211_ok : funcE Tryz.prog 211 = some (stripF lit211) := by kernel_rfl
end Go.PE
