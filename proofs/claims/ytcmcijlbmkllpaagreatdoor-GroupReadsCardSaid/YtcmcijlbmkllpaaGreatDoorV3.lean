/- The printed functions are what the compiler lays for the program's own (part 3 of 4). -/
import Derived.Test.YtcmcijlbmkllpaaGreatDoorProg
import Derived.Test.YtcmcijlbmkllpaaGreatDoorL3
import Derived.Test.YtcmcijlbmkllpaaGreatDoorED
import Derived.KernelRfl
namespace Go.PE
open Go.Proofs
set_option maxRecDepth 100000
theorem lit8_ok : funcE Tryz.prog 8 = some lit8 := by kernel_rfl
theorem lit9_ok : funcE Tryz.prog 9 = some lit9 := by kernel_rfl
theorem lit14_ok : funcE Tryz.prog 14 = some lit14 := by kernel_rfl
theorem lit25_ok : funcE Tryz.prog 25 = some lit25 := by kernel_rfl
theorem lit26_ok : funcE Tryz.prog 26 = some lit26 := by kernel_rfl
theorem lit27_ok : funcE Tryz.prog 27 = some lit27 := by kernel_rfl
theorem lit28_ok : funcE Tryz.prog 28 = some lit28 := by kernel_rfl
theorem lit29_ok : funcE Tryz.prog 29 = some lit29 := by kernel_rfl
theorem lit32_ok : funcE Tryz.prog 32 = some lit32 := by kernel_rfl
theorem lit36_ok : funcE Tryz.prog 36 = some lit36 := by kernel_rfl
theorem lit39_ok : funcE Tryz.prog 39 = some lit39 := by kernel_rfl
theorem lit44_ok : funcE Tryz.prog 44 = some lit44 := by kernel_rfl
theorem lit46_ok : funcE Tryz.prog 46 = some lit46 := by kernel_rfl
theorem lit58_ok : funcE Tryz.prog 58 = some lit58 := by kernel_rfl
theorem lit64_ok : funcE Tryz.prog 64 = some lit64 := by kernel_rfl
theorem lit65_ok : funcE Tryz.prog 65 = some lit65 := by kernel_rfl
theorem lit87_ok : funcE Tryz.prog 87 = some lit87 := by kernel_rfl
theorem lit96_ok : funcE Tryz.prog 96 = some lit96 := by kernel_rfl
theorem lit97_ok : funcE Tryz.prog 97 = some lit97 := by kernel_rfl
theorem lit102_ok : funcE Tryz.prog 102 = some lit102 := by kernel_rfl
theorem lit103_ok : funcE Tryz.prog 103 = some lit103 := by kernel_rfl
theorem lit104_ok : funcE Tryz.prog 104 = some lit104 := by kernel_rfl
theorem lit105_ok : funcE Tryz.prog 105 = some lit105 := by kernel_rfl
theorem lit107_ok : funcE Tryz.prog 107 = some lit107 := by kernel_rfl
theorem lit112_ok : funcE Tryz.prog 112 = some lit112 := by kernel_rfl
theorem lit113_ok : funcE Tryz.prog 113 = some lit113 := by kernel_rfl
theorem lit114_ok : funcE Tryz.prog 114 = some lit114 := by kernel_rfl
theorem lit118_ok : funcE Tryz.prog 118 = some lit118 := by kernel_rfl
theorem lit125_ok : funcE Tryz.prog 125 = some lit125 := by kernel_rfl
theorem lit130_ok : funcE Tryz.prog 130 = some lit130 := by kernel_rfl
theorem lit136_ok : funcE Tryz.prog 136 = some lit136 := by kernel_rfl
theorem lit137_ok : funcE Tryz.prog 137 = some lit137 := by kernel_rfl
theorem lit138_ok : funcE Tryz.prog 138 = some lit138 := by kernel_rfl
theorem lit149_ok : funcE Tryz.prog 149 = some lit149 := by kernel_rfl
theorem lit154_ok : funcE Tryz.prog 154 = some lit154 := by kernel_rfl
theorem lit159_ok : funcE Tryz.prog 159 = some lit159 := by kernel_rfl
theorem lit161_ok : funcE Tryz.prog 161 = some lit161 := by kernel_rfl
theorem lit198_ok : funcE Tryz.prog 198 = some lit198 := by kernel_rfl
theorem lit226_ok : funcE Tryz.prog 226 = some lit226 := by kernel_rfl
end Go.PE
