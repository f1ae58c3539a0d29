/- The printed functions are what the compiler lays for the program's own (part 1 of 4). -/
import Derived.Test.YtcmcijlbmkllpaaGreatDoorProg
import Derived.Test.YtcmcijlbmkllpaaGreatDoorL3
import Derived.Test.YtcmcijlbmkllpaaGreatDoorED
import Derived.KernelRfl
namespace Go.PE
open Go.Proofs
set_option maxRecDepth 100000
theorem lit5_ok : funcE Tryz.prog 5 = some lit5 := by kernel_rfl
theorem lit22_ok : funcE Tryz.prog 22 = some lit22 := by kernel_rfl
theorem lit26_ok : funcE Tryz.prog 26 = some lit26 := by kernel_rfl
theorem lit30_ok : funcE Tryz.prog 30 = some lit30 := by kernel_rfl
theorem lit35_ok : funcE Tryz.prog 35 = some lit35 := by kernel_rfl
theorem lit43_ok : funcE Tryz.prog 43 = some lit43 := by kernel_rfl
theorem lit44_ok : funcE Tryz.prog 44 = some lit44 := by kernel_rfl
theorem lit45_ok : funcE Tryz.prog 45 = some lit45 := by kernel_rfl
theorem lit46_ok : funcE Tryz.prog 46 = some lit46 := by kernel_rfl
theorem lit50_ok : funcE Tryz.prog 50 = some lit50 := by kernel_rfl
theorem lit51_ok : funcE Tryz.prog 51 = some lit51 := by kernel_rfl
theorem lit54_ok : funcE Tryz.prog 54 = some lit54 := by kernel_rfl
theorem lit55_ok : funcE Tryz.prog 55 = some lit55 := by kernel_rfl
theorem lit58_ok : funcE Tryz.prog 58 = some lit58 := by kernel_rfl
theorem lit61_ok : funcE Tryz.prog 61 = some lit61 := by kernel_rfl
theorem lit66_ok : funcE Tryz.prog 66 = some lit66 := by kernel_rfl
theorem lit71_ok : funcE Tryz.prog 71 = some lit71 := by kernel_rfl
theorem lit83_ok : funcE Tryz.prog 83 = some lit83 := by kernel_rfl
theorem lit85_ok : funcE Tryz.prog 85 = some lit85 := by kernel_rfl
theorem lit87_ok : funcE Tryz.prog 87 = some lit87 := by kernel_rfl
theorem lit88_ok : funcE Tryz.prog 88 = some lit88 := by kernel_rfl
theorem lit101_ok : funcE Tryz.prog 101 = some lit101 := by kernel_rfl
theorem lit104_ok : funcE Tryz.prog 104 = some lit104 := by kernel_rfl
theorem lit105_ok : funcE Tryz.prog 105 = some lit105 := by kernel_rfl
theorem lit106_ok : funcE Tryz.prog 106 = some lit106 := by kernel_rfl
theorem lit111_ok : funcE Tryz.prog 111 = some lit111 := by kernel_rfl
theorem lit114_ok : funcE Tryz.prog 114 = some lit114 := by kernel_rfl
theorem lit127_ok : funcE Tryz.prog 127 = some lit127 := by kernel_rfl
theorem lit133_ok : funcE Tryz.prog 133 = some lit133 := by kernel_rfl
theorem lit134_ok : funcE Tryz.prog 134 = some lit134 := by kernel_rfl
theorem lit139_ok : funcE Tryz.prog 139 = some lit139 := by kernel_rfl
theorem lit149_ok : funcE Tryz.prog 149 = some lit149 := by kernel_rfl
theorem lit153_ok : funcE Tryz.prog 153 = some lit153 := by kernel_rfl
theorem lit167_ok : funcE Tryz.prog 167 = some lit167 := by kernel_rfl
theorem lit168_ok : funcE Tryz.prog 168 = some lit168 := by kernel_rfl
theorem lit172_ok : funcE Tryz.prog 172 = some lit172 := by kernel_rfl
theorem lit198_ok : funcE Tryz.prog 198 = some lit198 := by kernel_rfl
theorem lit222_ok : funcE Tryz.prog 222 = some lit222 := by kernel_rfl
theorem lit226_ok : funcE Tryz.prog 226 = some lit226 := by kernel_rfl
theorem lit227_ok : funcE Tryz.prog 227 = some lit227 := by kernel_rfl
end Go.PE
