/- The printed functions are what the compiler lays for the program's own (part 4 of 4). -/
import Derived.Test.YtcmcijlbmkllpaaGreatDoorProg
import Derived.Test.YtcmcijlbmkllpaaGreatDoorL3
import Derived.Test.YtcmcijlbmkllpaaGreatDoorED
import Derived.KernelRfl
namespace Go.PE
open Go.Proofs
set_option maxRecDepth 100000
theorem lit11_ok : funcE Tryz.prog 11 = some lit11 := by kernel_rfl
theorem lit13_ok : funcE Tryz.prog 13 = some lit13 := by kernel_rfl
theorem lit16_ok : funcE Tryz.prog 16 = some lit16 := by kernel_rfl
theorem lit30_ok : funcE Tryz.prog 30 = some lit30 := by kernel_rfl
theorem lit35_ok : funcE Tryz.prog 35 = some lit35 := by kernel_rfl
theorem lit38_ok : funcE Tryz.prog 38 = some lit38 := by kernel_rfl
theorem lit47_ok : funcE Tryz.prog 47 = some lit47 := by kernel_rfl
theorem lit51_ok : funcE Tryz.prog 51 = some lit51 := by kernel_rfl
theorem lit52_ok : funcE Tryz.prog 52 = some lit52 := by kernel_rfl
theorem lit54_ok : funcE Tryz.prog 54 = some lit54 := by kernel_rfl
theorem lit55_ok : funcE Tryz.prog 55 = some lit55 := by kernel_rfl
theorem lit59_ok : funcE Tryz.prog 59 = some lit59 := by kernel_rfl
theorem lit62_ok : funcE Tryz.prog 62 = some lit62 := by kernel_rfl
theorem lit75_ok : funcE Tryz.prog 75 = some lit75 := by kernel_rfl
theorem lit81_ok : funcE Tryz.prog 81 = some lit81 := by kernel_rfl
theorem lit82_ok : funcE Tryz.prog 82 = some lit82 := by kernel_rfl
theorem lit83_ok : funcE Tryz.prog 83 = some lit83 := by kernel_rfl
theorem lit85_ok : funcE Tryz.prog 85 = some lit85 := by kernel_rfl
theorem lit90_ok : funcE Tryz.prog 90 = some lit90 := by kernel_rfl
theorem lit92_ok : funcE Tryz.prog 92 = some lit92 := by kernel_rfl
theorem lit93_ok : funcE Tryz.prog 93 = some lit93 := by kernel_rfl
theorem lit95_ok : funcE Tryz.prog 95 = some lit95 := by kernel_rfl
theorem lit109_ok : funcE Tryz.prog 109 = some lit109 := by kernel_rfl
theorem lit127_ok : funcE Tryz.prog 127 = some lit127 := by kernel_rfl
theorem lit128_ok : funcE Tryz.prog 128 = some lit128 := by kernel_rfl
theorem lit131_ok : funcE Tryz.prog 131 = some lit131 := by kernel_rfl
theorem lit132_ok : funcE Tryz.prog 132 = some lit132 := by kernel_rfl
theorem lit134_ok : funcE Tryz.prog 134 = some lit134 := by kernel_rfl
theorem lit139_ok : funcE Tryz.prog 139 = some lit139 := by kernel_rfl
theorem lit140_ok : funcE Tryz.prog 140 = some lit140 := by kernel_rfl
theorem lit146_ok : funcE Tryz.prog 146 = some lit146 := by kernel_rfl
theorem lit150_ok : funcE Tryz.prog 150 = some lit150 := by kernel_rfl
theorem lit151_ok : funcE Tryz.prog 151 = some lit151 := by kernel_rfl
theorem lit157_ok : funcE Tryz.prog 157 = some lit157 := by kernel_rfl
theorem lit160_ok : funcE Tryz.prog 160 = some lit160 := by kernel_rfl
theorem lit205_ok : funcE Tryz.prog 205 = some lit205 := by kernel_rfl
theorem lit215_ok : funcE Tryz.prog 215 = some lit215 := by kernel_rfl
theorem lit216_ok : funcE Tryz.prog 216 = some lit216 := by kernel_rfl
theorem lit227_ok : funcE Tryz.prog 227 = some lit227 := by kernel_rfl
end Go.PE
