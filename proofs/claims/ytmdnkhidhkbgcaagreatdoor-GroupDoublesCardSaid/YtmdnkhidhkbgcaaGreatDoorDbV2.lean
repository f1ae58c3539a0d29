/- The printed functions are what the compiler lays for the program's own (part 2 of 4). -/
import Derived.Test.YtmdnkhidhkbgcaaGreatDoorProg
import Derived.Test.YtmdnkhidhkbgcaaGreatDoorDbL3
import Derived.KernelRfl
namespace Go.PE
open Go.Proofs
set_option maxRecDepth 100000
theorem lit9_ok : funcE Tryz.prog 9 = some (stripF lit9) := by kernel_rfl
theorem lit18_ok : funcE Tryz.prog 18 = some (stripF lit18) := by kernel_rfl
theorem lit23_ok : funcE Tryz.prog 23 = some (stripF lit23) := by kernel_rfl
theorem lit29_ok : funcE Tryz.prog 29 = some (stripF lit29) := by kernel_rfl
theorem lit30_ok : funcE Tryz.prog 30 = some (stripF lit30) := by kernel_rfl
theorem lit31_ok : funcE Tryz.prog 31 = some (stripF lit31) := by kernel_rfl
theorem lit34_ok : funcE Tryz.prog 34 = some (stripF lit34) := by kernel_rfl
theorem lit35_ok : funcE Tryz.prog 35 = some (stripF lit35) := by kernel_rfl
theorem lit41_ok : funcE Tryz.prog 41 = some (stripF lit41) := by kernel_rfl
theorem lit49_ok : funcE Tryz.prog 49 = some (stripF lit49) := by kernel_rfl
theorem lit50_ok : funcE Tryz.prog 50 = some (stripF lit50) := by kernel_rfl
theorem lit51_ok : funcE Tryz.prog 51 = some (stripF lit51) := by kernel_rfl
theorem lit60_ok : funcE Tryz.prog 60 = some (stripF lit60) := by kernel_rfl
theorem lit61_ok : funcE Tryz.prog 61 = some (stripF lit61) := by kernel_rfl
theorem lit64_ok : funcE Tryz.prog 64 = some (stripF lit64) := by kernel_rfl
theorem lit73_ok : funcE Tryz.prog 73 = some (stripF lit73) := by kernel_rfl
theorem lit74_ok : funcE Tryz.prog 74 = some (stripF lit74) := by kernel_rfl
theorem lit76_ok : funcE Tryz.prog 76 = some (stripF lit76) := by kernel_rfl
theorem lit79_ok : funcE Tryz.prog 79 = some (stripF lit79) := by kernel_rfl
theorem lit87_ok : funcE Tryz.prog 87 = some (stripF lit87) := by kernel_rfl
theorem lit90_ok : funcE Tryz.prog 90 = some (stripF lit90) := by kernel_rfl
theorem lit95_ok : funcE Tryz.prog 95 = some (stripF lit95) := by kernel_rfl
theorem lit96_ok : funcE Tryz.prog 96 = some (stripF lit96) := by kernel_rfl
theorem lit97_ok : funcE Tryz.prog 97 = some (stripF lit97) := by kernel_rfl
theorem lit101_ok : funcE Tryz.prog 101 = some (stripF lit101) := by kernel_rfl
theorem lit112_ok : funcE Tryz.prog 112 = some (stripF lit112) := by kernel_rfl
theorem lit115_ok : funcE Tryz.prog 115 = some (stripF lit115) := by kernel_rfl
theorem lit116_ok : funcE Tryz.prog 116 = some (stripF lit116) := by kernel_rfl
theorem lit118_ok : funcE Tryz.prog 118 = some (stripF lit118) := by kernel_rfl
theorem lit126_ok : funcE Tryz.prog 126 = some (stripF lit126) := by kernel_rfl
theorem lit129_ok : funcE Tryz.prog 129 = some (stripF lit129) := by kernel_rfl
theorem lit130_ok : funcE Tryz.prog 130 = some (stripF lit130) := by kernel_rfl
theorem lit132_ok : funcE Tryz.prog 132 = some (stripF lit132) := by kernel_rfl
theorem lit145_ok : funcE Tryz.prog 145 = some (stripF lit145) := by kernel_rfl
theorem lit146_ok : funcE Tryz.prog 146 = some (stripF lit146) := by kernel_rfl
theorem lit181_ok : funcE Tryz.prog 181 = some (stripF lit181) := by kernel_rfl
theorem lit198_ok : funcE Tryz.prog 198 = some (stripF lit198) := by kernel_rfl
end Go.PE
