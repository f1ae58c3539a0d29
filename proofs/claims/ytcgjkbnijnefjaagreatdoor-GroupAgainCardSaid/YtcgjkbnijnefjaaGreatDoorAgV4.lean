/- The printed functions are what the compiler lays for the program's own (part 4 of 4). -/
import Derived.Test.YtcgjkbnijnefjaaGreatDoorProg
import Derived.Test.YtcgjkbnijnefjaaGreatDoorAgL3
import Derived.KernelRfl
namespace Go.PE
open Go.Proofs
set_option maxRecDepth 100000
theorem lit9_ok : funcE Tryz.prog 9 = some (stripF lit9) := by kernel_rfl
theorem lit22_ok : funcE Tryz.prog 22 = some (stripF lit22) := by kernel_rfl
theorem lit24_ok : funcE Tryz.prog 24 = some (stripF lit24) := by kernel_rfl
theorem lit30_ok : funcE Tryz.prog 30 = some (stripF lit30) := by kernel_rfl
theorem lit32_ok : funcE Tryz.prog 32 = some (stripF lit32) := by kernel_rfl
theorem lit33_ok : funcE Tryz.prog 33 = some (stripF lit33) := by kernel_rfl
theorem lit38_ok : funcE Tryz.prog 38 = some (stripF lit38) := by kernel_rfl
theorem lit44_ok : funcE Tryz.prog 44 = some (stripF lit44) := by kernel_rfl
theorem lit45_ok : funcE Tryz.prog 45 = some (stripF lit45) := by kernel_rfl
theorem lit53_ok : funcE Tryz.prog 53 = some (stripF lit53) := by kernel_rfl
theorem lit63_ok : funcE Tryz.prog 63 = some (stripF lit63) := by kernel_rfl
theorem lit71_ok : funcE Tryz.prog 71 = some (stripF lit71) := by kernel_rfl
theorem lit73_ok : funcE Tryz.prog 73 = some (stripF lit73) := by kernel_rfl
theorem lit75_ok : funcE Tryz.prog 75 = some (stripF lit75) := by kernel_rfl
theorem lit80_ok : funcE Tryz.prog 80 = some (stripF lit80) := by kernel_rfl
theorem lit82_ok : funcE Tryz.prog 82 = some (stripF lit82) := by kernel_rfl
theorem lit88_ok : funcE Tryz.prog 88 = some (stripF lit88) := by kernel_rfl
theorem lit90_ok : funcE Tryz.prog 90 = some (stripF lit90) := by kernel_rfl
theorem lit93_ok : funcE Tryz.prog 93 = some (stripF lit93) := by kernel_rfl
theorem lit97_ok : funcE Tryz.prog 97 = some (stripF lit97) := by kernel_rfl
theorem lit104_ok : funcE Tryz.prog 104 = some (stripF lit104) := by kernel_rfl
theorem lit110_ok : funcE Tryz.prog 110 = some (stripF lit110) := by kernel_rfl
theorem lit111_ok : funcE Tryz.prog 111 = some (stripF lit111) := by kernel_rfl
theorem lit117_ok : funcE Tryz.prog 117 = some (stripF lit117) := by kernel_rfl
theorem lit118_ok : funcE Tryz.prog 118 = some (stripF lit118) := by kernel_rfl
theorem lit119_ok : funcE Tryz.prog 119 = some (stripF lit119) := by kernel_rfl
theorem lit123_ok : funcE Tryz.prog 123 = some (stripF lit123) := by kernel_rfl
theorem lit128_ok : funcE Tryz.prog 128 = some (stripF lit128) := by kernel_rfl
theorem lit129_ok : funcE Tryz.prog 129 = some (stripF lit129) := by kernel_rfl
theorem lit134_ok : funcE Tryz.prog 134 = some (stripF lit134) := by kernel_rfl
theorem lit150_ok : funcE Tryz.prog 150 = some (stripF lit150) := by kernel_rfl
theorem lit153_ok : funcE Tryz.prog 153 = some (stripF lit153) := by kernel_rfl
theorem lit155_ok : funcE Tryz.prog 155 = some (stripF lit155) := by kernel_rfl
theorem lit158_ok : funcE Tryz.prog 158 = some (stripF lit158) := by kernel_rfl
theorem lit163_ok : funcE Tryz.prog 163 = some (stripF lit163) := by kernel_rfl
theorem lit165_ok : funcE Tryz.prog 165 = some (stripF lit165) := by kernel_rfl
theorem lit171_ok : funcE Tryz.prog 171 = some (stripF lit171) := by kernel_rfl
theorem lit194_ok : funcE Tryz.prog 194 = some (stripF lit194) := by kernel_rfl
theorem lit202_ok : funcE Tryz.prog 202 = some (stripF lit202) := by kernel_rfl
end Go.PE
