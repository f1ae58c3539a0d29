/- The printed functions are what the compiler lays for the program's own (part 4 of 4). -/
import Derived.Test.YtcgjkbnijnefjaaGreatDoorProg
import Derived.Test.YtcgjkbnijnefjaaGreatDoorLsL3
import Derived.KernelRfl
namespace Go.PE
open Go.Proofs
set_option maxRecDepth 100000
theorem lit8_ok : funcE Tryz.prog 8 = some (stripF lit8) := by kernel_rfl
theorem lit12_ok : funcE Tryz.prog 12 = some (stripF lit12) := by kernel_rfl
theorem lit17_ok : funcE Tryz.prog 17 = some (stripF lit17) := by kernel_rfl
theorem lit26_ok : funcE Tryz.prog 26 = some (stripF lit26) := by kernel_rfl
theorem lit32_ok : funcE Tryz.prog 32 = some (stripF lit32) := by kernel_rfl
theorem lit38_ok : funcE Tryz.prog 38 = some (stripF lit38) := by kernel_rfl
theorem lit51_ok : funcE Tryz.prog 51 = some (stripF lit51) := by kernel_rfl
theorem lit62_ok : funcE Tryz.prog 62 = some (stripF lit62) := by kernel_rfl
theorem lit63_ok : funcE Tryz.prog 63 = some (stripF lit63) := by kernel_rfl
theorem lit73_ok : funcE Tryz.prog 73 = some (stripF lit73) := by kernel_rfl
theorem lit86_ok : funcE Tryz.prog 86 = some (stripF lit86) := by kernel_rfl
theorem lit87_ok : funcE Tryz.prog 87 = some (stripF lit87) := by kernel_rfl
theorem lit90_ok : funcE Tryz.prog 90 = some (stripF lit90) := by kernel_rfl
theorem lit93_ok : funcE Tryz.prog 93 = some (stripF lit93) := by kernel_rfl
theorem lit95_ok : funcE Tryz.prog 95 = some (stripF lit95) := by kernel_rfl
theorem lit97_ok : funcE Tryz.prog 97 = some (stripF lit97) := by kernel_rfl
theorem lit100_ok : funcE Tryz.prog 100 = some (stripF lit100) := by kernel_rfl
theorem lit113_ok : funcE Tryz.prog 113 = some (stripF lit113) := by kernel_rfl
theorem lit117_ok : funcE Tryz.prog 117 = some (stripF lit117) := by kernel_rfl
theorem lit119_ok : funcE Tryz.prog 119 = some (stripF lit119) := by kernel_rfl
theorem lit120_ok : funcE Tryz.prog 120 = some (stripF lit120) := by kernel_rfl
theorem lit126_ok : funcE Tryz.prog 126 = some (stripF lit126) := by kernel_rfl
theorem lit127_ok : funcE Tryz.prog 127 = some (stripF lit127) := by kernel_rfl
theorem lit134_ok : funcE Tryz.prog 134 = some (stripF lit134) := by kernel_rfl
theorem lit136_ok : funcE Tryz.prog 136 = some (stripF lit136) := by kernel_rfl
theorem lit144_ok : funcE Tryz.prog 144 = some (stripF lit144) := by kernel_rfl
theorem lit150_ok : funcE Tryz.prog 150 = some (stripF lit150) := by kernel_rfl
theorem lit153_ok : funcE Tryz.prog 153 = some (stripF lit153) := by kernel_rfl
theorem lit155_ok : funcE Tryz.prog 155 = some (stripF lit155) := by kernel_rfl
theorem lit158_ok : funcE Tryz.prog 158 = some (stripF lit158) := by kernel_rfl
theorem lit159_ok : funcE Tryz.prog 159 = some (stripF lit159) := by kernel_rfl
theorem lit160_ok : funcE Tryz.prog 160 = some (stripF lit160) := by kernel_rfl
theorem lit167_ok : funcE Tryz.prog 167 = some (stripF lit167) := by kernel_rfl
theorem lit173_ok : funcE Tryz.prog 173 = some (stripF lit173) := by kernel_rfl
theorem lit183_ok : funcE Tryz.prog 183 = some (stripF lit183) := by kernel_rfl
theorem lit191_ok : funcE Tryz.prog 191 = some (stripF lit191) := by kernel_rfl
theorem lit201_ok : funcE Tryz.prog 201 = some (stripF lit201) := by kernel_rfl
theorem lit222_ok : funcE Tryz.prog 222 = some (stripF lit222) := by kernel_rfl
end Go.PE
