/- The printed functions are what the compiler lays for the program's own (part 3 of 4). -/
import Derived.Test.YtcgjkbnijnefjaaGreatDoorProg
import Derived.Test.YtcgjkbnijnefjaaGreatDoorL3
import Derived.KernelRfl
namespace Go.PE
open Go.Proofs
set_option maxRecDepth 100000
theorem lit15_ok : funcE Tryz.prog 15 = some (stripF lit15) := by kernel_rfl
theorem lit16_ok : funcE Tryz.prog 16 = some (stripF lit16) := by kernel_rfl
theorem lit17_ok : funcE Tryz.prog 17 = some (stripF lit17) := by kernel_rfl
theorem lit25_ok : funcE Tryz.prog 25 = some (stripF lit25) := by kernel_rfl
theorem lit31_ok : funcE Tryz.prog 31 = some (stripF lit31) := by kernel_rfl
theorem lit41_ok : funcE Tryz.prog 41 = some (stripF lit41) := by kernel_rfl
theorem lit52_ok : funcE Tryz.prog 52 = some (stripF lit52) := by kernel_rfl
theorem lit60_ok : funcE Tryz.prog 60 = some (stripF lit60) := by kernel_rfl
theorem lit66_ok : funcE Tryz.prog 66 = some (stripF lit66) := by kernel_rfl
theorem lit68_ok : funcE Tryz.prog 68 = some (stripF lit68) := by kernel_rfl
theorem lit71_ok : funcE Tryz.prog 71 = some (stripF lit71) := by kernel_rfl
theorem lit78_ok : funcE Tryz.prog 78 = some (stripF lit78) := by kernel_rfl
theorem lit85_ok : funcE Tryz.prog 85 = some (stripF lit85) := by kernel_rfl
theorem lit86_ok : funcE Tryz.prog 86 = some (stripF lit86) := by kernel_rfl
theorem lit88_ok : funcE Tryz.prog 88 = some (stripF lit88) := by kernel_rfl
theorem lit89_ok : funcE Tryz.prog 89 = some (stripF lit89) := by kernel_rfl
theorem lit90_ok : funcE Tryz.prog 90 = some (stripF lit90) := by kernel_rfl
theorem lit91_ok : funcE Tryz.prog 91 = some (stripF lit91) := by kernel_rfl
theorem lit92_ok : funcE Tryz.prog 92 = some (stripF lit92) := by kernel_rfl
theorem lit99_ok : funcE Tryz.prog 99 = some (stripF lit99) := by kernel_rfl
theorem lit100_ok : funcE Tryz.prog 100 = some (stripF lit100) := by kernel_rfl
theorem lit103_ok : funcE Tryz.prog 103 = some (stripF lit103) := by kernel_rfl
theorem lit106_ok : funcE Tryz.prog 106 = some (stripF lit106) := by kernel_rfl
theorem lit108_ok : funcE Tryz.prog 108 = some (stripF lit108) := by kernel_rfl
theorem lit110_ok : funcE Tryz.prog 110 = some (stripF lit110) := by kernel_rfl
theorem lit120_ok : funcE Tryz.prog 120 = some (stripF lit120) := by kernel_rfl
theorem lit122_ok : funcE Tryz.prog 122 = some (stripF lit122) := by kernel_rfl
theorem lit127_ok : funcE Tryz.prog 127 = some (stripF lit127) := by kernel_rfl
theorem lit129_ok : funcE Tryz.prog 129 = some (stripF lit129) := by kernel_rfl
theorem lit134_ok : funcE Tryz.prog 134 = some (stripF lit134) := by kernel_rfl
theorem lit135_ok : funcE Tryz.prog 135 = some (stripF lit135) := by kernel_rfl
theorem lit144_ok : funcE Tryz.prog 144 = some (stripF lit144) := by kernel_rfl
theorem lit150_ok : funcE Tryz.prog 150 = some (stripF lit150) := by kernel_rfl
theorem lit156_ok : funcE Tryz.prog 156 = some (stripF lit156) := by kernel_rfl
theorem lit171_ok : funcE Tryz.prog 171 = some (stripF lit171) := by kernel_rfl
theorem lit190_ok : funcE Tryz.prog 190 = some (stripF lit190) := by kernel_rfl
theorem lit191_ok : funcE Tryz.prog 191 = some (stripF lit191) := by kernel_rfl
theorem lit197_ok : funcE Tryz.prog 197 = some (stripF lit197) := by kernel_rfl
theorem lit203_ok : funcE Tryz.prog 203 = some (stripF lit203) := by kernel_rfl
end Go.PE
