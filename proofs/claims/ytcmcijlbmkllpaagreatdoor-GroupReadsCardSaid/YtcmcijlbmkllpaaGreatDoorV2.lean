/- The printed functions are what the compiler lays for the program's own (part 2 of 4). -/
import Derived.Test.YtcmcijlbmkllpaaGreatDoorProg
import Derived.Test.YtcmcijlbmkllpaaGreatDoorL3
import Derived.Test.YtcmcijlbmkllpaaGreatDoorED
import Derived.KernelRfl
namespace Go.PE
open Go.Proofs
set_option maxRecDepth 100000
theorem lit6_ok : funcE Tryz.prog 6 = some lit6 := by kernel_rfl
theorem lit10_ok : funcE Tryz.prog 10 = some lit10 := by kernel_rfl
theorem lit12_ok : funcE Tryz.prog 12 = some lit12 := by kernel_rfl
theorem lit15_ok : funcE Tryz.prog 15 = some lit15 := by kernel_rfl
theorem lit31_ok : funcE Tryz.prog 31 = some lit31 := by kernel_rfl
theorem lit41_ok : funcE Tryz.prog 41 = some lit41 := by kernel_rfl
theorem lit42_ok : funcE Tryz.prog 42 = some lit42 := by kernel_rfl
theorem lit43_ok : funcE Tryz.prog 43 = some lit43 := by kernel_rfl
theorem lit50_ok : funcE Tryz.prog 50 = some lit50 := by kernel_rfl
theorem lit53_ok : funcE Tryz.prog 53 = some lit53 := by kernel_rfl
theorem lit57_ok : funcE Tryz.prog 57 = some lit57 := by kernel_rfl
theorem lit60_ok : funcE Tryz.prog 60 = some lit60 := by kernel_rfl
theorem lit68_ok : funcE Tryz.prog 68 = some lit68 := by kernel_rfl
theorem lit71_ok : funcE Tryz.prog 71 = some lit71 := by kernel_rfl
theorem lit72_ok : funcE Tryz.prog 72 = some lit72 := by kernel_rfl
theorem lit76_ok : funcE Tryz.prog 76 = some lit76 := by kernel_rfl
theorem lit77_ok : funcE Tryz.prog 77 = some lit77 := by kernel_rfl
theorem lit86_ok : funcE Tryz.prog 86 = some lit86 := by kernel_rfl
theorem lit88_ok : funcE Tryz.prog 88 = some lit88 := by kernel_rfl
theorem lit89_ok : funcE Tryz.prog 89 = some lit89 := by kernel_rfl
theorem lit94_ok : funcE Tryz.prog 94 = some lit94 := by kernel_rfl
theorem lit100_ok : funcE Tryz.prog 100 = some lit100 := by kernel_rfl
theorem lit106_ok : funcE Tryz.prog 106 = some lit106 := by kernel_rfl
theorem lit108_ok : funcE Tryz.prog 108 = some lit108 := by kernel_rfl
theorem lit110_ok : funcE Tryz.prog 110 = some lit110 := by kernel_rfl
theorem lit111_ok : funcE Tryz.prog 111 = some lit111 := by kernel_rfl
theorem lit115_ok : funcE Tryz.prog 115 = some lit115 := by kernel_rfl
theorem lit124_ok : funcE Tryz.prog 124 = some lit124 := by kernel_rfl
theorem lit152_ok : funcE Tryz.prog 152 = some lit152 := by kernel_rfl
theorem lit153_ok : funcE Tryz.prog 153 = some lit153 := by kernel_rfl
theorem lit158_ok : funcE Tryz.prog 158 = some lit158 := by kernel_rfl
theorem lit167_ok : funcE Tryz.prog 167 = some lit167 := by kernel_rfl
theorem lit174_ok : funcE Tryz.prog 174 = some lit174 := by kernel_rfl
theorem lit178_ok : funcE Tryz.prog 178 = some lit178 := by kernel_rfl
theorem lit191_ok : funcE Tryz.prog 191 = some lit191 := by kernel_rfl
theorem lit196_ok : funcE Tryz.prog 196 = some lit196 := by kernel_rfl
theorem lit197_ok : funcE Tryz.prog 197 = some lit197 := by kernel_rfl
theorem lit199_ok : funcE Tryz.prog 199 = some lit199 := by kernel_rfl
theorem lit214_ok : funcE Tryz.prog 214 = some lit214 := by kernel_rfl
end Go.PE
