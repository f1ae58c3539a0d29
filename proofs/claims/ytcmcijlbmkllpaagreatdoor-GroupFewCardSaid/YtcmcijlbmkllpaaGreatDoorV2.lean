/- The printed functions are what the compiler lays for the program's own (part 2 of 4). -/
import Derived.Test.YtcmcijlbmkllpaaGreatDoorProg
import Derived.Test.YtcmcijlbmkllpaaGreatDoorL3
import Derived.Test.YtcmcijlbmkllpaaGreatDoorED
import Derived.KernelRfl
namespace Go.PE
open Go.Proofs
set_option maxRecDepth 100000
theorem lit6_ok : funcE Tryz.prog 6 = some lit6 := by kernel_rfl
theorem lit8_ok : funcE Tryz.prog 8 = some lit8 := by kernel_rfl
theorem lit9_ok : funcE Tryz.prog 9 = some lit9 := by kernel_rfl
theorem lit15_ok : funcE Tryz.prog 15 = some lit15 := by kernel_rfl
theorem lit17_ok : funcE Tryz.prog 17 = some lit17 := by kernel_rfl
theorem lit18_ok : funcE Tryz.prog 18 = some lit18 := by kernel_rfl
theorem lit23_ok : funcE Tryz.prog 23 = some lit23 := by kernel_rfl
theorem lit31_ok : funcE Tryz.prog 31 = some lit31 := by kernel_rfl
theorem lit37_ok : funcE Tryz.prog 37 = some lit37 := by kernel_rfl
theorem lit38_ok : funcE Tryz.prog 38 = some lit38 := by kernel_rfl
theorem lit53_ok : funcE Tryz.prog 53 = some lit53 := by kernel_rfl
theorem lit56_ok : funcE Tryz.prog 56 = some lit56 := by kernel_rfl
theorem lit60_ok : funcE Tryz.prog 60 = some lit60 := by kernel_rfl
theorem lit64_ok : funcE Tryz.prog 64 = some lit64 := by kernel_rfl
theorem lit68_ok : funcE Tryz.prog 68 = some lit68 := by kernel_rfl
theorem lit72_ok : funcE Tryz.prog 72 = some lit72 := by kernel_rfl
theorem lit73_ok : funcE Tryz.prog 73 = some lit73 := by kernel_rfl
theorem lit79_ok : funcE Tryz.prog 79 = some lit79 := by kernel_rfl
theorem lit84_ok : funcE Tryz.prog 84 = some lit84 := by kernel_rfl
theorem lit86_ok : funcE Tryz.prog 86 = some lit86 := by kernel_rfl
theorem lit95_ok : funcE Tryz.prog 95 = some lit95 := by kernel_rfl
theorem lit108_ok : funcE Tryz.prog 108 = some lit108 := by kernel_rfl
theorem lit117_ok : funcE Tryz.prog 117 = some lit117 := by kernel_rfl
theorem lit126_ok : funcE Tryz.prog 126 = some lit126 := by kernel_rfl
theorem lit128_ok : funcE Tryz.prog 128 = some lit128 := by kernel_rfl
theorem lit136_ok : funcE Tryz.prog 136 = some lit136 := by kernel_rfl
theorem lit140_ok : funcE Tryz.prog 140 = some lit140 := by kernel_rfl
theorem lit152_ok : funcE Tryz.prog 152 = some lit152 := by kernel_rfl
theorem lit154_ok : funcE Tryz.prog 154 = some lit154 := by kernel_rfl
theorem lit158_ok : funcE Tryz.prog 158 = some lit158 := by kernel_rfl
theorem lit161_ok : funcE Tryz.prog 161 = some lit161 := by kernel_rfl
theorem lit162_ok : funcE Tryz.prog 162 = some lit162 := by kernel_rfl
theorem lit170_ok : funcE Tryz.prog 170 = some lit170 := by kernel_rfl
theorem lit174_ok : funcE Tryz.prog 174 = some lit174 := by kernel_rfl
theorem lit188_ok : funcE Tryz.prog 188 = some lit188 := by kernel_rfl
theorem lit191_ok : funcE Tryz.prog 191 = some lit191 := by kernel_rfl
theorem lit196_ok : funcE Tryz.prog 196 = some lit196 := by kernel_rfl
theorem lit216_ok : funcE Tryz.prog 216 = some lit216 := by kernel_rfl
theorem lit223_ok : funcE Tryz.prog 223 = some lit223 := by kernel_rfl
end Go.PE
