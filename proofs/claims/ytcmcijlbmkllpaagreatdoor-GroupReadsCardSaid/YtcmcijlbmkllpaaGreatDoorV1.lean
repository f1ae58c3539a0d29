/- The printed functions are what the compiler lays for the program's own (part 1 of 4). -/
import Derived.Test.YtcmcijlbmkllpaaGreatDoorProg
import Derived.Test.YtcmcijlbmkllpaaGreatDoorL3
import Derived.Test.YtcmcijlbmkllpaaGreatDoorED
import Derived.KernelRfl
namespace Go.PE
open Go.Proofs
set_option maxRecDepth 100000
theorem lit3_ok : funcE Tryz.prog 3 = some lit3 := by kernel_rfl
theorem lit7_ok : funcE Tryz.prog 7 = some lit7 := by kernel_rfl
theorem lit17_ok : funcE Tryz.prog 17 = some lit17 := by kernel_rfl
theorem lit20_ok : funcE Tryz.prog 20 = some lit20 := by kernel_rfl
theorem lit21_ok : funcE Tryz.prog 21 = some lit21 := by kernel_rfl
theorem lit23_ok : funcE Tryz.prog 23 = some lit23 := by kernel_rfl
theorem lit24_ok : funcE Tryz.prog 24 = some lit24 := by kernel_rfl
theorem lit33_ok : funcE Tryz.prog 33 = some lit33 := by kernel_rfl
theorem lit40_ok : funcE Tryz.prog 40 = some lit40 := by kernel_rfl
theorem lit45_ok : funcE Tryz.prog 45 = some lit45 := by kernel_rfl
theorem lit48_ok : funcE Tryz.prog 48 = some lit48 := by kernel_rfl
theorem lit49_ok : funcE Tryz.prog 49 = some lit49 := by kernel_rfl
theorem lit56_ok : funcE Tryz.prog 56 = some lit56 := by kernel_rfl
theorem lit61_ok : funcE Tryz.prog 61 = some lit61 := by kernel_rfl
theorem lit63_ok : funcE Tryz.prog 63 = some lit63 := by kernel_rfl
theorem lit66_ok : funcE Tryz.prog 66 = some lit66 := by kernel_rfl
theorem lit73_ok : funcE Tryz.prog 73 = some lit73 := by kernel_rfl
theorem lit74_ok : funcE Tryz.prog 74 = some lit74 := by kernel_rfl
theorem lit80_ok : funcE Tryz.prog 80 = some lit80 := by kernel_rfl
theorem lit91_ok : funcE Tryz.prog 91 = some lit91 := by kernel_rfl
theorem lit98_ok : funcE Tryz.prog 98 = some lit98 := by kernel_rfl
theorem lit99_ok : funcE Tryz.prog 99 = some lit99 := by kernel_rfl
theorem lit101_ok : funcE Tryz.prog 101 = some lit101 := by kernel_rfl
theorem lit119_ok : funcE Tryz.prog 119 = some lit119 := by kernel_rfl
theorem lit126_ok : funcE Tryz.prog 126 = some lit126 := by kernel_rfl
theorem lit133_ok : funcE Tryz.prog 133 = some lit133 := by kernel_rfl
theorem lit135_ok : funcE Tryz.prog 135 = some lit135 := by kernel_rfl
theorem lit162_ok : funcE Tryz.prog 162 = some lit162 := by kernel_rfl
theorem lit168_ok : funcE Tryz.prog 168 = some lit168 := by kernel_rfl
theorem lit170_ok : funcE Tryz.prog 170 = some lit170 := by kernel_rfl
theorem lit172_ok : funcE Tryz.prog 172 = some lit172 := by kernel_rfl
theorem lit175_ok : funcE Tryz.prog 175 = some lit175 := by kernel_rfl
theorem lit184_ok : funcE Tryz.prog 184 = some lit184 := by kernel_rfl
theorem lit188_ok : funcE Tryz.prog 188 = some lit188 := by kernel_rfl
theorem lit189_ok : funcE Tryz.prog 189 = some lit189 := by kernel_rfl
theorem lit201_ok : funcE Tryz.prog 201 = some lit201 := by kernel_rfl
theorem lit222_ok : funcE Tryz.prog 222 = some lit222 := by kernel_rfl
theorem lit223_ok : funcE Tryz.prog 223 = some lit223 := by kernel_rfl
end Go.PE
