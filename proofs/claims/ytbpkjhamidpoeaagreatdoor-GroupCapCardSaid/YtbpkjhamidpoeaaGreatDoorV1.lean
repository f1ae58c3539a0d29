/- The printed functions are what the compiler lays for the program's own (part 1 of 4). -/
import Derived.Test.YtbpkjhamidpoeaaGreatDoorProg
import Derived.Test.YtbpkjhamidpoeaaGreatDoorL3
import Derived.Test.YtbpkjhamidpoeaaGreatDoorE24
import Derived.KernelRfl
namespace Go.PE
open Go.Proofs
set_option maxRecDepth 100000
theorem lit3_ok : funcE Tryz.prog 3 = some lit3 := by kernel_rfl
theorem lit7_ok : funcE Tryz.prog 7 = some lit7 := by kernel_rfl
theorem lit9_ok : funcE Tryz.prog 9 = some lit9 := by kernel_rfl
theorem lit10_ok : funcE Tryz.prog 10 = some lit10 := by kernel_rfl
theorem lit20_ok : funcE Tryz.prog 20 = some lit20 := by kernel_rfl
theorem lit23_ok : funcE Tryz.prog 23 = some lit23 := by kernel_rfl
theorem lit26_ok : funcE Tryz.prog 26 = some lit26 := by kernel_rfl
theorem lit27_ok : funcE Tryz.prog 27 = some lit27 := by kernel_rfl
theorem lit37_ok : funcE Tryz.prog 37 = some lit37 := by kernel_rfl
theorem lit38_ok : funcE Tryz.prog 38 = some lit38 := by kernel_rfl
theorem lit39_ok : funcE Tryz.prog 39 = some lit39 := by kernel_rfl
theorem lit45_ok : funcE Tryz.prog 45 = some lit45 := by kernel_rfl
theorem lit46_ok : funcE Tryz.prog 46 = some lit46 := by kernel_rfl
theorem lit60_ok : funcE Tryz.prog 60 = some lit60 := by kernel_rfl
theorem lit61_ok : funcE Tryz.prog 61 = some lit61 := by kernel_rfl
theorem lit62_ok : funcE Tryz.prog 62 = some lit62 := by kernel_rfl
theorem lit64_ok : funcE Tryz.prog 64 = some lit64 := by kernel_rfl
theorem lit68_ok : funcE Tryz.prog 68 = some lit68 := by kernel_rfl
theorem lit70_ok : funcE Tryz.prog 70 = some lit70 := by kernel_rfl
theorem lit76_ok : funcE Tryz.prog 76 = some lit76 := by kernel_rfl
theorem lit78_ok : funcE Tryz.prog 78 = some lit78 := by kernel_rfl
theorem lit79_ok : funcE Tryz.prog 79 = some lit79 := by kernel_rfl
theorem lit95_ok : funcE Tryz.prog 95 = some lit95 := by kernel_rfl
theorem lit100_ok : funcE Tryz.prog 100 = some lit100 := by kernel_rfl
theorem lit107_ok : funcE Tryz.prog 107 = some lit107 := by kernel_rfl
theorem lit111_ok : funcE Tryz.prog 111 = some lit111 := by kernel_rfl
theorem lit129_ok : funcE Tryz.prog 129 = some lit129 := by kernel_rfl
theorem lit133_ok : funcE Tryz.prog 133 = some lit133 := by kernel_rfl
theorem lit135_ok : funcE Tryz.prog 135 = some lit135 := by kernel_rfl
theorem lit144_ok : funcE Tryz.prog 144 = some lit144 := by kernel_rfl
theorem lit149_ok : funcE Tryz.prog 149 = some lit149 := by kernel_rfl
theorem lit159_ok : funcE Tryz.prog 159 = some lit159 := by kernel_rfl
theorem lit170_ok : funcE Tryz.prog 170 = some lit170 := by kernel_rfl
theorem lit179_ok : funcE Tryz.prog 179 = some lit179 := by kernel_rfl
end Go.PE
