/- The printed functions are what the compiler lays for the program's own (part 4 of 4). -/
import Derived.Test.YtcgjkbnijnefjaaGreatDoorProg
import Derived.Test.YtcgjkbnijnefjaaGreatDoorSrL3
import Derived.KernelRfl
namespace Go.PE
open Go.Proofs
set_option maxRecDepth 100000
theorem lit12_ok : funcE Tryz.prog 12 = some (stripF lit12) := by kernel_rfl
theorem lit15_ok : funcE Tryz.prog 15 = some (stripF lit15) := by kernel_rfl
theorem lit18_ok : funcE Tryz.prog 18 = some (stripF lit18) := by kernel_rfl
theorem lit26_ok : funcE Tryz.prog 26 = some (stripF lit26) := by kernel_rfl
theorem lit35_ok : funcE Tryz.prog 35 = some (stripF lit35) := by kernel_rfl
theorem lit39_ok : funcE Tryz.prog 39 = some (stripF lit39) := by kernel_rfl
theorem lit45_ok : funcE Tryz.prog 45 = some (stripF lit45) := by kernel_rfl
theorem lit51_ok : funcE Tryz.prog 51 = some (stripF lit51) := by kernel_rfl
theorem lit55_ok : funcE Tryz.prog 55 = some (stripF lit55) := by kernel_rfl
theorem lit60_ok : funcE Tryz.prog 60 = some (stripF lit60) := by kernel_rfl
theorem lit61_ok : funcE Tryz.prog 61 = some (stripF lit61) := by kernel_rfl
theorem lit62_ok : funcE Tryz.prog 62 = some (stripF lit62) := by kernel_rfl
theorem lit66_ok : funcE Tryz.prog 66 = some (stripF lit66) := by kernel_rfl
theorem lit75_ok : funcE Tryz.prog 75 = some (stripF lit75) := by kernel_rfl
theorem lit81_ok : funcE Tryz.prog 81 = some (stripF lit81) := by kernel_rfl
theorem lit86_ok : funcE Tryz.prog 86 = some (stripF lit86) := by kernel_rfl
theorem lit87_ok : funcE Tryz.prog 87 = some (stripF lit87) := by kernel_rfl
theorem lit90_ok : funcE Tryz.prog 90 = some (stripF lit90) := by kernel_rfl
theorem lit94_ok : funcE Tryz.prog 94 = some (stripF lit94) := by kernel_rfl
theorem lit98_ok : funcE Tryz.prog 98 = some (stripF lit98) := by kernel_rfl
theorem lit107_ok : funcE Tryz.prog 107 = some (stripF lit107) := by kernel_rfl
theorem lit119_ok : funcE Tryz.prog 119 = some (stripF lit119) := by kernel_rfl
theorem lit126_ok : funcE Tryz.prog 126 = some (stripF lit126) := by kernel_rfl
theorem lit135_ok : funcE Tryz.prog 135 = some (stripF lit135) := by kernel_rfl
theorem lit137_ok : funcE Tryz.prog 137 = some (stripF lit137) := by kernel_rfl
theorem lit154_ok : funcE Tryz.prog 154 = some (stripF lit154) := by kernel_rfl
theorem lit163_ok : funcE Tryz.prog 163 = some (stripF lit163) := by kernel_rfl
theorem lit171_ok : funcE Tryz.prog 171 = some (stripF lit171) := by kernel_rfl
theorem lit187_ok : funcE Tryz.prog 187 = some (stripF lit187) := by kernel_rfl
theorem lit197_ok : funcE Tryz.prog 197 = some (stripF lit197) := by kernel_rfl
theorem lit201_ok : funcE Tryz.prog 201 = some (stripF lit201) := by kernel_rfl
theorem lit203_ok : funcE Tryz.prog 203 = some (stripF lit203) := by kernel_rfl
end Go.PE
