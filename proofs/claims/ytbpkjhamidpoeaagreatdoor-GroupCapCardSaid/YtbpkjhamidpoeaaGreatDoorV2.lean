/- The printed functions are what the compiler lays for the program's own (part 2 of 4). -/
import Derived.Test.YtbpkjhamidpoeaaGreatDoorProg
import Derived.Test.YtbpkjhamidpoeaaGreatDoorL3
import Derived.Test.YtbpkjhamidpoeaaGreatDoorE24
import Derived.KernelRfl
namespace Go.PE
open Go.Proofs
set_option maxRecDepth 100000
theorem lit6_ok : funcE Tryz.prog 6 = some lit6 := by kernel_rfl
theorem lit13_ok : funcE Tryz.prog 13 = some lit13 := by kernel_rfl
theorem lit18_ok : funcE Tryz.prog 18 = some lit18 := by kernel_rfl
theorem lit30_ok : funcE Tryz.prog 30 = some lit30 := by kernel_rfl
theorem lit40_ok : funcE Tryz.prog 40 = some lit40 := by kernel_rfl
theorem lit52_ok : funcE Tryz.prog 52 = some lit52 := by kernel_rfl
theorem lit53_ok : funcE Tryz.prog 53 = some lit53 := by kernel_rfl
theorem lit57_ok : funcE Tryz.prog 57 = some lit57 := by kernel_rfl
theorem lit59_ok : funcE Tryz.prog 59 = some lit59 := by kernel_rfl
theorem lit69_ok : funcE Tryz.prog 69 = some lit69 := by kernel_rfl
theorem lit71_ok : funcE Tryz.prog 71 = some lit71 := by kernel_rfl
theorem lit72_ok : funcE Tryz.prog 72 = some lit72 := by kernel_rfl
theorem lit80_ok : funcE Tryz.prog 80 = some lit80 := by kernel_rfl
theorem lit86_ok : funcE Tryz.prog 86 = some lit86 := by kernel_rfl
theorem lit89_ok : funcE Tryz.prog 89 = some lit89 := by kernel_rfl
theorem lit90_ok : funcE Tryz.prog 90 = some lit90 := by kernel_rfl
theorem lit96_ok : funcE Tryz.prog 96 = some lit96 := by kernel_rfl
theorem lit98_ok : funcE Tryz.prog 98 = some lit98 := by kernel_rfl
theorem lit105_ok : funcE Tryz.prog 105 = some lit105 := by kernel_rfl
theorem lit110_ok : funcE Tryz.prog 110 = some lit110 := by kernel_rfl
theorem lit113_ok : funcE Tryz.prog 113 = some lit113 := by kernel_rfl
theorem lit120_ok : funcE Tryz.prog 120 = some lit120 := by kernel_rfl
theorem lit126_ok : funcE Tryz.prog 126 = some lit126 := by kernel_rfl
theorem lit127_ok : funcE Tryz.prog 127 = some lit127 := by kernel_rfl
theorem lit128_ok : funcE Tryz.prog 128 = some lit128 := by kernel_rfl
theorem lit132_ok : funcE Tryz.prog 132 = some lit132 := by kernel_rfl
theorem lit136_ok : funcE Tryz.prog 136 = some lit136 := by kernel_rfl
theorem lit137_ok : funcE Tryz.prog 137 = some lit137 := by kernel_rfl
theorem lit139_ok : funcE Tryz.prog 139 = some lit139 := by kernel_rfl
theorem lit141_ok : funcE Tryz.prog 141 = some lit141 := by kernel_rfl
theorem lit167_ok : funcE Tryz.prog 167 = some lit167 := by kernel_rfl
theorem lit168_ok : funcE Tryz.prog 168 = some lit168 := by kernel_rfl
theorem lit169_ok : funcE Tryz.prog 169 = some lit169 := by kernel_rfl
theorem lit180_ok : funcE Tryz.prog 180 = some lit180 := by kernel_rfl
end Go.PE
