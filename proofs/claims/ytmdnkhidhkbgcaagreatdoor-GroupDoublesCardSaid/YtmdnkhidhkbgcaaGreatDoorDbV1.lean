/- The printed functions are what the compiler lays for the program's own (part 1 of 4). -/
import Derived.Test.YtmdnkhidhkbgcaaGreatDoorProg
import Derived.Test.YtmdnkhidhkbgcaaGreatDoorDbL3
import Derived.KernelRfl
namespace Go.PE
open Go.Proofs
set_option maxRecDepth 100000
theorem lit5_ok : funcE Tryz.prog 5 = some (lit5) := by kernel_rfl
theorem lit6_ok : funcE Tryz.prog 6 = some (stripF lit6) := by kernel_rfl
theorem lit13_ok : funcE Tryz.prog 13 = some (stripF lit13) := by kernel_rfl
theorem lit20_ok : funcE Tryz.prog 20 = some (stripF lit20) := by kernel_rfl
theorem lit36_ok : funcE Tryz.prog 36 = some (stripF lit36) := by kernel_rfl
theorem lit39_ok : funcE Tryz.prog 39 = some (stripF lit39) := by kernel_rfl
theorem lit42_ok : funcE Tryz.prog 42 = some (stripF lit42) := by kernel_rfl
theorem lit44_ok : funcE Tryz.prog 44 = some (stripF lit44) := by kernel_rfl
theorem lit45_ok : funcE Tryz.prog 45 = some (stripF lit45) := by kernel_rfl
theorem lit53_ok : funcE Tryz.prog 53 = some (stripF lit53) := by kernel_rfl
theorem lit54_ok : funcE Tryz.prog 54 = some (stripF lit54) := by kernel_rfl
theorem lit55_ok : funcE Tryz.prog 55 = some (stripF lit55) := by kernel_rfl
theorem lit59_ok : funcE Tryz.prog 59 = some (stripF lit59) := by kernel_rfl
theorem lit63_ok : funcE Tryz.prog 63 = some (stripF lit63) := by kernel_rfl
theorem lit68_ok : funcE Tryz.prog 68 = some (stripF lit68) := by kernel_rfl
theorem lit71_ok : funcE Tryz.prog 71 = some (stripF lit71) := by kernel_rfl
theorem lit75_ok : funcE Tryz.prog 75 = some (stripF lit75) := by kernel_rfl
theorem lit91_ok : funcE Tryz.prog 91 = some (stripF lit91) := by kernel_rfl
theorem lit92_ok : funcE Tryz.prog 92 = some (stripF lit92) := by kernel_rfl
theorem lit98_ok : funcE Tryz.prog 98 = some (stripF lit98) := by kernel_rfl
theorem lit99_ok : funcE Tryz.prog 99 = some (stripF lit99) := by kernel_rfl
theorem lit108_ok : funcE Tryz.prog 108 = some (stripF lit108) := by kernel_rfl
theorem lit111_ok : funcE Tryz.prog 111 = some (stripF lit111) := by kernel_rfl
theorem lit113_ok : funcE Tryz.prog 113 = some (stripF lit113) := by kernel_rfl
theorem lit114_ok : funcE Tryz.prog 114 = some (stripF lit114) := by kernel_rfl
theorem lit117_ok : funcE Tryz.prog 117 = some (stripF lit117) := by kernel_rfl
theorem lit125_ok : funcE Tryz.prog 125 = some (stripF lit125) := by kernel_rfl
theorem lit131_ok : funcE Tryz.prog 131 = some (stripF lit131) := by kernel_rfl
theorem lit148_ok : funcE Tryz.prog 148 = some (stripF lit148) := by kernel_rfl
theorem lit152_ok : funcE Tryz.prog 152 = some (stripF lit152) := by kernel_rfl
theorem lit168_ok : funcE Tryz.prog 168 = some (stripF lit168) := by kernel_rfl
theorem lit177_ok : funcE Tryz.prog 177 = some (stripF lit177) := by kernel_rfl
theorem lit179_ok : funcE Tryz.prog 179 = some (stripF lit179) := by kernel_rfl
theorem lit180_ok : funcE Tryz.prog 180 = some (stripF lit180) := by kernel_rfl
theorem lit183_ok : funcE Tryz.prog 183 = some (stripF lit183) := by kernel_rfl
theorem lit199_ok : funcE Tryz.prog 199 = some (stripF lit199) := by kernel_rfl
end Go.PE
