/- The printed functions are what the compiler lays for the program's own (part 4 of 4). -/
import Derived.Test.YtmdnkhidhkbgcaaGreatDoorProg
import Derived.Test.YtmdnkhidhkbgcaaGreatDoorDbL3
import Derived.KernelRfl
namespace Go.PE
open Go.Proofs
set_option maxRecDepth 100000
theorem lit7_ok : funcE Tryz.prog 7 = some (stripF lit7) := by kernel_rfl
theorem lit8_ok : funcE Tryz.prog 8 = some (stripF lit8) := by kernel_rfl
theorem lit12_ok : funcE Tryz.prog 12 = some (stripF lit12) := by kernel_rfl
theorem lit15_ok : funcE Tryz.prog 15 = some (stripF lit15) := by kernel_rfl
theorem lit19_ok : funcE Tryz.prog 19 = some (stripF lit19) := by kernel_rfl
theorem lit24_ok : funcE Tryz.prog 24 = some (stripF lit24) := by kernel_rfl
theorem lit32_ok : funcE Tryz.prog 32 = some (stripF lit32) := by kernel_rfl
theorem lit37_ok : funcE Tryz.prog 37 = some (stripF lit37) := by kernel_rfl
theorem lit43_ok : funcE Tryz.prog 43 = some (stripF lit43) := by kernel_rfl
theorem lit46_ok : funcE Tryz.prog 46 = some (stripF lit46) := by kernel_rfl
theorem lit52_ok : funcE Tryz.prog 52 = some (stripF lit52) := by kernel_rfl
theorem lit56_ok : funcE Tryz.prog 56 = some (stripF lit56) := by kernel_rfl
theorem lit65_ok : funcE Tryz.prog 65 = some (stripF lit65) := by kernel_rfl
theorem lit66_ok : funcE Tryz.prog 66 = some (stripF lit66) := by kernel_rfl
theorem lit67_ok : funcE Tryz.prog 67 = some (stripF lit67) := by kernel_rfl
theorem lit69_ok : funcE Tryz.prog 69 = some (stripF lit69) := by kernel_rfl
theorem lit70_ok : funcE Tryz.prog 70 = some (stripF lit70) := by kernel_rfl
theorem lit72_ok : funcE Tryz.prog 72 = some (stripF lit72) := by kernel_rfl
theorem lit81_ok : funcE Tryz.prog 81 = some (stripF lit81) := by kernel_rfl
theorem lit83_ok : funcE Tryz.prog 83 = some (stripF lit83) := by kernel_rfl
theorem lit88_ok : funcE Tryz.prog 88 = some (stripF lit88) := by kernel_rfl
theorem lit103_ok : funcE Tryz.prog 103 = some (stripF lit103) := by kernel_rfl
theorem lit104_ok : funcE Tryz.prog 104 = some (stripF lit104) := by kernel_rfl
theorem lit106_ok : funcE Tryz.prog 106 = some (stripF lit106) := by kernel_rfl
theorem lit107_ok : funcE Tryz.prog 107 = some (stripF lit107) := by kernel_rfl
theorem lit109_ok : funcE Tryz.prog 109 = some (stripF lit109) := by kernel_rfl
theorem lit110_ok : funcE Tryz.prog 110 = some (stripF lit110) := by kernel_rfl
theorem lit122_ok : funcE Tryz.prog 122 = some (stripF lit122) := by kernel_rfl
theorem lit124_ok : funcE Tryz.prog 124 = some (stripF lit124) := by kernel_rfl
theorem lit135_ok : funcE Tryz.prog 135 = some (stripF lit135) := by kernel_rfl
theorem lit144_ok : funcE Tryz.prog 144 = some (stripF lit144) := by kernel_rfl
theorem lit147_ok : funcE Tryz.prog 147 = some (stripF lit147) := by kernel_rfl
theorem lit154_ok : funcE Tryz.prog 154 = some (stripF lit154) := by kernel_rfl
theorem lit155_ok : funcE Tryz.prog 155 = some (stripF lit155) := by kernel_rfl
theorem lit158_ok : funcE Tryz.prog 158 = some (stripF lit158) := by kernel_rfl
theorem lit194_ok : funcE Tryz.prog 194 = some (stripF lit194) := by kernel_rfl
theorem lit217_ok : funcE Tryz.prog 217 = some (stripF lit217) := by kernel_rfl
end Go.PE
