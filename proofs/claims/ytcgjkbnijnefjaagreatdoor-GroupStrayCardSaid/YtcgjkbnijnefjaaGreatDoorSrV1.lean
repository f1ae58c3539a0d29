/- The printed functions are what the compiler lays for the program's own (part 1 of 4). -/
import Derived.Test.YtcgjkbnijnefjaaGreatDoorProg
import Derived.Test.YtcgjkbnijnefjaaGreatDoorSrL3
import Derived.KernelRfl
namespace Go.PE
open Go.Proofs
set_option maxRecDepth 100000
theorem lit3_ok : funcE Tryz.prog 3 = some (lit3) := by kernel_rfl
theorem lit29_ok : funcE Tryz.prog 29 = some (stripF lit29) := by kernel_rfl
theorem lit30_ok : funcE Tryz.prog 30 = some (stripF lit30) := by kernel_rfl
theorem lit33_ok : funcE Tryz.prog 33 = some (stripF lit33) := by kernel_rfl
theorem lit37_ok : funcE Tryz.prog 37 = some (stripF lit37) := by kernel_rfl
theorem lit38_ok : funcE Tryz.prog 38 = some (stripF lit38) := by kernel_rfl
theorem lit40_ok : funcE Tryz.prog 40 = some (stripF lit40) := by kernel_rfl
theorem lit44_ok : funcE Tryz.prog 44 = some (stripF lit44) := by kernel_rfl
theorem lit52_ok : funcE Tryz.prog 52 = some (stripF lit52) := by kernel_rfl
theorem lit64_ok : funcE Tryz.prog 64 = some (stripF lit64) := by kernel_rfl
theorem lit67_ok : funcE Tryz.prog 67 = some (stripF lit67) := by kernel_rfl
theorem lit72_ok : funcE Tryz.prog 72 = some (stripF lit72) := by kernel_rfl
theorem lit73_ok : funcE Tryz.prog 73 = some (stripF lit73) := by kernel_rfl
theorem lit79_ok : funcE Tryz.prog 79 = some (stripF lit79) := by kernel_rfl
theorem lit88_ok : funcE Tryz.prog 88 = some (stripF lit88) := by kernel_rfl
theorem lit96_ok : funcE Tryz.prog 96 = some (stripF lit96) := by kernel_rfl
theorem lit100_ok : funcE Tryz.prog 100 = some (stripF lit100) := by kernel_rfl
theorem lit110_ok : funcE Tryz.prog 110 = some (stripF lit110) := by kernel_rfl
theorem lit116_ok : funcE Tryz.prog 116 = some (stripF lit116) := by kernel_rfl
theorem lit118_ok : funcE Tryz.prog 118 = some (stripF lit118) := by kernel_rfl
theorem lit120_ok : funcE Tryz.prog 120 = some (stripF lit120) := by kernel_rfl
theorem lit136_ok : funcE Tryz.prog 136 = some (stripF lit136) := by kernel_rfl
theorem lit140_ok : funcE Tryz.prog 140 = some (stripF lit140) := by kernel_rfl
theorem lit150_ok : funcE Tryz.prog 150 = some (stripF lit150) := by kernel_rfl
theorem lit156_ok : funcE Tryz.prog 156 = some (stripF lit156) := by kernel_rfl
theorem lit173_ok : funcE Tryz.prog 173 = some (stripF lit173) := by kernel_rfl
theorem lit175_ok : funcE Tryz.prog 175 = some (stripF lit175) := by kernel_rfl
theorem lit177_ok : funcE Tryz.prog 177 = some (stripF lit177) := by kernel_rfl
theorem lit192_ok : funcE Tryz.prog 192 = some (stripF lit192) := by kernel_rfl
theorem lit196_ok : funcE Tryz.prog 196 = some (stripF lit196) := by kernel_rfl
theorem lit211_ok : funcE Tryz.prog 211 = some (stripF lit211) := by kernel_rfl
end Go.PE
