/- The printed functions are what the compiler lays for the program's own (part 3 of 4). -/
import Derived.Test.YtbpkjhamidpoeaaGreatDoorProg
import Derived.Test.YtbpkjhamidpoeaaGreatDoorL3
import Derived.Test.YtbpkjhamidpoeaaGreatDoorE24
import Derived.KernelRfl
namespace Go.PE
open Go.Proofs
set_option maxRecDepth 100000
theorem lit5_ok : funcE Tryz.prog 5 = some lit5 := by kernel_rfl
theorem lit8_ok : funcE Tryz.prog 8 = some lit8 := by kernel_rfl
theorem lit14_ok : funcE Tryz.prog 14 = some lit14 := by kernel_rfl
theorem lit15_ok : funcE Tryz.prog 15 = some lit15 := by kernel_rfl
theorem lit17_ok : funcE Tryz.prog 17 = some lit17 := by kernel_rfl
theorem lit19_ok : funcE Tryz.prog 19 = some lit19 := by kernel_rfl
theorem lit22_ok : funcE Tryz.prog 22 = some lit22 := by kernel_rfl
theorem lit24_ok : funcE Tryz.prog 24 = some lit24 := by kernel_rfl
theorem lit34_ok : funcE Tryz.prog 34 = some lit34 := by kernel_rfl
theorem lit35_ok : funcE Tryz.prog 35 = some lit35 := by kernel_rfl
theorem lit36_ok : funcE Tryz.prog 36 = some lit36 := by kernel_rfl
theorem lit49_ok : funcE Tryz.prog 49 = some lit49 := by kernel_rfl
theorem lit55_ok : funcE Tryz.prog 55 = some lit55 := by kernel_rfl
theorem lit65_ok : funcE Tryz.prog 65 = some lit65 := by kernel_rfl
theorem lit75_ok : funcE Tryz.prog 75 = some lit75 := by kernel_rfl
theorem lit77_ok : funcE Tryz.prog 77 = some lit77 := by kernel_rfl
theorem lit84_ok : funcE Tryz.prog 84 = some lit84 := by kernel_rfl
theorem lit85_ok : funcE Tryz.prog 85 = some lit85 := by kernel_rfl
theorem lit97_ok : funcE Tryz.prog 97 = some lit97 := by kernel_rfl
theorem lit99_ok : funcE Tryz.prog 99 = some lit99 := by kernel_rfl
theorem lit103_ok : funcE Tryz.prog 103 = some lit103 := by kernel_rfl
theorem lit104_ok : funcE Tryz.prog 104 = some lit104 := by kernel_rfl
theorem lit106_ok : funcE Tryz.prog 106 = some lit106 := by kernel_rfl
theorem lit108_ok : funcE Tryz.prog 108 = some lit108 := by kernel_rfl
theorem lit112_ok : funcE Tryz.prog 112 = some lit112 := by kernel_rfl
theorem lit114_ok : funcE Tryz.prog 114 = some lit114 := by kernel_rfl
theorem lit138_ok : funcE Tryz.prog 138 = some lit138 := by kernel_rfl
theorem lit140_ok : funcE Tryz.prog 140 = some lit140 := by kernel_rfl
theorem lit146_ok : funcE Tryz.prog 146 = some lit146 := by kernel_rfl
theorem lit148_ok : funcE Tryz.prog 148 = some lit148 := by kernel_rfl
theorem lit163_ok : funcE Tryz.prog 163 = some lit163 := by kernel_rfl
theorem lit164_ok : funcE Tryz.prog 164 = some lit164 := by kernel_rfl
theorem lit177_ok : funcE Tryz.prog 177 = some lit177 := by kernel_rfl
theorem lit187_ok : funcE Tryz.prog 187 = some lit187 := by kernel_rfl
end Go.PE
