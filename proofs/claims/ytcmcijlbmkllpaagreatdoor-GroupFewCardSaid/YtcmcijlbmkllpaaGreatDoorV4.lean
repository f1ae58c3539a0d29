/- The printed functions are what the compiler lays for the program's own (part 4 of 4). -/
import Derived.Test.YtcmcijlbmkllpaaGreatDoorProg
import Derived.Test.YtcmcijlbmkllpaaGreatDoorL3
import Derived.Test.YtcmcijlbmkllpaaGreatDoorED
import Derived.KernelRfl
namespace Go.PE
open Go.Proofs
set_option maxRecDepth 100000
theorem lit7_ok : funcE Tryz.prog 7 = some lit7 := by kernel_rfl
theorem lit11_ok : funcE Tryz.prog 11 = some lit11 := by kernel_rfl
theorem lit12_ok : funcE Tryz.prog 12 = some lit12 := by kernel_rfl
theorem lit20_ok : funcE Tryz.prog 20 = some lit20 := by kernel_rfl
theorem lit21_ok : funcE Tryz.prog 21 = some lit21 := by kernel_rfl
theorem lit24_ok : funcE Tryz.prog 24 = some lit24 := by kernel_rfl
theorem lit27_ok : funcE Tryz.prog 27 = some lit27 := by kernel_rfl
theorem lit33_ok : funcE Tryz.prog 33 = some lit33 := by kernel_rfl
theorem lit36_ok : funcE Tryz.prog 36 = some lit36 := by kernel_rfl
theorem lit42_ok : funcE Tryz.prog 42 = some lit42 := by kernel_rfl
theorem lit47_ok : funcE Tryz.prog 47 = some lit47 := by kernel_rfl
theorem lit48_ok : funcE Tryz.prog 48 = some lit48 := by kernel_rfl
theorem lit57_ok : funcE Tryz.prog 57 = some lit57 := by kernel_rfl
theorem lit59_ok : funcE Tryz.prog 59 = some lit59 := by kernel_rfl
theorem lit74_ok : funcE Tryz.prog 74 = some lit74 := by kernel_rfl
theorem lit75_ok : funcE Tryz.prog 75 = some lit75 := by kernel_rfl
theorem lit80_ok : funcE Tryz.prog 80 = some lit80 := by kernel_rfl
theorem lit81_ok : funcE Tryz.prog 81 = some lit81 := by kernel_rfl
theorem lit89_ok : funcE Tryz.prog 89 = some lit89 := by kernel_rfl
theorem lit92_ok : funcE Tryz.prog 92 = some lit92 := by kernel_rfl
theorem lit94_ok : funcE Tryz.prog 94 = some lit94 := by kernel_rfl
theorem lit99_ok : funcE Tryz.prog 99 = some lit99 := by kernel_rfl
theorem lit102_ok : funcE Tryz.prog 102 = some lit102 := by kernel_rfl
theorem lit103_ok : funcE Tryz.prog 103 = some lit103 := by kernel_rfl
theorem lit109_ok : funcE Tryz.prog 109 = some lit109 := by kernel_rfl
theorem lit112_ok : funcE Tryz.prog 112 = some lit112 := by kernel_rfl
theorem lit113_ok : funcE Tryz.prog 113 = some lit113 := by kernel_rfl
theorem lit115_ok : funcE Tryz.prog 115 = some lit115 := by kernel_rfl
theorem lit119_ok : funcE Tryz.prog 119 = some lit119 := by kernel_rfl
theorem lit125_ok : funcE Tryz.prog 125 = some lit125 := by kernel_rfl
theorem lit131_ok : funcE Tryz.prog 131 = some lit131 := by kernel_rfl
theorem lit135_ok : funcE Tryz.prog 135 = some lit135 := by kernel_rfl
theorem lit137_ok : funcE Tryz.prog 137 = some lit137 := by kernel_rfl
theorem lit146_ok : funcE Tryz.prog 146 = some lit146 := by kernel_rfl
theorem lit150_ok : funcE Tryz.prog 150 = some lit150 := by kernel_rfl
theorem lit151_ok : funcE Tryz.prog 151 = some lit151 := by kernel_rfl
theorem lit171_ok : funcE Tryz.prog 171 = some lit171 := by kernel_rfl
theorem lit200_ok : funcE Tryz.prog 200 = some lit200 := by kernel_rfl
theorem lit215_ok : funcE Tryz.prog 215 = some lit215 := by kernel_rfl
end Go.PE
