/- The printed functions are what the compiler lays for the program's own (part 4 of 4). -/
import Derived.Test.YtbpkjhamidpoeaaGreatDoorProg
import Derived.Test.YtbpkjhamidpoeaaGreatDoorL3
import Derived.Test.YtbpkjhamidpoeaaGreatDoorE24
import Derived.KernelRfl
namespace Go.PE
open Go.Proofs
set_option maxRecDepth 100000
theorem lit4_ok : funcE Tryz.prog 4 = some lit4 := by kernel_rfl
theorem lit11_ok : funcE Tryz.prog 11 = some lit11 := by kernel_rfl
theorem lit12_ok : funcE Tryz.prog 12 = some lit12 := by kernel_rfl
theorem lit16_ok : funcE Tryz.prog 16 = some lit16 := by kernel_rfl
theorem lit21_ok : funcE Tryz.prog 21 = some lit21 := by kernel_rfl
theorem lit25_ok : funcE Tryz.prog 25 = some lit25 := by kernel_rfl
theorem lit28_ok : funcE Tryz.prog 28 = some lit28 := by kernel_rfl
theorem lit29_ok : funcE Tryz.prog 29 = some lit29 := by kernel_rfl
theorem lit31_ok : funcE Tryz.prog 31 = some lit31 := by kernel_rfl
theorem lit32_ok : funcE Tryz.prog 32 = some lit32 := by kernel_rfl
theorem lit33_ok : funcE Tryz.prog 33 = some lit33 := by kernel_rfl
theorem lit47_ok : funcE Tryz.prog 47 = some lit47 := by kernel_rfl
theorem lit56_ok : funcE Tryz.prog 56 = some lit56 := by kernel_rfl
theorem lit63_ok : funcE Tryz.prog 63 = some lit63 := by kernel_rfl
theorem lit66_ok : funcE Tryz.prog 66 = some lit66 := by kernel_rfl
theorem lit67_ok : funcE Tryz.prog 67 = some lit67 := by kernel_rfl
theorem lit73_ok : funcE Tryz.prog 73 = some lit73 := by kernel_rfl
theorem lit74_ok : funcE Tryz.prog 74 = some lit74 := by kernel_rfl
theorem lit87_ok : funcE Tryz.prog 87 = some lit87 := by kernel_rfl
theorem lit88_ok : funcE Tryz.prog 88 = some lit88 := by kernel_rfl
theorem lit91_ok : funcE Tryz.prog 91 = some lit91 := by kernel_rfl
theorem lit92_ok : funcE Tryz.prog 92 = some lit92 := by kernel_rfl
theorem lit101_ok : funcE Tryz.prog 101 = some lit101 := by kernel_rfl
theorem lit109_ok : funcE Tryz.prog 109 = some lit109 := by kernel_rfl
theorem lit124_ok : funcE Tryz.prog 124 = some lit124 := by kernel_rfl
theorem lit125_ok : funcE Tryz.prog 125 = some lit125 := by kernel_rfl
theorem lit134_ok : funcE Tryz.prog 134 = some lit134 := by kernel_rfl
theorem lit142_ok : funcE Tryz.prog 142 = some lit142 := by kernel_rfl
theorem lit150_ok : funcE Tryz.prog 150 = some lit150 := by kernel_rfl
theorem lit153_ok : funcE Tryz.prog 153 = some lit153 := by kernel_rfl
theorem lit172_ok : funcE Tryz.prog 172 = some lit172 := by kernel_rfl
theorem lit176_ok : funcE Tryz.prog 176 = some lit176 := by kernel_rfl
theorem lit181_ok : funcE Tryz.prog 181 = some lit181 := by kernel_rfl
theorem lit182_ok : funcE Tryz.prog 182 = some lit182 := by kernel_rfl
end Go.PE
