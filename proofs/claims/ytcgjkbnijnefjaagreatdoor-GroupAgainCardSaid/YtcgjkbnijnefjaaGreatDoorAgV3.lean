/- The printed functions are what the compiler lays for the program's own (part 3 of 4). -/
import Derived.Test.YtcgjkbnijnefjaaGreatDoorProg
import Derived.Test.YtcgjkbnijnefjaaGreatDoorAgL3
import Derived.KernelRfl
namespace Go.PE
open Go.Proofs
set_option maxRecDepth 100000
theorem lit11_ok : funcE Tryz.prog 11 = some (stripF lit11) := by kernel_rfl
theorem lit17_ok : funcE Tryz.prog 17 = some (stripF lit17) := by kernel_rfl
theorem lit18_ok : funcE Tryz.prog 18 = some (stripF lit18) := by kernel_rfl
theorem lit19_ok : funcE Tryz.prog 19 = some (stripF lit19) := by kernel_rfl
theorem lit20_ok : funcE Tryz.prog 20 = some (stripF lit20) := by kernel_rfl
theorem lit21_ok : funcE Tryz.prog 21 = some (stripF lit21) := by kernel_rfl
theorem lit34_ok : funcE Tryz.prog 34 = some (stripF lit34) := by kernel_rfl
theorem lit36_ok : funcE Tryz.prog 36 = some (stripF lit36) := by kernel_rfl
theorem lit37_ok : funcE Tryz.prog 37 = some (stripF lit37) := by kernel_rfl
theorem lit43_ok : funcE Tryz.prog 43 = some (stripF lit43) := by kernel_rfl
theorem lit59_ok : funcE Tryz.prog 59 = some (stripF lit59) := by kernel_rfl
theorem lit60_ok : funcE Tryz.prog 60 = some (stripF lit60) := by kernel_rfl
theorem lit61_ok : funcE Tryz.prog 61 = some (stripF lit61) := by kernel_rfl
theorem lit78_ok : funcE Tryz.prog 78 = some (stripF lit78) := by kernel_rfl
theorem lit84_ok : funcE Tryz.prog 84 = some (stripF lit84) := by kernel_rfl
theorem lit85_ok : funcE Tryz.prog 85 = some (stripF lit85) := by kernel_rfl
theorem lit87_ok : funcE Tryz.prog 87 = some (stripF lit87) := by kernel_rfl
theorem lit94_ok : funcE Tryz.prog 94 = some (stripF lit94) := by kernel_rfl
theorem lit98_ok : funcE Tryz.prog 98 = some (stripF lit98) := by kernel_rfl
theorem lit100_ok : funcE Tryz.prog 100 = some (stripF lit100) := by kernel_rfl
theorem lit102_ok : funcE Tryz.prog 102 = some (stripF lit102) := by kernel_rfl
theorem lit106_ok : funcE Tryz.prog 106 = some (stripF lit106) := by kernel_rfl
theorem lit108_ok : funcE Tryz.prog 108 = some (stripF lit108) := by kernel_rfl
theorem lit114_ok : funcE Tryz.prog 114 = some (stripF lit114) := by kernel_rfl
theorem lit132_ok : funcE Tryz.prog 132 = some (stripF lit132) := by kernel_rfl
theorem lit135_ok : funcE Tryz.prog 135 = some (stripF lit135) := by kernel_rfl
theorem lit138_ok : funcE Tryz.prog 138 = some (stripF lit138) := by kernel_rfl
theorem lit139_ok : funcE Tryz.prog 139 = some (stripF lit139) := by kernel_rfl
theorem lit144_ok : funcE Tryz.prog 144 = some (stripF lit144) := by kernel_rfl
theorem lit154_ok : funcE Tryz.prog 154 = some (stripF lit154) := by kernel_rfl
theorem lit157_ok : funcE Tryz.prog 157 = some (stripF lit157) := by kernel_rfl
theorem lit173_ok : funcE Tryz.prog 173 = some (stripF lit173) := by kernel_rfl
theorem lit175_ok : funcE Tryz.prog 175 = some (stripF lit175) := by kernel_rfl
theorem lit176_ok : funcE Tryz.prog 176 = some (stripF lit176) := by kernel_rfl
theorem lit190_ok : funcE Tryz.prog 190 = some (stripF lit190) := by kernel_rfl
theorem lit195_ok : funcE Tryz.prog 195 = some (stripF lit195) := by kernel_rfl
theorem lit201_ok : funcE Tryz.prog 201 = some (stripF lit201) := by kernel_rfl
theorem lit203_ok : funcE Tryz.prog 203 = some (stripF lit203) := by kernel_rfl
theorem lit229_ok : funcE Tryz.prog 229 = some (stripF lit229) := by kernel_rfl
end Go.PE
