/- The printed functions are what the compiler lays for the program's own (part 3 of 4). -/
import Derived.Test.YtcgjkbnijnefjaaGreatDoorProg
import Derived.Test.YtcgjkbnijnefjaaGreatDoorSrL3
import Derived.KernelRfl
namespace Go.PE
open Go.Proofs
set_option maxRecDepth 100000
theorem lit11_ok : funcE Tryz.prog 11 = some (stripF lit11) := by kernel_rfl
theorem lit14_ok : funcE Tryz.prog 14 = some (stripF lit14) := by kernel_rfl
theorem lit24_ok : funcE Tryz.prog 24 = some (stripF lit24) := by kernel_rfl
theorem lit36_ok : funcE Tryz.prog 36 = some (stripF lit36) := by kernel_rfl
theorem lit53_ok : funcE Tryz.prog 53 = some (stripF lit53) := by kernel_rfl
theorem lit56_ok : funcE Tryz.prog 56 = some (stripF lit56) := by kernel_rfl
theorem lit59_ok : funcE Tryz.prog 59 = some (stripF lit59) := by kernel_rfl
theorem lit65_ok : funcE Tryz.prog 65 = some (stripF lit65) := by kernel_rfl
theorem lit71_ok : funcE Tryz.prog 71 = some (stripF lit71) := by kernel_rfl
theorem lit78_ok : funcE Tryz.prog 78 = some (stripF lit78) := by kernel_rfl
theorem lit80_ok : funcE Tryz.prog 80 = some (stripF lit80) := by kernel_rfl
theorem lit82_ok : funcE Tryz.prog 82 = some (stripF lit82) := by kernel_rfl
theorem lit84_ok : funcE Tryz.prog 84 = some (stripF lit84) := by kernel_rfl
theorem lit89_ok : funcE Tryz.prog 89 = some (stripF lit89) := by kernel_rfl
theorem lit103_ok : funcE Tryz.prog 103 = some (stripF lit103) := by kernel_rfl
theorem lit104_ok : funcE Tryz.prog 104 = some (stripF lit104) := by kernel_rfl
theorem lit106_ok : funcE Tryz.prog 106 = some (stripF lit106) := by kernel_rfl
theorem lit108_ok : funcE Tryz.prog 108 = some (stripF lit108) := by kernel_rfl
theorem lit109_ok : funcE Tryz.prog 109 = some (stripF lit109) := by kernel_rfl
theorem lit117_ok : funcE Tryz.prog 117 = some (stripF lit117) := by kernel_rfl
theorem lit132_ok : funcE Tryz.prog 132 = some (stripF lit132) := by kernel_rfl
theorem lit138_ok : funcE Tryz.prog 138 = some (stripF lit138) := by kernel_rfl
theorem lit141_ok : funcE Tryz.prog 141 = some (stripF lit141) := by kernel_rfl
theorem lit142_ok : funcE Tryz.prog 142 = some (stripF lit142) := by kernel_rfl
theorem lit144_ok : funcE Tryz.prog 144 = some (stripF lit144) := by kernel_rfl
theorem lit153_ok : funcE Tryz.prog 153 = some (stripF lit153) := by kernel_rfl
theorem lit155_ok : funcE Tryz.prog 155 = some (stripF lit155) := by kernel_rfl
theorem lit176_ok : funcE Tryz.prog 176 = some (stripF lit176) := by kernel_rfl
theorem lit183_ok : funcE Tryz.prog 183 = some (stripF lit183) := by kernel_rfl
theorem lit194_ok : funcE Tryz.prog 194 = some (stripF lit194) := by kernel_rfl
theorem lit195_ok : funcE Tryz.prog 195 = some (stripF lit195) := by kernel_rfl
theorem lit202_ok : funcE Tryz.prog 202 = some (stripF lit202) := by kernel_rfl
theorem lit229_ok : funcE Tryz.prog 229 = some (stripF lit229) := by kernel_rfl
end Go.PE
