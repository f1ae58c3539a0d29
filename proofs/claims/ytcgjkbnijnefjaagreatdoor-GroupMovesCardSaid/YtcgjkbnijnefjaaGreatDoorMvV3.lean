/- The printed functions are what the compiler lays for the program's own (part 3 of 4). -/
import Derived.Test.YtcgjkbnijnefjaaGreatDoorProg
import Derived.Test.YtcgjkbnijnefjaaGreatDoorMvL3
import Derived.KernelRfl
namespace Go.PE
open Go.Proofs
set_option maxRecDepth 100000
theorem lit14_ok : funcE Tryz.prog 14 = some (stripF lit14) := by kernel_rfl
theorem lit27_ok : funcE Tryz.prog 27 = some (stripF lit27) := by kernel_rfl
theorem lit29_ok : funcE Tryz.prog 29 = some (stripF lit29) := by kernel_rfl
theorem lit31_ok : funcE Tryz.prog 31 = some (stripF lit31) := by kernel_rfl
theorem lit34_ok : funcE Tryz.prog 34 = some (stripF lit34) := by kernel_rfl
theorem lit37_ok : funcE Tryz.prog 37 = some (stripF lit37) := by kernel_rfl
theorem lit42_ok : funcE Tryz.prog 42 = some (stripF lit42) := by kernel_rfl
theorem lit45_ok : funcE Tryz.prog 45 = some (stripF lit45) := by kernel_rfl
theorem lit47_ok : funcE Tryz.prog 47 = some (stripF lit47) := by kernel_rfl
theorem lit52_ok : funcE Tryz.prog 52 = some (stripF lit52) := by kernel_rfl
theorem lit53_ok : funcE Tryz.prog 53 = some (stripF lit53) := by kernel_rfl
theorem lit54_ok : funcE Tryz.prog 54 = some (stripF lit54) := by kernel_rfl
theorem lit58_ok : funcE Tryz.prog 58 = some (stripF lit58) := by kernel_rfl
theorem lit64_ok : funcE Tryz.prog 64 = some (stripF lit64) := by kernel_rfl
theorem lit71_ok : funcE Tryz.prog 71 = some (stripF lit71) := by kernel_rfl
theorem lit83_ok : funcE Tryz.prog 83 = some (stripF lit83) := by kernel_rfl
theorem lit89_ok : funcE Tryz.prog 89 = some (stripF lit89) := by kernel_rfl
theorem lit90_ok : funcE Tryz.prog 90 = some (stripF lit90) := by kernel_rfl
theorem lit93_ok : funcE Tryz.prog 93 = some (stripF lit93) := by kernel_rfl
theorem lit94_ok : funcE Tryz.prog 94 = some (stripF lit94) := by kernel_rfl
theorem lit108_ok : funcE Tryz.prog 108 = some (stripF lit108) := by kernel_rfl
theorem lit113_ok : funcE Tryz.prog 113 = some (stripF lit113) := by kernel_rfl
theorem lit114_ok : funcE Tryz.prog 114 = some (stripF lit114) := by kernel_rfl
theorem lit124_ok : funcE Tryz.prog 124 = some (stripF lit124) := by kernel_rfl
theorem lit130_ok : funcE Tryz.prog 130 = some (stripF lit130) := by kernel_rfl
theorem lit134_ok : funcE Tryz.prog 134 = some (stripF lit134) := by kernel_rfl
theorem lit141_ok : funcE Tryz.prog 141 = some (stripF lit141) := by kernel_rfl
theorem lit144_ok : funcE Tryz.prog 144 = some (stripF lit144) := by kernel_rfl
theorem lit153_ok : funcE Tryz.prog 153 = some (stripF lit153) := by kernel_rfl
theorem lit160_ok : funcE Tryz.prog 160 = some (stripF lit160) := by kernel_rfl
theorem lit171_ok : funcE Tryz.prog 171 = some (stripF lit171) := by kernel_rfl
theorem lit172_ok : funcE Tryz.prog 172 = some (stripF lit172) := by kernel_rfl
theorem lit173_ok : funcE Tryz.prog 173 = some (stripF lit173) := by kernel_rfl
theorem lit177_ok : funcE Tryz.prog 177 = some (stripF lit177) := by kernel_rfl
theorem lit183_ok : funcE Tryz.prog 183 = some (stripF lit183) := by kernel_rfl
theorem lit190_ok : funcE Tryz.prog 190 = some (stripF lit190) := by kernel_rfl
theorem lit191_ok : funcE Tryz.prog 191 = some (stripF lit191) := by kernel_rfl
theorem lit193_ok : funcE Tryz.prog 193 = some (stripF lit193) := by kernel_rfl
theorem lit202_ok : funcE Tryz.prog 202 = some (stripF lit202) := by kernel_rfl
theorem lit211_ok : funcE Tryz.prog 211 = some (stripF lit211) := by kernel_rfl
theorem lit229_ok : funcE Tryz.prog 229 = some (stripF lit229) := by kernel_rfl
end Go.PE
