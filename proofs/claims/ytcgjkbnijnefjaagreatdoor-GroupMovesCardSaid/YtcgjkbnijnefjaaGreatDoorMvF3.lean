/- GroupMoves' rounds of seven and eight writes (group 3). -/
import Derived.Test.YtcgjkbnijnefjaaGreatDoorMvD3
namespace Go.PE.Mv3
open Go.Proofs
set_option maxRecDepth 100000
theorem l00_6 : rL e00 h00 6 = true := by kernel_rfl
theorem l00_7 : rL e00 h00 7 = true := by kernel_rfl
theorem l01_6 : rL e01 h01 6 = true := by kernel_rfl
theorem l01_7 : rL e01 h01 7 = true := by kernel_rfl
theorem l10_6 : rL e10 h10 6 = true := by kernel_rfl
theorem l10_7 : rL e10 h10 7 = true := by kernel_rfl
theorem l11_6 : rL e11 h11 6 = true := by kernel_rfl
theorem l11_7 : rL e11 h11 7 = true := by kernel_rfl
theorem l20_6 : rL e20 h20 6 = true := by kernel_rfl
theorem l20_7 : rL e20 h20 7 = true := by kernel_rfl
theorem l21_6 : rL e21 h21 6 = true := by kernel_rfl
theorem l21_7 : rL e21 h21 7 = true := by kernel_rfl
end Go.PE.Mv3
