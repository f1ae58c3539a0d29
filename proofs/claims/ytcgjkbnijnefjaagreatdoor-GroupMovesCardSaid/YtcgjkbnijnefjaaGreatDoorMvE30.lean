/- GroupMoves' rounds (group 3, daemon 0). -/
import Derived.Test.YtcgjkbnijnefjaaGreatDoorMvD3
namespace Go.PE.Mv3
open Go.Proofs
set_option maxRecDepth 100000
theorem l00_0 : rL e00 h00 0 = true := by kernel_rfl
theorem l00_1 : rL e00 h00 1 = true := by kernel_rfl
theorem l00_2 : rL e00 h00 2 = true := by kernel_rfl
theorem l00_3 : rL e00 h00 3 = true := by kernel_rfl
theorem l00_4 : rL e00 h00 4 = true := by kernel_rfl
theorem l00_5 : rL e00 h00 5 = true := by kernel_rfl
theorem l00 : ∀ n, n < 6 → rL e00 h00 n = true
  | 0, _ => l00_0
  | 1, _ => l00_1
  | 2, _ => l00_2
  | 3, _ => l00_3
  | 4, _ => l00_4
  | 5, _ => l00_5
  | _ + 6, h => absurd h (by omega)
theorem l01_0 : rL e01 h01 0 = true := by kernel_rfl
theorem l01_1 : rL e01 h01 1 = true := by kernel_rfl
theorem l01_2 : rL e01 h01 2 = true := by kernel_rfl
theorem l01_3 : rL e01 h01 3 = true := by kernel_rfl
theorem l01_4 : rL e01 h01 4 = true := by kernel_rfl
theorem l01_5 : rL e01 h01 5 = true := by kernel_rfl
theorem l01 : ∀ n, n < 6 → rL e01 h01 n = true
  | 0, _ => l01_0
  | 1, _ => l01_1
  | 2, _ => l01_2
  | 3, _ => l01_3
  | 4, _ => l01_4
  | 5, _ => l01_5
  | _ + 6, h => absurd h (by omega)
end Go.PE.Mv3
