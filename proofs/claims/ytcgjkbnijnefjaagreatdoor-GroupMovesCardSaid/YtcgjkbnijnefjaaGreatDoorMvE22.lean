/- GroupMoves' rounds (group 2, daemon 2). -/
import Derived.Test.YtcgjkbnijnefjaaGreatDoorMvD2
namespace Go.PE.Mv2
open Go.Proofs
set_option maxRecDepth 100000
theorem l20_0 : rL e20 h20 0 = true := by kernel_rfl
theorem l20_1 : rL e20 h20 1 = true := by kernel_rfl
theorem l20_2 : rL e20 h20 2 = true := by kernel_rfl
theorem l20_3 : rL e20 h20 3 = true := by kernel_rfl
theorem l20_4 : rL e20 h20 4 = true := by kernel_rfl
theorem l20_5 : rL e20 h20 5 = true := by kernel_rfl
theorem l20 : ∀ n, n < 6 → rL e20 h20 n = true
  | 0, _ => l20_0
  | 1, _ => l20_1
  | 2, _ => l20_2
  | 3, _ => l20_3
  | 4, _ => l20_4
  | 5, _ => l20_5
  | _ + 6, h => absurd h (by omega)
theorem l21_0 : rL e21 h21 0 = true := by kernel_rfl
theorem l21_1 : rL e21 h21 1 = true := by kernel_rfl
theorem l21_2 : rL e21 h21 2 = true := by kernel_rfl
theorem l21_3 : rL e21 h21 3 = true := by kernel_rfl
theorem l21_4 : rL e21 h21 4 = true := by kernel_rfl
theorem l21_5 : rL e21 h21 5 = true := by kernel_rfl
theorem l21 : ∀ n, n < 6 → rL e21 h21 n = true
  | 0, _ => l21_0
  | 1, _ => l21_1
  | 2, _ => l21_2
  | 3, _ => l21_3
  | 4, _ => l21_4
  | 5, _ => l21_5
  | _ + 6, h => absurd h (by omega)
end Go.PE.Mv2
