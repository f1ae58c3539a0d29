/- GroupMoves' rounds (group 0, daemon 1). -/
import Derived.Test.YtcgjkbnijnefjaaGreatDoorMvD0
namespace Go.PE.Mv0
open Go.Proofs
set_option maxRecDepth 100000
theorem l10_0 : rL e10 h10 0 = true := by kernel_rfl
theorem l10_1 : rL e10 h10 1 = true := by kernel_rfl
theorem l10_2 : rL e10 h10 2 = true := by kernel_rfl
theorem l10_3 : rL e10 h10 3 = true := by kernel_rfl
theorem l10_4 : rL e10 h10 4 = true := by kernel_rfl
theorem l10_5 : rL e10 h10 5 = true := by kernel_rfl
theorem l10 : ∀ n, n < 6 → rL e10 h10 n = true
  | 0, _ => l10_0
  | 1, _ => l10_1
  | 2, _ => l10_2
  | 3, _ => l10_3
  | 4, _ => l10_4
  | 5, _ => l10_5
  | _ + 6, h => absurd h (by omega)
theorem l11_0 : rL e11 h11 0 = true := by kernel_rfl
theorem l11_1 : rL e11 h11 1 = true := by kernel_rfl
theorem l11_2 : rL e11 h11 2 = true := by kernel_rfl
theorem l11_3 : rL e11 h11 3 = true := by kernel_rfl
theorem l11_4 : rL e11 h11 4 = true := by kernel_rfl
theorem l11_5 : rL e11 h11 5 = true := by kernel_rfl
theorem l11 : ∀ n, n < 6 → rL e11 h11 n = true
  | 0, _ => l11_0
  | 1, _ => l11_1
  | 2, _ => l11_2
  | 3, _ => l11_3
  | 4, _ => l11_4
  | 5, _ => l11_5
  | _ + 6, h => absurd h (by omega)
end Go.PE.Mv0
