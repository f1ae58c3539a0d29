/- GroupStray's last part, from the loop on (group 1, epochs whose remainder is another). -/
import Derived.Test.YtcgjkbnijnefjaaGreatDoorSrD1
namespace Go.PE.Sr1
open Go.Proofs
set_option maxRecDepth 100000
theorem r0f0 : rr 0 false 0 = true := by kernel_rfl
theorem r0f1 : rr 0 false 1 = true := by kernel_rfl
theorem r0f2 : rr 0 false 2 = true := by kernel_rfl
theorem r0f3 : rr 0 false 3 = true := by kernel_rfl
theorem r1f0 : rr 1 false 0 = true := by kernel_rfl
theorem r1f1 : rr 1 false 1 = true := by kernel_rfl
theorem r1f2 : rr 1 false 2 = true := by kernel_rfl
theorem r1f3 : rr 1 false 3 = true := by kernel_rfl
theorem r2f0 : rr 2 false 0 = true := by kernel_rfl
theorem r2f1 : rr 2 false 1 = true := by kernel_rfl
theorem r2f2 : rr 2 false 2 = true := by kernel_rfl
theorem r2f3 : rr 2 false 3 = true := by kernel_rfl
theorem r3f0 : rr 3 false 0 = true := by kernel_rfl
theorem r3f1 : rr 3 false 1 = true := by kernel_rfl
theorem r3f2 : rr 3 false 2 = true := by kernel_rfl
theorem r3f3 : rr 3 false 3 = true := by kernel_rfl
theorem r4f0 : rr 4 false 0 = true := by kernel_rfl
theorem r4f1 : rr 4 false 1 = true := by kernel_rfl
theorem r4f2 : rr 4 false 2 = true := by kernel_rfl
theorem r4f3 : rr 4 false 3 = true := by kernel_rfl
theorem rr_false : ∀ (f k : Nat), f < 5 → k < 4 → rr f false k = true
  | 0, 0, _, _ => r0f0
  | 0, 1, _, _ => r0f1
  | 0, 2, _, _ => r0f2
  | 0, 3, _, _ => r0f3
  | 1, 0, _, _ => r1f0
  | 1, 1, _, _ => r1f1
  | 1, 2, _, _ => r1f2
  | 1, 3, _, _ => r1f3
  | 2, 0, _, _ => r2f0
  | 2, 1, _, _ => r2f1
  | 2, 2, _, _ => r2f2
  | 2, 3, _, _ => r2f3
  | 3, 0, _, _ => r3f0
  | 3, 1, _, _ => r3f1
  | 3, 2, _, _ => r3f2
  | 3, 3, _, _ => r3f3
  | 4, 0, _, _ => r4f0
  | 4, 1, _, _ => r4f1
  | 4, 2, _, _ => r4f2
  | 4, 3, _, _ => r4f3
  | _ + 5, _, h, _ => absurd h (by omega)
  | _, _ + 4, _, h => absurd h (by omega)
end Go.PE.Sr1
