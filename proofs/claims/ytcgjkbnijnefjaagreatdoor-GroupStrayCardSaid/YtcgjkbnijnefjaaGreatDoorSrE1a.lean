/- GroupStray's last part, from the loop on (group 1, epochs whose remainder is nought). -/
import Derived.Test.YtcgjkbnijnefjaaGreatDoorSrD1
namespace Go.PE.Sr1
open Go.Proofs
set_option maxRecDepth 100000
theorem r0t0 : rr 0 true 0 = true := by kernel_rfl
theorem r0t1 : rr 0 true 1 = true := by kernel_rfl
theorem r0t2 : rr 0 true 2 = true := by kernel_rfl
theorem r0t3 : rr 0 true 3 = true := by kernel_rfl
theorem r1t0 : rr 1 true 0 = true := by kernel_rfl
theorem r1t1 : rr 1 true 1 = true := by kernel_rfl
theorem r1t2 : rr 1 true 2 = true := by kernel_rfl
theorem r1t3 : rr 1 true 3 = true := by kernel_rfl
theorem r2t0 : rr 2 true 0 = true := by kernel_rfl
theorem r2t1 : rr 2 true 1 = true := by kernel_rfl
theorem r2t2 : rr 2 true 2 = true := by kernel_rfl
theorem r2t3 : rr 2 true 3 = true := by kernel_rfl
theorem r3t0 : rr 3 true 0 = true := by kernel_rfl
theorem r3t1 : rr 3 true 1 = true := by kernel_rfl
theorem r3t2 : rr 3 true 2 = true := by kernel_rfl
theorem r3t3 : rr 3 true 3 = true := by kernel_rfl
theorem r4t0 : rr 4 true 0 = true := by kernel_rfl
theorem r4t1 : rr 4 true 1 = true := by kernel_rfl
theorem r4t2 : rr 4 true 2 = true := by kernel_rfl
theorem r4t3 : rr 4 true 3 = true := by kernel_rfl
theorem rr_true : ∀ (f k : Nat), f < 5 → k < 4 → rr f true k = true
  | 0, 0, _, _ => r0t0
  | 0, 1, _, _ => r0t1
  | 0, 2, _, _ => r0t2
  | 0, 3, _, _ => r0t3
  | 1, 0, _, _ => r1t0
  | 1, 1, _, _ => r1t1
  | 1, 2, _, _ => r1t2
  | 1, 3, _, _ => r1t3
  | 2, 0, _, _ => r2t0
  | 2, 1, _, _ => r2t1
  | 2, 2, _, _ => r2t2
  | 2, 3, _, _ => r2t3
  | 3, 0, _, _ => r3t0
  | 3, 1, _, _ => r3t1
  | 3, 2, _, _ => r3t2
  | 3, 3, _, _ => r3t3
  | 4, 0, _, _ => r4t0
  | 4, 1, _, _ => r4t1
  | 4, 2, _, _ => r4t2
  | 4, 3, _, _ => r4t3
  | _ + 5, _, h, _ => absurd h (by omega)
  | _, _ + 4, _, h => absurd h (by omega)
end Go.PE.Sr1
