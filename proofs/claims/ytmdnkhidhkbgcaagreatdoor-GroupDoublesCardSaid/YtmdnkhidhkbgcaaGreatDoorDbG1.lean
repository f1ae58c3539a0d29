/- GroupDoubles: what must be known of group 1. -/
import Derived.Test.YtmdnkhidhkbgcaaGreatDoorDbE10
import Derived.Test.YtmdnkhidhkbgcaaGreatDoorDbE11
import Derived.Test.YtmdnkhidhkbgcaaGreatDoorDbE12
import Derived.KernelRfl
namespace Go.PE.Db1
open Go.Proofs
set_option maxRecDepth 100000
theorem lA : Nat.ble (fA (gps 1)).length 144 = true := by kernel_rfl
theorem qA : ∀ j, j < 9 → Chunk (rA (gps 1)) (eA (gps 1)) (fA (gps 1)) 16 j
  | 0, _ => a0
  | 1, _ => a1
  | 2, _ => a2
  | 3, _ => a3
  | 4, _ => a4
  | 5, _ => a5
  | 6, _ => a6
  | 7, _ => a7
  | 8, _ => a8
  | n + 9, h => absurd h (by omega)
theorem lB : Nat.ble (fB (gps 1)).length 32 = true := by kernel_rfl
theorem qB : ∀ j, j < 2 → Chunk (rB (gps 1)) (eB (gps 1)) (fB (gps 1)) 16 j
  | 0, _ => b0
  | 1, _ => b1
  | n + 2, h => absurd h (by omega)
theorem lC : Nat.ble (fC (gps 1)).length 48 = true := by kernel_rfl
theorem qC : ∀ j, j < 3 → Chunk (rC (gps 1)) (eC (gps 1)) (fC (gps 1)) 16 j
  | 0, _ => c0
  | 1, _ => c1
  | 2, _ => c2
  | n + 3, h => absurd h (by omega)
theorem lD : Nat.ble (fD (gps 1)).length 32 = true := by kernel_rfl
theorem qD : ∀ j, j < 2 → Chunk (rD (gps 1)) (eD (gps 1)) (fD (gps 1)) 16 j
  | 0, _ => d0
  | 1, _ => d1
  | n + 2, h => absurd h (by omega)
theorem lE : Nat.ble (fE (gps 1)).length 160 = true := by kernel_rfl
theorem qE : ∀ j, j < 10 → Chunk (rE (gps 1)) (eE (gps 1)) (fE (gps 1)) 16 j
  | 0, _ => e0
  | 1, _ => e1
  | 2, _ => e2
  | 3, _ => e3
  | 4, _ => e4
  | 5, _ => e5
  | 6, _ => e6
  | 7, _ => e7
  | 8, _ => e8
  | 9, _ => e9
  | n + 10, h => absurd h (by omega)
theorem lM : Nat.ble (fM (gps 1)).length 48 = true := by kernel_rfl
theorem qM : ∀ j, j < 3 → Chunk (rM (gps 1)) (eM (gps 1)) (fM (gps 1)) 16 j
  | 0, _ => m0
  | 1, _ => m1
  | 2, _ => m2
  | n + 3, h => absurd h (by omega)
theorem facts : Fcts (gps 1) := ⟨fun _ h v => chunks (by decide) (ble_le lA) qA h v, fun _ h v => chunks (by decide) (ble_le lB) qB h v, fun _ h v => chunks (by decide) (ble_le lC) qC h v, fun _ h v => chunks (by decide) (ble_le lD) qD h v, fun _ h v => chunks (by decide) (ble_le lE) qE h v, fun _ h v => chunks (by decide) (ble_le lM) qM h v⟩
theorem h1 : k1 (gps 1) = true := by kernel_rfl
theorem h2 : k2 (gps 1) = true := by kernel_rfl
theorem h3 : k3 (gps 1) = true := by kernel_rfl
theorem h4 : k4 (gps 1) = true := by kernel_rfl
theorem h5 : k5 (gps 1) = true := by kernel_rfl
theorem h6 : k6 (gps 1) = true := by kernel_rfl
theorem h7 : k7 (gps 1) = true := by kernel_rfl
theorem h9 : k9 (gps 1) = true := by kernel_rfl
theorem h10 : k10 (gps 1) = true := by kernel_rfl
theorem h11 : k11 (gps 1) = true := by kernel_rfl
theorem net : Net (gps 1) := net_of facts h1 h2 h3 h4 h5 h6 h7 h9 h10
theorem asked : ∀ i, 1 ≤ i → i ≤ 9 → AskOK (gps 1) i
  | 0, h, _ => absurd h (by decide)
  | 1, h, k => ask_of h1 h9 h h11 k s1
  | 2, h, k => ask_of h1 h9 h h11 k s2
  | 3, h, k => ask_of h1 h9 h h11 k s3
  | 4, h, k => ask_of h1 h9 h h11 k s4
  | 5, h, k => ask_of h1 h9 h h11 k s5
  | 6, h, k => ask_of h1 h9 h h11 k s6
  | 7, h, k => ask_of h1 h9 h h11 k s7
  | 8, h, k => ask_of h1 h9 h h11 k s8
  | 9, h, k => ask_of h1 h9 h h11 k s9
  | n + 10, _, h => absurd h (by omega)
theorem ended : ∀ k, 1 ≤ k → k ≤ 9 → FinOK (gps 1) k
  | 0, h, _ => absurd h (by decide)
  | 1, _, _ => fin_of (by decide) (by decide) (by decide) z1
  | 2, _, _ => fin_of (by decide) (by decide) (by decide) z2
  | 3, _, _ => fin_of (by decide) (by decide) (by decide) z3
  | 4, _, _ => fin_of (by decide) (by decide) (by decide) z4
  | 5, _, _ => fin_of (by decide) (by decide) (by decide) z5
  | 6, _, _ => fin_of (by decide) (by decide) (by decide) z6
  | 7, _, _ => fin_of (by decide) (by decide) (by decide) z7
  | 8, _, _ => fin_of (by decide) (by decide) (by decide) z8
  | 9, _, _ => fin_of (by decide) (by decide) (by decide) z9
  | n + 10, _, h => absurd h (by omega)
theorem begun : rBeg (gps 1) 1 = some (true, []) := by kernel_rfl
end Go.PE.Db1
