/- GroupAgain's runs (group 0, part 1), reckoned by the kernel. -/
import Derived.Test.YtcgjkbnijnefjaaGreatDoorAgD0
import Derived.KernelRfl
namespace Go.PE.Ag0
open Go.Proofs
set_option maxRecDepth 100000
theorem a1 : A1 = true := by kernel_rfl
theorem b1_0 : B1 0 = true := by kernel_rfl
theorem b1_1 : B1 1 = true := by kernel_rfl
theorem b1_4 : B1 4 = true := by kernel_rfl
theorem b1_5 : B1 5 = true := by kernel_rfl
theorem b1_8 : B1 8 = true := by kernel_rfl
theorem b1_9 : B1 9 = true := by kernel_rfl
theorem q1 : Q1 = true := by kernel_rfl
theorem p1 : P1 = true := by kernel_rfl
theorem c1 : C1 0 = true := by kernel_rfl
theorem z1 : Z1 0 = true := by kernel_rfl
theorem go1 {s : ByteArray} (hs : s.size ≤ 16) {r : Nat} (hr : r < 12) : Ends 0 0 r s := all_ok (hC := fun _ => hC1) (hZ := fun _ => hZ1) hs a1 (six b1_0 b1_1 b1_4 b1_5 b1_8 b1_9) q1 p1 (fun _ => c1) (fun _ => z1) hr
theorem a2 : A2 = true := by kernel_rfl
theorem b2_0 : B2 0 = true := by kernel_rfl
theorem b2_1 : B2 1 = true := by kernel_rfl
theorem b2_4 : B2 4 = true := by kernel_rfl
theorem b2_5 : B2 5 = true := by kernel_rfl
theorem b2_8 : B2 8 = true := by kernel_rfl
theorem b2_9 : B2 9 = true := by kernel_rfl
theorem q2 : Q2 = true := by kernel_rfl
theorem p2 : P2 = true := by kernel_rfl
theorem c2 : C2 0 = true := by kernel_rfl
theorem z2 : Z2 0 = true := by kernel_rfl
theorem go2 {s : ByteArray} (hs : s.size ≤ 16) {r : Nat} (hr : r < 12) : Ends 0 1 r s := all_ok (hC := fun _ => hC2) (hZ := fun _ => hZ2) hs a2 (six b2_0 b2_1 b2_4 b2_5 b2_8 b2_9) q2 p2 (fun _ => c2) (fun _ => z2) hr
theorem a3 : A3 = true := by kernel_rfl
theorem b3_0 : B3 0 = true := by kernel_rfl
theorem b3_1 : B3 1 = true := by kernel_rfl
theorem b3_4 : B3 4 = true := by kernel_rfl
theorem b3_5 : B3 5 = true := by kernel_rfl
theorem b3_8 : B3 8 = true := by kernel_rfl
theorem b3_9 : B3 9 = true := by kernel_rfl
theorem q3 : Q3 = true := by kernel_rfl
theorem p3 : P3 = true := by kernel_rfl
theorem c3 : C3 0 = true := by kernel_rfl
theorem z3 : Z3 0 = true := by kernel_rfl
theorem go3 {s : ByteArray} (hs : s.size ≤ 16) {r : Nat} (hr : r < 12) : Ends 0 2 r s := all_ok (hC := fun _ => hC3) (hZ := fun _ => hZ3) hs a3 (six b3_0 b3_1 b3_4 b3_5 b3_8 b3_9) q3 p3 (fun _ => c3) (fun _ => z3) hr
end Go.PE.Ag0
