/- GroupAgain's runs (group 1, part 3), reckoned by the kernel. -/
import Derived.Test.YtcgjkbnijnefjaaGreatDoorAgD1
import Derived.KernelRfl
namespace Go.PE.Ag1
open Go.Proofs
set_option maxRecDepth 100000
theorem a6 : A6 = true := by kernel_rfl
theorem b6_0 : B6 0 = true := by kernel_rfl
theorem b6_1 : B6 1 = true := by kernel_rfl
theorem b6_4 : B6 4 = true := by kernel_rfl
theorem b6_5 : B6 5 = true := by kernel_rfl
theorem b6_8 : B6 8 = true := by kernel_rfl
theorem b6_9 : B6 9 = true := by kernel_rfl
theorem q6 : Q6 = true := by kernel_rfl
theorem p6 : P6 = true := by kernel_rfl
theorem c6 : C6 0 = true := by kernel_rfl
theorem z6 : Z6 0 = true := by kernel_rfl
theorem go6 {s : ByteArray} (hs : s.size ≤ 16) {r : Nat} (hr : r < 12) : Ends 1 5 r s := all_ok (hC := fun _ => hC6) (hZ := fun _ => hZ6) hs a6 (six b6_0 b6_1 b6_4 b6_5 b6_8 b6_9) q6 p6 (fun _ => c6) (fun _ => z6) hr
theorem a7 : A7 = true := by kernel_rfl
theorem b7_0 : B7 0 = true := by kernel_rfl
theorem b7_1 : B7 1 = true := by kernel_rfl
theorem b7_4 : B7 4 = true := by kernel_rfl
theorem b7_5 : B7 5 = true := by kernel_rfl
theorem b7_8 : B7 8 = true := by kernel_rfl
theorem b7_9 : B7 9 = true := by kernel_rfl
theorem q7 : Q7 = true := by kernel_rfl
theorem p7 : P7 = true := by kernel_rfl
theorem c7_0 : C7 0 = true := by kernel_rfl
theorem z7_0 : Z7 0 = true := by kernel_rfl
theorem c7_1 : C7 1 = true := by kernel_rfl
theorem z7_1 : Z7 1 = true := by kernel_rfl
theorem c7_2 : C7 2 = true := by kernel_rfl
theorem z7_2 : Z7 2 = true := by kernel_rfl
theorem go7 {s : ByteArray} (hs : s.size ≤ 16) {r : Nat} (hr : r < 12) : Ends 1 6 r s := all_ok (hC := fun r => hv r hC7 hC7b hC7c) (hZ := fun r => hv r hZ7 hZ7b hZ7c) hs a7 (six b7_0 b7_1 b7_4 b7_5 b7_8 b7_9) q7 p7 (hv_all (P := fun x y => goC eC7 x pZ7 eZ7 y = true) c7_0 c7_1 c7_2) (hv_all (P := fun x _ => goZ eZ7 x = true) (a' := []) (b' := []) (c' := []) z7_0 z7_1 z7_2) hr
end Go.PE.Ag1
