/- GroupAgain's runs (group 2, part 4), reckoned by the kernel. -/
import Derived.Test.YtcgjkbnijnefjaaGreatDoorAgD2
import Derived.KernelRfl
namespace Go.PE.Ag2
open Go.Proofs
set_option maxRecDepth 100000
theorem a8 : A8 = true := by kernel_rfl
theorem b8_0 : B8 0 = true := by kernel_rfl
theorem b8_1 : B8 1 = true := by kernel_rfl
theorem b8_4 : B8 4 = true := by kernel_rfl
theorem b8_5 : B8 5 = true := by kernel_rfl
theorem b8_8 : B8 8 = true := by kernel_rfl
theorem b8_9 : B8 9 = true := by kernel_rfl
theorem q8 : Q8 = true := by kernel_rfl
theorem p8 : P8 = true := by kernel_rfl
theorem c8 : C8 0 = true := by kernel_rfl
theorem z8 : Z8 0 = true := by kernel_rfl
theorem go8 {s : ByteArray} (hs : s.size ≤ 16) {r : Nat} (hr : r < 12) : Ends 2 7 r s := all_ok (hC := fun _ => hC8) (hZ := fun _ => hZ8) hs a8 (six b8_0 b8_1 b8_4 b8_5 b8_8 b8_9) q8 p8 (fun _ => c8) (fun _ => z8) hr
theorem a9 : A9 = true := by kernel_rfl
theorem b9_0 : B9 0 = true := by kernel_rfl
theorem b9_1 : B9 1 = true := by kernel_rfl
theorem b9_4 : B9 4 = true := by kernel_rfl
theorem b9_5 : B9 5 = true := by kernel_rfl
theorem b9_8 : B9 8 = true := by kernel_rfl
theorem b9_9 : B9 9 = true := by kernel_rfl
theorem q9 : Q9 = true := by kernel_rfl
theorem p9 : P9 = true := by kernel_rfl
theorem c9 : C9 0 = true := by kernel_rfl
theorem z9 : Z9 0 = true := by kernel_rfl
theorem go9 {s : ByteArray} (hs : s.size ≤ 16) {r : Nat} (hr : r < 12) : Ends 2 8 r s := all_ok (hC := fun _ => hC9) (hZ := fun _ => hZ9) hs a9 (six b9_0 b9_1 b9_4 b9_5 b9_8 b9_9) q9 p9 (fun _ => c9) (fun _ => z9) hr
end Go.PE.Ag2
