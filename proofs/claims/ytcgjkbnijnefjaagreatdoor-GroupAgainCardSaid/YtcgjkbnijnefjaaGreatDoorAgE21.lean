/- GroupAgain's runs (group 2, part 2), reckoned by the kernel. -/
import Derived.Test.YtcgjkbnijnefjaaGreatDoorAgD2
import Derived.KernelRfl
namespace Go.PE.Ag2
open Go.Proofs
set_option maxRecDepth 100000
theorem a4 : A4 = true := by kernel_rfl
theorem b4_0 : B4 0 = true := by kernel_rfl
theorem b4_1 : B4 1 = true := by kernel_rfl
theorem b4_4 : B4 4 = true := by kernel_rfl
theorem b4_5 : B4 5 = true := by kernel_rfl
theorem b4_8 : B4 8 = true := by kernel_rfl
theorem b4_9 : B4 9 = true := by kernel_rfl
theorem q4 : Q4 = true := by kernel_rfl
theorem p4 : P4 = true := by kernel_rfl
theorem c4 : C4 0 = true := by kernel_rfl
theorem z4 : Z4 0 = true := by kernel_rfl
theorem go4 {s : ByteArray} (hs : s.size ≤ 16) {r : Nat} (hr : r < 12) : Ends 2 3 r s := all_ok (hC := fun _ => hC4) (hZ := fun _ => hZ4) hs a4 (six b4_0 b4_1 b4_4 b4_5 b4_8 b4_9) q4 p4 (fun _ => c4) (fun _ => z4) hr
theorem a5 : A5 = true := by kernel_rfl
theorem b5_0 : B5 0 = true := by kernel_rfl
theorem b5_1 : B5 1 = true := by kernel_rfl
theorem b5_4 : B5 4 = true := by kernel_rfl
theorem b5_5 : B5 5 = true := by kernel_rfl
theorem b5_8 : B5 8 = true := by kernel_rfl
theorem b5_9 : B5 9 = true := by kernel_rfl
theorem q5 : Q5 = true := by kernel_rfl
theorem p5 : P5 = true := by kernel_rfl
theorem c5 : C5 0 = true := by kernel_rfl
theorem z5 : Z5 0 = true := by kernel_rfl
theorem go5 {s : ByteArray} (hs : s.size ≤ 16) {r : Nat} (hr : r < 12) : Ends 2 4 r s := all_ok (hC := fun _ => hC5) (hZ := fun _ => hZ5) hs a5 (six b5_0 b5_1 b5_4 b5_5 b5_8 b5_9) q5 p5 (fun _ => c5) (fun _ => z5) hr
end Go.PE.Ag2
