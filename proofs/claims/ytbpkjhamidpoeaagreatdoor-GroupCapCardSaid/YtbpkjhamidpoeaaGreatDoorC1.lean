/- GroupCap at eight of its twenty-four classes of inputs, each reckoned by the kernel (part 1 of 3). -/
import Derived.Test.YtbpkjhamidpoeaaGreatDoorK2
import Derived.KernelRfl
namespace Go.PE
set_option maxRecDepth 100000
theorem cap_0_0 : (match ctx2 3 [.int .u8 0, .int .u8 0] ⟨.nil, 0⟩ with | some p => V.beq p.1 (.bool true) | none => false) = true := by kernel_rfl
theorem cap_0_1 : (match ctx2 3 [.int .u8 0, .int .u8 1] ⟨.nil, 0⟩ with | some p => V.beq p.1 (.bool true) | none => false) = true := by kernel_rfl
theorem cap_0_2 : (match ctx2 3 [.int .u8 0, .int .u8 2] ⟨.nil, 0⟩ with | some p => V.beq p.1 (.bool true) | none => false) = true := by kernel_rfl
theorem cap_0_3 : (match ctx2 3 [.int .u8 0, .int .u8 3] ⟨.nil, 0⟩ with | some p => V.beq p.1 (.bool true) | none => false) = true := by kernel_rfl
theorem cap_0_4 : (match ctx2 3 [.int .u8 0, .int .u8 4] ⟨.nil, 0⟩ with | some p => V.beq p.1 (.bool true) | none => false) = true := by kernel_rfl
theorem cap_0_5 : (match ctx2 3 [.int .u8 0, .int .u8 5] ⟨.nil, 0⟩ with | some p => V.beq p.1 (.bool true) | none => false) = true := by kernel_rfl
theorem cap_1_0 : (match ctx2 3 [.int .u8 1, .int .u8 0] ⟨.nil, 0⟩ with | some p => V.beq p.1 (.bool true) | none => false) = true := by kernel_rfl
theorem cap_1_1 : (match ctx2 3 [.int .u8 1, .int .u8 1] ⟨.nil, 0⟩ with | some p => V.beq p.1 (.bool true) | none => false) = true := by kernel_rfl
end Go.PE
