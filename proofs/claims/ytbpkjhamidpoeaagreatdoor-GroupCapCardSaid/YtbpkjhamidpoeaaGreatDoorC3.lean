/- GroupCap at eight of its twenty-four classes of inputs, each reckoned by the kernel (part 3 of 3). -/
import Derived.Test.YtbpkjhamidpoeaaGreatDoorK2
import Derived.KernelRfl
namespace Go.PE
set_option maxRecDepth 100000
theorem cap_2_4 : (match ctx2 3 [.int .u8 2, .int .u8 4] ⟨.nil, 0⟩ with | some p => V.beq p.1 (.bool true) | none => false) = true := by kernel_rfl
theorem cap_2_5 : (match ctx2 3 [.int .u8 2, .int .u8 5] ⟨.nil, 0⟩ with | some p => V.beq p.1 (.bool true) | none => false) = true := by kernel_rfl
theorem cap_3_0 : (match ctx2 3 [.int .u8 3, .int .u8 0] ⟨.nil, 0⟩ with | some p => V.beq p.1 (.bool true) | none => false) = true := by kernel_rfl
theorem cap_3_1 : (match ctx2 3 [.int .u8 3, .int .u8 1] ⟨.nil, 0⟩ with | some p => V.beq p.1 (.bool true) | none => false) = true := by kernel_rfl
theorem cap_3_2 : (match ctx2 3 [.int .u8 3, .int .u8 2] ⟨.nil, 0⟩ with | some p => V.beq p.1 (.bool true) | none => false) = true := by kernel_rfl
theorem cap_3_3 : (match ctx2 3 [.int .u8 3, .int .u8 3] ⟨.nil, 0⟩ with | some p => V.beq p.1 (.bool true) | none => false) = true := by kernel_rfl
theorem cap_3_4 : (match ctx2 3 [.int .u8 3, .int .u8 4] ⟨.nil, 0⟩ with | some p => V.beq p.1 (.bool true) | none => false) = true := by kernel_rfl
theorem cap_3_5 : (match ctx2 3 [.int .u8 3, .int .u8 5] ⟨.nil, 0⟩ with | some p => V.beq p.1 (.bool true) | none => false) = true := by kernel_rfl
end Go.PE
