/- GroupFew at some of its classes of inputs (group 2), reckoned by the kernel. -/
import Derived.Test.YtcmcijlbmkllpaaGreatDoorFwA2
import Derived.KernelRfl
namespace Go.PE
set_option maxRecDepth 100000
def cl_g2_0 : List (List V) := [[.int .u8 2, .int .u8 0], [.int .u8 2, .int .u8 1]]
theorem c_g2_0 : (cl_g2_0.all (trueB ctx_g2 5)) = true := by kernel_rfl
def cl_g2_1 : List (List V) := [[.int .u8 2, .int .u8 2], [.int .u8 2, .int .u8 3]]
theorem c_g2_1 : (cl_g2_1.all (trueB ctx_g2 5)) = true := by kernel_rfl
def cl_g2_2 : List (List V) := [[.int .u8 2, .int .u8 4], [.int .u8 2, .int .u8 5]]
theorem c_g2_2 : (cl_g2_2.all (trueB ctx_g2 5)) = true := by kernel_rfl
def cl_g2_3 : List (List V) := [[.int .u8 2, .int .u8 6], [.int .u8 2, .int .u8 7]]
theorem c_g2_3 : (cl_g2_3.all (trueB ctx_g2 5)) = true := by kernel_rfl
end Go.PE
