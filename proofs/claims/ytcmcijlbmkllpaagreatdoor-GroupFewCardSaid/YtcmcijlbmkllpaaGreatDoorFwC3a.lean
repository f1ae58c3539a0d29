/- GroupFew at some of its classes of inputs (group 3), reckoned by the kernel. -/
import Derived.Test.YtcmcijlbmkllpaaGreatDoorFwA3
import Derived.KernelRfl
namespace Go.PE
set_option maxRecDepth 100000
def cl_g3_0 : List (List V) := [[.int .u8 3, .int .u8 0], [.int .u8 3, .int .u8 1]]
theorem c_g3_0 : (cl_g3_0.all (trueB ctx_g3 5)) = true := by kernel_rfl
def cl_g3_1 : List (List V) := [[.int .u8 3, .int .u8 2], [.int .u8 3, .int .u8 3]]
theorem c_g3_1 : (cl_g3_1.all (trueB ctx_g3 5)) = true := by kernel_rfl
def cl_g3_2 : List (List V) := [[.int .u8 3, .int .u8 4], [.int .u8 3, .int .u8 5]]
theorem c_g3_2 : (cl_g3_2.all (trueB ctx_g3 5)) = true := by kernel_rfl
def cl_g3_3 : List (List V) := [[.int .u8 3, .int .u8 6], [.int .u8 3, .int .u8 7]]
theorem c_g3_3 : (cl_g3_3.all (trueB ctx_g3 5)) = true := by kernel_rfl
end Go.PE
