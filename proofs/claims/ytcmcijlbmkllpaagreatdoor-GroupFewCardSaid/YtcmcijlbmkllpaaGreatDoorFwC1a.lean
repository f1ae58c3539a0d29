/- GroupFew at some of its classes of inputs (group 1), reckoned by the kernel. -/
import Derived.Test.YtcmcijlbmkllpaaGreatDoorFwA1
import Derived.KernelRfl
namespace Go.PE
set_option maxRecDepth 100000
def cl_g1_0 : List (List V) := [[.int .u8 1, .int .u8 0], [.int .u8 1, .int .u8 1]]
theorem c_g1_0 : (cl_g1_0.all (trueB ctx_g1 5)) = true := by kernel_rfl
def cl_g1_1 : List (List V) := [[.int .u8 1, .int .u8 2], [.int .u8 1, .int .u8 3]]
theorem c_g1_1 : (cl_g1_1.all (trueB ctx_g1 5)) = true := by kernel_rfl
def cl_g1_2 : List (List V) := [[.int .u8 1, .int .u8 4], [.int .u8 1, .int .u8 5]]
theorem c_g1_2 : (cl_g1_2.all (trueB ctx_g1 5)) = true := by kernel_rfl
def cl_g1_3 : List (List V) := [[.int .u8 1, .int .u8 6], [.int .u8 1, .int .u8 7]]
theorem c_g1_3 : (cl_g1_3.all (trueB ctx_g1 5)) = true := by kernel_rfl
end Go.PE
