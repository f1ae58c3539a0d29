/- The phases between the checkpoints (group 2), reckoned by the kernel. -/
import Derived.Test.YtcgjkbnijnefjaaGreatDoorStE2
import Derived.KernelRfl
namespace Go.PE.St2
set_option maxRecDepth 100000
theorem a4 : pA 2 4 = true := by kernel_rfl
theorem c4 : pC 2 4 pi4 e4 h4 = true := by kernel_rfl
theorem k4 : closedB h4 = true := by kernel_rfl
theorem b4_0 : bo e4 h4 all4 (dd4 0) 0 = gh h4 := by kernel_rfl
theorem b4_1 : bo e4 h4 all4 (dd4 1) 1 = gh h4 := by kernel_rfl
theorem b4_2 : bo e4 h4 all4 (dd4 2) 2 = gh h4 := by kernel_rfl
theorem b4_3 : bo e4 h4 all4 (dd4 3) 3 = gh h4 := by kernel_rfl
theorem b4_4 : bo e4 h4 all4 (dd4 4) 4 = gh h4 := by kernel_rfl
theorem b4_5 : bo e4 h4 all4 (dd4 5) 5 = gh h4 := by kernel_rfl
theorem b4_6 : bo e4 h4 all4 (dd4 6) 6 = gh h4 := by kernel_rfl
theorem b4_7 : bo e4 h4 all4 (dd4 7) 7 = gh h4 := by kernel_rfl
theorem b4_8 : bo e4 h4 all4 (dd4 8) 8 = gh h4 := by kernel_rfl
theorem b4_9 : bo e4 h4 all4 (dd4 9) 9 = gh h4 := by kernel_rfl
theorem b4_10 : bo e4 h4 all4 (dd4 10) 10 = gh h4 := by kernel_rfl
theorem b4_11 : bo e4 h4 all4 (dd4 11) 11 = gh h4 := by kernel_rfl
theorem b4_12 : bo e4 h4 all4 (dd4 12) 12 = gh h4 := by kernel_rfl
theorem b4_13 : bo e4 h4 all4 (dd4 13) 13 = gh h4 := by kernel_rfl
theorem b4_14 : bo e4 h4 all4 (dd4 14) 14 = gh h4 := by kernel_rfl
theorem b4_15 : bo e4 h4 all4 (dd4 15) 15 = gh h4 := by kernel_rfl
theorem b4_16 : bo e4 h4 all4 (dd4 16) 16 = gh h4 := by kernel_rfl
theorem b4_17 : bo e4 h4 all4 (dd4 17) 17 = gh h4 := by kernel_rfl
theorem b4_18 : bo e4 h4 all4 (dd4 18) 18 = gh h4 := by kernel_rfl
theorem b4_19 : bo e4 h4 all4 (dd4 19) 19 = gh h4 := by kernel_rfl
theorem b4_20 : bo e4 h4 all4 (dd4 20) 20 = gh h4 := by kernel_rfl
theorem b4_21 : bo e4 h4 all4 (dd4 21) 21 = gh h4 := by kernel_rfl
theorem b4_22 : bo e4 h4 all4 (dd4 22) 22 = gh h4 := by kernel_rfl
theorem b4_23 : bo e4 h4 all4 (dd4 23) 23 = gh h4 := by kernel_rfl
theorem b4_24 : bo e4 h4 all4 (dd4 24) 24 = gh h4 := by kernel_rfl
theorem b4_25 : bo e4 h4 all4 (dd4 25) 25 = gh h4 := by kernel_rfl
theorem b4_26 : bo e4 h4 all4 (dd4 26) 26 = gh h4 := by kernel_rfl
theorem b4_27 : bo e4 h4 all4 (dd4 27) 27 = gh h4 := by kernel_rfl
theorem b4_28 : bo e4 h4 all4 (dd4 28) 28 = gh h4 := by kernel_rfl
theorem b4_29 : bo e4 h4 all4 (dd4 29) 29 = gh h4 := by kernel_rfl
theorem b4_30 : bo e4 h4 all4 (dd4 30) 30 = gh h4 := by kernel_rfl
theorem b4_31 : bo e4 h4 all4 (dd4 31) 31 = gh h4 := by kernel_rfl
theorem b4_32 : bo e4 h4 all4 (dd4 32) 32 = gh h4 := by kernel_rfl
theorem b4_33 : bo e4 h4 all4 (dd4 33) 33 = gh h4 := by kernel_rfl
theorem b4_34 : bo e4 h4 all4 (dd4 34) 34 = gh h4 := by kernel_rfl
theorem b4_35 : bo e4 h4 all4 (dd4 35) 35 = gh h4 := by kernel_rfl
theorem b4_36 : bo e4 h4 all4 (dd4 36) 36 = gh h4 := by kernel_rfl
theorem t4 : pT e4 h4 = true := by kernel_rfl
theorem l4 : pL e4 h4 all4 37 = true := by kernel_rfl
theorem data4 : StData 2 4 e4 h4 pi4 all4 37 dd4 := mk_data a4 c4 k4 (sn (sn (sn (sn (sn (sn (sn (sn (sn (sn (sn (sn (sn (sn (sn (sn (sn (sn (sn (sn (sn (sn (sn (sn (sn (sn (sn (sn (sn (sn (sn (sn (sn (sn (sn (sn (sn (z0) b4_0) b4_1) b4_2) b4_3) b4_4) b4_5) b4_6) b4_7) b4_8) b4_9) b4_10) b4_11) b4_12) b4_13) b4_14) b4_15) b4_16) b4_17) b4_18) b4_19) b4_20) b4_21) b4_22) b4_23) b4_24) b4_25) b4_26) b4_27) b4_28) b4_29) b4_30) b4_31) b4_32) b4_33) b4_34) b4_35) b4_36) t4 rfl l4 (by decide)
theorem a5 : pA 2 5 = true := by kernel_rfl
theorem c5 : pC 2 5 pi5 e5 h5 = true := by kernel_rfl
theorem k5 : closedB h5 = true := by kernel_rfl
theorem b5_0 : bo e5 h5 all5 (dd5 0) 0 = gh h5 := by kernel_rfl
theorem b5_1 : bo e5 h5 all5 (dd5 1) 1 = gh h5 := by kernel_rfl
theorem b5_2 : bo e5 h5 all5 (dd5 2) 2 = gh h5 := by kernel_rfl
theorem b5_3 : bo e5 h5 all5 (dd5 3) 3 = gh h5 := by kernel_rfl
theorem b5_4 : bo e5 h5 all5 (dd5 4) 4 = gh h5 := by kernel_rfl
theorem b5_5 : bo e5 h5 all5 (dd5 5) 5 = gh h5 := by kernel_rfl
theorem b5_6 : bo e5 h5 all5 (dd5 6) 6 = gh h5 := by kernel_rfl
theorem b5_7 : bo e5 h5 all5 (dd5 7) 7 = gh h5 := by kernel_rfl
theorem b5_8 : bo e5 h5 all5 (dd5 8) 8 = gh h5 := by kernel_rfl
theorem b5_9 : bo e5 h5 all5 (dd5 9) 9 = gh h5 := by kernel_rfl
theorem b5_10 : bo e5 h5 all5 (dd5 10) 10 = gh h5 := by kernel_rfl
theorem b5_11 : bo e5 h5 all5 (dd5 11) 11 = gh h5 := by kernel_rfl
theorem b5_12 : bo e5 h5 all5 (dd5 12) 12 = gh h5 := by kernel_rfl
theorem b5_13 : bo e5 h5 all5 (dd5 13) 13 = gh h5 := by kernel_rfl
theorem b5_14 : bo e5 h5 all5 (dd5 14) 14 = gh h5 := by kernel_rfl
theorem b5_15 : bo e5 h5 all5 (dd5 15) 15 = gh h5 := by kernel_rfl
theorem b5_16 : bo e5 h5 all5 (dd5 16) 16 = gh h5 := by kernel_rfl
theorem b5_17 : bo e5 h5 all5 (dd5 17) 17 = gh h5 := by kernel_rfl
theorem b5_18 : bo e5 h5 all5 (dd5 18) 18 = gh h5 := by kernel_rfl
theorem b5_19 : bo e5 h5 all5 (dd5 19) 19 = gh h5 := by kernel_rfl
theorem b5_20 : bo e5 h5 all5 (dd5 20) 20 = gh h5 := by kernel_rfl
theorem b5_21 : bo e5 h5 all5 (dd5 21) 21 = gh h5 := by kernel_rfl
theorem b5_22 : bo e5 h5 all5 (dd5 22) 22 = gh h5 := by kernel_rfl
theorem b5_23 : bo e5 h5 all5 (dd5 23) 23 = gh h5 := by kernel_rfl
theorem b5_24 : bo e5 h5 all5 (dd5 24) 24 = gh h5 := by kernel_rfl
theorem b5_25 : bo e5 h5 all5 (dd5 25) 25 = gh h5 := by kernel_rfl
theorem b5_26 : bo e5 h5 all5 (dd5 26) 26 = gh h5 := by kernel_rfl
theorem b5_27 : bo e5 h5 all5 (dd5 27) 27 = gh h5 := by kernel_rfl
theorem b5_28 : bo e5 h5 all5 (dd5 28) 28 = gh h5 := by kernel_rfl
theorem b5_29 : bo e5 h5 all5 (dd5 29) 29 = gh h5 := by kernel_rfl
theorem b5_30 : bo e5 h5 all5 (dd5 30) 30 = gh h5 := by kernel_rfl
theorem b5_31 : bo e5 h5 all5 (dd5 31) 31 = gh h5 := by kernel_rfl
theorem b5_32 : bo e5 h5 all5 (dd5 32) 32 = gh h5 := by kernel_rfl
theorem b5_33 : bo e5 h5 all5 (dd5 33) 33 = gh h5 := by kernel_rfl
theorem b5_34 : bo e5 h5 all5 (dd5 34) 34 = gh h5 := by kernel_rfl
theorem b5_35 : bo e5 h5 all5 (dd5 35) 35 = gh h5 := by kernel_rfl
theorem b5_36 : bo e5 h5 all5 (dd5 36) 36 = gh h5 := by kernel_rfl
theorem b5_37 : bo e5 h5 all5 (dd5 37) 37 = gh h5 := by kernel_rfl
theorem b5_38 : bo e5 h5 all5 (dd5 38) 38 = gh h5 := by kernel_rfl
theorem b5_39 : bo e5 h5 all5 (dd5 39) 39 = gh h5 := by kernel_rfl
theorem b5_40 : bo e5 h5 all5 (dd5 40) 40 = gh h5 := by kernel_rfl
theorem b5_41 : bo e5 h5 all5 (dd5 41) 41 = gh h5 := by kernel_rfl
theorem t5 : pT e5 h5 = true := by kernel_rfl
theorem l5 : pL e5 h5 all5 42 = true := by kernel_rfl
theorem data5 : StData 2 5 e5 h5 pi5 all5 42 dd5 := mk_data a5 c5 k5 (sn (sn (sn (sn (sn (sn (sn (sn (sn (sn (sn (sn (sn (sn (sn (sn (sn (sn (sn (sn (sn (sn (sn (sn (sn (sn (sn (sn (sn (sn (sn (sn (sn (sn (sn (sn (sn (sn (sn (sn (sn (sn (z0) b5_0) b5_1) b5_2) b5_3) b5_4) b5_5) b5_6) b5_7) b5_8) b5_9) b5_10) b5_11) b5_12) b5_13) b5_14) b5_15) b5_16) b5_17) b5_18) b5_19) b5_20) b5_21) b5_22) b5_23) b5_24) b5_25) b5_26) b5_27) b5_28) b5_29) b5_30) b5_31) b5_32) b5_33) b5_34) b5_35) b5_36) b5_37) b5_38) b5_39) b5_40) b5_41) t5 rfl l5 (by decide)
end Go.PE.St2
