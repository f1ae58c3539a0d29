/- The phases between the checkpoints (group 3), reckoned by the kernel. -/
import Derived.Test.YtcgjkbnijnefjaaGreatDoorStE3
import Derived.KernelRfl
namespace Go.PE.St3
set_option maxRecDepth 100000
theorem a0 : pA 3 0 = true := by kernel_rfl
theorem c0 : pC 3 0 pi0 e0 h0 = true := by kernel_rfl
theorem k0 : closedB h0 = true := by kernel_rfl
theorem b0_0 : bo e0 h0 all0 (dd0 0) 0 = gh h0 := by kernel_rfl
theorem b0_1 : bo e0 h0 all0 (dd0 1) 1 = gh h0 := by kernel_rfl
theorem b0_2 : bo e0 h0 all0 (dd0 2) 2 = gh h0 := by kernel_rfl
theorem b0_3 : bo e0 h0 all0 (dd0 3) 3 = gh h0 := by kernel_rfl
theorem b0_4 : bo e0 h0 all0 (dd0 4) 4 = gh h0 := by kernel_rfl
theorem b0_5 : bo e0 h0 all0 (dd0 5) 5 = gh h0 := by kernel_rfl
theorem b0_6 : bo e0 h0 all0 (dd0 6) 6 = gh h0 := by kernel_rfl
theorem b0_7 : bo e0 h0 all0 (dd0 7) 7 = gh h0 := by kernel_rfl
theorem b0_8 : bo e0 h0 all0 (dd0 8) 8 = gh h0 := by kernel_rfl
theorem b0_9 : bo e0 h0 all0 (dd0 9) 9 = gh h0 := by kernel_rfl
theorem b0_10 : bo e0 h0 all0 (dd0 10) 10 = gh h0 := by kernel_rfl
theorem b0_11 : bo e0 h0 all0 (dd0 11) 11 = gh h0 := by kernel_rfl
theorem b0_12 : bo e0 h0 all0 (dd0 12) 12 = gh h0 := by kernel_rfl
theorem b0_13 : bo e0 h0 all0 (dd0 13) 13 = gh h0 := by kernel_rfl
theorem b0_14 : bo e0 h0 all0 (dd0 14) 14 = gh h0 := by kernel_rfl
theorem b0_15 : bo e0 h0 all0 (dd0 15) 15 = gh h0 := by kernel_rfl
theorem b0_16 : bo e0 h0 all0 (dd0 16) 16 = gh h0 := by kernel_rfl
theorem t0 : pT e0 h0 = true := by kernel_rfl
theorem l0 : pL e0 h0 all0 17 = true := by kernel_rfl
theorem data0 : StData 3 0 e0 h0 pi0 all0 17 dd0 := mk_data a0 c0 k0 (sn (sn (sn (sn (sn (sn (sn (sn (sn (sn (sn (sn (sn (sn (sn (sn (sn (z0) b0_0) b0_1) b0_2) b0_3) b0_4) b0_5) b0_6) b0_7) b0_8) b0_9) b0_10) b0_11) b0_12) b0_13) b0_14) b0_15) b0_16) t0 rfl l0 (by decide)
theorem a1 : pA 3 1 = true := by kernel_rfl
theorem c1 : pC 3 1 pi1 e1 h1 = true := by kernel_rfl
theorem k1 : closedB h1 = true := by kernel_rfl
theorem b1_0 : bo e1 h1 all1 (dd1 0) 0 = gh h1 := by kernel_rfl
theorem b1_1 : bo e1 h1 all1 (dd1 1) 1 = gh h1 := by kernel_rfl
theorem b1_2 : bo e1 h1 all1 (dd1 2) 2 = gh h1 := by kernel_rfl
theorem b1_3 : bo e1 h1 all1 (dd1 3) 3 = gh h1 := by kernel_rfl
theorem b1_4 : bo e1 h1 all1 (dd1 4) 4 = gh h1 := by kernel_rfl
theorem b1_5 : bo e1 h1 all1 (dd1 5) 5 = gh h1 := by kernel_rfl
theorem b1_6 : bo e1 h1 all1 (dd1 6) 6 = gh h1 := by kernel_rfl
theorem b1_7 : bo e1 h1 all1 (dd1 7) 7 = gh h1 := by kernel_rfl
theorem b1_8 : bo e1 h1 all1 (dd1 8) 8 = gh h1 := by kernel_rfl
theorem b1_9 : bo e1 h1 all1 (dd1 9) 9 = gh h1 := by kernel_rfl
theorem b1_10 : bo e1 h1 all1 (dd1 10) 10 = gh h1 := by kernel_rfl
theorem b1_11 : bo e1 h1 all1 (dd1 11) 11 = gh h1 := by kernel_rfl
theorem b1_12 : bo e1 h1 all1 (dd1 12) 12 = gh h1 := by kernel_rfl
theorem b1_13 : bo e1 h1 all1 (dd1 13) 13 = gh h1 := by kernel_rfl
theorem b1_14 : bo e1 h1 all1 (dd1 14) 14 = gh h1 := by kernel_rfl
theorem b1_15 : bo e1 h1 all1 (dd1 15) 15 = gh h1 := by kernel_rfl
theorem b1_16 : bo e1 h1 all1 (dd1 16) 16 = gh h1 := by kernel_rfl
theorem b1_17 : bo e1 h1 all1 (dd1 17) 17 = gh h1 := by kernel_rfl
theorem b1_18 : bo e1 h1 all1 (dd1 18) 18 = gh h1 := by kernel_rfl
theorem b1_19 : bo e1 h1 all1 (dd1 19) 19 = gh h1 := by kernel_rfl
theorem b1_20 : bo e1 h1 all1 (dd1 20) 20 = gh h1 := by kernel_rfl
theorem b1_21 : bo e1 h1 all1 (dd1 21) 21 = gh h1 := by kernel_rfl
theorem t1 : pT e1 h1 = true := by kernel_rfl
theorem l1 : pL e1 h1 all1 22 = true := by kernel_rfl
theorem data1 : StData 3 1 e1 h1 pi1 all1 22 dd1 := mk_data a1 c1 k1 (sn (sn (sn (sn (sn (sn (sn (sn (sn (sn (sn (sn (sn (sn (sn (sn (sn (sn (sn (sn (sn (sn (z0) b1_0) b1_1) b1_2) b1_3) b1_4) b1_5) b1_6) b1_7) b1_8) b1_9) b1_10) b1_11) b1_12) b1_13) b1_14) b1_15) b1_16) b1_17) b1_18) b1_19) b1_20) b1_21) t1 rfl l1 (by decide)
theorem a2 : pA 3 2 = true := by kernel_rfl
theorem c2 : pC 3 2 pi2 e2 h2 = true := by kernel_rfl
theorem k2 : closedB h2 = true := by kernel_rfl
theorem b2_0 : bo e2 h2 all2 (dd2 0) 0 = gh h2 := by kernel_rfl
theorem b2_1 : bo e2 h2 all2 (dd2 1) 1 = gh h2 := by kernel_rfl
theorem b2_2 : bo e2 h2 all2 (dd2 2) 2 = gh h2 := by kernel_rfl
theorem b2_3 : bo e2 h2 all2 (dd2 3) 3 = gh h2 := by kernel_rfl
theorem b2_4 : bo e2 h2 all2 (dd2 4) 4 = gh h2 := by kernel_rfl
theorem b2_5 : bo e2 h2 all2 (dd2 5) 5 = gh h2 := by kernel_rfl
theorem b2_6 : bo e2 h2 all2 (dd2 6) 6 = gh h2 := by kernel_rfl
theorem b2_7 : bo e2 h2 all2 (dd2 7) 7 = gh h2 := by kernel_rfl
theorem b2_8 : bo e2 h2 all2 (dd2 8) 8 = gh h2 := by kernel_rfl
theorem b2_9 : bo e2 h2 all2 (dd2 9) 9 = gh h2 := by kernel_rfl
theorem b2_10 : bo e2 h2 all2 (dd2 10) 10 = gh h2 := by kernel_rfl
theorem b2_11 : bo e2 h2 all2 (dd2 11) 11 = gh h2 := by kernel_rfl
theorem b2_12 : bo e2 h2 all2 (dd2 12) 12 = gh h2 := by kernel_rfl
theorem b2_13 : bo e2 h2 all2 (dd2 13) 13 = gh h2 := by kernel_rfl
theorem b2_14 : bo e2 h2 all2 (dd2 14) 14 = gh h2 := by kernel_rfl
theorem b2_15 : bo e2 h2 all2 (dd2 15) 15 = gh h2 := by kernel_rfl
theorem b2_16 : bo e2 h2 all2 (dd2 16) 16 = gh h2 := by kernel_rfl
theorem b2_17 : bo e2 h2 all2 (dd2 17) 17 = gh h2 := by kernel_rfl
theorem b2_18 : bo e2 h2 all2 (dd2 18) 18 = gh h2 := by kernel_rfl
theorem b2_19 : bo e2 h2 all2 (dd2 19) 19 = gh h2 := by kernel_rfl
theorem b2_20 : bo e2 h2 all2 (dd2 20) 20 = gh h2 := by kernel_rfl
theorem b2_21 : bo e2 h2 all2 (dd2 21) 21 = gh h2 := by kernel_rfl
theorem b2_22 : bo e2 h2 all2 (dd2 22) 22 = gh h2 := by kernel_rfl
theorem b2_23 : bo e2 h2 all2 (dd2 23) 23 = gh h2 := by kernel_rfl
theorem b2_24 : bo e2 h2 all2 (dd2 24) 24 = gh h2 := by kernel_rfl
theorem b2_25 : bo e2 h2 all2 (dd2 25) 25 = gh h2 := by kernel_rfl
theorem b2_26 : bo e2 h2 all2 (dd2 26) 26 = gh h2 := by kernel_rfl
theorem t2 : pT e2 h2 = true := by kernel_rfl
theorem l2 : pL e2 h2 all2 27 = true := by kernel_rfl
theorem data2 : StData 3 2 e2 h2 pi2 all2 27 dd2 := mk_data a2 c2 k2 (sn (sn (sn (sn (sn (sn (sn (sn (sn (sn (sn (sn (sn (sn (sn (sn (sn (sn (sn (sn (sn (sn (sn (sn (sn (sn (sn (z0) b2_0) b2_1) b2_2) b2_3) b2_4) b2_5) b2_6) b2_7) b2_8) b2_9) b2_10) b2_11) b2_12) b2_13) b2_14) b2_15) b2_16) b2_17) b2_18) b2_19) b2_20) b2_21) b2_22) b2_23) b2_24) b2_25) b2_26) t2 rfl l2 (by decide)
theorem a3 : pA 3 3 = true := by kernel_rfl
theorem c3 : pC 3 3 pi3 e3 h3 = true := by kernel_rfl
theorem k3 : closedB h3 = true := by kernel_rfl
theorem b3_0 : bo e3 h3 all3 (dd3 0) 0 = gh h3 := by kernel_rfl
theorem b3_1 : bo e3 h3 all3 (dd3 1) 1 = gh h3 := by kernel_rfl
theorem b3_2 : bo e3 h3 all3 (dd3 2) 2 = gh h3 := by kernel_rfl
theorem b3_3 : bo e3 h3 all3 (dd3 3) 3 = gh h3 := by kernel_rfl
theorem b3_4 : bo e3 h3 all3 (dd3 4) 4 = gh h3 := by kernel_rfl
theorem b3_5 : bo e3 h3 all3 (dd3 5) 5 = gh h3 := by kernel_rfl
theorem b3_6 : bo e3 h3 all3 (dd3 6) 6 = gh h3 := by kernel_rfl
theorem b3_7 : bo e3 h3 all3 (dd3 7) 7 = gh h3 := by kernel_rfl
theorem b3_8 : bo e3 h3 all3 (dd3 8) 8 = gh h3 := by kernel_rfl
theorem b3_9 : bo e3 h3 all3 (dd3 9) 9 = gh h3 := by kernel_rfl
theorem b3_10 : bo e3 h3 all3 (dd3 10) 10 = gh h3 := by kernel_rfl
theorem b3_11 : bo e3 h3 all3 (dd3 11) 11 = gh h3 := by kernel_rfl
theorem b3_12 : bo e3 h3 all3 (dd3 12) 12 = gh h3 := by kernel_rfl
theorem b3_13 : bo e3 h3 all3 (dd3 13) 13 = gh h3 := by kernel_rfl
theorem b3_14 : bo e3 h3 all3 (dd3 14) 14 = gh h3 := by kernel_rfl
theorem b3_15 : bo e3 h3 all3 (dd3 15) 15 = gh h3 := by kernel_rfl
theorem b3_16 : bo e3 h3 all3 (dd3 16) 16 = gh h3 := by kernel_rfl
theorem b3_17 : bo e3 h3 all3 (dd3 17) 17 = gh h3 := by kernel_rfl
theorem b3_18 : bo e3 h3 all3 (dd3 18) 18 = gh h3 := by kernel_rfl
theorem b3_19 : bo e3 h3 all3 (dd3 19) 19 = gh h3 := by kernel_rfl
theorem b3_20 : bo e3 h3 all3 (dd3 20) 20 = gh h3 := by kernel_rfl
theorem b3_21 : bo e3 h3 all3 (dd3 21) 21 = gh h3 := by kernel_rfl
theorem b3_22 : bo e3 h3 all3 (dd3 22) 22 = gh h3 := by kernel_rfl
theorem b3_23 : bo e3 h3 all3 (dd3 23) 23 = gh h3 := by kernel_rfl
theorem b3_24 : bo e3 h3 all3 (dd3 24) 24 = gh h3 := by kernel_rfl
theorem b3_25 : bo e3 h3 all3 (dd3 25) 25 = gh h3 := by kernel_rfl
theorem b3_26 : bo e3 h3 all3 (dd3 26) 26 = gh h3 := by kernel_rfl
theorem b3_27 : bo e3 h3 all3 (dd3 27) 27 = gh h3 := by kernel_rfl
theorem b3_28 : bo e3 h3 all3 (dd3 28) 28 = gh h3 := by kernel_rfl
theorem b3_29 : bo e3 h3 all3 (dd3 29) 29 = gh h3 := by kernel_rfl
theorem b3_30 : bo e3 h3 all3 (dd3 30) 30 = gh h3 := by kernel_rfl
theorem b3_31 : bo e3 h3 all3 (dd3 31) 31 = gh h3 := by kernel_rfl
theorem t3 : pT e3 h3 = true := by kernel_rfl
theorem l3 : pL e3 h3 all3 32 = true := by kernel_rfl
theorem data3 : StData 3 3 e3 h3 pi3 all3 32 dd3 := mk_data a3 c3 k3 (sn (sn (sn (sn (sn (sn (sn (sn (sn (sn (sn (sn (sn (sn (sn (sn (sn (sn (sn (sn (sn (sn (sn (sn (sn (sn (sn (sn (sn (sn (sn (sn (z0) b3_0) b3_1) b3_2) b3_3) b3_4) b3_5) b3_6) b3_7) b3_8) b3_9) b3_10) b3_11) b3_12) b3_13) b3_14) b3_15) b3_16) b3_17) b3_18) b3_19) b3_20) b3_21) b3_22) b3_23) b3_24) b3_25) b3_26) b3_27) b3_28) b3_29) b3_30) b3_31) t3 rfl l3 (by decide)
end Go.PE.St3
