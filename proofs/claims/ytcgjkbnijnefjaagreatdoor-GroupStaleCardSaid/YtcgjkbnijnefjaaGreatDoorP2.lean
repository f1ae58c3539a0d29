/- The same functions with names for their slots (part 2 of 4), printed by a program of our own: each is what the evaluator's law says of the literal. -/
import Derived.Test.YtcgjkbnijnefjaaGreatDoorL3
import Derived.KernelRfl
namespace Go.PE
set_option maxRecDepth 100000
noncomputable section
def p11 (k : Nat) : CtxK → List V → TH → R := fun X => ap 1 (fun x0 h1 =>
 lp (α := Cur 24) (zN 24) (fun n27 x2 _ _ x5 _ _ _ _ _ _ _ _ _ _ _ _ _ _ _ _ _ _ _ _ h26 =>
 kBin .lss x5 (qi 3000) fun x28 =>
 jc (α := JT) (fun x29 h30 =>
 jc (α := JT) (fun x32 h33 =>
 jc (α := JT) (fun x35 h36 =>
 jc (α := JT) (fun x38 h39 =>
 jc (α := JT) (fun x41 h42 =>
 jc (α := JT) (fun x44 h45 =>
 kPick x28 x44 qf fun x47 =>
 brS x47 (kCall X 18 [x2, (qi 0)] h45 fun _ h49 =>
 kBin .add x5 (qi 1) fun x50 =>
 n27 x2 u u x50 u u u u u u u u u u u u u u u u u u u u h49) (kNilc x2 fun x51 =>
 kFA 7 x51 fun x52 =>
 kL1 x52 h45 fun x53 =>
 kLen x53 fun x54 =>
 kEqI false x54 (qi 0) fun x55 =>
 some (x55, h45))) fun j46 =>
 wtS x28 true (kBin .gtr x41 (qi 0) fun x56 =>
 j46 x56 h42) (j46 u h42)) fun j43 =>
 wtS x28 true (kLen x38 fun x57 =>
 j43 x57 h39) (j43 u h39)) fun j40 =>
 wtS x28 true (kL1 x35 h36 fun x58 =>
 j40 x58 h36) (j40 u h36)) fun j37 =>
 wtS x28 true (kFA 7 x32 fun x59 =>
 j37 x59 h33) (j37 u h33)) fun j34 =>
 wtS x28 true (kNilc x29 fun x60 =>
 j34 x60 h30) (j34 u h30)) fun j31 =>
 wtS x28 true (j31 x2 h26) (j31 u h26)) k x0 u u (qi 0) u u u u u u u u u u u u u u u u u u u u h1)
theorem p11_ok (k : Nat) : p11 k = funcS k 1 lit11 := by kernel_rfl
def p12 (_ : Nat) : CtxK → List V → TH → R := fun X => ap 2 (fun x0 x1 h2 =>
 kCall X 35 [x0, x1] h2 fun x3 h4 =>
 kP (fieldE false 1 1 x3) fun x5 =>
 kCall X 34 [x5] h4 fun x6 h7 =>
 some (x6, h7))
theorem p12_ok (k : Nat) : p12 k = funcS k 2 lit12 := by kernel_rfl
def p13 (_ : Nat) : CtxK → List V → TH → R := fun X => ap 1 (fun x0 h1 =>
 kNew zr0 h1 fun x2 h3 =>
 kNilc x0 fun x4 =>
 kFA 3 x4 fun x5 =>
 kLA 49 x5 h3 fun x6 =>
 kCall X 36 [x6] h3 fun x7 h8 =>
 kSA 49 x2 x7 h8 fun _ h10 =>
 rsS [.cell 2 true 49] [x0, u, x2, x0, x4, x5, x6, x7] h10)
theorem p13_ok (k : Nat) : p13 k = funcS k 1 lit13 := by kernel_rfl
def p15 (_ : Nat) : CtxK → List V → TH → R := fun X => ap 2 (fun x0 x1 h2 =>
 kNew (V.cellsR x0) h2 fun x3 h4 =>
 kNew (V.cellsR x1) h4 fun x5 h6 =>
 kFA 0 x3 fun x7 =>
 kL1 x7 h6 fun x8 =>
 kFA 0 x5 fun x9 =>
 kL1 x9 h6 fun x10 =>
 kEqI false x8 x10 fun x11 =>
 jc (α := JT) (fun x12 h13 =>
 jc (α := JT) (fun x15 h16 =>
 jc (α := JT) (fun x18 h19 =>
 jc (α := JT) (fun x21 h22 =>
 jc (α := JT) (fun x24 h25 =>
 kPick x11 x24 qf fun x27 =>
 jc (α := JT) (fun x28 h29 =>
 jc (α := JT) (fun x31 h32 =>
 jc (α := JT) (fun x34 h35 =>
 jc (α := JT) (fun x37 h38 =>
 jc (α := JT) (fun x40 h41 =>
 kPick x27 x40 qf fun x43 =>
 jc (α := JT) (fun x44 h45 =>
 jc (α := JT) (fun x47 h48 =>
 jc (α := JT) (fun x50 h51 =>
 jc (α := JT) (fun x53 h54 =>
 jc (α := JT) (fun x56 h57 =>
 kPick x43 x56 qf fun x59 =>
 some (x59, h57)) fun j58 =>
 wtS x43 true (kCall X 40 [x47, x53] h54 fun x60 h61 =>
 j58 x60 h61) (j58 u h54)) fun j55 =>
 wtS x43 true (kL1 x50 h51 fun x62 =>
 j55 x62 h51) (j55 u h51)) fun j52 =>
 wtS x43 true (kFA 48 x5 fun x63 =>
 j52 x63 h48) (j52 u h48)) fun j49 =>
 wtS x43 true (kL1 x44 h45 fun x64 =>
 j49 x64 h45) (j49 u h45)) fun j46 =>
 wtS x43 true (kFA 48 x3 fun x65 =>
 j46 x65 h41) (j46 u h41)) fun j42 =>
 wtS x27 true (kEq' false (.agg [.int, .int, .int, .int, .int, .int, .int, .str]) x31 x37 fun x66 =>
 j42 x66 h38) (j42 u h38)) fun j39 =>
 wtS x27 true (kLA 8 x34 h35 fun x67 =>
 j39 x67 h35) (j39 u h35)) fun j36 =>
 wtS x27 true (kFA 40 x5 fun x68 =>
 j36 x68 h32) (j36 u h32)) fun j33 =>
 wtS x27 true (kLA 8 x28 h29 fun x69 =>
 j33 x69 h29) (j33 u h29)) fun j30 =>
 wtS x27 true (kFA 40 x3 fun x70 =>
 j30 x70 h25) (j30 u h25)) fun j26 =>
 wtS x11 true (kEq' false (.agg [.bool, .str, .str, .str, .str, .bool, .str, .str, .str, .str, .bool, .str, .str, .str, .str, .bool, .str, .str, .str, .str, .bool, .str, .str, .str, .str, .bool, .str, .str, .str, .str, .int, .int, .str, .int, .int, .str, .int, .int, .str]) x15 x21 fun x71 =>
 j26 x71 h22) (j26 u h22)) fun j23 =>
 wtS x11 true (kLA 39 x18 h19 fun x72 =>
 j23 x72 h19) (j23 u h19)) fun j20 =>
 wtS x11 true (kFA 1 x5 fun x73 =>
 j20 x73 h16) (j20 u h16)) fun j17 =>
 wtS x11 true (kLA 39 x12 h13 fun x74 =>
 j17 x74 h13) (j17 u h13)) fun j14 =>
 wtS x11 true (kFA 1 x3 fun x75 =>
 j14 x75 h6) (j14 u h6))
theorem p15_ok (k : Nat) : p15 k = funcS k 2 lit15 := by kernel_rfl
def p16 (k : Nat) : CtxK → List V → TH → R := fun X => ap 1 (fun x0 h1 =>
 lp (α := Cur 13) (zN 13) (fun n16 x2 _ _ x5 _ _ _ _ _ _ _ _ _ h15 =>
 kBin .lss x5 (qb 6) fun x17 =>
 brS x17 (kCall X 39 [x5] h15 fun x18 h19 =>
 kEqI false x18 x2 fun x20 =>
 brS x20 (some (x5, h19)) (kBin .add x5 (qb 1) fun x21 =>
 n16 x2 u u x21 u u u u u u u u u h19)) (some ((qb 6), h15))) k x0 u u (qb 0) u u u u u u u u u h1)
theorem p16_ok (k : Nat) : p16 k = funcS k 1 lit16 := by kernel_rfl
def p17 (_ : Nat) : CtxK → List V → TH → R := fun X => ap 3 (fun x0 x1 x2 h3 =>
 kNew [(qb 0), (qw 0), (qb 0), (qb 0), (qb 0), qs] h3 fun x4 h5 =>
 kCall X 16 [x0] h5 fun x6 h7 =>
 kB [(qb 0), (qw 0), (qb 0), (qb 0), (qb 0), qs] [(0, 1, (qb 1)), (1, 1, x1), (2, 1, (qb 1)), (3, 1, x6), (5, 1, x2)] fun x8 =>
 kSA 6 x4 x8 h7 fun _ h10 =>
 rsS [.cell 6 true 6] [x0, x1, x2, u, u, u, x4, x1, x0, x6, x2, x8] h10)
theorem p17_ok (k : Nat) : p17 k = funcS k 3 lit17 := by kernel_rfl
def p26 (_ : Nat) : CtxK → List V → TH → R := fun _ => ap 1 (fun x0 h1 =>
 kNilc x0 fun x2 =>
 kFA 1 x2 fun x3 =>
 kL1 x3 h1 fun x4 =>
 some (x4, h1))
theorem p26_ok (k : Nat) : p26 k = funcS k 1 lit26 := by kernel_rfl
def p29 (_ : Nat) : CtxK → List V → TH → R := fun X => ap 0 (fun  h0 =>
 kMM h0 fun x1 h2 =>
 kMM h2 fun x3 h4 =>
 kB [.nilmap, .nilmap, (qw 0), .nils, .nils, .nils, .nils] [(0, 1, x1), (1, 1, x3)] fun x5 =>
 kNew (V.cellsR x5) h4 fun x6 h7 =>
 kCall X 60 [] h7 fun x8 h9 =>
 kCall X 59 [x6, x8] h9 fun _ h11 =>
 some (x6, h11))
theorem p29_ok (k : Nat) : p29 k = funcS k 0 lit29 := by kernel_rfl
def p32 (k : Nat) : CtxK → List V → TH → R := fun _ => ap 1 (fun x0 h1 =>
 kNilc x0 fun x2 =>
 kFA 309 x2 fun x3 =>
 kL1 x3 h1 fun x4 =>
 kLen x4 fun x5 =>
 kNilc x0 fun x6 =>
 kFA 310 x6 fun x7 =>
 kLA 42 x7 h1 fun x8 =>
 lp (α := Cur 26) (zN 26) (fun n36 _ _ _ x12 _ _ _ _ _ _ _ _ _ _ x23 x24 _ _ _ _ _ _ _ _ _ _ h35 =>
 kBin .lss x24 (qi 3) fun x37 =>
 brS x37 (kP (indexE (some (3, 14, true)) x23 x24) fun x38 =>
 kNew [(qb 0), (qw 0), (qb 0), (qb 0), (qb 0), qs, (qb 0), qs, (qw 0), qf, qf, qf, qf, qf] h35 fun x39 h40 =>
 kSA 14 x39 x38 h40 fun _ h42 =>
 kFA 0 x39 fun x43 =>
 kFA 1 x43 fun x44 =>
 kL1 x44 h42 fun x45 =>
 kBin .gtr x45 (qw 0) fun x46 =>
 jc (α := Cur 26) (fun _ _ _ x50 _ _ _ _ _ _ _ _ _ _ x61 x62 _ _ _ _ _ _ _ _ _ _ h73 =>
 kBin .add x62 (qi 1) fun x75 =>
 n36 u u u x50 u u u u u u u u u u x61 x75 u u u u u u u u u u h73) fun j74 =>
 brS x46 (kBin .add x12 (qi 1) fun x76 =>
 j74 u u u x76 u u u u u u u u u u x23 x24 u u u u u u u u u u h42) (j74 u u u x12 u u u u u u u u u u x23 x24 u u u u u u u u u u h42)) (some (x12, h35))) k u u u x5 u u u u u u u u u u x8 (qi 0) u u u u u u u u u u h1)
theorem p32_ok (k : Nat) : p32 k = funcS k 1 lit32 := by kernel_rfl
def p33 (_ : Nat) : CtxK → List V → TH → R := fun _ => ap 1 (fun x0 h1 =>
 kNew (V.cellsR x0) h1 fun x2 h3 =>
 kFA 0 x2 fun x4 =>
 kL1 x4 h3 fun x5 =>
 kBin .lss x5 (qb 1) fun x6 =>
 jc (α := JT) (fun x7 h8 =>
 jc (α := JT) (fun x10 h11 =>
 jc (α := JT) (fun x13 h14 =>
 kPick x6 qt x13 fun x16 =>
 jc (α := JT) (fun x17 h18 =>
 jc (α := JT) (fun x20 h21 =>
 jc (α := JT) (fun x23 h24 =>
 kPick x16 qt x23 fun x26 =>
 jc (α := JT) (fun x27 h28 =>
 jc (α := JT) (fun x30 h31 =>
 jc (α := JT) (fun x33 h34 =>
 kPick x26 qt x33 fun x36 =>
 jc (α := JT) (fun x37 h38 =>
 jc (α := JT) (fun x40 h41 =>
 jc (α := JT) (fun x43 h44 =>
 jc (α := JT) (fun x46 h47 =>
 kPick x36 qt x46 fun x49 =>
 brS x49 (some (qf, h47)) (kFA 2 x2 fun x50 =>
 kL1 x50 h47 fun x51 =>
 kEqI false x51 (qb 1) fun x52 =>
 jc (α := Cur 58) (fun _ x54 _ _ _ _ _ _ _ _ _ _ _ _ _ _ _ _ _ _ _ _ _ _ _ _ _ _ x81 x82 _ _ _ _ _ _ _ _ _ _ _ _ _ _ _ _ _ _ _ _ _ _ _ _ _ _ _ _ h111 =>
 brS x82 (some (qt, h111)) (kEqI false x81 (qb 2) fun x113 =>
 brS x113 (kFA 5 x54 fun x114 =>
 kL1 x114 h111 fun x115 =>
 kEq' false (.leaf .str) x115 qs fun x116 =>
 some (x116, h111)) (kFA 2 x54 fun x117 =>
 kL1 x117 h111 fun x118 =>
 kEqI false x118 (qb 4) fun x119 =>
 jc (α := JT) (fun x120 h121 =>
 jc (α := JT) (fun x123 h124 =>
 jc (α := JT) (fun x126 h127 =>
 kPick x119 qt x126 fun x129 =>
 jc (α := JT) (fun x130 h131 =>
 jc (α := JT) (fun x133 h134 =>
 jc (α := JT) (fun x136 h137 =>
 jc (α := JT) (fun x139 h140 =>
 jc (α := JT) (fun x142 h143 =>
 jc (α := JT) (fun x145 h146 =>
 jc (α := JT) (fun x148 h149 =>
 jc (α := JT) (fun x151 h152 =>
 jc (α := JT) (fun x154 h155 =>
 jc (α := JT) (fun x157 h158 =>
 jc (α := JT) (fun x160 h161 =>
 kPick x129 x160 qf fun x163 =>
 some (x163, h161)) fun j162 =>
 wtS x129 true (kEq' false (.agg [.int, .int, .int, .int, .int, .str]) x130 x157 fun x164 =>
 j162 x164 h158) (j162 u h158)) fun j159 =>
 wtS x129 true (kB [(qb 0), (qw 0), (qb 0), (qb 0), (qb 0), qs] [(0, 1, x136), (1, 1, x142), (2, 1, x148), (3, 1, x154)] fun x165 =>
 j159 x165 h155) (j159 u h155)) fun j156 =>
 wtS x129 true (kL1 x151 h152 fun x166 =>
 j156 x166 h152) (j156 u h152)) fun j153 =>
 wtS x129 true (kFA 3 x54 fun x167 =>
 j153 x167 h149) (j153 u h149)) fun j150 =>
 wtS x129 true (kL1 x145 h146 fun x168 =>
 j150 x168 h146) (j150 u h146)) fun j147 =>
 wtS x129 true (kFA 2 x54 fun x169 =>
 j147 x169 h143) (j147 u h143)) fun j144 =>
 wtS x129 true (kL1 x139 h140 fun x170 =>
 j144 x170 h140) (j144 u h140)) fun j141 =>
 wtS x129 true (kFA 1 x54 fun x171 =>
 j141 x171 h137) (j141 u h137)) fun j138 =>
 wtS x129 true (kL1 x133 h134 fun x172 =>
 j138 x172 h134) (j138 u h134)) fun j135 =>
 wtS x129 true (kFA 0 x54 fun x173 =>
 j135 x173 h131) (j135 u h131)) fun j132 =>
 wtS x129 true (kLA 6 x54 h127 fun x174 =>
 j132 x174 h127) (j132 u h127)) fun j128 =>
 wtS x119 false (kEqI false x123 (qb 5) fun x175 =>
 j128 x175 h124) (j128 u h124)) fun j125 =>
 wtS x119 false (kL1 x120 h121 fun x176 =>
 j125 x176 h121) (j125 u h121)) fun j122 =>
 wtS x119 false (kFA 2 x54 fun x177 =>
 j122 x177 h111) (j122 u h111)))) fun j112 =>
 brS x52 (j112 u x2 u u u u u u u u u u u u u u u u u u u u u u u u u u x51 x52 u u u u u u u u u u u u u u u u u u u u u u u u u u u u h47) (kEqI false x51 (qb 3) fun x178 =>
 j112 u x2 u u u u u u u u u u u u u u u u u u u u u u u u u u x51 x178 u u u u u u u u u u u u u u u u u u u u u u u u u u u u h47))) fun j48 =>
 wtS x36 false (kBin .gtr x43 (qi 16) fun x179 =>
 j48 x179 h44) (j48 u h44)) fun j45 =>
 wtS x36 false (kP (lenV true x40) fun x180 =>
 j45 x180 h41) (j45 u h41)) fun j42 =>
 wtS x36 false (kL1 x37 h38 fun x181 =>
 j42 x181 h38) (j42 u h38)) fun j39 =>
 wtS x36 false (kFA 5 x2 fun x182 =>
 j39 x182 h34) (j39 u h34)) fun j35 =>
 wtS x26 false (kBin .geq x30 (qb 6) fun x183 =>
 j35 x183 h31) (j35 u h31)) fun j32 =>
 wtS x26 false (kL1 x27 h28 fun x184 =>
 j32 x184 h28) (j32 u h28)) fun j29 =>
 wtS x26 false (kFA 3 x2 fun x185 =>
 j29 x185 h24) (j29 u h24)) fun j25 =>
 wtS x16 false (kEqI false x20 (qw 0) fun x186 =>
 j25 x186 h21) (j25 u h21)) fun j22 =>
 wtS x16 false (kL1 x17 h18 fun x187 =>
 j22 x187 h18) (j22 u h18)) fun j19 =>
 wtS x16 false (kFA 1 x2 fun x188 =>
 j19 x188 h14) (j19 u h14)) fun j15 =>
 wtS x6 false (kBin .gtr x10 (qb 3) fun x189 =>
 j15 x189 h11) (j15 u h11)) fun j12 =>
 wtS x6 false (kL1 x7 h8 fun x190 =>
 j12 x190 h8) (j12 u h8)) fun j9 =>
 wtS x6 false (kFA 0 x2 fun x191 =>
 j9 x191 h3) (j9 u h3))
theorem p33_ok (k : Nat) : p33 k = funcS k 1 lit33 := by kernel_rfl
def p36 (_ : Nat) : CtxK → List V → TH → R := fun _ => ap 1 (fun x0 h1 =>
 kNew (V.cellsR x0) h1 fun x2 h3 =>
 kNew zr0 h3 fun x4 h5 =>
 kFA 48 x2 fun x6 =>
 kL1 x6 h5 fun x7 =>
 kLen x7 fun x8 =>
 kMS 8 40 zr2 x8 x8 h5 fun x9 h10 =>
 kFA 48 x2 fun x11 =>
 kL1 x11 h10 fun x12 =>
 kCo 8 x9 x12 h10 fun x13 h14 =>
 kFA 48 x2 fun x15 =>
 kS1 x15 x9 h14 fun _ h17 =>
 kLA 49 x2 h17 fun x18 =>
 kSA 49 x4 x18 h17 fun _ h20 =>
 rsS [.cell 2 true 49] [x0, x2, x4, x9, x6, x7, x8, x9, x9, x11, x12, x13, x9, x15, x18] h20)
theorem p36_ok (k : Nat) : p36 k = funcS k 1 lit36 := by kernel_rfl
def p40 (k : Nat) : CtxK → List V → TH → R := fun _ => ap 2 (fun x0 x1 h2 =>
 kLen x0 fun x3 =>
 kLen x1 fun x4 =>
 kEqI true x3 x4 fun x5 =>
 brS x5 (some (qf, h2)) (kLen x0 fun x6 =>
 lp (α := Cur 26) (zN 26) (fun n34 x7 x8 _ _ _ _ _ _ _ _ _ _ x19 x20 _ _ _ _ _ _ _ _ _ _ _ _ h33 =>
 kBin .lss x20 x19 fun x35 =>
 brS x35 (kIS 8 x7 x20 fun x36 =>
 kLA 8 x36 h33 fun x39 =>
 kIS 8 x8 x20 fun x40 =>
 kLA 8 x40 h33 fun x43 =>
 kEq' true (.agg [.int, .int, .int, .int, .int, .int, .int, .str]) x39 x43 fun x44 =>
 dokS [h33] [] (brS x44 (some (qf, h33)) (kBin .add x20 (qi 1) fun x45 =>
 n34 x7 x8 u u u u u u u u u u x19 x45 u u u u u u u u u u u u h33))) (some (qt, h33))) k x0 x1 u u u u u u u u u u x6 (qi 0) u u u u u u u u u u u u h2))
theorem p40_ok (k : Nat) : p40 k = funcS k 2 lit40 := by kernel_rfl
def p42 (_ : Nat) : CtxK → List V → TH → R := fun X => ap 2 (fun x0 x1 h2 =>
 kNew (V.cellsR x1) h2 fun x3 h4 =>
 kCall X 34 [x0] h4 fun x5 h6 =>
 kCall X 85 [x5, (.fn 86 [] [x3])] h6 fun x7 h8 =>
 some (x7, h8))
theorem p42_ok (k : Nat) : p42 k = funcS k 2 lit42 := by kernel_rfl
def p43 (_ : Nat) : CtxK → List V → TH → R := fun X => ap 1 (fun x0 h1 =>
 kCall X 58 [x0] h1 fun x2 h3 =>
 kCall X 87 [x0, x2] h3 fun x4 h5 =>
 kExt x4 0 fun x6 =>
 kExt x4 1 fun _ =>
 kNew zr4 h5 fun x8 h9 =>
 kSA 16 x8 x6 h9 fun _ h11 =>
 kLA 16 x8 h11 fun x12 =>
 kCall X 88 [x12] h11 fun x13 h14 =>
 some (x13, h14))
theorem p43_ok (k : Nat) : p43 k = funcS k 1 lit43 := by kernel_rfl
def p45 (_ : Nat) : CtxK → List V → TH → R := fun X => ap 2 (fun x0 x1 h2 =>
 kNew zr1 h2 fun x3 h4 =>
 kCall X 89 [x0, (qb 9), x1] h4 fun x5 h6 =>
 kNew zr1 h6 fun x7 h8 =>
 kSA 131 x7 x5 h8 fun _ h10 =>
 kNilc x0 fun x11 =>
 kFA 64 x11 fun x12 =>
 kIA 5 49 x12 x1 fun x13 =>
 kLA 49 x13 h10 fun x16 =>
 kNilc x0 fun x17 =>
 kFA 3 x17 fun x18 =>
 kLA 49 x18 h10 fun x21 =>
 kCall X 90 [x16, x21] h10 fun x22 h23 =>
 kFA 62 x7 fun x24 =>
 kSA 52 x24 x22 h23 fun _ h26 =>
 dokS [h10, h23, h26] [] (kLA 131 x7 h26 fun x27 =>
 kSA 131 x3 x27 h26 fun _ h29 =>
 rsS [.cell 4 true 131] [x0, x1, u, u, x3, x7, x0, x1, x5, x0, x1, x11, x12, x13, x16, x0, x17, x18, x21, x22, x24, x27] h29))
theorem p45_ok (k : Nat) : p45 k = funcS k 2 lit45 := by kernel_rfl
def p53 (_ : Nat) : CtxK → List V → TH → R := fun X => ap 2 (fun x0 x1 h2 =>
 kCall X 35 [x0, x1] h2 fun x3 h4 =>
 kP (fieldE false 0 1 x3) fun x5 =>
 some (x5, h4))
theorem p53_ok (k : Nat) : p53 k = funcS k 2 lit53 := by kernel_rfl
def p55 (_ : Nat) : CtxK → List V → TH → R := fun _ => ap 1 (fun x0 h1 =>
 kNilc x0 fun x2 =>
 kFA 53 x2 fun x3 =>
 kL1 x3 h1 fun x4 =>
 kLen x4 fun x5 =>
 kEqI false x5 (qi 0) fun x6 =>
 brS x6 (some ((.int .i64 (-1)), h1)) (kNilc x0 fun x7 =>
 kFA 53 x7 fun x8 =>
 kL1 x8 h1 fun x9 =>
 kIS 1 x9 (qi 0) fun x10 =>
 kL1 x10 h1 fun x11 =>
 some (x11, h1)))
theorem p55_ok (k : Nat) : p55 k = funcS k 1 lit55 := by kernel_rfl
def p59 (k : Nat) : CtxK → List V → TH → R := fun X => ap 2 (fun x0 x1 h2 =>
 kNew (V.cellsR x1) h2 fun x3 h4 =>
 kNilc x0 fun x5 =>
 kFA 0 x5 fun x6 =>
 kL1 x6 h4 fun x9 =>
 kFA 0 x3 fun x10 =>
 kL1 x10 h4 fun x13 =>
 kLA 16 x3 h4 fun x16 =>
 kMU x9 x13 x16 h4 fun _ h18 =>
 dokS [h4, h18] [] (kFA 0 x3 fun x19 =>
 kL1 x19 h18 fun x20 =>
 kNilc x0 fun x21 =>
 kFA 2 x21 fun x22 =>
 kS1 x22 x20 h18 fun _ h24 =>
 lp (α := Cur 60) (zN 60) (fun n86 x25 _ _ x28 _ _ _ _ _ _ _ _ _ _ _ _ _ _ _ x44 _ _ _ _ _ _ _ _ _ _ _ _ _ _ _ _ _ _ _ _ _ _ _ _ _ _ _ _ _ _ _ _ _ _ _ _ _ _ _ _ h85 =>
 kBin .lss x44 (qi 4) fun x87 =>
 brS x87 (kLA 16 x28 h85 fun x88 =>
 kConv .u8 x44 fun x89 =>
 kCall X 100 [x88, x89] h85 fun x90 h91 =>
 kNilc x25 fun x92 =>
 kFA 3 x92 fun x93 =>
 kIA 4 1 x93 x44 fun x94 =>
 kL1 x94 h91 fun x95 =>
 kLen x95 fun x96 =>
 kEqI false x96 (qi 0) fun x97 =>
 jc (α := JT) (fun x98 h99 =>
 jc (α := JT) (fun x101 h102 =>
 jc (α := JT) (fun x104 h105 =>
 jc (α := JT) (fun x107 h108 =>
 jc (α := JT) (fun x110 h111 =>
 jc (α := JT) (fun x113 h114 =>
 jc (α := JT) (fun x116 h117 =>
 jc (α := JT) (fun x119 h120 =>
 jc (α := JT) (fun x122 h123 =>
 jc (α := JT) (fun x125 h126 =>
 kPick x97 qt x125 fun x128 =>
 jc (α := Cur 60) (fun x129 _ _ x132 _ _ _ _ _ _ _ _ _ _ _ _ _ _ _ x148 _ _ _ _ _ _ _ _ _ _ _ _ _ _ _ _ _ _ _ _ _ _ _ _ _ _ _ _ _ _ _ _ _ _ _ _ _ _ _ _ h189 =>
 kBin .add x148 (qi 1) fun x191 =>
 n86 x129 u u x132 u u u u u u u u u u u u u u u x191 u u u u u u u u u u u u u u u u u u u u u u u u u u u u u u u u u u u u u u u u h189) fun j190 =>
 brS x128 (kFA 0 x28 fun x192 =>
 kL1 x192 h126 fun x195 =>
 kB [(qw 0), .nils] [(0, 1, x195), (1, 1, x90)] fun x196 =>
 kBS 2 [(qw 0), .nils] 1 [(0, 2, x196)] h126 fun x197 h198 =>
 kNilc x25 fun x199 =>
 kFA 3 x199 fun x200 =>
 kAp 2 32 x95 x197 h198 fun x201 h202 =>
 kIA 4 1 x200 x44 fun x203 =>
 kS1 x203 x201 h202 fun _ h205 =>
 dokS [h198, h202, h205] [] (j190 x25 u u x28 u u u u u u u u u u u u u u u x44 u u u u u u u u u u u u u u u u u u u u u u u u u u u u u u u u u u u u u u u u h205)) (j190 x25 u u x28 u u u u u u u u u u u u u u u x44 u u u u u u u u u u u u u u u u u u u u u u u u u u u u u u u u u u u u u u u u h126)) fun j127 =>
 wtS x97 false (kNot x122 fun x206 =>
 j127 x206 h123) (j127 u h123)) fun j124 =>
 wtS x97 false (kCall X 101 [x116, x119] h120 fun x207 h208 =>
 j124 x207 h208) (j124 u h120)) fun j121 =>
 wtS x97 false (j121 x90 h117) (j121 u h117)) fun j118 =>
 wtS x97 false (kL1 x113 h114 fun x209 =>
 j118 x209 h114) (j118 u h114)) fun j115 =>
 wtS x97 false (kFA 1 x110 fun x210 =>
 j115 x210 h111) (j115 u h111)) fun j112 =>
 wtS x97 false (kIS 2 x98 x107 fun x211 =>
 j112 x211 h108) (j112 u h108)) fun j109 =>
 wtS x97 false (kBin .sub x104 (qi 1) fun x212 =>
 j109 x212 h105) (j109 u h105)) fun j106 =>
 wtS x97 false (kLen x101 fun x213 =>
 j106 x213 h102) (j106 u h102)) fun j103 =>
 wtS x97 false (j103 x95 h99) (j103 u h99)) fun j100 =>
 wtS x97 false (j100 x95 h91) (j100 u h91)) (some (.tup [], h85))) k x0 u u x3 u u u u u u u u u u u u u u u (qi 0) u u u u u u u u u u u u u u u u u u u u u u u u u u u u u u u u u u u u u u u u h24))
theorem p59_ok (k : Nat) : p59 k = funcS k 2 lit59 := by kernel_rfl
def p61 (_ : Nat) : CtxK → List V → TH → R := fun X => ap 1 (fun x0 h1 =>
 kLen x0 fun x2 =>
 kConv .u64 x2 fun x3 =>
 kCall X 103 [x3] h1 fun x4 h5 =>
 kCall X 102 [x0, (qi 0), x2, x4] h5 fun _ h7 =>
 some (.tup [], h7))
theorem p61_ok (k : Nat) : p61 k = funcS k 1 lit61 := by kernel_rfl
def p62 (k : Nat) : CtxK → List V → TH → R := fun _ => ap 1 (fun x0 h1 =>
 kLen x0 fun x2 =>
 kBin .lss x2 (qi 2) fun x3 =>
 brS x3 (some (x0, h1)) (lp (α := Cur 61) (zN 61) (fun n66 x4 _ _ x7 _ _ _ _ _ _ _ _ _ _ _ _ _ _ _ _ _ _ _ _ _ _ _ _ _ _ _ _ _ _ _ _ _ _ _ _ _ _ _ _ _ _ _ _ _ _ _ _ _ _ _ _ _ _ _ _ _ h65 =>
 kLen x4 fun x67 =>
 kBin .lss x7 x67 fun x68 =>
 brS x68 (kIS 1 x4 x7 fun x69 =>
 kL1 x69 h65 fun x72 =>
 kBin .sub x7 (qi 1) fun x73 =>
 kIS 1 x4 x73 fun x74 =>
 kL1 x74 h65 fun x77 =>
 kEqI false x72 x77 fun x78 =>
 dokS [h65] [] (brS x78 (kP (sliceE 1 x4 (some x7) none) fun x79 =>
 lp (α := Cur 61) (zN 61) (fun n142 x80 _ _ x83 x84 x85 _ _ _ _ _ _ _ _ _ _ _ _ _ _ _ _ _ _ _ _ _ _ _ _ _ _ _ _ _ _ _ _ _ _ _ _ _ _ _ _ _ _ _ _ _ _ _ _ _ _ _ _ _ _ _ h141 =>
 kLen x84 fun x143 =>
 kBin .lss x85 x143 fun x144 =>
 brS x144 (kIS 1 x84 x85 fun x145 =>
 kL1 x145 h141 fun x148 =>
 kBin .sub x85 (qi 1) fun x149 =>
 kIS 1 x84 x149 fun x150 =>
 kL1 x150 h141 fun x153 =>
 kEqI true x148 x153 fun x154 =>
 dokS [h141] [] (jc (α := Cur 61) (fun x155 _ _ x158 x159 x160 _ _ _ _ _ _ _ _ _ _ _ _ _ _ _ _ _ _ _ _ _ _ _ _ _ _ _ _ _ _ _ _ _ _ _ _ _ _ _ _ _ _ _ _ _ _ _ _ _ _ _ _ _ _ _ h216 =>
 kBin .add x160 (qi 1) fun x218 =>
 n142 x155 u u x158 x159 x218 u u u u u u u u u u u u u u u u u u u u u u u u u u u u u u u u u u u u u u u u u u u u u u u u u u u u u u u h216) fun j217 =>
 brS x154 (kIS 1 x84 x85 fun x219 =>
 kL1 x219 h141 fun x220 =>
 kIS 1 x80 x83 fun x221 =>
 kS1 x221 x220 h141 fun _ h223 =>
 kBin .add x83 (qi 1) fun x224 =>
 j217 x80 u u x224 x84 x85 u u u u u u u u u u u u u u u u u u u u u u u u u u u u u u u u u u u u u u u u u u u u u u u u u u u u u u u h223) (j217 x80 u u x83 x84 x85 u u u u u u u u u u u u u u u u u u u u u u u u u u u u u u u u u u u u u u u u u u u u u u u u u u u u u u u h141))) (kP (sliceE 1 x80 (some x83) none) fun x225 =>
 kCl [(qi 0)] 1 x225 h141 fun _ h227 =>
 kP (sliceE 1 x80 none (some x83)) fun x228 =>
 some (x228, h227))) k x4 u u x7 x79 (qi 1) u u u u u u u u u u u u u u u u u u u u u u u u u u u u u u u u u u u u u u u u u u u u u u u u u u u u u u u h65) (kBin .add x7 (qi 1) fun x229 =>
 n66 x4 u u x229 u u u u u u u u u u u u u u u u u u u u u u u u u u u u u u u u u u u u u u u u u u u u u u u u u u u u u u u u u h65))) (some (x4, h65))) k x0 u u (qi 1) u u u u u u u u u u u u u u u u u u u u u u u u u u u u u u u u u u u u u u u u u u u u u u u u u u u u u u u u u h1))
theorem p62_ok (k : Nat) : p62 k = funcS k 1 lit62 := by kernel_rfl
def p67 (_ : Nat) : CtxK → List V → TH → R := fun X => ap 3 (fun x0 _ x2 h3 =>
 kNew (V.cellsR x2) h3 fun x4 h5 =>
 kLA 131 x4 h5 fun x8 =>
 kCall X 105 [x0, x8] h5 fun x9 h10 =>
 kNot x9 fun x11 =>
 jc (α := JT) (fun x12 h13 =>
 jc (α := JT) (fun x15 h16 =>
 jc (α := JT) (fun x18 h19 =>
 jc (α := JT) (fun x21 h22 =>
 jc (α := V → TH → PD → R) (fun x26 h27 d28 =>
 jc (α := JT) (fun x30 h31 =>
 jc (α := JT) (fun x33 h34 =>
 jc (α := JT) (fun x36 h37 =>
 jc (α := V → TH → PD → R) (fun x41 h42 d43 =>
 jc (α := JT) (fun x45 h46 =>
 kPick x11 qt x45 fun x48 =>
 dokS [h5, h46] d43 (brS x48 (some (.nils, h46)) (kFA 114 x4 fun x49 =>
 kLA 8 x49 h46 fun x50 =>
 kCall X 111 [x0, x50] h46 fun _ h52 =>
 kFA 114 x4 fun x53 =>
 kFA 1 x53 fun x54 =>
 kL1 x54 h52 fun x57 =>
 kCall X 109 [x0] h52 fun x58 h59 =>
 kBin .lss x58 x57 fun x60 =>
 dokS [h52, h59] ((fun h55 => kL1 x54 h55 fun x56 =>
 some (x56, h55), x57, 0, 1) :: []) (brS x60 (some (.nils, h59)) (kLA 131 x4 h59 fun x61 =>
 kCall X 107 [x0, (qb 12), x61] h59 fun x62 h63 =>
 some (x62, h63)))))) fun j47 =>
 wtS x11 false (kEqI true x26 x41 fun x64 =>
 j47 x64 h42) (j47 u h42)) fun j44 =>
 wtS x11 false (kL1 x36 h37 fun x65 =>
 j44 x65 h37 d28) (j44 u h37 d28)) fun j38 =>
 wtS x11 false (kFA 52 x33 fun x66 =>
 j38 x66 h34) (j38 u h34)) fun j35 =>
 wtS x11 false (kNilc x30 fun x67 =>
 j35 x67 h31) (j35 u h31)) fun j32 =>
 wtS x11 false (j32 x0 h27) (j32 u h27)) fun j29 =>
 wtS x11 false (kL1 x21 h22 fun x68 =>
 j29 x68 h22 []) (j29 u h22 [])) fun j23 =>
 wtS x11 false (kFA 0 x18 fun x69 =>
 j23 x69 h19) (j23 u h19)) fun j20 =>
 wtS x11 false (kFA 3 x15 fun x70 =>
 j20 x70 h16) (j20 u h16)) fun j17 =>
 wtS x11 false (kNilc x12 fun x71 =>
 j17 x71 h13) (j17 u h13)) fun j14 =>
 wtS x11 false (j14 x0 h10) (j14 u h10))
theorem p67_ok (k : Nat) : p67 k = funcS k 3 lit67 := by kernel_rfl
def p72 (_ : Nat) : CtxK → List V → TH → R := fun X => ap 1 (fun x0 h1 =>
 kNew (V.cellsR x0) h1 fun x2 h3 =>
 kFA 1 x2 fun x4 =>
 kL1 x4 h3 fun x7 =>
 kFA 1 x2 fun x8 =>
 kL1 x8 h3 fun x11 =>
 kCall X 116 [x7] h3 fun x12 h13 =>
 jc (α := JT) (fun x14 h15 =>
 jc (α := V → TH → PD → R) (fun x19 h20 d21 =>
 jc (α := JT) (fun x23 h24 =>
 kPick x12 x23 qf fun x26 =>
 kCall X 117 [x11] h24 fun x27 h28 =>
 jc (α := JT) (fun x29 h30 =>
 jc (α := V → TH → PD → R) (fun x34 h35 d36 =>
 jc (α := JT) (fun x38 h39 =>
 kPick x27 x38 qf fun x41 =>
 dokS [h3, h20, h24, h35, h39] d36 (kFA 0 x2 fun x42 =>
 kL1 x42 h39 fun x43 =>
 kEqI false x43 (qb 1) fun x44 =>
 jc (α := Cur 97) (fun _ x46 _ x48 x49 _ _ _ _ _ _ _ _ _ _ _ _ _ _ _ _ _ x67 x68 _ _ _ _ _ _ _ _ _ _ _ _ _ _ _ _ _ _ _ _ _ _ _ _ _ _ _ _ _ _ _ _ _ _ _ _ _ _ _ _ _ _ _ _ _ _ _ _ _ _ _ _ _ _ _ _ _ _ _ _ _ _ _ _ _ _ _ _ _ _ _ _ _ h142 =>
 brS x68 (some (x48, h142)) (kEqI false x67 (qb 5) fun x144 =>
 brS x144 (jc (α := JT) (fun x145 h146 =>
 jc (α := JT) (fun x148 h149 =>
 jc (α := JT) (fun x151 h152 =>
 jc (α := JT) (fun x154 h155 =>
 jc (α := JT) (fun x157 h158 =>
 jc (α := JT) (fun x160 h161 =>
 jc (α := JT) (fun x163 h164 =>
 jc (α := JT) (fun x166 h167 =>
 kPick x48 qt x166 fun x169 =>
 some (x169, h167)) fun j168 =>
 wtS x48 false (kPick x154 x163 qf fun x170 =>
 j168 x170 h164) (j168 u h164)) fun j165 =>
 wtS x154 true (kCall X 117 [x160] h161 fun x171 h172 =>
 j165 x171 h172) (j165 u h161)) fun j162 =>
 wtS x154 true (kL1 x157 h158 fun x173 =>
 j162 x173 h158) (j162 u h158)) fun j159 =>
 wtS x154 true (kFA 2 x46 fun x174 =>
 j159 x174 h155) (j159 u h155)) fun j156 =>
 wtS x48 false (j156 x151 h152) (j156 u h152)) fun j153 =>
 wtS x48 false (kCall X 116 [x148] h149 fun x175 h176 =>
 j153 x175 h176) (j153 u h149)) fun j150 =>
 wtS x48 false (kL1 x145 h146 fun x177 =>
 j150 x177 h146) (j150 u h146)) fun j147 =>
 wtS x48 false (kFA 1 x46 fun x178 =>
 j147 x178 h142) (j147 u h142)) (kEqI false x67 (qb 6) fun x179 =>
 brS x179 (jc (α := JT) (fun x180 h181 =>
 jc (α := JT) (fun x183 h184 =>
 jc (α := JT) (fun x186 h187 =>
 jc (α := JT) (fun x189 h190 =>
 jc (α := JT) (fun x192 h193 =>
 jc (α := JT) (fun x195 h196 =>
 jc (α := JT) (fun x198 h199 =>
 jc (α := JT) (fun x201 h202 =>
 kPick x48 qt x201 fun x204 =>
 some (x204, h202)) fun j203 =>
 wtS x48 false (kPick x189 x198 qf fun x205 =>
 j203 x205 h199) (j203 u h199)) fun j200 =>
 wtS x189 true (kCall X 116 [x195] h196 fun x206 h207 =>
 j200 x206 h207) (j200 u h196)) fun j197 =>
 wtS x189 true (kL1 x192 h193 fun x208 =>
 j197 x208 h193) (j197 u h193)) fun j194 =>
 wtS x189 true (kFA 2 x46 fun x209 =>
 j194 x209 h190) (j194 u h190)) fun j191 =>
 wtS x48 false (j191 x186 h187) (j191 u h187)) fun j188 =>
 wtS x48 false (kCall X 117 [x183] h184 fun x210 h211 =>
 j188 x210 h211) (j188 u h184)) fun j185 =>
 wtS x48 false (kL1 x180 h181 fun x212 =>
 j185 x212 h181) (j185 u h181)) fun j182 =>
 wtS x48 false (kFA 1 x46 fun x213 =>
 j182 x213 h142) (j182 u h142)) (kEqI false x67 (qb 17) fun x214 =>
 brS x214 (kFA 1 x46 fun x215 =>
 kL1 x215 h142 fun x216 =>
 kCall X 117 [x216] h142 fun x217 h218 =>
 jc (α := JT) (fun x219 h220 =>
 jc (α := JT) (fun x222 h223 =>
 jc (α := JT) (fun x225 h226 =>
 kPick x217 x225 qf fun x228 =>
 some (x228, h226)) fun j227 =>
 wtS x217 true (kCall X 116 [x222] h223 fun x229 h230 =>
 j227 x229 h230) (j227 u h223)) fun j224 =>
 wtS x217 true (kL1 x219 h220 fun x231 =>
 j224 x231 h220) (j224 u h220)) fun j221 =>
 wtS x217 true (kFA 2 x46 fun x232 =>
 j221 x232 h218) (j221 u h218)) (kEqI false x67 (qb 15) fun x233 =>
 brS x233 (kFA 1 x46 fun x234 =>
 kL1 x234 h142 fun x235 =>
 kCall X 118 [x235] h142 fun x236 h237 =>
 jc (α := JT) (fun x238 h239 =>
 jc (α := JT) (fun x241 h242 =>
 jc (α := JT) (fun x244 h245 =>
 kPick x236 x244 qf fun x247 =>
 some (x247, h245)) fun j246 =>
 wtS x236 true (kCall X 117 [x241] h242 fun x248 h249 =>
 j246 x248 h249) (j246 u h242)) fun j243 =>
 wtS x236 true (kL1 x238 h239 fun x250 =>
 j243 x250 h239) (j243 u h239)) fun j240 =>
 wtS x236 true (kFA 2 x46 fun x251 =>
 j240 x251 h237) (j240 u h237)) (kEqI false x67 (qb 16) fun x252 =>
 brS x252 (kFA 1 x46 fun x253 =>
 kL1 x253 h142 fun x254 =>
 kCall X 117 [x254] h142 fun x255 h256 =>
 jc (α := JT) (fun x257 h258 =>
 jc (α := JT) (fun x260 h261 =>
 jc (α := JT) (fun x263 h264 =>
 kPick x255 x263 qf fun x266 =>
 some (x266, h264)) fun j265 =>
 wtS x255 true (kCall X 118 [x260] h261 fun x267 h268 =>
 j265 x267 h268) (j265 u h261)) fun j262 =>
 wtS x255 true (kL1 x257 h258 fun x269 =>
 j262 x269 h258) (j262 u h258)) fun j259 =>
 wtS x255 true (kFA 2 x46 fun x270 =>
 j259 x270 h256) (j259 u h256)) (kFA 0 x46 fun x271 =>
 kL1 x271 h142 fun x272 =>
 kBin .geq x272 (qb 7) fun x273 =>
 jc (α := JT) (fun x274 h275 =>
 jc (α := JT) (fun x277 h278 =>
 jc (α := JT) (fun x280 h281 =>
 kPick x273 x280 qf fun x283 =>
 jc (α := JT) (fun x284 h285 =>
 kPick x283 x284 qf fun x287 =>
 some (x287, h285)) fun j286 =>
 wtS x283 true (j286 x49 h281) (j286 u h281)) fun j282 =>
 wtS x273 true (kBin .leq x277 (qb 14) fun x288 =>
 j282 x288 h278) (j282 u h278)) fun j279 =>
 wtS x273 true (kL1 x274 h275 fun x289 =>
 j279 x289 h275) (j279 u h275)) fun j276 =>
 wtS x273 true (kFA 0 x46 fun x290 =>
 j276 x290 h142) (j276 u h142)))))))) fun j143 =>
 brS x44 (j143 u x2 u x26 x41 u u u u u u u u u u u u u u u u u x43 x44 u u u u u u u u u u u u u u u u u u u u u u u u u u u u u u u u u u u u u u u u u u u u u u u u u u u u u u u u u u u u u u u u u u u u u u u u u h39) (kEqI false x43 (qb 2) fun x291 =>
 jc (α := Cur 97) (fun _ x293 _ x295 x296 _ _ _ _ _ _ _ _ _ _ _ _ _ _ _ _ _ x314 x315 _ _ _ _ _ _ _ _ _ _ _ _ _ _ _ _ _ _ _ _ _ _ _ _ _ _ _ _ _ _ _ _ _ _ _ _ _ _ _ _ _ _ _ _ _ _ _ _ _ _ _ _ _ _ _ _ _ _ _ _ _ _ _ _ _ _ _ _ _ _ _ _ _ h389 =>
 j143 u x293 u x295 x296 u u u u u u u u u u u u u u u u u x314 x315 u u u u u u u u u u u u u u u u u u u u u u u u u u u u u u u u u u u u u u u u u u u u u u u u u u u u u u u u u u u u u u u u u u u u u u u u u h389) fun j390 =>
 brS x291 (j390 u x2 u x26 x41 u u u u u u u u u u u u u u u u u x43 x291 u u u u u u u u u u u u u u u u u u u u u u u u u u u u u u u u u u u u u u u u u u u u u u u u u u u u u u u u u u u u u u u u u u u u u u u u u h39) (kEqI false x43 (qb 3) fun x391 =>
 jc (α := Cur 97) (fun _ x393 _ x395 x396 _ _ _ _ _ _ _ _ _ _ _ _ _ _ _ _ _ x414 x415 _ _ _ _ _ _ _ _ _ _ _ _ _ _ _ _ _ _ _ _ _ _ _ _ _ _ _ _ _ _ _ _ _ _ _ _ _ _ _ _ _ _ _ _ _ _ _ _ _ _ _ _ _ _ _ _ _ _ _ _ _ _ _ _ _ _ _ _ _ _ _ _ _ h489 =>
 j390 u x393 u x395 x396 u u u u u u u u u u u u u u u u u x414 x415 u u u u u u u u u u u u u u u u u u u u u u u u u u u u u u u u u u u u u u u u u u u u u u u u u u u u u u u u u u u u u u u u u u u u u u u u u h489) fun j490 =>
 brS x391 (j490 u x2 u x26 x41 u u u u u u u u u u u u u u u u u x43 x391 u u u u u u u u u u u u u u u u u u u u u u u u u u u u u u u u u u u u u u u u u u u u u u u u u u u u u u u u u u u u u u u u u u u u u u u u u h39) (kEqI false x43 (qb 4) fun x491 =>
 jc (α := Cur 97) (fun _ x493 _ x495 x496 _ _ _ _ _ _ _ _ _ _ _ _ _ _ _ _ _ x514 x515 _ _ _ _ _ _ _ _ _ _ _ _ _ _ _ _ _ _ _ _ _ _ _ _ _ _ _ _ _ _ _ _ _ _ _ _ _ _ _ _ _ _ _ _ _ _ _ _ _ _ _ _ _ _ _ _ _ _ _ _ _ _ _ _ _ _ _ _ _ _ _ _ _ h589 =>
 j490 u x493 u x495 x496 u u u u u u u u u u u u u u u u u x514 x515 u u u u u u u u u u u u u u u u u u u u u u u u u u u u u u u u u u u u u u u u u u u u u u u u u u u u u u u u u u u u u u u u u u u u u u u u u h589) fun j590 =>
 brS x491 (j590 u x2 u x26 x41 u u u u u u u u u u u u u u u u u x43 x491 u u u u u u u u u u u u u u u u u u u u u u u u u u u u u u u u u u u u u u u u u u u u u u u u u u u u u u u u u u u u u u u u u u u u u u u u u h39) (kEqI false x43 (qb 18) fun x591 =>
 j590 u x2 u x26 x41 u u u u u u u u u u u u u u u u u x43 x591 u u u u u u u u u u u u u u u u u u u u u u u u u u u u u u u u u u u u u u u u u u u u u u u u u u u u u u u u u u u u u u u u u u u u u u u u u h39)))))) fun j40 =>
 wtS x27 true (kCall X 117 [x34] h35 fun x592 h593 =>
 j40 x592 h593) (j40 u h35)) fun j37 =>
 wtS x27 true (kL1 x29 h30 fun x594 =>
 j37 x594 h30 d21) (j37 u h30 d21)) fun j31 =>
 wtS x27 true (kFA 2 x2 fun x595 =>
 j31 x595 h28) (j31 u h28)) fun j25 =>
 wtS x12 true (kCall X 116 [x19] h20 fun x596 h597 =>
 j25 x596 h597) (j25 u h20)) fun j22 =>
 wtS x12 true (kL1 x14 h15 fun x598 =>
 j22 x598 h15 ((fun h9 => kL1 x8 h9 fun x10 =>
 some (x10, h9), x11, 0, 2) :: [])) (j22 u h15 ((fun h9 => kL1 x8 h9 fun x10 =>
 some (x10, h9), x11, 0, 2) :: []))) fun j16 =>
 wtS x12 true (kFA 2 x2 fun x599 =>
 j16 x599 h13) (j16 u h13))
theorem p72_ok (k : Nat) : p72 k = funcS k 1 lit72 := by kernel_rfl
def p75 (_ : Nat) : CtxK → List V → TH → R := fun _ => ap 1 (fun x0 h1 =>
 kNew (V.cellsR x0) h1 fun x2 h3 =>
 kFA 0 x2 fun x4 =>
 kL1 x4 h3 fun x5 =>
 kEqI false x5 (qb 1) fun x6 =>
 jc (α := Cur 22) (fun _ x8 _ x10 _ _ x13 _ _ _ _ _ _ _ _ _ _ _ _ _ _ _ h29 =>
 jc (α := Cur 22) (fun _ x32 _ x34 _ _ _ _ _ _ _ _ _ _ _ _ _ _ _ _ _ _ h53 =>
 kFA 3 x32 fun x55 =>
 kL1 x55 h53 fun x56 =>
 kBin .geq x56 x34 fun x57 =>
 jc (α := JT) (fun x58 h59 =>
 jc (α := JT) (fun x61 h62 =>
 jc (α := JT) (fun x64 h65 =>
 kPick x57 x64 qf fun x67 =>
 some (x67, h65)) fun j66 =>
 wtS x57 true (kBin .leq x61 (qw 60) fun x68 =>
 j66 x68 h62) (j66 u h62)) fun j63 =>
 wtS x57 true (kL1 x58 h59 fun x69 =>
 j63 x69 h59) (j63 u h59)) fun j60 =>
 wtS x57 true (kFA 3 x32 fun x70 =>
 j60 x70 h53) (j60 u h53)) fun j54 =>
 brS x13 (j54 u x8 u (qw 2) u u u u u u u u u u u u u u u u u u h29) (j54 u x8 u x10 u u u u u u u u u u u u u u u u u u h29)) fun j30 =>
 brS x6 (j30 u x2 u (qw 1) u u x6 u u u u u u u u u u u u u u u h3) (kEqI false x5 (qb 2) fun x71 =>
 jc (α := Cur 22) (fun _ x73 _ x75 _ _ x78 _ _ _ _ _ _ _ _ _ _ _ _ _ _ _ h94 =>
 j30 u x73 u x75 u u x78 u u u u u u u u u u u u u u u h94) fun j95 =>
 brS x71 (j95 u x2 u (qw 1) u u x71 u u u u u u u u u u u u u u u h3) (kEqI false x5 (qb 3) fun x96 =>
 jc (α := Cur 22) (fun _ x98 _ x100 _ _ x103 _ _ _ _ _ _ _ _ _ _ _ _ _ _ _ h119 =>
 j95 u x98 u x100 u u x103 u u u u u u u u u u u u u u u h119) fun j120 =>
 brS x96 (j120 u x2 u (qw 1) u u x96 u u u u u u u u u u u u u u u h3) (kEqI false x5 (qb 4) fun x121 =>
 jc (α := Cur 22) (fun _ x123 _ x125 _ _ x128 _ _ _ _ _ _ _ _ _ _ _ _ _ _ _ h144 =>
 j120 u x123 u x125 u u x128 u u u u u u u u u u u u u u u h144) fun j145 =>
 brS x121 (j145 u x2 u (qw 1) u u x121 u u u u u u u u u u u u u u u h3) (kEqI false x5 (qb 5) fun x146 =>
 jc (α := Cur 22) (fun _ x148 _ x150 _ _ x153 _ _ _ _ _ _ _ _ _ _ _ _ _ _ _ h169 =>
 j145 u x148 u x150 u u x153 u u u u u u u u u u u u u u u h169) fun j170 =>
 brS x146 (j170 u x2 u (qw 1) u u x146 u u u u u u u u u u u u u u u h3) (kEqI false x5 (qb 18) fun x171 =>
 j170 u x2 u (qw 1) u u x171 u u u u u u u u u u u u u u u h3))))))
theorem p75_ok (k : Nat) : p75 k = funcS k 1 lit75 := by kernel_rfl
def p78 (_ : Nat) : CtxK → List V → TH → R := fun X => ap 1 (fun x0 h1 =>
 kNew (V.cellsR x0) h1 fun x2 h3 =>
 kFA 0 x2 fun x4 =>
 kL1 x4 h3 fun x5 =>
 kEqI false x5 (qi 0) fun x6 =>
 brS x6 (kFA 1 x2 fun x7 =>
 kL1 x7 h3 fun x8 =>
 kEqI false x8 (qw 0) fun x9 =>
 jc (α := JT) (fun x10 h11 =>
 jc (α := JT) (fun x13 h14 =>
 jc (α := JT) (fun x16 h17 =>
 jc (α := JT) (fun x19 h20 =>
 kPick x9 x19 qf fun x22 =>
 jc (α := JT) (fun x23 h24 =>
 jc (α := JT) (fun x26 h27 =>
 jc (α := JT) (fun x29 h30 =>
 kPick x22 x29 qf fun x32 =>
 some (x32, h30)) fun j31 =>
 wtS x22 true (kCall X 123 [x26] h27 fun x33 h34 =>
 j31 x33 h34) (j31 u h27)) fun j28 =>
 wtS x22 true (kLA 49 x23 h24 fun x35 =>
 j28 x35 h24) (j28 u h24)) fun j25 =>
 wtS x22 true (kFA 3 x2 fun x36 =>
 j25 x36 h20) (j25 u h20)) fun j21 =>
 wtS x9 true (kEqI false x16 (qi 0) fun x37 =>
 j21 x37 h17) (j21 u h17)) fun j18 =>
 wtS x9 true (kLen x13 fun x38 =>
 j18 x38 h14) (j18 u h14)) fun j15 =>
 wtS x9 true (kL1 x10 h11 fun x39 =>
 j15 x39 h11) (j15 u h11)) fun j12 =>
 wtS x9 true (kFA 2 x2 fun x40 =>
 j12 x40 h3) (j12 u h3)) (kEqI false x5 (qi 2) fun x41 =>
 brS x41 (kFA 1 x2 fun x42 =>
 kL1 x42 h3 fun x43 =>
 kEqI false x43 (qw 0) fun x44 =>
 jc (α := JT) (fun x45 h46 =>
 jc (α := JT) (fun x48 h49 =>
 jc (α := JT) (fun x51 h52 =>
 jc (α := JT) (fun x54 h55 =>
 kPick x44 x54 qf fun x57 =>
 jc (α := JT) (fun x58 h59 =>
 jc (α := JT) (fun x61 h62 =>
 jc (α := JT) (fun x64 h65 =>
 kPick x57 x64 qf fun x67 =>
 some (x67, h65)) fun j66 =>
 wtS x57 true (kCall X 50 [x61] h62 fun x68 h69 =>
 j66 x68 h69) (j66 u h62)) fun j63 =>
 wtS x57 true (kLA 49 x58 h59 fun x70 =>
 j63 x70 h59) (j63 u h59)) fun j60 =>
 wtS x57 true (kFA 3 x2 fun x71 =>
 j60 x71 h55) (j60 u h55)) fun j56 =>
 wtS x44 true (kEqI false x51 (qi 0) fun x72 =>
 j56 x72 h52) (j56 u h52)) fun j53 =>
 wtS x44 true (kLen x48 fun x73 =>
 j53 x73 h49) (j53 u h49)) fun j50 =>
 wtS x44 true (kL1 x45 h46 fun x74 =>
 j50 x74 h46) (j50 u h46)) fun j47 =>
 wtS x44 true (kFA 2 x2 fun x75 =>
 j47 x75 h3) (j47 u h3)) (kFA 2 x2 fun x76 =>
 kL1 x76 h3 fun x77 =>
 kB zr0 [(48, 1, x77)] fun x78 =>
 kNew zr0 h3 fun x79 h80 =>
 kSA 49 x79 x78 h80 fun _ h82 =>
 kFA 2 x2 fun x83 =>
 kL1 x83 h82 fun x84 =>
 kLen x84 fun x85 =>
 kBin .gtr x85 (qi 0) fun x86 =>
 jc (α := Cur 65) (fun _ x88 _ x90 _ _ _ _ _ _ _ _ _ _ _ _ _ _ _ _ _ _ _ _ _ _ _ _ _ _ _ _ _ _ _ _ _ _ _ _ _ _ _ _ _ _ _ _ _ _ _ _ _ _ _ _ _ _ _ _ _ _ _ _ _ h152 =>
 kFA 0 x88 fun x154 =>
 kL1 x154 h152 fun x155 =>
 kEqI false x155 (qi 1) fun x156 =>
 jc (α := JT) (fun x157 h158 =>
 jc (α := JT) (fun x160 h161 =>
 jc (α := JT) (fun x163 h164 =>
 kPick x156 x163 qf fun x166 =>
 jc (α := JT) (fun x167 h168 =>
 jc (α := JT) (fun x170 h171 =>
 kPick x166 x170 qf fun x173 =>
 some (x173, h171)) fun j172 =>
 wtS x166 true (kCall X 50 [x167] h168 fun x174 h175 =>
 j172 x174 h175) (j172 u h168)) fun j169 =>
 wtS x166 true (kLA 49 x90 h164 fun x176 =>
 j169 x176 h164) (j169 u h164)) fun j165 =>
 wtS x156 true (kCall X 123 [x160] h161 fun x177 h178 =>
 j165 x177 h178) (j165 u h161)) fun j162 =>
 wtS x156 true (kLA 49 x157 h158 fun x179 =>
 j162 x179 h158) (j162 u h158)) fun j159 =>
 wtS x156 true (kFA 3 x88 fun x180 =>
 j159 x180 h152) (j159 u h152)) fun j153 =>
 brS x86 (kFA 2 x2 fun x181 =>
 kL1 x181 h82 fun x182 =>
 kIS 8 x182 (qi 0) fun x183 =>
 kFA 1 x183 fun x184 =>
 kL1 x184 h82 fun x185 =>
 kBin .sub x185 (qw 1) fun x186 =>
 kFA 40 x79 fun x187 =>
 kFA 1 x187 fun x188 =>
 kS1 x188 x186 h82 fun _ h190 =>
 j153 u x2 u x79 u u u u u u u u u u u u u u u u u u u u u u u u u u u u u u u u u u u u u u u u u u u u u u u u u u u u u u u u u u u u u h190) (j153 u x2 u x79 u u u u u u u u u u u u u u u u u u u u u u u u u u u u u u u u u u u u u u u u u u u u u u u u u u u u u u u u u u u u u h82))))
theorem p78_ok (k : Nat) : p78 k = funcS k 1 lit78 := by kernel_rfl
def p93 (_ : Nat) : CtxK → List V → TH → R := fun X => ap 2 (fun x0 x1 h2 =>
 kNew (V.cellsR x0) h2 fun x3 h4 =>
 kNew (V.cellsR x1) h4 fun x5 h6 =>
 kNew zr6 h6 fun x7 h8 =>
 kNew [(qb 0), qs] h8 fun x9 h10 =>
 kLA 6 x5 h10 fun x11 =>
 kCall X 9 [x11] h10 fun x12 h13 =>
 kNot x12 fun x14 =>
 brS x14 (kLA 39 x3 h13 fun x15 =>
 kB [(qb 0), qs] [(0, 1, (qb 3))] fun x16 =>
 kSA 39 x7 x15 h13 fun _ h18 =>
 kSA 2 x9 x16 h18 fun _ h20 =>
 rsS [.cell 4 true 39, .cell 5 true 2] [x0, x1, x3, x5, x7, x9, u, u, u, u, x11, x12, x14, x15, x16, u, u, u, u, u, u, u, u, u, u, u, u, u, u, u, u, u, u, u, u, u, u, u, u, u, u, u, u, u, u, u, u, u, u, u, u, u, u, u, u, u, u] h20) (kLA 39 x3 h13 fun x21 =>
 kLA 6 x5 h13 fun x22 =>
 kCall X 133 [x21, x22] h13 fun x23 h24 =>
 kExt x23 0 fun x25 =>
 kExt x23 1 fun x26 =>
 kNew [(qb 0), qs] h24 fun x27 h28 =>
 kSA 2 x27 x25 h28 fun _ h30 =>
 brS x26 (kLA 39 x3 h30 fun x33 =>
 kLA 2 x27 h30 fun x36 =>
 kSA 39 x7 x33 h30 fun _ h38 =>
 kSA 2 x9 x36 h38 fun _ h40 =>
 dokS [h30, h38, h40] ((fun h34 => kLA 2 x27 h34 fun x35 =>
 some (x35, h34), x36, 0, 1) :: []) (rsS [.cell 4 true 39, .cell 5 true 2] [x0, x1, x3, x5, x7, x9, x27, x26, u, u, x11, x12, x14, u, u, x23, x21, x22, x23, x25, x26, x26, x33, x36, u, u, u, u, u, u, u, u, u, u, u, u, u, u, u, u, u, u, u, u, u, u, u, u, u, u, u, u, u, u, u, u, u] h40)) (kFA 3 x5 fun x41 =>
 kL1 x41 h30 fun x42 =>
 kFA 0 x3 fun x43 =>
 kIA 6 5 x43 x42 fun x44 =>
 kLA 5 x44 h30 fun x45 =>
 kB [qf, qs, qs, qs, qs] [(0, 5, x45)] fun x46 =>
 kNew (V.cellsR x46) h30 fun x47 h48 =>
 kFA 2 x5 fun x49 =>
 kL1 x49 h48 fun x52 =>
 kLA 6 x5 h48 fun x55 =>
 kNew [(qb 0), qs] h48 fun x56 h57 =>
 kCall X 134 [x52] h57 fun x58 h59 =>
 kCv X x58 [x47, x55] h59 fun x60 h61 =>
 kB [(qb 0), qs] [(0, 1, x60)] fun x62 =>
 kSA 2 x56 x62 h61 fun _ h64 =>
 dokS [h57, h59, h61, h64] ((fun h53 => kLA 6 x5 h53 fun x54 =>
 some (x54, h53), x55, 0, 1) :: []) (kFA 3 x5 fun x65 =>
 kL1 x65 h64 fun x68 =>
 kNilc x47 fun x69 =>
 kFA 0 x69 fun x70 =>
 kLA 5 x70 h64 fun x73 =>
 kFA 0 x3 fun x74 =>
 kIA 6 5 x74 x68 fun x75 =>
 kSA 5 x75 x73 h64 fun _ h77 =>
 dokS [h64, h77] [] (kFA 0 x5 fun x78 =>
 kL1 x78 h77 fun x79 =>
 kBin .sub x79 (qb 1) fun x80 =>
 kFA 1 x5 fun x81 =>
 kL1 x81 h77 fun x82 =>
 kLA 2 x56 h77 fun x83 =>
 kB [(qw 0), (qb 0), qs] [(0, 1, x82), (1, 2, x83)] fun x84 =>
 kFA 30 x3 fun x85 =>
 kIA 3 3 x85 x80 fun x86 =>
 kSA 3 x86 x84 h77 fun _ h88 =>
 kLA 39 x3 h88 fun x91 =>
 kLA 2 x56 h88 fun x94 =>
 kSA 39 x7 x91 h88 fun _ h96 =>
 kSA 2 x9 x94 h96 fun _ h98 =>
 dokS [h88, h96, h98] ((fun h92 => kLA 2 x56 h92 fun x93 =>
 some (x93, h92), x94, 0, 1) :: []) (rsS [.cell 4 true 39, .cell 5 true 2] [x0, x1, x3, x5, x7, x9, x27, x26, x47, x56, x11, x12, x14, u, u, x23, x21, x22, x23, x25, x26, x26, u, u, x41, x42, x43, x44, x45, x46, x47, x49, x52, x58, x47, x55, x60, x62, x65, x68, x47, x69, x70, x73, x74, x75, x78, x79, x80, x81, x82, x83, x84, x85, x86, x91, x94] h98))))))
theorem p93_ok (k : Nat) : p93 k = funcS k 2 lit93 := by kernel_rfl
def p96 (_ : Nat) : CtxK → List V → TH → R := fun X => ap 4 (fun x0 x1 x2 x3 h4 =>
 kNew (V.cellsR x2) h4 fun x5 h6 =>
 kL1 x5 h6 fun x7 =>
 kCall X 136 [x0, x1, x7, x3] h6 fun x8 h9 =>
 kLen x8 fun x10 =>
 kEqI false x10 (qi 0) fun x11 =>
 jc (α := JT) (fun x12 h13 =>
 jc (α := JT) (fun x15 h16 =>
 jc (α := JT) (fun x18 h19 =>
 jc (α := JT) (fun x21 h22 =>
 jc (α := JT) (fun x24 h25 =>
 jc (α := JT) (fun x27 h28 =>
 kPick x11 x27 qf fun x30 =>
 some (x30, h28)) fun j29 =>
 wtS x11 true (kNot x24 fun x31 =>
 j29 x31 h25) (j29 u h25)) fun j26 =>
 wtS x11 true (kCall X 137 [x18, x21] h22 fun x32 h33 =>
 j26 x32 h33) (j26 u h22)) fun j23 =>
 wtS x11 true (j23 (.fn 135 [] [x5]) h19) (j23 u h19)) fun j20 =>
 wtS x11 true (kCall X 12 [x12, x15] h16 fun x34 h35 =>
 j20 x34 h35) (j20 u h16)) fun j17 =>
 wtS x11 true (j17 x1 h13) (j17 u h13)) fun j14 =>
 wtS x11 true (j14 x0 h9) (j14 u h9))
theorem p96_ok (k : Nat) : p96 k = funcS k 4 lit96 := by kernel_rfl
def p99 (_ : Nat) : CtxK → List V → TH → R := fun X => ap 2 (fun x0 x1 h2 =>
 kNew (V.cellsR x0) h2 fun x3 h4 =>
 kNew (V.cellsR x1) h4 fun x5 h6 =>
 kNew zr4 h6 fun x7 h8 =>
 kLA 16 x3 h8 fun x9 =>
 kCall X 141 [x9] h8 fun x10 h11 =>
 kNot x10 fun x12 =>
 jc (α := JT) (fun x13 h14 =>
 jc (α := JT) (fun x16 h17 =>
 jc (α := JT) (fun x19 h20 =>
 kPick x12 qt x19 fun x22 =>
 jc (α := JT) (fun x23 h24 =>
 jc (α := JT) (fun x26 h27 =>
 jc (α := JT) (fun x29 h30 =>
 kPick x22 qt x29 fun x32 =>
 brS x32 (kB zr4 [] fun x33 =>
 kSA 16 x7 x33 h30 fun _ h35 =>
 rsS [.cell 4 true 16, .tmp 5] [x0, x1, x3, x5, x7, (qi 40), u, x9, x10, x12, x12, x13, x16, x19, x22, x22, x23, x26, x29, x32, x33, u, u, u, u, u, u, u, u, u, u, u, u, u, u, u, u, u, u, u, u, u, u, u, u, u, u, u, u] h35) (kFA 0 x3 fun x36 =>
 kL1 x36 h30 fun x37 =>
 kBin .add x37 (qw 1) fun x38 =>
 kFA 0 x3 fun x39 =>
 kS1 x39 x38 h30 fun _ h41 =>
 kFA 1 x5 fun x42 =>
 kL1 x42 h41 fun x43 =>
 kFA 1 x3 fun x44 =>
 kIA 5 3 x44 x43 fun x45 =>
 kFA 0 x5 fun x46 =>
 kL1 x46 h41 fun x47 =>
 kEqI false x47 (qb 1) fun x48 =>
 jc (α := Cur 49) (fun x49 x50 x51 x52 x53 _ x55 x56 x57 x58 x59 x60 x61 x62 x63 x64 x65 x66 x67 x68 x69 x70 x71 x72 x73 x74 x75 x76 x77 x78 x79 x80 x81 x82 x83 x84 x85 x86 x87 x88 x89 x90 x91 x92 x93 x94 x95 x96 _ h98 =>
 kLA 16 x51 h98 fun x100 =>
 kSA 16 x53 x100 h98 fun _ h102 =>
 rsS [.cell 4 true 16, .tmp 5] [x49, x50, x51, x52, x53, (qi 0), x55, x56, x57, x58, x59, x60, x61, x62, x63, x64, x65, x66, x67, x68, x69, x70, x71, x72, x73, x74, x75, x76, x77, x78, x79, x80, x81, x82, x83, x84, x85, x86, x87, x88, x89, x90, x91, x92, x93, x94, x95, x96, x100] h102) fun j99 =>
 brS x48 (kNilc x45 fun x103 =>
 kFA 0 x103 fun x104 =>
 kS1 x104 qt h41 fun _ h106 =>
 j99 u u x3 u x7 u u u u u u u u u u u u u u u u u u u u u u u u u u u u u u u u u u u u u u u u u u u u h106) (kEqI false x47 (qb 2) fun x107 =>
 jc (α := Cur 49) (fun _ _ x110 _ x112 _ _ _ _ _ _ _ _ _ _ _ _ _ _ _ _ _ _ _ _ _ _ _ _ _ _ _ _ _ _ _ _ _ _ _ _ _ _ _ _ _ _ _ _ h157 =>
 j99 u u x110 u x112 u u u u u u u u u u u u u u u u u u u u u u u u u u u u u u u u u u u u u u u u u u u u h157) fun j158 =>
 brS x107 (kNilc x45 fun x159 =>
 kFA 0 x159 fun x160 =>
 kS1 x160 qf h41 fun _ h162 =>
 j158 u u x3 u x7 u u u u u u u u u u u u u u u u u u u u u u u u u u u u u u u u u u u u u u u u u u u u h162) (kEqI false x47 (qb 3) fun x163 =>
 jc (α := Cur 49) (fun _ _ x166 _ x168 _ _ _ _ _ _ _ _ _ _ _ _ _ _ _ _ _ _ _ _ _ _ _ _ _ _ _ _ _ _ _ _ _ _ _ _ _ _ _ _ _ _ _ _ h213 =>
 j158 u u x166 u x168 u u u u u u u u u u u u u u u u u u u u u u u u u u u u u u u u u u u u u u u u u u u u h213) fun j214 =>
 brS x163 (kFA 2 x5 fun x215 =>
 kL1 x215 h41 fun x216 =>
 kNilc x45 fun x217 =>
 kFA 1 x217 fun x218 =>
 kS1 x218 x216 h41 fun _ h220 =>
 j214 u u x3 u x7 u u u u u u u u u u u u u u u u u u u u u u u u u u u u u u u u u u u u u u u u u u u u h220) (j214 u u x3 u x7 u u u u u u u u u u u u u u u u u u u u u u u u u u u u u u u u u u u u u u u u u u u u h41))))) fun j31 =>
 wtS x22 false (kEqI false x26 (qw 60) fun x221 =>
 j31 x221 h27) (j31 u h27)) fun j28 =>
 wtS x22 false (kL1 x23 h24 fun x222 =>
 j28 x222 h24) (j28 u h24)) fun j25 =>
 wtS x22 false (kFA 0 x3 fun x223 =>
 j25 x223 h20) (j25 u h20)) fun j21 =>
 wtS x12 false (kNot x16 fun x224 =>
 j21 x224 h17) (j21 u h17)) fun j18 =>
 wtS x12 false (kCall X 122 [x13] h14 fun x225 h226 =>
 j18 x225 h226) (j18 u h14)) fun j15 =>
 wtS x12 false (kLA 3 x5 h11 fun x227 =>
 j15 x227 h11) (j15 u h11))
theorem p99_ok (k : Nat) : p99 k = funcS k 2 lit99 := by kernel_rfl
def p101 (k : Nat) : CtxK → List V → TH → R := fun _ => ap 2 (fun x0 x1 h2 =>
 kLen x0 fun x3 =>
 kLen x1 fun x4 =>
 kEqI true x3 x4 fun x5 =>
 brS x5 (some (qf, h2)) (kLen x0 fun x6 =>
 lp (α := Cur 26) (zN 26) (fun n34 x7 x8 _ _ _ _ _ _ _ _ _ _ x19 x20 _ _ _ _ _ _ _ _ _ _ _ _ h33 =>
 kBin .lss x20 x19 fun x35 =>
 brS x35 (kIS 1 x7 x20 fun x36 =>
 kL1 x36 h33 fun x39 =>
 kIS 1 x8 x20 fun x40 =>
 kL1 x40 h33 fun x43 =>
 kEqI true x39 x43 fun x44 =>
 dokS [h33] [] (brS x44 (some (qf, h33)) (kBin .add x20 (qi 1) fun x45 =>
 n34 x7 x8 u u u u u u u u u u x19 x45 u u u u u u u u u u u u h33))) (some (qt, h33))) k x0 x1 u u u u u u u u u u x6 (qi 0) u u u u u u u u u u u u h2))
theorem p101_ok (k : Nat) : p101 k = funcS k 2 lit101 := by kernel_rfl
def p110 (_ : Nat) : CtxK → List V → TH → R := fun X => ap 2 (fun x0 x1 h2 =>
 kNew (V.cellsR x0) h2 fun x3 h4 =>
 kCall X 137 [x1, (.fn 156 [] [x3])] h4 fun x5 h6 =>
 kNot x5 fun x7 =>
 some (x7, h6))
theorem p110_ok (k : Nat) : p110 k = funcS k 2 lit110 := by kernel_rfl
def p113 (k : Nat) : CtxK → List V → TH → R := fun X => ap 1 (fun x0 h1 =>
 kNilc x0 fun x2 =>
 kFA 310 x2 fun x3 =>
 kLA 42 x3 h1 fun x4 =>
 lp (α := Cur 66) (zN 66) (fun n72 x5 _ _ x8 _ _ _ _ _ x14 x15 _ _ _ _ _ _ _ _ _ _ _ _ _ _ _ _ _ _ _ _ _ _ _ _ _ _ _ _ _ _ _ _ _ _ _ _ _ _ _ _ _ _ _ _ _ _ _ _ _ _ _ _ _ _ _ h71 =>
 kBin .lss x15 (qi 3) fun x73 =>
 brS x73 (jc (α := Cur 66) (fun x74 _ _ x77 _ _ _ _ _ x83 x84 _ _ _ _ _ _ _ _ _ _ _ _ _ _ _ _ _ _ _ _ _ _ _ _ _ _ _ _ _ _ _ _ _ _ _ _ _ _ _ _ _ _ _ _ _ _ _ _ _ _ _ _ _ _ _ h140 =>
 kBin .add x84 (qi 1) fun x142 =>
 n72 x74 u u x77 u u u u u x83 x142 u u u u u u u u u u u u u u u u u u u u u u u u u u u u u u u u u u u u u u u u u u u u u u u u u u u u u u u h140) fun j141 =>
 kP (indexE (some (3, 14, true)) x14 x15) fun x143 =>
 kNew [(qb 0), (qw 0), (qb 0), (qb 0), (qb 0), qs, (qb 0), qs, (qw 0), qf, qf, qf, qf, qf] h71 fun x144 h145 =>
 kSA 14 x144 x143 h145 fun _ h147 =>
 kFA 0 x144 fun x148 =>
 kFA 1 x148 fun x149 =>
 kL1 x149 h147 fun x152 =>
 kEqI false x152 (qw 0) fun x153 =>
 jc (α := JT) (fun x154 h155 =>
 jc (α := V → TH → PD → R) (fun x159 h160 d161 =>
 jc (α := JT) (fun x163 h164 =>
 jc (α := JT) (fun x166 h167 =>
 jc (α := JT) (fun x169 h170 =>
 jc (α := V → TH → PD → R) (fun x174 h175 d176 =>
 jc (α := JT) (fun x178 h179 =>
 jc (α := JT) (fun x181 h182 =>
 kPick x153 qt x181 fun x184 =>
 jc (α := JT) (fun x185 h186 =>
 jc (α := JT) (fun x188 h189 =>
 jc (α := JT) (fun x191 h192 =>
 jc (α := V → TH → PD → R) (fun x196 h197 d198 =>
 jc (α := JT) (fun x200 h201 =>
 jc (α := JT) (fun x203 h204 =>
 jc (α := JT) (fun x206 h207 =>
 jc (α := JT) (fun x209 h210 =>
 jc (α := JT) (fun x212 h213 =>
 jc (α := JT) (fun x215 h216 =>
 jc (α := V → TH → PD → R) (fun x220 h221 d222 =>
 jc (α := JT) (fun x224 h225 =>
 jc (α := JT) (fun x227 h228 =>
 jc (α := JT) (fun x230 h231 =>
 jc (α := V → TH → PD → R) (fun x235 h236 d237 =>
 jc (α := JT) (fun x239 h240 =>
 jc (α := V → TH → PD → R) (fun x244 h245 d246 =>
 jc (α := JT) (fun x248 h249 =>
 jc (α := JT) (fun x251 h252 =>
 kPick x184 qt x251 fun x254 =>
 dokS [h175, h252] d246 (brS x254 (j141 x5 u u x8 u u u u u x14 x15 u u u u u u u u u u u u u u u u u u u u u u u u u u u u u u u u u u u u u u u u u u u u u u u u u u u u u u u h252) (kFA 0 x144 fun x255 =>
 kLA 6 x255 h252 fun x256 =>
 kFA 6 x144 fun x257 =>
 kLA 2 x257 h252 fun x258 =>
 kCall X 112 [x5, x256, x258] h252 fun x259 h260 =>
 kBS 131 zr1 1 [(0, 131, x259)] h260 fun x261 h262 =>
 kAp 131 1400 x8 x261 h262 fun x263 h264 =>
 kB [(qb 0), (qw 0), (qb 0), (qb 0), (qb 0), qs, (qb 0), qs, (qw 0), qf, qf, qf, qf, qf] [] fun x265 =>
 kNilc x5 fun x266 =>
 kFA 310 x266 fun x267 =>
 kIA 3 14 x267 x15 fun x268 =>
 kSA 14 x268 x265 h264 fun _ h270 =>
 j141 x5 u u x263 u u u u u x14 x15 u u u u u u u u u u u u u u u u u u u u u u u u u u u u u u u u u u u u u u u u u u u u u u u u u u u u u u u h270))) fun j253 =>
 wtS x184 false (kPick x206 x248 qf fun x271 =>
 j253 x271 h249) (j253 u h249)) fun j250 =>
 wtS x206 true (kBin .leq x235 x244 fun x272 =>
 j250 x272 h245) (j250 u h245)) fun j247 =>
 wtS x206 true (kL1 x239 h240 fun x273 =>
 j247 x273 h240 d237) (j247 u h240 d237)) fun j241 =>
 wtS x206 true (kFA 8 x144 fun x274 =>
 j241 x274 h236) (j241 u h236)) fun j238 =>
 wtS x206 true (kL1 x230 h231 fun x275 =>
 j238 x275 h231 d222) (j238 u h231 d222)) fun j232 =>
 wtS x206 true (kFA 1 x227 fun x276 =>
 j232 x276 h228) (j232 u h228)) fun j229 =>
 wtS x206 true (kFA 0 x224 fun x277 =>
 j229 x277 h225) (j229 u h225)) fun j226 =>
 wtS x206 true (kIS 15 x220 (qi 0) fun x278 =>
 j226 x278 h221) (j226 u h221)) fun j223 =>
 wtS x206 true (kL1 x215 h216 fun x279 =>
 j223 x279 h216 d198) (j223 u h216 d198)) fun j217 =>
 wtS x206 true (kFA 309 x212 fun x280 =>
 j217 x280 h213) (j217 u h213)) fun j214 =>
 wtS x206 true (kNilc x209 fun x281 =>
 j214 x281 h210) (j214 u h210)) fun j211 =>
 wtS x206 true (j211 x5 h207) (j211 u h207)) fun j208 =>
 wtS x184 false (j208 x203 h204) (j208 u h204)) fun j205 =>
 wtS x184 false (kBin .gtr x200 (qi 0) fun x282 =>
 j205 x282 h201) (j205 u h201)) fun j202 =>
 wtS x184 false (kLen x196 fun x283 =>
 j202 x283 h197) (j202 u h197)) fun j199 =>
 wtS x184 false (kL1 x191 h192 fun x284 =>
 j199 x284 h192 d176) (j199 u h192 d176)) fun j193 =>
 wtS x184 false (kFA 309 x188 fun x285 =>
 j193 x285 h189) (j193 u h189)) fun j190 =>
 wtS x184 false (kNilc x185 fun x286 =>
 j190 x286 h186) (j190 u h186)) fun j187 =>
 wtS x184 false (j187 x5 h182) (j187 u h182)) fun j183 =>
 wtS x153 false (kNot x178 fun x287 =>
 j183 x287 h179) (j183 u h179)) fun j180 =>
 wtS x153 false (kCall X 110 [x159, x174] h175 fun x288 h289 =>
 j180 x288 h289) (j180 u h175)) fun j177 =>
 wtS x153 false (kL1 x169 h170 fun x290 =>
 j177 x290 h170 d161) (j177 u h170 d161)) fun j171 =>
 wtS x153 false (kFA 53 x166 fun x291 =>
 j171 x291 h167) (j171 u h167)) fun j168 =>
 wtS x153 false (kNilc x163 fun x292 =>
 j168 x292 h164) (j168 u h164)) fun j165 =>
 wtS x153 false (j165 x5 h160) (j165 u h160)) fun j162 =>
 wtS x153 false (kLA 5 x154 h155 fun x293 =>
 j162 x293 h155 []) (j162 u h155 [])) fun j156 =>
 wtS x153 false (kFA 9 x144 fun x294 =>
 j156 x294 h147) (j156 u h147)) (some (x8, h71))) k x0 u u .nils u u u u u x4 (qi 0) u u u u u u u u u u u u u u u u u u u u u u u u u u u u u u u u u u u u u u u u u u u u u u u u u u u u u u u h1)
theorem p113_ok (k : Nat) : p113 k = funcS k 1 lit113 := by kernel_rfl
def p124 (_ : Nat) : CtxK → List V → TH → R := fun X => ap 1 (fun x0 h1 =>
 kCall X 164 [.nils, x0] h1 fun x2 h3 =>
 some (x2, h3))
theorem p124_ok (k : Nat) : p124 k = funcS k 1 lit124 := by kernel_rfl
def p133 (_ : Nat) : CtxK → List V → TH → R := fun X => ap 2 (fun x0 x1 h2 =>
 kNew (V.cellsR x0) h2 fun x3 h4 =>
 kNew (V.cellsR x1) h4 fun x5 h6 =>
 kNew [(qb 0), qs] h6 fun x7 h8 =>
 kLA 6 x5 h8 fun x11 =>
 kCall X 9 [x11] h8 fun x12 h13 =>
 kNot x12 fun x14 =>
 jc (α := JT) (fun x15 h16 =>
 jc (α := V → TH → PD → R) (fun x20 h21 d22 =>
 jc (α := JT) (fun x24 h25 =>
 jc (α := JT) (fun x27 h28 =>
 jc (α := JT) (fun x30 h31 =>
 jc (α := JT) (fun x33 h34 =>
 jc (α := V → TH → PD → R) (fun x38 h39 d40 =>
 jc (α := JT) (fun x42 h43 =>
 jc (α := V → TH → PD → R) (fun x47 h48 d49 =>
 jc (α := JT) (fun x51 h52 =>
 kPick x14 qt x51 fun x54 =>
 dokS [h8, h52] d49 (brS x54 (kB [(qb 0), qs] [] fun x55 =>
 kSA 2 x7 x55 h52 fun _ h57 =>
 rsS [.cell 4 true 2, .tmp 5] [x0, x1, x3, x5, x7, qf, u, x11, x12, x14, x14, x15, x20, x24, x27, x30, x33, x38, x42, x47, x51, x54, x55, u, u, u, u, u, u, u, u, u, u, u, u, u, u] h57) (kFA 0 x5 fun x58 =>
 kL1 x58 h52 fun x59 =>
 kBin .sub x59 (qb 1) fun x60 =>
 kFA 30 x3 fun x61 =>
 kIA 3 3 x61 x60 fun x62 =>
 kLA 3 x62 h52 fun x63 =>
 kNew [(qw 0), (qb 0), qs] h52 fun x64 h65 =>
 kSA 3 x64 x63 h65 fun _ h67 =>
 kFA 0 x64 fun x68 =>
 kL1 x68 h67 fun x69 =>
 kFA 1 x5 fun x70 =>
 kL1 x70 h67 fun x71 =>
 kEqI false x69 x71 fun x72 =>
 brS x72 (kFA 1 x64 fun x73 =>
 kLA 2 x73 h67 fun x74 =>
 kSA 2 x7 x74 h67 fun _ h76 =>
 rsS [.cell 4 true 2, .tmp 5] [x0, x1, x3, x5, x7, qt, x64, x11, x12, x14, x14, x15, x20, x24, x27, x30, x33, x38, x42, x47, x51, x54, u, x58, x59, x60, x61, x62, x63, x68, x69, x70, x71, x72, x73, x74, u] h76) (kB [(qb 0), qs] [(0, 1, (qb 3))] fun x77 =>
 kSA 2 x7 x77 h67 fun _ h79 =>
 rsS [.cell 4 true 2, .tmp 5] [x0, x1, x3, x5, x7, qt, x64, x11, x12, x14, x14, x15, x20, x24, x27, x30, x33, x38, x42, x47, x51, x54, u, x58, x59, x60, x61, x62, x63, x68, x69, x70, x71, x72, u, u, x77] h79)))) fun j53 =>
 wtS x14 false (kBin .lss x38 x47 fun x80 =>
 j53 x80 h48) (j53 u h48)) fun j50 =>
 wtS x14 false (kL1 x42 h43 fun x81 =>
 j50 x81 h43 d40) (j50 u h43 d40)) fun j44 =>
 wtS x14 false (kFA 1 x5 fun x82 =>
 j44 x82 h39) (j44 u h39)) fun j41 =>
 wtS x14 false (kL1 x33 h34 fun x83 =>
 j41 x83 h34 d22) (j41 u h34 d22)) fun j35 =>
 wtS x14 false (kFA 0 x30 fun x84 =>
 j35 x84 h31) (j35 u h31)) fun j32 =>
 wtS x14 false (kIA 3 3 x27 x24 fun x85 =>
 j32 x85 h28) (j32 u h28)) fun j29 =>
 wtS x14 false (kFA 30 x3 fun x86 =>
 j29 x86 h25) (j29 u h25)) fun j26 =>
 wtS x14 false (kBin .sub x20 (qb 1) fun x87 =>
 j26 x87 h21) (j26 u h21)) fun j23 =>
 wtS x14 false (kL1 x15 h16 fun x88 =>
 j23 x88 h16 []) (j23 u h16 [])) fun j17 =>
 wtS x14 false (kFA 0 x5 fun x89 =>
 j17 x89 h13) (j17 u h13))
theorem p133_ok (k : Nat) : p133 k = funcS k 2 lit133 := by kernel_rfl
def p137 (_ : Nat) : CtxK → List V → TH → R := fun X => ap 2 (fun x0 x1 h2 =>
 kCall X 126 [x0, x1] h2 fun x3 h4 =>
 kBin .geq x3 (qi 0) fun x5 =>
 some (x5, h4))
theorem p137_ok (k : Nat) : p137 k = funcS k 2 lit137 := by kernel_rfl
def p141 (k : Nat) : CtxK → List V → TH → R := fun _ => ap 1 (fun x0 h1 =>
 kNew (V.cellsR x0) h1 fun x2 h3 =>
 kFA 1 x2 fun x4 =>
 kLA 15 x4 h3 fun x5 =>
 lp (α := Cur 32) (zN 32) (fun n39 _ x7 _ _ _ _ x12 x13 _ _ _ _ _ _ _ _ _ _ _ _ _ _ _ _ _ _ _ _ _ _ _ _ h38 =>
 kBin .lss x13 (qi 5) fun x40 =>
 brS x40 (kP (indexE (some (5, 3, true)) x12 x13) fun x41 =>
 kNew [qf, (qi 0), (qb 0)] h38 fun x42 h43 =>
 kSA 3 x42 x41 h43 fun _ h45 =>
 kFA 1 x42 fun x46 =>
 kL1 x46 h45 fun x47 =>
 kBin .lss x47 (qi 0) fun x48 =>
 jc (α := JT) (fun x49 h50 =>
 jc (α := JT) (fun x52 h53 =>
 jc (α := JT) (fun x55 h56 =>
 kPick x48 qt x55 fun x58 =>
 jc (α := JT) (fun x59 h60 =>
 jc (α := JT) (fun x62 h63 =>
 jc (α := JT) (fun x65 h66 =>
 kPick x58 qt x65 fun x68 =>
 brS x68 (some (qf, h66)) (kBin .add x13 (qi 1) fun x69 =>
 n39 u x7 u u u u x12 x69 u u u u u u u u u u u u u u u u u u u u u u u u h66)) fun j67 =>
 wtS x58 false (kBin .geq x62 (qb 8) fun x70 =>
 j67 x70 h63) (j67 u h63)) fun j64 =>
 wtS x58 false (kL1 x59 h60 fun x71 =>
 j64 x71 h60) (j64 u h60)) fun j61 =>
 wtS x58 false (kFA 2 x42 fun x72 =>
 j61 x72 h56) (j61 u h56)) fun j57 =>
 wtS x48 false (kBin .gtr x52 (qi 16) fun x73 =>
 j57 x73 h53) (j57 u h53)) fun j54 =>
 wtS x48 false (kL1 x49 h50 fun x74 =>
 j54 x74 h50) (j54 u h50)) fun j51 =>
 wtS x48 false (kFA 1 x42 fun x75 =>
 j51 x75 h45) (j51 u h45)) (kFA 0 x7 fun x76 =>
 kL1 x76 h38 fun x77 =>
 kBin .geq x77 (qw 1) fun x78 =>
 jc (α := JT) (fun x79 h80 =>
 jc (α := JT) (fun x82 h83 =>
 jc (α := JT) (fun x85 h86 =>
 kPick x78 x85 qf fun x88 =>
 some (x88, h86)) fun j87 =>
 wtS x78 true (kBin .leq x82 (qw 60) fun x89 =>
 j87 x89 h83) (j87 u h83)) fun j84 =>
 wtS x78 true (kL1 x79 h80 fun x90 =>
 j84 x90 h80) (j84 u h80)) fun j81 =>
 wtS x78 true (kFA 0 x7 fun x91 =>
 j81 x91 h38) (j81 u h38))) k u x2 u u u u x5 (qi 0) u u u u u u u u u u u u u u u u u u u u u u u u h3)
theorem p141_ok (k : Nat) : p141 k = funcS k 1 lit141 := by kernel_rfl
def p153 (_ : Nat) : CtxK → List V → TH → R := fun _ => ap 1 (fun x0 h1 =>
 kBin .geq x0 (qw 65536) fun x2 =>
 jc (α := Cur 19) (fun x3 _ x5 _ _ _ _ _ _ _ _ _ _ _ _ _ _ _ _ h22 =>
 kBin .geq x3 (qw 256) fun x24 =>
 jc (α := Cur 19) (fun x25 _ x27 _ _ _ _ _ _ _ _ _ _ _ _ _ _ _ _ h44 =>
 kConv .u8 x25 fun x46 =>
 kP (indexE none (.str (bs [0, 1, 2, 2, 3, 3, 3, 3, 4, 4, 4, 4, 4, 4, 4, 4, 5, 5, 5, 5, 5, 5, 5, 5, 5, 5, 5, 5, 5, 5, 5, 5, 6, 6, 6, 6, 6, 6, 6, 6, 6, 6, 6, 6, 6, 6, 6, 6, 6, 6, 6, 6, 6, 6, 6, 6, 6, 6, 6, 6, 6, 6, 6, 6, 7, 7, 7, 7, 7, 7, 7, 7, 7, 7, 7, 7, 7, 7, 7, 7, 7, 7, 7, 7, 7, 7, 7, 7, 7, 7, 7, 7, 7, 7, 7, 7, 7, 7, 7, 7, 7, 7, 7, 7, 7, 7, 7, 7, 7, 7, 7, 7, 7, 7, 7, 7, 7, 7, 7, 7, 7, 7, 7, 7, 7, 7, 7, 7, 8, 8, 8, 8, 8, 8, 8, 8, 8, 8, 8, 8, 8, 8, 8, 8, 8, 8, 8, 8, 8, 8, 8, 8, 8, 8, 8, 8, 8, 8, 8, 8, 8, 8, 8, 8, 8, 8, 8, 8, 8, 8, 8, 8, 8, 8, 8, 8, 8, 8, 8, 8, 8, 8, 8, 8, 8, 8, 8, 8, 8, 8, 8, 8, 8, 8, 8, 8, 8, 8, 8, 8, 8, 8, 8, 8, 8, 8, 8, 8, 8, 8, 8, 8, 8, 8, 8, 8, 8, 8, 8, 8, 8, 8, 8, 8, 8, 8, 8, 8, 8, 8, 8, 8, 8, 8, 8, 8, 8, 8, 8, 8, 8, 8, 8, 8, 8, 8, 8, 8, 8, 8, 8, 8, 8, 8, 8, 8])) x46) fun x47 =>
 kConv .i64 x47 fun x48 =>
 kBin .add x27 x48 fun x49 =>
 some (x49, h44)) fun j45 =>
 brS x24 (kBin .shr x3 (.int .u64 8) fun x50 =>
 kBin .add x5 (qi 8) fun x51 =>
 j45 x50 u x51 u u u u u u u u u u u u u u u u h22) (j45 x3 u x5 u u u u u u u u u u u u u u u u h22)) fun j23 =>
 brS x2 (kBin .shr x0 (.int .u64 16) fun x52 =>
 j23 x52 u (qi 16) u u u u u u u u u u u u u u u u h1) (j23 x0 u (qi 0) u u u u u u u u u u u u u u u u h1))
theorem p153_ok (k : Nat) : p153 k = funcS k 1 lit153 := by kernel_rfl
def p155 (_ : Nat) : CtxK → List V → TH → R := fun X => ap 2 (fun x0 x1 h2 =>
 kNew (V.cellsR x0) h2 fun x3 h4 =>
 kNew (V.cellsR x1) h4 fun x5 h6 =>
 kNew zr0 h6 fun x7 h8 =>
 kLA 49 x3 h8 fun x9 =>
 kCall X 50 [x9] h8 fun x10 h11 =>
 kNot x10 fun x12 =>
 jc (α := JT) (fun x13 h14 =>
 jc (α := JT) (fun x16 h17 =>
 jc (α := JT) (fun x19 h20 =>
 kPick x12 qt x19 fun x22 =>
 jc (α := JT) (fun x23 h24 =>
 jc (α := JT) (fun x26 h27 =>
 jc (α := JT) (fun x29 h30 =>
 kPick x22 qt x29 fun x32 =>
 jc (α := JT) (fun x33 h34 =>
 jc (α := JT) (fun x36 h37 =>
 jc (α := JT) (fun x39 h40 =>
 jc (α := JT) (fun x42 h43 =>
 jc (α := JT) (fun x45 h46 =>
 jc (α := JT) (fun x48 h49 =>
 jc (α := JT) (fun x51 h52 =>
 jc (α := JT) (fun x54 h55 =>
 jc (α := JT) (fun x57 h58 =>
 jc (α := JT) (fun x60 h61 =>
 jc (α := JT) (fun x63 h64 =>
 jc (α := JT) (fun x66 h67 =>
 jc (α := JT) (fun x69 h70 =>
 jc (α := JT) (fun x72 h73 =>
 kPick x32 qt x72 fun x75 =>
 brS x75 (kCv X (.fn 184 [] []) [] h73 fun x76 h77 =>
 kExt x76 0 fun x78 =>
 kExt x76 1 fun x79 =>
 kSA 49 x7 x78 h77 fun _ h81 =>
 rsS [.cell 4 true 49, .tmp 5] [x0, x1, x3, x5, x7, x79, (.fn 184 [] []), u, u, u, u, x9, x10, x12, x12, x13, x16, x19, x22, x22, x23, x26, x29, x32, x32, x33, x36, x39, x42, x45, x48, x51, x54, x57, x60, x63, x66, x69, x72, x75, (.fn 184 [] []), x76, x78, x79, u, u, u, u, u, u, u, u, u, u, u, u, u, u, u, u, u, u, u, u, u, u, u, u, u, u, u, u, u, u, u, u, u, u, u, u, u, u, u, u, u, u, u, u, u, u, u, u, u, u, u, u, u, u, u, u, u, u, u, u, u, u, u, u, u, u, u, u, u, u, u, u, u, u, u, u, u, u, u] h81) (kFA 0 x5 fun x82 =>
 kL1 x82 h73 fun x83 =>
 kEqI false x83 (qi 2) fun x84 =>
 brS x84 (kFA 3 x5 fun x85 =>
 kLA 49 x85 h73 fun x86 =>
 kCall X 50 [x86] h73 fun x87 h88 =>
 kNot x87 fun x89 =>
 brS x89 (kCv X (.fn 184 [] []) [] h88 fun x90 h91 =>
 kExt x90 0 fun x92 =>
 kExt x90 1 fun x93 =>
 kSA 49 x7 x92 h91 fun _ h95 =>
 rsS [.cell 4 true 49, .tmp 5] [x0, x1, x3, x5, x7, x93, (.fn 184 [] []), u, u, u, u, x9, x10, x12, x12, x13, x16, x19, x22, x22, x23, x26, x29, x32, x32, x33, x36, x39, x42, x45, x48, x51, x54, x57, x60, x63, x66, x69, x72, x75, u, u, u, u, x82, x83, x84, x85, x86, x87, x89, (.fn 184 [] []), x90, x92, x93, u, u, u, u, u, u, u, u, u, u, u, u, u, u, u, u, u, u, u, u, u, u, u, u, u, u, u, u, u, u, u, u, u, u, u, u, u, u, u, u, u, u, u, u, u, u, u, u, u, u, u, u, u, u, u, u, u, u, u, u, u, u, u, u, u, u, u, u] h95) (kFA 3 x5 fun x96 =>
 kLA 49 x96 h88 fun x97 =>
 kCall X 36 [x97] h88 fun x98 h99 =>
 kSA 49 x7 x98 h99 fun _ h101 =>
 rsS [.cell 4 true 49, .tmp 5] [x0, x1, x3, x5, x7, (qi 0), (.fn 184 [] []), u, u, u, u, x9, x10, x12, x12, x13, x16, x19, x22, x22, x23, x26, x29, x32, x32, x33, x36, x39, x42, x45, x48, x51, x54, x57, x60, x63, x66, x69, x72, x75, u, u, u, u, x82, x83, x84, x85, x86, x87, x89, u, u, u, u, x96, x97, x98, u, u, u, u, u, u, u, u, u, u, u, u, u, u, u, u, u, u, u, u, u, u, u, u, u, u, u, u, u, u, u, u, u, u, u, u, u, u, u, u, u, u, u, u, u, u, u, u, u, u, u, u, u, u, u, u, u, u, u, u, u, u, u, u, u] h101)) (kLA 49 x3 h73 fun x102 =>
 kNew zr0 h73 fun x103 h104 =>
 kSA 49 x103 x102 h104 fun _ h106 =>
 kFA 0 x5 fun x107 =>
 kL1 x107 h106 fun x108 =>
 kEqI false x108 (qi 1) fun x109 =>
 jc (α := Cur 123) (fun x110 x111 x112 x113 x114 _ x116 x117 x118 x119 _ x121 x122 x123 x124 x125 x126 x127 x128 x129 x130 x131 x132 x133 x134 x135 x136 x137 x138 x139 x140 x141 x142 x143 x144 x145 x146 x147 x148 x149 x150 x151 x152 x153 x154 x155 x156 x157 x158 x159 x160 x161 x162 x163 x164 x165 x166 x167 x168 x169 x170 x171 x172 x173 x174 x175 x176 x177 x178 x179 x180 x181 x182 x183 x184 x185 x186 x187 x188 x189 x190 x191 x192 x193 x194 x195 x196 x197 _ _ _ _ _ _ _ _ _ _ _ _ _ _ _ _ _ _ _ _ _ _ _ _ _ _ _ _ _ _ x228 x229 x230 x231 x232 h233 =>
 kLA 49 x117 h233 fun x235 =>
 kFA 3 x113 fun x236 =>
 kFA 40 x236 fun x237 =>
 kFA 1 x237 fun x238 =>
 kL1 x238 h233 fun x239 =>
 kCall X 187 [x235, x239] h233 fun x240 h241 =>
 kExt x240 0 fun x242 =>
 kExt x240 1 fun x243 =>
 kSA 49 x117 x242 h241 fun _ h245 =>
 kFA 3 x113 fun x246 =>
 kFA 0 x246 fun x247 =>
 kL1 x247 h245 fun x248 =>
 kFA 0 x117 fun x249 =>
 kS1 x249 x248 h245 fun _ h251 =>
 kEqI true x243 (qi 0) fun x252 =>
 jc (α := JT) (fun x253 h254 =>
 jc (α := JT) (fun x256 h257 =>
 jc (α := JT) (fun x259 h260 =>
 jc (α := JT) (fun x262 h263 =>
 jc (α := JT) (fun x265 h266 =>
 jc (α := JT) (fun x268 h269 =>
 jc (α := JT) (fun x271 h272 =>
 jc (α := JT) (fun x274 h275 =>
 kPick x252 qt x274 fun x277 =>
 jc (α := JT) (fun x278 h279 =>
 jc (α := JT) (fun x281 h282 =>
 jc (α := JT) (fun x284 h285 =>
 kPick x277 qt x284 fun x287 =>
 brS x287 (kCv X x116 [] h285 fun x288 h289 =>
 kExt x288 0 fun x290 =>
 kExt x288 1 fun x291 =>
 kSA 49 x114 x290 h289 fun _ h293 =>
 rsS [.cell 4 true 49, .tmp 5] [x110, x111, x112, x113, x114, x291, x116, x117, x118, x119, x243, x121, x122, x123, x124, x125, x126, x127, x128, x129, x130, x131, x132, x133, x134, x135, x136, x137, x138, x139, x140, x141, x142, x143, x144, x145, x146, x147, x148, x149, x150, x151, x152, x153, x154, x155, x156, x157, x158, x159, x160, x161, x162, x163, x164, x165, x166, x167, x168, x169, x170, x171, x172, x173, x174, x175, x176, x177, x178, x179, x180, x181, x182, x183, x184, x185, x186, x187, x188, x189, x190, x191, x192, x193, x194, x195, x196, x197, x240, x235, x236, x237, x238, x239, x240, x242, x243, x246, x247, x248, x249, x243, x252, x252, x253, x256, x259, x262, x265, x268, x271, x274, x277, x277, x278, x281, x284, x287, x116, x288, x290, x291, x232] h293) (kLA 49 x117 h285 fun x294 =>
 kSA 49 x114 x294 h285 fun _ h296 =>
 rsS [.cell 4 true 49, .tmp 5] [x110, x111, x112, x113, x114, (qi 0), x116, x117, x118, x119, x243, x121, x122, x123, x124, x125, x126, x127, x128, x129, x130, x131, x132, x133, x134, x135, x136, x137, x138, x139, x140, x141, x142, x143, x144, x145, x146, x147, x148, x149, x150, x151, x152, x153, x154, x155, x156, x157, x158, x159, x160, x161, x162, x163, x164, x165, x166, x167, x168, x169, x170, x171, x172, x173, x174, x175, x176, x177, x178, x179, x180, x181, x182, x183, x184, x185, x186, x187, x188, x189, x190, x191, x192, x193, x194, x195, x196, x197, x240, x235, x236, x237, x238, x239, x240, x242, x243, x246, x247, x248, x249, x243, x252, x252, x253, x256, x259, x262, x265, x268, x271, x274, x277, x277, x278, x281, x284, x287, x228, x229, x230, x231, x294] h296)) fun j286 =>
 wtS x277 false (kNot x281 fun x297 =>
 j286 x297 h282) (j286 u h282)) fun j283 =>
 wtS x277 false (kCall X 50 [x278] h279 fun x298 h299 =>
 j283 x298 h299) (j283 u h279)) fun j280 =>
 wtS x277 false (kLA 49 x117 h275 fun x300 =>
 j280 x300 h275) (j280 u h275)) fun j276 =>
 wtS x252 false (kEqI true x259 x271 fun x301 =>
 j276 x301 h272) (j276 u h272)) fun j273 =>
 wtS x252 false (kL1 x268 h269 fun x302 =>
 j273 x302 h269) (j273 u h269)) fun j270 =>
 wtS x252 false (kFA 0 x265 fun x303 =>
 j270 x303 h266) (j270 u h266)) fun j267 =>
 wtS x252 false (kFA 40 x262 fun x304 =>
 j267 x304 h263) (j267 u h263)) fun j264 =>
 wtS x252 false (kFA 3 x113 fun x305 =>
 j264 x305 h260) (j264 u h260)) fun j261 =>
 wtS x252 false (kL1 x256 h257 fun x306 =>
 j261 x306 h257) (j261 u h257)) fun j258 =>
 wtS x252 false (kFA 0 x253 fun x307 =>
 j258 x307 h254) (j258 u h254)) fun j255 =>
 wtS x252 false (kFA 40 x117 fun x308 =>
 j255 x308 h251) (j255 u h251)) fun j234 =>
 brS x109 (kLA 49 x3 h106 fun x309 =>
 kFA 1 x5 fun x310 =>
 kL1 x310 h106 fun x311 =>
 kCall X 185 [x309, x311] h106 fun x312 h313 =>
 kExt x312 0 fun x314 =>
 kExt x312 1 fun x315 =>
 kNew zr0 h313 fun x316 h317 =>
 kSA 49 x316 x314 h317 fun _ h319 =>
 kEqI true x315 (qi 0) fun x320 =>
 brS x320 (kCv X (.fn 184 [] []) [] h319 fun x321 h322 =>
 kExt x321 0 fun x323 =>
 kExt x321 1 fun x324 =>
 kSA 49 x7 x323 h322 fun _ h326 =>
 rsS [.cell 4 true 49, .tmp 5] [x0, x1, x3, x5, x7, x324, (.fn 184 [] []), x103, x316, x315, u, x9, x10, x12, x12, x13, x16, x19, x22, x22, x23, x26, x29, x32, x32, x33, x36, x39, x42, x45, x48, x51, x54, x57, x60, x63, x66, x69, x72, x75, u, u, u, u, x82, x83, x84, u, u, u, u, u, u, u, u, u, u, u, x102, x107, x108, x109, x312, x309, x310, x311, x312, x314, x315, x315, x320, (.fn 184 [] []), x321, x323, x324, u, u, u, u, u, u, u, u, u, u, u, u, u, u, u, u, u, u, u, u, u, u, u, u, u, u, u, u, u, u, u, u, u, u, u, u, u, u, u, u, u, u, u, u, u, u, u, u] h326) (kLA 49 x316 h319 fun x327 =>
 kFA 2 x5 fun x328 =>
 kL1 x328 h319 fun x329 =>
 kCall X 186 [x327, x329] h319 fun x330 h331 =>
 kExt x330 0 fun x332 =>
 kExt x330 1 fun x333 =>
 kSA 49 x103 x332 h331 fun _ h335 =>
 kEqI true x333 (qi 0) fun x336 =>
 brS x336 (kCv X (.fn 184 [] []) [] h335 fun x337 h338 =>
 kExt x337 0 fun x339 =>
 kExt x337 1 fun x340 =>
 kSA 49 x7 x339 h338 fun _ h342 =>
 rsS [.cell 4 true 49, .tmp 5] [x0, x1, x3, x5, x7, x340, (.fn 184 [] []), x103, x316, x333, u, x9, x10, x12, x12, x13, x16, x19, x22, x22, x23, x26, x29, x32, x32, x33, x36, x39, x42, x45, x48, x51, x54, x57, x60, x63, x66, x69, x72, x75, u, u, u, u, x82, x83, x84, u, u, u, u, u, u, u, u, u, u, u, x102, x107, x108, x109, x312, x309, x310, x311, x312, x314, x315, x315, x320, u, u, u, u, x330, x327, x328, x329, x330, x332, x333, x333, x336, (.fn 184 [] []), x337, x339, x340, u, u, u, u, u, u, u, u, u, u, u, u, u, u, u, u, u, u, u, u, u, u, u, u, u, u, u, u, u, u, u, u, u, u, u] h342) (j234 u u u x5 x7 u (.fn 184 [] []) x103 u u u u u u u u u u u u u u u u u u u u u u u u u u u u u u u u u u u u u u u u u u u u u u u u u u u u u u u u u u u u u u u u u u u u u u u u u u u u u u u u u u u u u u u u u u u u u u u u u u u u u u u u u u u u u u u u u u u h335))) (j234 u u u x5 x7 u (.fn 184 [] []) x103 u u u u u u u u u u u u u u u u u u u u u u u u u u u u u u u u u u u u u u u u u u u u u u u u u u u u u u u u u u u u u u u u u u u u u u u u u u u u u u u u u u u u u u u u u u u u u u u u u u u u u u u u u u u u u u u u u u u h106)))) fun j74 =>
 wtS x32 false (kPick x42 x69 qf fun x343 =>
 j74 x343 h70) (j74 u h70)) fun j71 =>
 wtS x42 true (kPick x57 qt x66 fun x344 =>
 j71 x344 h67) (j71 u h67)) fun j68 =>
 wtS x57 false (kEqI true x63 (qw 0) fun x345 =>
 j68 x345 h64) (j68 u h64)) fun j65 =>
 wtS x57 false (kL1 x60 h61 fun x346 =>
 j65 x346 h61) (j65 u h61)) fun j62 =>
 wtS x57 false (kFA 1 x5 fun x347 =>
 j62 x347 h58) (j62 u h58)) fun j59 =>
 wtS x42 true (j59 x54 h55) (j59 u h55)) fun j56 =>
 wtS x42 true (kBin .gtr x51 (qi 0) fun x348 =>
 j56 x348 h52) (j56 u h52)) fun j53 =>
 wtS x42 true (kLen x48 fun x349 =>
 j53 x349 h49) (j53 u h49)) fun j50 =>
 wtS x42 true (kL1 x45 h46 fun x350 =>
 j50 x350 h46) (j50 u h46)) fun j47 =>
 wtS x42 true (kFA 2 x5 fun x351 =>
 j47 x351 h43) (j47 u h43)) fun j44 =>
 wtS x32 false (j44 x39 h40) (j44 u h40)) fun j41 =>
 wtS x32 false (kEqI true x36 (qi 1) fun x352 =>
 j41 x352 h37) (j41 u h37)) fun j38 =>
 wtS x32 false (kL1 x33 h34 fun x353 =>
 j38 x353 h34) (j38 u h34)) fun j35 =>
 wtS x32 false (kFA 0 x5 fun x354 =>
 j35 x354 h30) (j35 u h30)) fun j31 =>
 wtS x22 false (kBin .gtr x26 (qi 2) fun x355 =>
 j31 x355 h27) (j31 u h27)) fun j28 =>
 wtS x22 false (kL1 x23 h24 fun x356 =>
 j28 x356 h24) (j28 u h24)) fun j25 =>
 wtS x22 false (kFA 0 x5 fun x357 =>
 j25 x357 h20) (j25 u h20)) fun j21 =>
 wtS x12 false (kBin .lss x16 (qi 0) fun x358 =>
 j21 x358 h17) (j21 u h17)) fun j18 =>
 wtS x12 false (kL1 x13 h14 fun x359 =>
 j18 x359 h14) (j18 u h14)) fun j15 =>
 wtS x12 false (kFA 0 x5 fun x360 =>
 j15 x360 h11) (j15 u h11))
theorem p155_ok (k : Nat) : p155 k = funcS k 2 lit155 := by kernel_rfl
def p194 (k : Nat) : CtxK → List V → TH → R := fun X => ap 2 (fun x0 x1 h2 =>
 kLen x0 fun x3 =>
 lp (α := Cur 19) (zN 19) (fun n24 x4 x5 _ _ _ _ _ x11 x12 _ _ _ _ _ _ _ _ _ _ h23 =>
 kBin .lss x12 x11 fun x25 =>
 brS x25 (kIS 2 x4 x12 fun x26 =>
 kLA 2 x26 h23 fun x27 =>
 kCv X x5 [x27] h23 fun x28 h29 =>
 brS x28 (some (x12, h29)) (kBin .add x12 (qi 1) fun x30 =>
 n24 x4 x5 u u u u u x11 x30 u u u u u u u u u u h29)) (some ((.int .i64 (-1)), h23))) k x0 x1 u u u u u x3 (qi 0) u u u u u u u u u u h2)
theorem p194_ok (k : Nat) : p194 k = funcS k 2 lit194 := by kernel_rfl
def p197 (_ : Nat) : CtxK → List V → TH → R := fun X => ap 2 (fun x0 x1 h2 =>
 kNew (V.cellsR x0) h2 fun x3 h4 =>
 kNew (V.cellsR x1) h4 fun x5 h6 =>
 kL1 x3 h6 fun x7 =>
 kNilc x7 fun x8 =>
 kFA 18 x8 fun x9 =>
 kL1 x9 h6 fun x10 =>
 kCall X 137 [x10, (.fn 203 [] [x5, x3])] h6 fun x11 h12 =>
 kNot x11 fun x13 =>
 some (x13, h12))
theorem p197_ok (k : Nat) : p197 k = funcS k 2 lit197 := by kernel_rfl
def p202 (k : Nat) : CtxK → List V → TH → R := fun _ => ap 1 (fun x0 h1 =>
 kLen x0 fun x2 =>
 lp (α := Cur 26) (zN 26) (fun n30 x3 _ _ x6 _ _ x9 x10 x11 _ _ _ _ _ _ _ _ _ _ _ _ _ _ _ _ _ h29 =>
 kBin .lss x11 x10 fun x31 =>
 brS x31 (kIS 1 x9 x11 fun x32 =>
 kL1 x32 h29 fun x33 =>
 kBin .lss x6 (qi 0) fun x34 =>
 jc (α := JT) (fun x35 h36 =>
 jc (α := JT) (fun x38 h39 =>
 jc (α := JT) (fun x41 h42 =>
 jc (α := JT) (fun x44 h45 =>
 jc (α := JT) (fun x47 h48 =>
 jc (α := JT) (fun x50 h51 =>
 kPick x34 qt x50 fun x53 =>
 jc (α := Cur 26) (fun x54 _ _ x57 _ _ x60 x61 x62 _ _ _ _ _ _ _ _ _ _ _ _ _ _ _ _ _ h80 =>
 kBin .add x62 (qi 1) fun x82 =>
 n30 x54 u u x57 u u x60 x61 x82 u u u u u u u u u u u u u u u u u h80) fun j81 =>
 brS x53 (j81 x3 u u x11 u u x9 x10 x11 u u u u u u u u u u u u u u u u u h51) (j81 x3 u u x6 u u x9 x10 x11 u u u u u u u u u u u u u u u u u h51)) fun j52 =>
 wtS x34 false (kBin .gtr x35 x47 fun x83 =>
 j52 x83 h48) (j52 u h48)) fun j49 =>
 wtS x34 false (kL1 x44 h45 fun x84 =>
 j49 x84 h45) (j49 u h45)) fun j46 =>
 wtS x34 false (kIS 1 x38 x41 fun x85 =>
 j46 x85 h42) (j46 u h42)) fun j43 =>
 wtS x34 false (j43 x6 h39) (j43 u h39)) fun j40 =>
 wtS x34 false (j40 x3 h36) (j40 u h36)) fun j37 =>
 wtS x34 false (j37 x33 h29) (j37 u h29)) (some (x6, h29))) k x0 u u (.int .i64 (-1)) u u x0 x2 (qi 0) u u u u u u u u u u u u u u u u u h1)
theorem p202_ok (k : Nat) : p202 k = funcS k 1 lit202 := by kernel_rfl
end
end Go.PE
