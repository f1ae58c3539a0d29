/- The same functions with names for their slots (part 3 of 4), printed by a program of our own: each is what the evaluator's law says of the literal. -/
import Derived.Test.YtcgjkbnijnefjaaGreatDoorLsL3
import Derived.KernelRfl
namespace Go.PE
set_option maxRecDepth 100000
noncomputable section
def p10 (k : Nat) : CtxK → List V → TH → R := fun X => ap 2 (fun x0 x1 h2 =>
 kNew (V.cellsR x1) h2 fun x3 h4 =>
 kCall X 29 [] h4 fun x5 h6 =>
 kBin .rem x0 (qb 4) fun x7 =>
 kB [.nilptr, (qb 0), .nilptr, .nilptr, .nilptr, .nilptr, .nilptr, .nils, .nils] [(0, 1, x5), (1, 1, x7)] fun x8 =>
 kNew (V.cellsR x8) h6 fun x9 h10 =>
 lp (α := Cur 50) (zN 50) (fun n62 _ _ _ x14 _ x16 x17 _ _ _ _ _ _ _ _ _ _ _ _ _ _ _ _ _ _ _ _ _ _ _ _ _ _ _ _ _ _ _ _ _ _ _ _ _ _ _ _ _ _ _ h61 =>
 kBin .lss x17 (qi 5) fun x63 =>
 brS x63 (kNilc x16 fun x64 =>
 kFA 1 x64 fun x65 =>
 kL1 x65 h61 fun x68 =>
 kIA 5 49 x14 x17 fun x69 =>
 kLA 49 x69 h61 fun x72 =>
 kNilc x16 fun x73 =>
 kFA 2 x73 fun x74 =>
 kCall X 24 [x17, x68, x72] h61 fun x75 h76 =>
 kIA 5 1 x74 x17 fun x77 =>
 kS1 x77 x75 h76 fun _ h79 =>
 dokS [h61, h76, h79] [] (kNilc x16 fun x80 =>
 kFA 7 x80 fun x81 =>
 kL1 x81 h79 fun x84 =>
 kNilc x16 fun x85 =>
 kFA 2 x85 fun x86 =>
 kIA 5 1 x86 x17 fun x87 =>
 kL1 x87 h79 fun x90 =>
 kNilc x16 fun x91 =>
 kFA 0 x91 fun x92 =>
 kL1 x92 h79 fun x95 =>
 kCall X 25 [x90, x95] h79 fun x96 h97 =>
 kAp 131 1400 x84 x96 h97 fun x98 h99 =>
 kNilc x16 fun x100 =>
 kFA 7 x100 fun x101 =>
 kS1 x101 x98 h99 fun _ h103 =>
 dokS [h79, h97, h99, h103] ((fun h82 => kL1 x81 h82 fun x83 =>
 some (x83, h82), x84, 0, 1) :: []) (kBin .add x17 (qi 1) fun x104 =>
 n62 u u u x14 u x16 x104 u u u u u u u u u u u u u u u u u u u u u u u u u u u u u u u u u u u u u u u u u u u h103))) (some (x16, h61))) k u u u x3 u x9 (qi 0) u u u u u u u u u u u u u u u u u u u u u u u u u u u u u u u u u u u u u u u u u u u h10)
theorem p10_ok (k : Nat) : p10 k = funcS k 2 lit10 := by kernel_rfl
def p11 (k : Nat) : CtxK → List V → TH → R := fun X => ap 1 (fun x0 h1 =>
 lp (α := Cur 24) (zN 24) (fun n27 x2 _ _ x5 _ _ _ _ _ _ _ _ _ _ _ _ _ _ _ _ _ _ _ _ h26 =>
 kBin .lss x5 (qi 3000) fun x28 =>
 jc (α := JT) (fun x29 h30 =>
 jc (α := JT) (fun x32 h33 =>
 jc (α := JT) (fun x35 h36 =>
 jc (α := JT) (fun x38 h39 =>
 jc (α := JT) (fun x41 h42 =>
 jc (α := JT) (fun x44 h45 =>
 kPick x28 x44 qf fun x47 =>
 brS x47 (kCall X 18 [x2, (qi 0)] h45 fun _ h49 =>
 kBin .add x5 (qi 1) fun x50 =>
 n27 x2 u u x50 u u u u u u u u u u u u u u u u u u u u h49) (kNilc x2 fun x51 =>
 kFA 7 x51 fun x52 =>
 kL1 x52 h45 fun x53 =>
 kLen x53 fun x54 =>
 kEqI false x54 (qi 0) fun x55 =>
 some (x55, h45))) fun j46 =>
 wtS x28 true (kBin .gtr x41 (qi 0) fun x56 =>
 j46 x56 h42) (j46 u h42)) fun j43 =>
 wtS x28 true (kLen x38 fun x57 =>
 j43 x57 h39) (j43 u h39)) fun j40 =>
 wtS x28 true (kL1 x35 h36 fun x58 =>
 j40 x58 h36) (j40 u h36)) fun j37 =>
 wtS x28 true (kFA 7 x32 fun x59 =>
 j37 x59 h33) (j37 u h33)) fun j34 =>
 wtS x28 true (kNilc x29 fun x60 =>
 j34 x60 h30) (j34 u h30)) fun j31 =>
 wtS x28 true (j31 x2 h26) (j31 u h26)) k x0 u u (qi 0) u u u u u u u u u u u u u u u u u u u u h1)
theorem p11_ok (k : Nat) : p11 k = funcS k 1 lit11 := by kernel_rfl
def p32 (k : Nat) : CtxK → List V → TH → R := fun _ => ap 1 (fun x0 h1 =>
 kNilc x0 fun x2 =>
 kFA 309 x2 fun x3 =>
 kL1 x3 h1 fun x4 =>
 kLen x4 fun x5 =>
 kNilc x0 fun x6 =>
 kFA 310 x6 fun x7 =>
 kLA 42 x7 h1 fun x8 =>
 lp (α := Cur 26) (zN 26) (fun n36 _ _ _ x12 _ _ _ _ _ _ _ _ _ _ x23 x24 _ _ _ _ _ _ _ _ _ _ h35 =>
 kBin .lss x24 (qi 3) fun x37 =>
 brS x37 (kP (indexE (some (3, 14, true)) x23 x24) fun x38 =>
 kNew zr6 h35 fun x39 h40 =>
 kSA 14 x39 x38 h40 fun _ h42 =>
 kFA 0 x39 fun x43 =>
 kFA 1 x43 fun x44 =>
 kL1 x44 h42 fun x45 =>
 kBin .gtr x45 (qw 0) fun x46 =>
 jc (α := Cur 26) (fun _ _ _ x50 _ _ _ _ _ _ _ _ _ _ x61 x62 _ _ _ _ _ _ _ _ _ _ h73 =>
 kBin .add x62 (qi 1) fun x75 =>
 n36 u u u x50 u u u u u u u u u u x61 x75 u u u u u u u u u u h73) fun j74 =>
 brS x46 (kBin .add x12 (qi 1) fun x76 =>
 j74 u u u x76 u u u u u u u u u u x23 x24 u u u u u u u u u u h42) (j74 u u u x12 u u u u u u u u u u x23 x24 u u u u u u u u u u h42)) (some (x12, h35))) k u u u x5 u u u u u u u u u u x8 (qi 0) u u u u u u u u u u h1)
theorem p32_ok (k : Nat) : p32 k = funcS k 1 lit32 := by kernel_rfl
def p33 (_ : Nat) : CtxK → List V → TH → R := fun _ => ap 1 (fun x0 h1 =>
 kNew (V.cellsR x0) h1 fun x2 h3 =>
 kFA 0 x2 fun x4 =>
 kL1 x4 h3 fun x5 =>
 kBin .lss x5 (qb 1) fun x6 =>
 jc (α := JT) (fun x7 h8 =>
 jc (α := JT) (fun x10 h11 =>
 jc (α := JT) (fun x13 h14 =>
 kPick x6 qt x13 fun x16 =>
 jc (α := JT) (fun x17 h18 =>
 jc (α := JT) (fun x20 h21 =>
 jc (α := JT) (fun x23 h24 =>
 kPick x16 qt x23 fun x26 =>
 jc (α := JT) (fun x27 h28 =>
 jc (α := JT) (fun x30 h31 =>
 jc (α := JT) (fun x33 h34 =>
 kPick x26 qt x33 fun x36 =>
 jc (α := JT) (fun x37 h38 =>
 jc (α := JT) (fun x40 h41 =>
 jc (α := JT) (fun x43 h44 =>
 jc (α := JT) (fun x46 h47 =>
 kPick x36 qt x46 fun x49 =>
 brS x49 (some (qf, h47)) (kFA 2 x2 fun x50 =>
 kL1 x50 h47 fun x51 =>
 kEqI false x51 (qb 1) fun x52 =>
 jc (α := Cur 58) (fun _ x54 _ _ _ _ _ _ _ _ _ _ _ _ _ _ _ _ _ _ _ _ _ _ _ _ _ _ x81 x82 _ _ _ _ _ _ _ _ _ _ _ _ _ _ _ _ _ _ _ _ _ _ _ _ _ _ _ _ h111 =>
 brS x82 (some (qt, h111)) (kEqI false x81 (qb 2) fun x113 =>
 brS x113 (kFA 5 x54 fun x114 =>
 kL1 x114 h111 fun x115 =>
 kEq' false (.leaf .str) x115 qs fun x116 =>
 some (x116, h111)) (kFA 2 x54 fun x117 =>
 kL1 x117 h111 fun x118 =>
 kEqI false x118 (qb 4) fun x119 =>
 jc (α := JT) (fun x120 h121 =>
 jc (α := JT) (fun x123 h124 =>
 jc (α := JT) (fun x126 h127 =>
 kPick x119 qt x126 fun x129 =>
 jc (α := JT) (fun x130 h131 =>
 jc (α := JT) (fun x133 h134 =>
 jc (α := JT) (fun x136 h137 =>
 jc (α := JT) (fun x139 h140 =>
 jc (α := JT) (fun x142 h143 =>
 jc (α := JT) (fun x145 h146 =>
 jc (α := JT) (fun x148 h149 =>
 jc (α := JT) (fun x151 h152 =>
 jc (α := JT) (fun x154 h155 =>
 jc (α := JT) (fun x157 h158 =>
 jc (α := JT) (fun x160 h161 =>
 kPick x129 x160 qf fun x163 =>
 some (x163, h161)) fun j162 =>
 wtS x129 true (kEq' false (.agg [.int, .int, .int, .int, .int, .str]) x130 x157 fun x164 =>
 j162 x164 h158) (j162 u h158)) fun j159 =>
 wtS x129 true (kB [(qb 0), (qw 0), (qb 0), (qb 0), (qb 0), qs] [(0, 1, x136), (1, 1, x142), (2, 1, x148), (3, 1, x154)] fun x165 =>
 j159 x165 h155) (j159 u h155)) fun j156 =>
 wtS x129 true (kL1 x151 h152 fun x166 =>
 j156 x166 h152) (j156 u h152)) fun j153 =>
 wtS x129 true (kFA 3 x54 fun x167 =>
 j153 x167 h149) (j153 u h149)) fun j150 =>
 wtS x129 true (kL1 x145 h146 fun x168 =>
 j150 x168 h146) (j150 u h146)) fun j147 =>
 wtS x129 true (kFA 2 x54 fun x169 =>
 j147 x169 h143) (j147 u h143)) fun j144 =>
 wtS x129 true (kL1 x139 h140 fun x170 =>
 j144 x170 h140) (j144 u h140)) fun j141 =>
 wtS x129 true (kFA 1 x54 fun x171 =>
 j141 x171 h137) (j141 u h137)) fun j138 =>
 wtS x129 true (kL1 x133 h134 fun x172 =>
 j138 x172 h134) (j138 u h134)) fun j135 =>
 wtS x129 true (kFA 0 x54 fun x173 =>
 j135 x173 h131) (j135 u h131)) fun j132 =>
 wtS x129 true (kLA 6 x54 h127 fun x174 =>
 j132 x174 h127) (j132 u h127)) fun j128 =>
 wtS x119 false (kEqI false x123 (qb 5) fun x175 =>
 j128 x175 h124) (j128 u h124)) fun j125 =>
 wtS x119 false (kL1 x120 h121 fun x176 =>
 j125 x176 h121) (j125 u h121)) fun j122 =>
 wtS x119 false (kFA 2 x54 fun x177 =>
 j122 x177 h111) (j122 u h111)))) fun j112 =>
 brS x52 (j112 u x2 u u u u u u u u u u u u u u u u u u u u u u u u u u x51 x52 u u u u u u u u u u u u u u u u u u u u u u u u u u u u h47) (kEqI false x51 (qb 3) fun x178 =>
 j112 u x2 u u u u u u u u u u u u u u u u u u u u u u u u u u x51 x178 u u u u u u u u u u u u u u u u u u u u u u u u u u u u h47))) fun j48 =>
 wtS x36 false (kBin .gtr x43 (qi 16) fun x179 =>
 j48 x179 h44) (j48 u h44)) fun j45 =>
 wtS x36 false (kP (lenV true x40) fun x180 =>
 j45 x180 h41) (j45 u h41)) fun j42 =>
 wtS x36 false (kL1 x37 h38 fun x181 =>
 j42 x181 h38) (j42 u h38)) fun j39 =>
 wtS x36 false (kFA 5 x2 fun x182 =>
 j39 x182 h34) (j39 u h34)) fun j35 =>
 wtS x26 false (kBin .geq x30 (qb 6) fun x183 =>
 j35 x183 h31) (j35 u h31)) fun j32 =>
 wtS x26 false (kL1 x27 h28 fun x184 =>
 j32 x184 h28) (j32 u h28)) fun j29 =>
 wtS x26 false (kFA 3 x2 fun x185 =>
 j29 x185 h24) (j29 u h24)) fun j25 =>
 wtS x16 false (kEqI false x20 (qw 0) fun x186 =>
 j25 x186 h21) (j25 u h21)) fun j22 =>
 wtS x16 false (kL1 x17 h18 fun x187 =>
 j22 x187 h18) (j22 u h18)) fun j19 =>
 wtS x16 false (kFA 1 x2 fun x188 =>
 j19 x188 h14) (j19 u h14)) fun j15 =>
 wtS x6 false (kBin .gtr x10 (qb 3) fun x189 =>
 j15 x189 h11) (j15 u h11)) fun j12 =>
 wtS x6 false (kL1 x7 h8 fun x190 =>
 j12 x190 h8) (j12 u h8)) fun j9 =>
 wtS x6 false (kFA 0 x2 fun x191 =>
 j9 x191 h3) (j9 u h3))
theorem p33_ok (k : Nat) : p33 k = funcS k 1 lit33 := by kernel_rfl
def p35 (_ : Nat) : CtxK → List V → TH → R := fun _ => ap 2 (fun x0 x1 h2 =>
 kNew [(qw 0), .nils] h2 fun x3 h4 =>
 kBin .geq x1 (qb 4) fun x5 =>
 brS x5 (kB [(qw 0), .nils] [] fun x6 =>
 kSA 2 x3 x6 h4 fun _ h8 =>
 rsS [.cell 4 true 2] [x0, x1, u, u, x3, u, x1, x5, x6, u, u, u, u, u, u, u, u, u, u, u, u] h8) (kNilc x0 fun x9 =>
 kFA 3 x9 fun x10 =>
 kIA 4 1 x10 x1 fun x11 =>
 kL1 x11 h4 fun x12 =>
 kLen x12 fun x13 =>
 kBin .sub x13 (qi 1) fun x14 =>
 kIS 2 x12 x14 fun x15 =>
 kLA 2 x15 h4 fun x16 =>
 kSA 2 x3 x16 h4 fun _ h18 =>
 rsS [.cell 4 true 2] [x0, x1, u, u, x3, x12, x1, x5, u, x0, x1, x9, x10, x11, x12, x12, x12, x13, x14, x15, x16] h18))
theorem p35_ok (k : Nat) : p35 k = funcS k 2 lit35 := by kernel_rfl
def p39 (_ : Nat) : CtxK → List V → TH → R := fun X => ap 1 (fun x0 h1 =>
 kConv .u64 x0 fun x2 =>
 kCall X 82 [x2] h1 fun x3 h4 =>
 kBin .rem x3 (.int .u64 4) fun x5 =>
 kConv .u8 x5 fun x6 =>
 some (x6, h4))
theorem p39_ok (k : Nat) : p39 k = funcS k 1 lit39 := by kernel_rfl
def p51 (_ : Nat) : CtxK → List V → TH → R := fun _ => ap 1 (fun x0 h1 =>
 kNew (V.cellsR x0) h1 fun x2 h3 =>
 kNew zr2 h3 fun x4 h5 =>
 kFA 48 x2 fun x6 =>
 kL1 x6 h5 fun x7 =>
 kLen x7 fun x8 =>
 kEqI false x8 (qi 0) fun x9 =>
 brS x9 (kFA 40 x2 fun x10 =>
 kLA 8 x10 h5 fun x11 =>
 kSA 8 x4 x11 h5 fun _ h13 =>
 rsS [.cell 2 true 8] [x0, x2, x4, x6, x7, x8, x9, x10, x11, u, u, u, u, u, u, u, u] h13) (kFA 48 x2 fun x14 =>
 kL1 x14 h5 fun x15 =>
 kFA 48 x2 fun x16 =>
 kL1 x16 h5 fun x17 =>
 kLen x17 fun x18 =>
 kBin .sub x18 (qi 1) fun x19 =>
 kIS 8 x15 x19 fun x20 =>
 kLA 8 x20 h5 fun x21 =>
 kSA 8 x4 x21 h5 fun _ h23 =>
 rsS [.cell 2 true 8] [x0, x2, x4, x6, x7, x8, x9, u, u, x14, x15, x16, x17, x18, x19, x20, x21] h23))
theorem p51_ok (k : Nat) : p51 k = funcS k 1 lit51 := by kernel_rfl
def p61 (_ : Nat) : CtxK → List V → TH → R := fun X => ap 1 (fun x0 h1 =>
 kLen x0 fun x2 =>
 kConv .u64 x2 fun x3 =>
 kCall X 103 [x3] h1 fun x4 h5 =>
 kCall X 102 [x0, (qi 0), x2, x4] h5 fun _ h7 =>
 some (.tup [], h7))
theorem p61_ok (k : Nat) : p61 k = funcS k 1 lit61 := by kernel_rfl
def p62 (k : Nat) : CtxK → List V → TH → R := fun _ => ap 1 (fun x0 h1 =>
 kLen x0 fun x2 =>
 kBin .lss x2 (qi 2) fun x3 =>
 brS x3 (some (x0, h1)) (lp (α := Cur 61) (zN 61) (fun n66 x4 _ _ x7 _ _ _ _ _ _ _ _ _ _ _ _ _ _ _ _ _ _ _ _ _ _ _ _ _ _ _ _ _ _ _ _ _ _ _ _ _ _ _ _ _ _ _ _ _ _ _ _ _ _ _ _ _ _ _ _ _ h65 =>
 kLen x4 fun x67 =>
 kBin .lss x7 x67 fun x68 =>
 brS x68 (kIS 1 x4 x7 fun x69 =>
 kL1 x69 h65 fun x72 =>
 kBin .sub x7 (qi 1) fun x73 =>
 kIS 1 x4 x73 fun x74 =>
 kL1 x74 h65 fun x77 =>
 kEqI false x72 x77 fun x78 =>
 dokS [h65] [] (brS x78 (kP (sliceE 1 x4 (some x7) none) fun x79 =>
 lp (α := Cur 61) (zN 61) (fun n142 x80 _ _ x83 x84 x85 _ _ _ _ _ _ _ _ _ _ _ _ _ _ _ _ _ _ _ _ _ _ _ _ _ _ _ _ _ _ _ _ _ _ _ _ _ _ _ _ _ _ _ _ _ _ _ _ _ _ _ _ _ _ _ h141 =>
 kLen x84 fun x143 =>
 kBin .lss x85 x143 fun x144 =>
 brS x144 (kIS 1 x84 x85 fun x145 =>
 kL1 x145 h141 fun x148 =>
 kBin .sub x85 (qi 1) fun x149 =>
 kIS 1 x84 x149 fun x150 =>
 kL1 x150 h141 fun x153 =>
 kEqI true x148 x153 fun x154 =>
 dokS [h141] [] (jc (α := Cur 61) (fun x155 _ _ x158 x159 x160 _ _ _ _ _ _ _ _ _ _ _ _ _ _ _ _ _ _ _ _ _ _ _ _ _ _ _ _ _ _ _ _ _ _ _ _ _ _ _ _ _ _ _ _ _ _ _ _ _ _ _ _ _ _ _ h216 =>
 kBin .add x160 (qi 1) fun x218 =>
 n142 x155 u u x158 x159 x218 u u u u u u u u u u u u u u u u u u u u u u u u u u u u u u u u u u u u u u u u u u u u u u u u u u u u u u u h216) fun j217 =>
 brS x154 (kIS 1 x84 x85 fun x219 =>
 kL1 x219 h141 fun x220 =>
 kIS 1 x80 x83 fun x221 =>
 kS1 x221 x220 h141 fun _ h223 =>
 kBin .add x83 (qi 1) fun x224 =>
 j217 x80 u u x224 x84 x85 u u u u u u u u u u u u u u u u u u u u u u u u u u u u u u u u u u u u u u u u u u u u u u u u u u u u u u u h223) (j217 x80 u u x83 x84 x85 u u u u u u u u u u u u u u u u u u u u u u u u u u u u u u u u u u u u u u u u u u u u u u u u u u u u u u u h141))) (kP (sliceE 1 x80 (some x83) none) fun x225 =>
 kCl [(qi 0)] 1 x225 h141 fun _ h227 =>
 kP (sliceE 1 x80 none (some x83)) fun x228 =>
 some (x228, h227))) k x4 u u x7 x79 (qi 1) u u u u u u u u u u u u u u u u u u u u u u u u u u u u u u u u u u u u u u u u u u u u u u u u u u u u u u u h65) (kBin .add x7 (qi 1) fun x229 =>
 n66 x4 u u x229 u u u u u u u u u u u u u u u u u u u u u u u u u u u u u u u u u u u u u u u u u u u u u u u u u u u u u u u u u h65))) (some (x4, h65))) k x0 u u (qi 1) u u u u u u u u u u u u u u u u u u u u u u u u u u u u u u u u u u u u u u u u u u u u u u u u u u u u u u u u u h1))
theorem p62_ok (k : Nat) : p62 k = funcS k 1 lit62 := by kernel_rfl
def p67 (_ : Nat) : CtxK → List V → TH → R := fun X => ap 3 (fun x0 _ x2 h3 =>
 kNew (V.cellsR x2) h3 fun x4 h5 =>
 kLA 131 x4 h5 fun x8 =>
 kCall X 105 [x0, x8] h5 fun x9 h10 =>
 kNot x9 fun x11 =>
 jc (α := JT) (fun x12 h13 =>
 jc (α := JT) (fun x15 h16 =>
 jc (α := JT) (fun x18 h19 =>
 jc (α := JT) (fun x21 h22 =>
 jc (α := V → TH → PD → R) (fun x26 h27 d28 =>
 jc (α := JT) (fun x30 h31 =>
 jc (α := JT) (fun x33 h34 =>
 jc (α := JT) (fun x36 h37 =>
 jc (α := V → TH → PD → R) (fun x41 h42 d43 =>
 jc (α := JT) (fun x45 h46 =>
 kPick x11 qt x45 fun x48 =>
 dokS [h5, h46] d43 (brS x48 (some (.nils, h46)) (kFA 114 x4 fun x49 =>
 kLA 8 x49 h46 fun x50 =>
 kCall X 111 [x0, x50] h46 fun _ h52 =>
 kFA 114 x4 fun x53 =>
 kFA 1 x53 fun x54 =>
 kL1 x54 h52 fun x57 =>
 kCall X 109 [x0] h52 fun x58 h59 =>
 kBin .lss x58 x57 fun x60 =>
 dokS [h52, h59] ((fun h55 => kL1 x54 h55 fun x56 =>
 some (x56, h55), x57, 0, 1) :: []) (brS x60 (some (.nils, h59)) (kLA 131 x4 h59 fun x61 =>
 kCall X 107 [x0, (qb 12), x61] h59 fun x62 h63 =>
 some (x62, h63)))))) fun j47 =>
 wtS x11 false (kEqI true x26 x41 fun x64 =>
 j47 x64 h42) (j47 u h42)) fun j44 =>
 wtS x11 false (kL1 x36 h37 fun x65 =>
 j44 x65 h37 d28) (j44 u h37 d28)) fun j38 =>
 wtS x11 false (kFA 52 x33 fun x66 =>
 j38 x66 h34) (j38 u h34)) fun j35 =>
 wtS x11 false (kNilc x30 fun x67 =>
 j35 x67 h31) (j35 u h31)) fun j32 =>
 wtS x11 false (j32 x0 h27) (j32 u h27)) fun j29 =>
 wtS x11 false (kL1 x21 h22 fun x68 =>
 j29 x68 h22 []) (j29 u h22 [])) fun j23 =>
 wtS x11 false (kFA 0 x18 fun x69 =>
 j23 x69 h19) (j23 u h19)) fun j20 =>
 wtS x11 false (kFA 3 x15 fun x70 =>
 j20 x70 h16) (j20 u h16)) fun j17 =>
 wtS x11 false (kNilc x12 fun x71 =>
 j17 x71 h13) (j17 u h13)) fun j14 =>
 wtS x11 false (j14 x0 h10) (j14 u h10))
theorem p67_ok (k : Nat) : p67 k = funcS k 3 lit67 := by kernel_rfl
def p72 (_ : Nat) : CtxK → List V → TH → R := fun X => ap 1 (fun x0 h1 =>
 kNew (V.cellsR x0) h1 fun x2 h3 =>
 kFA 1 x2 fun x4 =>
 kL1 x4 h3 fun x7 =>
 kFA 1 x2 fun x8 =>
 kL1 x8 h3 fun x11 =>
 kCall X 116 [x7] h3 fun x12 h13 =>
 jc (α := JT) (fun x14 h15 =>
 jc (α := V → TH → PD → R) (fun x19 h20 d21 =>
 jc (α := JT) (fun x23 h24 =>
 kPick x12 x23 qf fun x26 =>
 kCall X 117 [x11] h24 fun x27 h28 =>
 jc (α := JT) (fun x29 h30 =>
 jc (α := V → TH → PD → R) (fun x34 h35 d36 =>
 jc (α := JT) (fun x38 h39 =>
 kPick x27 x38 qf fun x41 =>
 dokS [h3, h20, h24, h35, h39] d36 (kFA 0 x2 fun x42 =>
 kL1 x42 h39 fun x43 =>
 kEqI false x43 (qb 1) fun x44 =>
 jc (α := Cur 97) (fun _ x46 _ x48 x49 _ _ _ _ _ _ _ _ _ _ _ _ _ _ _ _ _ x67 x68 _ _ _ _ _ _ _ _ _ _ _ _ _ _ _ _ _ _ _ _ _ _ _ _ _ _ _ _ _ _ _ _ _ _ _ _ _ _ _ _ _ _ _ _ _ _ _ _ _ _ _ _ _ _ _ _ _ _ _ _ _ _ _ _ _ _ _ _ _ _ _ _ _ h142 =>
 brS x68 (some (x48, h142)) (kEqI false x67 (qb 5) fun x144 =>
 brS x144 (jc (α := JT) (fun x145 h146 =>
 jc (α := JT) (fun x148 h149 =>
 jc (α := JT) (fun x151 h152 =>
 jc (α := JT) (fun x154 h155 =>
 jc (α := JT) (fun x157 h158 =>
 jc (α := JT) (fun x160 h161 =>
 jc (α := JT) (fun x163 h164 =>
 jc (α := JT) (fun x166 h167 =>
 kPick x48 qt x166 fun x169 =>
 some (x169, h167)) fun j168 =>
 wtS x48 false (kPick x154 x163 qf fun x170 =>
 j168 x170 h164) (j168 u h164)) fun j165 =>
 wtS x154 true (kCall X 117 [x160] h161 fun x171 h172 =>
 j165 x171 h172) (j165 u h161)) fun j162 =>
 wtS x154 true (kL1 x157 h158 fun x173 =>
 j162 x173 h158) (j162 u h158)) fun j159 =>
 wtS x154 true (kFA 2 x46 fun x174 =>
 j159 x174 h155) (j159 u h155)) fun j156 =>
 wtS x48 false (j156 x151 h152) (j156 u h152)) fun j153 =>
 wtS x48 false (kCall X 116 [x148] h149 fun x175 h176 =>
 j153 x175 h176) (j153 u h149)) fun j150 =>
 wtS x48 false (kL1 x145 h146 fun x177 =>
 j150 x177 h146) (j150 u h146)) fun j147 =>
 wtS x48 false (kFA 1 x46 fun x178 =>
 j147 x178 h142) (j147 u h142)) (kEqI false x67 (qb 6) fun x179 =>
 brS x179 (jc (α := JT) (fun x180 h181 =>
 jc (α := JT) (fun x183 h184 =>
 jc (α := JT) (fun x186 h187 =>
 jc (α := JT) (fun x189 h190 =>
 jc (α := JT) (fun x192 h193 =>
 jc (α := JT) (fun x195 h196 =>
 jc (α := JT) (fun x198 h199 =>
 jc (α := JT) (fun x201 h202 =>
 kPick x48 qt x201 fun x204 =>
 some (x204, h202)) fun j203 =>
 wtS x48 false (kPick x189 x198 qf fun x205 =>
 j203 x205 h199) (j203 u h199)) fun j200 =>
 wtS x189 true (kCall X 116 [x195] h196 fun x206 h207 =>
 j200 x206 h207) (j200 u h196)) fun j197 =>
 wtS x189 true (kL1 x192 h193 fun x208 =>
 j197 x208 h193) (j197 u h193)) fun j194 =>
 wtS x189 true (kFA 2 x46 fun x209 =>
 j194 x209 h190) (j194 u h190)) fun j191 =>
 wtS x48 false (j191 x186 h187) (j191 u h187)) fun j188 =>
 wtS x48 false (kCall X 117 [x183] h184 fun x210 h211 =>
 j188 x210 h211) (j188 u h184)) fun j185 =>
 wtS x48 false (kL1 x180 h181 fun x212 =>
 j185 x212 h181) (j185 u h181)) fun j182 =>
 wtS x48 false (kFA 1 x46 fun x213 =>
 j182 x213 h142) (j182 u h142)) (kEqI false x67 (qb 17) fun x214 =>
 brS x214 (kFA 1 x46 fun x215 =>
 kL1 x215 h142 fun x216 =>
 kCall X 117 [x216] h142 fun x217 h218 =>
 jc (α := JT) (fun x219 h220 =>
 jc (α := JT) (fun x222 h223 =>
 jc (α := JT) (fun x225 h226 =>
 kPick x217 x225 qf fun x228 =>
 some (x228, h226)) fun j227 =>
 wtS x217 true (kCall X 116 [x222] h223 fun x229 h230 =>
 j227 x229 h230) (j227 u h223)) fun j224 =>
 wtS x217 true (kL1 x219 h220 fun x231 =>
 j224 x231 h220) (j224 u h220)) fun j221 =>
 wtS x217 true (kFA 2 x46 fun x232 =>
 j221 x232 h218) (j221 u h218)) (kEqI false x67 (qb 15) fun x233 =>
 brS x233 (kFA 1 x46 fun x234 =>
 kL1 x234 h142 fun x235 =>
 kCall X 118 [x235] h142 fun x236 h237 =>
 jc (α := JT) (fun x238 h239 =>
 jc (α := JT) (fun x241 h242 =>
 jc (α := JT) (fun x244 h245 =>
 kPick x236 x244 qf fun x247 =>
 some (x247, h245)) fun j246 =>
 wtS x236 true (kCall X 117 [x241] h242 fun x248 h249 =>
 j246 x248 h249) (j246 u h242)) fun j243 =>
 wtS x236 true (kL1 x238 h239 fun x250 =>
 j243 x250 h239) (j243 u h239)) fun j240 =>
 wtS x236 true (kFA 2 x46 fun x251 =>
 j240 x251 h237) (j240 u h237)) (kEqI false x67 (qb 16) fun x252 =>
 brS x252 (kFA 1 x46 fun x253 =>
 kL1 x253 h142 fun x254 =>
 kCall X 117 [x254] h142 fun x255 h256 =>
 jc (α := JT) (fun x257 h258 =>
 jc (α := JT) (fun x260 h261 =>
 jc (α := JT) (fun x263 h264 =>
 kPick x255 x263 qf fun x266 =>
 some (x266, h264)) fun j265 =>
 wtS x255 true (kCall X 118 [x260] h261 fun x267 h268 =>
 j265 x267 h268) (j265 u h261)) fun j262 =>
 wtS x255 true (kL1 x257 h258 fun x269 =>
 j262 x269 h258) (j262 u h258)) fun j259 =>
 wtS x255 true (kFA 2 x46 fun x270 =>
 j259 x270 h256) (j259 u h256)) (kFA 0 x46 fun x271 =>
 kL1 x271 h142 fun x272 =>
 kBin .geq x272 (qb 7) fun x273 =>
 jc (α := JT) (fun x274 h275 =>
 jc (α := JT) (fun x277 h278 =>
 jc (α := JT) (fun x280 h281 =>
 kPick x273 x280 qf fun x283 =>
 jc (α := JT) (fun x284 h285 =>
 kPick x283 x284 qf fun x287 =>
 some (x287, h285)) fun j286 =>
 wtS x283 true (j286 x49 h281) (j286 u h281)) fun j282 =>
 wtS x273 true (kBin .leq x277 (qb 14) fun x288 =>
 j282 x288 h278) (j282 u h278)) fun j279 =>
 wtS x273 true (kL1 x274 h275 fun x289 =>
 j279 x289 h275) (j279 u h275)) fun j276 =>
 wtS x273 true (kFA 0 x46 fun x290 =>
 j276 x290 h142) (j276 u h142)))))))) fun j143 =>
 brS x44 (j143 u x2 u x26 x41 u u u u u u u u u u u u u u u u u x43 x44 u u u u u u u u u u u u u u u u u u u u u u u u u u u u u u u u u u u u u u u u u u u u u u u u u u u u u u u u u u u u u u u u u u u u u u u u u h39) (kEqI false x43 (qb 2) fun x291 =>
 jc (α := Cur 97) (fun _ x293 _ x295 x296 _ _ _ _ _ _ _ _ _ _ _ _ _ _ _ _ _ x314 x315 _ _ _ _ _ _ _ _ _ _ _ _ _ _ _ _ _ _ _ _ _ _ _ _ _ _ _ _ _ _ _ _ _ _ _ _ _ _ _ _ _ _ _ _ _ _ _ _ _ _ _ _ _ _ _ _ _ _ _ _ _ _ _ _ _ _ _ _ _ _ _ _ _ h389 =>
 j143 u x293 u x295 x296 u u u u u u u u u u u u u u u u u x314 x315 u u u u u u u u u u u u u u u u u u u u u u u u u u u u u u u u u u u u u u u u u u u u u u u u u u u u u u u u u u u u u u u u u u u u u u u u u h389) fun j390 =>
 brS x291 (j390 u x2 u x26 x41 u u u u u u u u u u u u u u u u u x43 x291 u u u u u u u u u u u u u u u u u u u u u u u u u u u u u u u u u u u u u u u u u u u u u u u u u u u u u u u u u u u u u u u u u u u u u u u u u h39) (kEqI false x43 (qb 3) fun x391 =>
 jc (α := Cur 97) (fun _ x393 _ x395 x396 _ _ _ _ _ _ _ _ _ _ _ _ _ _ _ _ _ x414 x415 _ _ _ _ _ _ _ _ _ _ _ _ _ _ _ _ _ _ _ _ _ _ _ _ _ _ _ _ _ _ _ _ _ _ _ _ _ _ _ _ _ _ _ _ _ _ _ _ _ _ _ _ _ _ _ _ _ _ _ _ _ _ _ _ _ _ _ _ _ _ _ _ _ h489 =>
 j390 u x393 u x395 x396 u u u u u u u u u u u u u u u u u x414 x415 u u u u u u u u u u u u u u u u u u u u u u u u u u u u u u u u u u u u u u u u u u u u u u u u u u u u u u u u u u u u u u u u u u u u u u u u u h489) fun j490 =>
 brS x391 (j490 u x2 u x26 x41 u u u u u u u u u u u u u u u u u x43 x391 u u u u u u u u u u u u u u u u u u u u u u u u u u u u u u u u u u u u u u u u u u u u u u u u u u u u u u u u u u u u u u u u u u u u u u u u u h39) (kEqI false x43 (qb 4) fun x491 =>
 jc (α := Cur 97) (fun _ x493 _ x495 x496 _ _ _ _ _ _ _ _ _ _ _ _ _ _ _ _ _ x514 x515 _ _ _ _ _ _ _ _ _ _ _ _ _ _ _ _ _ _ _ _ _ _ _ _ _ _ _ _ _ _ _ _ _ _ _ _ _ _ _ _ _ _ _ _ _ _ _ _ _ _ _ _ _ _ _ _ _ _ _ _ _ _ _ _ _ _ _ _ _ _ _ _ _ h589 =>
 j490 u x493 u x495 x496 u u u u u u u u u u u u u u u u u x514 x515 u u u u u u u u u u u u u u u u u u u u u u u u u u u u u u u u u u u u u u u u u u u u u u u u u u u u u u u u u u u u u u u u u u u u u u u u u h589) fun j590 =>
 brS x491 (j590 u x2 u x26 x41 u u u u u u u u u u u u u u u u u x43 x491 u u u u u u u u u u u u u u u u u u u u u u u u u u u u u u u u u u u u u u u u u u u u u u u u u u u u u u u u u u u u u u u u u u u u u u u u u h39) (kEqI false x43 (qb 18) fun x591 =>
 j590 u x2 u x26 x41 u u u u u u u u u u u u u u u u u x43 x591 u u u u u u u u u u u u u u u u u u u u u u u u u u u u u u u u u u u u u u u u u u u u u u u u u u u u u u u u u u u u u u u u u u u u u u u u u h39)))))) fun j40 =>
 wtS x27 true (kCall X 117 [x34] h35 fun x592 h593 =>
 j40 x592 h593) (j40 u h35)) fun j37 =>
 wtS x27 true (kL1 x29 h30 fun x594 =>
 j37 x594 h30 d21) (j37 u h30 d21)) fun j31 =>
 wtS x27 true (kFA 2 x2 fun x595 =>
 j31 x595 h28) (j31 u h28)) fun j25 =>
 wtS x12 true (kCall X 116 [x19] h20 fun x596 h597 =>
 j25 x596 h597) (j25 u h20)) fun j22 =>
 wtS x12 true (kL1 x14 h15 fun x598 =>
 j22 x598 h15 ((fun h9 => kL1 x8 h9 fun x10 =>
 some (x10, h9), x11, 0, 2) :: [])) (j22 u h15 ((fun h9 => kL1 x8 h9 fun x10 =>
 some (x10, h9), x11, 0, 2) :: []))) fun j16 =>
 wtS x12 true (kFA 2 x2 fun x599 =>
 j16 x599 h13) (j16 u h13))
theorem p72_ok (k : Nat) : p72 k = funcS k 1 lit72 := by kernel_rfl
def p75 (_ : Nat) : CtxK → List V → TH → R := fun _ => ap 1 (fun x0 h1 =>
 kNew (V.cellsR x0) h1 fun x2 h3 =>
 kFA 0 x2 fun x4 =>
 kL1 x4 h3 fun x5 =>
 kEqI false x5 (qb 1) fun x6 =>
 jc (α := Cur 22) (fun _ x8 _ x10 _ _ x13 _ _ _ _ _ _ _ _ _ _ _ _ _ _ _ h29 =>
 jc (α := Cur 22) (fun _ x32 _ x34 _ _ _ _ _ _ _ _ _ _ _ _ _ _ _ _ _ _ h53 =>
 kFA 3 x32 fun x55 =>
 kL1 x55 h53 fun x56 =>
 kBin .geq x56 x34 fun x57 =>
 jc (α := JT) (fun x58 h59 =>
 jc (α := JT) (fun x61 h62 =>
 jc (α := JT) (fun x64 h65 =>
 kPick x57 x64 qf fun x67 =>
 some (x67, h65)) fun j66 =>
 wtS x57 true (kBin .leq x61 (qw 60) fun x68 =>
 j66 x68 h62) (j66 u h62)) fun j63 =>
 wtS x57 true (kL1 x58 h59 fun x69 =>
 j63 x69 h59) (j63 u h59)) fun j60 =>
 wtS x57 true (kFA 3 x32 fun x70 =>
 j60 x70 h53) (j60 u h53)) fun j54 =>
 brS x13 (j54 u x8 u (qw 2) u u u u u u u u u u u u u u u u u u h29) (j54 u x8 u x10 u u u u u u u u u u u u u u u u u u h29)) fun j30 =>
 brS x6 (j30 u x2 u (qw 1) u u x6 u u u u u u u u u u u u u u u h3) (kEqI false x5 (qb 2) fun x71 =>
 jc (α := Cur 22) (fun _ x73 _ x75 _ _ x78 _ _ _ _ _ _ _ _ _ _ _ _ _ _ _ h94 =>
 j30 u x73 u x75 u u x78 u u u u u u u u u u u u u u u h94) fun j95 =>
 brS x71 (j95 u x2 u (qw 1) u u x71 u u u u u u u u u u u u u u u h3) (kEqI false x5 (qb 3) fun x96 =>
 jc (α := Cur 22) (fun _ x98 _ x100 _ _ x103 _ _ _ _ _ _ _ _ _ _ _ _ _ _ _ h119 =>
 j95 u x98 u x100 u u x103 u u u u u u u u u u u u u u u h119) fun j120 =>
 brS x96 (j120 u x2 u (qw 1) u u x96 u u u u u u u u u u u u u u u h3) (kEqI false x5 (qb 4) fun x121 =>
 jc (α := Cur 22) (fun _ x123 _ x125 _ _ x128 _ _ _ _ _ _ _ _ _ _ _ _ _ _ _ h144 =>
 j120 u x123 u x125 u u x128 u u u u u u u u u u u u u u u h144) fun j145 =>
 brS x121 (j145 u x2 u (qw 1) u u x121 u u u u u u u u u u u u u u u h3) (kEqI false x5 (qb 5) fun x146 =>
 jc (α := Cur 22) (fun _ x148 _ x150 _ _ x153 _ _ _ _ _ _ _ _ _ _ _ _ _ _ _ h169 =>
 j145 u x148 u x150 u u x153 u u u u u u u u u u u u u u u h169) fun j170 =>
 brS x146 (j170 u x2 u (qw 1) u u x146 u u u u u u u u u u u u u u u h3) (kEqI false x5 (qb 18) fun x171 =>
 j170 u x2 u (qw 1) u u x171 u u u u u u u u u u u u u u u h3))))))
theorem p75_ok (k : Nat) : p75 k = funcS k 1 lit75 := by kernel_rfl
def p78 (_ : Nat) : CtxK → List V → TH → R := fun X => ap 1 (fun x0 h1 =>
 kNew (V.cellsR x0) h1 fun x2 h3 =>
 kFA 0 x2 fun x4 =>
 kL1 x4 h3 fun x5 =>
 kEqI false x5 (qi 0) fun x6 =>
 brS x6 (kFA 1 x2 fun x7 =>
 kL1 x7 h3 fun x8 =>
 kEqI false x8 (qw 0) fun x9 =>
 jc (α := JT) (fun x10 h11 =>
 jc (α := JT) (fun x13 h14 =>
 jc (α := JT) (fun x16 h17 =>
 jc (α := JT) (fun x19 h20 =>
 kPick x9 x19 qf fun x22 =>
 jc (α := JT) (fun x23 h24 =>
 jc (α := JT) (fun x26 h27 =>
 jc (α := JT) (fun x29 h30 =>
 kPick x22 x29 qf fun x32 =>
 some (x32, h30)) fun j31 =>
 wtS x22 true (kCall X 123 [x26] h27 fun x33 h34 =>
 j31 x33 h34) (j31 u h27)) fun j28 =>
 wtS x22 true (kLA 49 x23 h24 fun x35 =>
 j28 x35 h24) (j28 u h24)) fun j25 =>
 wtS x22 true (kFA 3 x2 fun x36 =>
 j25 x36 h20) (j25 u h20)) fun j21 =>
 wtS x9 true (kEqI false x16 (qi 0) fun x37 =>
 j21 x37 h17) (j21 u h17)) fun j18 =>
 wtS x9 true (kLen x13 fun x38 =>
 j18 x38 h14) (j18 u h14)) fun j15 =>
 wtS x9 true (kL1 x10 h11 fun x39 =>
 j15 x39 h11) (j15 u h11)) fun j12 =>
 wtS x9 true (kFA 2 x2 fun x40 =>
 j12 x40 h3) (j12 u h3)) (kEqI false x5 (qi 2) fun x41 =>
 brS x41 (kFA 1 x2 fun x42 =>
 kL1 x42 h3 fun x43 =>
 kEqI false x43 (qw 0) fun x44 =>
 jc (α := JT) (fun x45 h46 =>
 jc (α := JT) (fun x48 h49 =>
 jc (α := JT) (fun x51 h52 =>
 jc (α := JT) (fun x54 h55 =>
 kPick x44 x54 qf fun x57 =>
 jc (α := JT) (fun x58 h59 =>
 jc (α := JT) (fun x61 h62 =>
 jc (α := JT) (fun x64 h65 =>
 kPick x57 x64 qf fun x67 =>
 some (x67, h65)) fun j66 =>
 wtS x57 true (kCall X 50 [x61] h62 fun x68 h69 =>
 j66 x68 h69) (j66 u h62)) fun j63 =>
 wtS x57 true (kLA 49 x58 h59 fun x70 =>
 j63 x70 h59) (j63 u h59)) fun j60 =>
 wtS x57 true (kFA 3 x2 fun x71 =>
 j60 x71 h55) (j60 u h55)) fun j56 =>
 wtS x44 true (kEqI false x51 (qi 0) fun x72 =>
 j56 x72 h52) (j56 u h52)) fun j53 =>
 wtS x44 true (kLen x48 fun x73 =>
 j53 x73 h49) (j53 u h49)) fun j50 =>
 wtS x44 true (kL1 x45 h46 fun x74 =>
 j50 x74 h46) (j50 u h46)) fun j47 =>
 wtS x44 true (kFA 2 x2 fun x75 =>
 j47 x75 h3) (j47 u h3)) (kFA 2 x2 fun x76 =>
 kL1 x76 h3 fun x77 =>
 kB zr0 [(48, 1, x77)] fun x78 =>
 kNew zr0 h3 fun x79 h80 =>
 kSA 49 x79 x78 h80 fun _ h82 =>
 kFA 2 x2 fun x83 =>
 kL1 x83 h82 fun x84 =>
 kLen x84 fun x85 =>
 kBin .gtr x85 (qi 0) fun x86 =>
 jc (α := Cur 65) (fun _ x88 _ x90 _ _ _ _ _ _ _ _ _ _ _ _ _ _ _ _ _ _ _ _ _ _ _ _ _ _ _ _ _ _ _ _ _ _ _ _ _ _ _ _ _ _ _ _ _ _ _ _ _ _ _ _ _ _ _ _ _ _ _ _ _ h152 =>
 kFA 0 x88 fun x154 =>
 kL1 x154 h152 fun x155 =>
 kEqI false x155 (qi 1) fun x156 =>
 jc (α := JT) (fun x157 h158 =>
 jc (α := JT) (fun x160 h161 =>
 jc (α := JT) (fun x163 h164 =>
 kPick x156 x163 qf fun x166 =>
 jc (α := JT) (fun x167 h168 =>
 jc (α := JT) (fun x170 h171 =>
 kPick x166 x170 qf fun x173 =>
 some (x173, h171)) fun j172 =>
 wtS x166 true (kCall X 50 [x167] h168 fun x174 h175 =>
 j172 x174 h175) (j172 u h168)) fun j169 =>
 wtS x166 true (kLA 49 x90 h164 fun x176 =>
 j169 x176 h164) (j169 u h164)) fun j165 =>
 wtS x156 true (kCall X 123 [x160] h161 fun x177 h178 =>
 j165 x177 h178) (j165 u h161)) fun j162 =>
 wtS x156 true (kLA 49 x157 h158 fun x179 =>
 j162 x179 h158) (j162 u h158)) fun j159 =>
 wtS x156 true (kFA 3 x88 fun x180 =>
 j159 x180 h152) (j159 u h152)) fun j153 =>
 brS x86 (kFA 2 x2 fun x181 =>
 kL1 x181 h82 fun x182 =>
 kIS 8 x182 (qi 0) fun x183 =>
 kFA 1 x183 fun x184 =>
 kL1 x184 h82 fun x185 =>
 kBin .sub x185 (qw 1) fun x186 =>
 kFA 40 x79 fun x187 =>
 kFA 1 x187 fun x188 =>
 kS1 x188 x186 h82 fun _ h190 =>
 j153 u x2 u x79 u u u u u u u u u u u u u u u u u u u u u u u u u u u u u u u u u u u u u u u u u u u u u u u u u u u u u u u u u u u u u h190) (j153 u x2 u x79 u u u u u u u u u u u u u u u u u u u u u u u u u u u u u u u u u u u u u u u u u u u u u u u u u u u u u u u u u u u u u h82))))
theorem p78_ok (k : Nat) : p78 k = funcS k 1 lit78 := by kernel_rfl
def p80 (_ : Nat) : CtxK → List V → TH → R := fun _ => ap 1 (fun x0 h1 =>
 kNew (V.cellsR x0) h1 fun x2 h3 =>
 kFA 0 x2 fun x4 =>
 kL1 x4 h3 fun x5 =>
 kEqI true x5 (qb 17) fun x6 =>
 jc (α := JT) (fun x7 h8 =>
 jc (α := JT) (fun x10 h11 =>
 jc (α := JT) (fun x13 h14 =>
 kPick x6 qt x13 fun x16 =>
 some (x16, h14)) fun j15 =>
 wtS x6 false (kBin .lss x10 (qw 5) fun x17 =>
 j15 x17 h11) (j15 u h11)) fun j12 =>
 wtS x6 false (kL1 x7 h8 fun x18 =>
 j12 x18 h8) (j12 u h8)) fun j9 =>
 wtS x6 false (kFA 122 x2 fun x19 =>
 j9 x19 h3) (j9 u h3))
theorem p80_ok (k : Nat) : p80 k = funcS k 1 lit80 := by kernel_rfl
def p83 (_ : Nat) : CtxK → List V → TH → R := fun X => ap 1 (fun x0 h1 =>
 kCall X 124 [x0] h1 fun x2 h3 =>
 kCall X 61 [x2] h3 fun _ h5 =>
 some (x2, h5))
theorem p83_ok (k : Nat) : p83 k = funcS k 1 lit83 := by kernel_rfl
def p91 (k : Nat) : CtxK → List V → TH → R := fun X => ap 1 (fun x0 h1 =>
 kNew (V.cellsR x0) h1 fun x2 h3 =>
 kFA 0 x2 fun x4 =>
 kLA 30 x4 h3 fun x5 =>
 lp (α := Cur 42) (zN 42) (fun n49 _ x7 _ _ _ _ _ _ x14 x15 _ _ _ _ _ _ _ _ _ _ _ _ _ _ _ _ _ _ _ _ _ _ _ _ _ _ _ _ _ _ _ _ h48 =>
 kBin .lss x15 (qi 6) fun x50 =>
 brS x50 (kP (indexE (some (6, 5, true)) x14 x15) fun x51 =>
 kNew [qf, qs, qs, qs, qs] h48 fun x52 h53 =>
 kSA 5 x52 x51 h53 fun _ h55 =>
 kLA 5 x52 h55 fun x56 =>
 kCall X 132 [x56] h55 fun x57 h58 =>
 kNot x57 fun x59 =>
 brS x59 (some (qf, h58)) (kBin .add x15 (qi 1) fun x60 =>
 n49 u x7 u u u u u u x14 x60 u u u u u u u u u u u u u u u u u u u u u u u u u u u u u u u u h58)) (kFA 30 x7 fun x61 =>
 kLA 9 x61 h48 fun x62 =>
 lp (α := Cur 42) (zN 42) (fun n106 _ _ _ _ _ _ _ _ _ _ _ _ _ _ _ _ _ x80 x81 _ _ _ _ _ _ _ _ _ _ _ _ _ _ _ _ _ _ _ _ _ _ _ h105 =>
 kBin .lss x81 (qi 3) fun x107 =>
 brS x107 (kP (indexE (some (3, 3, true)) x80 x81) fun x108 =>
 kNew [(qw 0), (qb 0), qs] h105 fun x109 h110 =>
 kSA 3 x109 x108 h110 fun _ h112 =>
 kFA 1 x109 fun x113 =>
 kFA 1 x113 fun x114 =>
 kL1 x114 h112 fun x115 =>
 kEq' true (.leaf .str) x115 qs fun x116 =>
 jc (α := JT) (fun x117 h118 =>
 jc (α := JT) (fun x120 h121 =>
 jc (α := JT) (fun x123 h124 =>
 jc (α := JT) (fun x126 h127 =>
 kPick x116 qt x126 fun x129 =>
 jc (α := JT) (fun x130 h131 =>
 jc (α := JT) (fun x133 h134 =>
 jc (α := JT) (fun x136 h137 =>
 jc (α := JT) (fun x139 h140 =>
 jc (α := JT) (fun x142 h143 =>
 jc (α := JT) (fun x145 h146 =>
 jc (α := JT) (fun x148 h149 =>
 jc (α := JT) (fun x151 h152 =>
 kPick x129 qt x151 fun x154 =>
 brS x154 (some (qf, h152)) (kBin .add x81 (qi 1) fun x155 =>
 n106 u u u u u u u u u u u u u u u u u x80 x155 u u u u u u u u u u u u u u u u u u u u u u u h152)) fun j153 =>
 wtS x129 false (kPick x139 x148 qf fun x156 =>
 j153 x156 h149) (j153 u h149)) fun j150 =>
 wtS x139 true (kEq' true (.agg [.int, .int, .str]) x142 x145 fun x157 =>
 j150 x157 h146) (j150 u h146)) fun j147 =>
 wtS x139 true (kB [(qw 0), (qb 0), qs] [] fun x158 =>
 j147 x158 h143) (j147 u h143)) fun j144 =>
 wtS x139 true (kLA 3 x109 h140 fun x159 =>
 j144 x159 h140) (j144 u h140)) fun j141 =>
 wtS x129 false (j141 x136 h137) (j141 u h137)) fun j138 =>
 wtS x129 false (kEqI false x133 (qw 0) fun x160 =>
 j138 x160 h134) (j138 u h134)) fun j135 =>
 wtS x129 false (kL1 x130 h131 fun x161 =>
 j135 x161 h131) (j135 u h131)) fun j132 =>
 wtS x129 false (kFA 0 x109 fun x162 =>
 j132 x162 h127) (j132 u h127)) fun j128 =>
 wtS x116 false (kBin .gtr x123 (qb 3) fun x163 =>
 j128 x163 h124) (j128 u h124)) fun j125 =>
 wtS x116 false (kL1 x120 h121 fun x164 =>
 j125 x164 h121) (j125 u h121)) fun j122 =>
 wtS x116 false (kFA 0 x117 fun x165 =>
 j122 x165 h118) (j122 u h118)) fun j119 =>
 wtS x116 false (kFA 1 x109 fun x166 =>
 j119 x166 h112) (j119 u h112)) (some (qt, h105))) k u u u u u u u u u u u u u u u u u x62 (qi 0) u u u u u u u u u u u u u u u u u u u u u u u h48)) k u x2 u u u u u u x5 (qi 0) u u u u u u u u u u u u u u u u u u u u u u u u u u u u u u u u h3)
theorem p91_ok (k : Nat) : p91 k = funcS k 1 lit91 := by kernel_rfl
def p92 (_ : Nat) : CtxK → List V → TH → R := fun X => ap 2 (fun x0 x1 h2 =>
 kNew (V.cellsR x0) h2 fun x3 h4 =>
 kNew (V.cellsR x1) h4 fun x5 h6 =>
 kFA 2 x5 fun x7 =>
 kLA 6 x7 h6 fun x8 =>
 kCall X 9 [x8] h6 fun x9 h10 =>
 jc (α := JT) (fun x11 h12 =>
 jc (α := JT) (fun x14 h15 =>
 jc (α := JT) (fun x17 h18 =>
 jc (α := JT) (fun x20 h21 =>
 jc (α := JT) (fun x23 h24 =>
 jc (α := JT) (fun x26 h27 =>
 kPick x9 x26 qf fun x29 =>
 jc (α := JT) (fun x30 h31 =>
 jc (α := JT) (fun x33 h34 =>
 jc (α := JT) (fun x36 h37 =>
 jc (α := JT) (fun x39 h40 =>
 jc (α := JT) (fun x42 h43 =>
 kPick x29 x42 qf fun x45 =>
 jc (α := JT) (fun x46 h47 =>
 jc (α := JT) (fun x49 h50 =>
 jc (α := JT) (fun x52 h53 =>
 jc (α := JT) (fun x55 h56 =>
 jc (α := JT) (fun x58 h59 =>
 kPick x45 x58 qf fun x61 =>
 jc (α := JT) (fun x62 h63 =>
 jc (α := JT) (fun x65 h66 =>
 jc (α := JT) (fun x68 h69 =>
 kPick x61 x68 qf fun x71 =>
 some (x71, h69)) fun j70 =>
 wtS x61 true (kBin .leq x65 (qw 60) fun x72 =>
 j70 x72 h66) (j70 u h66)) fun j67 =>
 wtS x61 true (kL1 x62 h63 fun x73 =>
 j67 x73 h63) (j67 u h63)) fun j64 =>
 wtS x61 true (kFA 0 x5 fun x74 =>
 j64 x74 h59) (j64 u h59)) fun j60 =>
 wtS x45 true (kBin .geq x49 x55 fun x75 =>
 j60 x75 h56) (j60 u h56)) fun j57 =>
 wtS x45 true (kL1 x52 h53 fun x76 =>
 j57 x76 h53) (j57 u h53)) fun j54 =>
 wtS x45 true (kFA 0 x3 fun x77 =>
 j54 x77 h50) (j54 u h50)) fun j51 =>
 wtS x45 true (kL1 x46 h47 fun x78 =>
 j51 x78 h47) (j51 u h47)) fun j48 =>
 wtS x45 true (kFA 0 x5 fun x79 =>
 j48 x79 h43) (j48 u h43)) fun j44 =>
 wtS x29 true (kBin .gtr x33 x39 fun x80 =>
 j44 x80 h40) (j44 u h40)) fun j41 =>
 wtS x29 true (kL1 x36 h37 fun x81 =>
 j41 x81 h37) (j41 u h37)) fun j38 =>
 wtS x29 true (kFA 1 x3 fun x82 =>
 j38 x82 h34) (j38 u h34)) fun j35 =>
 wtS x29 true (kL1 x30 h31 fun x83 =>
 j35 x83 h31) (j35 u h31)) fun j32 =>
 wtS x29 true (kFA 1 x5 fun x84 =>
 j32 x84 h27) (j32 u h27)) fun j28 =>
 wtS x9 true (kEqI false x14 x23 fun x85 =>
 j28 x85 h24) (j28 u h24)) fun j25 =>
 wtS x9 true (kBin .add x20 (qw 1) fun x86 =>
 j25 x86 h21) (j25 u h21)) fun j22 =>
 wtS x9 true (kL1 x17 h18 fun x87 =>
 j22 x87 h18) (j22 u h18)) fun j19 =>
 wtS x9 true (kFA 1 x3 fun x88 =>
 j19 x88 h15) (j19 u h15)) fun j16 =>
 wtS x9 true (kL1 x11 h12 fun x89 =>
 j16 x89 h12) (j16 u h12)) fun j13 =>
 wtS x9 true (kFA 1 x5 fun x90 =>
 j13 x90 h10) (j13 u h10))
theorem p92_ok (k : Nat) : p92 k = funcS k 2 lit92 := by kernel_rfl
def p95 (k : Nat) : CtxK → List V → TH → R := fun _ => ap 2 (fun x0 x1 h2 =>
 kLen x0 fun x3 =>
 lp (α := Cur 19) (zN 19) (fun n24 x4 x5 _ _ _ _ _ x11 x12 _ _ _ _ _ _ _ _ _ _ h23 =>
 kBin .lss x12 x11 fun x25 =>
 brS x25 (kIS 1 x4 x12 fun x26 =>
 kL1 x26 h23 fun x27 =>
 kEqI false x5 x27 fun x28 =>
 brS x28 (some (x12, h23)) (kBin .add x12 (qi 1) fun x29 =>
 n24 x4 x5 u u u u u x11 x29 u u u u u u u u u u h23)) (some ((.int .i64 (-1)), h23))) k x0 x1 u u u u u x3 (qi 0) u u u u u u u u u u h2)
theorem p95_ok (k : Nat) : p95 k = funcS k 2 lit95 := by kernel_rfl
def p102 (k : Nat) : CtxK → List V → TH → R := fun X => ap 4 (fun x0 x1 x2 x3 h4 =>
 lp (α := Cur 134) (zN 134) (fun n140 x5 x6 x7 x8 _ _ _ _ x13 x14 _ _ _ _ _ _ _ _ _ _ _ _ _ _ _ _ _ _ _ _ _ _ _ _ _ _ _ _ _ _ _ _ _ _ _ _ _ _ _ _ _ _ _ _ _ _ _ _ _ _ _ _ _ _ _ _ _ _ _ _ _ _ _ _ _ _ _ _ _ _ _ _ _ _ _ _ _ _ _ _ _ _ _ _ _ _ _ _ _ _ _ _ _ _ _ _ _ _ _ _ _ _ _ _ _ _ _ _ _ _ _ _ _ _ _ _ _ _ _ _ _ _ _ _ h139 =>
 jc (α := Cur 134) (fun x141 x142 x143 x144 _ _ _ _ x149 x150 _ _ _ _ _ _ _ _ _ _ _ _ _ _ _ _ _ _ _ _ _ _ _ _ _ _ _ _ _ _ _ _ _ _ _ _ _ _ _ _ _ _ _ _ _ _ _ _ _ _ _ _ _ _ _ _ _ _ _ _ _ _ _ _ _ _ _ _ _ _ _ _ _ _ _ _ _ _ _ _ _ _ _ _ _ _ _ _ _ _ _ _ _ _ _ _ _ _ _ _ _ _ _ _ _ _ _ _ _ _ _ _ _ _ _ _ _ _ _ _ _ _ _ _ h275 =>
 n140 x141 x142 x143 x144 u u u u x149 x150 u u u u u u u u u u u u u u u u u u u u u u u u u u u u u u u u u u u u u u u u u u u u u u u u u u u u u u u u u u u u u u u u u u u u u u u u u u u u u u u u u u u u u u u u u u u u u u u u u u u u u u u u u u u u u u u u u u u u u u u u u u u u h275) fun j276 =>
 kBin .sub x7 x6 fun x277 =>
 kBin .leq x277 (qi 12) fun x278 =>
 brS x278 (kCall X 144 [x5, x6, x7] h139 fun _ h280 =>
 some (.tup [], h280)) (kEqI false x8 (qi 0) fun x281 =>
 brS x281 (kCall X 145 [x5, x6, x7] h139 fun _ h283 =>
 some (.tup [], h283)) (kNot x13 fun x284 =>
 jc (α := Cur 134) (fun x285 x286 x287 x288 _ _ _ _ x293 x294 x295 _ _ _ _ _ _ _ _ _ _ _ _ _ _ _ _ _ _ _ _ _ _ _ _ _ _ _ _ _ _ _ _ _ _ _ _ _ _ _ _ _ _ _ _ _ _ _ _ _ _ _ _ _ _ _ _ _ _ _ _ _ _ _ _ _ _ _ _ _ _ _ _ _ _ _ _ _ _ _ _ _ _ _ _ _ _ _ _ _ _ _ _ _ _ _ _ _ _ _ _ _ _ _ _ _ _ _ _ _ _ _ _ _ _ _ _ _ _ _ _ _ _ _ h419 =>
 kCall X 147 [x285, x286, x287] h419 fun x421 h422 =>
 kExt x421 0 fun x423 =>
 kExt x421 1 fun x424 =>
 kEqI false x424 (qi 2) fun x425 =>
 jc (α := Cur 134) (fun x426 x427 x428 x429 _ _ _ _ x434 x435 x436 x437 x438 _ _ _ _ _ _ _ _ _ _ _ _ _ _ _ _ _ _ _ _ _ _ _ _ _ _ _ _ _ _ _ _ _ _ _ _ _ _ _ _ _ _ _ _ _ _ _ _ _ _ _ _ _ _ _ _ _ _ _ _ _ _ _ _ _ _ _ _ _ _ _ _ _ _ _ _ _ _ _ _ _ _ _ _ _ _ _ _ _ _ _ _ _ _ _ _ _ _ _ _ _ _ _ _ _ _ _ _ _ _ _ _ _ _ _ _ _ _ _ _ _ h560 =>
 jc (α := JT) (fun x562 h563 =>
 kPick x434 x562 qf fun x565 =>
 jc (α := JT) (fun x566 h567 =>
 jc (α := JT) (fun x569 h570 =>
 kPick x565 x569 qf fun x572 =>
 jc (α := Cur 134) (fun x573 x574 x575 x576 _ _ _ _ x581 x582 x583 x584 _ _ _ _ _ _ _ _ _ _ _ _ _ _ _ _ _ _ _ _ _ _ _ _ _ _ _ _ _ _ _ _ _ _ _ _ _ _ _ _ _ _ _ _ _ _ _ _ _ _ _ _ _ _ _ _ _ _ _ _ _ _ _ _ _ _ _ _ _ _ _ _ _ _ _ _ _ _ _ _ _ _ _ _ _ _ _ _ _ _ _ _ _ _ _ _ _ _ _ _ _ _ _ _ _ _ _ _ _ _ _ _ _ _ _ _ _ _ _ _ _ _ h707 =>
 kBin .gtr x574 (qi 0) fun x709 =>
 jc (α := JT) (fun x710 h711 =>
 jc (α := JT) (fun x713 h714 =>
 jc (α := JT) (fun x716 h717 =>
 jc (α := JT) (fun x719 h720 =>
 jc (α := V → TH → PD → R) (fun x724 h725 d726 =>
 jc (α := JT) (fun x728 h729 =>
 jc (α := JT) (fun x731 h732 =>
 jc (α := JT) (fun x734 h735 =>
 jc (α := V → TH → PD → R) (fun x739 h740 d741 =>
 jc (α := JT) (fun x743 h744 =>
 jc (α := JT) (fun x746 h747 =>
 kPick x709 x746 qf fun x749 =>
 dokS [h740, h747] d741 (brS x749 (kCall X 151 [x573, x574, x575, x584] h747 fun x750 h751 =>
 j276 x573 x750 x575 x576 u u u u x581 x582 u u u u u u u u u u u u u u u u u u u u u u u u u u u u u u u u u u u u u u u u u u u u u u u u u u u u u u u u u u u u u u u u u u u u u u u u u u u u u u u u u u u u u u u u u u u u u u u u u u u u u u u u u u u u u u u u u u u u u u u u u u u u h751) (kCall X 152 [x573, x574, x575, x584] h747 fun x752 h753 =>
 kExt x752 0 fun x754 =>
 kExt x752 1 fun x755 =>
 kBin .sub x754 x574 fun x756 =>
 kBin .sub x575 x754 fun x757 =>
 kBin .quo x583 (qi 8) fun x758 =>
 kBin .lss x756 x757 fun x759 =>
 jc (α := Cur 134) (fun x760 x761 x762 x763 _ _ _ _ x768 x769 _ _ _ _ _ _ _ _ _ _ _ _ _ _ _ _ _ _ _ _ _ _ _ _ _ _ _ _ _ _ _ _ _ _ _ _ _ _ _ _ _ _ _ _ _ _ _ _ _ _ _ _ _ _ _ _ _ _ _ _ _ _ _ _ _ _ _ _ _ _ _ _ _ _ _ _ _ _ _ _ _ _ _ _ _ _ _ _ _ _ _ _ _ _ _ _ _ _ _ _ _ _ _ _ _ _ _ _ _ _ _ _ _ _ _ _ _ _ _ _ _ _ _ _ h894 =>
 j276 x760 x761 x762 x763 u u u u x768 x769 u u u u u u u u u u u u u u u u u u u u u u u u u u u u u u u u u u u u u u u u u u u u u u u u u u u u u u u u u u u u u u u u u u u u u u u u u u u u u u u u u u u u u u u u u u u u u u u u u u u u u u u u u u u u u u u u u u u u u u u u u u u u h894) fun j895 =>
 brS x759 (kBin .geq x756 x758 fun x896 =>
 kCall X 102 [x573, x574, x754, x576] h753 fun _ h898 =>
 kBin .add x754 (qi 1) fun x899 =>
 j895 x573 x899 x575 x576 u u u u x896 x755 u u u u u u u u u u u u u u u u u u u u u u u u u u u u u u u u u u u u u u u u u u u u u u u u u u u u u u u u u u u u u u u u u u u u u u u u u u u u u u u u u u u u u u u u u u u u u u u u u u u u u u u u u u u u u u u u u u u u u u u u u u u u h898) (kBin .geq x757 x758 fun x900 =>
 kBin .add x754 (qi 1) fun x901 =>
 kCall X 102 [x573, x901, x575, x576] h753 fun _ h903 =>
 j895 x573 x574 x754 x576 u u u u x900 x755 u u u u u u u u u u u u u u u u u u u u u u u u u u u u u u u u u u u u u u u u u u u u u u u u u u u u u u u u u u u u u u u u u u u u u u u u u u u u u u u u u u u u u u u u u u u u u u u u u u u u u u u u u u u u u u u u u u u u u u u u u u u u h903)))) fun j748 =>
 wtS x709 true (kNot x743 fun x904 =>
 j748 x904 h744) (j748 u h744)) fun j745 =>
 wtS x709 true (kCall X 150 [x724, x739] h740 fun x905 h906 =>
 j745 x905 h906) (j745 u h740)) fun j742 =>
 wtS x709 true (kL1 x734 h735 fun x907 =>
 j742 x907 h735 d726) (j742 u h735 d726)) fun j736 =>
 wtS x709 true (kIS 1 x728 x731 fun x908 =>
 j736 x908 h732) (j736 u h732)) fun j733 =>
 wtS x709 true (j733 x584 h729) (j733 u h729)) fun j730 =>
 wtS x709 true (j730 x573 h725) (j730 u h725)) fun j727 =>
 wtS x709 true (kL1 x719 h720 fun x909 =>
 j727 x909 h720 []) (j727 u h720 [])) fun j721 =>
 wtS x709 true (kIS 1 x710 x716 fun x910 =>
 j721 x910 h717) (j721 u h717)) fun j718 =>
 wtS x709 true (kBin .sub x713 (qi 1) fun x911 =>
 j718 x911 h714) (j718 u h714)) fun j715 =>
 wtS x709 true (j715 x574 h711) (j715 u h711)) fun j712 =>
 wtS x709 true (j712 x573 h707) (j712 u h707)) fun j708 =>
 brS x572 (kCall X 149 [x426, x427, x428] h570 fun x912 h913 =>
 brS x912 (some (.tup [], h913)) (j708 x426 x427 x428 x429 u u u u x434 x435 x436 x437 u u u u u u u u u u u u u u u u u u u u u u u u u u u u u u u u u u u u u u u u u u u u u u u u u u u u u u u u u u u u u u u u u u u u u u u u u u u u u u u u u u u u u u u u u u u u u u u u u u u u u u u u u u u u u u u u u u u u u u u u u u h913)) (j708 x426 x427 x428 x429 u u u u x434 x435 x436 x437 u u u u u u u u u u u u u u u u u u u u u u u u u u u u u u u u u u u u u u u u u u u u u u u u u u u u u u u u u u u u u u u u u u u u u u u u u u u u u u u u u u u u u u u u u u u u u u u u u u u u u u u u u u u u u u u u u u u u u u u u u u h570)) fun j571 =>
 wtS x565 true (kEqI false x566 (qi 1) fun x914 =>
 j571 x914 h567) (j571 u h567)) fun j568 =>
 wtS x565 true (j568 x438 h563) (j568 u h563)) fun j564 =>
 wtS x434 true (j564 x435 h560) (j564 u h560)) fun j561 =>
 brS x425 (kCall X 148 [x285, x286, x287] h422 fun _ h916 =>
 kBin .sub x287 (qi 1) fun x917 =>
 kBin .sub x423 x286 fun x918 =>
 kBin .sub x917 x918 fun x919 =>
 j561 x285 x286 x287 x288 u u u u x293 x294 x295 x919 (qi 1) u u u u u u u u u u u u u u u u u u u u u u u u u u u u u u u u u u u u u u u u u u u u u u u u u u u u u u u u u u u u u u u u u u u u u u u u u u u u u u u u u u u u u u u u u u u u u u u u u u u u u u u u u u u u u u u u u u u u u u u u u h916) (j561 x285 x286 x287 x288 u u u u x293 x294 x295 x423 x424 u u u u u u u u u u u u u u u u u u u u u u u u u u u u u u u u u u u u u u u u u u u u u u u u u u u u u u u u u u u u u u u u u u u u u u u u u u u u u u u u u u u u u u u u u u u u u u u u u u u u u u u u u u u u u u u u u u u u u u u u u h422)) fun j420 =>
 brS x284 (kCall X 146 [x5, x6, x7] h139 fun _ h921 =>
 kBin .sub x8 (qi 1) fun x922 =>
 j420 x5 x6 x7 x922 u u u u x13 x14 x277 u u u u u u u u u u u u u u u u u u u u u u u u u u u u u u u u u u u u u u u u u u u u u u u u u u u u u u u u u u u u u u u u u u u u u u u u u u u u u u u u u u u u u u u u u u u u u u u u u u u u u u u u u u u u u u u u u u u u u u u u u u u h921) (j420 x5 x6 x7 x8 u u u u x13 x14 x277 u u u u u u u u u u u u u u u u u u u u u u u u u u u u u u u u u u u u u u u u u u u u u u u u u u u u u u u u u u u u u u u u u u u u u u u u u u u u u u u u u u u u u u u u u u u u u u u u u u u u u u u u u u u u u u u u u u u u u u u u u u u h139)))) k x0 x1 x2 x3 u u u u qt qt u u u u u u u u u u u u u u u u u u u u u u u u u u u u u u u u u u u u u u u u u u u u u u u u u u u u u u u u u u u u u u u u u u u u u u u u u u u u u u u u u u u u u u u u u u u u u u u u u u u u u u u u u u u u u u u u u u u u u u u u u u u u h4)
theorem p102_ok (k : Nat) : p102 k = funcS k 4 lit102 := by kernel_rfl
def p107 (_ : Nat) : CtxK → List V → TH → R := fun X => ap 3 (fun x0 x1 x2 h3 =>
 kNew (V.cellsR x2) h3 fun x4 h5 =>
 kNilc x0 fun x6 =>
 kFA 3 x6 fun x7 =>
 kFA 0 x7 fun x8 =>
 kL1 x8 h5 fun x11 =>
 kNilc x0 fun x12 =>
 kFA 52 x12 fun x13 =>
 kL1 x13 h5 fun x16 =>
 kEqI true x11 x16 fun x17 =>
 dokS [h5] [] (brS x17 (some (.nils, h5)) (kLA 131 x4 h5 fun x18 =>
 kCall X 104 [x18] h5 fun x19 h20 =>
 kCall X 89 [x0, x1, x19] h20 fun x21 h22 =>
 kNew zr1 h22 fun x23 h24 =>
 kSA 131 x23 x21 h24 fun _ h26 =>
 kCall X 109 [x0] h26 fun x27 h28 =>
 kFA 122 x23 fun x29 =>
 kS1 x29 x27 h28 fun _ h31 =>
 kLA 131 x23 h31 fun x32 =>
 kBS 131 zr1 1 [(0, 131, x32)] h31 fun x33 h34 =>
 some (x33, h34))))
theorem p107_ok (k : Nat) : p107 k = funcS k 3 lit107 := by kernel_rfl
def p108 (_ : Nat) : CtxK → List V → TH → R := fun X => ap 3 (fun x0 x1 x2 h3 =>
 kNew (V.cellsR x2) h3 fun x4 h5 =>
 kNilc x0 fun x6 =>
 kFA 1 x6 fun x7 =>
 kL1 x7 h5 fun x10 =>
 kEqI false x10 x1 fun x11 =>
 jc (α := JT) (fun x12 h13 =>
 jc (α := JT) (fun x15 h16 =>
 jc (α := JT) (fun x18 h19 =>
 jc (α := V → TH → PD → R) (fun x23 h24 d25 =>
 jc (α := V → TH → PD → R) (fun x29 h30 d31 =>
 jc (α := JT) (fun x33 h34 =>
 jc (α := JT) (fun x36 h37 =>
 kPick x11 x36 qf fun x39 =>
 dokS [h30, h34, h37] d31 (some (x39, h37))) fun j38 =>
 wtS x11 true (kCall X 54 [x23, x33] h34 fun x40 h41 =>
 j38 x40 h41) (j38 u h34)) fun j35 =>
 wtS x11 true (kCall X 104 [x29] h30 fun x42 h43 =>
 j35 x42 h43) (j35 u h30)) fun j32 =>
 wtS x11 true (kLA 131 x4 h24 fun x44 =>
 j32 x44 h24 d25) (j32 u h24 d25)) fun j26 =>
 wtS x11 true (kL1 x18 h19 fun x45 =>
 j26 x45 h19 ((fun h21 => kL1 x18 h21 fun x22 =>
 some (x22, h21), x45, 0, 1) :: [])) (j26 u h19 [])) fun j20 =>
 wtS x11 true (kFA 53 x15 fun x46 =>
 j20 x46 h16) (j20 u h16)) fun j17 =>
 wtS x11 true (kNilc x12 fun x47 =>
 j17 x47 h13) (j17 u h13)) fun j14 =>
 wtS x11 true (j14 x0 h5) (j14 u h5))
theorem p108_ok (k : Nat) : p108 k = funcS k 3 lit108 := by kernel_rfl
def p113 (k : Nat) : CtxK → List V → TH → R := fun X => ap 1 (fun x0 h1 =>
 kNilc x0 fun x2 =>
 kFA 310 x2 fun x3 =>
 kLA 42 x3 h1 fun x4 =>
 lp (α := Cur 66) (zN 66) (fun n72 x5 _ _ x8 _ _ _ _ _ x14 x15 _ _ _ _ _ _ _ _ _ _ _ _ _ _ _ _ _ _ _ _ _ _ _ _ _ _ _ _ _ _ _ _ _ _ _ _ _ _ _ _ _ _ _ _ _ _ _ _ _ _ _ _ _ _ _ h71 =>
 kBin .lss x15 (qi 3) fun x73 =>
 brS x73 (jc (α := Cur 66) (fun x74 _ _ x77 _ _ _ _ _ x83 x84 _ _ _ _ _ _ _ _ _ _ _ _ _ _ _ _ _ _ _ _ _ _ _ _ _ _ _ _ _ _ _ _ _ _ _ _ _ _ _ _ _ _ _ _ _ _ _ _ _ _ _ _ _ _ _ h140 =>
 kBin .add x84 (qi 1) fun x142 =>
 n72 x74 u u x77 u u u u u x83 x142 u u u u u u u u u u u u u u u u u u u u u u u u u u u u u u u u u u u u u u u u u u u u u u u u u u u u u u u h140) fun j141 =>
 kP (indexE (some (3, 14, true)) x14 x15) fun x143 =>
 kNew zr6 h71 fun x144 h145 =>
 kSA 14 x144 x143 h145 fun _ h147 =>
 kFA 0 x144 fun x148 =>
 kFA 1 x148 fun x149 =>
 kL1 x149 h147 fun x152 =>
 kEqI false x152 (qw 0) fun x153 =>
 jc (α := JT) (fun x154 h155 =>
 jc (α := V → TH → PD → R) (fun x159 h160 d161 =>
 jc (α := JT) (fun x163 h164 =>
 jc (α := JT) (fun x166 h167 =>
 jc (α := JT) (fun x169 h170 =>
 jc (α := V → TH → PD → R) (fun x174 h175 d176 =>
 jc (α := JT) (fun x178 h179 =>
 jc (α := JT) (fun x181 h182 =>
 kPick x153 qt x181 fun x184 =>
 jc (α := JT) (fun x185 h186 =>
 jc (α := JT) (fun x188 h189 =>
 jc (α := JT) (fun x191 h192 =>
 jc (α := V → TH → PD → R) (fun x196 h197 d198 =>
 jc (α := JT) (fun x200 h201 =>
 jc (α := JT) (fun x203 h204 =>
 jc (α := JT) (fun x206 h207 =>
 jc (α := JT) (fun x209 h210 =>
 jc (α := JT) (fun x212 h213 =>
 jc (α := JT) (fun x215 h216 =>
 jc (α := V → TH → PD → R) (fun x220 h221 d222 =>
 jc (α := JT) (fun x224 h225 =>
 jc (α := JT) (fun x227 h228 =>
 jc (α := JT) (fun x230 h231 =>
 jc (α := V → TH → PD → R) (fun x235 h236 d237 =>
 jc (α := JT) (fun x239 h240 =>
 jc (α := V → TH → PD → R) (fun x244 h245 d246 =>
 jc (α := JT) (fun x248 h249 =>
 jc (α := JT) (fun x251 h252 =>
 kPick x184 qt x251 fun x254 =>
 dokS [h175, h252] d246 (brS x254 (j141 x5 u u x8 u u u u u x14 x15 u u u u u u u u u u u u u u u u u u u u u u u u u u u u u u u u u u u u u u u u u u u u u u u u u u u u u u u h252) (kFA 0 x144 fun x255 =>
 kLA 6 x255 h252 fun x256 =>
 kFA 6 x144 fun x257 =>
 kLA 2 x257 h252 fun x258 =>
 kCall X 112 [x5, x256, x258] h252 fun x259 h260 =>
 kBS 131 zr1 1 [(0, 131, x259)] h260 fun x261 h262 =>
 kAp 131 1400 x8 x261 h262 fun x263 h264 =>
 kB zr6 [] fun x265 =>
 kNilc x5 fun x266 =>
 kFA 310 x266 fun x267 =>
 kIA 3 14 x267 x15 fun x268 =>
 kSA 14 x268 x265 h264 fun _ h270 =>
 j141 x5 u u x263 u u u u u x14 x15 u u u u u u u u u u u u u u u u u u u u u u u u u u u u u u u u u u u u u u u u u u u u u u u u u u u u u u u h270))) fun j253 =>
 wtS x184 false (kPick x206 x248 qf fun x271 =>
 j253 x271 h249) (j253 u h249)) fun j250 =>
 wtS x206 true (kBin .leq x235 x244 fun x272 =>
 j250 x272 h245) (j250 u h245)) fun j247 =>
 wtS x206 true (kL1 x239 h240 fun x273 =>
 j247 x273 h240 d237) (j247 u h240 d237)) fun j241 =>
 wtS x206 true (kFA 8 x144 fun x274 =>
 j241 x274 h236) (j241 u h236)) fun j238 =>
 wtS x206 true (kL1 x230 h231 fun x275 =>
 j238 x275 h231 d222) (j238 u h231 d222)) fun j232 =>
 wtS x206 true (kFA 1 x227 fun x276 =>
 j232 x276 h228) (j232 u h228)) fun j229 =>
 wtS x206 true (kFA 0 x224 fun x277 =>
 j229 x277 h225) (j229 u h225)) fun j226 =>
 wtS x206 true (kIS 15 x220 (qi 0) fun x278 =>
 j226 x278 h221) (j226 u h221)) fun j223 =>
 wtS x206 true (kL1 x215 h216 fun x279 =>
 j223 x279 h216 d198) (j223 u h216 d198)) fun j217 =>
 wtS x206 true (kFA 309 x212 fun x280 =>
 j217 x280 h213) (j217 u h213)) fun j214 =>
 wtS x206 true (kNilc x209 fun x281 =>
 j214 x281 h210) (j214 u h210)) fun j211 =>
 wtS x206 true (j211 x5 h207) (j211 u h207)) fun j208 =>
 wtS x184 false (j208 x203 h204) (j208 u h204)) fun j205 =>
 wtS x184 false (kBin .gtr x200 (qi 0) fun x282 =>
 j205 x282 h201) (j205 u h201)) fun j202 =>
 wtS x184 false (kLen x196 fun x283 =>
 j202 x283 h197) (j202 u h197)) fun j199 =>
 wtS x184 false (kL1 x191 h192 fun x284 =>
 j199 x284 h192 d176) (j199 u h192 d176)) fun j193 =>
 wtS x184 false (kFA 309 x188 fun x285 =>
 j193 x285 h189) (j193 u h189)) fun j190 =>
 wtS x184 false (kNilc x185 fun x286 =>
 j190 x286 h186) (j190 u h186)) fun j187 =>
 wtS x184 false (j187 x5 h182) (j187 u h182)) fun j183 =>
 wtS x153 false (kNot x178 fun x287 =>
 j183 x287 h179) (j183 u h179)) fun j180 =>
 wtS x153 false (kCall X 110 [x159, x174] h175 fun x288 h289 =>
 j180 x288 h289) (j180 u h175)) fun j177 =>
 wtS x153 false (kL1 x169 h170 fun x290 =>
 j177 x290 h170 d161) (j177 u h170 d161)) fun j171 =>
 wtS x153 false (kFA 53 x166 fun x291 =>
 j171 x291 h167) (j171 u h167)) fun j168 =>
 wtS x153 false (kNilc x163 fun x292 =>
 j168 x292 h164) (j168 u h164)) fun j165 =>
 wtS x153 false (j165 x5 h160) (j165 u h160)) fun j162 =>
 wtS x153 false (kLA 5 x154 h155 fun x293 =>
 j162 x293 h155 []) (j162 u h155 [])) fun j156 =>
 wtS x153 false (kFA 9 x144 fun x294 =>
 j156 x294 h147) (j156 u h147)) (some (x8, h71))) k x0 u u .nils u u u u u x4 (qi 0) u u u u u u u u u u u u u u u u u u u u u u u u u u u u u u u u u u u u u u u u u u u u u u u u u u u u u u u h1)
theorem p113_ok (k : Nat) : p113 k = funcS k 1 lit113 := by kernel_rfl
def p116 (_ : Nat) : CtxK → List V → TH → R := fun _ => ap 1 (fun x0 h1 =>
 kBin .lss x0 (qb 3) fun x2 =>
 some (x2, h1))
theorem p116_ok (k : Nat) : p116 k = funcS k 1 lit116 := by kernel_rfl
def p117 (_ : Nat) : CtxK → List V → TH → R := fun _ => ap 1 (fun x0 h1 =>
 kBin .geq x0 (qb 10) fun x2 =>
 jc (α := JT) (fun x3 h4 =>
 jc (α := JT) (fun x6 h7 =>
 kPick x2 x6 qf fun x9 =>
 some (x9, h7)) fun j8 =>
 wtS x2 true (kBin .lss x3 (qb 15) fun x10 =>
 j8 x10 h4) (j8 u h4)) fun j5 =>
 wtS x2 true (j5 x0 h1) (j5 u h1))
theorem p117_ok (k : Nat) : p117 k = funcS k 1 lit117 := by kernel_rfl
def p120 (_ : Nat) : CtxK → List V → TH → R := fun X => ap 2 (fun x0 x1 h2 =>
 kCall X 163 [x0, x1] h2 fun x3 h4 =>
 kBin .geq x3 (qi 0) fun x5 =>
 some (x5, h4))
theorem p120_ok (k : Nat) : p120 k = funcS k 2 lit120 := by kernel_rfl
def p140 (_ : Nat) : CtxK → List V → TH → R := fun _ => ap 2 (fun x0 x1 h2 =>
 kNew (V.cellsR x0) h2 fun x3 h4 =>
 kNew (V.cellsR x1) h4 fun x5 h6 =>
 kFA 1 x3 fun x7 =>
 kL1 x7 h6 fun x8 =>
 kFA 1 x5 fun x9 =>
 kL1 x9 h6 fun x10 =>
 kEqI true x8 x10 fun x11 =>
 brS x11 (kFA 1 x3 fun x12 =>
 kL1 x12 h6 fun x13 =>
 kFA 1 x5 fun x14 =>
 kL1 x14 h6 fun x15 =>
 kBin .gtr x13 x15 fun x16 =>
 some (x16, h6)) (kFA 2 x3 fun x17 =>
 kL1 x17 h6 fun x18 =>
 kFA 2 x5 fun x19 =>
 kL1 x19 h6 fun x20 =>
 kEqI true x18 x20 fun x21 =>
 brS x21 (kFA 2 x3 fun x22 =>
 kL1 x22 h6 fun x23 =>
 kFA 2 x5 fun x24 =>
 kL1 x24 h6 fun x25 =>
 kBin .gtr x23 x25 fun x26 =>
 some (x26, h6)) (kFA 3 x3 fun x27 =>
 kL1 x27 h6 fun x28 =>
 kFA 3 x5 fun x29 =>
 kL1 x29 h6 fun x30 =>
 kEqI true x28 x30 fun x31 =>
 brS x31 (kFA 3 x3 fun x32 =>
 kL1 x32 h6 fun x33 =>
 kFA 3 x5 fun x34 =>
 kL1 x34 h6 fun x35 =>
 kBin .gtr x33 x35 fun x36 =>
 some (x36, h6)) (kFA 0 x3 fun x37 =>
 kL1 x37 h6 fun x38 =>
 kFA 0 x5 fun x39 =>
 kL1 x39 h6 fun x40 =>
 kBin .lss x38 x40 fun x41 =>
 some (x41, h6)))))
theorem p140_ok (k : Nat) : p140 k = funcS k 2 lit140 := by kernel_rfl
def p153 (_ : Nat) : CtxK → List V → TH → R := fun _ => ap 1 (fun x0 h1 =>
 kBin .geq x0 (qw 65536) fun x2 =>
 jc (α := Cur 19) (fun x3 _ x5 _ _ _ _ _ _ _ _ _ _ _ _ _ _ _ _ h22 =>
 kBin .geq x3 (qw 256) fun x24 =>
 jc (α := Cur 19) (fun x25 _ x27 _ _ _ _ _ _ _ _ _ _ _ _ _ _ _ _ h44 =>
 kConv .u8 x25 fun x46 =>
 kP (indexE none (.str (bs [0, 1, 2, 2, 3, 3, 3, 3, 4, 4, 4, 4, 4, 4, 4, 4, 5, 5, 5, 5, 5, 5, 5, 5, 5, 5, 5, 5, 5, 5, 5, 5, 6, 6, 6, 6, 6, 6, 6, 6, 6, 6, 6, 6, 6, 6, 6, 6, 6, 6, 6, 6, 6, 6, 6, 6, 6, 6, 6, 6, 6, 6, 6, 6, 7, 7, 7, 7, 7, 7, 7, 7, 7, 7, 7, 7, 7, 7, 7, 7, 7, 7, 7, 7, 7, 7, 7, 7, 7, 7, 7, 7, 7, 7, 7, 7, 7, 7, 7, 7, 7, 7, 7, 7, 7, 7, 7, 7, 7, 7, 7, 7, 7, 7, 7, 7, 7, 7, 7, 7, 7, 7, 7, 7, 7, 7, 7, 7, 8, 8, 8, 8, 8, 8, 8, 8, 8, 8, 8, 8, 8, 8, 8, 8, 8, 8, 8, 8, 8, 8, 8, 8, 8, 8, 8, 8, 8, 8, 8, 8, 8, 8, 8, 8, 8, 8, 8, 8, 8, 8, 8, 8, 8, 8, 8, 8, 8, 8, 8, 8, 8, 8, 8, 8, 8, 8, 8, 8, 8, 8, 8, 8, 8, 8, 8, 8, 8, 8, 8, 8, 8, 8, 8, 8, 8, 8, 8, 8, 8, 8, 8, 8, 8, 8, 8, 8, 8, 8, 8, 8, 8, 8, 8, 8, 8, 8, 8, 8, 8, 8, 8, 8, 8, 8, 8, 8, 8, 8, 8, 8, 8, 8, 8, 8, 8, 8, 8, 8, 8, 8, 8, 8, 8, 8, 8, 8])) x46) fun x47 =>
 kConv .i64 x47 fun x48 =>
 kBin .add x27 x48 fun x49 =>
 some (x49, h44)) fun j45 =>
 brS x24 (kBin .shr x3 (.int .u64 8) fun x50 =>
 kBin .add x5 (qi 8) fun x51 =>
 j45 x50 u x51 u u u u u u u u u u u u u u u u h22) (j45 x3 u x5 u u u u u u u u u u u u u u u u h22)) fun j23 =>
 brS x2 (kBin .shr x0 (.int .u64 16) fun x52 =>
 j23 x52 u (qi 16) u u u u u u u u u u u u u u u u h1) (j23 x0 u (qi 0) u u u u u u u u u u u u u u u u h1))
theorem p153_ok (k : Nat) : p153 k = funcS k 1 lit153 := by kernel_rfl
def p156 (_ : Nat) : CtxK → List V → TH → R := fun _ => ap 2 (fun x0 x1 h2 =>
 kIA 5 1 x1 x0 fun x3 =>
 kL1 x3 h2 fun x4 =>
 kNot x4 fun x5 =>
 some (x5, h2))
theorem p156_ok (k : Nat) : p156 k = funcS k 2 lit156 := by kernel_rfl
def p157 (_ : Nat) : CtxK → List V → TH → R := fun X => ap 2 (fun x0 x1 h2 =>
 kNew (V.cellsR x0) h2 fun x3 h4 =>
 kNew (V.cellsR x1) h4 fun x5 h6 =>
 kNew zr0 h6 fun x7 h8 =>
 kLA 49 x3 h8 fun x11 =>
 kCall X 50 [x11] h8 fun x12 h13 =>
 kNot x12 fun x14 =>
 jc (α := V → TH → PD → R) (fun x17 h18 d19 =>
 jc (α := V → TH → PD → R) (fun x23 h24 d25 =>
 jc (α := JT) (fun x27 h28 =>
 jc (α := JT) (fun x30 h31 =>
 jc (α := JT) (fun x33 h34 =>
 kPick x14 qt x33 fun x36 =>
 dokS [h8, h24, h28, h34] d25 (brS x36 (kB zr0 [] fun x37 =>
 kSA 49 x7 x37 h34 fun _ h39 =>
 rsS [.cell 4 true 49, .tmp 5] [x0, x1, x3, x5, x7, (qi 10), x11, x12, x14, x14, x17, x27, x23, x30, x33, x36, x37, u, u, u, u, u, u, u, u, u, u, u, u, u, u] h39) (kFA 48 x3 fun x40 =>
 kL1 x40 h34 fun x43 =>
 kLA 8 x5 h34 fun x46 =>
 kBS 8 zr2 1 [(0, 8, x46)] h34 fun x47 h48 =>
 kCall X 94 [x43] h48 fun x49 h50 =>
 kAp 8 40 x49 x47 h50 fun x51 h52 =>
 kFA 48 x3 fun x53 =>
 kS1 x53 x51 h52 fun _ h55 =>
 dokS [h48, h50, h52, h55] ((fun h44 => kLA 8 x5 h44 fun x45 =>
 some (x45, h44), x46, 0, 1) :: []) (kLA 49 x3 h55 fun x56 =>
 kFA 48 x3 fun x57 =>
 kL1 x57 h55 fun x58 =>
 kLen x58 fun x59 =>
 kBin .sub x59 (qi 6) fun x60 =>
 kP (minE true x60 (qi 0)) fun x61 =>
 kCall X 52 [x56, x61] h55 fun x62 h63 =>
 kSA 49 x7 x62 h63 fun _ h65 =>
 rsS [.cell 4 true 49, .tmp 5] [x0, x1, x3, x5, x7, (qi 0), x11, x12, x14, x14, x17, x27, x23, x30, x33, x36, u, x40, x43, x49, x46, x47, x51, x53, x56, x57, x58, x59, x60, x61, x62] h65)))) fun j35 =>
 wtS x14 false (kNot x30 fun x66 =>
 j35 x66 h31) (j35 u h31)) fun j32 =>
 wtS x14 false (kCall X 92 [x27, x23] h28 fun x67 h68 =>
 j32 x67 h68) (j32 u h28)) fun j29 =>
 wtS x14 false (kCall X 51 [x17] h24 fun x69 h70 =>
 j29 x69 h70) (j29 u h24)) fun j26 =>
 wtS x14 false (kLA 8 x5 h18 fun x71 =>
 j26 x71 h18 ((fun h21 => kLA 8 x5 h21 fun x22 =>
 some (x22, h21), x71, 1, 2) :: d19)) (j26 u h18 d19)) fun j20 =>
 wtS x14 false (kLA 49 x3 h13 fun x72 =>
 j20 x72 h13 []) (j20 u h13 []))
theorem p157_ok (k : Nat) : p157 k = funcS k 2 lit157 := by kernel_rfl
def p158 (_ : Nat) : CtxK → List V → TH → R := fun X => ap 2 (fun x0 x1 h2 =>
 kCall X 188 [x0, x1] h2 fun x3 h4 =>
 kBin .geq x3 (qi 0) fun x5 =>
 some (x5, h4))
theorem p158_ok (k : Nat) : p158 k = funcS k 2 lit158 := by kernel_rfl
def p167 (_ : Nat) : CtxK → List V → TH → R := fun X => ap 2 (fun x0 x1 h2 =>
 kNew (V.cellsR x1) h2 fun x3 h4 =>
 kFA 4 x3 fun x5 =>
 kL1 x5 h4 fun x6 =>
 kConv .i64 x6 fun x7 =>
 kFA 5 x3 fun x8 =>
 kL1 x8 h4 fun x9 =>
 kP (lenV true x9) fun x10 =>
 kBin .add x7 x10 fun x11 =>
 kBin .gtr x11 (qi 16) fun x12 =>
 brS x12 (some ((qb 2), h4)) (kNilc x0 fun x13 =>
 kFA 0 x13 fun x14 =>
 kFA 1 x14 fun x15 =>
 kL1 x15 h4 fun x16 =>
 kCall X 191 [x16, x11] h4 fun x17 h18 =>
 kNilc x0 fun x19 =>
 kFA 0 x19 fun x20 =>
 kFA 0 x20 fun x21 =>
 kS1 x21 qt h18 fun _ h23 =>
 kFA 4 x3 fun x24 =>
 kL1 x24 h23 fun x27 =>
 kP (subsE x17 none (some x27)) fun x28 =>
 kFA 5 x3 fun x29 =>
 kL1 x29 h23 fun x32 =>
 kBin .add x28 x32 fun x33 =>
 kP (subsE x17 (some x11) none) fun x34 =>
 kBin .add x33 x34 fun x35 =>
 kNilc x0 fun x36 =>
 kFA 0 x36 fun x37 =>
 kFA 1 x37 fun x38 =>
 kS1 x38 x35 h23 fun _ h40 =>
 dokS [h23, h40] [] (some ((qb 0), h40))))
theorem p167_ok (k : Nat) : p167 k = funcS k 2 lit167 := by kernel_rfl
def p176 (_ : Nat) : CtxK → List V → TH → R := fun X => ap 1 (fun x0 h1 =>
 kNew (V.cellsR x0) h1 fun x2 h3 =>
 kLA 16 x2 h3 fun x4 =>
 kCall X 127 [x4, (.fn 195 [] [])] h3 fun x5 h6 =>
 some (x5, h6))
theorem p176_ok (k : Nat) : p176 k = funcS k 1 lit176 := by kernel_rfl
def p187 (_ : Nat) : CtxK → List V → TH → R := fun X => ap 2 (fun x0 x1 h2 =>
 kNew (V.cellsR x0) h2 fun x3 h4 =>
 kNew zr0 h4 fun x5 h6 =>
 kLA 49 x3 h6 fun x7 =>
 kCall X 50 [x7] h6 fun x8 h9 =>
 kNot x8 fun x10 =>
 brS x10 (kB zr0 [] fun x11 =>
 kSA 49 x5 x11 h9 fun _ h13 =>
 rsS [.cell 4 true 49, .tmp 5] [x0, x1, x3, u, x5, (qi 10), x10, x7, x8, x10, x11, u, u, u, u, u, u, u, u, u, u, u, u, u, u, u, u, u, u] h13) (kFA 40 x3 fun x14 =>
 kFA 1 x14 fun x15 =>
 kL1 x15 h9 fun x16 =>
 kBin .lss x1 x16 fun x17 =>
 brS x17 (kB zr0 [] fun x18 =>
 kSA 49 x5 x18 h9 fun _ h20 =>
 rsS [.cell 4 true 49, .tmp 5] [x0, x1, x3, u, x5, (qi 80), x10, x7, x8, x10, u, x17, x1, x14, x15, x16, x17, x18, u, u, u, u, u, u, u, u, u, u, u] h20) (kLA 49 x3 h9 fun x21 =>
 kCall X 190 [x21, x1] h9 fun x22 h23 =>
 kBin .lss x22 (qi 0) fun x24 =>
 brS x24 (kB zr0 [] fun x25 =>
 kSA 49 x5 x25 h23 fun _ h27 =>
 rsS [.cell 4 true 49, .tmp 5] [x0, x1, x3, u, x5, (qi 141), x10, x7, x8, x10, u, x17, x1, x14, x15, x16, x17, u, x24, x21, x1, x22, x24, x25, u, u, u, u, u] h27) (kLA 49 x3 h23 fun x30 =>
 kLA 49 x3 h23 fun x33 =>
 kCall X 190 [x33, x1] h23 fun x34 h35 =>
 kCall X 52 [x30, x34] h35 fun x36 h37 =>
 kSA 49 x5 x36 h37 fun _ h39 =>
 dokS [h23, h35, h37, h39] ((fun h28 => kLA 49 x3 h28 fun x29 =>
 some (x29, h28), x30, 0, 1) :: []) (rsS [.cell 4 true 49, .tmp 5] [x0, x1, x3, u, x5, (qi 0), x10, x7, x8, x10, u, x17, x1, x14, x15, x16, x17, u, x24, x21, x1, x22, x24, u, x30, x33, x1, x34, x36] h39)))))
theorem p187_ok (k : Nat) : p187 k = funcS k 2 lit187 := by kernel_rfl
def p188 (k : Nat) : CtxK → List V → TH → R := fun X => ap 2 (fun x0 x1 h2 =>
 kLen x0 fun x3 =>
 lp (α := Cur 19) (zN 19) (fun n24 x4 x5 _ _ _ _ _ x11 x12 _ _ _ _ _ _ _ _ _ _ h23 =>
 kBin .lss x12 x11 fun x25 =>
 brS x25 (kIS 15 x4 x12 fun x26 =>
 kLA 15 x26 h23 fun x27 =>
 kCv X x5 [x27] h23 fun x28 h29 =>
 brS x28 (some (x12, h29)) (kBin .add x12 (qi 1) fun x30 =>
 n24 x4 x5 u u u u u x11 x30 u u u u u u u u u u h29)) (some ((.int .i64 (-1)), h23))) k x0 x1 u u u u u x3 (qi 0) u u u u u u u u u u h2)
theorem p188_ok (k : Nat) : p188 k = funcS k 2 lit188 := by kernel_rfl
def p197 (_ : Nat) : CtxK → List V → TH → R := fun X => ap 2 (fun x0 x1 h2 =>
 kNew (V.cellsR x0) h2 fun x3 h4 =>
 kNew (V.cellsR x1) h4 fun x5 h6 =>
 kL1 x3 h6 fun x7 =>
 kNilc x7 fun x8 =>
 kFA 18 x8 fun x9 =>
 kL1 x9 h6 fun x10 =>
 kCall X 137 [x10, (.fn 203 [] [x5, x3])] h6 fun x11 h12 =>
 kNot x11 fun x13 =>
 some (x13, h12))
theorem p197_ok (k : Nat) : p197 k = funcS k 2 lit197 := by kernel_rfl
def p203 (_ : Nat) : CtxK → List V → TH → R := fun _ => ap 3 (fun x0 x1 x2 h3 =>
 kL1 x1 h3 fun x6 =>
 kEqI false x0 x6 fun x7 =>
 jc (α := V → TH → PD → R) (fun x10 h11 d12 =>
 jc (α := JT) (fun x14 h15 =>
 jc (α := JT) (fun x17 h18 =>
 jc (α := JT) (fun x20 h21 =>
 jc (α := JT) (fun x23 h24 =>
 jc (α := JT) (fun x26 h27 =>
 jc (α := JT) (fun x29 h30 =>
 jc (α := V → TH → PD → R) (fun x34 h35 d36 =>
 jc (α := V → TH → PD → R) (fun x40 h41 d42 =>
 jc (α := V → TH → PD → R) (fun x46 h47 d48 =>
 jc (α := JT) (fun x50 h51 =>
 jc (α := JT) (fun x53 h54 =>
 jc (α := JT) (fun x56 h57 =>
 jc (α := JT) (fun x59 h60 =>
 jc (α := JT) (fun x62 h63 =>
 jc (α := V → TH → PD → R) (fun x67 h68 d69 =>
 jc (α := JT) (fun x71 h72 =>
 kPick x7 qt x71 fun x74 =>
 dokS [h72] d69 (some (x74, h72))) fun j73 =>
 wtS x7 false (kEqI false x34 x67 fun x75 =>
 j73 x75 h68) (j73 u h68)) fun j70 =>
 wtS x7 false (kL1 x62 h63 fun x76 =>
 j70 x76 h63 d48) (j70 u h63 d48)) fun j64 =>
 wtS x7 false (kFA 2 x59 fun x77 =>
 j64 x77 h60) (j64 u h60)) fun j61 =>
 wtS x7 false (kIA 5 3 x56 x46 fun x78 =>
 j61 x78 h57) (j61 u h57)) fun j58 =>
 wtS x7 false (kFA 1 x53 fun x79 =>
 j58 x79 h54) (j58 u h54)) fun j55 =>
 wtS x7 false (kFA 0 x50 fun x80 =>
 j55 x80 h51) (j55 u h51)) fun j52 =>
 wtS x7 false (kNilc x40 fun x81 =>
 j52 x81 h47) (j52 u h47)) fun j49 =>
 wtS x7 false (kL1 x1 h41 fun x82 =>
 j49 x82 h41 d42) (j49 u h41 d42)) fun j43 =>
 wtS x7 false (kL1 x2 h35 fun x83 =>
 j43 x83 h35 d36) (j43 u h35 d36)) fun j37 =>
 wtS x7 false (kL1 x29 h30 fun x84 =>
 j37 x84 h30 d12) (j37 u h30 d12)) fun j31 =>
 wtS x7 false (kFA 2 x26 fun x85 =>
 j31 x85 h27) (j31 u h27)) fun j28 =>
 wtS x7 false (kIA 5 3 x23 x14 fun x86 =>
 j28 x86 h24) (j28 u h24)) fun j25 =>
 wtS x7 false (kFA 1 x20 fun x87 =>
 j25 x87 h21) (j25 u h21)) fun j22 =>
 wtS x7 false (kFA 0 x17 fun x88 =>
 j22 x88 h18) (j22 u h18)) fun j19 =>
 wtS x7 false (kNilc x10 fun x89 =>
 j19 x89 h15) (j19 u h15)) fun j16 =>
 wtS x7 false (j16 x0 h11) (j16 u h11)) fun j13 =>
 wtS x7 false (kL1 x2 h3 fun x90 =>
 j13 x90 h3 []) (j13 u h3 []))
theorem p203_ok (k : Nat) : p203 k = funcS k 3 lit203 := by kernel_rfl
def p211 (_ : Nat) : CtxK → List V → TH → R := fun X => ap 2 (fun x0 x1 h2 =>
 kP (minE true x1 (qi 1)) fun x3 =>
 kP (minE false x3 (qi 16)) fun x4 =>
 kBin .rem x0 (qw 65536) fun x5 =>
 kBin .add x5 (qw 1) fun x6 =>
 kCall X 222 [x6] h2 fun x7 h8 =>
 kBin .sub (qi 1048576) x7 fun x9 =>
 kBin .mul x9 (qi 4096) fun x10 =>
 kBin .quo x10 x4 fun x11 =>
 kP (unE .neg x11) fun x12 =>
 some (x12, h8))
theorem p211_ok (k : Nat) : p211 k = funcS k 2 lit211 := by kernel_rfl
def p212 (_ : Nat) : CtxK → List V → TH → R := fun X => ap 3 (fun x0 x1 x2 h3 =>
 kConv .u64 x0 fun x4 =>
 kCall X 82 [x4] h3 fun x5 h6 =>
 kConv .u64 x1 fun x7 =>
 kBin .add x5 x7 fun x8 =>
 kCall X 82 [x8] h6 fun x9 h10 =>
 kConv .u64 x2 fun x11 =>
 kBin .add x9 x11 fun x12 =>
 kCall X 82 [x12] h10 fun x13 h14 =>
 kConv .u32 x13 fun x15 =>
 some (x15, h14))
theorem p212_ok (k : Nat) : p212 k = funcS k 3 lit212 := by kernel_rfl
end
end Go.PE
