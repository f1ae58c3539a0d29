/- The same functions with names for their slots (part 1 of 4), printed by a program of our own: each is what the evaluator's law says of the literal. -/
import Derived.Test.YtcgjkbnijnefjaaGreatDoorSrL3
import Derived.KernelRfl
namespace Go.PE
set_option maxRecDepth 100000
noncomputable section
def p8 (_ : Nat) : CtxK → List V → TH → R := fun X => ap 0 (fun  h0 =>
 kCall X 29 [] h0 fun x1 h2 =>
 kCall X 12 [x1, (qb 0)] h2 fun x3 h4 =>
 kLen x3 fun x5 =>
 kEqI true x5 (qi 3) fun x6 =>
 brS x6 (some (qf, h4)) (kIS 1 x3 (qi 0) fun x7 =>
 kL1 x7 h4 fun x10 =>
 kB zr0 [] fun x11 =>
 kIS 1 x3 (qi 1) fun x12 =>
 kL1 x12 h4 fun x15 =>
 kB zr0 [] fun x16 =>
 kCall X 24 [x10, (qb 0), x11] h4 fun x17 h18 =>
 kCall X 24 [x15, (qb 0), x16] h18 fun x19 h20 =>
 dokS [h4, h18, h20] ((fun h13 => kL1 x12 h13 fun x14 =>
 some (x14, h13), x15, 0, 1) :: []) (kEq' false (.nilR .ptr) x17 .nilptr fun x21 =>
 jc (α := JT) (fun x22 h23 =>
 jc (α := JT) (fun x25 h26 =>
 kPick x21 qt x25 fun x28 =>
 brS x28 (some (qf, h26)) (kCall X 25 [x17, x1] h26 fun x29 h30 =>
 kCall X 25 [x19, x1] h30 fun x31 h32 =>
 kLen x29 fun x33 =>
 kEqI false x33 (qi 4) fun x34 =>
 jc (α := JT) (fun x35 h36 =>
 jc (α := JT) (fun x38 h39 =>
 jc (α := JT) (fun x41 h42 =>
 jc (α := JT) (fun x44 h45 =>
 jc (α := JT) (fun x47 h48 =>
 kPick x34 x47 qf fun x50 =>
 jc (α := JT) (fun x51 h52 =>
 jc (α := JT) (fun x54 h55 =>
 jc (α := JT) (fun x57 h58 =>
 kPick x50 x57 qf fun x60 =>
 jc (α := JT) (fun x61 h62 =>
 jc (α := JT) (fun x64 h65 =>
 jc (α := JT) (fun x67 h68 =>
 kPick x60 x67 qf fun x70 =>
 jc (α := JT) (fun x71 h72 =>
 jc (α := JT) (fun x74 h75 =>
 jc (α := JT) (fun x77 h78 =>
 kPick x70 x77 qf fun x80 =>
 jc (α := JT) (fun x81 h82 =>
 jc (α := JT) (fun x84 h85 =>
 jc (α := JT) (fun x87 h88 =>
 kPick x80 x87 qf fun x90 =>
 jc (α := JT) (fun x91 h92 =>
 jc (α := JT) (fun x94 h95 =>
 jc (α := JT) (fun x97 h98 =>
 jc (α := JT) (fun x100 h101 =>
 kPick x90 x100 qf fun x103 =>
 jc (α := JT) (fun x104 h105 =>
 jc (α := JT) (fun x107 h108 =>
 jc (α := JT) (fun x110 h111 =>
 kPick x103 x110 qf fun x113 =>
 some (x113, h111)) fun j112 =>
 wtS x103 true (kEqI false x107 (qi 0) fun x114 =>
 j112 x114 h108) (j112 u h108)) fun j109 =>
 wtS x103 true (kCall X 32 [x104] h105 fun x115 h116 =>
 j109 x115 h116) (j109 u h105)) fun j106 =>
 wtS x103 true (j106 x17 h101) (j106 u h101)) fun j102 =>
 wtS x90 true (kEqI false x97 (qi 2) fun x117 =>
 j102 x117 h98) (j102 u h98)) fun j99 =>
 wtS x90 true (kLen x94 fun x118 =>
 j99 x118 h95) (j99 u h95)) fun j96 =>
 wtS x90 true (kCall X 31 [x91] h92 fun x119 h120 =>
 j96 x119 h120) (j96 u h92)) fun j93 =>
 wtS x90 true (j93 x17 h88) (j93 u h88)) fun j89 =>
 wtS x80 true (kEqI false x84 (qw 1) fun x121 =>
 j89 x121 h85) (j89 u h85)) fun j86 =>
 wtS x80 true (kCall X 30 [x81] h82 fun x122 h123 =>
 j86 x122 h123) (j86 u h82)) fun j83 =>
 wtS x80 true (j83 x17 h78) (j83 u h78)) fun j79 =>
 wtS x70 true (kEqI false x74 (qi 1) fun x124 =>
 j79 x124 h75) (j79 u h75)) fun j76 =>
 wtS x70 true (kCall X 26 [x71] h72 fun x125 h126 =>
 j76 x125 h126) (j76 u h72)) fun j73 =>
 wtS x70 true (j73 x19 h68) (j73 u h68)) fun j69 =>
 wtS x60 true (kEqI false x64 (qi 2) fun x127 =>
 j69 x127 h65) (j69 u h65)) fun j66 =>
 wtS x60 true (kCall X 26 [x61] h62 fun x128 h129 =>
 j66 x128 h129) (j66 u h62)) fun j63 =>
 wtS x60 true (j63 x17 h58) (j63 u h58)) fun j59 =>
 wtS x50 true (kEqI false x54 (qi 0) fun x130 =>
 j59 x130 h55) (j59 u h55)) fun j56 =>
 wtS x50 true (kLen x51 fun x131 =>
 j56 x131 h52) (j56 u h52)) fun j53 =>
 wtS x50 true (j53 x31 h48) (j53 u h48)) fun j49 =>
 wtS x34 true (kEqI false x44 (qb 7) fun x132 =>
 j49 x132 h45) (j49 u h45)) fun j46 =>
 wtS x34 true (kL1 x41 h42 fun x133 =>
 j46 x133 h42) (j46 u h42)) fun j43 =>
 wtS x34 true (kFA 0 x38 fun x134 =>
 j43 x134 h39) (j43 u h39)) fun j40 =>
 wtS x34 true (kIS 131 x35 (qi 0) fun x135 =>
 j40 x135 h36) (j40 u h36)) fun j37 =>
 wtS x34 true (j37 x29 h32) (j37 u h32))) fun j27 =>
 wtS x21 false (kEq' false (.nilR .ptr) x22 .nilptr fun x136 =>
 j27 x136 h23) (j27 u h23)) fun j24 =>
 wtS x21 false (j24 x19 h20) (j24 u h20))))
theorem p8_ok (k : Nat) : p8 k = funcS k 0 lit8 := by kernel_rfl
def p11 (k : Nat) : CtxK → List V → TH → R := fun X => ap 1 (fun x0 h1 =>
 lp (α := Cur 24) (zN 24) (fun n27 x2 _ _ x5 _ _ _ _ _ _ _ _ _ _ _ _ _ _ _ _ _ _ _ _ h26 =>
 kBin .lss x5 (qi 3000) fun x28 =>
 jc (α := JT) (fun x29 h30 =>
 jc (α := JT) (fun x32 h33 =>
 jc (α := JT) (fun x35 h36 =>
 jc (α := JT) (fun x38 h39 =>
 jc (α := JT) (fun x41 h42 =>
 jc (α := JT) (fun x44 h45 =>
 kPick x28 x44 qf fun x47 =>
 brS x47 (kCall X 18 [x2, (qi 0)] h45 fun _ h49 =>
 kBin .add x5 (qi 1) fun x50 =>
 n27 x2 u u x50 u u u u u u u u u u u u u u u u u u u u h49) (kNilc x2 fun x51 =>
 kFA 7 x51 fun x52 =>
 kL1 x52 h45 fun x53 =>
 kLen x53 fun x54 =>
 kEqI false x54 (qi 0) fun x55 =>
 some (x55, h45))) fun j46 =>
 wtS x28 true (kBin .gtr x41 (qi 0) fun x56 =>
 j46 x56 h42) (j46 u h42)) fun j43 =>
 wtS x28 true (kLen x38 fun x57 =>
 j43 x57 h39) (j43 u h39)) fun j40 =>
 wtS x28 true (kL1 x35 h36 fun x58 =>
 j40 x58 h36) (j40 u h36)) fun j37 =>
 wtS x28 true (kFA 7 x32 fun x59 =>
 j37 x59 h33) (j37 u h33)) fun j34 =>
 wtS x28 true (kNilc x29 fun x60 =>
 j34 x60 h30) (j34 u h30)) fun j31 =>
 wtS x28 true (j31 x2 h26) (j31 u h26)) k x0 u u (qi 0) u u u u u u u u u u u u u u u u u u u u h1)
theorem p11_ok (k : Nat) : p11 k = funcS k 1 lit11 := by kernel_rfl
def p13 (_ : Nat) : CtxK → List V → TH → R := fun X => ap 1 (fun x0 h1 =>
 kNew zr0 h1 fun x2 h3 =>
 kNilc x0 fun x4 =>
 kFA 3 x4 fun x5 =>
 kLA 49 x5 h3 fun x6 =>
 kCall X 36 [x6] h3 fun x7 h8 =>
 kSA 49 x2 x7 h8 fun _ h10 =>
 rsS [.cell 2 true 49] [x0, u, x2, x0, x4, x5, x6, x7] h10)
theorem p13_ok (k : Nat) : p13 k = funcS k 1 lit13 := by kernel_rfl
def p14 (_ : Nat) : CtxK → List V → TH → R := fun X => ap 3 (fun x0 x1 x2 h3 =>
 kNew (V.cellsR x2) h3 fun x4 h5 =>
 kFA 0 x4 fun x6 =>
 kL1 x6 h5 fun x7 =>
 kCall X 37 [x0, x7] h5 fun x8 h9 =>
 kEq' false (.nilR .fn) x8 .nilfn fun x10 =>
 jc (α := V → TH → PD → R) (fun x13 h14 d15 =>
 jc (α := JT) (fun x17 h18 =>
 jc (α := JT) (fun x20 h21 =>
 kPick x10 qt x20 fun x23 =>
 jc (α := JT) (fun x24 h25 =>
 jc (α := V → TH → PD → R) (fun x29 h30 d31 =>
 jc (α := JT) (fun x33 h34 =>
 jc (α := JT) (fun x36 h37 =>
 jc (α := JT) (fun x39 h40 =>
 jc (α := V → TH → PD → R) (fun x44 h45 d46 =>
 jc (α := JT) (fun x48 h49 =>
 jc (α := JT) (fun x51 h52 =>
 jc (α := JT) (fun x54 h55 =>
 kPick x23 qt x54 fun x57 =>
 dokS [h14, h55] d46 (brS x57 (some (.nils, h55)) (kFA 0 x4 fun x58 =>
 kL1 x58 h55 fun x59 =>
 kEqI false x59 (qb 15) fun x60 =>
 jc (α := Cur 62) (fun _ x62 _ _ _ x66 _ x68 _ _ _ _ _ _ _ _ _ _ _ _ _ _ _ _ _ _ _ _ _ _ _ _ _ _ _ _ _ _ _ _ _ _ _ _ _ _ _ _ _ _ _ _ _ _ _ _ _ _ _ _ _ _ h123 =>
 kLA 131 x66 h123 fun x125 =>
 kCv X x68 [x62, x125] h123 fun x126 h127 =>
 some (x126, h127)) fun j124 =>
 brS x60 (kFA 123 x4 fun x128 =>
 kFA 3 x128 fun x129 =>
 kL1 x129 h55 fun x132 =>
 kNilc x0 fun x133 =>
 kFA 2 x133 fun x134 =>
 kL1 x134 h55 fun x137 =>
 kCall X 39 [x132] h55 fun x138 h139 =>
 kEqI true x138 x137 fun x140 =>
 dokS [h55, h139] ((fun h135 => kL1 x134 h135 fun x136 =>
 some (x136, h135), x137, 0, 1) :: []) (brS x140 (some (.nils, h139)) (j124 u x1 u u u x4 u x8 u u u u u u u u u u u u u u u u u u u u u u u u u u u u u u u u u u u u u u u u u u u u u u u u u u u u u u h139))) (kFA 12 x4 fun x141 =>
 kL1 x141 h55 fun x144 =>
 kNilc x0 fun x145 =>
 kFA 2 x145 fun x146 =>
 kL1 x146 h55 fun x149 =>
 kEqI true x144 x149 fun x150 =>
 jc (α := JT) (fun x151 h152 =>
 jc (α := V → TH → PD → R) (fun x156 h157 d158 =>
 jc (α := JT) (fun x160 h161 =>
 jc (α := JT) (fun x163 h164 =>
 jc (α := JT) (fun x166 h167 =>
 jc (α := V → TH → PD → R) (fun x171 h172 d173 =>
 jc (α := JT) (fun x175 h176 =>
 kPick x150 qt x175 fun x178 =>
 dokS [h176] d173 (brS x178 (some (.nils, h176)) (j124 u x1 u u u x4 u x8 u u u u u u u u u u u u u u u u u u u u u u u u u u u u u u u u u u u u u u u u u u u u u u u u u u u u u u h176))) fun j177 =>
 wtS x150 false (kEqI true x156 x171 fun x179 =>
 j177 x179 h172) (j177 u h172)) fun j174 =>
 wtS x150 false (kL1 x166 h167 fun x180 =>
 j174 x180 h167 d158) (j174 u h167 d158)) fun j168 =>
 wtS x150 false (kFA 52 x163 fun x181 =>
 j168 x181 h164) (j168 u h164)) fun j165 =>
 wtS x150 false (kNilc x160 fun x182 =>
 j165 x182 h161) (j165 u h161)) fun j162 =>
 wtS x150 false (j162 x0 h157) (j162 u h157)) fun j159 =>
 wtS x150 false (kL1 x151 h152 fun x183 =>
 j159 x183 h152 []) (j159 u h152 [])) fun j153 =>
 wtS x150 false (kFA 3 x4 fun x184 =>
 j153 x184 h55) (j153 u h55))))) fun j56 =>
 wtS x23 false (kEqI true x29 x51 fun x185 =>
 j56 x185 h52) (j56 u h52)) fun j53 =>
 wtS x23 false (kBin .add (qb 10) x48 fun x186 =>
 j53 x186 h49) (j53 u h49)) fun j50 =>
 wtS x23 false (kConv .u8 x44 fun x187 =>
 j50 x187 h45) (j50 u h45)) fun j47 =>
 wtS x23 false (kL1 x39 h40 fun x188 =>
 j47 x188 h40 d31) (j47 u h40 d31)) fun j41 =>
 wtS x23 false (kFA 0 x36 fun x189 =>
 j41 x189 h37) (j41 u h37)) fun j38 =>
 wtS x23 false (kNilc x33 fun x190 =>
 j38 x190 h34) (j38 u h34)) fun j35 =>
 wtS x23 false (j35 x0 h30) (j35 u h30)) fun j32 =>
 wtS x23 false (kL1 x24 h25 fun x191 =>
 j32 x191 h25 d15) (j32 u h25 d15)) fun j26 =>
 wtS x23 false (kFA 2 x4 fun x192 =>
 j26 x192 h21) (j26 u h21)) fun j22 =>
 wtS x10 false (kNot x17 fun x193 =>
 j22 x193 h18) (j22 u h18)) fun j19 =>
 wtS x10 false (kCall X 38 [x13] h14 fun x194 h195 =>
 j19 x194 h195) (j19 u h14)) fun j16 =>
 wtS x10 false (kLA 131 x4 h9 fun x196 =>
 j16 x196 h9 []) (j16 u h9 []))
theorem p14_ok (k : Nat) : p14 k = funcS k 3 lit14 := by kernel_rfl
def p36 (_ : Nat) : CtxK → List V → TH → R := fun _ => ap 1 (fun x0 h1 =>
 kNew (V.cellsR x0) h1 fun x2 h3 =>
 kNew zr0 h3 fun x4 h5 =>
 kFA 48 x2 fun x6 =>
 kL1 x6 h5 fun x7 =>
 kLen x7 fun x8 =>
 kMS 8 40 zr3 x8 x8 h5 fun x9 h10 =>
 kFA 48 x2 fun x11 =>
 kL1 x11 h10 fun x12 =>
 kCo 8 x9 x12 h10 fun x13 h14 =>
 kFA 48 x2 fun x15 =>
 kS1 x15 x9 h14 fun _ h17 =>
 kLA 49 x2 h17 fun x18 =>
 kSA 49 x4 x18 h17 fun _ h20 =>
 rsS [.cell 2 true 49] [x0, x2, x4, x9, x6, x7, x8, x9, x9, x11, x12, x13, x9, x15, x18] h20)
theorem p36_ok (k : Nat) : p36 k = funcS k 1 lit36 := by kernel_rfl
def p39 (_ : Nat) : CtxK → List V → TH → R := fun X => ap 1 (fun x0 h1 =>
 kConv .u64 x0 fun x2 =>
 kCall X 82 [x2] h1 fun x3 h4 =>
 kBin .rem x3 (.int .u64 4) fun x5 =>
 kConv .u8 x5 fun x6 =>
 some (x6, h4))
theorem p39_ok (k : Nat) : p39 k = funcS k 1 lit39 := by kernel_rfl
def p43 (_ : Nat) : CtxK → List V → TH → R := fun X => ap 1 (fun x0 h1 =>
 kCall X 58 [x0] h1 fun x2 h3 =>
 kCall X 87 [x0, x2] h3 fun x4 h5 =>
 kExt x4 0 fun x6 =>
 kExt x4 1 fun _ =>
 kNew zr4 h5 fun x8 h9 =>
 kSA 16 x8 x6 h9 fun _ h11 =>
 kLA 16 x8 h11 fun x12 =>
 kCall X 88 [x12] h11 fun x13 h14 =>
 some (x13, h14))
theorem p43_ok (k : Nat) : p43 k = funcS k 1 lit43 := by kernel_rfl
def p44 (_ : Nat) : CtxK → List V → TH → R := fun X => ap 2 (fun x0 x1 h2 =>
 kNew zr1 h2 fun x3 h4 =>
 kCall X 89 [x0, (qb 7), x1] h4 fun x5 h6 =>
 kSA 131 x3 x5 h6 fun _ h8 =>
 rsS [.cell 4 true 131] [x0, x1, u, u, x3, x0, x1, x5] h8)
theorem p44_ok (k : Nat) : p44 k = funcS k 2 lit44 := by kernel_rfl
def p52 (k : Nat) : CtxK → List V → TH → R := fun X => ap 2 (fun x0 x1 h2 =>
 kNew (V.cellsR x0) h2 fun x3 h4 =>
 kNew zr0 h4 fun x5 h6 =>
 kFA 48 x3 fun x7 =>
 kL1 x7 h6 fun x8 =>
 kP (sliceE 8 x8 none (some x1)) fun x9 =>
 kLen x9 fun x10 =>
 lp (α := Cur 39) (zN 39) (fun n51 x11 x12 x13 x14 x15 x16 x17 x18 x19 x20 x21 x22 x23 _ x25 x26 x27 x28 x29 x30 x31 x32 x33 x34 x35 x36 x37 x38 x39 x40 x41 x42 _ _ _ _ _ _ _ h50 =>
 kBin .lss x23 x22 fun x52 =>
 brS x52 (kIS 8 x21 x23 fun x53 =>
 kLA 8 x53 h50 fun x54 =>
 kNew zr3 h50 fun x55 h56 =>
 kSA 8 x55 x54 h56 fun _ h58 =>
 kFA 1 x13 fun x59 =>
 kLA 39 x59 h58 fun x60 =>
 kFA 2 x55 fun x61 =>
 kLA 6 x61 h58 fun x62 =>
 kCall X 93 [x60, x62] h58 fun x63 h64 =>
 kExt x63 0 fun x65 =>
 kExt x63 1 fun _ =>
 kFA 1 x13 fun x67 =>
 kSA 39 x67 x65 h64 fun _ h69 =>
 kFA 0 x55 fun x70 =>
 kL1 x70 h69 fun x71 =>
 kFA 1 x55 fun x72 =>
 kL1 x72 h69 fun x73 =>
 kB zr3 [(0, 1, x71), (1, 1, x73)] fun x74 =>
 kFA 40 x13 fun x75 =>
 kSA 8 x75 x74 h69 fun _ h77 =>
 kBin .add x23 (qi 1) fun x78 =>
 n51 u x12 x13 u x15 u u u u u x21 x22 x78 u u u u u u u u u u u u u u u u u u u u u u u u u u h77) (kFA 48 x13 fun x79 =>
 kL1 x79 h50 fun x80 =>
 kP (sliceE 8 x80 (some x12) none) fun x81 =>
 kCall X 94 [x81] h50 fun x82 h83 =>
 kFA 48 x13 fun x84 =>
 kS1 x84 x82 h83 fun _ h86 =>
 kLA 49 x13 h86 fun x87 =>
 kSA 49 x15 x87 h86 fun _ h89 =>
 rsS [.cell 4 true 49] [x11, x12, x13, x14, x15, x16, x17, x18, x19, x20, x21, x22, x23, x52, x25, x26, x27, x28, x29, x30, x31, x32, x33, x34, x35, x36, x37, x38, x39, x40, x41, x42, x79, x80, x12, x81, x82, x84, x87] h89)) k u x1 x3 u x5 u u u u u x9 x10 (qi 0) u u u u u u u u u u u u u u u u u u u u u u u u u u h6)
theorem p52_ok (k : Nat) : p52 k = funcS k 2 lit52 := by kernel_rfl
def p54 (_ : Nat) : CtxK → List V → TH → R := fun X => ap 2 (fun x0 x1 h2 =>
 kCall X 95 [x0, x1] h2 fun x3 h4 =>
 kBin .geq x3 (qi 0) fun x5 =>
 some (x5, h4))
theorem p54_ok (k : Nat) : p54 k = funcS k 2 lit54 := by kernel_rfl
def p60 (k : Nat) : CtxK → List V → TH → R := fun _ => ap 0 (fun  h0 =>
 kNew zr4 h0 fun x1 h2 =>
 kB zr4 [(0, 1, (qw 1))] fun x3 =>
 kNew zr4 h2 fun x4 h5 =>
 kSA 16 x4 x3 h5 fun _ h7 =>
 lp (α := Cur 16) (zN 16) (fun n25 x8 x9 x10 x11 x12 _ x14 x15 x16 x17 x18 x19 x20 x21 x22 _ h24 =>
 kBin .lss x12 (qi 5) fun x26 =>
 brS x26 (kBin .rem x12 (qi 4) fun x27 =>
 kConv .u8 x27 fun x28 =>
 kB [qf, (qi 0), (qb 0)] [(0, 1, qt), (1, 1, (qi 8)), (2, 1, x28)] fun x29 =>
 kFA 1 x9 fun x30 =>
 kIA 5 3 x30 x12 fun x31 =>
 kSA 3 x31 x29 h24 fun _ h33 =>
 kBin .add x12 (qi 1) fun x34 =>
 n25 x8 x9 u u x34 u u u u u u u u u u u h33) (kLA 16 x9 h24 fun x35 =>
 kSA 16 x8 x35 h24 fun _ h37 =>
 rsS [.cell 0 true 16] [x8, x9, x10, x11, x12, x26, x14, x15, x16, x17, x18, x19, x20, x21, x22, x35] h37)) k x1 x4 u u (qi 0) u u u u u u u u u u u h7)
theorem p60_ok (k : Nat) : p60 k = funcS k 0 lit60 := by kernel_rfl
def p61 (_ : Nat) : CtxK → List V → TH → R := fun X => ap 1 (fun x0 h1 =>
 kLen x0 fun x2 =>
 kConv .u64 x2 fun x3 =>
 kCall X 103 [x3] h1 fun x4 h5 =>
 kCall X 102 [x0, (qi 0), x2, x4] h5 fun _ h7 =>
 some (.tup [], h7))
theorem p61_ok (k : Nat) : p61 k = funcS k 1 lit61 := by kernel_rfl
def p80 (_ : Nat) : CtxK → List V → TH → R := fun _ => ap 1 (fun x0 h1 =>
 kNew (V.cellsR x0) h1 fun x2 h3 =>
 kFA 0 x2 fun x4 =>
 kL1 x4 h3 fun x5 =>
 kEqI true x5 (qb 17) fun x6 =>
 jc (α := JT) (fun x7 h8 =>
 jc (α := JT) (fun x10 h11 =>
 jc (α := JT) (fun x13 h14 =>
 kPick x6 qt x13 fun x16 =>
 some (x16, h14)) fun j15 =>
 wtS x6 false (kBin .lss x10 (qw 5) fun x17 =>
 j15 x17 h11) (j15 u h11)) fun j12 =>
 wtS x6 false (kL1 x7 h8 fun x18 =>
 j12 x18 h8) (j12 u h8)) fun j9 =>
 wtS x6 false (kFA 122 x2 fun x19 =>
 j9 x19 h3) (j9 u h3))
theorem p80_ok (k : Nat) : p80 k = funcS k 1 lit80 := by kernel_rfl
def p83 (_ : Nat) : CtxK → List V → TH → R := fun X => ap 1 (fun x0 h1 =>
 kCall X 124 [x0] h1 fun x2 h3 =>
 kCall X 61 [x2] h3 fun _ h5 =>
 some (x2, h5))
theorem p83_ok (k : Nat) : p83 k = funcS k 1 lit83 := by kernel_rfl
def p89 (_ : Nat) : CtxK → List V → TH → R := fun _ => ap 3 (fun x0 x1 x2 h3 =>
 kNew zr1 h3 fun x4 h5 =>
 kNilc x0 fun x6 =>
 kFA 0 x6 fun x7 =>
 kL1 x7 h5 fun x10 =>
 kConv .u8 x10 fun x11 =>
 kBin .add (qb 10) x11 fun x12 =>
 kConv .u8 x2 fun x13 =>
 kBin .add (qb 10) x13 fun x14 =>
 kNilc x0 fun x15 =>
 kFA 52 x15 fun x16 =>
 kL1 x16 h5 fun x19 =>
 kNilc x0 fun x20 =>
 kFA 2 x20 fun x21 =>
 kL1 x21 h5 fun x24 =>
 kB zr1 [(0, 1, x1), (1, 1, x12), (2, 1, x14), (3, 1, x19), (12, 1, x24)] fun x25 =>
 kSA 131 x4 x25 h5 fun _ h27 =>
 dokS [h5, h27] [] (rsS [.cell 6 true 131] [x0, x1, x2, u, u, u, x4, x1, x0, x6, x7, x10, x11, x12, x2, x13, x14, x0, x15, x16, x19, x0, x20, x21, x24, x25] h27))
theorem p89_ok (k : Nat) : p89 k = funcS k 3 lit89 := by kernel_rfl
def p90 (_ : Nat) : CtxK → List V → TH → R := fun X => ap 2 (fun x0 x1 h2 =>
 kNew (V.cellsR x0) h2 fun x3 h4 =>
 kNew (V.cellsR x1) h4 fun x5 h6 =>
 kNew zr5 h6 fun x7 h8 =>
 kLA 49 x3 h8 fun x9 =>
 kCall X 50 [x9] h8 fun x10 h11 =>
 kNot x10 fun x12 =>
 jc (α := JT) (fun x13 h14 =>
 jc (α := JT) (fun x16 h17 =>
 jc (α := JT) (fun x19 h20 =>
 kPick x12 qt x19 fun x22 =>
 brS x22 (kB zr5 [] fun x23 =>
 kSA 52 x7 x23 h20 fun _ h25 =>
 rsS [.cell 4 true 52] [x0, x1, x3, x5, x7, u, u, x9, x10, x12, x12, x13, x16, x19, x22, x23, u, u, u, u, u, u, u, u, u, u, u, u, u, u, u, u, u, u, u, u, u, u, u, u, u, u, u, u, u, u, u, u, u, u, u] h25) (kLA 49 x3 h20 fun x26 =>
 kNew zr0 h20 fun x27 h28 =>
 kSA 49 x27 x26 h28 fun _ h30 =>
 kFA 0 x5 fun x31 =>
 kL1 x31 h30 fun x32 =>
 kFA 0 x27 fun x33 =>
 kS1 x33 x32 h30 fun _ h35 =>
 kLA 49 x27 h35 fun x36 =>
 kLA 49 x5 h35 fun x37 =>
 kCall X 15 [x36, x37] h35 fun x38 h39 =>
 brS x38 (kLA 49 x5 h39 fun x40 =>
 kCall X 129 [x40] h39 fun x41 h42 =>
 kB zr5 [(0, 1, (qi 0)), (3, 49, x41)] fun x43 =>
 kSA 52 x7 x43 h42 fun _ h45 =>
 rsS [.cell 4 true 52] [x0, x1, x3, x5, x7, x27, u, x9, x10, x12, x12, x13, x16, x19, x22, u, x26, x31, x32, x33, x38, x36, x37, x38, x40, x41, x43, u, u, u, u, u, u, u, u, u, u, u, u, u, u, u, u, u, u, u, u, u, u, u, u] h45) (kLA 49 x3 h39 fun x46 =>
 kLA 49 x5 h39 fun x47 =>
 kCall X 130 [x46, x47] h39 fun x48 h49 =>
 kNot x48 fun x50 =>
 brS x50 (kLA 49 x5 h49 fun x51 =>
 kCall X 36 [x51] h49 fun x52 h53 =>
 kB zr5 [(0, 1, (qi 2)), (3, 49, x52)] fun x54 =>
 kSA 52 x7 x54 h53 fun _ h56 =>
 rsS [.cell 4 true 52] [x0, x1, x3, x5, x7, x27, u, x9, x10, x12, x12, x13, x16, x19, x22, u, x26, x31, x32, x33, x38, x36, x37, x38, u, u, u, x50, x46, x47, x48, x50, x51, x52, x54, u, u, u, u, u, u, u, u, u, u, u, u, u, u, u, u] h56) (kLA 49 x3 h49 fun x57 =>
 kLA 49 x5 h49 fun x58 =>
 kCall X 131 [x57, x58] h49 fun x59 h60 =>
 kFA 48 x5 fun x61 =>
 kL1 x61 h60 fun x64 =>
 kFA 40 x5 fun x65 =>
 kFA 1 x65 fun x66 =>
 kL1 x66 h60 fun x69 =>
 kBin .sub x59 x69 fun x70 =>
 kP (sliceE 8 x64 (some x70) none) fun x71 =>
 kLA 49 x5 h60 fun x74 =>
 kCall X 94 [x71] h60 fun x75 h76 =>
 kCall X 129 [x74] h76 fun x77 h78 =>
 kB zr5 [(0, 1, (qi 1)), (1, 1, x59), (2, 1, x75), (3, 49, x77)] fun x79 =>
 kSA 52 x7 x79 h78 fun _ h81 =>
 dokS [h60, h76, h78, h81] ((fun h72 => kLA 49 x5 h72 fun x73 =>
 some (x73, h72), x74, 0, 1) :: []) (rsS [.cell 4 true 52] [x0, x1, x3, x5, x7, x27, x59, x9, x10, x12, x12, x13, x16, x19, x22, u, x26, x31, x32, x33, x38, x36, x37, x38, u, u, u, x50, x46, x47, x48, x50, u, u, u, x57, x58, x59, x59, x61, x64, x59, x65, x66, x69, x70, x71, x75, x74, x77, x79] h81))))) fun j21 =>
 wtS x12 false (kNot x16 fun x82 =>
 j21 x82 h17) (j21 u h17)) fun j18 =>
 wtS x12 false (kCall X 50 [x13] h14 fun x83 h84 =>
 j18 x83 h84) (j18 u h14)) fun j15 =>
 wtS x12 false (kLA 49 x5 h11 fun x85 =>
 j15 x85 h11) (j15 u h11))
theorem p90_ok (k : Nat) : p90 k = funcS k 2 lit90 := by kernel_rfl
def p94 (_ : Nat) : CtxK → List V → TH → R := fun _ => ap 1 (fun x0 h1 =>
 kEq' false (.nilR .sl) x0 .nils fun x2 =>
 brS x2 (some (.nils, h1)) (kBS 8 zr3 0 [] h1 fun x3 h4 =>
 kAp 8 40 x3 x0 h4 fun x5 h6 =>
 some (x5, h6)))
theorem p94_ok (k : Nat) : p94 k = funcS k 1 lit94 := by kernel_rfl
def p97 (k : Nat) : CtxK → List V → TH → R := fun _ => ap 1 (fun x0 h1 =>
 kLen x0 fun x2 =>
 lp (α := Cur 18) (zN 18) (fun n22 _ _ _ x6 _ _ x9 x10 x11 _ _ _ _ _ _ _ _ _ h21 =>
 kBin .lss x11 x10 fun x23 =>
 brS x23 (kIS 49 x9 x11 fun x24 =>
 kLA 49 x24 h21 fun x25 =>
 kNew zr0 h21 fun x26 h27 =>
 kSA 49 x26 x25 h27 fun _ h29 =>
 kFA 0 x26 fun x30 =>
 kL1 x30 h29 fun x31 =>
 kP (minE true x6 x31) fun x32 =>
 kBin .add x11 (qi 1) fun x33 =>
 n22 u u u x32 u u x9 x10 x33 u u u u u u u u u h29) (some (x6, h21))) k u u u (qw 0) u u x0 x2 (qi 0) u u u u u u u u u h1)
theorem p97_ok (k : Nat) : p97 k = funcS k 1 lit97 := by kernel_rfl
def p107 (_ : Nat) : CtxK → List V → TH → R := fun X => ap 3 (fun x0 x1 x2 h3 =>
 kNew (V.cellsR x2) h3 fun x4 h5 =>
 kNilc x0 fun x6 =>
 kFA 3 x6 fun x7 =>
 kFA 0 x7 fun x8 =>
 kL1 x8 h5 fun x11 =>
 kNilc x0 fun x12 =>
 kFA 52 x12 fun x13 =>
 kL1 x13 h5 fun x16 =>
 kEqI true x11 x16 fun x17 =>
 dokS [h5] [] (brS x17 (some (.nils, h5)) (kLA 131 x4 h5 fun x18 =>
 kCall X 104 [x18] h5 fun x19 h20 =>
 kCall X 89 [x0, x1, x19] h20 fun x21 h22 =>
 kNew zr1 h22 fun x23 h24 =>
 kSA 131 x23 x21 h24 fun _ h26 =>
 kCall X 109 [x0] h26 fun x27 h28 =>
 kFA 122 x23 fun x29 =>
 kS1 x29 x27 h28 fun _ h31 =>
 kLA 131 x23 h31 fun x32 =>
 kBS 131 zr1 1 [(0, 131, x32)] h31 fun x33 h34 =>
 some (x33, h34))))
theorem p107_ok (k : Nat) : p107 k = funcS k 3 lit107 := by kernel_rfl
def p117 (_ : Nat) : CtxK → List V → TH → R := fun _ => ap 1 (fun x0 h1 =>
 kBin .geq x0 (qb 10) fun x2 =>
 jc (α := JT) (fun x3 h4 =>
 jc (α := JT) (fun x6 h7 =>
 kPick x2 x6 qf fun x9 =>
 some (x9, h7)) fun j8 =>
 wtS x2 true (kBin .lss x3 (qb 15) fun x10 =>
 j8 x10 h4) (j8 u h4)) fun j5 =>
 wtS x2 true (j5 x0 h1) (j5 u h1))
theorem p117_ok (k : Nat) : p117 k = funcS k 1 lit117 := by kernel_rfl
def p119 (_ : Nat) : CtxK → List V → TH → R := fun _ => ap 1 (fun x0 h1 =>
 kNew zr2 h1 fun x2 h3 =>
 kB zr2 [(0, 1, qt), (4, 1, qt)] fun x4 =>
 kNew zr2 h3 fun x5 h6 =>
 kSA 11 x5 x4 h6 fun _ h8 =>
 kEqI false x0 (qb 8) fun x9 =>
 jc (α := Cur 24) (fun x10 x11 x12 x13 x14 x15 x16 x17 x18 x19 x20 x21 x22 x23 x24 x25 x26 x27 x28 x29 x30 x31 x32 _ h34 =>
 kLA 11 x13 h34 fun x36 =>
 kSA 11 x12 x36 h34 fun _ h38 =>
 rsS [.cell 2 true 11] [x10, x11, x12, x13, x14, x15, x16, x17, x18, x19, x20, x21, x22, x23, x24, x25, x26, x27, x28, x29, x30, x31, x32, x36] h38) fun j35 =>
 brS x9 (kFA 5 x5 fun x39 =>
 kS1 x39 qt h8 fun _ h41 =>
 j35 u u x2 x5 u u u u u u u u u u u u u u u u u u u u h41) (kEqI false x0 (qb 9) fun x42 =>
 jc (α := Cur 24) (fun _ _ x45 x46 _ _ _ _ _ _ _ _ _ _ _ _ _ _ _ _ _ _ _ _ h67 =>
 j35 u u x45 x46 u u u u u u u u u u u u u u u u u u u u h67) fun j68 =>
 brS x42 (kFA 6 x5 fun x69 =>
 kS1 x69 qt h8 fun _ h71 =>
 j68 u u x2 x5 u u u u u u u u u u u u u u u u u u u u h71) (kEqI false x0 (qb 10) fun x72 =>
 jc (α := Cur 24) (fun _ _ x75 x76 _ x78 _ _ _ _ _ _ x85 _ _ _ _ _ _ _ _ _ _ _ h97 =>
 jc (α := Cur 24) (fun _ _ x101 x102 _ _ _ _ _ _ _ _ _ _ _ _ _ _ _ _ _ _ _ _ h123 =>
 j68 u u x101 x102 u u u u u u u u u u u u u u u u u u u u h123) fun j124 =>
 brS x85 (kFA 8 x76 fun x125 =>
 kS1 x125 qt h97 fun _ h127 =>
 j124 u u x75 x76 u u u u u u u u u u u u u u u u u u u u h127) (kEqI false x78 (qb 11) fun x128 =>
 jc (α := Cur 24) (fun _ _ x131 x132 _ _ _ _ _ _ _ _ _ _ _ _ _ _ _ _ _ _ _ _ h153 =>
 j124 u u x131 x132 u u u u u u u u u u u u u u u u u u u u h153) fun j154 =>
 brS x128 (kFA 7 x76 fun x155 =>
 kS1 x155 qt h97 fun _ h157 =>
 j154 u u x75 x76 u u u u u u u u u u u u u u u u u u u u h157) (kEqI false x78 (qb 13) fun x158 =>
 jc (α := Cur 24) (fun _ _ x161 x162 _ _ _ _ _ _ _ _ _ _ _ _ _ _ _ x178 _ _ _ _ h183 =>
 jc (α := Cur 24) (fun _ _ x187 x188 _ _ _ _ _ _ _ _ _ _ _ _ _ _ _ _ _ _ _ _ h209 =>
 j154 u u x187 x188 u u u u u u u u u u u u u u u u u u u u h209) fun j210 =>
 brS x178 (kFA 9 x162 fun x211 =>
 kS1 x211 qt h183 fun _ h213 =>
 j210 u u x161 x162 u u u u u u u u u u u u u u u u u u u u h213) (j210 u u x161 x162 u u u u u u u u u u u u u u u u u u u u h183)) fun j184 =>
 brS x158 (j184 u u x75 x76 u u u u u u u u u u u u u u u x158 u u u u h97) (kEqI false x78 (qb 14) fun x214 =>
 j184 u u x75 x76 u u u u u u u u u u u u u u u x214 u u u u h97)))) fun j98 =>
 brS x72 (j98 u u x2 x5 u x0 u u u u u u x72 u u u u u u u u u u u h8) (kEqI false x0 (qb 12) fun x215 =>
 j98 u u x2 x5 u x0 u u u u u u x215 u u u u u u u u u u u h8))))
theorem p119_ok (k : Nat) : p119 k = funcS k 1 lit119 := by kernel_rfl
def p120 (_ : Nat) : CtxK → List V → TH → R := fun X => ap 2 (fun x0 x1 h2 =>
 kCall X 163 [x0, x1] h2 fun x3 h4 =>
 kBin .geq x3 (qi 0) fun x5 =>
 some (x5, h4))
theorem p120_ok (k : Nat) : p120 k = funcS k 2 lit120 := by kernel_rfl
def p123 (_ : Nat) : CtxK → List V → TH → R := fun X => ap 1 (fun x0 h1 =>
 kNew (V.cellsR x0) h1 fun x2 h3 =>
 kLA 49 x2 h3 fun x4 =>
 kCall X 50 [x4] h3 fun x5 h6 =>
 jc (α := JT) (fun x7 h8 =>
 jc (α := JT) (fun x10 h11 =>
 jc (α := JT) (fun x13 h14 =>
 jc (α := JT) (fun x16 h17 =>
 jc (α := JT) (fun x19 h20 =>
 jc (α := JT) (fun x22 h23 =>
 jc (α := JT) (fun x25 h26 =>
 kPick x5 x25 qf fun x28 =>
 some (x28, h26)) fun j27 =>
 wtS x5 true (kCall X 15 [x7, x22] h23 fun x29 h30 =>
 j27 x29 h30) (j27 u h23)) fun j24 =>
 wtS x5 true (kB zr0 [(0, 1, x13), (40, 8, x19)] fun x31 =>
 j24 x31 h20) (j24 u h20)) fun j21 =>
 wtS x5 true (kLA 8 x16 h17 fun x32 =>
 j21 x32 h17) (j21 u h17)) fun j18 =>
 wtS x5 true (kFA 40 x2 fun x33 =>
 j18 x33 h14) (j18 u h14)) fun j15 =>
 wtS x5 true (kL1 x10 h11 fun x34 =>
 j15 x34 h11) (j15 u h11)) fun j12 =>
 wtS x5 true (kFA 0 x2 fun x35 =>
 j12 x35 h8) (j12 u h8)) fun j9 =>
 wtS x5 true (kLA 49 x2 h6 fun x36 =>
 j9 x36 h6) (j9 u h6))
theorem p123_ok (k : Nat) : p123 k = funcS k 1 lit123 := by kernel_rfl
def p124 (_ : Nat) : CtxK → List V → TH → R := fun X => ap 1 (fun x0 h1 =>
 kCall X 164 [.nils, x0] h1 fun x2 h3 =>
 some (x2, h3))
theorem p124_ok (k : Nat) : p124 k = funcS k 1 lit124 := by kernel_rfl
def p150 (_ : Nat) : CtxK → List V → TH → R := fun X => ap 2 (fun x0 x1 h2 =>
 kCall X 183 [x0] h2 fun x3 h4 =>
 jc (α := JT) (fun x5 h6 =>
 jc (α := JT) (fun x8 h9 =>
 jc (α := JT) (fun x11 h12 =>
 kPick x3 x11 qf fun x14 =>
 jc (α := JT) (fun x15 h16 =>
 jc (α := JT) (fun x18 h19 =>
 jc (α := JT) (fun x21 h22 =>
 kPick x14 qt x21 fun x24 =>
 some (x24, h22)) fun j23 =>
 wtS x14 false (kBin .lss x15 x18 fun x25 =>
 j23 x25 h19) (j23 u h19)) fun j20 =>
 wtS x14 false (j20 x1 h16) (j20 u h16)) fun j17 =>
 wtS x14 false (j17 x0 h12) (j17 u h12)) fun j13 =>
 wtS x3 true (kNot x8 fun x26 =>
 j13 x26 h9) (j13 u h9)) fun j10 =>
 wtS x3 true (kCall X 183 [x5] h6 fun x27 h28 =>
 j10 x27 h28) (j10 u h6)) fun j7 =>
 wtS x3 true (j7 x1 h4) (j7 u h4))
theorem p150_ok (k : Nat) : p150 k = funcS k 2 lit150 := by kernel_rfl
def p155 (_ : Nat) : CtxK → List V → TH → R := fun X => ap 2 (fun x0 x1 h2 =>
 kNew (V.cellsR x0) h2 fun x3 h4 =>
 kNew (V.cellsR x1) h4 fun x5 h6 =>
 kNew zr0 h6 fun x7 h8 =>
 kLA 49 x3 h8 fun x9 =>
 kCall X 50 [x9] h8 fun x10 h11 =>
 kNot x10 fun x12 =>
 jc (α := JT) (fun x13 h14 =>
 jc (α := JT) (fun x16 h17 =>
 jc (α := JT) (fun x19 h20 =>
 kPick x12 qt x19 fun x22 =>
 jc (α := JT) (fun x23 h24 =>
 jc (α := JT) (fun x26 h27 =>
 jc (α := JT) (fun x29 h30 =>
 kPick x22 qt x29 fun x32 =>
 jc (α := JT) (fun x33 h34 =>
 jc (α := JT) (fun x36 h37 =>
 jc (α := JT) (fun x39 h40 =>
 jc (α := JT) (fun x42 h43 =>
 jc (α := JT) (fun x45 h46 =>
 jc (α := JT) (fun x48 h49 =>
 jc (α := JT) (fun x51 h52 =>
 jc (α := JT) (fun x54 h55 =>
 jc (α := JT) (fun x57 h58 =>
 jc (α := JT) (fun x60 h61 =>
 jc (α := JT) (fun x63 h64 =>
 jc (α := JT) (fun x66 h67 =>
 jc (α := JT) (fun x69 h70 =>
 jc (α := JT) (fun x72 h73 =>
 kPick x32 qt x72 fun x75 =>
 brS x75 (kCv X (.fn 184 [] []) [] h73 fun x76 h77 =>
 kExt x76 0 fun x78 =>
 kExt x76 1 fun x79 =>
 kSA 49 x7 x78 h77 fun _ h81 =>
 rsS [.cell 4 true 49, .tmp 5] [x0, x1, x3, x5, x7, x79, (.fn 184 [] []), u, u, u, u, x9, x10, x12, x12, x13, x16, x19, x22, x22, x23, x26, x29, x32, x32, x33, x36, x39, x42, x45, x48, x51, x54, x57, x60, x63, x66, x69, x72, x75, (.fn 184 [] []), x76, x78, x79, u, u, u, u, u, u, u, u, u, u, u, u, u, u, u, u, u, u, u, u, u, u, u, u, u, u, u, u, u, u, u, u, u, u, u, u, u, u, u, u, u, u, u, u, u, u, u, u, u, u, u, u, u, u, u, u, u, u, u, u, u, u, u, u, u, u, u, u, u, u, u, u, u, u, u, u, u, u, u] h81) (kFA 0 x5 fun x82 =>
 kL1 x82 h73 fun x83 =>
 kEqI false x83 (qi 2) fun x84 =>
 brS x84 (kFA 3 x5 fun x85 =>
 kLA 49 x85 h73 fun x86 =>
 kCall X 50 [x86] h73 fun x87 h88 =>
 kNot x87 fun x89 =>
 brS x89 (kCv X (.fn 184 [] []) [] h88 fun x90 h91 =>
 kExt x90 0 fun x92 =>
 kExt x90 1 fun x93 =>
 kSA 49 x7 x92 h91 fun _ h95 =>
 rsS [.cell 4 true 49, .tmp 5] [x0, x1, x3, x5, x7, x93, (.fn 184 [] []), u, u, u, u, x9, x10, x12, x12, x13, x16, x19, x22, x22, x23, x26, x29, x32, x32, x33, x36, x39, x42, x45, x48, x51, x54, x57, x60, x63, x66, x69, x72, x75, u, u, u, u, x82, x83, x84, x85, x86, x87, x89, (.fn 184 [] []), x90, x92, x93, u, u, u, u, u, u, u, u, u, u, u, u, u, u, u, u, u, u, u, u, u, u, u, u, u, u, u, u, u, u, u, u, u, u, u, u, u, u, u, u, u, u, u, u, u, u, u, u, u, u, u, u, u, u, u, u, u, u, u, u, u, u, u, u, u, u, u, u] h95) (kFA 3 x5 fun x96 =>
 kLA 49 x96 h88 fun x97 =>
 kCall X 36 [x97] h88 fun x98 h99 =>
 kSA 49 x7 x98 h99 fun _ h101 =>
 rsS [.cell 4 true 49, .tmp 5] [x0, x1, x3, x5, x7, (qi 0), (.fn 184 [] []), u, u, u, u, x9, x10, x12, x12, x13, x16, x19, x22, x22, x23, x26, x29, x32, x32, x33, x36, x39, x42, x45, x48, x51, x54, x57, x60, x63, x66, x69, x72, x75, u, u, u, u, x82, x83, x84, x85, x86, x87, x89, u, u, u, u, x96, x97, x98, u, u, u, u, u, u, u, u, u, u, u, u, u, u, u, u, u, u, u, u, u, u, u, u, u, u, u, u, u, u, u, u, u, u, u, u, u, u, u, u, u, u, u, u, u, u, u, u, u, u, u, u, u, u, u, u, u, u, u, u, u, u, u, u, u] h101)) (kLA 49 x3 h73 fun x102 =>
 kNew zr0 h73 fun x103 h104 =>
 kSA 49 x103 x102 h104 fun _ h106 =>
 kFA 0 x5 fun x107 =>
 kL1 x107 h106 fun x108 =>
 kEqI false x108 (qi 1) fun x109 =>
 jc (α := Cur 123) (fun x110 x111 x112 x113 x114 _ x116 x117 x118 x119 _ x121 x122 x123 x124 x125 x126 x127 x128 x129 x130 x131 x132 x133 x134 x135 x136 x137 x138 x139 x140 x141 x142 x143 x144 x145 x146 x147 x148 x149 x150 x151 x152 x153 x154 x155 x156 x157 x158 x159 x160 x161 x162 x163 x164 x165 x166 x167 x168 x169 x170 x171 x172 x173 x174 x175 x176 x177 x178 x179 x180 x181 x182 x183 x184 x185 x186 x187 x188 x189 x190 x191 x192 x193 x194 x195 x196 x197 _ _ _ _ _ _ _ _ _ _ _ _ _ _ _ _ _ _ _ _ _ _ _ _ _ _ _ _ _ _ x228 x229 x230 x231 x232 h233 =>
 kLA 49 x117 h233 fun x235 =>
 kFA 3 x113 fun x236 =>
 kFA 40 x236 fun x237 =>
 kFA 1 x237 fun x238 =>
 kL1 x238 h233 fun x239 =>
 kCall X 187 [x235, x239] h233 fun x240 h241 =>
 kExt x240 0 fun x242 =>
 kExt x240 1 fun x243 =>
 kSA 49 x117 x242 h241 fun _ h245 =>
 kFA 3 x113 fun x246 =>
 kFA 0 x246 fun x247 =>
 kL1 x247 h245 fun x248 =>
 kFA 0 x117 fun x249 =>
 kS1 x249 x248 h245 fun _ h251 =>
 kEqI true x243 (qi 0) fun x252 =>
 jc (α := JT) (fun x253 h254 =>
 jc (α := JT) (fun x256 h257 =>
 jc (α := JT) (fun x259 h260 =>
 jc (α := JT) (fun x262 h263 =>
 jc (α := JT) (fun x265 h266 =>
 jc (α := JT) (fun x268 h269 =>
 jc (α := JT) (fun x271 h272 =>
 jc (α := JT) (fun x274 h275 =>
 kPick x252 qt x274 fun x277 =>
 jc (α := JT) (fun x278 h279 =>
 jc (α := JT) (fun x281 h282 =>
 jc (α := JT) (fun x284 h285 =>
 kPick x277 qt x284 fun x287 =>
 brS x287 (kCv X x116 [] h285 fun x288 h289 =>
 kExt x288 0 fun x290 =>
 kExt x288 1 fun x291 =>
 kSA 49 x114 x290 h289 fun _ h293 =>
 rsS [.cell 4 true 49, .tmp 5] [x110, x111, x112, x113, x114, x291, x116, x117, x118, x119, x243, x121, x122, x123, x124, x125, x126, x127, x128, x129, x130, x131, x132, x133, x134, x135, x136, x137, x138, x139, x140, x141, x142, x143, x144, x145, x146, x147, x148, x149, x150, x151, x152, x153, x154, x155, x156, x157, x158, x159, x160, x161, x162, x163, x164, x165, x166, x167, x168, x169, x170, x171, x172, x173, x174, x175, x176, x177, x178, x179, x180, x181, x182, x183, x184, x185, x186, x187, x188, x189, x190, x191, x192, x193, x194, x195, x196, x197, x240, x235, x236, x237, x238, x239, x240, x242, x243, x246, x247, x248, x249, x243, x252, x252, x253, x256, x259, x262, x265, x268, x271, x274, x277, x277, x278, x281, x284, x287, x116, x288, x290, x291, x232] h293) (kLA 49 x117 h285 fun x294 =>
 kSA 49 x114 x294 h285 fun _ h296 =>
 rsS [.cell 4 true 49, .tmp 5] [x110, x111, x112, x113, x114, (qi 0), x116, x117, x118, x119, x243, x121, x122, x123, x124, x125, x126, x127, x128, x129, x130, x131, x132, x133, x134, x135, x136, x137, x138, x139, x140, x141, x142, x143, x144, x145, x146, x147, x148, x149, x150, x151, x152, x153, x154, x155, x156, x157, x158, x159, x160, x161, x162, x163, x164, x165, x166, x167, x168, x169, x170, x171, x172, x173, x174, x175, x176, x177, x178, x179, x180, x181, x182, x183, x184, x185, x186, x187, x188, x189, x190, x191, x192, x193, x194, x195, x196, x197, x240, x235, x236, x237, x238, x239, x240, x242, x243, x246, x247, x248, x249, x243, x252, x252, x253, x256, x259, x262, x265, x268, x271, x274, x277, x277, x278, x281, x284, x287, x228, x229, x230, x231, x294] h296)) fun j286 =>
 wtS x277 false (kNot x281 fun x297 =>
 j286 x297 h282) (j286 u h282)) fun j283 =>
 wtS x277 false (kCall X 50 [x278] h279 fun x298 h299 =>
 j283 x298 h299) (j283 u h279)) fun j280 =>
 wtS x277 false (kLA 49 x117 h275 fun x300 =>
 j280 x300 h275) (j280 u h275)) fun j276 =>
 wtS x252 false (kEqI true x259 x271 fun x301 =>
 j276 x301 h272) (j276 u h272)) fun j273 =>
 wtS x252 false (kL1 x268 h269 fun x302 =>
 j273 x302 h269) (j273 u h269)) fun j270 =>
 wtS x252 false (kFA 0 x265 fun x303 =>
 j270 x303 h266) (j270 u h266)) fun j267 =>
 wtS x252 false (kFA 40 x262 fun x304 =>
 j267 x304 h263) (j267 u h263)) fun j264 =>
 wtS x252 false (kFA 3 x113 fun x305 =>
 j264 x305 h260) (j264 u h260)) fun j261 =>
 wtS x252 false (kL1 x256 h257 fun x306 =>
 j261 x306 h257) (j261 u h257)) fun j258 =>
 wtS x252 false (kFA 0 x253 fun x307 =>
 j258 x307 h254) (j258 u h254)) fun j255 =>
 wtS x252 false (kFA 40 x117 fun x308 =>
 j255 x308 h251) (j255 u h251)) fun j234 =>
 brS x109 (kLA 49 x3 h106 fun x309 =>
 kFA 1 x5 fun x310 =>
 kL1 x310 h106 fun x311 =>
 kCall X 185 [x309, x311] h106 fun x312 h313 =>
 kExt x312 0 fun x314 =>
 kExt x312 1 fun x315 =>
 kNew zr0 h313 fun x316 h317 =>
 kSA 49 x316 x314 h317 fun _ h319 =>
 kEqI true x315 (qi 0) fun x320 =>
 brS x320 (kCv X (.fn 184 [] []) [] h319 fun x321 h322 =>
 kExt x321 0 fun x323 =>
 kExt x321 1 fun x324 =>
 kSA 49 x7 x323 h322 fun _ h326 =>
 rsS [.cell 4 true 49, .tmp 5] [x0, x1, x3, x5, x7, x324, (.fn 184 [] []), x103, x316, x315, u, x9, x10, x12, x12, x13, x16, x19, x22, x22, x23, x26, x29, x32, x32, x33, x36, x39, x42, x45, x48, x51, x54, x57, x60, x63, x66, x69, x72, x75, u, u, u, u, x82, x83, x84, u, u, u, u, u, u, u, u, u, u, u, x102, x107, x108, x109, x312, x309, x310, x311, x312, x314, x315, x315, x320, (.fn 184 [] []), x321, x323, x324, u, u, u, u, u, u, u, u, u, u, u, u, u, u, u, u, u, u, u, u, u, u, u, u, u, u, u, u, u, u, u, u, u, u, u, u, u, u, u, u, u, u, u, u, u, u, u, u] h326) (kLA 49 x316 h319 fun x327 =>
 kFA 2 x5 fun x328 =>
 kL1 x328 h319 fun x329 =>
 kCall X 186 [x327, x329] h319 fun x330 h331 =>
 kExt x330 0 fun x332 =>
 kExt x330 1 fun x333 =>
 kSA 49 x103 x332 h331 fun _ h335 =>
 kEqI true x333 (qi 0) fun x336 =>
 brS x336 (kCv X (.fn 184 [] []) [] h335 fun x337 h338 =>
 kExt x337 0 fun x339 =>
 kExt x337 1 fun x340 =>
 kSA 49 x7 x339 h338 fun _ h342 =>
 rsS [.cell 4 true 49, .tmp 5] [x0, x1, x3, x5, x7, x340, (.fn 184 [] []), x103, x316, x333, u, x9, x10, x12, x12, x13, x16, x19, x22, x22, x23, x26, x29, x32, x32, x33, x36, x39, x42, x45, x48, x51, x54, x57, x60, x63, x66, x69, x72, x75, u, u, u, u, x82, x83, x84, u, u, u, u, u, u, u, u, u, u, u, x102, x107, x108, x109, x312, x309, x310, x311, x312, x314, x315, x315, x320, u, u, u, u, x330, x327, x328, x329, x330, x332, x333, x333, x336, (.fn 184 [] []), x337, x339, x340, u, u, u, u, u, u, u, u, u, u, u, u, u, u, u, u, u, u, u, u, u, u, u, u, u, u, u, u, u, u, u, u, u, u, u] h342) (j234 u u u x5 x7 u (.fn 184 [] []) x103 u u u u u u u u u u u u u u u u u u u u u u u u u u u u u u u u u u u u u u u u u u u u u u u u u u u u u u u u u u u u u u u u u u u u u u u u u u u u u u u u u u u u u u u u u u u u u u u u u u u u u u u u u u u u u u u u u u u h335))) (j234 u u u x5 x7 u (.fn 184 [] []) x103 u u u u u u u u u u u u u u u u u u u u u u u u u u u u u u u u u u u u u u u u u u u u u u u u u u u u u u u u u u u u u u u u u u u u u u u u u u u u u u u u u u u u u u u u u u u u u u u u u u u u u u u u u u u u u u u u u u u h106)))) fun j74 =>
 wtS x32 false (kPick x42 x69 qf fun x343 =>
 j74 x343 h70) (j74 u h70)) fun j71 =>
 wtS x42 true (kPick x57 qt x66 fun x344 =>
 j71 x344 h67) (j71 u h67)) fun j68 =>
 wtS x57 false (kEqI true x63 (qw 0) fun x345 =>
 j68 x345 h64) (j68 u h64)) fun j65 =>
 wtS x57 false (kL1 x60 h61 fun x346 =>
 j65 x346 h61) (j65 u h61)) fun j62 =>
 wtS x57 false (kFA 1 x5 fun x347 =>
 j62 x347 h58) (j62 u h58)) fun j59 =>
 wtS x42 true (j59 x54 h55) (j59 u h55)) fun j56 =>
 wtS x42 true (kBin .gtr x51 (qi 0) fun x348 =>
 j56 x348 h52) (j56 u h52)) fun j53 =>
 wtS x42 true (kLen x48 fun x349 =>
 j53 x349 h49) (j53 u h49)) fun j50 =>
 wtS x42 true (kL1 x45 h46 fun x350 =>
 j50 x350 h46) (j50 u h46)) fun j47 =>
 wtS x42 true (kFA 2 x5 fun x351 =>
 j47 x351 h43) (j47 u h43)) fun j44 =>
 wtS x32 false (j44 x39 h40) (j44 u h40)) fun j41 =>
 wtS x32 false (kEqI true x36 (qi 1) fun x352 =>
 j41 x352 h37) (j41 u h37)) fun j38 =>
 wtS x32 false (kL1 x33 h34 fun x353 =>
 j38 x353 h34) (j38 u h34)) fun j35 =>
 wtS x32 false (kFA 0 x5 fun x354 =>
 j35 x354 h30) (j35 u h30)) fun j31 =>
 wtS x22 false (kBin .gtr x26 (qi 2) fun x355 =>
 j31 x355 h27) (j31 u h27)) fun j28 =>
 wtS x22 false (kL1 x23 h24 fun x356 =>
 j28 x356 h24) (j28 u h24)) fun j25 =>
 wtS x22 false (kFA 0 x5 fun x357 =>
 j25 x357 h20) (j25 u h20)) fun j21 =>
 wtS x12 false (kBin .lss x16 (qi 0) fun x358 =>
 j21 x358 h17) (j21 u h17)) fun j18 =>
 wtS x12 false (kL1 x13 h14 fun x359 =>
 j18 x359 h14) (j18 u h14)) fun j15 =>
 wtS x12 false (kFA 0 x5 fun x360 =>
 j15 x360 h11) (j15 u h11))
theorem p155_ok (k : Nat) : p155 k = funcS k 2 lit155 := by kernel_rfl
def p176 (_ : Nat) : CtxK → List V → TH → R := fun X => ap 1 (fun x0 h1 =>
 kNew (V.cellsR x0) h1 fun x2 h3 =>
 kLA 16 x2 h3 fun x4 =>
 kCall X 127 [x4, (.fn 195 [] [])] h3 fun x5 h6 =>
 some (x5, h6))
theorem p176_ok (k : Nat) : p176 k = funcS k 1 lit176 := by kernel_rfl
def p177 (k : Nat) : CtxK → List V → TH → R := fun X => ap 2 (fun x0 x1 h2 =>
 lp (α := Cur 31) (zN 31) (fun n35 x3 x4 _ _ x7 _ _ x10 _ _ _ _ _ _ _ _ _ _ _ _ _ _ _ _ _ _ _ _ _ _ _ h34 =>
 kBin .lss x10 (qi 20) fun x36 =>
 brS x36 (kBin .mul x10 (qi 3) fun x37 =>
 kBin .add x4 x37 fun x38 =>
 kCv X x7 [x3, x38] h34 fun x39 h40 =>
 kCall X 197 [x3, x39] h40 fun x41 h42 =>
 brS x41 (kNilc x3 fun x43 =>
 kFA 18 x43 fun x44 =>
 kL1 x44 h42 fun x45 =>
 kBS 1 [(qi 0)] 1 [(0, 1, x39)] h42 fun x46 h47 =>
 kAp 1 8 x45 x46 h47 fun x48 h49 =>
 kNilc x3 fun x50 =>
 kFA 18 x50 fun x51 =>
 kS1 x51 x48 h49 fun _ h53 =>
 some (.tup [], h53)) (kBin .add x10 (qi 1) fun x54 =>
 n35 x3 x4 u u x7 u u x54 u u u u u u u u u u u u u u u u u u u u u u u h42)) (some (.tup [], h34))) k x0 x1 u u (.fn 196 [] []) u u (qi 0) u u u u u u u u u u u u u u u u u u u u u u u h2)
theorem p177_ok (k : Nat) : p177 k = funcS k 2 lit177 := by kernel_rfl
def p183 (_ : Nat) : CtxK → List V → TH → R := fun _ => ap 1 (fun x0 h1 =>
 kEqI true x0 x0 fun x2 =>
 some (x2, h1))
theorem p183_ok (k : Nat) : p183 k = funcS k 1 lit183 := by kernel_rfl
def p192 (_ : Nat) : CtxK → List V → TH → R := fun _ => ap 1 (fun x0 h1 =>
 kEq' false (.nilR .sl) x0 .nils fun x2 =>
 brS x2 (some (.nils, h1)) (kBS 2 [(qw 0), .nils] 0 [] h1 fun x3 h4 =>
 kAp 2 32 x3 x0 h4 fun x5 h6 =>
 some (x5, h6)))
theorem p192_ok (k : Nat) : p192 k = funcS k 1 lit192 := by kernel_rfl
def p194 (k : Nat) : CtxK → List V → TH → R := fun X => ap 2 (fun x0 x1 h2 =>
 kLen x0 fun x3 =>
 lp (α := Cur 19) (zN 19) (fun n24 x4 x5 _ _ _ _ _ x11 x12 _ _ _ _ _ _ _ _ _ _ h23 =>
 kBin .lss x12 x11 fun x25 =>
 brS x25 (kIS 2 x4 x12 fun x26 =>
 kLA 2 x26 h23 fun x27 =>
 kCv X x5 [x27] h23 fun x28 h29 =>
 brS x28 (some (x12, h29)) (kBin .add x12 (qi 1) fun x30 =>
 n24 x4 x5 u u u u u x11 x30 u u u u u u u u u u h29)) (some ((.int .i64 (-1)), h23))) k x0 x1 u u u u u x3 (qi 0) u u u u u u u u u u h2)
theorem p194_ok (k : Nat) : p194 k = funcS k 2 lit194 := by kernel_rfl
def p203 (_ : Nat) : CtxK → List V → TH → R := fun _ => ap 3 (fun x0 x1 x2 h3 =>
 kL1 x1 h3 fun x6 =>
 kEqI false x0 x6 fun x7 =>
 jc (α := V → TH → PD → R) (fun x10 h11 d12 =>
 jc (α := JT) (fun x14 h15 =>
 jc (α := JT) (fun x17 h18 =>
 jc (α := JT) (fun x20 h21 =>
 jc (α := JT) (fun x23 h24 =>
 jc (α := JT) (fun x26 h27 =>
 jc (α := JT) (fun x29 h30 =>
 jc (α := V → TH → PD → R) (fun x34 h35 d36 =>
 jc (α := V → TH → PD → R) (fun x40 h41 d42 =>
 jc (α := V → TH → PD → R) (fun x46 h47 d48 =>
 jc (α := JT) (fun x50 h51 =>
 jc (α := JT) (fun x53 h54 =>
 jc (α := JT) (fun x56 h57 =>
 jc (α := JT) (fun x59 h60 =>
 jc (α := JT) (fun x62 h63 =>
 jc (α := V → TH → PD → R) (fun x67 h68 d69 =>
 jc (α := JT) (fun x71 h72 =>
 kPick x7 qt x71 fun x74 =>
 dokS [h72] d69 (some (x74, h72))) fun j73 =>
 wtS x7 false (kEqI false x34 x67 fun x75 =>
 j73 x75 h68) (j73 u h68)) fun j70 =>
 wtS x7 false (kL1 x62 h63 fun x76 =>
 j70 x76 h63 d48) (j70 u h63 d48)) fun j64 =>
 wtS x7 false (kFA 2 x59 fun x77 =>
 j64 x77 h60) (j64 u h60)) fun j61 =>
 wtS x7 false (kIA 5 3 x56 x46 fun x78 =>
 j61 x78 h57) (j61 u h57)) fun j58 =>
 wtS x7 false (kFA 1 x53 fun x79 =>
 j58 x79 h54) (j58 u h54)) fun j55 =>
 wtS x7 false (kFA 0 x50 fun x80 =>
 j55 x80 h51) (j55 u h51)) fun j52 =>
 wtS x7 false (kNilc x40 fun x81 =>
 j52 x81 h47) (j52 u h47)) fun j49 =>
 wtS x7 false (kL1 x1 h41 fun x82 =>
 j49 x82 h41 d42) (j49 u h41 d42)) fun j43 =>
 wtS x7 false (kL1 x2 h35 fun x83 =>
 j43 x83 h35 d36) (j43 u h35 d36)) fun j37 =>
 wtS x7 false (kL1 x29 h30 fun x84 =>
 j37 x84 h30 d12) (j37 u h30 d12)) fun j31 =>
 wtS x7 false (kFA 2 x26 fun x85 =>
 j31 x85 h27) (j31 u h27)) fun j28 =>
 wtS x7 false (kIA 5 3 x23 x14 fun x86 =>
 j28 x86 h24) (j28 u h24)) fun j25 =>
 wtS x7 false (kFA 1 x20 fun x87 =>
 j25 x87 h21) (j25 u h21)) fun j22 =>
 wtS x7 false (kFA 0 x17 fun x88 =>
 j22 x88 h18) (j22 u h18)) fun j19 =>
 wtS x7 false (kNilc x10 fun x89 =>
 j19 x89 h15) (j19 u h15)) fun j16 =>
 wtS x7 false (j16 x0 h11) (j16 u h11)) fun j13 =>
 wtS x7 false (kL1 x2 h3 fun x90 =>
 j13 x90 h3 []) (j13 u h3 []))
theorem p203_ok (k : Nat) : p203 k = funcS k 3 lit203 := by kernel_rfl
def p211 (_ : Nat) : CtxK → List V → TH → R := fun X => ap 2 (fun x0 x1 h2 =>
 kP (minE true x1 (qi 1)) fun x3 =>
 kP (minE false x3 (qi 16)) fun x4 =>
 kBin .rem x0 (qw 65536) fun x5 =>
 kBin .add x5 (qw 1) fun x6 =>
 kCall X 222 [x6] h2 fun x7 h8 =>
 kBin .sub (qi 1048576) x7 fun x9 =>
 kBin .mul x9 (qi 4096) fun x10 =>
 kBin .quo x10 x4 fun x11 =>
 kP (unE .neg x11) fun x12 =>
 some (x12, h8))
theorem p211_ok (k : Nat) : p211 k = funcS k 2 lit211 := by kernel_rfl
end
end Go.PE
