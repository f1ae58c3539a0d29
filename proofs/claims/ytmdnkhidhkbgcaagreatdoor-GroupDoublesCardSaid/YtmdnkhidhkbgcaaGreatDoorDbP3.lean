/- The same functions with names for their slots (part 3 of 4), printed by a program of our own: each is what the evaluator's law says of the literal. -/
import Derived.Test.YtmdnkhidhkbgcaaGreatDoorDbL3
import Derived.KernelRfl
namespace Go.PE
set_option maxRecDepth 100000
noncomputable section
def p6 (_ : Nat) : CtxK → List V → TH → R := fun X => ap 0 (fun  h0 =>
 kCall X 7 [] h0 fun x1 h2 =>
 kCall X 12 [x1, (qb 0)] h2 fun x3 h4 =>
 kLen x3 fun x5 =>
 kEqI true x5 (qi 3) fun x6 =>
 brS x6 (some (qf, h4)) (kIS 1 x3 (qi 0) fun x7 =>
 kL1 x7 h4 fun x10 =>
 kB zr0 [] fun x11 =>
 kIS 1 x3 (qi 1) fun x12 =>
 kL1 x12 h4 fun x15 =>
 kB zr0 [] fun x16 =>
 kCall X 8 [x10, (qb 0), x11] h4 fun x17 h18 =>
 kCall X 8 [x15, (qb 0), x16] h18 fun x19 h20 =>
 dokS [h4, h18, h20] ((fun h13 => kL1 x12 h13 fun x14 =>
 some (x14, h13), x15, 0, 1) :: []) (kEq' false (.nilR .ptr) x17 .nilptr fun x21 =>
 jc (α := JT) (fun x22 h23 =>
 jc (α := JT) (fun x25 h26 =>
 kPick x21 qt x25 fun x28 =>
 brS x28 (some (qf, h26)) (kCall X 9 [x17, x1] h26 fun x29 h30 =>
 kCall X 9 [x19, x1] h30 fun x31 h32 =>
 kLen x29 fun x33 =>
 kEqI false x33 (qi 4) fun x34 =>
 jc (α := JT) (fun x35 h36 =>
 jc (α := JT) (fun x38 h39 =>
 jc (α := JT) (fun x41 h42 =>
 jc (α := JT) (fun x44 h45 =>
 jc (α := JT) (fun x47 h48 =>
 kPick x34 x47 qf fun x50 =>
 jc (α := JT) (fun x51 h52 =>
 jc (α := JT) (fun x54 h55 =>
 jc (α := JT) (fun x57 h58 =>
 kPick x50 x57 qf fun x60 =>
 jc (α := JT) (fun x61 h62 =>
 jc (α := JT) (fun x64 h65 =>
 jc (α := JT) (fun x67 h68 =>
 kPick x60 x67 qf fun x70 =>
 jc (α := JT) (fun x71 h72 =>
 jc (α := JT) (fun x74 h75 =>
 jc (α := JT) (fun x77 h78 =>
 kPick x70 x77 qf fun x80 =>
 jc (α := JT) (fun x81 h82 =>
 jc (α := JT) (fun x84 h85 =>
 jc (α := JT) (fun x87 h88 =>
 kPick x80 x87 qf fun x90 =>
 jc (α := JT) (fun x91 h92 =>
 jc (α := JT) (fun x94 h95 =>
 jc (α := JT) (fun x97 h98 =>
 jc (α := JT) (fun x100 h101 =>
 kPick x90 x100 qf fun x103 =>
 jc (α := JT) (fun x104 h105 =>
 jc (α := JT) (fun x107 h108 =>
 jc (α := JT) (fun x110 h111 =>
 kPick x103 x110 qf fun x113 =>
 some (x113, h111)) fun j112 =>
 wtS x103 true (kEqI false x107 (qi 0) fun x114 =>
 j112 x114 h108) (j112 u h108)) fun j109 =>
 wtS x103 true (kCall X 17 [x104] h105 fun x115 h116 =>
 j109 x115 h116) (j109 u h105)) fun j106 =>
 wtS x103 true (j106 x17 h101) (j106 u h101)) fun j102 =>
 wtS x90 true (kEqI false x97 (qi 2) fun x117 =>
 j102 x117 h98) (j102 u h98)) fun j99 =>
 wtS x90 true (kLen x94 fun x118 =>
 j99 x118 h95) (j99 u h95)) fun j96 =>
 wtS x90 true (kCall X 31 [x91] h92 fun x119 h120 =>
 j96 x119 h120) (j96 u h92)) fun j93 =>
 wtS x90 true (j93 x17 h88) (j93 u h88)) fun j89 =>
 wtS x80 true (kEqI false x84 (qw 1) fun x121 =>
 j89 x121 h85) (j89 u h85)) fun j86 =>
 wtS x80 true (kCall X 30 [x81] h82 fun x122 h123 =>
 j86 x122 h123) (j86 u h82)) fun j83 =>
 wtS x80 true (j83 x17 h78) (j83 u h78)) fun j79 =>
 wtS x70 true (kEqI false x74 (qi 1) fun x124 =>
 j79 x124 h75) (j79 u h75)) fun j76 =>
 wtS x70 true (kCall X 16 [x71] h72 fun x125 h126 =>
 j76 x125 h126) (j76 u h72)) fun j73 =>
 wtS x70 true (j73 x19 h68) (j73 u h68)) fun j69 =>
 wtS x60 true (kEqI false x64 (qi 2) fun x127 =>
 j69 x127 h65) (j69 u h65)) fun j66 =>
 wtS x60 true (kCall X 16 [x61] h62 fun x128 h129 =>
 j66 x128 h129) (j66 u h62)) fun j63 =>
 wtS x60 true (j63 x17 h58) (j63 u h58)) fun j59 =>
 wtS x50 true (kEqI false x54 (qi 0) fun x130 =>
 j59 x130 h55) (j59 u h55)) fun j56 =>
 wtS x50 true (kLen x51 fun x131 =>
 j56 x131 h52) (j56 u h52)) fun j53 =>
 wtS x50 true (j53 x31 h48) (j53 u h48)) fun j49 =>
 wtS x34 true (kEqI false x44 (qb 7) fun x132 =>
 j49 x132 h45) (j49 u h45)) fun j46 =>
 wtS x34 true (kL1 x41 h42 fun x133 =>
 j46 x133 h42) (j46 u h42)) fun j43 =>
 wtS x34 true (kFA 0 x38 fun x134 =>
 j43 x134 h39) (j43 u h39)) fun j40 =>
 wtS x34 true (kIS 131 x35 (qi 0) fun x135 =>
 j40 x135 h36) (j40 u h36)) fun j37 =>
 wtS x34 true (j37 x29 h32) (j37 u h32))) fun j27 =>
 wtS x21 false (kEq' false (.nilR .ptr) x22 .nilptr fun x136 =>
 j27 x136 h23) (j27 u h23)) fun j24 =>
 wtS x21 false (j24 x19 h20) (j24 u h20))))
theorem p6_ok (k : Nat) : p6 k = funcS k 0 lit6 := by kernel_rfl
def p16 (_ : Nat) : CtxK → List V → TH → R := fun _ => ap 1 (fun x0 h1 =>
 kNilc x0 fun x2 =>
 kFA 1 x2 fun x3 =>
 kL1 x3 h1 fun x4 =>
 some (x4, h1))
theorem p16_ok (k : Nat) : p16 k = funcS k 1 lit16 := by kernel_rfl
def p26 (_ : Nat) : CtxK → List V → TH → R := fun X => ap 2 (fun x0 x1 h2 =>
 kNew (V.cellsR x1) h2 fun x3 h4 =>
 kNilc x0 fun x5 =>
 kFA 0 x5 fun x6 =>
 kL1 x6 h4 fun x9 =>
 kNilc x0 fun x10 =>
 kFA 1 x10 fun x11 =>
 kL1 x11 h4 fun x14 =>
 kCall X 12 [x9, x14] h4 fun x15 h16 =>
 kIS 1 x15 (qi 0) fun x17 =>
 kL1 x17 h16 fun x20 =>
 dokS [h4, h16] [] (kNilc x0 fun x21 =>
 kFA 7 x21 fun x22 =>
 kL1 x22 h16 fun x25 =>
 kNilc x0 fun x26 =>
 kFA 2 x26 fun x27 =>
 kIA 5 1 x27 x20 fun x28 =>
 kL1 x28 h16 fun x31 =>
 kNilc x0 fun x32 =>
 kFA 0 x32 fun x33 =>
 kL1 x33 h16 fun x36 =>
 kFA 0 x3 fun x37 =>
 kL1 x37 h16 fun x40 =>
 kBin .add (qb 20) x40 fun x41 =>
 kBin .add (qi 10) x20 fun x42 =>
 kConv .u8 x42 fun x43 =>
 kLA 6 x3 h16 fun x46 =>
 kB zr1 [(0, 1, (qb 15)), (1, 1, x41), (2, 1, x43), (123, 6, x46)] fun x47 =>
 kCall X 13 [x31, x36, x47] h16 fun x48 h49 =>
 kAp 131 1400 x25 x48 h49 fun x50 h51 =>
 kNilc x0 fun x52 =>
 kFA 7 x52 fun x53 =>
 kS1 x53 x50 h51 fun _ h55 =>
 dokS [h16, h49, h51, h55] ((fun h23 => kL1 x22 h23 fun x24 =>
 some (x24, h23), x25, 0, 1) :: []) (some (.tup [], h55))))
theorem p26_ok (k : Nat) : p26 k = funcS k 2 lit26 := by kernel_rfl
def p33 (k : Nat) : CtxK → List V → TH → R := fun _ => ap 0 (fun  h0 =>
 kNew zr4 h0 fun x1 h2 =>
 kB zr4 [(0, 1, (qw 1))] fun x3 =>
 kNew zr4 h2 fun x4 h5 =>
 kSA 16 x4 x3 h5 fun _ h7 =>
 lp (α := Cur 16) (zN 16) (fun n25 x8 x9 x10 x11 x12 _ x14 x15 x16 x17 x18 x19 x20 x21 x22 _ h24 =>
 kBin .lss x12 (qi 5) fun x26 =>
 brS x26 (kBin .rem x12 (qi 4) fun x27 =>
 kConv .u8 x27 fun x28 =>
 kB [qf, (qi 0), (qb 0)] [(0, 1, qt), (1, 1, (qi 8)), (2, 1, x28)] fun x29 =>
 kFA 1 x9 fun x30 =>
 kIA 5 3 x30 x12 fun x31 =>
 kSA 3 x31 x29 h24 fun _ h33 =>
 kBin .add x12 (qi 1) fun x34 =>
 n25 x8 x9 u u x34 u u u u u u u u u u u h33) (kLA 16 x9 h24 fun x35 =>
 kSA 16 x8 x35 h24 fun _ h37 =>
 rsS [.cell 0 true 16] [x8, x9, x10, x11, x12, x26, x14, x15, x16, x17, x18, x19, x20, x21, x22, x35] h37)) k x1 x4 u u (qi 0) u u u u u u u u u u u h7)
theorem p33_ok (k : Nat) : p33 k = funcS k 0 lit33 := by kernel_rfl
def p44 (_ : Nat) : CtxK → List V → TH → R := fun _ => ap 2 (fun x0 x1 h2 =>
 kNew [(qw 0), .nils] h2 fun x3 h4 =>
 kBin .geq x1 (qb 4) fun x5 =>
 brS x5 (kB [(qw 0), .nils] [] fun x6 =>
 kSA 2 x3 x6 h4 fun _ h8 =>
 rsS [.cell 4 true 2] [x0, x1, u, u, x3, u, x1, x5, x6, u, u, u, u, u, u, u, u, u, u, u, u] h8) (kNilc x0 fun x9 =>
 kFA 3 x9 fun x10 =>
 kIA 4 1 x10 x1 fun x11 =>
 kL1 x11 h4 fun x12 =>
 kLen x12 fun x13 =>
 kBin .sub x13 (qi 1) fun x14 =>
 kIS 2 x12 x14 fun x15 =>
 kLA 2 x15 h4 fun x16 =>
 kSA 2 x3 x16 h4 fun _ h18 =>
 rsS [.cell 4 true 2] [x0, x1, u, u, x3, x12, x1, x5, u, x0, x1, x9, x10, x11, x12, x12, x12, x13, x14, x15, x16] h18))
theorem p44_ok (k : Nat) : p44 k = funcS k 2 lit44 := by kernel_rfl
def p50 (_ : Nat) : CtxK → List V → TH → R := fun _ => ap 1 (fun x0 h1 =>
 kEq' false (.nilR .sl) x0 .nils fun x2 =>
 brS x2 (some (.nils, h1)) (kBS 8 zr2 0 [] h1 fun x3 h4 =>
 kAp 8 40 x3 x0 h4 fun x5 h6 =>
 some (x5, h6)))
theorem p50_ok (k : Nat) : p50 k = funcS k 1 lit50 := by kernel_rfl
def p55 (_ : Nat) : CtxK → List V → TH → R := fun X => ap 1 (fun x0 h1 =>
 kLen x0 fun x2 =>
 kConv .u64 x2 fun x3 =>
 kCall X 96 [x3] h1 fun x4 h5 =>
 kCall X 95 [x0, (qi 0), x2, x4] h5 fun _ h7 =>
 some (.tup [], h7))
theorem p55_ok (k : Nat) : p55 k = funcS k 1 lit55 := by kernel_rfl
def p64 (_ : Nat) : CtxK → List V → TH → R := fun X => ap 1 (fun x0 h1 =>
 kNew (V.cellsR x0) h1 fun x2 h3 =>
 kLA 16 x2 h3 fun x4 =>
 kCall X 101 [x4, (.fn 102 [] [])] h3 fun x5 h6 =>
 some (x5, h6))
theorem p64_ok (k : Nat) : p64 k = funcS k 1 lit64 := by kernel_rfl
def p65 (_ : Nat) : CtxK → List V → TH → R := fun _ => ap 3 (fun x0 x1 x2 h3 =>
 kNew zr1 h3 fun x4 h5 =>
 kNilc x0 fun x6 =>
 kFA 0 x6 fun x7 =>
 kL1 x7 h5 fun x10 =>
 kConv .u8 x10 fun x11 =>
 kBin .add (qb 10) x11 fun x12 =>
 kConv .u8 x2 fun x13 =>
 kBin .add (qb 10) x13 fun x14 =>
 kNilc x0 fun x15 =>
 kFA 52 x15 fun x16 =>
 kL1 x16 h5 fun x19 =>
 kNilc x0 fun x20 =>
 kFA 2 x20 fun x21 =>
 kL1 x21 h5 fun x24 =>
 kB zr1 [(0, 1, x1), (1, 1, x12), (2, 1, x14), (3, 1, x19), (12, 1, x24)] fun x25 =>
 kSA 131 x4 x25 h5 fun _ h27 =>
 dokS [h5, h27] [] (rsS [.cell 6 true 131] [x0, x1, x2, u, u, u, x4, x1, x0, x6, x7, x10, x11, x12, x2, x13, x14, x0, x15, x16, x19, x0, x20, x21, x24, x25] h27))
theorem p65_ok (k : Nat) : p65 k = funcS k 3 lit65 := by kernel_rfl
def p73 (_ : Nat) : CtxK → List V → TH → R := fun X => ap 3 (fun x0 _ x2 h3 =>
 kNew (V.cellsR x2) h3 fun x4 h5 =>
 kLA 131 x4 h5 fun x6 =>
 kCall X 111 [x0, x6] h5 fun x7 h8 =>
 kNot x7 fun x9 =>
 brS x9 (some (.nils, h8)) (kFA 62 x4 fun x10 =>
 kLA 52 x10 h8 fun x11 =>
 kCall X 112 [x0, x11] h8 fun _ h13 =>
 kLA 131 x4 h13 fun x14 =>
 kCall X 113 [x0, (qb 10), x14] h13 fun x15 h16 =>
 some (x15, h16)))
theorem p73_ok (k : Nat) : p73 k = funcS k 3 lit73 := by kernel_rfl
def p75 (_ : Nat) : CtxK → List V → TH → R := fun X => ap 3 (fun x0 _ x2 h3 =>
 kNew (V.cellsR x2) h3 fun x4 h5 =>
 kLA 131 x4 h5 fun x8 =>
 kCall X 111 [x0, x8] h5 fun x9 h10 =>
 kNot x9 fun x11 =>
 jc (α := JT) (fun x12 h13 =>
 jc (α := JT) (fun x15 h16 =>
 jc (α := JT) (fun x18 h19 =>
 jc (α := JT) (fun x21 h22 =>
 jc (α := V → TH → PD → R) (fun x26 h27 d28 =>
 jc (α := JT) (fun x30 h31 =>
 jc (α := JT) (fun x33 h34 =>
 jc (α := JT) (fun x36 h37 =>
 jc (α := V → TH → PD → R) (fun x41 h42 d43 =>
 jc (α := JT) (fun x45 h46 =>
 kPick x11 qt x45 fun x48 =>
 dokS [h5, h46] d43 (brS x48 (some (.nils, h46)) (kFA 114 x4 fun x49 =>
 kLA 8 x49 h46 fun x50 =>
 kCall X 117 [x0, x50] h46 fun _ h52 =>
 kFA 114 x4 fun x53 =>
 kFA 1 x53 fun x54 =>
 kL1 x54 h52 fun x57 =>
 kCall X 115 [x0] h52 fun x58 h59 =>
 kBin .lss x58 x57 fun x60 =>
 dokS [h52, h59] ((fun h55 => kL1 x54 h55 fun x56 =>
 some (x56, h55), x57, 0, 1) :: []) (brS x60 (some (.nils, h59)) (kLA 131 x4 h59 fun x61 =>
 kCall X 113 [x0, (qb 12), x61] h59 fun x62 h63 =>
 some (x62, h63)))))) fun j47 =>
 wtS x11 false (kEqI true x26 x41 fun x64 =>
 j47 x64 h42) (j47 u h42)) fun j44 =>
 wtS x11 false (kL1 x36 h37 fun x65 =>
 j44 x65 h37 d28) (j44 u h37 d28)) fun j38 =>
 wtS x11 false (kFA 52 x33 fun x66 =>
 j38 x66 h34) (j38 u h34)) fun j35 =>
 wtS x11 false (kNilc x30 fun x67 =>
 j35 x67 h31) (j35 u h31)) fun j32 =>
 wtS x11 false (j32 x0 h27) (j32 u h27)) fun j29 =>
 wtS x11 false (kL1 x21 h22 fun x68 =>
 j29 x68 h22 []) (j29 u h22 [])) fun j23 =>
 wtS x11 false (kFA 0 x18 fun x69 =>
 j23 x69 h19) (j23 u h19)) fun j20 =>
 wtS x11 false (kFA 3 x15 fun x70 =>
 j20 x70 h16) (j20 u h16)) fun j17 =>
 wtS x11 false (kNilc x12 fun x71 =>
 j17 x71 h13) (j17 u h13)) fun j14 =>
 wtS x11 false (j14 x0 h10) (j14 u h10))
theorem p75_ok (k : Nat) : p75 k = funcS k 3 lit75 := by kernel_rfl
def p79 (_ : Nat) : CtxK → List V → TH → R := fun X => ap 3 (fun x0 _ x2 h3 =>
 kNew (V.cellsR x2) h3 fun x4 h5 =>
 kNilc x0 fun x6 =>
 kFA 1 x6 fun x7 =>
 kL1 x7 h5 fun x8 =>
 kEqI true x8 (qi 4) fun x9 =>
 brS x9 (some (.nils, h5)) (kFA 123 x4 fun x10 =>
 kLA 6 x10 h5 fun x11 =>
 kCall X 91 [x11] h5 fun x12 h13 =>
 brS x12 (kFA 123 x4 fun x14 =>
 kLA 6 x14 h13 fun x15 =>
 kCall X 120 [x0, x15] h13 fun x16 h17 =>
 some (x16, h17)) (kFA 123 x4 fun x18 =>
 kLA 6 x18 h13 fun x19 =>
 kCall X 121 [x0, x19] h13 fun x20 h21 =>
 some (x20, h21))))
theorem p79_ok (k : Nat) : p79 k = funcS k 3 lit79 := by kernel_rfl
def p80 (_ : Nat) : CtxK → List V → TH → R := fun X => ap 1 (fun x0 h1 =>
 kNew (V.cellsR x0) h1 fun x2 h3 =>
 kFA 1 x2 fun x4 =>
 kL1 x4 h3 fun x7 =>
 kFA 1 x2 fun x8 =>
 kL1 x8 h3 fun x11 =>
 kCall X 122 [x7] h3 fun x12 h13 =>
 jc (α := JT) (fun x14 h15 =>
 jc (α := V → TH → PD → R) (fun x19 h20 d21 =>
 jc (α := JT) (fun x23 h24 =>
 kPick x12 x23 qf fun x26 =>
 kCall X 123 [x11] h24 fun x27 h28 =>
 jc (α := JT) (fun x29 h30 =>
 jc (α := V → TH → PD → R) (fun x34 h35 d36 =>
 jc (α := JT) (fun x38 h39 =>
 kPick x27 x38 qf fun x41 =>
 dokS [h3, h20, h24, h35, h39] d36 (kFA 0 x2 fun x42 =>
 kL1 x42 h39 fun x43 =>
 kEqI false x43 (qb 1) fun x44 =>
 jc (α := Cur 97) (fun _ x46 _ x48 x49 _ _ _ _ _ _ _ _ _ _ _ _ _ _ _ _ _ x67 x68 _ _ _ _ _ _ _ _ _ _ _ _ _ _ _ _ _ _ _ _ _ _ _ _ _ _ _ _ _ _ _ _ _ _ _ _ _ _ _ _ _ _ _ _ _ _ _ _ _ _ _ _ _ _ _ _ _ _ _ _ _ _ _ _ _ _ _ _ _ _ _ _ _ h142 =>
 brS x68 (some (x48, h142)) (kEqI false x67 (qb 5) fun x144 =>
 brS x144 (jc (α := JT) (fun x145 h146 =>
 jc (α := JT) (fun x148 h149 =>
 jc (α := JT) (fun x151 h152 =>
 jc (α := JT) (fun x154 h155 =>
 jc (α := JT) (fun x157 h158 =>
 jc (α := JT) (fun x160 h161 =>
 jc (α := JT) (fun x163 h164 =>
 jc (α := JT) (fun x166 h167 =>
 kPick x48 qt x166 fun x169 =>
 some (x169, h167)) fun j168 =>
 wtS x48 false (kPick x154 x163 qf fun x170 =>
 j168 x170 h164) (j168 u h164)) fun j165 =>
 wtS x154 true (kCall X 123 [x160] h161 fun x171 h172 =>
 j165 x171 h172) (j165 u h161)) fun j162 =>
 wtS x154 true (kL1 x157 h158 fun x173 =>
 j162 x173 h158) (j162 u h158)) fun j159 =>
 wtS x154 true (kFA 2 x46 fun x174 =>
 j159 x174 h155) (j159 u h155)) fun j156 =>
 wtS x48 false (j156 x151 h152) (j156 u h152)) fun j153 =>
 wtS x48 false (kCall X 122 [x148] h149 fun x175 h176 =>
 j153 x175 h176) (j153 u h149)) fun j150 =>
 wtS x48 false (kL1 x145 h146 fun x177 =>
 j150 x177 h146) (j150 u h146)) fun j147 =>
 wtS x48 false (kFA 1 x46 fun x178 =>
 j147 x178 h142) (j147 u h142)) (kEqI false x67 (qb 6) fun x179 =>
 brS x179 (jc (α := JT) (fun x180 h181 =>
 jc (α := JT) (fun x183 h184 =>
 jc (α := JT) (fun x186 h187 =>
 jc (α := JT) (fun x189 h190 =>
 jc (α := JT) (fun x192 h193 =>
 jc (α := JT) (fun x195 h196 =>
 jc (α := JT) (fun x198 h199 =>
 jc (α := JT) (fun x201 h202 =>
 kPick x48 qt x201 fun x204 =>
 some (x204, h202)) fun j203 =>
 wtS x48 false (kPick x189 x198 qf fun x205 =>
 j203 x205 h199) (j203 u h199)) fun j200 =>
 wtS x189 true (kCall X 122 [x195] h196 fun x206 h207 =>
 j200 x206 h207) (j200 u h196)) fun j197 =>
 wtS x189 true (kL1 x192 h193 fun x208 =>
 j197 x208 h193) (j197 u h193)) fun j194 =>
 wtS x189 true (kFA 2 x46 fun x209 =>
 j194 x209 h190) (j194 u h190)) fun j191 =>
 wtS x48 false (j191 x186 h187) (j191 u h187)) fun j188 =>
 wtS x48 false (kCall X 123 [x183] h184 fun x210 h211 =>
 j188 x210 h211) (j188 u h184)) fun j185 =>
 wtS x48 false (kL1 x180 h181 fun x212 =>
 j185 x212 h181) (j185 u h181)) fun j182 =>
 wtS x48 false (kFA 1 x46 fun x213 =>
 j182 x213 h142) (j182 u h142)) (kEqI false x67 (qb 17) fun x214 =>
 brS x214 (kFA 1 x46 fun x215 =>
 kL1 x215 h142 fun x216 =>
 kCall X 123 [x216] h142 fun x217 h218 =>
 jc (α := JT) (fun x219 h220 =>
 jc (α := JT) (fun x222 h223 =>
 jc (α := JT) (fun x225 h226 =>
 kPick x217 x225 qf fun x228 =>
 some (x228, h226)) fun j227 =>
 wtS x217 true (kCall X 122 [x222] h223 fun x229 h230 =>
 j227 x229 h230) (j227 u h223)) fun j224 =>
 wtS x217 true (kL1 x219 h220 fun x231 =>
 j224 x231 h220) (j224 u h220)) fun j221 =>
 wtS x217 true (kFA 2 x46 fun x232 =>
 j221 x232 h218) (j221 u h218)) (kEqI false x67 (qb 15) fun x233 =>
 brS x233 (kFA 1 x46 fun x234 =>
 kL1 x234 h142 fun x235 =>
 kCall X 124 [x235] h142 fun x236 h237 =>
 jc (α := JT) (fun x238 h239 =>
 jc (α := JT) (fun x241 h242 =>
 jc (α := JT) (fun x244 h245 =>
 kPick x236 x244 qf fun x247 =>
 some (x247, h245)) fun j246 =>
 wtS x236 true (kCall X 123 [x241] h242 fun x248 h249 =>
 j246 x248 h249) (j246 u h242)) fun j243 =>
 wtS x236 true (kL1 x238 h239 fun x250 =>
 j243 x250 h239) (j243 u h239)) fun j240 =>
 wtS x236 true (kFA 2 x46 fun x251 =>
 j240 x251 h237) (j240 u h237)) (kEqI false x67 (qb 16) fun x252 =>
 brS x252 (kFA 1 x46 fun x253 =>
 kL1 x253 h142 fun x254 =>
 kCall X 123 [x254] h142 fun x255 h256 =>
 jc (α := JT) (fun x257 h258 =>
 jc (α := JT) (fun x260 h261 =>
 jc (α := JT) (fun x263 h264 =>
 kPick x255 x263 qf fun x266 =>
 some (x266, h264)) fun j265 =>
 wtS x255 true (kCall X 124 [x260] h261 fun x267 h268 =>
 j265 x267 h268) (j265 u h261)) fun j262 =>
 wtS x255 true (kL1 x257 h258 fun x269 =>
 j262 x269 h258) (j262 u h258)) fun j259 =>
 wtS x255 true (kFA 2 x46 fun x270 =>
 j259 x270 h256) (j259 u h256)) (kFA 0 x46 fun x271 =>
 kL1 x271 h142 fun x272 =>
 kBin .geq x272 (qb 7) fun x273 =>
 jc (α := JT) (fun x274 h275 =>
 jc (α := JT) (fun x277 h278 =>
 jc (α := JT) (fun x280 h281 =>
 kPick x273 x280 qf fun x283 =>
 jc (α := JT) (fun x284 h285 =>
 kPick x283 x284 qf fun x287 =>
 some (x287, h285)) fun j286 =>
 wtS x283 true (j286 x49 h281) (j286 u h281)) fun j282 =>
 wtS x273 true (kBin .leq x277 (qb 14) fun x288 =>
 j282 x288 h278) (j282 u h278)) fun j279 =>
 wtS x273 true (kL1 x274 h275 fun x289 =>
 j279 x289 h275) (j279 u h275)) fun j276 =>
 wtS x273 true (kFA 0 x46 fun x290 =>
 j276 x290 h142) (j276 u h142)))))))) fun j143 =>
 brS x44 (j143 u x2 u x26 x41 u u u u u u u u u u u u u u u u u x43 x44 u u u u u u u u u u u u u u u u u u u u u u u u u u u u u u u u u u u u u u u u u u u u u u u u u u u u u u u u u u u u u u u u u u u u u u u u u h39) (kEqI false x43 (qb 2) fun x291 =>
 jc (α := Cur 97) (fun _ x293 _ x295 x296 _ _ _ _ _ _ _ _ _ _ _ _ _ _ _ _ _ x314 x315 _ _ _ _ _ _ _ _ _ _ _ _ _ _ _ _ _ _ _ _ _ _ _ _ _ _ _ _ _ _ _ _ _ _ _ _ _ _ _ _ _ _ _ _ _ _ _ _ _ _ _ _ _ _ _ _ _ _ _ _ _ _ _ _ _ _ _ _ _ _ _ _ _ h389 =>
 j143 u x293 u x295 x296 u u u u u u u u u u u u u u u u u x314 x315 u u u u u u u u u u u u u u u u u u u u u u u u u u u u u u u u u u u u u u u u u u u u u u u u u u u u u u u u u u u u u u u u u u u u u u u u u h389) fun j390 =>
 brS x291 (j390 u x2 u x26 x41 u u u u u u u u u u u u u u u u u x43 x291 u u u u u u u u u u u u u u u u u u u u u u u u u u u u u u u u u u u u u u u u u u u u u u u u u u u u u u u u u u u u u u u u u u u u u u u u u h39) (kEqI false x43 (qb 3) fun x391 =>
 jc (α := Cur 97) (fun _ x393 _ x395 x396 _ _ _ _ _ _ _ _ _ _ _ _ _ _ _ _ _ x414 x415 _ _ _ _ _ _ _ _ _ _ _ _ _ _ _ _ _ _ _ _ _ _ _ _ _ _ _ _ _ _ _ _ _ _ _ _ _ _ _ _ _ _ _ _ _ _ _ _ _ _ _ _ _ _ _ _ _ _ _ _ _ _ _ _ _ _ _ _ _ _ _ _ _ h489 =>
 j390 u x393 u x395 x396 u u u u u u u u u u u u u u u u u x414 x415 u u u u u u u u u u u u u u u u u u u u u u u u u u u u u u u u u u u u u u u u u u u u u u u u u u u u u u u u u u u u u u u u u u u u u u u u u h489) fun j490 =>
 brS x391 (j490 u x2 u x26 x41 u u u u u u u u u u u u u u u u u x43 x391 u u u u u u u u u u u u u u u u u u u u u u u u u u u u u u u u u u u u u u u u u u u u u u u u u u u u u u u u u u u u u u u u u u u u u u u u u h39) (kEqI false x43 (qb 4) fun x491 =>
 jc (α := Cur 97) (fun _ x493 _ x495 x496 _ _ _ _ _ _ _ _ _ _ _ _ _ _ _ _ _ x514 x515 _ _ _ _ _ _ _ _ _ _ _ _ _ _ _ _ _ _ _ _ _ _ _ _ _ _ _ _ _ _ _ _ _ _ _ _ _ _ _ _ _ _ _ _ _ _ _ _ _ _ _ _ _ _ _ _ _ _ _ _ _ _ _ _ _ _ _ _ _ _ _ _ _ h589 =>
 j490 u x493 u x495 x496 u u u u u u u u u u u u u u u u u x514 x515 u u u u u u u u u u u u u u u u u u u u u u u u u u u u u u u u u u u u u u u u u u u u u u u u u u u u u u u u u u u u u u u u u u u u u u u u u h589) fun j590 =>
 brS x491 (j590 u x2 u x26 x41 u u u u u u u u u u u u u u u u u x43 x491 u u u u u u u u u u u u u u u u u u u u u u u u u u u u u u u u u u u u u u u u u u u u u u u u u u u u u u u u u u u u u u u u u u u u u u u u u h39) (kEqI false x43 (qb 18) fun x591 =>
 j590 u x2 u x26 x41 u u u u u u u u u u u u u u u u u x43 x591 u u u u u u u u u u u u u u u u u u u u u u u u u u u u u u u u u u u u u u u u u u u u u u u u u u u u u u u u u u u u u u u u u u u u u u u u u h39)))))) fun j40 =>
 wtS x27 true (kCall X 123 [x34] h35 fun x592 h593 =>
 j40 x592 h593) (j40 u h35)) fun j37 =>
 wtS x27 true (kL1 x29 h30 fun x594 =>
 j37 x594 h30 d21) (j37 u h30 d21)) fun j31 =>
 wtS x27 true (kFA 2 x2 fun x595 =>
 j31 x595 h28) (j31 u h28)) fun j25 =>
 wtS x12 true (kCall X 122 [x19] h20 fun x596 h597 =>
 j25 x596 h597) (j25 u h20)) fun j22 =>
 wtS x12 true (kL1 x14 h15 fun x598 =>
 j22 x598 h15 ((fun h9 => kL1 x8 h9 fun x10 =>
 some (x10, h9), x11, 0, 2) :: [])) (j22 u h15 ((fun h9 => kL1 x8 h9 fun x10 =>
 some (x10, h9), x11, 0, 2) :: []))) fun j16 =>
 wtS x12 true (kFA 2 x2 fun x599 =>
 j16 x599 h13) (j16 u h13))
theorem p80_ok (k : Nat) : p80 k = funcS k 1 lit80 := by kernel_rfl
def p87 (_ : Nat) : CtxK → List V → TH → R := fun X => ap 1 (fun x0 h1 =>
 kNew (V.cellsR x0) h1 fun x2 h3 =>
 kFA 2 x2 fun x4 =>
 kLA 6 x4 h3 fun x5 =>
 kCall X 91 [x5] h3 fun x6 h7 =>
 jc (α := JT) (fun x8 h9 =>
 jc (α := JT) (fun x11 h12 =>
 jc (α := JT) (fun x14 h15 =>
 kPick x6 x14 qf fun x17 =>
 jc (α := JT) (fun x18 h19 =>
 jc (α := JT) (fun x21 h22 =>
 jc (α := JT) (fun x24 h25 =>
 kPick x17 x24 qf fun x27 =>
 jc (α := JT) (fun x28 h29 =>
 jc (α := JT) (fun x31 h32 =>
 jc (α := JT) (fun x34 h35 =>
 kPick x27 x34 qf fun x37 =>
 some (x37, h35)) fun j36 =>
 wtS x27 true (kBin .leq x31 (qw 60) fun x38 =>
 j36 x38 h32) (j36 u h32)) fun j33 =>
 wtS x27 true (kL1 x28 h29 fun x39 =>
 j33 x39 h29) (j33 u h29)) fun j30 =>
 wtS x27 true (kFA 0 x2 fun x40 =>
 j30 x40 h25) (j30 u h25)) fun j26 =>
 wtS x17 true (kBin .geq x21 (qw 1) fun x41 =>
 j26 x41 h22) (j26 u h22)) fun j23 =>
 wtS x17 true (kL1 x18 h19 fun x42 =>
 j23 x42 h19) (j23 u h19)) fun j20 =>
 wtS x17 true (kFA 0 x2 fun x43 =>
 j20 x43 h15) (j20 u h15)) fun j16 =>
 wtS x6 true (kBin .gtr x11 (qw 0) fun x44 =>
 j16 x44 h12) (j16 u h12)) fun j13 =>
 wtS x6 true (kL1 x8 h9 fun x45 =>
 j13 x45 h9) (j13 u h9)) fun j10 =>
 wtS x6 true (kFA 1 x2 fun x46 =>
 j10 x46 h7) (j10 u h7))
theorem p87_ok (k : Nat) : p87 k = funcS k 1 lit87 := by kernel_rfl
def p89 (_ : Nat) : CtxK → List V → TH → R := fun X => ap 1 (fun x0 h1 =>
 kNew (V.cellsR x0) h1 fun x2 h3 =>
 kFA 0 x2 fun x4 =>
 kL1 x4 h3 fun x5 =>
 kEqI false x5 (qb 15) fun x6 =>
 brS x6 (kFA 123 x2 fun x7 =>
 kLA 6 x7 h3 fun x8 =>
 kCall X 130 [x8] h3 fun x9 h10 =>
 jc (α := JT) (fun x11 h12 =>
 jc (α := JT) (fun x14 h15 =>
 jc (α := JT) (fun x17 h18 =>
 jc (α := JT) (fun x20 h21 =>
 jc (α := JT) (fun x23 h24 =>
 jc (α := JT) (fun x26 h27 =>
 jc (α := JT) (fun x29 h30 =>
 kPick x9 x29 qf fun x32 =>
 some (x32, h30)) fun j31 =>
 wtS x9 true (kEqI false x14 x26 fun x33 =>
 j31 x33 h27) (j31 u h27)) fun j28 =>
 wtS x9 true (kBin .add (qb 20) x23 fun x34 =>
 j28 x34 h24) (j28 u h24)) fun j25 =>
 wtS x9 true (kL1 x20 h21 fun x35 =>
 j25 x35 h21) (j25 u h21)) fun j22 =>
 wtS x9 true (kFA 0 x17 fun x36 =>
 j22 x36 h18) (j22 u h18)) fun j19 =>
 wtS x9 true (kFA 123 x2 fun x37 =>
 j19 x37 h15) (j19 u h15)) fun j16 =>
 wtS x9 true (kL1 x11 h12 fun x38 =>
 j16 x38 h12) (j16 u h12)) fun j13 =>
 wtS x9 true (kFA 1 x2 fun x39 =>
 j13 x39 h10) (j13 u h10)) (kEqI false x5 (qb 16) fun x40 =>
 brS x40 (kFA 123 x2 fun x41 =>
 kLA 6 x41 h3 fun x42 =>
 kCall X 130 [x42] h3 fun x43 h44 =>
 jc (α := JT) (fun x45 h46 =>
 jc (α := JT) (fun x48 h49 =>
 jc (α := JT) (fun x51 h52 =>
 jc (α := JT) (fun x54 h55 =>
 jc (α := JT) (fun x57 h58 =>
 jc (α := JT) (fun x60 h61 =>
 jc (α := JT) (fun x63 h64 =>
 kPick x43 x63 qf fun x66 =>
 some (x66, h64)) fun j65 =>
 wtS x43 true (kEqI false x48 x60 fun x67 =>
 j65 x67 h61) (j65 u h61)) fun j62 =>
 wtS x43 true (kBin .add (qb 20) x57 fun x68 =>
 j62 x68 h58) (j62 u h58)) fun j59 =>
 wtS x43 true (kL1 x54 h55 fun x69 =>
 j59 x69 h55) (j59 u h55)) fun j56 =>
 wtS x43 true (kFA 0 x51 fun x70 =>
 j56 x70 h52) (j56 u h52)) fun j53 =>
 wtS x43 true (kFA 123 x2 fun x71 =>
 j53 x71 h49) (j53 u h49)) fun j50 =>
 wtS x43 true (kL1 x45 h46 fun x72 =>
 j50 x72 h46) (j50 u h46)) fun j47 =>
 wtS x43 true (kFA 2 x2 fun x73 =>
 j47 x73 h44) (j47 u h44)) (kFA 123 x2 fun x74 =>
 kLA 6 x74 h3 fun x75 =>
 kCall X 130 [x75] h3 fun x76 h77 =>
 jc (α := JT) (fun x78 h79 =>
 jc (α := JT) (fun x81 h82 =>
 jc (α := JT) (fun x84 h85 =>
 jc (α := JT) (fun x87 h88 =>
 kPick x76 x87 qf fun x90 =>
 some (x90, h88)) fun j89 =>
 wtS x76 true (kEqI false x84 (qb 5) fun x91 =>
 j89 x91 h85) (j89 u h85)) fun j86 =>
 wtS x76 true (kL1 x81 h82 fun x92 =>
 j86 x92 h82) (j86 u h82)) fun j83 =>
 wtS x76 true (kFA 2 x78 fun x93 =>
 j83 x93 h79) (j83 u h79)) fun j80 =>
 wtS x76 true (kFA 123 x2 fun x94 =>
 j80 x94 h77) (j80 u h77))))
theorem p89_ok (k : Nat) : p89 k = funcS k 1 lit89 := by kernel_rfl
def p90 (k : Nat) : CtxK → List V → TH → R := fun X => ap 1 (fun x0 h1 =>
 kNew (V.cellsR x0) h1 fun x2 h3 =>
 kFA 0 x2 fun x4 =>
 kLA 30 x4 h3 fun x5 =>
 lp (α := Cur 42) (zN 42) (fun n49 _ x7 _ _ _ _ _ _ x14 x15 _ _ _ _ _ _ _ _ _ _ _ _ _ _ _ _ _ _ _ _ _ _ _ _ _ _ _ _ _ _ _ _ h48 =>
 kBin .lss x15 (qi 6) fun x50 =>
 brS x50 (kP (indexE (some (6, 5, true)) x14 x15) fun x51 =>
 kNew [qf, qs, qs, qs, qs] h48 fun x52 h53 =>
 kSA 5 x52 x51 h53 fun _ h55 =>
 kLA 5 x52 h55 fun x56 =>
 kCall X 131 [x56] h55 fun x57 h58 =>
 kNot x57 fun x59 =>
 brS x59 (some (qf, h58)) (kBin .add x15 (qi 1) fun x60 =>
 n49 u x7 u u u u u u x14 x60 u u u u u u u u u u u u u u u u u u u u u u u u u u u u u u u u h58)) (kFA 30 x7 fun x61 =>
 kLA 9 x61 h48 fun x62 =>
 lp (α := Cur 42) (zN 42) (fun n106 _ _ _ _ _ _ _ _ _ _ _ _ _ _ _ _ _ x80 x81 _ _ _ _ _ _ _ _ _ _ _ _ _ _ _ _ _ _ _ _ _ _ _ h105 =>
 kBin .lss x81 (qi 3) fun x107 =>
 brS x107 (kP (indexE (some (3, 3, true)) x80 x81) fun x108 =>
 kNew [(qw 0), (qb 0), qs] h105 fun x109 h110 =>
 kSA 3 x109 x108 h110 fun _ h112 =>
 kFA 1 x109 fun x113 =>
 kFA 1 x113 fun x114 =>
 kL1 x114 h112 fun x115 =>
 kEq' true (.leaf .str) x115 qs fun x116 =>
 jc (α := JT) (fun x117 h118 =>
 jc (α := JT) (fun x120 h121 =>
 jc (α := JT) (fun x123 h124 =>
 jc (α := JT) (fun x126 h127 =>
 kPick x116 qt x126 fun x129 =>
 jc (α := JT) (fun x130 h131 =>
 jc (α := JT) (fun x133 h134 =>
 jc (α := JT) (fun x136 h137 =>
 jc (α := JT) (fun x139 h140 =>
 jc (α := JT) (fun x142 h143 =>
 jc (α := JT) (fun x145 h146 =>
 jc (α := JT) (fun x148 h149 =>
 jc (α := JT) (fun x151 h152 =>
 kPick x129 qt x151 fun x154 =>
 brS x154 (some (qf, h152)) (kBin .add x81 (qi 1) fun x155 =>
 n106 u u u u u u u u u u u u u u u u u x80 x155 u u u u u u u u u u u u u u u u u u u u u u u h152)) fun j153 =>
 wtS x129 false (kPick x139 x148 qf fun x156 =>
 j153 x156 h149) (j153 u h149)) fun j150 =>
 wtS x139 true (kEq' true (.agg [.int, .int, .str]) x142 x145 fun x157 =>
 j150 x157 h146) (j150 u h146)) fun j147 =>
 wtS x139 true (kB [(qw 0), (qb 0), qs] [] fun x158 =>
 j147 x158 h143) (j147 u h143)) fun j144 =>
 wtS x139 true (kLA 3 x109 h140 fun x159 =>
 j144 x159 h140) (j144 u h140)) fun j141 =>
 wtS x129 false (j141 x136 h137) (j141 u h137)) fun j138 =>
 wtS x129 false (kEqI false x133 (qw 0) fun x160 =>
 j138 x160 h134) (j138 u h134)) fun j135 =>
 wtS x129 false (kL1 x130 h131 fun x161 =>
 j135 x161 h131) (j135 u h131)) fun j132 =>
 wtS x129 false (kFA 0 x109 fun x162 =>
 j132 x162 h127) (j132 u h127)) fun j128 =>
 wtS x116 false (kBin .gtr x123 (qb 3) fun x163 =>
 j128 x163 h124) (j128 u h124)) fun j125 =>
 wtS x116 false (kL1 x120 h121 fun x164 =>
 j125 x164 h121) (j125 u h121)) fun j122 =>
 wtS x116 false (kFA 0 x117 fun x165 =>
 j122 x165 h118) (j122 u h118)) fun j119 =>
 wtS x116 false (kFA 1 x109 fun x166 =>
 j119 x166 h112) (j119 u h112)) (some (qt, h105))) k u u u u u u u u u u u u u u u u u x62 (qi 0) u u u u u u u u u u u u u u u u u u u u u u u h48)) k u x2 u u u u u u x5 (qi 0) u u u u u u u u u u u u u u u u u u u u u u u u u u u u u u u u h3)
theorem p90_ok (k : Nat) : p90 k = funcS k 1 lit90 := by kernel_rfl
def p91 (_ : Nat) : CtxK → List V → TH → R := fun X => ap 1 (fun x0 h1 =>
 kNew (V.cellsR x0) h1 fun x2 h3 =>
 kLA 6 x2 h3 fun x4 =>
 kCall X 130 [x4] h3 fun x5 h6 =>
 jc (α := JT) (fun x7 h8 =>
 jc (α := JT) (fun x10 h11 =>
 jc (α := JT) (fun x13 h14 =>
 kPick x5 x13 qf fun x16 =>
 some (x16, h14)) fun j15 =>
 wtS x5 true (kEqI true x10 (qb 5) fun x17 =>
 j15 x17 h11) (j15 u h11)) fun j12 =>
 wtS x5 true (kL1 x7 h8 fun x18 =>
 j12 x18 h8) (j12 u h8)) fun j9 =>
 wtS x5 true (kFA 2 x2 fun x19 =>
 j9 x19 h6) (j9 u h6))
theorem p91_ok (k : Nat) : p91 k = funcS k 1 lit91 := by kernel_rfl
def p93 (k : Nat) : CtxK → List V → TH → R := fun X => ap 2 (fun x0 x1 h2 =>
 kCall X 134 [x0, x1] h2 fun x3 h4 =>
 kEqI false x3 (.int .i64 (-1)) fun x5 =>
 brS x5 (some (x0, h4)) (kBin .add x3 (qi 1) fun x6 =>
 lp (α := Cur 42) (zN 42) (fun n50 x7 x8 _ _ _ x12 x13 _ _ _ _ _ _ _ _ _ _ _ _ _ _ _ _ _ _ _ _ _ _ _ _ _ _ _ _ _ _ _ _ _ _ _ h49 =>
 kLen x7 fun x51 =>
 kBin .lss x13 x51 fun x52 =>
 brS x52 (kIS 1 x7 x13 fun x53 =>
 kL1 x53 h49 fun x54 =>
 kCv X x8 [x54] h49 fun x55 h56 =>
 kNot x55 fun x57 =>
 jc (α := Cur 42) (fun x58 x59 _ _ _ x63 x64 _ _ _ _ _ _ _ _ _ _ _ _ _ _ _ _ _ _ _ _ _ _ _ _ _ _ _ _ _ _ _ _ _ _ _ h100 =>
 kBin .add x64 (qi 1) fun x102 =>
 n50 x58 x59 u u u x63 x102 u u u u u u u u u u u u u u u u u u u u u u u u u u u u u u u u u u u h100) fun j101 =>
 brS x57 (kIS 1 x7 x12 fun x103 =>
 kS1 x103 x54 h56 fun _ h105 =>
 kBin .add x12 (qi 1) fun x106 =>
 j101 x7 x8 u u u x106 x13 u u u u u u u u u u u u u u u u u u u u u u u u u u u u u u u u u u u h105) (j101 x7 x8 u u u x12 x13 u u u u u u u u u u u u u u u u u u u u u u u u u u u u u u u u u u u h56)) (kP (sliceE 1 x7 (some x12) none) fun x107 =>
 kCl [(qi 0)] 1 x107 h49 fun _ h109 =>
 kP (sliceE 1 x7 none (some x12)) fun x110 =>
 some (x110, h109))) k x0 x1 u u u x3 x6 u u u u u u u u u u u u u u u u u u u u u u u u u u u u u u u u u u u h4))
theorem p93_ok (k : Nat) : p93 k = funcS k 2 lit93 := by kernel_rfl
def p95 (k : Nat) : CtxK → List V → TH → R := fun X => ap 4 (fun x0 x1 x2 x3 h4 =>
 lp (α := Cur 134) (zN 134) (fun n140 x5 x6 x7 x8 _ _ _ _ x13 x14 _ _ _ _ _ _ _ _ _ _ _ _ _ _ _ _ _ _ _ _ _ _ _ _ _ _ _ _ _ _ _ _ _ _ _ _ _ _ _ _ _ _ _ _ _ _ _ _ _ _ _ _ _ _ _ _ _ _ _ _ _ _ _ _ _ _ _ _ _ _ _ _ _ _ _ _ _ _ _ _ _ _ _ _ _ _ _ _ _ _ _ _ _ _ _ _ _ _ _ _ _ _ _ _ _ _ _ _ _ _ _ _ _ _ _ _ _ _ _ _ _ _ _ _ h139 =>
 jc (α := Cur 134) (fun x141 x142 x143 x144 _ _ _ _ x149 x150 _ _ _ _ _ _ _ _ _ _ _ _ _ _ _ _ _ _ _ _ _ _ _ _ _ _ _ _ _ _ _ _ _ _ _ _ _ _ _ _ _ _ _ _ _ _ _ _ _ _ _ _ _ _ _ _ _ _ _ _ _ _ _ _ _ _ _ _ _ _ _ _ _ _ _ _ _ _ _ _ _ _ _ _ _ _ _ _ _ _ _ _ _ _ _ _ _ _ _ _ _ _ _ _ _ _ _ _ _ _ _ _ _ _ _ _ _ _ _ _ _ _ _ _ h275 =>
 n140 x141 x142 x143 x144 u u u u x149 x150 u u u u u u u u u u u u u u u u u u u u u u u u u u u u u u u u u u u u u u u u u u u u u u u u u u u u u u u u u u u u u u u u u u u u u u u u u u u u u u u u u u u u u u u u u u u u u u u u u u u u u u u u u u u u u u u u u u u u u u u u u u u u h275) fun j276 =>
 kBin .sub x7 x6 fun x277 =>
 kBin .leq x277 (qi 12) fun x278 =>
 brS x278 (kCall X 135 [x5, x6, x7] h139 fun _ h280 =>
 some (.tup [], h280)) (kEqI false x8 (qi 0) fun x281 =>
 brS x281 (kCall X 136 [x5, x6, x7] h139 fun _ h283 =>
 some (.tup [], h283)) (kNot x13 fun x284 =>
 jc (α := Cur 134) (fun x285 x286 x287 x288 _ _ _ _ x293 x294 x295 _ _ _ _ _ _ _ _ _ _ _ _ _ _ _ _ _ _ _ _ _ _ _ _ _ _ _ _ _ _ _ _ _ _ _ _ _ _ _ _ _ _ _ _ _ _ _ _ _ _ _ _ _ _ _ _ _ _ _ _ _ _ _ _ _ _ _ _ _ _ _ _ _ _ _ _ _ _ _ _ _ _ _ _ _ _ _ _ _ _ _ _ _ _ _ _ _ _ _ _ _ _ _ _ _ _ _ _ _ _ _ _ _ _ _ _ _ _ _ _ _ _ _ h419 =>
 kCall X 138 [x285, x286, x287] h419 fun x421 h422 =>
 kExt x421 0 fun x423 =>
 kExt x421 1 fun x424 =>
 kEqI false x424 (qi 2) fun x425 =>
 jc (α := Cur 134) (fun x426 x427 x428 x429 _ _ _ _ x434 x435 x436 x437 x438 _ _ _ _ _ _ _ _ _ _ _ _ _ _ _ _ _ _ _ _ _ _ _ _ _ _ _ _ _ _ _ _ _ _ _ _ _ _ _ _ _ _ _ _ _ _ _ _ _ _ _ _ _ _ _ _ _ _ _ _ _ _ _ _ _ _ _ _ _ _ _ _ _ _ _ _ _ _ _ _ _ _ _ _ _ _ _ _ _ _ _ _ _ _ _ _ _ _ _ _ _ _ _ _ _ _ _ _ _ _ _ _ _ _ _ _ _ _ _ _ _ h560 =>
 jc (α := JT) (fun x562 h563 =>
 kPick x434 x562 qf fun x565 =>
 jc (α := JT) (fun x566 h567 =>
 jc (α := JT) (fun x569 h570 =>
 kPick x565 x569 qf fun x572 =>
 jc (α := Cur 134) (fun x573 x574 x575 x576 _ _ _ _ x581 x582 x583 x584 _ _ _ _ _ _ _ _ _ _ _ _ _ _ _ _ _ _ _ _ _ _ _ _ _ _ _ _ _ _ _ _ _ _ _ _ _ _ _ _ _ _ _ _ _ _ _ _ _ _ _ _ _ _ _ _ _ _ _ _ _ _ _ _ _ _ _ _ _ _ _ _ _ _ _ _ _ _ _ _ _ _ _ _ _ _ _ _ _ _ _ _ _ _ _ _ _ _ _ _ _ _ _ _ _ _ _ _ _ _ _ _ _ _ _ _ _ _ _ _ _ _ h707 =>
 kBin .gtr x574 (qi 0) fun x709 =>
 jc (α := JT) (fun x710 h711 =>
 jc (α := JT) (fun x713 h714 =>
 jc (α := JT) (fun x716 h717 =>
 jc (α := JT) (fun x719 h720 =>
 jc (α := V → TH → PD → R) (fun x724 h725 d726 =>
 jc (α := JT) (fun x728 h729 =>
 jc (α := JT) (fun x731 h732 =>
 jc (α := JT) (fun x734 h735 =>
 jc (α := V → TH → PD → R) (fun x739 h740 d741 =>
 jc (α := JT) (fun x743 h744 =>
 jc (α := JT) (fun x746 h747 =>
 kPick x709 x746 qf fun x749 =>
 dokS [h740, h747] d741 (brS x749 (kCall X 142 [x573, x574, x575, x584] h747 fun x750 h751 =>
 j276 x573 x750 x575 x576 u u u u x581 x582 u u u u u u u u u u u u u u u u u u u u u u u u u u u u u u u u u u u u u u u u u u u u u u u u u u u u u u u u u u u u u u u u u u u u u u u u u u u u u u u u u u u u u u u u u u u u u u u u u u u u u u u u u u u u u u u u u u u u u u u u u u u u h751) (kCall X 143 [x573, x574, x575, x584] h747 fun x752 h753 =>
 kExt x752 0 fun x754 =>
 kExt x752 1 fun x755 =>
 kBin .sub x754 x574 fun x756 =>
 kBin .sub x575 x754 fun x757 =>
 kBin .quo x583 (qi 8) fun x758 =>
 kBin .lss x756 x757 fun x759 =>
 jc (α := Cur 134) (fun x760 x761 x762 x763 _ _ _ _ x768 x769 _ _ _ _ _ _ _ _ _ _ _ _ _ _ _ _ _ _ _ _ _ _ _ _ _ _ _ _ _ _ _ _ _ _ _ _ _ _ _ _ _ _ _ _ _ _ _ _ _ _ _ _ _ _ _ _ _ _ _ _ _ _ _ _ _ _ _ _ _ _ _ _ _ _ _ _ _ _ _ _ _ _ _ _ _ _ _ _ _ _ _ _ _ _ _ _ _ _ _ _ _ _ _ _ _ _ _ _ _ _ _ _ _ _ _ _ _ _ _ _ _ _ _ _ h894 =>
 j276 x760 x761 x762 x763 u u u u x768 x769 u u u u u u u u u u u u u u u u u u u u u u u u u u u u u u u u u u u u u u u u u u u u u u u u u u u u u u u u u u u u u u u u u u u u u u u u u u u u u u u u u u u u u u u u u u u u u u u u u u u u u u u u u u u u u u u u u u u u u u u u u u u u h894) fun j895 =>
 brS x759 (kBin .geq x756 x758 fun x896 =>
 kCall X 95 [x573, x574, x754, x576] h753 fun _ h898 =>
 kBin .add x754 (qi 1) fun x899 =>
 j895 x573 x899 x575 x576 u u u u x896 x755 u u u u u u u u u u u u u u u u u u u u u u u u u u u u u u u u u u u u u u u u u u u u u u u u u u u u u u u u u u u u u u u u u u u u u u u u u u u u u u u u u u u u u u u u u u u u u u u u u u u u u u u u u u u u u u u u u u u u u u u u u u u u h898) (kBin .geq x757 x758 fun x900 =>
 kBin .add x754 (qi 1) fun x901 =>
 kCall X 95 [x573, x901, x575, x576] h753 fun _ h903 =>
 j895 x573 x574 x754 x576 u u u u x900 x755 u u u u u u u u u u u u u u u u u u u u u u u u u u u u u u u u u u u u u u u u u u u u u u u u u u u u u u u u u u u u u u u u u u u u u u u u u u u u u u u u u u u u u u u u u u u u u u u u u u u u u u u u u u u u u u u u u u u u u u u u u u u u h903)))) fun j748 =>
 wtS x709 true (kNot x743 fun x904 =>
 j748 x904 h744) (j748 u h744)) fun j745 =>
 wtS x709 true (kCall X 141 [x724, x739] h740 fun x905 h906 =>
 j745 x905 h906) (j745 u h740)) fun j742 =>
 wtS x709 true (kL1 x734 h735 fun x907 =>
 j742 x907 h735 d726) (j742 u h735 d726)) fun j736 =>
 wtS x709 true (kIS 1 x728 x731 fun x908 =>
 j736 x908 h732) (j736 u h732)) fun j733 =>
 wtS x709 true (j733 x584 h729) (j733 u h729)) fun j730 =>
 wtS x709 true (j730 x573 h725) (j730 u h725)) fun j727 =>
 wtS x709 true (kL1 x719 h720 fun x909 =>
 j727 x909 h720 []) (j727 u h720 [])) fun j721 =>
 wtS x709 true (kIS 1 x710 x716 fun x910 =>
 j721 x910 h717) (j721 u h717)) fun j718 =>
 wtS x709 true (kBin .sub x713 (qi 1) fun x911 =>
 j718 x911 h714) (j718 u h714)) fun j715 =>
 wtS x709 true (j715 x574 h711) (j715 u h711)) fun j712 =>
 wtS x709 true (j712 x573 h707) (j712 u h707)) fun j708 =>
 brS x572 (kCall X 140 [x426, x427, x428] h570 fun x912 h913 =>
 brS x912 (some (.tup [], h913)) (j708 x426 x427 x428 x429 u u u u x434 x435 x436 x437 u u u u u u u u u u u u u u u u u u u u u u u u u u u u u u u u u u u u u u u u u u u u u u u u u u u u u u u u u u u u u u u u u u u u u u u u u u u u u u u u u u u u u u u u u u u u u u u u u u u u u u u u u u u u u u u u u u u u u u u u u u h913)) (j708 x426 x427 x428 x429 u u u u x434 x435 x436 x437 u u u u u u u u u u u u u u u u u u u u u u u u u u u u u u u u u u u u u u u u u u u u u u u u u u u u u u u u u u u u u u u u u u u u u u u u u u u u u u u u u u u u u u u u u u u u u u u u u u u u u u u u u u u u u u u u u u u u u u u u u u h570)) fun j571 =>
 wtS x565 true (kEqI false x566 (qi 1) fun x914 =>
 j571 x914 h567) (j571 u h567)) fun j568 =>
 wtS x565 true (j568 x438 h563) (j568 u h563)) fun j564 =>
 wtS x434 true (j564 x435 h560) (j564 u h560)) fun j561 =>
 brS x425 (kCall X 139 [x285, x286, x287] h422 fun _ h916 =>
 kBin .sub x287 (qi 1) fun x917 =>
 kBin .sub x423 x286 fun x918 =>
 kBin .sub x917 x918 fun x919 =>
 j561 x285 x286 x287 x288 u u u u x293 x294 x295 x919 (qi 1) u u u u u u u u u u u u u u u u u u u u u u u u u u u u u u u u u u u u u u u u u u u u u u u u u u u u u u u u u u u u u u u u u u u u u u u u u u u u u u u u u u u u u u u u u u u u u u u u u u u u u u u u u u u u u u u u u u u u u u u u u h916) (j561 x285 x286 x287 x288 u u u u x293 x294 x295 x423 x424 u u u u u u u u u u u u u u u u u u u u u u u u u u u u u u u u u u u u u u u u u u u u u u u u u u u u u u u u u u u u u u u u u u u u u u u u u u u u u u u u u u u u u u u u u u u u u u u u u u u u u u u u u u u u u u u u u u u u u u u u u h422)) fun j420 =>
 brS x284 (kCall X 137 [x5, x6, x7] h139 fun _ h921 =>
 kBin .sub x8 (qi 1) fun x922 =>
 j420 x5 x6 x7 x922 u u u u x13 x14 x277 u u u u u u u u u u u u u u u u u u u u u u u u u u u u u u u u u u u u u u u u u u u u u u u u u u u u u u u u u u u u u u u u u u u u u u u u u u u u u u u u u u u u u u u u u u u u u u u u u u u u u u u u u u u u u u u u u u u u u u u u u u u h921) (j420 x5 x6 x7 x8 u u u u x13 x14 x277 u u u u u u u u u u u u u u u u u u u u u u u u u u u u u u u u u u u u u u u u u u u u u u u u u u u u u u u u u u u u u u u u u u u u u u u u u u u u u u u u u u u u u u u u u u u u u u u u u u u u u u u u u u u u u u u u u u u u u u u u u u u h139)))) k x0 x1 x2 x3 u u u u qt qt u u u u u u u u u u u u u u u u u u u u u u u u u u u u u u u u u u u u u u u u u u u u u u u u u u u u u u u u u u u u u u u u u u u u u u u u u u u u u u u u u u u u u u u u u u u u u u u u u u u u u u u u u u u u u u u u u u u u u u u u u u u u h4)
theorem p95_ok (k : Nat) : p95 k = funcS k 4 lit95 := by kernel_rfl
def p96 (_ : Nat) : CtxK → List V → TH → R := fun X => ap 1 (fun x0 h1 =>
 brS qf (kConv .u32 x0 fun x2 =>
 kCall X 144 [x2] h1 fun x3 h4 =>
 some (x3, h4)) (kCall X 145 [x0] h1 fun x5 h6 =>
 some (x5, h6)))
theorem p96_ok (k : Nat) : p96 k = funcS k 1 lit96 := by kernel_rfl
def p97 (k : Nat) : CtxK → List V → TH → R := fun X => ap 2 (fun x0 x1 h2 =>
 kNew (V.cellsR x0) h2 fun x3 h4 =>
 kLA 16 x3 h4 fun x5 =>
 kCall X 146 [x5] h4 fun x6 h7 =>
 kNot x6 fun x8 =>
 jc (α := JT) (fun x9 h10 =>
 jc (α := JT) (fun x12 h13 =>
 kPick x8 qt x12 fun x15 =>
 brS x15 (some (.nils, h13)) (kLA 16 x3 h13 fun x18 =>
 kLA 16 x3 h13 fun x21 =>
 kCall X 147 [x21] h13 fun x22 h23 =>
 kB [(qw 0), qf, (qi 0), (qb 0), qf, (qi 0), (qb 0), qf, (qi 0), (qb 0), qf, (qi 0), (qb 0), qf, (qi 0), (qb 0), (qb 0), .nils, .nils] [(0, 16, x18), (16, 1, x1), (17, 1, x22)] fun x24 =>
 kNew (V.cellsR x24) h23 fun x25 h26 =>
 dokS [h13, h26] ((fun h16 => kLA 16 x3 h16 fun x17 =>
 some (x17, h16), x18, 0, 1) :: []) (lp (α := Cur 39) (zN 39) (fun n67 _ _ _ _ _ x32 x33 _ _ _ _ _ _ _ _ _ _ _ _ _ _ _ _ _ _ _ _ _ _ _ _ _ _ _ _ _ _ _ _ h66 =>
 kBin .lss x33 (qi 3) fun x68 =>
 jc (α := JT) (fun x69 h70 =>
 jc (α := JT) (fun x72 h73 =>
 jc (α := JT) (fun x75 h76 =>
 jc (α := JT) (fun x78 h79 =>
 jc (α := JT) (fun x81 h82 =>
 jc (α := JT) (fun x84 h85 =>
 kPick x68 x84 qf fun x87 =>
 brS x87 (kCall X 148 [x32, x33] h85 fun _ h89 =>
 kBin .add x33 (qi 1) fun x90 =>
 n67 u u u u u x32 x90 u u u u u u u u u u u u u u u u u u u u u u u u u u u u u u u u h89) (kNilc x32 fun x91 =>
 kFA 18 x91 fun x92 =>
 kL1 x92 h85 fun x93 =>
 some (x93, h85))) fun j86 =>
 wtS x68 true (kBin .gtr x81 (qi 0) fun x94 =>
 j86 x94 h82) (j86 u h82)) fun j83 =>
 wtS x68 true (kLen x78 fun x95 =>
 j83 x95 h79) (j83 u h79)) fun j80 =>
 wtS x68 true (kL1 x75 h76 fun x96 =>
 j80 x96 h76) (j80 u h76)) fun j77 =>
 wtS x68 true (kFA 17 x72 fun x97 =>
 j77 x97 h73) (j77 u h73)) fun j74 =>
 wtS x68 true (kNilc x69 fun x98 =>
 j74 x98 h70) (j74 u h70)) fun j71 =>
 wtS x68 true (j71 x32 h66) (j71 u h66)) k u u u u u x25 (qi 0) u u u u u u u u u u u u u u u u u u u u u u u u u u u u u u u u h26))) fun j14 =>
 wtS x8 false (kBin .geq x9 (qb 4) fun x99 =>
 j14 x99 h10) (j14 u h10)) fun j11 =>
 wtS x8 false (j11 x1 h7) (j11 u h7))
theorem p97_ok (k : Nat) : p97 k = funcS k 2 lit97 := by kernel_rfl
def p99 (_ : Nat) : CtxK → List V → TH → R := fun X => ap 1 (fun x0 h1 =>
 kCall X 149 [.nils, x0] h1 fun x2 h3 =>
 some (x2, h3))
theorem p99_ok (k : Nat) : p99 k = funcS k 1 lit99 := by kernel_rfl
def p101 (k : Nat) : CtxK → List V → TH → R := fun X => ap 2 (fun x0 x1 h2 =>
 kNew (V.cellsR x0) h2 fun x3 h4 =>
 kFA 1 x3 fun x5 =>
 kLA 15 x5 h4 fun x6 =>
 lp (α := Cur 23) (zN 23) (fun n31 _ x8 _ _ _ x12 _ _ _ x16 x17 _ _ _ _ _ _ _ _ _ _ _ _ h30 =>
 kBin .lss x17 (qi 5) fun x32 =>
 brS x32 (kP (indexE (some (5, 3, true)) x16 x17) fun x33 =>
 kNew [qf, (qi 0), (qb 0)] h30 fun x34 h35 =>
 kSA 3 x34 x33 h35 fun _ h37 =>
 kLA 3 x34 h37 fun x38 =>
 kCv X x8 [x38] h37 fun x39 h40 =>
 jc (α := Cur 23) (fun _ x42 _ _ _ x46 _ _ _ x50 x51 _ _ _ _ _ _ _ _ _ _ _ _ h64 =>
 kBin .add x51 (qi 1) fun x66 =>
 n31 u x42 u u u x46 u u u x50 x66 u u u u u u u u u u u u h64) fun j65 =>
 brS x39 (kBS 1 [(qi 0)] 1 [(0, 1, x17)] h40 fun x67 h68 =>
 kAp 1 8 x12 x67 h68 fun x69 h70 =>
 j65 u x8 u u u x69 u u u x16 x17 u u u u u u u u u u u u h70) (j65 u x8 u u u x12 u u u x16 x17 u u u u u u u u u u u u h40)) (some (x12, h30))) k u x1 u u u .nils u u u x6 (qi 0) u u u u u u u u u u u u h4)
theorem p101_ok (k : Nat) : p101 k = funcS k 2 lit101 := by kernel_rfl
def p104 (_ : Nat) : CtxK → List V → TH → R := fun X => ap 4 (fun x0 x1 x2 x3 h4 =>
 kCall X 150 [x0, x1] h4 fun x5 h6 =>
 kLen x5 fun x7 =>
 kEqI false x7 (qi 0) fun x8 =>
 brS x8 (some (.nils, h6)) (kB [.nils, (qw 0)] [(0, 1, x2), (1, 1, x3)] fun x9 =>
 kNew [.nilfn] h6 fun x10 h11 =>
 kS1 x10 (.fn 151 [x9] []) h11 fun _ h13 =>
 kLen x5 fun x14 =>
 kBin .sub x14 (qi 1) fun x15 =>
 kP (sliceE 2 x5 none (some x15)) fun x16 =>
 kCall X 152 [x16, (.fn 153 [] [x10])] h13 fun x17 h18 =>
 some (x17, h18)))
theorem p104_ok (k : Nat) : p104 k = funcS k 4 lit104 := by kernel_rfl
def p105 (_ : Nat) : CtxK → List V → TH → R := fun X => ap 2 (fun x0 x1 h2 =>
 kCall X 134 [x0, x1] h2 fun x3 h4 =>
 kBin .geq x3 (qi 0) fun x5 =>
 some (x5, h4))
theorem p105_ok (k : Nat) : p105 k = funcS k 2 lit105 := by kernel_rfl
def p113 (_ : Nat) : CtxK → List V → TH → R := fun X => ap 3 (fun x0 x1 x2 h3 =>
 kNew (V.cellsR x2) h3 fun x4 h5 =>
 kNilc x0 fun x6 =>
 kFA 3 x6 fun x7 =>
 kFA 0 x7 fun x8 =>
 kL1 x8 h5 fun x11 =>
 kNilc x0 fun x12 =>
 kFA 52 x12 fun x13 =>
 kL1 x13 h5 fun x16 =>
 kEqI true x11 x16 fun x17 =>
 dokS [h5] [] (brS x17 (some (.nils, h5)) (kLA 131 x4 h5 fun x18 =>
 kCall X 110 [x18] h5 fun x19 h20 =>
 kCall X 65 [x0, x1, x19] h20 fun x21 h22 =>
 kNew zr1 h22 fun x23 h24 =>
 kSA 131 x23 x21 h24 fun _ h26 =>
 kCall X 115 [x0] h26 fun x27 h28 =>
 kFA 122 x23 fun x29 =>
 kS1 x29 x27 h28 fun _ h31 =>
 kLA 131 x23 h31 fun x32 =>
 kBS 131 zr1 1 [(0, 131, x32)] h31 fun x33 h34 =>
 some (x33, h34))))
theorem p113_ok (k : Nat) : p113 k = funcS k 3 lit113 := by kernel_rfl
def p119 (k : Nat) : CtxK → List V → TH → R := fun X => ap 1 (fun x0 h1 =>
 kNilc x0 fun x2 =>
 kFA 310 x2 fun x3 =>
 kLA 42 x3 h1 fun x4 =>
 lp (α := Cur 66) (zN 66) (fun n72 x5 _ _ x8 _ _ _ _ _ x14 x15 _ _ _ _ _ _ _ _ _ _ _ _ _ _ _ _ _ _ _ _ _ _ _ _ _ _ _ _ _ _ _ _ _ _ _ _ _ _ _ _ _ _ _ _ _ _ _ _ _ _ _ _ _ _ _ h71 =>
 kBin .lss x15 (qi 3) fun x73 =>
 brS x73 (jc (α := Cur 66) (fun x74 _ _ x77 _ _ _ _ _ x83 x84 _ _ _ _ _ _ _ _ _ _ _ _ _ _ _ _ _ _ _ _ _ _ _ _ _ _ _ _ _ _ _ _ _ _ _ _ _ _ _ _ _ _ _ _ _ _ _ _ _ _ _ _ _ _ _ h140 =>
 kBin .add x84 (qi 1) fun x142 =>
 n72 x74 u u x77 u u u u u x83 x142 u u u u u u u u u u u u u u u u u u u u u u u u u u u u u u u u u u u u u u u u u u u u u u u u u u u u u u u h140) fun j141 =>
 kP (indexE (some (3, 14, true)) x14 x15) fun x143 =>
 kNew [(qb 0), (qw 0), (qb 0), (qb 0), (qb 0), qs, (qb 0), qs, (qw 0), qf, qf, qf, qf, qf] h71 fun x144 h145 =>
 kSA 14 x144 x143 h145 fun _ h147 =>
 kFA 0 x144 fun x148 =>
 kFA 1 x148 fun x149 =>
 kL1 x149 h147 fun x152 =>
 kEqI false x152 (qw 0) fun x153 =>
 jc (α := JT) (fun x154 h155 =>
 jc (α := V → TH → PD → R) (fun x159 h160 d161 =>
 jc (α := JT) (fun x163 h164 =>
 jc (α := JT) (fun x166 h167 =>
 jc (α := JT) (fun x169 h170 =>
 jc (α := V → TH → PD → R) (fun x174 h175 d176 =>
 jc (α := JT) (fun x178 h179 =>
 jc (α := JT) (fun x181 h182 =>
 kPick x153 qt x181 fun x184 =>
 jc (α := JT) (fun x185 h186 =>
 jc (α := JT) (fun x188 h189 =>
 jc (α := JT) (fun x191 h192 =>
 jc (α := V → TH → PD → R) (fun x196 h197 d198 =>
 jc (α := JT) (fun x200 h201 =>
 jc (α := JT) (fun x203 h204 =>
 jc (α := JT) (fun x206 h207 =>
 jc (α := JT) (fun x209 h210 =>
 jc (α := JT) (fun x212 h213 =>
 jc (α := JT) (fun x215 h216 =>
 jc (α := V → TH → PD → R) (fun x220 h221 d222 =>
 jc (α := JT) (fun x224 h225 =>
 jc (α := JT) (fun x227 h228 =>
 jc (α := JT) (fun x230 h231 =>
 jc (α := V → TH → PD → R) (fun x235 h236 d237 =>
 jc (α := JT) (fun x239 h240 =>
 jc (α := V → TH → PD → R) (fun x244 h245 d246 =>
 jc (α := JT) (fun x248 h249 =>
 jc (α := JT) (fun x251 h252 =>
 kPick x184 qt x251 fun x254 =>
 dokS [h175, h252] d246 (brS x254 (j141 x5 u u x8 u u u u u x14 x15 u u u u u u u u u u u u u u u u u u u u u u u u u u u u u u u u u u u u u u u u u u u u u u u u u u u u u u u h252) (kFA 0 x144 fun x255 =>
 kLA 6 x255 h252 fun x256 =>
 kFA 6 x144 fun x257 =>
 kLA 2 x257 h252 fun x258 =>
 kCall X 118 [x5, x256, x258] h252 fun x259 h260 =>
 kBS 131 zr1 1 [(0, 131, x259)] h260 fun x261 h262 =>
 kAp 131 1400 x8 x261 h262 fun x263 h264 =>
 kB [(qb 0), (qw 0), (qb 0), (qb 0), (qb 0), qs, (qb 0), qs, (qw 0), qf, qf, qf, qf, qf] [] fun x265 =>
 kNilc x5 fun x266 =>
 kFA 310 x266 fun x267 =>
 kIA 3 14 x267 x15 fun x268 =>
 kSA 14 x268 x265 h264 fun _ h270 =>
 j141 x5 u u x263 u u u u u x14 x15 u u u u u u u u u u u u u u u u u u u u u u u u u u u u u u u u u u u u u u u u u u u u u u u u u u u u u u u h270))) fun j253 =>
 wtS x184 false (kPick x206 x248 qf fun x271 =>
 j253 x271 h249) (j253 u h249)) fun j250 =>
 wtS x206 true (kBin .leq x235 x244 fun x272 =>
 j250 x272 h245) (j250 u h245)) fun j247 =>
 wtS x206 true (kL1 x239 h240 fun x273 =>
 j247 x273 h240 d237) (j247 u h240 d237)) fun j241 =>
 wtS x206 true (kFA 8 x144 fun x274 =>
 j241 x274 h236) (j241 u h236)) fun j238 =>
 wtS x206 true (kL1 x230 h231 fun x275 =>
 j238 x275 h231 d222) (j238 u h231 d222)) fun j232 =>
 wtS x206 true (kFA 1 x227 fun x276 =>
 j232 x276 h228) (j232 u h228)) fun j229 =>
 wtS x206 true (kFA 0 x224 fun x277 =>
 j229 x277 h225) (j229 u h225)) fun j226 =>
 wtS x206 true (kIS 15 x220 (qi 0) fun x278 =>
 j226 x278 h221) (j226 u h221)) fun j223 =>
 wtS x206 true (kL1 x215 h216 fun x279 =>
 j223 x279 h216 d198) (j223 u h216 d198)) fun j217 =>
 wtS x206 true (kFA 309 x212 fun x280 =>
 j217 x280 h213) (j217 u h213)) fun j214 =>
 wtS x206 true (kNilc x209 fun x281 =>
 j214 x281 h210) (j214 u h210)) fun j211 =>
 wtS x206 true (j211 x5 h207) (j211 u h207)) fun j208 =>
 wtS x184 false (j208 x203 h204) (j208 u h204)) fun j205 =>
 wtS x184 false (kBin .gtr x200 (qi 0) fun x282 =>
 j205 x282 h201) (j205 u h201)) fun j202 =>
 wtS x184 false (kLen x196 fun x283 =>
 j202 x283 h197) (j202 u h197)) fun j199 =>
 wtS x184 false (kL1 x191 h192 fun x284 =>
 j199 x284 h192 d176) (j199 u h192 d176)) fun j193 =>
 wtS x184 false (kFA 309 x188 fun x285 =>
 j193 x285 h189) (j193 u h189)) fun j190 =>
 wtS x184 false (kNilc x185 fun x286 =>
 j190 x286 h186) (j190 u h186)) fun j187 =>
 wtS x184 false (j187 x5 h182) (j187 u h182)) fun j183 =>
 wtS x153 false (kNot x178 fun x287 =>
 j183 x287 h179) (j183 u h179)) fun j180 =>
 wtS x153 false (kCall X 116 [x159, x174] h175 fun x288 h289 =>
 j180 x288 h289) (j180 u h175)) fun j177 =>
 wtS x153 false (kL1 x169 h170 fun x290 =>
 j177 x290 h170 d161) (j177 u h170 d161)) fun j171 =>
 wtS x153 false (kFA 53 x166 fun x291 =>
 j171 x291 h167) (j171 u h167)) fun j168 =>
 wtS x153 false (kNilc x163 fun x292 =>
 j168 x292 h164) (j168 u h164)) fun j165 =>
 wtS x153 false (j165 x5 h160) (j165 u h160)) fun j162 =>
 wtS x153 false (kLA 5 x154 h155 fun x293 =>
 j162 x293 h155 []) (j162 u h155 [])) fun j156 =>
 wtS x153 false (kFA 9 x144 fun x294 =>
 j156 x294 h147) (j156 u h147)) (some (x8, h71))) k x0 u u .nils u u u u u x4 (qi 0) u u u u u u u u u u u u u u u u u u u u u u u u u u u u u u u u u u u u u u u u u u u u u u u u u u u u u u u h1)
theorem p119_ok (k : Nat) : p119 k = funcS k 1 lit119 := by kernel_rfl
def p123 (_ : Nat) : CtxK → List V → TH → R := fun _ => ap 1 (fun x0 h1 =>
 kBin .geq x0 (qb 10) fun x2 =>
 jc (α := JT) (fun x3 h4 =>
 jc (α := JT) (fun x6 h7 =>
 kPick x2 x6 qf fun x9 =>
 some (x9, h7)) fun j8 =>
 wtS x2 true (kBin .lss x3 (qb 15) fun x10 =>
 j8 x10 h4) (j8 u h4)) fun j5 =>
 wtS x2 true (j5 x0 h1) (j5 u h1))
theorem p123_ok (k : Nat) : p123 k = funcS k 1 lit123 := by kernel_rfl
def p126 (_ : Nat) : CtxK → List V → TH → R := fun X => ap 2 (fun x0 x1 h2 =>
 kCall X 167 [x0, x1] h2 fun x3 h4 =>
 kBin .geq x3 (qi 0) fun x5 =>
 some (x5, h4))
theorem p126_ok (k : Nat) : p126 k = funcS k 2 lit126 := by kernel_rfl
def p135 (k : Nat) : CtxK → List V → TH → R := fun X => ap 3 (fun x0 x1 x2 h3 =>
 kBin .add x1 (qi 1) fun x4 =>
 lp (α := Cur 49) (zN 49) (fun n55 x5 x6 x7 _ _ _ x11 _ _ _ _ _ _ _ _ _ _ _ _ _ _ _ _ _ _ _ _ _ _ _ _ _ _ _ _ _ _ _ _ _ _ _ _ _ _ _ _ _ _ h54 =>
 kBin .lss x11 x7 fun x56 =>
 brS x56 (lp (α := Cur 49) (zN 49) (fun n107 x57 x58 x59 _ _ _ x63 x64 _ _ _ _ _ _ _ _ _ _ _ _ _ _ _ _ _ _ _ _ _ _ _ _ _ _ _ _ _ _ _ _ _ _ _ _ _ _ _ _ _ h106 =>
 kBin .gtr x64 x58 fun x108 =>
 jc (α := JT) (fun x109 h110 =>
 jc (α := JT) (fun x112 h113 =>
 jc (α := JT) (fun x115 h116 =>
 jc (α := V → TH → PD → R) (fun x120 h121 d122 =>
 jc (α := JT) (fun x124 h125 =>
 jc (α := JT) (fun x127 h128 =>
 jc (α := JT) (fun x130 h131 =>
 jc (α := JT) (fun x133 h134 =>
 jc (α := V → TH → PD → R) (fun x138 h139 d140 =>
 jc (α := JT) (fun x142 h143 =>
 kPick x108 x142 qf fun x145 =>
 dokS [h139, h143] d140 (brS x145 (kBin .sub x64 (qi 1) fun x146 =>
 kBin .sub x64 (qi 1) fun x147 =>
 kIS 1 x57 x147 fun x148 =>
 kL1 x148 h143 fun x151 =>
 kIS 1 x57 x64 fun x152 =>
 kL1 x152 h143 fun x155 =>
 kIS 1 x57 x64 fun x156 =>
 kS1 x156 x151 h143 fun _ h158 =>
 kIS 1 x57 x146 fun x159 =>
 kS1 x159 x155 h158 fun _ h161 =>
 dokS [h143, h158, h161] [] (kBin .sub x64 (qi 1) fun x162 =>
 n107 x57 x58 x59 u u u x63 x162 u u u u u u u u u u u u u u u u u u u u u u u u u u u u u u u u u u u u u u u u u h161)) (kBin .add x63 (qi 1) fun x163 =>
 n55 x57 x58 x59 u u u x163 u u u u u u u u u u u u u u u u u u u u u u u u u u u u u u u u u u u u u u u u u u h143))) fun j144 =>
 wtS x108 true (kCall X 141 [x120, x138] h139 fun x164 h165 =>
 j144 x164 h165) (j144 u h139)) fun j141 =>
 wtS x108 true (kL1 x133 h134 fun x166 =>
 j141 x166 h134 d122) (j141 u h134 d122)) fun j135 =>
 wtS x108 true (kIS 1 x124 x130 fun x167 =>
 j135 x167 h131) (j135 u h131)) fun j132 =>
 wtS x108 true (kBin .sub x127 (qi 1) fun x168 =>
 j132 x168 h128) (j132 u h128)) fun j129 =>
 wtS x108 true (j129 x64 h125) (j129 u h125)) fun j126 =>
 wtS x108 true (j126 x57 h121) (j126 u h121)) fun j123 =>
 wtS x108 true (kL1 x115 h116 fun x169 =>
 j123 x169 h116 []) (j123 u h116 [])) fun j117 =>
 wtS x108 true (kIS 1 x109 x112 fun x170 =>
 j117 x170 h113) (j117 u h113)) fun j114 =>
 wtS x108 true (j114 x64 h110) (j114 u h110)) fun j111 =>
 wtS x108 true (j111 x57 h106) (j111 u h106)) k x5 x6 x7 u u u x11 x11 u u u u u u u u u u u u u u u u u u u u u u u u u u u u u u u u u u u u u u u u u h54) (some (.tup [], h54))) k x0 x1 x2 u u u x4 u u u u u u u u u u u u u u u u u u u u u u u u u u u u u u u u u u u u u u u u u u h3)
theorem p135_ok (k : Nat) : p135 k = funcS k 3 lit135 := by kernel_rfl
def p146 (k : Nat) : CtxK → List V → TH → R := fun _ => ap 1 (fun x0 h1 =>
 kNew (V.cellsR x0) h1 fun x2 h3 =>
 kFA 1 x2 fun x4 =>
 kLA 15 x4 h3 fun x5 =>
 lp (α := Cur 32) (zN 32) (fun n39 _ x7 _ _ _ _ x12 x13 _ _ _ _ _ _ _ _ _ _ _ _ _ _ _ _ _ _ _ _ _ _ _ _ h38 =>
 kBin .lss x13 (qi 5) fun x40 =>
 brS x40 (kP (indexE (some (5, 3, true)) x12 x13) fun x41 =>
 kNew [qf, (qi 0), (qb 0)] h38 fun x42 h43 =>
 kSA 3 x42 x41 h43 fun _ h45 =>
 kFA 1 x42 fun x46 =>
 kL1 x46 h45 fun x47 =>
 kBin .lss x47 (qi 0) fun x48 =>
 jc (α := JT) (fun x49 h50 =>
 jc (α := JT) (fun x52 h53 =>
 jc (α := JT) (fun x55 h56 =>
 kPick x48 qt x55 fun x58 =>
 jc (α := JT) (fun x59 h60 =>
 jc (α := JT) (fun x62 h63 =>
 jc (α := JT) (fun x65 h66 =>
 kPick x58 qt x65 fun x68 =>
 brS x68 (some (qf, h66)) (kBin .add x13 (qi 1) fun x69 =>
 n39 u x7 u u u u x12 x69 u u u u u u u u u u u u u u u u u u u u u u u u h66)) fun j67 =>
 wtS x58 false (kBin .geq x62 (qb 8) fun x70 =>
 j67 x70 h63) (j67 u h63)) fun j64 =>
 wtS x58 false (kL1 x59 h60 fun x71 =>
 j64 x71 h60) (j64 u h60)) fun j61 =>
 wtS x58 false (kFA 2 x42 fun x72 =>
 j61 x72 h56) (j61 u h56)) fun j57 =>
 wtS x48 false (kBin .gtr x52 (qi 16) fun x73 =>
 j57 x73 h53) (j57 u h53)) fun j54 =>
 wtS x48 false (kL1 x49 h50 fun x74 =>
 j54 x74 h50) (j54 u h50)) fun j51 =>
 wtS x48 false (kFA 1 x42 fun x75 =>
 j51 x75 h45) (j51 u h45)) (kFA 0 x7 fun x76 =>
 kL1 x76 h38 fun x77 =>
 kBin .geq x77 (qw 1) fun x78 =>
 jc (α := JT) (fun x79 h80 =>
 jc (α := JT) (fun x82 h83 =>
 jc (α := JT) (fun x85 h86 =>
 kPick x78 x85 qf fun x88 =>
 some (x88, h86)) fun j87 =>
 wtS x78 true (kBin .leq x82 (qw 60) fun x89 =>
 j87 x89 h83) (j87 u h83)) fun j84 =>
 wtS x78 true (kL1 x79 h80 fun x90 =>
 j84 x90 h80) (j84 u h80)) fun j81 =>
 wtS x78 true (kFA 0 x7 fun x91 =>
 j81 x91 h38) (j81 u h38))) k u x2 u u u u x5 (qi 0) u u u u u u u u u u u u u u u u u u u u u u u u h3)
theorem p146_ok (k : Nat) : p146 k = funcS k 1 lit146 := by kernel_rfl
def p148 (k : Nat) : CtxK → List V → TH → R := fun X => ap 2 (fun x0 x1 h2 =>
 lp (α := Cur 31) (zN 31) (fun n35 x3 x4 _ _ x7 _ _ x10 _ _ _ _ _ _ _ _ _ _ _ _ _ _ _ _ _ _ _ _ _ _ _ h34 =>
 kBin .lss x10 (qi 20) fun x36 =>
 brS x36 (kBin .mul x10 (qi 3) fun x37 =>
 kBin .add x4 x37 fun x38 =>
 kCv X x7 [x3, x38] h34 fun x39 h40 =>
 kCall X 180 [x3, x39] h40 fun x41 h42 =>
 brS x41 (kNilc x3 fun x43 =>
 kFA 18 x43 fun x44 =>
 kL1 x44 h42 fun x45 =>
 kBS 1 [(qi 0)] 1 [(0, 1, x39)] h42 fun x46 h47 =>
 kAp 1 8 x45 x46 h47 fun x48 h49 =>
 kNilc x3 fun x50 =>
 kFA 18 x50 fun x51 =>
 kS1 x51 x48 h49 fun _ h53 =>
 some (.tup [], h53)) (kBin .add x10 (qi 1) fun x54 =>
 n35 x3 x4 u u x7 u u x54 u u u u u u u u u u u u u u u u u u u u u u u h42)) (some (.tup [], h34))) k x0 x1 u u (.fn 179 [] []) u u (qi 0) u u u u u u u u u u u u u u u u u u u u u u u h2)
theorem p148_ok (k : Nat) : p148 k = funcS k 2 lit148 := by kernel_rfl
def p159 (_ : Nat) : CtxK → List V → TH → R := fun _ => ap 2 (fun x0 x1 h2 =>
 kIA 5 1 x1 x0 fun x3 =>
 kL1 x3 h2 fun x4 =>
 kNot x4 fun x5 =>
 some (x5, h2))
theorem p159_ok (k : Nat) : p159 k = funcS k 2 lit159 := by kernel_rfl
def p163 (_ : Nat) : CtxK → List V → TH → R := fun X => ap 3 (fun x0 x1 x2 h3 =>
 kNew (V.cellsR x2) h3 fun x4 h5 =>
 kNew zr1 h5 fun x6 h7 =>
 kCall X 65 [x0, (qb 11), x1] h7 fun x8 h9 =>
 kNew zr1 h9 fun x10 h11 =>
 kSA 131 x10 x8 h11 fun _ h13 =>
 kLA 8 x4 h13 fun x14 =>
 kFA 114 x10 fun x15 =>
 kSA 8 x15 x14 h13 fun _ h17 =>
 kLA 131 x10 h17 fun x18 =>
 kSA 131 x6 x18 h17 fun _ h20 =>
 rsS [.cell 6 true 131] [x0, x1, x2, u, u, x4, x6, x10, x0, x1, x8, x14, x15, x18] h20)
theorem p163_ok (k : Nat) : p163 k = funcS k 3 lit163 := by kernel_rfl
def p168 (_ : Nat) : CtxK → List V → TH → R := fun X => ap 2 (fun x0 x1 h2 =>
 kNew (V.cellsR x1) h2 fun x3 h4 =>
 kFA 4 x3 fun x5 =>
 kL1 x5 h4 fun x6 =>
 kConv .i64 x6 fun x7 =>
 kFA 5 x3 fun x8 =>
 kL1 x8 h4 fun x9 =>
 kP (lenV true x9) fun x10 =>
 kBin .add x7 x10 fun x11 =>
 kBin .gtr x11 (qi 16) fun x12 =>
 brS x12 (some ((qb 2), h4)) (kNilc x0 fun x13 =>
 kFA 0 x13 fun x14 =>
 kFA 1 x14 fun x15 =>
 kL1 x15 h4 fun x16 =>
 kCall X 191 [x16, x11] h4 fun x17 h18 =>
 kNilc x0 fun x19 =>
 kFA 0 x19 fun x20 =>
 kFA 0 x20 fun x21 =>
 kS1 x21 qt h18 fun _ h23 =>
 kFA 4 x3 fun x24 =>
 kL1 x24 h23 fun x27 =>
 kP (subsE x17 none (some x27)) fun x28 =>
 kFA 5 x3 fun x29 =>
 kL1 x29 h23 fun x32 =>
 kBin .add x28 x32 fun x33 =>
 kP (subsE x17 (some x11) none) fun x34 =>
 kBin .add x33 x34 fun x35 =>
 kNilc x0 fun x36 =>
 kFA 0 x36 fun x37 =>
 kFA 1 x37 fun x38 =>
 kS1 x38 x35 h23 fun _ h40 =>
 dokS [h23, h40] [] (some ((qb 0), h40))))
theorem p168_ok (k : Nat) : p168 k = funcS k 2 lit168 := by kernel_rfl
def p193 (_ : Nat) : CtxK → List V → TH → R := fun X => ap 4 (fun x0 x1 x2 x3 h4 =>
 kConv .u32 x0 fun x5 =>
 kConv .u32 x1 fun x6 =>
 kConv .u32 x2 fun x7 =>
 kCall X 199 [x5, x6, x7] h4 fun x8 h9 =>
 kCall X 198 [x8, x3] h9 fun x10 h11 =>
 some (x10, h11))
theorem p193_ok (k : Nat) : p193 k = funcS k 4 lit193 := by kernel_rfl
def p207 (k : Nat) : CtxK → List V → TH → R := fun X => ap 1 (fun x0 h1 =>
 kP (minE true x0 (qw 1)) fun x2 =>
 kP (minE false x2 (qw 65536)) fun x3 =>
 kCall X 144 [x3] h1 fun x4 h5 =>
 kBin .sub x4 (qi 1) fun x6 =>
 kConv .u64 x3 fun x7 =>
 kBin .sub (qi 31) x6 fun x8 =>
 kBin .shl x7 x8 fun x9 =>
 kB [(.int .u64 0), (qi 0)] [(0, 1, x9)] fun x10 =>
 kNew (V.cellsR x10) h5 fun x11 h12 =>
 lp (α := Cur 33) (zN 33) (fun n47 _ _ _ x16 x17 x18 _ _ _ _ _ _ _ _ _ _ _ _ _ _ _ x34 _ _ _ _ _ _ _ _ _ _ _ h46 =>
 kBin .lss x34 (qi 16) fun x48 =>
 brS x48 (kCv X x18 [] h46 fun _ h50 =>
 kBin .add x34 (qi 1) fun x51 =>
 n47 u u u x16 x17 x18 u u u u u u u u u u u u u u u x51 u u u u u u u u u u u h50) (kBin .shl x16 (.int .u64 16) fun x52 =>
 kNilc x17 fun x53 =>
 kFA 1 x53 fun x54 =>
 kL1 x54 h46 fun x55 =>
 kBin .add x52 x55 fun x56 =>
 some (x56, h46))) k u u u x6 x11 (.fn 217 [x11] []) u u u u u u u u u u u u u u u (qi 0) u u u u u u u u u u u h12)
theorem p207_ok (k : Nat) : p207 k = funcS k 1 lit207 := by kernel_rfl
end
end Go.PE
