/- The same functions with names for their slots (part 4 of 4), printed by a program of our own: each is what the evaluator's law says of the literal. -/
import Derived.Test.YtcgjkbnijnefjaaGreatDoorL3
import Derived.KernelRfl
namespace Go.PE
set_option maxRecDepth 100000
noncomputable section
def p8 (_ : Nat) : CtxK → List V → TH → R := fun X => ap 0 (fun  h0 =>
 kCall X 29 [] h0 fun x1 h2 =>
 kCall X 12 [x1, (qb 0)] h2 fun x3 h4 =>
 kLen x3 fun x5 =>
 kEqI true x5 (qi 3) fun x6 =>
 brS x6 (some (qf, h4)) (kIS 1 x3 (qi 0) fun x7 =>
 kL1 x7 h4 fun x10 =>
 kB zr0 [] fun x11 =>
 kIS 1 x3 (qi 1) fun x12 =>
 kL1 x12 h4 fun x15 =>
 kB zr0 [] fun x16 =>
 kCall X 24 [x10, (qb 0), x11] h4 fun x17 h18 =>
 kCall X 24 [x15, (qb 0), x16] h18 fun x19 h20 =>
 dokS [h4, h18, h20] ((fun h13 => kL1 x12 h13 fun x14 =>
 some (x14, h13), x15, 0, 1) :: []) (kEq' false (.nilR .ptr) x17 .nilptr fun x21 =>
 jc (α := JT) (fun x22 h23 =>
 jc (α := JT) (fun x25 h26 =>
 kPick x21 qt x25 fun x28 =>
 brS x28 (some (qf, h26)) (kCall X 25 [x17, x1] h26 fun x29 h30 =>
 kCall X 25 [x19, x1] h30 fun x31 h32 =>
 kLen x29 fun x33 =>
 kEqI false x33 (qi 4) fun x34 =>
 jc (α := JT) (fun x35 h36 =>
 jc (α := JT) (fun x38 h39 =>
 jc (α := JT) (fun x41 h42 =>
 jc (α := JT) (fun x44 h45 =>
 jc (α := JT) (fun x47 h48 =>
 kPick x34 x47 qf fun x50 =>
 jc (α := JT) (fun x51 h52 =>
 jc (α := JT) (fun x54 h55 =>
 jc (α := JT) (fun x57 h58 =>
 kPick x50 x57 qf fun x60 =>
 jc (α := JT) (fun x61 h62 =>
 jc (α := JT) (fun x64 h65 =>
 jc (α := JT) (fun x67 h68 =>
 kPick x60 x67 qf fun x70 =>
 jc (α := JT) (fun x71 h72 =>
 jc (α := JT) (fun x74 h75 =>
 jc (α := JT) (fun x77 h78 =>
 kPick x70 x77 qf fun x80 =>
 jc (α := JT) (fun x81 h82 =>
 jc (α := JT) (fun x84 h85 =>
 jc (α := JT) (fun x87 h88 =>
 kPick x80 x87 qf fun x90 =>
 jc (α := JT) (fun x91 h92 =>
 jc (α := JT) (fun x94 h95 =>
 jc (α := JT) (fun x97 h98 =>
 jc (α := JT) (fun x100 h101 =>
 kPick x90 x100 qf fun x103 =>
 jc (α := JT) (fun x104 h105 =>
 jc (α := JT) (fun x107 h108 =>
 jc (α := JT) (fun x110 h111 =>
 kPick x103 x110 qf fun x113 =>
 some (x113, h111)) fun j112 =>
 wtS x103 true (kEqI false x107 (qi 0) fun x114 =>
 j112 x114 h108) (j112 u h108)) fun j109 =>
 wtS x103 true (kCall X 32 [x104] h105 fun x115 h116 =>
 j109 x115 h116) (j109 u h105)) fun j106 =>
 wtS x103 true (j106 x17 h101) (j106 u h101)) fun j102 =>
 wtS x90 true (kEqI false x97 (qi 2) fun x117 =>
 j102 x117 h98) (j102 u h98)) fun j99 =>
 wtS x90 true (kLen x94 fun x118 =>
 j99 x118 h95) (j99 u h95)) fun j96 =>
 wtS x90 true (kCall X 31 [x91] h92 fun x119 h120 =>
 j96 x119 h120) (j96 u h92)) fun j93 =>
 wtS x90 true (j93 x17 h88) (j93 u h88)) fun j89 =>
 wtS x80 true (kEqI false x84 (qw 1) fun x121 =>
 j89 x121 h85) (j89 u h85)) fun j86 =>
 wtS x80 true (kCall X 30 [x81] h82 fun x122 h123 =>
 j86 x122 h123) (j86 u h82)) fun j83 =>
 wtS x80 true (j83 x17 h78) (j83 u h78)) fun j79 =>
 wtS x70 true (kEqI false x74 (qi 1) fun x124 =>
 j79 x124 h75) (j79 u h75)) fun j76 =>
 wtS x70 true (kCall X 26 [x71] h72 fun x125 h126 =>
 j76 x125 h126) (j76 u h72)) fun j73 =>
 wtS x70 true (j73 x19 h68) (j73 u h68)) fun j69 =>
 wtS x60 true (kEqI false x64 (qi 2) fun x127 =>
 j69 x127 h65) (j69 u h65)) fun j66 =>
 wtS x60 true (kCall X 26 [x61] h62 fun x128 h129 =>
 j66 x128 h129) (j66 u h62)) fun j63 =>
 wtS x60 true (j63 x17 h58) (j63 u h58)) fun j59 =>
 wtS x50 true (kEqI false x54 (qi 0) fun x130 =>
 j59 x130 h55) (j59 u h55)) fun j56 =>
 wtS x50 true (kLen x51 fun x131 =>
 j56 x131 h52) (j56 u h52)) fun j53 =>
 wtS x50 true (j53 x31 h48) (j53 u h48)) fun j49 =>
 wtS x34 true (kEqI false x44 (qb 7) fun x132 =>
 j49 x132 h45) (j49 u h45)) fun j46 =>
 wtS x34 true (kL1 x41 h42 fun x133 =>
 j46 x133 h42) (j46 u h42)) fun j43 =>
 wtS x34 true (kFA 0 x38 fun x134 =>
 j43 x134 h39) (j43 u h39)) fun j40 =>
 wtS x34 true (kIS 131 x35 (qi 0) fun x135 =>
 j40 x135 h36) (j40 u h36)) fun j37 =>
 wtS x34 true (j37 x29 h32) (j37 u h32))) fun j27 =>
 wtS x21 false (kEq' false (.nilR .ptr) x22 .nilptr fun x136 =>
 j27 x136 h23) (j27 u h23)) fun j24 =>
 wtS x21 false (j24 x19 h20) (j24 u h20))))
theorem p8_ok (k : Nat) : p8 k = funcS k 0 lit8 := by kernel_rfl
def p18 (_ : Nat) : CtxK → List V → TH → R := fun X => ap 2 (fun x0 x1 h2 =>
 kNilc x0 fun x3 =>
 kFA 7 x3 fun x4 =>
 kL1 x4 h2 fun x5 =>
 kIS 131 x5 x1 fun x6 =>
 kLA 131 x6 h2 fun x7 =>
 kNew zr1 h2 fun x8 h9 =>
 kSA 131 x8 x7 h9 fun _ h11 =>
 kNilc x0 fun x12 =>
 kFA 7 x12 fun x13 =>
 kL1 x13 h11 fun x16 =>
 kP (sliceE 131 x16 none (some x1)) fun x17 =>
 kNilc x0 fun x18 =>
 kFA 7 x18 fun x19 =>
 kL1 x19 h11 fun x22 =>
 kBin .add x1 (qi 1) fun x23 =>
 kP (sliceE 131 x22 (some x23) none) fun x24 =>
 kAp 131 1400 .nils x17 h11 fun x25 h26 =>
 kAp 131 1400 x25 x24 h26 fun x27 h28 =>
 kNilc x0 fun x29 =>
 kFA 7 x29 fun x30 =>
 kS1 x30 x27 h28 fun _ h32 =>
 dokS [h11, h26, h28, h32] ((fun h20 => kL1 x19 h20 fun x21 =>
 some (x21, h20), x22, 0, 1) :: []) (kFA 2 x8 fun x33 =>
 kL1 x33 h32 fun x34 =>
 kBin .geq x34 (qb 20) fun x35 =>
 brS x35 (kNilc x0 fun x36 =>
 kFA 8 x36 fun x37 =>
 kL1 x37 h32 fun x40 =>
 kLA 131 x8 h32 fun x43 =>
 kBS 131 zr1 1 [(0, 131, x43)] h32 fun x44 h45 =>
 kAp 131 1400 x40 x44 h45 fun x46 h47 =>
 kNilc x0 fun x48 =>
 kFA 8 x48 fun x49 =>
 kS1 x49 x46 h47 fun _ h51 =>
 dokS [h45, h47, h51] [] (some (.tup [], h51))) (kNilc x0 fun x52 =>
 kFA 7 x52 fun x53 =>
 kL1 x53 h32 fun x56 =>
 kFA 2 x8 fun x57 =>
 kL1 x57 h32 fun x60 =>
 kBin .sub x60 (qb 10) fun x61 =>
 kNilc x0 fun x62 =>
 kFA 2 x62 fun x63 =>
 kIA 5 1 x63 x61 fun x64 =>
 kL1 x64 h32 fun x67 =>
 kNilc x0 fun x68 =>
 kFA 0 x68 fun x69 =>
 kL1 x69 h32 fun x72 =>
 kLA 131 x8 h32 fun x75 =>
 kCall X 14 [x67, x72, x75] h32 fun x76 h77 =>
 kAp 131 1400 x56 x76 h77 fun x78 h79 =>
 kNilc x0 fun x80 =>
 kFA 7 x80 fun x81 =>
 kS1 x81 x78 h79 fun _ h83 =>
 dokS [h32, h77, h79, h83] ((fun h54 => kL1 x53 h54 fun x55 =>
 some (x55, h54), x56, 0, 1) :: []) (some (.tup [], h83)))))
theorem p18_ok (k : Nat) : p18 k = funcS k 2 lit18 := by kernel_rfl
def p20 (_ : Nat) : CtxK → List V → TH → R := fun X => ap 2 (fun x0 x1 h2 =>
 kNew (V.cellsR x1) h2 fun x3 h4 =>
 kNilc x0 fun x5 =>
 kFA 0 x5 fun x6 =>
 kL1 x6 h4 fun x9 =>
 kNilc x0 fun x10 =>
 kFA 1 x10 fun x11 =>
 kL1 x11 h4 fun x14 =>
 kCall X 12 [x9, x14] h4 fun x15 h16 =>
 kIS 1 x15 (qi 0) fun x17 =>
 kL1 x17 h16 fun x20 =>
 dokS [h4, h16] [] (kNilc x0 fun x21 =>
 kFA 7 x21 fun x22 =>
 kL1 x22 h16 fun x25 =>
 kNilc x0 fun x26 =>
 kFA 2 x26 fun x27 =>
 kIA 5 1 x27 x20 fun x28 =>
 kL1 x28 h16 fun x31 =>
 kNilc x0 fun x32 =>
 kFA 0 x32 fun x33 =>
 kL1 x33 h16 fun x36 =>
 kFA 0 x3 fun x37 =>
 kL1 x37 h16 fun x40 =>
 kBin .add (qb 20) x40 fun x41 =>
 kBin .add (qi 10) x20 fun x42 =>
 kConv .u8 x42 fun x43 =>
 kLA 6 x3 h16 fun x46 =>
 kB zr1 [(0, 1, (qb 15)), (1, 1, x41), (2, 1, x43), (123, 6, x46)] fun x47 =>
 kCall X 14 [x31, x36, x47] h16 fun x48 h49 =>
 kAp 131 1400 x25 x48 h49 fun x50 h51 =>
 kNilc x0 fun x52 =>
 kFA 7 x52 fun x53 =>
 kS1 x53 x50 h51 fun _ h55 =>
 dokS [h16, h49, h51, h55] ((fun h23 => kL1 x22 h23 fun x24 =>
 some (x24, h23), x25, 0, 1) :: []) (some (.tup [], h55))))
theorem p20_ok (k : Nat) : p20 k = funcS k 2 lit20 := by kernel_rfl
def p25 (_ : Nat) : CtxK → List V → TH → R := fun X => ap 2 (fun x0 x1 h2 =>
 kNilc x0 fun x3 =>
 kFA 2 x3 fun x4 =>
 kL1 x4 h2 fun x5 =>
 kCall X 53 [x1, x5] h2 fun x6 h7 =>
 kEqI false x6 (qw 0) fun x8 =>
 jc (α := JT) (fun x9 h10 =>
 jc (α := JT) (fun x12 h13 =>
 jc (α := JT) (fun x15 h16 =>
 jc (α := JT) (fun x18 h19 =>
 jc (α := JT) (fun x21 h22 =>
 jc (α := JT) (fun x24 h25 =>
 kPick x8 qt x24 fun x27 =>
 brS x27 (some (.nils, h25)) (kNilc x0 fun x28 =>
 kFA 0 x28 fun x29 =>
 kL1 x29 h25 fun x32 =>
 kNilc x0 fun x33 =>
 kFA 2 x33 fun x34 =>
 kL1 x34 h25 fun x37 =>
 kNilc x0 fun x38 =>
 kFA 3 x38 fun x39 =>
 kLA 49 x39 h25 fun x42 =>
 kNilc x0 fun x43 =>
 kFA 2 x43 fun x44 =>
 kL1 x44 h25 fun x47 =>
 kCall X 12 [x1, x47] h25 fun x48 h49 =>
 kB zr8 [(0, 1, x32), (2, 1, x37), (3, 49, x42), (52, 1, x6), (53, 1, x48), (1, 1, (qi 1))] fun x50 =>
 kNilc x0 fun x51 =>
 kSA 352 x51 x50 h49 fun _ h53 =>
 dokS [h25, h49, h53] ((fun h40 => kLA 49 x39 h40 fun x41 =>
 some (x41, h40), x42, 0, 1) :: ((fun h35 => kL1 x34 h35 fun x36 =>
 some (x36, h35), x37, 0, 1) :: ((fun h30 => kL1 x29 h30 fun x31 =>
 some (x31, h30), x32, 0, 1) :: []))) (kNilc x0 fun x54 =>
 kFA 53 x54 fun x55 =>
 kL1 x55 h53 fun x58 =>
 kNilc x0 fun x59 =>
 kFA 0 x59 fun x60 =>
 kL1 x60 h53 fun x63 =>
 kCall X 54 [x58, x63] h53 fun x64 h65 =>
 kNot x64 fun x66 =>
 dokS [h53, h65] [] (jc (α := Cur 107) (fun _ _ _ _ _ _ _ _ _ _ _ _ _ _ _ _ _ _ _ _ _ _ _ _ _ _ _ _ _ _ _ _ _ _ _ _ _ _ _ _ _ _ _ _ _ _ _ _ _ _ _ _ _ _ _ _ _ _ _ _ _ _ _ _ _ _ _ _ _ _ _ _ _ _ _ _ _ _ _ _ _ _ _ _ _ _ _ _ _ _ _ _ _ _ _ _ _ _ _ _ _ _ _ _ _ _ _ h174 =>
 some (.nils, h174)) fun j175 =>
 brS x66 (kNilc x0 fun x176 =>
 kFA 1 x176 fun x177 =>
 kS1 x177 (qi 0) h65 fun _ h179 =>
 j175 u u u u u u u u u u u u u u u u u u u u u u u u u u u u u u u u u u u u u u u u u u u u u u u u u u u u u u u u u u u u u u u u u u u u u u u u u u u u u u u u u u u u u u u u u u u u u u u u u u u u u u u u u u u h179) (kNilc x0 fun x180 =>
 kFA 0 x180 fun x181 =>
 kL1 x181 h65 fun x184 =>
 kCall X 55 [x0] h65 fun x185 h186 =>
 kEqI false x185 x184 fun x187 =>
 jc (α := JT) (fun x188 h189 =>
 jc (α := JT) (fun x191 h192 =>
 jc (α := JT) (fun x194 h195 =>
 jc (α := V → TH → PD → R) (fun x199 h200 d201 =>
 jc (α := JT) (fun x203 h204 =>
 jc (α := JT) (fun x206 h207 =>
 kPick x187 x206 qf fun x209 =>
 dokS [h65, h207] d201 (brS x209 (kNilc x0 fun x210 =>
 kFA 1 x210 fun x211 =>
 kS1 x211 (qi 2) h207 fun _ h213 =>
 kNilc x0 fun x214 =>
 kFA 0 x214 fun x215 =>
 kL1 x215 h213 fun x218 =>
 kNilc x0 fun x219 =>
 kFA 0 x219 fun x220 =>
 kL1 x220 h213 fun x223 =>
 kNilc x0 fun x224 =>
 kFA 3 x224 fun x225 =>
 kLA 49 x225 h213 fun x228 =>
 kNilc x0 fun x229 =>
 kFA 54 x229 fun x230 =>
 kIA 5 1 x230 x218 fun x231 =>
 kNilc x0 fun x232 =>
 kFA 64 x232 fun x233 =>
 kS1 x231 qt h213 fun _ h235 =>
 kIA 5 49 x233 x223 fun x236 =>
 kSA 49 x236 x228 h235 fun _ h238 =>
 dokS [h213, h235, h238] [] (kCall X 43 [x1] h238 fun x239 h240 =>
 kCall X 41 [x0, x239, (.fn 44 [x0] [])] h240 fun x241 h242 =>
 kCall X 56 [x0, x1] h242 fun x243 h244 =>
 kAp 131 1400 x241 x243 h244 fun x245 h246 =>
 some (x245, h246))) (j175 u u u u u u u u u u u u u u u u u u u u u u u u u u u u u u u u u u u u u u u u u u u u u u u u u u u u u u u u u u u u u u u u u u u u u u u u u u u u u u u u u u u u u u u u u u u u u u u u u u u u u u u u u u u h207))) fun j208 =>
 wtS x187 true (kBin .geq x203 (qi 2) fun x247 =>
 j208 x247 h204) (j208 u h204)) fun j205 =>
 wtS x187 true (kLen x199 fun x248 =>
 j205 x248 h200) (j205 u h200)) fun j202 =>
 wtS x187 true (kL1 x194 h195 fun x249 =>
 j202 x249 h195 ((fun h182 => kL1 x181 h182 fun x183 =>
 some (x183, h182), x184, 0, 1) :: [])) (j202 u h195 ((fun h182 => kL1 x181 h182 fun x183 =>
 some (x183, h182), x184, 0, 1) :: []))) fun j196 =>
 wtS x187 true (kFA 53 x191 fun x250 =>
 j196 x250 h192) (j196 u h192)) fun j193 =>
 wtS x187 true (kNilc x188 fun x251 =>
 j193 x251 h189) (j193 u h189)) fun j190 =>
 wtS x187 true (j190 x0 h186) (j190 u h186)))))) fun j26 =>
 wtS x8 false (kEqI false x9 x21 fun x252 =>
 j26 x252 h22) (j26 u h22)) fun j23 =>
 wtS x8 false (kL1 x18 h19 fun x253 =>
 j23 x253 h19) (j23 u h19)) fun j20 =>
 wtS x8 false (kFA 52 x15 fun x254 =>
 j20 x254 h16) (j20 u h16)) fun j17 =>
 wtS x8 false (kNilc x12 fun x255 =>
 j17 x255 h13) (j17 u h13)) fun j14 =>
 wtS x8 false (j14 x0 h10) (j14 u h10)) fun j11 =>
 wtS x8 false (j11 x6 h7) (j11 u h7))
theorem p25_ok (k : Nat) : p25 k = funcS k 2 lit25 := by kernel_rfl
def p30 (_ : Nat) : CtxK → List V → TH → R := fun _ => ap 1 (fun x0 h1 =>
 kNilc x0 fun x2 =>
 kFA 52 x2 fun x3 =>
 kL1 x3 h1 fun x4 =>
 some (x4, h1))
theorem p30_ok (k : Nat) : p30 k = funcS k 1 lit30 := by kernel_rfl
def p52 (k : Nat) : CtxK → List V → TH → R := fun X => ap 2 (fun x0 x1 h2 =>
 kNew (V.cellsR x0) h2 fun x3 h4 =>
 kNew zr0 h4 fun x5 h6 =>
 kFA 48 x3 fun x7 =>
 kL1 x7 h6 fun x8 =>
 kP (sliceE 8 x8 none (some x1)) fun x9 =>
 kLen x9 fun x10 =>
 lp (α := Cur 39) (zN 39) (fun n51 x11 x12 x13 x14 x15 x16 x17 x18 x19 x20 x21 x22 x23 _ x25 x26 x27 x28 x29 x30 x31 x32 x33 x34 x35 x36 x37 x38 x39 x40 x41 x42 _ _ _ _ _ _ _ h50 =>
 kBin .lss x23 x22 fun x52 =>
 brS x52 (kIS 8 x21 x23 fun x53 =>
 kLA 8 x53 h50 fun x54 =>
 kNew zr2 h50 fun x55 h56 =>
 kSA 8 x55 x54 h56 fun _ h58 =>
 kFA 1 x13 fun x59 =>
 kLA 39 x59 h58 fun x60 =>
 kFA 2 x55 fun x61 =>
 kLA 6 x61 h58 fun x62 =>
 kCall X 93 [x60, x62] h58 fun x63 h64 =>
 kExt x63 0 fun x65 =>
 kExt x63 1 fun _ =>
 kFA 1 x13 fun x67 =>
 kSA 39 x67 x65 h64 fun _ h69 =>
 kFA 0 x55 fun x70 =>
 kL1 x70 h69 fun x71 =>
 kFA 1 x55 fun x72 =>
 kL1 x72 h69 fun x73 =>
 kB zr2 [(0, 1, x71), (1, 1, x73)] fun x74 =>
 kFA 40 x13 fun x75 =>
 kSA 8 x75 x74 h69 fun _ h77 =>
 kBin .add x23 (qi 1) fun x78 =>
 n51 u x12 x13 u x15 u u u u u x21 x22 x78 u u u u u u u u u u u u u u u u u u u u u u u u u u h77) (kFA 48 x13 fun x79 =>
 kL1 x79 h50 fun x80 =>
 kP (sliceE 8 x80 (some x12) none) fun x81 =>
 kCall X 94 [x81] h50 fun x82 h83 =>
 kFA 48 x13 fun x84 =>
 kS1 x84 x82 h83 fun _ h86 =>
 kLA 49 x13 h86 fun x87 =>
 kSA 49 x15 x87 h86 fun _ h89 =>
 rsS [.cell 4 true 49] [x11, x12, x13, x14, x15, x16, x17, x18, x19, x20, x21, x22, x23, x52, x25, x26, x27, x28, x29, x30, x31, x32, x33, x34, x35, x36, x37, x38, x39, x40, x41, x42, x79, x80, x12, x81, x82, x84, x87] h89)) k u x1 x3 u x5 u u u u u x9 x10 (qi 0) u u u u u u u u u u u u u u u u u u u u u u u u u u h6)
theorem p52_ok (k : Nat) : p52 k = funcS k 2 lit52 := by kernel_rfl
def p56 (k : Nat) : CtxK → List V → TH → R := fun X => ap 2 (fun x0 x1 h2 =>
 kNilc x0 fun x3 =>
 kFA 54 x3 fun x4 =>
 kLA 5 x4 h2 fun x5 =>
 lp (α := Cur 79) (zN 79) (fun n86 x6 x7 _ _ _ x11 x12 _ _ _ _ _ x18 x19 _ _ _ _ _ _ _ _ _ _ _ _ _ _ _ _ _ _ _ _ _ _ _ _ _ _ _ _ _ _ _ _ _ _ _ _ _ _ _ _ _ _ _ _ _ _ _ _ _ _ _ _ _ _ _ _ _ _ _ _ _ _ _ _ _ h85 =>
 kBin .lss x19 (qi 5) fun x87 =>
 brS x87 (kIx 5 x18 x19 fun x88 =>
 jc (α := Cur 79) (fun x89 x90 _ _ _ x94 x95 _ _ _ _ _ x101 x102 _ _ _ _ _ _ _ _ _ _ _ _ _ _ _ _ _ _ _ _ _ _ _ _ _ _ _ _ _ _ _ _ _ _ _ _ _ _ _ _ _ _ _ _ _ _ _ _ _ _ _ _ _ _ _ _ _ _ _ _ _ _ _ _ _ h168 =>
 kBin .add x102 (qi 1) fun x170 =>
 n86 x89 x90 u u u x94 x95 u u u u u x101 x170 u u u u u u u u u u u u u u u u u u u u u u u u u u u u u u u u u u u u u u u u u u u u u u u u u u u u u u u u u u u u u u u u u h168) fun j169 =>
 brS x88 (kBS 1 [(qi 0)] 1 [(0, 1, x19)] h85 fun x171 h172 =>
 kNilc x6 fun x173 =>
 kFA 64 x173 fun x174 =>
 kIA 5 49 x174 x19 fun x175 =>
 kLA 49 x175 h172 fun x178 =>
 kBS 49 zr0 1 [(0, 49, x178)] h172 fun x179 h180 =>
 kAp 1 8 x11 x171 h180 fun x181 h182 =>
 kAp 49 600 x12 x179 h182 fun x183 h184 =>
 dokS [h180, h182, h184] ((fun h176 => kLA 49 x175 h176 fun x177 =>
 some (x177, h176), x178, 0, 1) :: []) (j169 x6 x7 u u u x181 x183 u u u u u x18 x19 u u u u u u u u u u u u u u u u u u u u u u u u u u u u u u u u u u u u u u u u u u u u u u u u u u u u u u u u u u u u u u u u u h184)) (j169 x6 x7 u u u x11 x12 u u u u u x18 x19 u u u u u u u u u u u u u u u u u u u u u u u u u u u u u u u u u u u u u u u u u u u u u u u u u u u u u u u u u u u u u u u u u h85)) (kNilc x6 fun x185 =>
 kFA 2 x185 fun x186 =>
 kL1 x186 h85 fun x189 =>
 kCall X 97 [x12] h85 fun x190 h191 =>
 kCall X 96 [x7, x189, x11, x190] h191 fun x192 h193 =>
 kNot x192 fun x194 =>
 dokS [h85, h191, h193] ((fun h187 => kL1 x186 h187 fun x188 =>
 some (x188, h187), x189, 0, 1) :: []) (brS x194 (some (.nils, h193)) (kCall X 98 [x11, x12] h193 fun x195 h196 =>
 kIS 49 x12 x195 fun x197 =>
 kLA 49 x197 h196 fun x198 =>
 kCall X 36 [x198] h196 fun x199 h200 =>
 kNilc x6 fun x201 =>
 kFA 3 x201 fun x202 =>
 kSA 49 x202 x199 h200 fun _ h204 =>
 kNilc x6 fun x205 =>
 kFA 52 x205 fun x206 =>
 kL1 x206 h204 fun x207 =>
 kNilc x6 fun x208 =>
 kFA 3 x208 fun x209 =>
 kFA 0 x209 fun x210 =>
 kS1 x210 x207 h204 fun _ h212 =>
 kNilc x6 fun x213 =>
 kFA 1 x213 fun x214 =>
 kS1 x214 (qi 3) h212 fun _ h216 =>
 kNilc x6 fun x217 =>
 kFA 0 x217 fun x218 =>
 kL1 x218 h216 fun x221 =>
 kNilc x6 fun x222 =>
 kFA 59 x222 fun x223 =>
 kIA 5 1 x223 x221 fun x224 =>
 kS1 x224 qt h216 fun _ h226 =>
 dokS [h216, h226] [] (kNilc x6 fun x227 =>
 kFA 53 x227 fun x228 =>
 kL1 x228 h226 fun x229 =>
 kCall X 41 [x6, x229, (.fn 45 [x6] [])] h226 fun x230 h231 =>
 some (x230, h231)))))) k x0 x1 u u u .nils .nils u u u u u x5 (qi 0) u u u u u u u u u u u u u u u u u u u u u u u u u u u u u u u u u u u u u u u u u u u u u u u u u u u u u u u u u u u u u u u u u h2)
theorem p56_ok (k : Nat) : p56 k = funcS k 2 lit56 := by kernel_rfl
def p57 (_ : Nat) : CtxK → List V → TH → R := fun X => ap 3 (fun x0 x1 x2 h3 =>
 kNew (V.cellsR x2) h3 fun x4 h5 =>
 kNilc x0 fun x6 =>
 kFA 2 x6 fun x7 =>
 kL1 x7 h5 fun x8 =>
 kBin .leq x1 x8 fun x9 =>
 brS x9 (some ((qi 51), h5)) (kNilc x0 fun x10 =>
 kFA 2 x10 fun x11 =>
 kL1 x11 h5 fun x12 =>
 kBin .sub x1 x12 fun x13 =>
 kBin .gtr x13 (qw 1) fun x14 =>
 brS x14 (some ((qi 50), h5)) (kNilc x0 fun x15 =>
 kFA 0 x15 fun x16 =>
 kL1 x16 h5 fun x19 =>
 kNilc x0 fun x20 =>
 kFA 2 x20 fun x21 =>
 kL1 x21 h5 fun x24 =>
 kP (lookupG h5.get (.agg zr4) false x19 x24) fun x27 =>
 kLA 3 x4 h5 fun x30 =>
 kNew zr4 h5 fun x31 h32 =>
 kCall X 99 [x27, x30] h32 fun x33 h34 =>
 kExt x33 0 fun x35 =>
 kExt x33 1 fun x36 =>
 kSA 16 x31 x35 h34 fun _ h38 =>
 dokS [h32, h34, h38] [] (kEqI true x36 (qi 0) fun x39 =>
 brS x39 (some (x36, h38)) (kNilc x0 fun x40 =>
 kFA 1 x40 fun x41 =>
 kL1 x41 h38 fun x44 =>
 kLA 3 x4 h38 fun x47 =>
 kMU x44 x1 x47 h38 fun _ h49 =>
 dokS [h38, h49] [] (kLA 16 x31 h49 fun x50 =>
 kCall X 59 [x0, x50] h49 fun _ h52 =>
 some ((qi 0), h52)))))))
theorem p57_ok (k : Nat) : p57 k = funcS k 3 lit57 := by kernel_rfl
def p60 (k : Nat) : CtxK → List V → TH → R := fun _ => ap 0 (fun  h0 =>
 kNew zr4 h0 fun x1 h2 =>
 kB zr4 [(0, 1, (qw 1))] fun x3 =>
 kNew zr4 h2 fun x4 h5 =>
 kSA 16 x4 x3 h5 fun _ h7 =>
 lp (α := Cur 16) (zN 16) (fun n25 x8 x9 x10 x11 x12 _ x14 x15 x16 x17 x18 x19 x20 x21 x22 _ h24 =>
 kBin .lss x12 (qi 5) fun x26 =>
 brS x26 (kBin .rem x12 (qi 4) fun x27 =>
 kConv .u8 x27 fun x28 =>
 kB [qf, (qi 0), (qb 0)] [(0, 1, qt), (1, 1, (qi 8)), (2, 1, x28)] fun x29 =>
 kFA 1 x9 fun x30 =>
 kIA 5 3 x30 x12 fun x31 =>
 kSA 3 x31 x29 h24 fun _ h33 =>
 kBin .add x12 (qi 1) fun x34 =>
 n25 x8 x9 u u x34 u u u u u u u u u u u h33) (kLA 16 x9 h24 fun x35 =>
 kSA 16 x8 x35 h24 fun _ h37 =>
 rsS [.cell 0 true 16] [x8, x9, x10, x11, x12, x26, x14, x15, x16, x17, x18, x19, x20, x21, x22, x35] h37)) k x1 x4 u u (qi 0) u u u u u u u u u u u h7)
theorem p60_ok (k : Nat) : p60 k = funcS k 0 lit60 := by kernel_rfl
def p63 (_ : Nat) : CtxK → List V → TH → R := fun X => ap 3 (fun x0 _ x2 h3 =>
 kNew (V.cellsR x2) h3 fun x4 h5 =>
 kLA 131 x4 h5 fun x6 =>
 kCall X 104 [x6] h5 fun x7 h8 =>
 kCall X 55 [x0] h8 fun x9 h10 =>
 kEqI true x7 x9 fun x11 =>
 brS x11 (some (.nils, h10)) (kLA 131 x4 h10 fun x12 =>
 kCall X 104 [x12] h10 fun x13 h14 =>
 kCall X 89 [x0, (qb 8), x13] h14 fun x15 h16 =>
 kNew zr1 h16 fun x17 h18 =>
 kSA 131 x17 x15 h18 fun _ h20 =>
 kNilc x0 fun x21 =>
 kFA 3 x21 fun x22 =>
 kLA 49 x22 h20 fun x23 =>
 kFA 13 x17 fun x24 =>
 kSA 49 x24 x23 h20 fun _ h26 =>
 kLA 131 x17 h26 fun x27 =>
 kBS 131 zr1 1 [(0, 131, x27)] h26 fun x28 h29 =>
 some (x28, h29)))
theorem p63_ok (k : Nat) : p63 k = funcS k 3 lit63 := by kernel_rfl
def p64 (_ : Nat) : CtxK → List V → TH → R := fun X => ap 3 (fun x0 x1 x2 h3 =>
 kNew (V.cellsR x2) h3 fun x4 h5 =>
 kLA 131 x4 h5 fun x6 =>
 kCall X 104 [x6] h5 fun x7 h8 =>
 kNilc x0 fun x9 =>
 kFA 1 x9 fun x10 =>
 kL1 x10 h8 fun x11 =>
 kEqI true x11 (qi 2) fun x12 =>
 jc (α := JT) (fun x13 h14 =>
 jc (α := JT) (fun x16 h17 =>
 jc (α := JT) (fun x19 h20 =>
 jc (α := JT) (fun x22 h23 =>
 jc (α := JT) (fun x25 h26 =>
 jc (α := JT) (fun x28 h29 =>
 kPick x12 qt x28 fun x31 =>
 brS x31 (some (.nils, h29)) (kFA 13 x4 fun x32 =>
 kLA 49 x32 h29 fun x35 =>
 kNilc x0 fun x36 =>
 kFA 54 x36 fun x37 =>
 kIA 5 1 x37 x7 fun x38 =>
 kNilc x0 fun x39 =>
 kFA 64 x39 fun x40 =>
 kS1 x38 qt h29 fun _ h42 =>
 kIA 5 49 x40 x7 fun x43 =>
 kSA 49 x43 x35 h42 fun _ h45 =>
 dokS [h29, h42, h45] ((fun h33 => kLA 49 x32 h33 fun x34 =>
 some (x34, h33), x35, 0, 1) :: []) (kCall X 56 [x0, x1] h45 fun x46 h47 =>
 some (x46, h47)))) fun j30 =>
 wtS x12 false (kL1 x25 h26 fun x48 =>
 j30 x48 h26) (j30 u h26)) fun j27 =>
 wtS x12 false (kIA 5 1 x22 x16 fun x49 =>
 j27 x49 h23) (j27 u h23)) fun j24 =>
 wtS x12 false (kFA 54 x19 fun x50 =>
 j24 x50 h20) (j24 u h20)) fun j21 =>
 wtS x12 false (kNilc x13 fun x51 =>
 j21 x51 h17) (j21 u h17)) fun j18 =>
 wtS x12 false (j18 x7 h14) (j18 u h14)) fun j15 =>
 wtS x12 false (j15 x0 h8) (j15 u h8))
theorem p64_ok (k : Nat) : p64 k = funcS k 3 lit64 := by kernel_rfl
def p65 (_ : Nat) : CtxK → List V → TH → R := fun X => ap 3 (fun x0 _ x2 h3 =>
 kNew (V.cellsR x2) h3 fun x4 h5 =>
 kLA 131 x4 h5 fun x6 =>
 kCall X 105 [x0, x6] h5 fun x7 h8 =>
 kNot x7 fun x9 =>
 brS x9 (some (.nils, h8)) (kFA 62 x4 fun x10 =>
 kLA 52 x10 h8 fun x11 =>
 kCall X 106 [x0, x11] h8 fun _ h13 =>
 kLA 131 x4 h13 fun x14 =>
 kCall X 107 [x0, (qb 10), x14] h13 fun x15 h16 =>
 some (x15, h16)))
theorem p65_ok (k : Nat) : p65 k = funcS k 3 lit65 := by kernel_rfl
def p66 (_ : Nat) : CtxK → List V → TH → R := fun X => ap 3 (fun x0 _ x2 h3 =>
 kNew (V.cellsR x2) h3 fun x4 h5 =>
 kLA 131 x4 h5 fun x8 =>
 kCall X 108 [x0, (qi 3), x8] h5 fun x9 h10 =>
 kNot x9 fun x11 =>
 jc (α := JT) (fun x12 h13 =>
 jc (α := V → TH → PD → R) (fun x17 h18 d19 =>
 jc (α := JT) (fun x21 h22 =>
 jc (α := JT) (fun x24 h25 =>
 jc (α := JT) (fun x27 h28 =>
 kPick x11 qt x27 fun x30 =>
 dokS [h5, h22, h28] d19 (brS x30 (some (.nils, h28)) (kLA 131 x4 h28 fun x33 =>
 kNilc x0 fun x34 =>
 kFA 59 x34 fun x35 =>
 kCall X 104 [x33] h28 fun x36 h37 =>
 kIA 5 1 x35 x36 fun x38 =>
 kS1 x38 qt h37 fun _ h40 =>
 dokS [h28, h37, h40] [] (kNilc x0 fun x41 =>
 kFA 59 x41 fun x42 =>
 kLA 5 x42 h40 fun x45 =>
 kNilc x0 fun x46 =>
 kFA 53 x46 fun x47 =>
 kL1 x47 h40 fun x50 =>
 kCall X 110 [x45, x50] h40 fun x51 h52 =>
 dokS [h40, h52] [] (jc (α := Cur 36) (fun _ _ _ _ _ _ _ _ _ _ _ _ _ _ _ _ _ _ _ _ _ _ _ _ _ _ _ _ _ _ _ _ _ _ _ _ h89 =>
 some (.nils, h89)) fun j90 =>
 brS x51 (kNilc x0 fun x91 =>
 kFA 1 x91 fun x92 =>
 kS1 x92 (qi 4) h52 fun _ h94 =>
 j90 u u u u u u u u u u u u u u u u u u u u u u u u u u u u u u u u u u u u h94) (j90 u u u u u u u u u u u u u u u u u u u u u u u u u u u u u u u u u u u u h52)))))) fun j29 =>
 wtS x11 false (kEqI true x17 x24 fun x95 =>
 j29 x95 h25) (j29 u h25)) fun j26 =>
 wtS x11 false (kCall X 109 [x21] h22 fun x96 h97 =>
 j26 x96 h97) (j26 u h22)) fun j23 =>
 wtS x11 false (j23 x0 h18) (j23 u h18)) fun j20 =>
 wtS x11 false (kL1 x12 h13 fun x98 =>
 j20 x98 h13 ((fun h15 => kL1 x12 h15 fun x16 =>
 some (x16, h15), x98, 1, 2) :: [])) (j20 u h13 [])) fun j14 =>
 wtS x11 false (kFA 122 x4 fun x99 =>
 j14 x99 h10) (j14 u h10))
theorem p66_ok (k : Nat) : p66 k = funcS k 3 lit66 := by kernel_rfl
def p71 (_ : Nat) : CtxK → List V → TH → R := fun X => ap 3 (fun x0 _ x2 h3 =>
 kNew (V.cellsR x2) h3 fun x4 h5 =>
 kNilc x0 fun x6 =>
 kFA 1 x6 fun x7 =>
 kL1 x7 h5 fun x8 =>
 kEqI true x8 (qi 4) fun x9 =>
 brS x9 (some (.nils, h5)) (kFA 123 x4 fun x10 =>
 kLA 6 x10 h5 fun x11 =>
 kCall X 9 [x11] h5 fun x12 h13 =>
 brS x12 (kFA 123 x4 fun x14 =>
 kLA 6 x14 h13 fun x15 =>
 kCall X 114 [x0, x15] h13 fun x16 h17 =>
 some (x16, h17)) (kFA 123 x4 fun x18 =>
 kLA 6 x18 h13 fun x19 =>
 kCall X 115 [x0, x19] h13 fun x20 h21 =>
 some (x20, h21))))
theorem p71_ok (k : Nat) : p71 k = funcS k 3 lit71 := by kernel_rfl
def p80 (_ : Nat) : CtxK → List V → TH → R := fun _ => ap 1 (fun x0 h1 =>
 kNew (V.cellsR x0) h1 fun x2 h3 =>
 kFA 0 x2 fun x4 =>
 kL1 x4 h3 fun x5 =>
 kEqI true x5 (qb 17) fun x6 =>
 jc (α := JT) (fun x7 h8 =>
 jc (α := JT) (fun x10 h11 =>
 jc (α := JT) (fun x13 h14 =>
 kPick x6 qt x13 fun x16 =>
 some (x16, h14)) fun j15 =>
 wtS x6 false (kBin .lss x10 (qw 5) fun x17 =>
 j15 x17 h11) (j15 u h11)) fun j12 =>
 wtS x6 false (kL1 x7 h8 fun x18 =>
 j12 x18 h8) (j12 u h8)) fun j9 =>
 wtS x6 false (kFA 122 x2 fun x19 =>
 j9 x19 h3) (j9 u h3))
theorem p80_ok (k : Nat) : p80 k = funcS k 1 lit80 := by kernel_rfl
def p82 (_ : Nat) : CtxK → List V → TH → R := fun _ => ap 1 (fun x0 h1 =>
 kBin .shr x0 (.int .u64 33) fun x2 =>
 kBin .xor x0 x2 fun x3 =>
 kBin .mul x3 (.int .u64 18397679294719823053) fun x4 =>
 kBin .shr x4 (.int .u64 33) fun x5 =>
 kBin .xor x4 x5 fun x6 =>
 kBin .mul x6 (.int .u64 14181476777654086739) fun x7 =>
 kBin .shr x7 (.int .u64 33) fun x8 =>
 kBin .xor x7 x8 fun x9 =>
 some (x9, h1))
theorem p82_ok (k : Nat) : p82 k = funcS k 1 lit82 := by kernel_rfl
def p86 (_ : Nat) : CtxK → List V → TH → R := fun _ => ap 2 (fun x0 x1 h2 =>
 kIA 5 1 x1 x0 fun x3 =>
 kL1 x3 h2 fun x4 =>
 some (x4, h2))
theorem p86_ok (k : Nat) : p86 k = funcS k 2 lit86 := by kernel_rfl
def p87 (_ : Nat) : CtxK → List V → TH → R := fun _ => ap 2 (fun x0 x1 h2 =>
 kNew zr4 h2 fun x3 h4 =>
 kNilc x0 fun x5 =>
 kFA 0 x5 fun x6 =>
 kL1 x6 h4 fun x7 =>
 kP (lookupG h4.get (.agg zr4) true x7 x1) fun x8 =>
 kExt x8 0 fun x9 =>
 kExt x8 1 fun x10 =>
 kNew zr4 h4 fun x11 h12 =>
 kSA 16 x11 x9 h12 fun _ h14 =>
 kLA 16 x11 h14 fun x15 =>
 kSA 16 x3 x15 h14 fun _ h17 =>
 rsS [.cell 4 true 16, .tmp 5] [x0, x1, u, u, x3, x10, x11, x10, x8, x0, x5, x6, x7, x1, x8, x9, x10, x15, x10] h17)
theorem p87_ok (k : Nat) : p87 k = funcS k 2 lit87 := by kernel_rfl
def p89 (_ : Nat) : CtxK → List V → TH → R := fun _ => ap 3 (fun x0 x1 x2 h3 =>
 kNew zr1 h3 fun x4 h5 =>
 kNilc x0 fun x6 =>
 kFA 0 x6 fun x7 =>
 kL1 x7 h5 fun x10 =>
 kConv .u8 x10 fun x11 =>
 kBin .add (qb 10) x11 fun x12 =>
 kConv .u8 x2 fun x13 =>
 kBin .add (qb 10) x13 fun x14 =>
 kNilc x0 fun x15 =>
 kFA 52 x15 fun x16 =>
 kL1 x16 h5 fun x19 =>
 kNilc x0 fun x20 =>
 kFA 2 x20 fun x21 =>
 kL1 x21 h5 fun x24 =>
 kB zr1 [(0, 1, x1), (1, 1, x12), (2, 1, x14), (3, 1, x19), (12, 1, x24)] fun x25 =>
 kSA 131 x4 x25 h5 fun _ h27 =>
 dokS [h5, h27] [] (rsS [.cell 6 true 131] [x0, x1, x2, u, u, u, x4, x1, x0, x6, x7, x10, x11, x12, x2, x13, x14, x0, x15, x16, x19, x0, x20, x21, x24, x25] h27))
theorem p89_ok (k : Nat) : p89 k = funcS k 3 lit89 := by kernel_rfl
def p97 (k : Nat) : CtxK → List V → TH → R := fun _ => ap 1 (fun x0 h1 =>
 kLen x0 fun x2 =>
 lp (α := Cur 18) (zN 18) (fun n22 _ _ _ x6 _ _ x9 x10 x11 _ _ _ _ _ _ _ _ _ h21 =>
 kBin .lss x11 x10 fun x23 =>
 brS x23 (kIS 49 x9 x11 fun x24 =>
 kLA 49 x24 h21 fun x25 =>
 kNew zr0 h21 fun x26 h27 =>
 kSA 49 x26 x25 h27 fun _ h29 =>
 kFA 0 x26 fun x30 =>
 kL1 x30 h29 fun x31 =>
 kP (minE true x6 x31) fun x32 =>
 kBin .add x11 (qi 1) fun x33 =>
 n22 u u u x32 u u x9 x10 x33 u u u u u u u u u h29) (some (x6, h21))) k u u u (qw 0) u u x0 x2 (qi 0) u u u u u u u u u h1)
theorem p97_ok (k : Nat) : p97 k = funcS k 1 lit97 := by kernel_rfl
def p98 (k : Nat) : CtxK → List V → TH → R := fun X => ap 2 (fun x0 x1 h2 =>
 kLen x0 fun x3 =>
 kLen x1 fun x4 =>
 kEqI true x3 x4 fun x5 =>
 jc (α := JT) (fun x6 h7 =>
 jc (α := JT) (fun x9 h10 =>
 kPick x5 qt x9 fun x12 =>
 brS x12 (some ((.int .i64 (-1)), h10)) (kNew [(qi 0), (qw 0), (qw 0), (qw 0)] h10 fun x13 h14 =>
 kLen x1 fun x15 =>
 lp (α := Cur 53) (zN 53) (fun n70 x16 _ _ _ _ x21 x22 _ _ _ _ _ _ _ _ _ _ _ _ _ _ x37 x38 x39 _ _ _ _ _ _ _ _ _ _ _ _ _ _ _ _ _ _ _ _ _ _ _ _ _ _ _ _ _ h69 =>
 kBin .lss x39 x38 fun x71 =>
 brS x71 (kIS 49 x37 x39 fun x72 =>
 kLA 49 x72 h69 fun x73 =>
 kNew zr0 h69 fun x74 h75 =>
 kSA 49 x74 x73 h75 fun _ h77 =>
 kLA 49 x74 h77 fun x78 =>
 kCall X 22 [x78] h77 fun x79 h80 =>
 kExt x79 0 fun x81 =>
 kExt x79 1 fun x82 =>
 kIS 1 x16 x39 fun x83 =>
 kL1 x83 h80 fun x86 =>
 kFA 0 x74 fun x87 =>
 kL1 x87 h80 fun x90 =>
 kB [(qi 0), (qw 0), (qw 0), (qw 0)] [(0, 1, x86), (1, 1, x90), (2, 1, x81), (3, 1, x82)] fun x91 =>
 kNew [(qi 0), (qw 0), (qw 0), (qw 0)] h80 fun x92 h93 =>
 kSA 4 x92 x91 h93 fun _ h95 =>
 dokS [h93, h95] [] (kBin .lss x21 (qi 0) fun x96 =>
 jc (α := JT) (fun x97 h98 =>
 jc (α := JT) (fun x100 h101 =>
 jc (α := JT) (fun x103 h104 =>
 kPick x96 qt x103 fun x106 =>
 jc (α := Cur 53) (fun x107 _ _ _ _ x112 x113 _ _ _ _ _ _ _ _ _ _ _ _ _ _ x128 x129 x130 _ _ _ _ _ _ _ _ _ _ _ _ _ _ _ _ _ _ _ _ _ _ _ _ _ _ _ _ _ h160 =>
 kBin .add x130 (qi 1) fun x162 =>
 n70 x107 u u u u x112 x113 u u u u u u u u u u u u u u x128 x129 x162 u u u u u u u u u u u u u u u u u u u u u u u u u u u u u h160) fun j161 =>
 brS x106 (kLA 4 x92 h104 fun x165 =>
 kSA 4 x22 x165 h104 fun _ h167 =>
 dokS [h104, h167] [] (j161 x16 u u u u x39 x22 u u u u u u u u u u u u u u x37 x38 x39 u u u u u u u u u u u u u u u u u u u u u u u u u u u u u h167)) (j161 x16 u u u u x21 x22 u u u u u u u u u u u u u u x37 x38 x39 u u u u u u u u u u u u u u u u u u u u u u u u u u u u u h104)) fun j105 =>
 wtS x96 false (kCall X 140 [x97, x100] h101 fun x168 h169 =>
 j105 x168 h169) (j105 u h101)) fun j102 =>
 wtS x96 false (kLA 4 x22 h98 fun x170 =>
 j102 x170 h98) (j102 u h98)) fun j99 =>
 wtS x96 false (kLA 4 x92 h95 fun x171 =>
 j99 x171 h95) (j99 u h95))) (some (x21, h69))) k x0 u u u u (.int .i64 (-1)) x13 u u u u u u u u u u u u u u x1 x15 (qi 0) u u u u u u u u u u u u u u u u u u u u u u u u u u u u u h14)) fun j11 =>
 wtS x5 false (kCall X 138 [x6, (.fn 139 [] [])] h7 fun x172 h173 =>
 j11 x172 h173) (j11 u h7)) fun j8 =>
 wtS x5 false (j8 x1 h2) (j8 u h2))
theorem p98_ok (k : Nat) : p98 k = funcS k 2 lit98 := by kernel_rfl
def p100 (_ : Nat) : CtxK → List V → TH → R := fun X => ap 2 (fun x0 x1 h2 =>
 kNew (V.cellsR x0) h2 fun x3 h4 =>
 kLA 16 x3 h4 fun x5 =>
 kCall X 142 [x5, x1] h4 fun x6 h7 =>
 kCall X 85 [x6, (.fn 143 [] [x3])] h7 fun x8 h9 =>
 some (x8, h9))
theorem p100_ok (k : Nat) : p100 k = funcS k 2 lit100 := by kernel_rfl
def p102 (k : Nat) : CtxK → List V → TH → R := fun X => ap 4 (fun x0 x1 x2 x3 h4 =>
 lp (α := Cur 134) (zN 134) (fun n140 x5 x6 x7 x8 _ _ _ _ x13 x14 _ _ _ _ _ _ _ _ _ _ _ _ _ _ _ _ _ _ _ _ _ _ _ _ _ _ _ _ _ _ _ _ _ _ _ _ _ _ _ _ _ _ _ _ _ _ _ _ _ _ _ _ _ _ _ _ _ _ _ _ _ _ _ _ _ _ _ _ _ _ _ _ _ _ _ _ _ _ _ _ _ _ _ _ _ _ _ _ _ _ _ _ _ _ _ _ _ _ _ _ _ _ _ _ _ _ _ _ _ _ _ _ _ _ _ _ _ _ _ _ _ _ _ _ h139 =>
 jc (α := Cur 134) (fun x141 x142 x143 x144 _ _ _ _ x149 x150 _ _ _ _ _ _ _ _ _ _ _ _ _ _ _ _ _ _ _ _ _ _ _ _ _ _ _ _ _ _ _ _ _ _ _ _ _ _ _ _ _ _ _ _ _ _ _ _ _ _ _ _ _ _ _ _ _ _ _ _ _ _ _ _ _ _ _ _ _ _ _ _ _ _ _ _ _ _ _ _ _ _ _ _ _ _ _ _ _ _ _ _ _ _ _ _ _ _ _ _ _ _ _ _ _ _ _ _ _ _ _ _ _ _ _ _ _ _ _ _ _ _ _ _ h275 =>
 n140 x141 x142 x143 x144 u u u u x149 x150 u u u u u u u u u u u u u u u u u u u u u u u u u u u u u u u u u u u u u u u u u u u u u u u u u u u u u u u u u u u u u u u u u u u u u u u u u u u u u u u u u u u u u u u u u u u u u u u u u u u u u u u u u u u u u u u u u u u u u u u u u u u u h275) fun j276 =>
 kBin .sub x7 x6 fun x277 =>
 kBin .leq x277 (qi 12) fun x278 =>
 brS x278 (kCall X 144 [x5, x6, x7] h139 fun _ h280 =>
 some (.tup [], h280)) (kEqI false x8 (qi 0) fun x281 =>
 brS x281 (kCall X 145 [x5, x6, x7] h139 fun _ h283 =>
 some (.tup [], h283)) (kNot x13 fun x284 =>
 jc (α := Cur 134) (fun x285 x286 x287 x288 _ _ _ _ x293 x294 x295 _ _ _ _ _ _ _ _ _ _ _ _ _ _ _ _ _ _ _ _ _ _ _ _ _ _ _ _ _ _ _ _ _ _ _ _ _ _ _ _ _ _ _ _ _ _ _ _ _ _ _ _ _ _ _ _ _ _ _ _ _ _ _ _ _ _ _ _ _ _ _ _ _ _ _ _ _ _ _ _ _ _ _ _ _ _ _ _ _ _ _ _ _ _ _ _ _ _ _ _ _ _ _ _ _ _ _ _ _ _ _ _ _ _ _ _ _ _ _ _ _ _ _ h419 =>
 kCall X 147 [x285, x286, x287] h419 fun x421 h422 =>
 kExt x421 0 fun x423 =>
 kExt x421 1 fun x424 =>
 kEqI false x424 (qi 2) fun x425 =>
 jc (α := Cur 134) (fun x426 x427 x428 x429 _ _ _ _ x434 x435 x436 x437 x438 _ _ _ _ _ _ _ _ _ _ _ _ _ _ _ _ _ _ _ _ _ _ _ _ _ _ _ _ _ _ _ _ _ _ _ _ _ _ _ _ _ _ _ _ _ _ _ _ _ _ _ _ _ _ _ _ _ _ _ _ _ _ _ _ _ _ _ _ _ _ _ _ _ _ _ _ _ _ _ _ _ _ _ _ _ _ _ _ _ _ _ _ _ _ _ _ _ _ _ _ _ _ _ _ _ _ _ _ _ _ _ _ _ _ _ _ _ _ _ _ _ h560 =>
 jc (α := JT) (fun x562 h563 =>
 kPick x434 x562 qf fun x565 =>
 jc (α := JT) (fun x566 h567 =>
 jc (α := JT) (fun x569 h570 =>
 kPick x565 x569 qf fun x572 =>
 jc (α := Cur 134) (fun x573 x574 x575 x576 _ _ _ _ x581 x582 x583 x584 _ _ _ _ _ _ _ _ _ _ _ _ _ _ _ _ _ _ _ _ _ _ _ _ _ _ _ _ _ _ _ _ _ _ _ _ _ _ _ _ _ _ _ _ _ _ _ _ _ _ _ _ _ _ _ _ _ _ _ _ _ _ _ _ _ _ _ _ _ _ _ _ _ _ _ _ _ _ _ _ _ _ _ _ _ _ _ _ _ _ _ _ _ _ _ _ _ _ _ _ _ _ _ _ _ _ _ _ _ _ _ _ _ _ _ _ _ _ _ _ _ _ h707 =>
 kBin .gtr x574 (qi 0) fun x709 =>
 jc (α := JT) (fun x710 h711 =>
 jc (α := JT) (fun x713 h714 =>
 jc (α := JT) (fun x716 h717 =>
 jc (α := JT) (fun x719 h720 =>
 jc (α := V → TH → PD → R) (fun x724 h725 d726 =>
 jc (α := JT) (fun x728 h729 =>
 jc (α := JT) (fun x731 h732 =>
 jc (α := JT) (fun x734 h735 =>
 jc (α := V → TH → PD → R) (fun x739 h740 d741 =>
 jc (α := JT) (fun x743 h744 =>
 jc (α := JT) (fun x746 h747 =>
 kPick x709 x746 qf fun x749 =>
 dokS [h740, h747] d741 (brS x749 (kCall X 151 [x573, x574, x575, x584] h747 fun x750 h751 =>
 j276 x573 x750 x575 x576 u u u u x581 x582 u u u u u u u u u u u u u u u u u u u u u u u u u u u u u u u u u u u u u u u u u u u u u u u u u u u u u u u u u u u u u u u u u u u u u u u u u u u u u u u u u u u u u u u u u u u u u u u u u u u u u u u u u u u u u u u u u u u u u u u u u u u u h751) (kCall X 152 [x573, x574, x575, x584] h747 fun x752 h753 =>
 kExt x752 0 fun x754 =>
 kExt x752 1 fun x755 =>
 kBin .sub x754 x574 fun x756 =>
 kBin .sub x575 x754 fun x757 =>
 kBin .quo x583 (qi 8) fun x758 =>
 kBin .lss x756 x757 fun x759 =>
 jc (α := Cur 134) (fun x760 x761 x762 x763 _ _ _ _ x768 x769 _ _ _ _ _ _ _ _ _ _ _ _ _ _ _ _ _ _ _ _ _ _ _ _ _ _ _ _ _ _ _ _ _ _ _ _ _ _ _ _ _ _ _ _ _ _ _ _ _ _ _ _ _ _ _ _ _ _ _ _ _ _ _ _ _ _ _ _ _ _ _ _ _ _ _ _ _ _ _ _ _ _ _ _ _ _ _ _ _ _ _ _ _ _ _ _ _ _ _ _ _ _ _ _ _ _ _ _ _ _ _ _ _ _ _ _ _ _ _ _ _ _ _ _ h894 =>
 j276 x760 x761 x762 x763 u u u u x768 x769 u u u u u u u u u u u u u u u u u u u u u u u u u u u u u u u u u u u u u u u u u u u u u u u u u u u u u u u u u u u u u u u u u u u u u u u u u u u u u u u u u u u u u u u u u u u u u u u u u u u u u u u u u u u u u u u u u u u u u u u u u u u u h894) fun j895 =>
 brS x759 (kBin .geq x756 x758 fun x896 =>
 kCall X 102 [x573, x574, x754, x576] h753 fun _ h898 =>
 kBin .add x754 (qi 1) fun x899 =>
 j895 x573 x899 x575 x576 u u u u x896 x755 u u u u u u u u u u u u u u u u u u u u u u u u u u u u u u u u u u u u u u u u u u u u u u u u u u u u u u u u u u u u u u u u u u u u u u u u u u u u u u u u u u u u u u u u u u u u u u u u u u u u u u u u u u u u u u u u u u u u u u u u u u u u h898) (kBin .geq x757 x758 fun x900 =>
 kBin .add x754 (qi 1) fun x901 =>
 kCall X 102 [x573, x901, x575, x576] h753 fun _ h903 =>
 j895 x573 x574 x754 x576 u u u u x900 x755 u u u u u u u u u u u u u u u u u u u u u u u u u u u u u u u u u u u u u u u u u u u u u u u u u u u u u u u u u u u u u u u u u u u u u u u u u u u u u u u u u u u u u u u u u u u u u u u u u u u u u u u u u u u u u u u u u u u u u u u u u u u u h903)))) fun j748 =>
 wtS x709 true (kNot x743 fun x904 =>
 j748 x904 h744) (j748 u h744)) fun j745 =>
 wtS x709 true (kCall X 150 [x724, x739] h740 fun x905 h906 =>
 j745 x905 h906) (j745 u h740)) fun j742 =>
 wtS x709 true (kL1 x734 h735 fun x907 =>
 j742 x907 h735 d726) (j742 u h735 d726)) fun j736 =>
 wtS x709 true (kIS 1 x728 x731 fun x908 =>
 j736 x908 h732) (j736 u h732)) fun j733 =>
 wtS x709 true (j733 x584 h729) (j733 u h729)) fun j730 =>
 wtS x709 true (j730 x573 h725) (j730 u h725)) fun j727 =>
 wtS x709 true (kL1 x719 h720 fun x909 =>
 j727 x909 h720 []) (j727 u h720 [])) fun j721 =>
 wtS x709 true (kIS 1 x710 x716 fun x910 =>
 j721 x910 h717) (j721 u h717)) fun j718 =>
 wtS x709 true (kBin .sub x713 (qi 1) fun x911 =>
 j718 x911 h714) (j718 u h714)) fun j715 =>
 wtS x709 true (j715 x574 h711) (j715 u h711)) fun j712 =>
 wtS x709 true (j712 x573 h707) (j712 u h707)) fun j708 =>
 brS x572 (kCall X 149 [x426, x427, x428] h570 fun x912 h913 =>
 brS x912 (some (.tup [], h913)) (j708 x426 x427 x428 x429 u u u u x434 x435 x436 x437 u u u u u u u u u u u u u u u u u u u u u u u u u u u u u u u u u u u u u u u u u u u u u u u u u u u u u u u u u u u u u u u u u u u u u u u u u u u u u u u u u u u u u u u u u u u u u u u u u u u u u u u u u u u u u u u u u u u u u u u u u u h913)) (j708 x426 x427 x428 x429 u u u u x434 x435 x436 x437 u u u u u u u u u u u u u u u u u u u u u u u u u u u u u u u u u u u u u u u u u u u u u u u u u u u u u u u u u u u u u u u u u u u u u u u u u u u u u u u u u u u u u u u u u u u u u u u u u u u u u u u u u u u u u u u u u u u u u u u u u u h570)) fun j571 =>
 wtS x565 true (kEqI false x566 (qi 1) fun x914 =>
 j571 x914 h567) (j571 u h567)) fun j568 =>
 wtS x565 true (j568 x438 h563) (j568 u h563)) fun j564 =>
 wtS x434 true (j564 x435 h560) (j564 u h560)) fun j561 =>
 brS x425 (kCall X 148 [x285, x286, x287] h422 fun _ h916 =>
 kBin .sub x287 (qi 1) fun x917 =>
 kBin .sub x423 x286 fun x918 =>
 kBin .sub x917 x918 fun x919 =>
 j561 x285 x286 x287 x288 u u u u x293 x294 x295 x919 (qi 1) u u u u u u u u u u u u u u u u u u u u u u u u u u u u u u u u u u u u u u u u u u u u u u u u u u u u u u u u u u u u u u u u u u u u u u u u u u u u u u u u u u u u u u u u u u u u u u u u u u u u u u u u u u u u u u u u u u u u u u u u u h916) (j561 x285 x286 x287 x288 u u u u x293 x294 x295 x423 x424 u u u u u u u u u u u u u u u u u u u u u u u u u u u u u u u u u u u u u u u u u u u u u u u u u u u u u u u u u u u u u u u u u u u u u u u u u u u u u u u u u u u u u u u u u u u u u u u u u u u u u u u u u u u u u u u u u u u u u u u u u h422)) fun j420 =>
 brS x284 (kCall X 146 [x5, x6, x7] h139 fun _ h921 =>
 kBin .sub x8 (qi 1) fun x922 =>
 j420 x5 x6 x7 x922 u u u u x13 x14 x277 u u u u u u u u u u u u u u u u u u u u u u u u u u u u u u u u u u u u u u u u u u u u u u u u u u u u u u u u u u u u u u u u u u u u u u u u u u u u u u u u u u u u u u u u u u u u u u u u u u u u u u u u u u u u u u u u u u u u u u u u u u u h921) (j420 x5 x6 x7 x8 u u u u x13 x14 x277 u u u u u u u u u u u u u u u u u u u u u u u u u u u u u u u u u u u u u u u u u u u u u u u u u u u u u u u u u u u u u u u u u u u u u u u u u u u u u u u u u u u u u u u u u u u u u u u u u u u u u u u u u u u u u u u u u u u u u u u u u u u h139)))) k x0 x1 x2 x3 u u u u qt qt u u u u u u u u u u u u u u u u u u u u u u u u u u u u u u u u u u u u u u u u u u u u u u u u u u u u u u u u u u u u u u u u u u u u u u u u u u u u u u u u u u u u u u u u u u u u u u u u u u u u u u u u u u u u u u u u u u u u u u u u u u u u h4)
theorem p102_ok (k : Nat) : p102 k = funcS k 4 lit102 := by kernel_rfl
def p105 (_ : Nat) : CtxK → List V → TH → R := fun X => ap 2 (fun x0 x1 h2 =>
 kNew (V.cellsR x1) h2 fun x3 h4 =>
 kNilc x0 fun x5 =>
 kFA 1 x5 fun x6 =>
 kL1 x6 h4 fun x7 =>
 kEqI false x7 (qi 1) fun x8 =>
 jc (α := JT) (fun x9 h10 =>
 jc (α := JT) (fun x12 h13 =>
 jc (α := JT) (fun x15 h16 =>
 jc (α := JT) (fun x18 h19 =>
 jc (α := JT) (fun x21 h22 =>
 kPick x8 x21 qf fun x24 =>
 some (x24, h22)) fun j23 =>
 wtS x8 true (kEqI false x12 x18 fun x25 =>
 j23 x25 h19) (j23 u h19)) fun j20 =>
 wtS x8 true (kCall X 55 [x15] h16 fun x26 h27 =>
 j20 x26 h27) (j20 u h16)) fun j17 =>
 wtS x8 true (j17 x0 h13) (j17 u h13)) fun j14 =>
 wtS x8 true (kCall X 104 [x9] h10 fun x28 h29 =>
 j14 x28 h29) (j14 u h10)) fun j11 =>
 wtS x8 true (kLA 131 x3 h4 fun x30 =>
 j11 x30 h4) (j11 u h4))
theorem p105_ok (k : Nat) : p105 k = funcS k 2 lit105 := by kernel_rfl
def p109 (_ : Nat) : CtxK → List V → TH → R := fun X => ap 1 (fun x0 h1 =>
 kNilc x0 fun x2 =>
 kFA 3 x2 fun x3 =>
 kLA 49 x3 h1 fun x4 =>
 kCall X 22 [x4] h1 fun x5 h6 =>
 kExt x5 0 fun _ =>
 kExt x5 1 fun x8 =>
 some (x8, h6))
theorem p109_ok (k : Nat) : p109 k = funcS k 1 lit109 := by kernel_rfl
def p114 (_ : Nat) : CtxK → List V → TH → R := fun X => ap 2 (fun x0 x1 h2 =>
 kNew (V.cellsR x0) h2 fun x3 h4 =>
 kNew (V.cellsR x1) h4 fun x5 h6 =>
 kL1 x3 h6 fun x7 =>
 kNilc x7 fun x8 =>
 kFA 3 x8 fun x9 =>
 kLA 49 x9 h6 fun x10 =>
 kCall X 23 [x10] h6 fun x11 h12 =>
 kNew zr6 h12 fun x13 h14 =>
 kSA 39 x13 x11 h14 fun _ h16 =>
 kLA 39 x13 h16 fun x17 =>
 kLA 6 x5 h16 fun x18 =>
 kCall X 133 [x17, x18] h16 fun x19 h20 =>
 kExt x19 0 fun x21 =>
 kExt x19 1 fun x22 =>
 kNew [(qb 0), qs] h20 fun x23 h24 =>
 kSA 2 x23 x21 h24 fun _ h26 =>
 brS x22 (kL1 x3 h26 fun x27 =>
 kNilc x27 fun x28 =>
 kFA 309 x28 fun x29 =>
 kL1 x29 h26 fun x30 =>
 kCall X 158 [x30, (.fn 159 [] [x5])] h26 fun x31 h32 =>
 jc (α := JT) (fun x33 h34 =>
 jc (α := V → TH → PD → R) (fun x38 h39 d40 =>
 jc (α := JT) (fun x42 h43 =>
 jc (α := JT) (fun x45 h46 =>
 jc (α := JT) (fun x48 h49 =>
 jc (α := JT) (fun x51 h52 =>
 jc (α := V → TH → PD → R) (fun x56 h57 d58 =>
 jc (α := JT) (fun x60 h61 =>
 jc (α := V → TH → PD → R) (fun x65 h66 d67 =>
 jc (α := JT) (fun x69 h70 =>
 kPick x31 qt x69 fun x72 =>
 dokS [h70] d67 (brS x72 (some (.nils, h70)) (kL1 x3 h70 fun x73 =>
 kLA 6 x5 h70 fun x74 =>
 kLA 2 x23 h70 fun x75 =>
 kCall X 112 [x73, x74, x75] h70 fun x76 h77 =>
 kBS 131 zr1 1 [(0, 131, x76)] h77 fun x78 h79 =>
 some (x78, h79)))) fun j71 =>
 wtS x31 false (kBin .gtr x56 x65 fun x80 =>
 j71 x80 h66) (j71 u h66)) fun j68 =>
 wtS x31 false (kL1 x60 h61 fun x81 =>
 j68 x81 h61 d58) (j68 u h61 d58)) fun j62 =>
 wtS x31 false (kFA 1 x5 fun x82 =>
 j62 x82 h57) (j62 u h57)) fun j59 =>
 wtS x31 false (kL1 x51 h52 fun x83 =>
 j59 x83 h52 d40) (j59 u h52 d40)) fun j53 =>
 wtS x31 false (kFA 0 x48 fun x84 =>
 j53 x84 h49) (j53 u h49)) fun j50 =>
 wtS x31 false (kIA 3 3 x45 x42 fun x85 =>
 j50 x85 h46) (j50 u h46)) fun j47 =>
 wtS x31 false (kFA 30 x13 fun x86 =>
 j47 x86 h43) (j47 u h43)) fun j44 =>
 wtS x31 false (kBin .sub x38 (qb 1) fun x87 =>
 j44 x87 h39) (j44 u h39)) fun j41 =>
 wtS x31 false (kL1 x33 h34 fun x88 =>
 j41 x88 h34 []) (j41 u h34 [])) fun j35 =>
 wtS x31 false (kFA 0 x5 fun x89 =>
 j35 x89 h32) (j35 u h32)) (kL1 x3 h26 fun x90 =>
 kNilc x90 fun x91 =>
 kFA 309 x91 fun x92 =>
 kL1 x92 h26 fun x93 =>
 kLen x93 fun x94 =>
 kBin .geq x94 (qi 3) fun x95 =>
 brS x95 (some (.nils, h26)) (kL1 x3 h26 fun x98 =>
 kNilc x98 fun x99 =>
 kFA 52 x99 fun x100 =>
 kL1 x100 h26 fun x103 =>
 kL1 x3 h26 fun x106 =>
 kLA 6 x5 h26 fun x109 =>
 kNew zr2 h26 fun x110 h111 =>
 kCall X 109 [x106] h111 fun x112 h113 =>
 kBin .add x112 (qw 1) fun x114 =>
 kB zr2 [(0, 1, x103), (1, 1, x114), (2, 6, x109)] fun x115 =>
 kSA 8 x110 x115 h113 fun _ h117 =>
 dokS [h111, h113, h117] ((fun h107 => kLA 6 x5 h107 fun x108 =>
 some (x108, h107), x109, 0, 1) :: ((fun h101 => kL1 x100 h101 fun x102 =>
 some (x102, h101), x103, 0, 1) :: ((fun h96 => kL1 x3 h96 fun x97 =>
 some (x97, h96), x98, 0, 1) :: []))) (kL1 x3 h117 fun x120 =>
 kNilc x120 fun x121 =>
 kFA 3 x121 fun x122 =>
 kLA 49 x122 h117 fun x125 =>
 kLA 8 x110 h117 fun x128 =>
 kNew zr0 h117 fun x129 h130 =>
 kCall X 157 [x125, x128] h130 fun x131 h132 =>
 kExt x131 0 fun x133 =>
 kExt x131 1 fun x134 =>
 kSA 49 x129 x133 h132 fun _ h136 =>
 dokS [h130, h132, h136] [] (kEqI true x134 (qi 0) fun x137 =>
 brS x137 (some (.nils, h136)) (kL1 x3 h136 fun x138 =>
 kLA 49 x129 h136 fun x139 =>
 kNilc x138 fun x140 =>
 kFA 3 x140 fun x141 =>
 kSA 49 x141 x139 h136 fun _ h143 =>
 kLA 49 x129 h143 fun x146 =>
 kLA 6 x5 h143 fun x149 =>
 kNew [(qb 0), qs] h143 fun x150 h151 =>
 kCall X 23 [x146] h151 fun x152 h153 =>
 kCall X 133 [x152, x149] h153 fun x154 h155 =>
 kExt x154 0 fun x156 =>
 kExt x154 1 fun _ =>
 kSA 2 x150 x156 h155 fun _ h159 =>
 dokS [h151, h153, h155, h159] ((fun h147 => kLA 6 x5 h147 fun x148 =>
 some (x148, h147), x149, 0, 1) :: []) (kLA 8 x110 h159 fun x160 =>
 kLA 2 x150 h159 fun x161 =>
 kB zr7 [(0, 8, x160), (8, 2, x161)] fun x162 =>
 kNew zr7 h159 fun x163 h164 =>
 kSA 15 x163 x162 h164 fun _ h166 =>
 kL1 x3 h166 fun x167 =>
 kNilc x167 fun x168 =>
 kFA 0 x168 fun x169 =>
 kL1 x169 h166 fun x170 =>
 kFA 10 x163 fun x171 =>
 kIA 5 1 x171 x170 fun x172 =>
 kS1 x172 qt h166 fun _ h174 =>
 kL1 x3 h174 fun x177 =>
 kL1 x3 h174 fun x180 =>
 kNilc x180 fun x181 =>
 kFA 309 x181 fun x182 =>
 kL1 x182 h174 fun x185 =>
 kLA 15 x163 h174 fun x188 =>
 kBS 15 zr7 1 [(0, 15, x188)] h174 fun x189 h190 =>
 kAp 15 72 x185 x189 h190 fun x191 h192 =>
 kNilc x177 fun x193 =>
 kFA 309 x193 fun x194 =>
 kS1 x194 x191 h192 fun _ h196 =>
 dokS [h190, h192, h196] ((fun h175 => kL1 x3 h175 fun x176 =>
 some (x176, h175), x177, 0, 1) :: []) (kL1 x3 h196 fun x199 =>
 kL1 x3 h196 fun x202 =>
 kNilc x202 fun x203 =>
 kFA 53 x203 fun x204 =>
 kL1 x204 h196 fun x207 =>
 kCall X 41 [x199, x207, (.fn 160 [] [x3, x110])] h196 fun x208 h209 =>
 dokS [h196, h209] [] (some (x208, h209))))))))))
theorem p114_ok (k : Nat) : p114 k = funcS k 2 lit114 := by kernel_rfl
def p128 (_ : Nat) : CtxK → List V → TH → R := fun _ => ap 1 (fun x0 h1 =>
 kNew (V.cellsR x0) h1 fun x2 h3 =>
 kFA 0 x2 fun x4 =>
 kL1 x4 h3 fun x5 =>
 some (x5, h3))
theorem p128_ok (k : Nat) : p128 k = funcS k 1 lit128 := by kernel_rfl
def p134 (_ : Nat) : CtxK → List V → TH → R := fun _ => ap 1 (fun x0 h1 =>
 kEqI false x0 (qb 1) fun x2 =>
 brS x2 (some ((.fn 167 [] []), h1)) (kEqI false x0 (qb 2) fun x3 =>
 brS x3 (some ((.fn 168 [] []), h1)) (kEqI false x0 (qb 3) fun x4 =>
 brS x4 (some ((.fn 169 [] []), h1)) (some ((.fn 170 [] []), h1)))))
theorem p134_ok (k : Nat) : p134 k = funcS k 1 lit134 := by kernel_rfl
def p136 (_ : Nat) : CtxK → List V → TH → R := fun X => ap 4 (fun x0 x1 x2 x3 h4 =>
 kCall X 171 [x0, x1] h4 fun x5 h6 =>
 kLen x5 fun x7 =>
 kEqI false x7 (qi 0) fun x8 =>
 brS x8 (some (.nils, h6)) (kB [.nils, (qw 0)] [(0, 1, x2), (1, 1, x3)] fun x9 =>
 kNew [.nilfn] h6 fun x10 h11 =>
 kS1 x10 (.fn 172 [x9] []) h11 fun _ h13 =>
 kLen x5 fun x14 =>
 kBin .sub x14 (qi 1) fun x15 =>
 kP (sliceE 2 x5 none (some x15)) fun x16 =>
 kCall X 173 [x16, (.fn 174 [] [x10])] h13 fun x17 h18 =>
 some (x17, h18)))
theorem p136_ok (k : Nat) : p136 k = funcS k 4 lit136 := by kernel_rfl
def p139 (_ : Nat) : CtxK → List V → TH → R := fun X => ap 1 (fun x0 h1 =>
 kNew (V.cellsR x0) h1 fun x2 h3 =>
 kLA 49 x2 h3 fun x4 =>
 kCall X 50 [x4] h3 fun x5 h6 =>
 kNot x5 fun x7 =>
 some (x7, h6))
theorem p139_ok (k : Nat) : p139 k = funcS k 1 lit139 := by kernel_rfl
def p140 (_ : Nat) : CtxK → List V → TH → R := fun _ => ap 2 (fun x0 x1 h2 =>
 kNew (V.cellsR x0) h2 fun x3 h4 =>
 kNew (V.cellsR x1) h4 fun x5 h6 =>
 kFA 1 x3 fun x7 =>
 kL1 x7 h6 fun x8 =>
 kFA 1 x5 fun x9 =>
 kL1 x9 h6 fun x10 =>
 kEqI true x8 x10 fun x11 =>
 brS x11 (kFA 1 x3 fun x12 =>
 kL1 x12 h6 fun x13 =>
 kFA 1 x5 fun x14 =>
 kL1 x14 h6 fun x15 =>
 kBin .gtr x13 x15 fun x16 =>
 some (x16, h6)) (kFA 2 x3 fun x17 =>
 kL1 x17 h6 fun x18 =>
 kFA 2 x5 fun x19 =>
 kL1 x19 h6 fun x20 =>
 kEqI true x18 x20 fun x21 =>
 brS x21 (kFA 2 x3 fun x22 =>
 kL1 x22 h6 fun x23 =>
 kFA 2 x5 fun x24 =>
 kL1 x24 h6 fun x25 =>
 kBin .gtr x23 x25 fun x26 =>
 some (x26, h6)) (kFA 3 x3 fun x27 =>
 kL1 x27 h6 fun x28 =>
 kFA 3 x5 fun x29 =>
 kL1 x29 h6 fun x30 =>
 kEqI true x28 x30 fun x31 =>
 brS x31 (kFA 3 x3 fun x32 =>
 kL1 x32 h6 fun x33 =>
 kFA 3 x5 fun x34 =>
 kL1 x34 h6 fun x35 =>
 kBin .gtr x33 x35 fun x36 =>
 some (x36, h6)) (kFA 0 x3 fun x37 =>
 kL1 x37 h6 fun x38 =>
 kFA 0 x5 fun x39 =>
 kL1 x39 h6 fun x40 =>
 kBin .lss x38 x40 fun x41 =>
 some (x41, h6)))))
theorem p140_ok (k : Nat) : p140 k = funcS k 2 lit140 := by kernel_rfl
def p143 (_ : Nat) : CtxK → List V → TH → R := fun _ => ap 2 (fun x0 x1 h2 =>
 kFA 1 x1 fun x3 =>
 kIA 5 3 x3 x0 fun x4 =>
 kFA 0 x4 fun x5 =>
 kL1 x5 h2 fun x6 =>
 kNot x6 fun x7 =>
 some (x7, h2))
theorem p143_ok (k : Nat) : p143 k = funcS k 2 lit143 := by kernel_rfl
def p144 (k : Nat) : CtxK → List V → TH → R := fun X => ap 3 (fun x0 x1 x2 h3 =>
 kBin .add x1 (qi 1) fun x4 =>
 lp (α := Cur 49) (zN 49) (fun n55 x5 x6 x7 _ _ _ x11 _ _ _ _ _ _ _ _ _ _ _ _ _ _ _ _ _ _ _ _ _ _ _ _ _ _ _ _ _ _ _ _ _ _ _ _ _ _ _ _ _ _ h54 =>
 kBin .lss x11 x7 fun x56 =>
 brS x56 (lp (α := Cur 49) (zN 49) (fun n107 x57 x58 x59 _ _ _ x63 x64 _ _ _ _ _ _ _ _ _ _ _ _ _ _ _ _ _ _ _ _ _ _ _ _ _ _ _ _ _ _ _ _ _ _ _ _ _ _ _ _ _ h106 =>
 kBin .gtr x64 x58 fun x108 =>
 jc (α := JT) (fun x109 h110 =>
 jc (α := JT) (fun x112 h113 =>
 jc (α := JT) (fun x115 h116 =>
 jc (α := V → TH → PD → R) (fun x120 h121 d122 =>
 jc (α := JT) (fun x124 h125 =>
 jc (α := JT) (fun x127 h128 =>
 jc (α := JT) (fun x130 h131 =>
 jc (α := JT) (fun x133 h134 =>
 jc (α := V → TH → PD → R) (fun x138 h139 d140 =>
 jc (α := JT) (fun x142 h143 =>
 kPick x108 x142 qf fun x145 =>
 dokS [h139, h143] d140 (brS x145 (kBin .sub x64 (qi 1) fun x146 =>
 kBin .sub x64 (qi 1) fun x147 =>
 kIS 1 x57 x147 fun x148 =>
 kL1 x148 h143 fun x151 =>
 kIS 1 x57 x64 fun x152 =>
 kL1 x152 h143 fun x155 =>
 kIS 1 x57 x64 fun x156 =>
 kS1 x156 x151 h143 fun _ h158 =>
 kIS 1 x57 x146 fun x159 =>
 kS1 x159 x155 h158 fun _ h161 =>
 dokS [h143, h158, h161] [] (kBin .sub x64 (qi 1) fun x162 =>
 n107 x57 x58 x59 u u u x63 x162 u u u u u u u u u u u u u u u u u u u u u u u u u u u u u u u u u u u u u u u u u h161)) (kBin .add x63 (qi 1) fun x163 =>
 n55 x57 x58 x59 u u u x163 u u u u u u u u u u u u u u u u u u u u u u u u u u u u u u u u u u u u u u u u u u h143))) fun j144 =>
 wtS x108 true (kCall X 150 [x120, x138] h139 fun x164 h165 =>
 j144 x164 h165) (j144 u h139)) fun j141 =>
 wtS x108 true (kL1 x133 h134 fun x166 =>
 j141 x166 h134 d122) (j141 u h134 d122)) fun j135 =>
 wtS x108 true (kIS 1 x124 x130 fun x167 =>
 j135 x167 h131) (j135 u h131)) fun j132 =>
 wtS x108 true (kBin .sub x127 (qi 1) fun x168 =>
 j132 x168 h128) (j132 u h128)) fun j129 =>
 wtS x108 true (j129 x64 h125) (j129 u h125)) fun j126 =>
 wtS x108 true (j126 x57 h121) (j126 u h121)) fun j123 =>
 wtS x108 true (kL1 x115 h116 fun x169 =>
 j123 x169 h116 []) (j123 u h116 [])) fun j117 =>
 wtS x108 true (kIS 1 x109 x112 fun x170 =>
 j117 x170 h113) (j117 u h113)) fun j114 =>
 wtS x108 true (j114 x64 h110) (j114 u h110)) fun j111 =>
 wtS x108 true (j111 x57 h106) (j111 u h106)) k x5 x6 x7 u u u x11 x11 u u u u u u u u u u u u u u u u u u u u u u u u u u u u u u u u u u u u u u u u u h54) (some (.tup [], h54))) k x0 x1 x2 u u u x4 u u u u u u u u u u u u u u u u u u u u u u u u u u u u u u u u u u u u u u u u u u h3)
theorem p144_ok (k : Nat) : p144 k = funcS k 3 lit144 := by kernel_rfl
def p150 (_ : Nat) : CtxK → List V → TH → R := fun X => ap 2 (fun x0 x1 h2 =>
 kCall X 183 [x0] h2 fun x3 h4 =>
 jc (α := JT) (fun x5 h6 =>
 jc (α := JT) (fun x8 h9 =>
 jc (α := JT) (fun x11 h12 =>
 kPick x3 x11 qf fun x14 =>
 jc (α := JT) (fun x15 h16 =>
 jc (α := JT) (fun x18 h19 =>
 jc (α := JT) (fun x21 h22 =>
 kPick x14 qt x21 fun x24 =>
 some (x24, h22)) fun j23 =>
 wtS x14 false (kBin .lss x15 x18 fun x25 =>
 j23 x25 h19) (j23 u h19)) fun j20 =>
 wtS x14 false (j20 x1 h16) (j20 u h16)) fun j17 =>
 wtS x14 false (j17 x0 h12) (j17 u h12)) fun j13 =>
 wtS x3 true (kNot x8 fun x26 =>
 j13 x26 h9) (j13 u h9)) fun j10 =>
 wtS x3 true (kCall X 183 [x5] h6 fun x27 h28 =>
 j10 x27 h28) (j10 u h6)) fun j7 =>
 wtS x3 true (j7 x1 h4) (j7 u h4))
theorem p150_ok (k : Nat) : p150 k = funcS k 2 lit150 := by kernel_rfl
def p154 (_ : Nat) : CtxK → List V → TH → R := fun _ => ap 1 (fun x0 h1 =>
 kBin .geq x0 (.int .u64 4294967296) fun x2 =>
 jc (α := Cur 25) (fun x3 _ x5 _ _ _ _ _ _ _ _ _ _ _ _ _ _ _ _ _ _ _ _ _ _ h28 =>
 kBin .geq x3 (.int .u64 65536) fun x30 =>
 jc (α := Cur 25) (fun x31 _ x33 _ _ _ _ _ _ _ _ _ _ _ _ _ _ _ _ _ _ _ _ _ _ h56 =>
 kBin .geq x31 (.int .u64 256) fun x58 =>
 jc (α := Cur 25) (fun x59 _ x61 _ _ _ _ _ _ _ _ _ _ _ _ _ _ _ _ _ _ _ _ _ _ h84 =>
 kConv .u8 x59 fun x86 =>
 kP (indexE none (.str (bs [0, 1, 2, 2, 3, 3, 3, 3, 4, 4, 4, 4, 4, 4, 4, 4, 5, 5, 5, 5, 5, 5, 5, 5, 5, 5, 5, 5, 5, 5, 5, 5, 6, 6, 6, 6, 6, 6, 6, 6, 6, 6, 6, 6, 6, 6, 6, 6, 6, 6, 6, 6, 6, 6, 6, 6, 6, 6, 6, 6, 6, 6, 6, 6, 7, 7, 7, 7, 7, 7, 7, 7, 7, 7, 7, 7, 7, 7, 7, 7, 7, 7, 7, 7, 7, 7, 7, 7, 7, 7, 7, 7, 7, 7, 7, 7, 7, 7, 7, 7, 7, 7, 7, 7, 7, 7, 7, 7, 7, 7, 7, 7, 7, 7, 7, 7, 7, 7, 7, 7, 7, 7, 7, 7, 7, 7, 7, 7, 8, 8, 8, 8, 8, 8, 8, 8, 8, 8, 8, 8, 8, 8, 8, 8, 8, 8, 8, 8, 8, 8, 8, 8, 8, 8, 8, 8, 8, 8, 8, 8, 8, 8, 8, 8, 8, 8, 8, 8, 8, 8, 8, 8, 8, 8, 8, 8, 8, 8, 8, 8, 8, 8, 8, 8, 8, 8, 8, 8, 8, 8, 8, 8, 8, 8, 8, 8, 8, 8, 8, 8, 8, 8, 8, 8, 8, 8, 8, 8, 8, 8, 8, 8, 8, 8, 8, 8, 8, 8, 8, 8, 8, 8, 8, 8, 8, 8, 8, 8, 8, 8, 8, 8, 8, 8, 8, 8, 8, 8, 8, 8, 8, 8, 8, 8, 8, 8, 8, 8, 8, 8, 8, 8, 8, 8, 8, 8])) x86) fun x87 =>
 kConv .i64 x87 fun x88 =>
 kBin .add x61 x88 fun x89 =>
 some (x89, h84)) fun j85 =>
 brS x58 (kBin .shr x31 (.int .u64 8) fun x90 =>
 kBin .add x33 (qi 8) fun x91 =>
 j85 x90 u x91 u u u u u u u u u u u u u u u u u u u u u u h56) (j85 x31 u x33 u u u u u u u u u u u u u u u u u u u u u u h56)) fun j57 =>
 brS x30 (kBin .shr x3 (.int .u64 16) fun x92 =>
 kBin .add x5 (qi 16) fun x93 =>
 j57 x92 u x93 u u u u u u u u u u u u u u u u u u u u u u h28) (j57 x3 u x5 u u u u u u u u u u u u u u u u u u u u u u h28)) fun j29 =>
 brS x2 (kBin .shr x0 (.int .u64 32) fun x94 =>
 j29 x94 u (qi 32) u u u u u u u u u u u u u u u u u u u u u u h1) (j29 x0 u (qi 0) u u u u u u u u u u u u u u u u u u u u u u h1))
theorem p154_ok (k : Nat) : p154 k = funcS k 1 lit154 := by kernel_rfl
def p160 (_ : Nat) : CtxK → List V → TH → R := fun X => ap 3 (fun x0 x1 x2 h3 =>
 kNew zr1 h3 fun x4 h5 =>
 kL1 x1 h5 fun x6 =>
 kLA 8 x2 h5 fun x7 =>
 kCall X 47 [x6, x0, x7] h5 fun x8 h9 =>
 kSA 131 x4 x8 h9 fun _ h11 =>
 rsS [.cell 4 true 131] [x0, x1, x2, u, x4, x6, x0, x7, x8] h11)
theorem p160_ok (k : Nat) : p160 k = funcS k 3 lit160 := by kernel_rfl
def p190 (_ : Nat) : CtxK → List V → TH → R := fun X => ap 2 (fun x0 x1 h2 =>
 kNew (V.cellsR x0) h2 fun x3 h4 =>
 kFA 40 x3 fun x5 =>
 kFA 1 x5 fun x6 =>
 kL1 x6 h4 fun x7 =>
 kBin .lss x1 x7 fun x8 =>
 jc (α := JT) (fun x9 h10 =>
 jc (α := JT) (fun x12 h13 =>
 jc (α := JT) (fun x15 h16 =>
 jc (α := JT) (fun x18 h19 =>
 jc (α := JT) (fun x21 h22 =>
 kPick x8 qt x21 fun x24 =>
 brS x24 (some ((.int .i64 (-1)), h22)) (kFA 40 x3 fun x25 =>
 kFA 1 x25 fun x26 =>
 kL1 x26 h22 fun x27 =>
 kBin .sub x1 x27 fun x28 =>
 kConv .i64 x28 fun x29 =>
 some (x29, h22))) fun j23 =>
 wtS x8 false (kBin .gtr x9 x18 fun x30 =>
 j23 x30 h19) (j23 u h19)) fun j20 =>
 wtS x8 false (kP (fieldE false 1 1 x15) fun x31 =>
 j20 x31 h16) (j20 u h16)) fun j17 =>
 wtS x8 false (kCall X 51 [x12] h13 fun x32 h33 =>
 j17 x32 h33) (j17 u h13)) fun j14 =>
 wtS x8 false (kLA 49 x3 h10 fun x34 =>
 j14 x34 h10) (j14 u h10)) fun j11 =>
 wtS x8 false (j11 x1 h4) (j11 u h4))
theorem p190_ok (k : Nat) : p190 k = funcS k 2 lit190 := by kernel_rfl
def p192 (_ : Nat) : CtxK → List V → TH → R := fun _ => ap 1 (fun x0 h1 =>
 kEq' false (.nilR .sl) x0 .nils fun x2 =>
 brS x2 (some (.nils, h1)) (kBS 2 [(qw 0), .nils] 0 [] h1 fun x3 h4 =>
 kAp 2 32 x3 x0 h4 fun x5 h6 =>
 some (x5, h6)))
theorem p192_ok (k : Nat) : p192 k = funcS k 1 lit192 := by kernel_rfl
def p195 (_ : Nat) : CtxK → List V → TH → R := fun _ => ap 1 (fun x0 h1 =>
 kNew (V.cellsR x0) h1 fun x2 h3 =>
 kFA 1 x2 fun x4 =>
 kL1 x4 h3 fun x5 =>
 kBin .gtr x5 (qi 0) fun x6 =>
 some (x6, h3))
theorem p195_ok (k : Nat) : p195 k = funcS k 1 lit195 := by kernel_rfl
end
end Go.PE
