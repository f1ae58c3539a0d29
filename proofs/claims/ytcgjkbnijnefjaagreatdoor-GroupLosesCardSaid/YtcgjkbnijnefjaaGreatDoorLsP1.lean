/- The same functions with names for their slots (part 1 of 4), printed by a program of our own: each is what the evaluator's law says of the literal. -/
import Derived.Test.YtcgjkbnijnefjaaGreatDoorLsL3
import Derived.KernelRfl
namespace Go.PE
set_option maxRecDepth 100000
noncomputable section
def p8 (_ : Nat) : CtxK → List V → TH → R := fun X => ap 0 (fun  h0 =>
 kCall X 29 [] h0 fun x1 h2 =>
 kCall X 12 [x1, (qb 0)] h2 fun x3 h4 =>
 kLen x3 fun x5 =>
 kEqI true x5 (qi 3) fun x6 =>
 brS x6 (some (qf, h4)) (kIS 1 x3 (qi 0) fun x7 =>
 kL1 x7 h4 fun x10 =>
 kB zr0 [] fun x11 =>
 kIS 1 x3 (qi 1) fun x12 =>
 kL1 x12 h4 fun x15 =>
 kB zr0 [] fun x16 =>
 kCall X 24 [x10, (qb 0), x11] h4 fun x17 h18 =>
 kCall X 24 [x15, (qb 0), x16] h18 fun x19 h20 =>
 dokS [h4, h18, h20] ((fun h13 => kL1 x12 h13 fun x14 =>
 some (x14, h13), x15, 0, 1) :: []) (kEq' false (.nilR .ptr) x17 .nilptr fun x21 =>
 jc (α := JT) (fun x22 h23 =>
 jc (α := JT) (fun x25 h26 =>
 kPick x21 qt x25 fun x28 =>
 brS x28 (some (qf, h26)) (kCall X 25 [x17, x1] h26 fun x29 h30 =>
 kCall X 25 [x19, x1] h30 fun x31 h32 =>
 kLen x29 fun x33 =>
 kEqI false x33 (qi 4) fun x34 =>
 jc (α := JT) (fun x35 h36 =>
 jc (α := JT) (fun x38 h39 =>
 jc (α := JT) (fun x41 h42 =>
 jc (α := JT) (fun x44 h45 =>
 jc (α := JT) (fun x47 h48 =>
 kPick x34 x47 qf fun x50 =>
 jc (α := JT) (fun x51 h52 =>
 jc (α := JT) (fun x54 h55 =>
 jc (α := JT) (fun x57 h58 =>
 kPick x50 x57 qf fun x60 =>
 jc (α := JT) (fun x61 h62 =>
 jc (α := JT) (fun x64 h65 =>
 jc (α := JT) (fun x67 h68 =>
 kPick x60 x67 qf fun x70 =>
 jc (α := JT) (fun x71 h72 =>
 jc (α := JT) (fun x74 h75 =>
 jc (α := JT) (fun x77 h78 =>
 kPick x70 x77 qf fun x80 =>
 jc (α := JT) (fun x81 h82 =>
 jc (α := JT) (fun x84 h85 =>
 jc (α := JT) (fun x87 h88 =>
 kPick x80 x87 qf fun x90 =>
 jc (α := JT) (fun x91 h92 =>
 jc (α := JT) (fun x94 h95 =>
 jc (α := JT) (fun x97 h98 =>
 jc (α := JT) (fun x100 h101 =>
 kPick x90 x100 qf fun x103 =>
 jc (α := JT) (fun x104 h105 =>
 jc (α := JT) (fun x107 h108 =>
 jc (α := JT) (fun x110 h111 =>
 kPick x103 x110 qf fun x113 =>
 some (x113, h111)) fun j112 =>
 wtS x103 true (kEqI false x107 (qi 0) fun x114 =>
 j112 x114 h108) (j112 u h108)) fun j109 =>
 wtS x103 true (kCall X 32 [x104] h105 fun x115 h116 =>
 j109 x115 h116) (j109 u h105)) fun j106 =>
 wtS x103 true (j106 x17 h101) (j106 u h101)) fun j102 =>
 wtS x90 true (kEqI false x97 (qi 2) fun x117 =>
 j102 x117 h98) (j102 u h98)) fun j99 =>
 wtS x90 true (kLen x94 fun x118 =>
 j99 x118 h95) (j99 u h95)) fun j96 =>
 wtS x90 true (kCall X 31 [x91] h92 fun x119 h120 =>
 j96 x119 h120) (j96 u h92)) fun j93 =>
 wtS x90 true (j93 x17 h88) (j93 u h88)) fun j89 =>
 wtS x80 true (kEqI false x84 (qw 1) fun x121 =>
 j89 x121 h85) (j89 u h85)) fun j86 =>
 wtS x80 true (kCall X 30 [x81] h82 fun x122 h123 =>
 j86 x122 h123) (j86 u h82)) fun j83 =>
 wtS x80 true (j83 x17 h78) (j83 u h78)) fun j79 =>
 wtS x70 true (kEqI false x74 (qi 1) fun x124 =>
 j79 x124 h75) (j79 u h75)) fun j76 =>
 wtS x70 true (kCall X 26 [x71] h72 fun x125 h126 =>
 j76 x125 h126) (j76 u h72)) fun j73 =>
 wtS x70 true (j73 x19 h68) (j73 u h68)) fun j69 =>
 wtS x60 true (kEqI false x64 (qi 2) fun x127 =>
 j69 x127 h65) (j69 u h65)) fun j66 =>
 wtS x60 true (kCall X 26 [x61] h62 fun x128 h129 =>
 j66 x128 h129) (j66 u h62)) fun j63 =>
 wtS x60 true (j63 x17 h58) (j63 u h58)) fun j59 =>
 wtS x50 true (kEqI false x54 (qi 0) fun x130 =>
 j59 x130 h55) (j59 u h55)) fun j56 =>
 wtS x50 true (kLen x51 fun x131 =>
 j56 x131 h52) (j56 u h52)) fun j53 =>
 wtS x50 true (j53 x31 h48) (j53 u h48)) fun j49 =>
 wtS x34 true (kEqI false x44 (qb 7) fun x132 =>
 j49 x132 h45) (j49 u h45)) fun j46 =>
 wtS x34 true (kL1 x41 h42 fun x133 =>
 j46 x133 h42) (j46 u h42)) fun j43 =>
 wtS x34 true (kFA 0 x38 fun x134 =>
 j43 x134 h39) (j43 u h39)) fun j40 =>
 wtS x34 true (kIS 131 x35 (qi 0) fun x135 =>
 j40 x135 h36) (j40 u h36)) fun j37 =>
 wtS x34 true (j37 x29 h32) (j37 u h32))) fun j27 =>
 wtS x21 false (kEq' false (.nilR .ptr) x22 .nilptr fun x136 =>
 j27 x136 h23) (j27 u h23)) fun j24 =>
 wtS x21 false (j24 x19 h20) (j24 u h20))))
theorem p8_ok (k : Nat) : p8 k = funcS k 0 lit8 := by kernel_rfl
def p13 (_ : Nat) : CtxK → List V → TH → R := fun X => ap 1 (fun x0 h1 =>
 kNew zr0 h1 fun x2 h3 =>
 kNilc x0 fun x4 =>
 kFA 3 x4 fun x5 =>
 kLA 49 x5 h3 fun x6 =>
 kCall X 36 [x6] h3 fun x7 h8 =>
 kSA 49 x2 x7 h8 fun _ h10 =>
 rsS [.cell 2 true 49] [x0, u, x2, x0, x4, x5, x6, x7] h10)
theorem p13_ok (k : Nat) : p13 k = funcS k 1 lit13 := by kernel_rfl
def p23 (_ : Nat) : CtxK → List V → TH → R := fun X => ap 1 (fun x0 h1 =>
 kNew (V.cellsR x0) h1 fun x2 h3 =>
 kNew zr8 h3 fun x4 h5 =>
 kLA 49 x2 h5 fun x6 =>
 kCall X 50 [x6] h5 fun x7 h8 =>
 kNot x7 fun x9 =>
 brS x9 (kB zr8 [] fun x10 =>
 kSA 39 x4 x10 h8 fun _ h12 =>
 rsS [.cell 2 true 39] [x0, x2, x4, x6, x7, x9, x10, u, u, u, u, u, u] h12) (kLA 49 x2 h8 fun x13 =>
 kFA 48 x2 fun x14 =>
 kL1 x14 h8 fun x15 =>
 kLen x15 fun x16 =>
 kCall X 52 [x13, x16] h8 fun x17 h18 =>
 kP (fieldE true 1 39 x17) fun x19 =>
 kSA 39 x4 x19 h18 fun _ h21 =>
 rsS [.cell 2 true 39] [x0, x2, x4, x6, x7, x9, u, x13, x14, x15, x16, x17, x19] h21))
theorem p23_ok (k : Nat) : p23 k = funcS k 1 lit23 := by kernel_rfl
def p26 (_ : Nat) : CtxK → List V → TH → R := fun _ => ap 1 (fun x0 h1 =>
 kNilc x0 fun x2 =>
 kFA 1 x2 fun x3 =>
 kL1 x3 h1 fun x4 =>
 some (x4, h1))
theorem p26_ok (k : Nat) : p26 k = funcS k 1 lit26 := by kernel_rfl
def p31 (k : Nat) : CtxK → List V → TH → R := fun X => ap 1 (fun x0 h1 =>
 kNilc x0 fun x2 =>
 kFA 1 x2 fun x3 =>
 kL1 x3 h1 fun x4 =>
 kEqI false x4 (qi 2) fun x5 =>
 jc (α := Cur 78) (fun x6 _ _ x9 _ _ _ _ _ _ _ _ _ _ _ _ _ _ _ _ _ _ _ _ _ _ _ _ _ _ _ _ _ _ _ _ _ _ _ _ _ _ _ _ _ _ _ _ _ _ _ _ _ _ _ _ _ _ _ _ _ _ _ _ _ _ _ _ _ _ _ _ _ _ _ _ _ _ h84 =>
 kNilc x6 fun x86 =>
 kFA 309 x86 fun x87 =>
 kL1 x87 h84 fun x88 =>
 kLen x88 fun x89 =>
 lp (α := Cur 78) (zN 78) (fun n169 x90 _ _ x93 _ _ _ _ _ _ _ _ _ _ _ _ _ _ _ _ _ _ _ _ _ _ _ _ _ _ _ _ _ _ _ _ _ x127 x128 x129 _ _ _ _ _ _ _ _ _ _ _ _ _ _ _ _ _ _ _ _ _ _ _ _ _ _ _ _ _ _ _ _ _ _ _ _ _ _ h168 =>
 kBin .lss x129 x128 fun x170 =>
 brS x170 (kIS 15 x127 x129 fun x171 =>
 kLA 15 x171 h168 fun x172 =>
 kNew zr5 h168 fun x173 h174 =>
 kSA 15 x173 x172 h174 fun _ h176 =>
 kNilc x90 fun x177 =>
 kFA 53 x177 fun x178 =>
 kL1 x178 h176 fun x181 =>
 kFA 10 x173 fun x182 =>
 kLA 5 x182 h176 fun x185 =>
 kCall X 42 [x181, x185] h176 fun x186 h187 =>
 kAp 1 8 x93 x186 h187 fun x188 h189 =>
 dokS [h176, h187, h189] [] (kBin .add x129 (qi 1) fun x190 =>
 n169 x90 u u x188 u u u u u u u u u u u u u u u u u u u u u u u u u u u u u u u u u x127 x128 x190 u u u u u u u u u u u u u u u u u u u u u u u u u u u u u u u u u u u u u u h189)) (kNilc x90 fun x191 =>
 kFA 310 x191 fun x192 =>
 kLA 42 x192 h168 fun x193 =>
 lp (α := Cur 78) (zN 78) (fun n273 x194 _ _ x197 _ _ _ _ _ _ _ _ _ _ _ _ _ _ _ _ _ _ _ _ _ _ _ _ _ _ _ _ _ _ _ _ _ _ _ _ _ _ _ _ _ _ _ _ _ _ _ _ _ _ _ _ x250 x251 _ _ _ _ _ _ _ _ _ _ _ _ _ _ _ _ _ _ _ _ h272 =>
 kBin .lss x251 (qi 3) fun x274 =>
 brS x274 (kP (indexE (some (3, 14, true)) x250 x251) fun x275 =>
 kNew zr6 h272 fun x276 h277 =>
 kSA 14 x276 x275 h277 fun _ h279 =>
 kFA 0 x276 fun x280 =>
 kFA 1 x280 fun x281 =>
 kL1 x281 h279 fun x282 =>
 kBin .gtr x282 (qw 0) fun x283 =>
 jc (α := Cur 78) (fun x284 _ _ x287 _ _ _ _ _ _ _ _ _ _ _ _ _ _ _ _ _ _ _ _ _ _ _ _ _ _ _ _ _ _ _ _ _ _ _ _ _ _ _ _ _ _ _ _ _ _ _ _ _ _ _ _ x340 x341 _ _ _ _ _ _ _ _ _ _ _ _ _ _ _ _ _ _ _ _ h362 =>
 kBin .add x341 (qi 1) fun x364 =>
 n273 x284 u u x287 u u u u u u u u u u u u u u u u u u u u u u u u u u u u u u u u u u u u u u u u u u u u u u u u u u u u x340 x364 u u u u u u u u u u u u u u u u u u u u h362) fun j363 =>
 brS x283 (kNilc x194 fun x365 =>
 kFA 53 x365 fun x366 =>
 kL1 x366 h279 fun x369 =>
 kFA 9 x276 fun x370 =>
 kLA 5 x370 h279 fun x373 =>
 kCall X 42 [x369, x373] h279 fun x374 h375 =>
 kAp 1 8 x197 x374 h375 fun x376 h377 =>
 dokS [h279, h375, h377] [] (j363 x194 u u x376 u u u u u u u u u u u u u u u u u u u u u u u u u u u u u u u u u u u u u u u u u u u u u u u u u u u u x250 x251 u u u u u u u u u u u u u u u u u u u u h377)) (j363 x194 u u x197 u u u u u u u u u u u u u u u u u u u u u u u u u u u u u u u u u u u u u u u u u u u u u u u u u u u u x250 x251 u u u u u u u u u u u u u u u u u u u u h279)) (kCall X 61 [x197] h272 fun _ h379 =>
 kCall X 62 [x197] h379 fun x380 h381 =>
 some (x380, h381))) k x90 u u x93 u u u u u u u u u u u u u u u u u u u u u u u u u u u u u u u u u u u u u u u u u u u u u u u u u u u u x193 (qi 0) u u u u u u u u u u u u u u u u u u u u h168)) k x6 u u x9 u u u u u u u u u u u u u u u u u u u u u u u u u u u u u u u u u x88 x89 (qi 0) u u u u u u u u u u u u u u u u u u u u u u u u u u u u u u u u u u u u u u h84) fun j85 =>
 brS x5 (kNilc x0 fun x382 =>
 kFA 53 x382 fun x383 =>
 kL1 x383 h1 fun x386 =>
 kNilc x0 fun x387 =>
 kFA 54 x387 fun x388 =>
 kLA 5 x388 h1 fun x391 =>
 kCall X 42 [x386, x391] h1 fun x392 h393 =>
 dokS [h1, h393] [] (j85 x0 u u x392 u u u u u u u u u u u u u u u u u u u u u u u u u u u u u u u u u u u u u u u u u u u u u u u u u u u u u u u u u u u u u u u u u u u u u u u u u u h393)) (kEqI false x4 (qi 3) fun x394 =>
 jc (α := Cur 78) (fun x395 _ _ x398 _ _ _ _ _ _ _ _ _ _ _ _ _ _ _ _ _ _ _ _ _ _ _ _ _ _ _ _ _ _ _ _ _ _ _ _ _ _ _ _ _ _ _ _ _ _ _ _ _ _ _ _ _ _ _ _ _ _ _ _ _ _ _ _ _ _ _ _ _ _ _ _ _ _ h473 =>
 j85 x395 u u x398 u u u u u u u u u u u u u u u u u u u u u u u u u u u u u u u u u u u u u u u u u u u u u u u u u u u u u u u u u u u u u u u u u u u u u u u u u u h473) fun j474 =>
 brS x394 (kNilc x0 fun x475 =>
 kFA 53 x475 fun x476 =>
 kL1 x476 h1 fun x479 =>
 kNilc x0 fun x480 =>
 kFA 59 x480 fun x481 =>
 kLA 5 x481 h1 fun x484 =>
 kCall X 42 [x479, x484] h1 fun x485 h486 =>
 dokS [h1, h486] [] (j474 x0 u u x485 u u u u u u u u u u u u u u u u u u u u u u u u u u u u u u u u u u u u u u u u u u u u u u u u u u u u u u u u u u u u u u u u u u u u u u u u u u h486)) (j474 x0 u u .nils u u u u u u u u u u u u u u u u u u u u u u u u u u u u u u u u u u u u u u u u u u u u u u u u u u u u u u u u u u u u u u u u u u u u u u u u u u h1)))
theorem p31_ok (k : Nat) : p31 k = funcS k 1 lit31 := by kernel_rfl
def p43 (_ : Nat) : CtxK → List V → TH → R := fun X => ap 1 (fun x0 h1 =>
 kCall X 58 [x0] h1 fun x2 h3 =>
 kCall X 87 [x0, x2] h3 fun x4 h5 =>
 kExt x4 0 fun x6 =>
 kExt x4 1 fun _ =>
 kNew zr4 h5 fun x8 h9 =>
 kSA 16 x8 x6 h9 fun _ h11 =>
 kLA 16 x8 h11 fun x12 =>
 kCall X 88 [x12] h11 fun x13 h14 =>
 some (x13, h14))
theorem p43_ok (k : Nat) : p43 k = funcS k 1 lit43 := by kernel_rfl
def p46 (_ : Nat) : CtxK → List V → TH → R := fun X => ap 3 (fun x0 x1 x2 h3 =>
 kNew zr1 h3 fun x4 h5 =>
 kL1 x1 h5 fun x6 =>
 kFA 0 x2 fun x7 =>
 kLA 8 x7 h5 fun x8 =>
 kCall X 47 [x6, x0, x8] h5 fun x9 h10 =>
 kSA 131 x4 x9 h10 fun _ h12 =>
 rsS [.cell 4 true 131] [x0, x1, x2, u, x4, x6, x0, x7, x8, x9] h12)
theorem p46_ok (k : Nat) : p46 k = funcS k 3 lit46 := by kernel_rfl
def p47 (_ : Nat) : CtxK → List V → TH → R := fun X => ap 3 (fun x0 x1 x2 h3 =>
 kNew (V.cellsR x2) h3 fun x4 h5 =>
 kNew zr1 h5 fun x6 h7 =>
 kCall X 89 [x0, (qb 11), x1] h7 fun x8 h9 =>
 kNew zr1 h9 fun x10 h11 =>
 kSA 131 x10 x8 h11 fun _ h13 =>
 kLA 8 x4 h13 fun x14 =>
 kFA 114 x10 fun x15 =>
 kSA 8 x15 x14 h13 fun _ h17 =>
 kLA 131 x10 h17 fun x18 =>
 kSA 131 x6 x18 h17 fun _ h20 =>
 rsS [.cell 6 true 131] [x0, x1, x2, u, u, x4, x6, x10, x0, x1, x8, x14, x15, x18] h20)
theorem p47_ok (k : Nat) : p47 k = funcS k 3 lit47 := by kernel_rfl
def p52 (k : Nat) : CtxK → List V → TH → R := fun X => ap 2 (fun x0 x1 h2 =>
 kNew (V.cellsR x0) h2 fun x3 h4 =>
 kNew zr0 h4 fun x5 h6 =>
 kFA 48 x3 fun x7 =>
 kL1 x7 h6 fun x8 =>
 kP (sliceE 8 x8 none (some x1)) fun x9 =>
 kLen x9 fun x10 =>
 lp (α := Cur 39) (zN 39) (fun n51 x11 x12 x13 x14 x15 x16 x17 x18 x19 x20 x21 x22 x23 _ x25 x26 x27 x28 x29 x30 x31 x32 x33 x34 x35 x36 x37 x38 x39 x40 x41 x42 _ _ _ _ _ _ _ h50 =>
 kBin .lss x23 x22 fun x52 =>
 brS x52 (kIS 8 x21 x23 fun x53 =>
 kLA 8 x53 h50 fun x54 =>
 kNew zr2 h50 fun x55 h56 =>
 kSA 8 x55 x54 h56 fun _ h58 =>
 kFA 1 x13 fun x59 =>
 kLA 39 x59 h58 fun x60 =>
 kFA 2 x55 fun x61 =>
 kLA 6 x61 h58 fun x62 =>
 kCall X 93 [x60, x62] h58 fun x63 h64 =>
 kExt x63 0 fun x65 =>
 kExt x63 1 fun _ =>
 kFA 1 x13 fun x67 =>
 kSA 39 x67 x65 h64 fun _ h69 =>
 kFA 0 x55 fun x70 =>
 kL1 x70 h69 fun x71 =>
 kFA 1 x55 fun x72 =>
 kL1 x72 h69 fun x73 =>
 kB zr2 [(0, 1, x71), (1, 1, x73)] fun x74 =>
 kFA 40 x13 fun x75 =>
 kSA 8 x75 x74 h69 fun _ h77 =>
 kBin .add x23 (qi 1) fun x78 =>
 n51 u x12 x13 u x15 u u u u u x21 x22 x78 u u u u u u u u u u u u u u u u u u u u u u u u u u h77) (kFA 48 x13 fun x79 =>
 kL1 x79 h50 fun x80 =>
 kP (sliceE 8 x80 (some x12) none) fun x81 =>
 kCall X 94 [x81] h50 fun x82 h83 =>
 kFA 48 x13 fun x84 =>
 kS1 x84 x82 h83 fun _ h86 =>
 kLA 49 x13 h86 fun x87 =>
 kSA 49 x15 x87 h86 fun _ h89 =>
 rsS [.cell 4 true 49] [x11, x12, x13, x14, x15, x16, x17, x18, x19, x20, x21, x22, x23, x52, x25, x26, x27, x28, x29, x30, x31, x32, x33, x34, x35, x36, x37, x38, x39, x40, x41, x42, x79, x80, x12, x81, x82, x84, x87] h89)) k u x1 x3 u x5 u u u u u x9 x10 (qi 0) u u u u u u u u u u u u u u u u u u u u u u u u u u h6)
theorem p52_ok (k : Nat) : p52 k = funcS k 2 lit52 := by kernel_rfl
def p54 (_ : Nat) : CtxK → List V → TH → R := fun X => ap 2 (fun x0 x1 h2 =>
 kCall X 95 [x0, x1] h2 fun x3 h4 =>
 kBin .geq x3 (qi 0) fun x5 =>
 some (x5, h4))
theorem p54_ok (k : Nat) : p54 k = funcS k 2 lit54 := by kernel_rfl
def p55 (_ : Nat) : CtxK → List V → TH → R := fun _ => ap 1 (fun x0 h1 =>
 kNilc x0 fun x2 =>
 kFA 53 x2 fun x3 =>
 kL1 x3 h1 fun x4 =>
 kLen x4 fun x5 =>
 kEqI false x5 (qi 0) fun x6 =>
 brS x6 (some ((.int .i64 (-1)), h1)) (kNilc x0 fun x7 =>
 kFA 53 x7 fun x8 =>
 kL1 x8 h1 fun x9 =>
 kIS 1 x9 (qi 0) fun x10 =>
 kL1 x10 h1 fun x11 =>
 some (x11, h1)))
theorem p55_ok (k : Nat) : p55 k = funcS k 1 lit55 := by kernel_rfl
def p59 (k : Nat) : CtxK → List V → TH → R := fun X => ap 2 (fun x0 x1 h2 =>
 kNew (V.cellsR x1) h2 fun x3 h4 =>
 kNilc x0 fun x5 =>
 kFA 0 x5 fun x6 =>
 kL1 x6 h4 fun x9 =>
 kFA 0 x3 fun x10 =>
 kL1 x10 h4 fun x13 =>
 kLA 16 x3 h4 fun x16 =>
 kMU x9 x13 x16 h4 fun _ h18 =>
 dokS [h4, h18] [] (kFA 0 x3 fun x19 =>
 kL1 x19 h18 fun x20 =>
 kNilc x0 fun x21 =>
 kFA 2 x21 fun x22 =>
 kS1 x22 x20 h18 fun _ h24 =>
 lp (α := Cur 60) (zN 60) (fun n86 x25 _ _ x28 _ _ _ _ _ _ _ _ _ _ _ _ _ _ _ x44 _ _ _ _ _ _ _ _ _ _ _ _ _ _ _ _ _ _ _ _ _ _ _ _ _ _ _ _ _ _ _ _ _ _ _ _ _ _ _ _ h85 =>
 kBin .lss x44 (qi 4) fun x87 =>
 brS x87 (kLA 16 x28 h85 fun x88 =>
 kConv .u8 x44 fun x89 =>
 kCall X 100 [x88, x89] h85 fun x90 h91 =>
 kNilc x25 fun x92 =>
 kFA 3 x92 fun x93 =>
 kIA 4 1 x93 x44 fun x94 =>
 kL1 x94 h91 fun x95 =>
 kLen x95 fun x96 =>
 kEqI false x96 (qi 0) fun x97 =>
 jc (α := JT) (fun x98 h99 =>
 jc (α := JT) (fun x101 h102 =>
 jc (α := JT) (fun x104 h105 =>
 jc (α := JT) (fun x107 h108 =>
 jc (α := JT) (fun x110 h111 =>
 jc (α := JT) (fun x113 h114 =>
 jc (α := JT) (fun x116 h117 =>
 jc (α := JT) (fun x119 h120 =>
 jc (α := JT) (fun x122 h123 =>
 jc (α := JT) (fun x125 h126 =>
 kPick x97 qt x125 fun x128 =>
 jc (α := Cur 60) (fun x129 _ _ x132 _ _ _ _ _ _ _ _ _ _ _ _ _ _ _ x148 _ _ _ _ _ _ _ _ _ _ _ _ _ _ _ _ _ _ _ _ _ _ _ _ _ _ _ _ _ _ _ _ _ _ _ _ _ _ _ _ h189 =>
 kBin .add x148 (qi 1) fun x191 =>
 n86 x129 u u x132 u u u u u u u u u u u u u u u x191 u u u u u u u u u u u u u u u u u u u u u u u u u u u u u u u u u u u u u u u u h189) fun j190 =>
 brS x128 (kFA 0 x28 fun x192 =>
 kL1 x192 h126 fun x195 =>
 kB [(qw 0), .nils] [(0, 1, x195), (1, 1, x90)] fun x196 =>
 kBS 2 [(qw 0), .nils] 1 [(0, 2, x196)] h126 fun x197 h198 =>
 kNilc x25 fun x199 =>
 kFA 3 x199 fun x200 =>
 kAp 2 32 x95 x197 h198 fun x201 h202 =>
 kIA 4 1 x200 x44 fun x203 =>
 kS1 x203 x201 h202 fun _ h205 =>
 dokS [h198, h202, h205] [] (j190 x25 u u x28 u u u u u u u u u u u u u u u x44 u u u u u u u u u u u u u u u u u u u u u u u u u u u u u u u u u u u u u u u u h205)) (j190 x25 u u x28 u u u u u u u u u u u u u u u x44 u u u u u u u u u u u u u u u u u u u u u u u u u u u u u u u u u u u u u u u u h126)) fun j127 =>
 wtS x97 false (kNot x122 fun x206 =>
 j127 x206 h123) (j127 u h123)) fun j124 =>
 wtS x97 false (kCall X 101 [x116, x119] h120 fun x207 h208 =>
 j124 x207 h208) (j124 u h120)) fun j121 =>
 wtS x97 false (j121 x90 h117) (j121 u h117)) fun j118 =>
 wtS x97 false (kL1 x113 h114 fun x209 =>
 j118 x209 h114) (j118 u h114)) fun j115 =>
 wtS x97 false (kFA 1 x110 fun x210 =>
 j115 x210 h111) (j115 u h111)) fun j112 =>
 wtS x97 false (kIS 2 x98 x107 fun x211 =>
 j112 x211 h108) (j112 u h108)) fun j109 =>
 wtS x97 false (kBin .sub x104 (qi 1) fun x212 =>
 j109 x212 h105) (j109 u h105)) fun j106 =>
 wtS x97 false (kLen x101 fun x213 =>
 j106 x213 h102) (j106 u h102)) fun j103 =>
 wtS x97 false (j103 x95 h99) (j103 u h99)) fun j100 =>
 wtS x97 false (j100 x95 h91) (j100 u h91)) (some (.tup [], h85))) k x0 u u x3 u u u u u u u u u u u u u u u (qi 0) u u u u u u u u u u u u u u u u u u u u u u u u u u u u u u u u u u u u u u u u h24))
theorem p59_ok (k : Nat) : p59 k = funcS k 2 lit59 := by kernel_rfl
def p65 (_ : Nat) : CtxK → List V → TH → R := fun X => ap 3 (fun x0 _ x2 h3 =>
 kNew (V.cellsR x2) h3 fun x4 h5 =>
 kLA 131 x4 h5 fun x6 =>
 kCall X 105 [x0, x6] h5 fun x7 h8 =>
 kNot x7 fun x9 =>
 brS x9 (some (.nils, h8)) (kFA 62 x4 fun x10 =>
 kLA 52 x10 h8 fun x11 =>
 kCall X 106 [x0, x11] h8 fun _ h13 =>
 kLA 131 x4 h13 fun x14 =>
 kCall X 107 [x0, (qb 10), x14] h13 fun x15 h16 =>
 some (x15, h16)))
theorem p65_ok (k : Nat) : p65 k = funcS k 3 lit65 := by kernel_rfl
def p66 (_ : Nat) : CtxK → List V → TH → R := fun X => ap 3 (fun x0 _ x2 h3 =>
 kNew (V.cellsR x2) h3 fun x4 h5 =>
 kLA 131 x4 h5 fun x8 =>
 kCall X 108 [x0, (qi 3), x8] h5 fun x9 h10 =>
 kNot x9 fun x11 =>
 jc (α := JT) (fun x12 h13 =>
 jc (α := V → TH → PD → R) (fun x17 h18 d19 =>
 jc (α := JT) (fun x21 h22 =>
 jc (α := JT) (fun x24 h25 =>
 jc (α := JT) (fun x27 h28 =>
 kPick x11 qt x27 fun x30 =>
 dokS [h5, h22, h28] d19 (brS x30 (some (.nils, h28)) (kLA 131 x4 h28 fun x33 =>
 kNilc x0 fun x34 =>
 kFA 59 x34 fun x35 =>
 kCall X 104 [x33] h28 fun x36 h37 =>
 kIA 5 1 x35 x36 fun x38 =>
 kS1 x38 qt h37 fun _ h40 =>
 dokS [h28, h37, h40] [] (kNilc x0 fun x41 =>
 kFA 59 x41 fun x42 =>
 kLA 5 x42 h40 fun x45 =>
 kNilc x0 fun x46 =>
 kFA 53 x46 fun x47 =>
 kL1 x47 h40 fun x50 =>
 kCall X 110 [x45, x50] h40 fun x51 h52 =>
 dokS [h40, h52] [] (jc (α := Cur 36) (fun _ _ _ _ _ _ _ _ _ _ _ _ _ _ _ _ _ _ _ _ _ _ _ _ _ _ _ _ _ _ _ _ _ _ _ _ h89 =>
 some (.nils, h89)) fun j90 =>
 brS x51 (kNilc x0 fun x91 =>
 kFA 1 x91 fun x92 =>
 kS1 x92 (qi 4) h52 fun _ h94 =>
 j90 u u u u u u u u u u u u u u u u u u u u u u u u u u u u u u u u u u u u h94) (j90 u u u u u u u u u u u u u u u u u u u u u u u u u u u u u u u u u u u u h52)))))) fun j29 =>
 wtS x11 false (kEqI true x17 x24 fun x95 =>
 j29 x95 h25) (j29 u h25)) fun j26 =>
 wtS x11 false (kCall X 109 [x21] h22 fun x96 h97 =>
 j26 x96 h97) (j26 u h22)) fun j23 =>
 wtS x11 false (j23 x0 h18) (j23 u h18)) fun j20 =>
 wtS x11 false (kL1 x12 h13 fun x98 =>
 j20 x98 h13 ((fun h15 => kL1 x12 h15 fun x16 =>
 some (x16, h15), x98, 1, 2) :: [])) (j20 u h13 [])) fun j14 =>
 wtS x11 false (kFA 122 x4 fun x99 =>
 j14 x99 h10) (j14 u h10))
theorem p66_ok (k : Nat) : p66 k = funcS k 3 lit66 := by kernel_rfl
def p71 (_ : Nat) : CtxK → List V → TH → R := fun X => ap 3 (fun x0 _ x2 h3 =>
 kNew (V.cellsR x2) h3 fun x4 h5 =>
 kNilc x0 fun x6 =>
 kFA 1 x6 fun x7 =>
 kL1 x7 h5 fun x8 =>
 kEqI true x8 (qi 4) fun x9 =>
 brS x9 (some (.nils, h5)) (kFA 123 x4 fun x10 =>
 kLA 6 x10 h5 fun x11 =>
 kCall X 9 [x11] h5 fun x12 h13 =>
 brS x12 (kFA 123 x4 fun x14 =>
 kLA 6 x14 h13 fun x15 =>
 kCall X 114 [x0, x15] h13 fun x16 h17 =>
 some (x16, h17)) (kFA 123 x4 fun x18 =>
 kLA 6 x18 h13 fun x19 =>
 kCall X 115 [x0, x19] h13 fun x20 h21 =>
 some (x20, h21))))
theorem p71_ok (k : Nat) : p71 k = funcS k 3 lit71 := by kernel_rfl
def p84 (_ : Nat) : CtxK → List V → TH → R := fun _ => ap 1 (fun x0 h1 =>
 kNew (V.cellsR x0) h1 fun x2 h3 =>
 some ((.fn 125 [] [x2]), h3))
theorem p84_ok (k : Nat) : p84 k = funcS k 1 lit84 := by kernel_rfl
def p87 (_ : Nat) : CtxK → List V → TH → R := fun _ => ap 2 (fun x0 x1 h2 =>
 kNew zr4 h2 fun x3 h4 =>
 kNilc x0 fun x5 =>
 kFA 0 x5 fun x6 =>
 kL1 x6 h4 fun x7 =>
 kP (lookupG h4.get (.agg zr4) true x7 x1) fun x8 =>
 kExt x8 0 fun x9 =>
 kExt x8 1 fun x10 =>
 kNew zr4 h4 fun x11 h12 =>
 kSA 16 x11 x9 h12 fun _ h14 =>
 kLA 16 x11 h14 fun x15 =>
 kSA 16 x3 x15 h14 fun _ h17 =>
 rsS [.cell 4 true 16, .tmp 5] [x0, x1, u, u, x3, x10, x11, x10, x8, x0, x5, x6, x7, x1, x8, x9, x10, x15, x10] h17)
theorem p87_ok (k : Nat) : p87 k = funcS k 2 lit87 := by kernel_rfl
def p89 (_ : Nat) : CtxK → List V → TH → R := fun _ => ap 3 (fun x0 x1 x2 h3 =>
 kNew zr1 h3 fun x4 h5 =>
 kNilc x0 fun x6 =>
 kFA 0 x6 fun x7 =>
 kL1 x7 h5 fun x10 =>
 kConv .u8 x10 fun x11 =>
 kBin .add (qb 10) x11 fun x12 =>
 kConv .u8 x2 fun x13 =>
 kBin .add (qb 10) x13 fun x14 =>
 kNilc x0 fun x15 =>
 kFA 52 x15 fun x16 =>
 kL1 x16 h5 fun x19 =>
 kNilc x0 fun x20 =>
 kFA 2 x20 fun x21 =>
 kL1 x21 h5 fun x24 =>
 kB zr1 [(0, 1, x1), (1, 1, x12), (2, 1, x14), (3, 1, x19), (12, 1, x24)] fun x25 =>
 kSA 131 x4 x25 h5 fun _ h27 =>
 dokS [h5, h27] [] (rsS [.cell 6 true 131] [x0, x1, x2, u, u, u, x4, x1, x0, x6, x7, x10, x11, x12, x2, x13, x14, x0, x15, x16, x19, x0, x20, x21, x24, x25] h27))
theorem p89_ok (k : Nat) : p89 k = funcS k 3 lit89 := by kernel_rfl
def p93 (_ : Nat) : CtxK → List V → TH → R := fun X => ap 2 (fun x0 x1 h2 =>
 kNew (V.cellsR x0) h2 fun x3 h4 =>
 kNew (V.cellsR x1) h4 fun x5 h6 =>
 kNew zr8 h6 fun x7 h8 =>
 kNew [(qb 0), qs] h8 fun x9 h10 =>
 kLA 6 x5 h10 fun x11 =>
 kCall X 9 [x11] h10 fun x12 h13 =>
 kNot x12 fun x14 =>
 brS x14 (kLA 39 x3 h13 fun x15 =>
 kB [(qb 0), qs] [(0, 1, (qb 3))] fun x16 =>
 kSA 39 x7 x15 h13 fun _ h18 =>
 kSA 2 x9 x16 h18 fun _ h20 =>
 rsS [.cell 4 true 39, .cell 5 true 2] [x0, x1, x3, x5, x7, x9, u, u, u, u, x11, x12, x14, x15, x16, u, u, u, u, u, u, u, u, u, u, u, u, u, u, u, u, u, u, u, u, u, u, u, u, u, u, u, u, u, u, u, u, u, u, u, u, u, u, u, u, u, u] h20) (kLA 39 x3 h13 fun x21 =>
 kLA 6 x5 h13 fun x22 =>
 kCall X 133 [x21, x22] h13 fun x23 h24 =>
 kExt x23 0 fun x25 =>
 kExt x23 1 fun x26 =>
 kNew [(qb 0), qs] h24 fun x27 h28 =>
 kSA 2 x27 x25 h28 fun _ h30 =>
 brS x26 (kLA 39 x3 h30 fun x33 =>
 kLA 2 x27 h30 fun x36 =>
 kSA 39 x7 x33 h30 fun _ h38 =>
 kSA 2 x9 x36 h38 fun _ h40 =>
 dokS [h30, h38, h40] ((fun h34 => kLA 2 x27 h34 fun x35 =>
 some (x35, h34), x36, 0, 1) :: []) (rsS [.cell 4 true 39, .cell 5 true 2] [x0, x1, x3, x5, x7, x9, x27, x26, u, u, x11, x12, x14, u, u, x23, x21, x22, x23, x25, x26, x26, x33, x36, u, u, u, u, u, u, u, u, u, u, u, u, u, u, u, u, u, u, u, u, u, u, u, u, u, u, u, u, u, u, u, u, u] h40)) (kFA 3 x5 fun x41 =>
 kL1 x41 h30 fun x42 =>
 kFA 0 x3 fun x43 =>
 kIA 6 5 x43 x42 fun x44 =>
 kLA 5 x44 h30 fun x45 =>
 kB [qf, qs, qs, qs, qs] [(0, 5, x45)] fun x46 =>
 kNew (V.cellsR x46) h30 fun x47 h48 =>
 kFA 2 x5 fun x49 =>
 kL1 x49 h48 fun x52 =>
 kLA 6 x5 h48 fun x55 =>
 kNew [(qb 0), qs] h48 fun x56 h57 =>
 kCall X 134 [x52] h57 fun x58 h59 =>
 kCv X x58 [x47, x55] h59 fun x60 h61 =>
 kB [(qb 0), qs] [(0, 1, x60)] fun x62 =>
 kSA 2 x56 x62 h61 fun _ h64 =>
 dokS [h57, h59, h61, h64] ((fun h53 => kLA 6 x5 h53 fun x54 =>
 some (x54, h53), x55, 0, 1) :: []) (kFA 3 x5 fun x65 =>
 kL1 x65 h64 fun x68 =>
 kNilc x47 fun x69 =>
 kFA 0 x69 fun x70 =>
 kLA 5 x70 h64 fun x73 =>
 kFA 0 x3 fun x74 =>
 kIA 6 5 x74 x68 fun x75 =>
 kSA 5 x75 x73 h64 fun _ h77 =>
 dokS [h64, h77] [] (kFA 0 x5 fun x78 =>
 kL1 x78 h77 fun x79 =>
 kBin .sub x79 (qb 1) fun x80 =>
 kFA 1 x5 fun x81 =>
 kL1 x81 h77 fun x82 =>
 kLA 2 x56 h77 fun x83 =>
 kB [(qw 0), (qb 0), qs] [(0, 1, x82), (1, 2, x83)] fun x84 =>
 kFA 30 x3 fun x85 =>
 kIA 3 3 x85 x80 fun x86 =>
 kSA 3 x86 x84 h77 fun _ h88 =>
 kLA 39 x3 h88 fun x91 =>
 kLA 2 x56 h88 fun x94 =>
 kSA 39 x7 x91 h88 fun _ h96 =>
 kSA 2 x9 x94 h96 fun _ h98 =>
 dokS [h88, h96, h98] ((fun h92 => kLA 2 x56 h92 fun x93 =>
 some (x93, h92), x94, 0, 1) :: []) (rsS [.cell 4 true 39, .cell 5 true 2] [x0, x1, x3, x5, x7, x9, x27, x26, x47, x56, x11, x12, x14, u, u, x23, x21, x22, x23, x25, x26, x26, u, u, x41, x42, x43, x44, x45, x46, x47, x49, x52, x58, x47, x55, x60, x62, x65, x68, x47, x69, x70, x73, x74, x75, x78, x79, x80, x81, x82, x83, x84, x85, x86, x91, x94] h98))))))
theorem p93_ok (k : Nat) : p93 k = funcS k 2 lit93 := by kernel_rfl
def p96 (_ : Nat) : CtxK → List V → TH → R := fun X => ap 4 (fun x0 x1 x2 x3 h4 =>
 kNew (V.cellsR x2) h4 fun x5 h6 =>
 kL1 x5 h6 fun x7 =>
 kCall X 136 [x0, x1, x7, x3] h6 fun x8 h9 =>
 kLen x8 fun x10 =>
 kEqI false x10 (qi 0) fun x11 =>
 jc (α := JT) (fun x12 h13 =>
 jc (α := JT) (fun x15 h16 =>
 jc (α := JT) (fun x18 h19 =>
 jc (α := JT) (fun x21 h22 =>
 jc (α := JT) (fun x24 h25 =>
 jc (α := JT) (fun x27 h28 =>
 kPick x11 x27 qf fun x30 =>
 some (x30, h28)) fun j29 =>
 wtS x11 true (kNot x24 fun x31 =>
 j29 x31 h25) (j29 u h25)) fun j26 =>
 wtS x11 true (kCall X 137 [x18, x21] h22 fun x32 h33 =>
 j26 x32 h33) (j26 u h22)) fun j23 =>
 wtS x11 true (j23 (.fn 135 [] [x5]) h19) (j23 u h19)) fun j20 =>
 wtS x11 true (kCall X 12 [x12, x15] h16 fun x34 h35 =>
 j20 x34 h35) (j20 u h16)) fun j17 =>
 wtS x11 true (j17 x1 h13) (j17 u h13)) fun j14 =>
 wtS x11 true (j14 x0 h9) (j14 u h9))
theorem p96_ok (k : Nat) : p96 k = funcS k 4 lit96 := by kernel_rfl
def p97 (k : Nat) : CtxK → List V → TH → R := fun _ => ap 1 (fun x0 h1 =>
 kLen x0 fun x2 =>
 lp (α := Cur 18) (zN 18) (fun n22 _ _ _ x6 _ _ x9 x10 x11 _ _ _ _ _ _ _ _ _ h21 =>
 kBin .lss x11 x10 fun x23 =>
 brS x23 (kIS 49 x9 x11 fun x24 =>
 kLA 49 x24 h21 fun x25 =>
 kNew zr0 h21 fun x26 h27 =>
 kSA 49 x26 x25 h27 fun _ h29 =>
 kFA 0 x26 fun x30 =>
 kL1 x30 h29 fun x31 =>
 kP (minE true x6 x31) fun x32 =>
 kBin .add x11 (qi 1) fun x33 =>
 n22 u u u x32 u u x9 x10 x33 u u u u u u u u u h29) (some (x6, h21))) k u u u (qw 0) u u x0 x2 (qi 0) u u u u u u u u u h1)
theorem p97_ok (k : Nat) : p97 k = funcS k 1 lit97 := by kernel_rfl
def p100 (_ : Nat) : CtxK → List V → TH → R := fun X => ap 2 (fun x0 x1 h2 =>
 kNew (V.cellsR x0) h2 fun x3 h4 =>
 kLA 16 x3 h4 fun x5 =>
 kCall X 142 [x5, x1] h4 fun x6 h7 =>
 kCall X 85 [x6, (.fn 143 [] [x3])] h7 fun x8 h9 =>
 some (x8, h9))
theorem p100_ok (k : Nat) : p100 k = funcS k 2 lit100 := by kernel_rfl
def p105 (_ : Nat) : CtxK → List V → TH → R := fun X => ap 2 (fun x0 x1 h2 =>
 kNew (V.cellsR x1) h2 fun x3 h4 =>
 kNilc x0 fun x5 =>
 kFA 1 x5 fun x6 =>
 kL1 x6 h4 fun x7 =>
 kEqI false x7 (qi 1) fun x8 =>
 jc (α := JT) (fun x9 h10 =>
 jc (α := JT) (fun x12 h13 =>
 jc (α := JT) (fun x15 h16 =>
 jc (α := JT) (fun x18 h19 =>
 jc (α := JT) (fun x21 h22 =>
 kPick x8 x21 qf fun x24 =>
 some (x24, h22)) fun j23 =>
 wtS x8 true (kEqI false x12 x18 fun x25 =>
 j23 x25 h19) (j23 u h19)) fun j20 =>
 wtS x8 true (kCall X 55 [x15] h16 fun x26 h27 =>
 j20 x26 h27) (j20 u h16)) fun j17 =>
 wtS x8 true (j17 x0 h13) (j17 u h13)) fun j14 =>
 wtS x8 true (kCall X 104 [x9] h10 fun x28 h29 =>
 j14 x28 h29) (j14 u h10)) fun j11 =>
 wtS x8 true (kLA 131 x3 h4 fun x30 =>
 j11 x30 h4) (j11 u h4))
theorem p105_ok (k : Nat) : p105 k = funcS k 2 lit105 := by kernel_rfl
def p109 (_ : Nat) : CtxK → List V → TH → R := fun X => ap 1 (fun x0 h1 =>
 kNilc x0 fun x2 =>
 kFA 3 x2 fun x3 =>
 kLA 49 x3 h1 fun x4 =>
 kCall X 22 [x4] h1 fun x5 h6 =>
 kExt x5 0 fun _ =>
 kExt x5 1 fun x8 =>
 some (x8, h6))
theorem p109_ok (k : Nat) : p109 k = funcS k 1 lit109 := by kernel_rfl
def p112 (_ : Nat) : CtxK → List V → TH → R := fun _ => ap 3 (fun x0 x1 x2 h3 =>
 kNew (V.cellsR x1) h3 fun x4 h5 =>
 kNew (V.cellsR x2) h5 fun x6 h7 =>
 kNew zr1 h7 fun x8 h9 =>
 kNilc x0 fun x10 =>
 kFA 0 x10 fun x11 =>
 kL1 x11 h9 fun x14 =>
 kConv .u8 x14 fun x15 =>
 kBin .add (qb 10) x15 fun x16 =>
 kFA 0 x4 fun x17 =>
 kL1 x17 h9 fun x20 =>
 kBin .add (qb 20) x20 fun x21 =>
 kLA 6 x4 h9 fun x24 =>
 kLA 2 x6 h9 fun x27 =>
 kB zr1 [(0, 1, (qb 16)), (1, 1, x16), (2, 1, x21), (123, 6, x24), (129, 2, x27)] fun x28 =>
 kSA 131 x8 x28 h9 fun _ h30 =>
 dokS [h9, h30] [] (rsS [.cell 6 true 131] [x0, x1, x2, u, x4, x6, x8, x0, x10, x11, x14, x15, x16, x17, x20, x21, x24, x27, x28] h30))
theorem p112_ok (k : Nat) : p112 k = funcS k 3 lit112 := by kernel_rfl
def p114 (_ : Nat) : CtxK → List V → TH → R := fun X => ap 2 (fun x0 x1 h2 =>
 kNew (V.cellsR x0) h2 fun x3 h4 =>
 kNew (V.cellsR x1) h4 fun x5 h6 =>
 kL1 x3 h6 fun x7 =>
 kNilc x7 fun x8 =>
 kFA 3 x8 fun x9 =>
 kLA 49 x9 h6 fun x10 =>
 kCall X 23 [x10] h6 fun x11 h12 =>
 kNew zr8 h12 fun x13 h14 =>
 kSA 39 x13 x11 h14 fun _ h16 =>
 kLA 39 x13 h16 fun x17 =>
 kLA 6 x5 h16 fun x18 =>
 kCall X 133 [x17, x18] h16 fun x19 h20 =>
 kExt x19 0 fun x21 =>
 kExt x19 1 fun x22 =>
 kNew [(qb 0), qs] h20 fun x23 h24 =>
 kSA 2 x23 x21 h24 fun _ h26 =>
 brS x22 (kL1 x3 h26 fun x27 =>
 kNilc x27 fun x28 =>
 kFA 309 x28 fun x29 =>
 kL1 x29 h26 fun x30 =>
 kCall X 158 [x30, (.fn 159 [] [x5])] h26 fun x31 h32 =>
 jc (α := JT) (fun x33 h34 =>
 jc (α := V → TH → PD → R) (fun x38 h39 d40 =>
 jc (α := JT) (fun x42 h43 =>
 jc (α := JT) (fun x45 h46 =>
 jc (α := JT) (fun x48 h49 =>
 jc (α := JT) (fun x51 h52 =>
 jc (α := V → TH → PD → R) (fun x56 h57 d58 =>
 jc (α := JT) (fun x60 h61 =>
 jc (α := V → TH → PD → R) (fun x65 h66 d67 =>
 jc (α := JT) (fun x69 h70 =>
 kPick x31 qt x69 fun x72 =>
 dokS [h70] d67 (brS x72 (some (.nils, h70)) (kL1 x3 h70 fun x73 =>
 kLA 6 x5 h70 fun x74 =>
 kLA 2 x23 h70 fun x75 =>
 kCall X 112 [x73, x74, x75] h70 fun x76 h77 =>
 kBS 131 zr1 1 [(0, 131, x76)] h77 fun x78 h79 =>
 some (x78, h79)))) fun j71 =>
 wtS x31 false (kBin .gtr x56 x65 fun x80 =>
 j71 x80 h66) (j71 u h66)) fun j68 =>
 wtS x31 false (kL1 x60 h61 fun x81 =>
 j68 x81 h61 d58) (j68 u h61 d58)) fun j62 =>
 wtS x31 false (kFA 1 x5 fun x82 =>
 j62 x82 h57) (j62 u h57)) fun j59 =>
 wtS x31 false (kL1 x51 h52 fun x83 =>
 j59 x83 h52 d40) (j59 u h52 d40)) fun j53 =>
 wtS x31 false (kFA 0 x48 fun x84 =>
 j53 x84 h49) (j53 u h49)) fun j50 =>
 wtS x31 false (kIA 3 3 x45 x42 fun x85 =>
 j50 x85 h46) (j50 u h46)) fun j47 =>
 wtS x31 false (kFA 30 x13 fun x86 =>
 j47 x86 h43) (j47 u h43)) fun j44 =>
 wtS x31 false (kBin .sub x38 (qb 1) fun x87 =>
 j44 x87 h39) (j44 u h39)) fun j41 =>
 wtS x31 false (kL1 x33 h34 fun x88 =>
 j41 x88 h34 []) (j41 u h34 [])) fun j35 =>
 wtS x31 false (kFA 0 x5 fun x89 =>
 j35 x89 h32) (j35 u h32)) (kL1 x3 h26 fun x90 =>
 kNilc x90 fun x91 =>
 kFA 309 x91 fun x92 =>
 kL1 x92 h26 fun x93 =>
 kLen x93 fun x94 =>
 kBin .geq x94 (qi 3) fun x95 =>
 brS x95 (some (.nils, h26)) (kL1 x3 h26 fun x98 =>
 kNilc x98 fun x99 =>
 kFA 52 x99 fun x100 =>
 kL1 x100 h26 fun x103 =>
 kL1 x3 h26 fun x106 =>
 kLA 6 x5 h26 fun x109 =>
 kNew zr2 h26 fun x110 h111 =>
 kCall X 109 [x106] h111 fun x112 h113 =>
 kBin .add x112 (qw 1) fun x114 =>
 kB zr2 [(0, 1, x103), (1, 1, x114), (2, 6, x109)] fun x115 =>
 kSA 8 x110 x115 h113 fun _ h117 =>
 dokS [h111, h113, h117] ((fun h107 => kLA 6 x5 h107 fun x108 =>
 some (x108, h107), x109, 0, 1) :: ((fun h101 => kL1 x100 h101 fun x102 =>
 some (x102, h101), x103, 0, 1) :: ((fun h96 => kL1 x3 h96 fun x97 =>
 some (x97, h96), x98, 0, 1) :: []))) (kL1 x3 h117 fun x120 =>
 kNilc x120 fun x121 =>
 kFA 3 x121 fun x122 =>
 kLA 49 x122 h117 fun x125 =>
 kLA 8 x110 h117 fun x128 =>
 kNew zr0 h117 fun x129 h130 =>
 kCall X 157 [x125, x128] h130 fun x131 h132 =>
 kExt x131 0 fun x133 =>
 kExt x131 1 fun x134 =>
 kSA 49 x129 x133 h132 fun _ h136 =>
 dokS [h130, h132, h136] [] (kEqI true x134 (qi 0) fun x137 =>
 brS x137 (some (.nils, h136)) (kL1 x3 h136 fun x138 =>
 kLA 49 x129 h136 fun x139 =>
 kNilc x138 fun x140 =>
 kFA 3 x140 fun x141 =>
 kSA 49 x141 x139 h136 fun _ h143 =>
 kLA 49 x129 h143 fun x146 =>
 kLA 6 x5 h143 fun x149 =>
 kNew [(qb 0), qs] h143 fun x150 h151 =>
 kCall X 23 [x146] h151 fun x152 h153 =>
 kCall X 133 [x152, x149] h153 fun x154 h155 =>
 kExt x154 0 fun x156 =>
 kExt x154 1 fun _ =>
 kSA 2 x150 x156 h155 fun _ h159 =>
 dokS [h151, h153, h155, h159] ((fun h147 => kLA 6 x5 h147 fun x148 =>
 some (x148, h147), x149, 0, 1) :: []) (kLA 8 x110 h159 fun x160 =>
 kLA 2 x150 h159 fun x161 =>
 kB zr5 [(0, 8, x160), (8, 2, x161)] fun x162 =>
 kNew zr5 h159 fun x163 h164 =>
 kSA 15 x163 x162 h164 fun _ h166 =>
 kL1 x3 h166 fun x167 =>
 kNilc x167 fun x168 =>
 kFA 0 x168 fun x169 =>
 kL1 x169 h166 fun x170 =>
 kFA 10 x163 fun x171 =>
 kIA 5 1 x171 x170 fun x172 =>
 kS1 x172 qt h166 fun _ h174 =>
 kL1 x3 h174 fun x177 =>
 kL1 x3 h174 fun x180 =>
 kNilc x180 fun x181 =>
 kFA 309 x181 fun x182 =>
 kL1 x182 h174 fun x185 =>
 kLA 15 x163 h174 fun x188 =>
 kBS 15 zr5 1 [(0, 15, x188)] h174 fun x189 h190 =>
 kAp 15 72 x185 x189 h190 fun x191 h192 =>
 kNilc x177 fun x193 =>
 kFA 309 x193 fun x194 =>
 kS1 x194 x191 h192 fun _ h196 =>
 dokS [h190, h192, h196] ((fun h175 => kL1 x3 h175 fun x176 =>
 some (x176, h175), x177, 0, 1) :: []) (kL1 x3 h196 fun x199 =>
 kL1 x3 h196 fun x202 =>
 kNilc x202 fun x203 =>
 kFA 53 x203 fun x204 =>
 kL1 x204 h196 fun x207 =>
 kCall X 41 [x199, x207, (.fn 160 [] [x3, x110])] h196 fun x208 h209 =>
 dokS [h196, h209] [] (some (x208, h209))))))))))
theorem p114_ok (k : Nat) : p114 k = funcS k 2 lit114 := by kernel_rfl
def p134 (_ : Nat) : CtxK → List V → TH → R := fun _ => ap 1 (fun x0 h1 =>
 kEqI false x0 (qb 1) fun x2 =>
 brS x2 (some ((.fn 167 [] []), h1)) (kEqI false x0 (qb 2) fun x3 =>
 brS x3 (some ((.fn 168 [] []), h1)) (kEqI false x0 (qb 3) fun x4 =>
 brS x4 (some ((.fn 169 [] []), h1)) (some ((.fn 170 [] []), h1)))))
theorem p134_ok (k : Nat) : p134 k = funcS k 1 lit134 := by kernel_rfl
def p135 (_ : Nat) : CtxK → List V → TH → R := fun X => ap 2 (fun x0 x1 h2 =>
 kL1 x1 h2 fun x3 =>
 kCall X 54 [x3, x0] h2 fun x4 h5 =>
 kNot x4 fun x6 =>
 some (x6, h5))
theorem p135_ok (k : Nat) : p135 k = funcS k 2 lit135 := by kernel_rfl
def p136 (_ : Nat) : CtxK → List V → TH → R := fun X => ap 4 (fun x0 x1 x2 x3 h4 =>
 kCall X 171 [x0, x1] h4 fun x5 h6 =>
 kLen x5 fun x7 =>
 kEqI false x7 (qi 0) fun x8 =>
 brS x8 (some (.nils, h6)) (kB [.nils, (qw 0)] [(0, 1, x2), (1, 1, x3)] fun x9 =>
 kNew [.nilfn] h6 fun x10 h11 =>
 kS1 x10 (.fn 172 [x9] []) h11 fun _ h13 =>
 kLen x5 fun x14 =>
 kBin .sub x14 (qi 1) fun x15 =>
 kP (sliceE 2 x5 none (some x15)) fun x16 =>
 kCall X 173 [x16, (.fn 174 [] [x10])] h13 fun x17 h18 =>
 some (x17, h18)))
theorem p136_ok (k : Nat) : p136 k = funcS k 4 lit136 := by kernel_rfl
def p139 (_ : Nat) : CtxK → List V → TH → R := fun X => ap 1 (fun x0 h1 =>
 kNew (V.cellsR x0) h1 fun x2 h3 =>
 kLA 49 x2 h3 fun x4 =>
 kCall X 50 [x4] h3 fun x5 h6 =>
 kNot x5 fun x7 =>
 some (x7, h6))
theorem p139_ok (k : Nat) : p139 k = funcS k 1 lit139 := by kernel_rfl
def p143 (_ : Nat) : CtxK → List V → TH → R := fun _ => ap 2 (fun x0 x1 h2 =>
 kFA 1 x1 fun x3 =>
 kIA 5 3 x3 x0 fun x4 =>
 kFA 0 x4 fun x5 =>
 kL1 x5 h2 fun x6 =>
 kNot x6 fun x7 =>
 some (x7, h2))
theorem p143_ok (k : Nat) : p143 k = funcS k 2 lit143 := by kernel_rfl
def p144 (k : Nat) : CtxK → List V → TH → R := fun X => ap 3 (fun x0 x1 x2 h3 =>
 kBin .add x1 (qi 1) fun x4 =>
 lp (α := Cur 49) (zN 49) (fun n55 x5 x6 x7 _ _ _ x11 _ _ _ _ _ _ _ _ _ _ _ _ _ _ _ _ _ _ _ _ _ _ _ _ _ _ _ _ _ _ _ _ _ _ _ _ _ _ _ _ _ _ h54 =>
 kBin .lss x11 x7 fun x56 =>
 brS x56 (lp (α := Cur 49) (zN 49) (fun n107 x57 x58 x59 _ _ _ x63 x64 _ _ _ _ _ _ _ _ _ _ _ _ _ _ _ _ _ _ _ _ _ _ _ _ _ _ _ _ _ _ _ _ _ _ _ _ _ _ _ _ _ h106 =>
 kBin .gtr x64 x58 fun x108 =>
 jc (α := JT) (fun x109 h110 =>
 jc (α := JT) (fun x112 h113 =>
 jc (α := JT) (fun x115 h116 =>
 jc (α := V → TH → PD → R) (fun x120 h121 d122 =>
 jc (α := JT) (fun x124 h125 =>
 jc (α := JT) (fun x127 h128 =>
 jc (α := JT) (fun x130 h131 =>
 jc (α := JT) (fun x133 h134 =>
 jc (α := V → TH → PD → R) (fun x138 h139 d140 =>
 jc (α := JT) (fun x142 h143 =>
 kPick x108 x142 qf fun x145 =>
 dokS [h139, h143] d140 (brS x145 (kBin .sub x64 (qi 1) fun x146 =>
 kBin .sub x64 (qi 1) fun x147 =>
 kIS 1 x57 x147 fun x148 =>
 kL1 x148 h143 fun x151 =>
 kIS 1 x57 x64 fun x152 =>
 kL1 x152 h143 fun x155 =>
 kIS 1 x57 x64 fun x156 =>
 kS1 x156 x151 h143 fun _ h158 =>
 kIS 1 x57 x146 fun x159 =>
 kS1 x159 x155 h158 fun _ h161 =>
 dokS [h143, h158, h161] [] (kBin .sub x64 (qi 1) fun x162 =>
 n107 x57 x58 x59 u u u x63 x162 u u u u u u u u u u u u u u u u u u u u u u u u u u u u u u u u u u u u u u u u u h161)) (kBin .add x63 (qi 1) fun x163 =>
 n55 x57 x58 x59 u u u x163 u u u u u u u u u u u u u u u u u u u u u u u u u u u u u u u u u u u u u u u u u u h143))) fun j144 =>
 wtS x108 true (kCall X 150 [x120, x138] h139 fun x164 h165 =>
 j144 x164 h165) (j144 u h139)) fun j141 =>
 wtS x108 true (kL1 x133 h134 fun x166 =>
 j141 x166 h134 d122) (j141 u h134 d122)) fun j135 =>
 wtS x108 true (kIS 1 x124 x130 fun x167 =>
 j135 x167 h131) (j135 u h131)) fun j132 =>
 wtS x108 true (kBin .sub x127 (qi 1) fun x168 =>
 j132 x168 h128) (j132 u h128)) fun j129 =>
 wtS x108 true (j129 x64 h125) (j129 u h125)) fun j126 =>
 wtS x108 true (j126 x57 h121) (j126 u h121)) fun j123 =>
 wtS x108 true (kL1 x115 h116 fun x169 =>
 j123 x169 h116 []) (j123 u h116 [])) fun j117 =>
 wtS x108 true (kIS 1 x109 x112 fun x170 =>
 j117 x170 h113) (j117 u h113)) fun j114 =>
 wtS x108 true (j114 x64 h110) (j114 u h110)) fun j111 =>
 wtS x108 true (j111 x57 h106) (j111 u h106)) k x5 x6 x7 u u u x11 x11 u u u u u u u u u u u u u u u u u u u u u u u u u u u u u u u u u u u u u u u u u h54) (some (.tup [], h54))) k x0 x1 x2 u u u x4 u u u u u u u u u u u u u u u u u u u u u u u u u u u u u u u u u u u u u u u u u u h3)
theorem p144_ok (k : Nat) : p144 k = funcS k 3 lit144 := by kernel_rfl
def p150 (_ : Nat) : CtxK → List V → TH → R := fun X => ap 2 (fun x0 x1 h2 =>
 kCall X 183 [x0] h2 fun x3 h4 =>
 jc (α := JT) (fun x5 h6 =>
 jc (α := JT) (fun x8 h9 =>
 jc (α := JT) (fun x11 h12 =>
 kPick x3 x11 qf fun x14 =>
 jc (α := JT) (fun x15 h16 =>
 jc (α := JT) (fun x18 h19 =>
 jc (α := JT) (fun x21 h22 =>
 kPick x14 qt x21 fun x24 =>
 some (x24, h22)) fun j23 =>
 wtS x14 false (kBin .lss x15 x18 fun x25 =>
 j23 x25 h19) (j23 u h19)) fun j20 =>
 wtS x14 false (j20 x1 h16) (j20 u h16)) fun j17 =>
 wtS x14 false (j17 x0 h12) (j17 u h12)) fun j13 =>
 wtS x3 true (kNot x8 fun x26 =>
 j13 x26 h9) (j13 u h9)) fun j10 =>
 wtS x3 true (kCall X 183 [x5] h6 fun x27 h28 =>
 j10 x27 h28) (j10 u h6)) fun j7 =>
 wtS x3 true (j7 x1 h4) (j7 u h4))
theorem p150_ok (k : Nat) : p150 k = funcS k 2 lit150 := by kernel_rfl
def p155 (_ : Nat) : CtxK → List V → TH → R := fun X => ap 2 (fun x0 x1 h2 =>
 kNew (V.cellsR x0) h2 fun x3 h4 =>
 kNew (V.cellsR x1) h4 fun x5 h6 =>
 kNew zr0 h6 fun x7 h8 =>
 kLA 49 x3 h8 fun x9 =>
 kCall X 50 [x9] h8 fun x10 h11 =>
 kNot x10 fun x12 =>
 jc (α := JT) (fun x13 h14 =>
 jc (α := JT) (fun x16 h17 =>
 jc (α := JT) (fun x19 h20 =>
 kPick x12 qt x19 fun x22 =>
 jc (α := JT) (fun x23 h24 =>
 jc (α := JT) (fun x26 h27 =>
 jc (α := JT) (fun x29 h30 =>
 kPick x22 qt x29 fun x32 =>
 jc (α := JT) (fun x33 h34 =>
 jc (α := JT) (fun x36 h37 =>
 jc (α := JT) (fun x39 h40 =>
 jc (α := JT) (fun x42 h43 =>
 jc (α := JT) (fun x45 h46 =>
 jc (α := JT) (fun x48 h49 =>
 jc (α := JT) (fun x51 h52 =>
 jc (α := JT) (fun x54 h55 =>
 jc (α := JT) (fun x57 h58 =>
 jc (α := JT) (fun x60 h61 =>
 jc (α := JT) (fun x63 h64 =>
 jc (α := JT) (fun x66 h67 =>
 jc (α := JT) (fun x69 h70 =>
 jc (α := JT) (fun x72 h73 =>
 kPick x32 qt x72 fun x75 =>
 brS x75 (kCv X (.fn 184 [] []) [] h73 fun x76 h77 =>
 kExt x76 0 fun x78 =>
 kExt x76 1 fun x79 =>
 kSA 49 x7 x78 h77 fun _ h81 =>
 rsS [.cell 4 true 49, .tmp 5] [x0, x1, x3, x5, x7, x79, (.fn 184 [] []), u, u, u, u, x9, x10, x12, x12, x13, x16, x19, x22, x22, x23, x26, x29, x32, x32, x33, x36, x39, x42, x45, x48, x51, x54, x57, x60, x63, x66, x69, x72, x75, (.fn 184 [] []), x76, x78, x79, u, u, u, u, u, u, u, u, u, u, u, u, u, u, u, u, u, u, u, u, u, u, u, u, u, u, u, u, u, u, u, u, u, u, u, u, u, u, u, u, u, u, u, u, u, u, u, u, u, u, u, u, u, u, u, u, u, u, u, u, u, u, u, u, u, u, u, u, u, u, u, u, u, u, u, u, u, u, u] h81) (kFA 0 x5 fun x82 =>
 kL1 x82 h73 fun x83 =>
 kEqI false x83 (qi 2) fun x84 =>
 brS x84 (kFA 3 x5 fun x85 =>
 kLA 49 x85 h73 fun x86 =>
 kCall X 50 [x86] h73 fun x87 h88 =>
 kNot x87 fun x89 =>
 brS x89 (kCv X (.fn 184 [] []) [] h88 fun x90 h91 =>
 kExt x90 0 fun x92 =>
 kExt x90 1 fun x93 =>
 kSA 49 x7 x92 h91 fun _ h95 =>
 rsS [.cell 4 true 49, .tmp 5] [x0, x1, x3, x5, x7, x93, (.fn 184 [] []), u, u, u, u, x9, x10, x12, x12, x13, x16, x19, x22, x22, x23, x26, x29, x32, x32, x33, x36, x39, x42, x45, x48, x51, x54, x57, x60, x63, x66, x69, x72, x75, u, u, u, u, x82, x83, x84, x85, x86, x87, x89, (.fn 184 [] []), x90, x92, x93, u, u, u, u, u, u, u, u, u, u, u, u, u, u, u, u, u, u, u, u, u, u, u, u, u, u, u, u, u, u, u, u, u, u, u, u, u, u, u, u, u, u, u, u, u, u, u, u, u, u, u, u, u, u, u, u, u, u, u, u, u, u, u, u, u, u, u, u] h95) (kFA 3 x5 fun x96 =>
 kLA 49 x96 h88 fun x97 =>
 kCall X 36 [x97] h88 fun x98 h99 =>
 kSA 49 x7 x98 h99 fun _ h101 =>
 rsS [.cell 4 true 49, .tmp 5] [x0, x1, x3, x5, x7, (qi 0), (.fn 184 [] []), u, u, u, u, x9, x10, x12, x12, x13, x16, x19, x22, x22, x23, x26, x29, x32, x32, x33, x36, x39, x42, x45, x48, x51, x54, x57, x60, x63, x66, x69, x72, x75, u, u, u, u, x82, x83, x84, x85, x86, x87, x89, u, u, u, u, x96, x97, x98, u, u, u, u, u, u, u, u, u, u, u, u, u, u, u, u, u, u, u, u, u, u, u, u, u, u, u, u, u, u, u, u, u, u, u, u, u, u, u, u, u, u, u, u, u, u, u, u, u, u, u, u, u, u, u, u, u, u, u, u, u, u, u, u, u] h101)) (kLA 49 x3 h73 fun x102 =>
 kNew zr0 h73 fun x103 h104 =>
 kSA 49 x103 x102 h104 fun _ h106 =>
 kFA 0 x5 fun x107 =>
 kL1 x107 h106 fun x108 =>
 kEqI false x108 (qi 1) fun x109 =>
 jc (α := Cur 123) (fun x110 x111 x112 x113 x114 _ x116 x117 x118 x119 _ x121 x122 x123 x124 x125 x126 x127 x128 x129 x130 x131 x132 x133 x134 x135 x136 x137 x138 x139 x140 x141 x142 x143 x144 x145 x146 x147 x148 x149 x150 x151 x152 x153 x154 x155 x156 x157 x158 x159 x160 x161 x162 x163 x164 x165 x166 x167 x168 x169 x170 x171 x172 x173 x174 x175 x176 x177 x178 x179 x180 x181 x182 x183 x184 x185 x186 x187 x188 x189 x190 x191 x192 x193 x194 x195 x196 x197 _ _ _ _ _ _ _ _ _ _ _ _ _ _ _ _ _ _ _ _ _ _ _ _ _ _ _ _ _ _ x228 x229 x230 x231 x232 h233 =>
 kLA 49 x117 h233 fun x235 =>
 kFA 3 x113 fun x236 =>
 kFA 40 x236 fun x237 =>
 kFA 1 x237 fun x238 =>
 kL1 x238 h233 fun x239 =>
 kCall X 187 [x235, x239] h233 fun x240 h241 =>
 kExt x240 0 fun x242 =>
 kExt x240 1 fun x243 =>
 kSA 49 x117 x242 h241 fun _ h245 =>
 kFA 3 x113 fun x246 =>
 kFA 0 x246 fun x247 =>
 kL1 x247 h245 fun x248 =>
 kFA 0 x117 fun x249 =>
 kS1 x249 x248 h245 fun _ h251 =>
 kEqI true x243 (qi 0) fun x252 =>
 jc (α := JT) (fun x253 h254 =>
 jc (α := JT) (fun x256 h257 =>
 jc (α := JT) (fun x259 h260 =>
 jc (α := JT) (fun x262 h263 =>
 jc (α := JT) (fun x265 h266 =>
 jc (α := JT) (fun x268 h269 =>
 jc (α := JT) (fun x271 h272 =>
 jc (α := JT) (fun x274 h275 =>
 kPick x252 qt x274 fun x277 =>
 jc (α := JT) (fun x278 h279 =>
 jc (α := JT) (fun x281 h282 =>
 jc (α := JT) (fun x284 h285 =>
 kPick x277 qt x284 fun x287 =>
 brS x287 (kCv X x116 [] h285 fun x288 h289 =>
 kExt x288 0 fun x290 =>
 kExt x288 1 fun x291 =>
 kSA 49 x114 x290 h289 fun _ h293 =>
 rsS [.cell 4 true 49, .tmp 5] [x110, x111, x112, x113, x114, x291, x116, x117, x118, x119, x243, x121, x122, x123, x124, x125, x126, x127, x128, x129, x130, x131, x132, x133, x134, x135, x136, x137, x138, x139, x140, x141, x142, x143, x144, x145, x146, x147, x148, x149, x150, x151, x152, x153, x154, x155, x156, x157, x158, x159, x160, x161, x162, x163, x164, x165, x166, x167, x168, x169, x170, x171, x172, x173, x174, x175, x176, x177, x178, x179, x180, x181, x182, x183, x184, x185, x186, x187, x188, x189, x190, x191, x192, x193, x194, x195, x196, x197, x240, x235, x236, x237, x238, x239, x240, x242, x243, x246, x247, x248, x249, x243, x252, x252, x253, x256, x259, x262, x265, x268, x271, x274, x277, x277, x278, x281, x284, x287, x116, x288, x290, x291, x232] h293) (kLA 49 x117 h285 fun x294 =>
 kSA 49 x114 x294 h285 fun _ h296 =>
 rsS [.cell 4 true 49, .tmp 5] [x110, x111, x112, x113, x114, (qi 0), x116, x117, x118, x119, x243, x121, x122, x123, x124, x125, x126, x127, x128, x129, x130, x131, x132, x133, x134, x135, x136, x137, x138, x139, x140, x141, x142, x143, x144, x145, x146, x147, x148, x149, x150, x151, x152, x153, x154, x155, x156, x157, x158, x159, x160, x161, x162, x163, x164, x165, x166, x167, x168, x169, x170, x171, x172, x173, x174, x175, x176, x177, x178, x179, x180, x181, x182, x183, x184, x185, x186, x187, x188, x189, x190, x191, x192, x193, x194, x195, x196, x197, x240, x235, x236, x237, x238, x239, x240, x242, x243, x246, x247, x248, x249, x243, x252, x252, x253, x256, x259, x262, x265, x268, x271, x274, x277, x277, x278, x281, x284, x287, x228, x229, x230, x231, x294] h296)) fun j286 =>
 wtS x277 false (kNot x281 fun x297 =>
 j286 x297 h282) (j286 u h282)) fun j283 =>
 wtS x277 false (kCall X 50 [x278] h279 fun x298 h299 =>
 j283 x298 h299) (j283 u h279)) fun j280 =>
 wtS x277 false (kLA 49 x117 h275 fun x300 =>
 j280 x300 h275) (j280 u h275)) fun j276 =>
 wtS x252 false (kEqI true x259 x271 fun x301 =>
 j276 x301 h272) (j276 u h272)) fun j273 =>
 wtS x252 false (kL1 x268 h269 fun x302 =>
 j273 x302 h269) (j273 u h269)) fun j270 =>
 wtS x252 false (kFA 0 x265 fun x303 =>
 j270 x303 h266) (j270 u h266)) fun j267 =>
 wtS x252 false (kFA 40 x262 fun x304 =>
 j267 x304 h263) (j267 u h263)) fun j264 =>
 wtS x252 false (kFA 3 x113 fun x305 =>
 j264 x305 h260) (j264 u h260)) fun j261 =>
 wtS x252 false (kL1 x256 h257 fun x306 =>
 j261 x306 h257) (j261 u h257)) fun j258 =>
 wtS x252 false (kFA 0 x253 fun x307 =>
 j258 x307 h254) (j258 u h254)) fun j255 =>
 wtS x252 false (kFA 40 x117 fun x308 =>
 j255 x308 h251) (j255 u h251)) fun j234 =>
 brS x109 (kLA 49 x3 h106 fun x309 =>
 kFA 1 x5 fun x310 =>
 kL1 x310 h106 fun x311 =>
 kCall X 185 [x309, x311] h106 fun x312 h313 =>
 kExt x312 0 fun x314 =>
 kExt x312 1 fun x315 =>
 kNew zr0 h313 fun x316 h317 =>
 kSA 49 x316 x314 h317 fun _ h319 =>
 kEqI true x315 (qi 0) fun x320 =>
 brS x320 (kCv X (.fn 184 [] []) [] h319 fun x321 h322 =>
 kExt x321 0 fun x323 =>
 kExt x321 1 fun x324 =>
 kSA 49 x7 x323 h322 fun _ h326 =>
 rsS [.cell 4 true 49, .tmp 5] [x0, x1, x3, x5, x7, x324, (.fn 184 [] []), x103, x316, x315, u, x9, x10, x12, x12, x13, x16, x19, x22, x22, x23, x26, x29, x32, x32, x33, x36, x39, x42, x45, x48, x51, x54, x57, x60, x63, x66, x69, x72, x75, u, u, u, u, x82, x83, x84, u, u, u, u, u, u, u, u, u, u, u, x102, x107, x108, x109, x312, x309, x310, x311, x312, x314, x315, x315, x320, (.fn 184 [] []), x321, x323, x324, u, u, u, u, u, u, u, u, u, u, u, u, u, u, u, u, u, u, u, u, u, u, u, u, u, u, u, u, u, u, u, u, u, u, u, u, u, u, u, u, u, u, u, u, u, u, u, u] h326) (kLA 49 x316 h319 fun x327 =>
 kFA 2 x5 fun x328 =>
 kL1 x328 h319 fun x329 =>
 kCall X 186 [x327, x329] h319 fun x330 h331 =>
 kExt x330 0 fun x332 =>
 kExt x330 1 fun x333 =>
 kSA 49 x103 x332 h331 fun _ h335 =>
 kEqI true x333 (qi 0) fun x336 =>
 brS x336 (kCv X (.fn 184 [] []) [] h335 fun x337 h338 =>
 kExt x337 0 fun x339 =>
 kExt x337 1 fun x340 =>
 kSA 49 x7 x339 h338 fun _ h342 =>
 rsS [.cell 4 true 49, .tmp 5] [x0, x1, x3, x5, x7, x340, (.fn 184 [] []), x103, x316, x333, u, x9, x10, x12, x12, x13, x16, x19, x22, x22, x23, x26, x29, x32, x32, x33, x36, x39, x42, x45, x48, x51, x54, x57, x60, x63, x66, x69, x72, x75, u, u, u, u, x82, x83, x84, u, u, u, u, u, u, u, u, u, u, u, x102, x107, x108, x109, x312, x309, x310, x311, x312, x314, x315, x315, x320, u, u, u, u, x330, x327, x328, x329, x330, x332, x333, x333, x336, (.fn 184 [] []), x337, x339, x340, u, u, u, u, u, u, u, u, u, u, u, u, u, u, u, u, u, u, u, u, u, u, u, u, u, u, u, u, u, u, u, u, u, u, u] h342) (j234 u u u x5 x7 u (.fn 184 [] []) x103 u u u u u u u u u u u u u u u u u u u u u u u u u u u u u u u u u u u u u u u u u u u u u u u u u u u u u u u u u u u u u u u u u u u u u u u u u u u u u u u u u u u u u u u u u u u u u u u u u u u u u u u u u u u u u u u u u u u h335))) (j234 u u u x5 x7 u (.fn 184 [] []) x103 u u u u u u u u u u u u u u u u u u u u u u u u u u u u u u u u u u u u u u u u u u u u u u u u u u u u u u u u u u u u u u u u u u u u u u u u u u u u u u u u u u u u u u u u u u u u u u u u u u u u u u u u u u u u u u u u u u u h106)))) fun j74 =>
 wtS x32 false (kPick x42 x69 qf fun x343 =>
 j74 x343 h70) (j74 u h70)) fun j71 =>
 wtS x42 true (kPick x57 qt x66 fun x344 =>
 j71 x344 h67) (j71 u h67)) fun j68 =>
 wtS x57 false (kEqI true x63 (qw 0) fun x345 =>
 j68 x345 h64) (j68 u h64)) fun j65 =>
 wtS x57 false (kL1 x60 h61 fun x346 =>
 j65 x346 h61) (j65 u h61)) fun j62 =>
 wtS x57 false (kFA 1 x5 fun x347 =>
 j62 x347 h58) (j62 u h58)) fun j59 =>
 wtS x42 true (j59 x54 h55) (j59 u h55)) fun j56 =>
 wtS x42 true (kBin .gtr x51 (qi 0) fun x348 =>
 j56 x348 h52) (j56 u h52)) fun j53 =>
 wtS x42 true (kLen x48 fun x349 =>
 j53 x349 h49) (j53 u h49)) fun j50 =>
 wtS x42 true (kL1 x45 h46 fun x350 =>
 j50 x350 h46) (j50 u h46)) fun j47 =>
 wtS x42 true (kFA 2 x5 fun x351 =>
 j47 x351 h43) (j47 u h43)) fun j44 =>
 wtS x32 false (j44 x39 h40) (j44 u h40)) fun j41 =>
 wtS x32 false (kEqI true x36 (qi 1) fun x352 =>
 j41 x352 h37) (j41 u h37)) fun j38 =>
 wtS x32 false (kL1 x33 h34 fun x353 =>
 j38 x353 h34) (j38 u h34)) fun j35 =>
 wtS x32 false (kFA 0 x5 fun x354 =>
 j35 x354 h30) (j35 u h30)) fun j31 =>
 wtS x22 false (kBin .gtr x26 (qi 2) fun x355 =>
 j31 x355 h27) (j31 u h27)) fun j28 =>
 wtS x22 false (kL1 x23 h24 fun x356 =>
 j28 x356 h24) (j28 u h24)) fun j25 =>
 wtS x22 false (kFA 0 x5 fun x357 =>
 j25 x357 h20) (j25 u h20)) fun j21 =>
 wtS x12 false (kBin .lss x16 (qi 0) fun x358 =>
 j21 x358 h17) (j21 u h17)) fun j18 =>
 wtS x12 false (kL1 x13 h14 fun x359 =>
 j18 x359 h14) (j18 u h14)) fun j15 =>
 wtS x12 false (kFA 0 x5 fun x360 =>
 j15 x360 h11) (j15 u h11))
theorem p155_ok (k : Nat) : p155 k = funcS k 2 lit155 := by kernel_rfl
def p160 (_ : Nat) : CtxK → List V → TH → R := fun X => ap 3 (fun x0 x1 x2 h3 =>
 kNew zr1 h3 fun x4 h5 =>
 kL1 x1 h5 fun x6 =>
 kLA 8 x2 h5 fun x7 =>
 kCall X 47 [x6, x0, x7] h5 fun x8 h9 =>
 kSA 131 x4 x8 h9 fun _ h11 =>
 rsS [.cell 4 true 131] [x0, x1, x2, u, x4, x6, x0, x7, x8] h11)
theorem p160_ok (k : Nat) : p160 k = funcS k 3 lit160 := by kernel_rfl
def p192 (_ : Nat) : CtxK → List V → TH → R := fun _ => ap 1 (fun x0 h1 =>
 kEq' false (.nilR .sl) x0 .nils fun x2 =>
 brS x2 (some (.nils, h1)) (kBS 2 [(qw 0), .nils] 0 [] h1 fun x3 h4 =>
 kAp 2 32 x3 x0 h4 fun x5 h6 =>
 some (x5, h6)))
theorem p192_ok (k : Nat) : p192 k = funcS k 1 lit192 := by kernel_rfl
def p202 (k : Nat) : CtxK → List V → TH → R := fun _ => ap 1 (fun x0 h1 =>
 kLen x0 fun x2 =>
 lp (α := Cur 26) (zN 26) (fun n30 x3 _ _ x6 _ _ x9 x10 x11 _ _ _ _ _ _ _ _ _ _ _ _ _ _ _ _ _ h29 =>
 kBin .lss x11 x10 fun x31 =>
 brS x31 (kIS 1 x9 x11 fun x32 =>
 kL1 x32 h29 fun x33 =>
 kBin .lss x6 (qi 0) fun x34 =>
 jc (α := JT) (fun x35 h36 =>
 jc (α := JT) (fun x38 h39 =>
 jc (α := JT) (fun x41 h42 =>
 jc (α := JT) (fun x44 h45 =>
 jc (α := JT) (fun x47 h48 =>
 jc (α := JT) (fun x50 h51 =>
 kPick x34 qt x50 fun x53 =>
 jc (α := Cur 26) (fun x54 _ _ x57 _ _ x60 x61 x62 _ _ _ _ _ _ _ _ _ _ _ _ _ _ _ _ _ h80 =>
 kBin .add x62 (qi 1) fun x82 =>
 n30 x54 u u x57 u u x60 x61 x82 u u u u u u u u u u u u u u u u u h80) fun j81 =>
 brS x53 (j81 x3 u u x11 u u x9 x10 x11 u u u u u u u u u u u u u u u u u h51) (j81 x3 u u x6 u u x9 x10 x11 u u u u u u u u u u u u u u u u u h51)) fun j52 =>
 wtS x34 false (kBin .gtr x35 x47 fun x83 =>
 j52 x83 h48) (j52 u h48)) fun j49 =>
 wtS x34 false (kL1 x44 h45 fun x84 =>
 j49 x84 h45) (j49 u h45)) fun j46 =>
 wtS x34 false (kIS 1 x38 x41 fun x85 =>
 j46 x85 h42) (j46 u h42)) fun j43 =>
 wtS x34 false (j43 x6 h39) (j43 u h39)) fun j40 =>
 wtS x34 false (j40 x3 h36) (j40 u h36)) fun j37 =>
 wtS x34 false (j37 x33 h29) (j37 u h29)) (some (x6, h29))) k x0 u u (.int .i64 (-1)) u u x0 x2 (qi 0) u u u u u u u u u u u u u u u u u h1)
theorem p202_ok (k : Nat) : p202 k = funcS k 1 lit202 := by kernel_rfl
def p229 (_ : Nat) : CtxK → List V → TH → R := fun _ => ap 1 (fun x0 h1 =>
 kNilc x0 fun x2 =>
 kFA 0 x2 fun x3 =>
 kL1 x3 h1 fun x6 =>
 kNilc x0 fun x7 =>
 kFA 0 x7 fun x8 =>
 kL1 x8 h1 fun x11 =>
 kBin .mul x6 x11 fun x12 =>
 kBin .shr x12 (.int .u64 31) fun x13 =>
 kNilc x0 fun x14 =>
 kFA 0 x14 fun x15 =>
 kS1 x15 x13 h1 fun _ h17 =>
 dokS [h1, h17] [] (kNilc x0 fun x18 =>
 kFA 1 x18 fun x19 =>
 kL1 x19 h17 fun x20 =>
 kBin .shl x20 (.int .u64 1) fun x21 =>
 kNilc x0 fun x22 =>
 kFA 1 x22 fun x23 =>
 kS1 x23 x21 h17 fun _ h25 =>
 kNilc x0 fun x26 =>
 kFA 0 x26 fun x27 =>
 kL1 x27 h25 fun x28 =>
 kBin .geq x28 (.int .u64 4294967296) fun x29 =>
 jc (α := Cur 41) (fun _ _ _ _ _ _ _ _ _ _ _ _ _ _ _ _ _ _ _ _ _ _ _ _ _ _ _ _ _ _ _ _ _ _ _ _ _ _ _ _ _ h71 =>
 some (.tup [], h71)) fun j72 =>
 brS x29 (kNilc x0 fun x73 =>
 kFA 0 x73 fun x74 =>
 kL1 x74 h25 fun x75 =>
 kBin .shr x75 (.int .u64 1) fun x76 =>
 kNilc x0 fun x77 =>
 kFA 0 x77 fun x78 =>
 kS1 x78 x76 h25 fun _ h80 =>
 kNilc x0 fun x81 =>
 kFA 1 x81 fun x82 =>
 kL1 x82 h80 fun x83 =>
 kBin .or x83 (qi 1) fun x84 =>
 kNilc x0 fun x85 =>
 kFA 1 x85 fun x86 =>
 kS1 x86 x84 h80 fun _ h88 =>
 j72 u u u u u u u u u u u u u u u u u u u u u u u u u u u u u u u u u u u u u u u u u h88) (j72 u u u u u u u u u u u u u u u u u u u u u u u u u u u u u u u u u u u u u u u u u h25)))
theorem p229_ok (k : Nat) : p229 k = funcS k 1 lit229 := by kernel_rfl
end
end Go.PE
