/- The same functions with names for their slots (part 4 of 4), printed by a program of our own: each is what the evaluator's law says of the literal. -/
import Derived.Test.YtcgjkbnijnefjaaGreatDoorMvL3
import Derived.KernelRfl
namespace Go.PE
set_option maxRecDepth 100000
noncomputable section
def p8 (_ : Nat) : CtxK → List V → TH → R := fun X => ap 0 (fun  h0 =>
 kCall X 29 [] h0 fun x1 h2 =>
 kCall X 12 [x1, (qb 0)] h2 fun x3 h4 =>
 kLen x3 fun x5 =>
 kEqI true x5 (qi 3) fun x6 =>
 brS x6 (some (qf, h4)) (kIS 1 x3 (qi 0) fun x7 =>
 kL1 x7 h4 fun x10 =>
 kB zr0 [] fun x11 =>
 kIS 1 x3 (qi 1) fun x12 =>
 kL1 x12 h4 fun x15 =>
 kB zr0 [] fun x16 =>
 kCall X 24 [x10, (qb 0), x11] h4 fun x17 h18 =>
 kCall X 24 [x15, (qb 0), x16] h18 fun x19 h20 =>
 dokS [h4, h18, h20] ((fun h13 => kL1 x12 h13 fun x14 =>
 some (x14, h13), x15, 0, 1) :: []) (kEq' false (.nilR .ptr) x17 .nilptr fun x21 =>
 jc (α := JT) (fun x22 h23 =>
 jc (α := JT) (fun x25 h26 =>
 kPick x21 qt x25 fun x28 =>
 brS x28 (some (qf, h26)) (kCall X 25 [x17, x1] h26 fun x29 h30 =>
 kCall X 25 [x19, x1] h30 fun x31 h32 =>
 kLen x29 fun x33 =>
 kEqI false x33 (qi 4) fun x34 =>
 jc (α := JT) (fun x35 h36 =>
 jc (α := JT) (fun x38 h39 =>
 jc (α := JT) (fun x41 h42 =>
 jc (α := JT) (fun x44 h45 =>
 jc (α := JT) (fun x47 h48 =>
 kPick x34 x47 qf fun x50 =>
 jc (α := JT) (fun x51 h52 =>
 jc (α := JT) (fun x54 h55 =>
 jc (α := JT) (fun x57 h58 =>
 kPick x50 x57 qf fun x60 =>
 jc (α := JT) (fun x61 h62 =>
 jc (α := JT) (fun x64 h65 =>
 jc (α := JT) (fun x67 h68 =>
 kPick x60 x67 qf fun x70 =>
 jc (α := JT) (fun x71 h72 =>
 jc (α := JT) (fun x74 h75 =>
 jc (α := JT) (fun x77 h78 =>
 kPick x70 x77 qf fun x80 =>
 jc (α := JT) (fun x81 h82 =>
 jc (α := JT) (fun x84 h85 =>
 jc (α := JT) (fun x87 h88 =>
 kPick x80 x87 qf fun x90 =>
 jc (α := JT) (fun x91 h92 =>
 jc (α := JT) (fun x94 h95 =>
 jc (α := JT) (fun x97 h98 =>
 jc (α := JT) (fun x100 h101 =>
 kPick x90 x100 qf fun x103 =>
 jc (α := JT) (fun x104 h105 =>
 jc (α := JT) (fun x107 h108 =>
 jc (α := JT) (fun x110 h111 =>
 kPick x103 x110 qf fun x113 =>
 some (x113, h111)) fun j112 =>
 wtS x103 true (kEqI false x107 (qi 0) fun x114 =>
 j112 x114 h108) (j112 u h108)) fun j109 =>
 wtS x103 true (kCall X 32 [x104] h105 fun x115 h116 =>
 j109 x115 h116) (j109 u h105)) fun j106 =>
 wtS x103 true (j106 x17 h101) (j106 u h101)) fun j102 =>
 wtS x90 true (kEqI false x97 (qi 2) fun x117 =>
 j102 x117 h98) (j102 u h98)) fun j99 =>
 wtS x90 true (kLen x94 fun x118 =>
 j99 x118 h95) (j99 u h95)) fun j96 =>
 wtS x90 true (kCall X 31 [x91] h92 fun x119 h120 =>
 j96 x119 h120) (j96 u h92)) fun j93 =>
 wtS x90 true (j93 x17 h88) (j93 u h88)) fun j89 =>
 wtS x80 true (kEqI false x84 (qw 1) fun x121 =>
 j89 x121 h85) (j89 u h85)) fun j86 =>
 wtS x80 true (kCall X 30 [x81] h82 fun x122 h123 =>
 j86 x122 h123) (j86 u h82)) fun j83 =>
 wtS x80 true (j83 x17 h78) (j83 u h78)) fun j79 =>
 wtS x70 true (kEqI false x74 (qi 1) fun x124 =>
 j79 x124 h75) (j79 u h75)) fun j76 =>
 wtS x70 true (kCall X 26 [x71] h72 fun x125 h126 =>
 j76 x125 h126) (j76 u h72)) fun j73 =>
 wtS x70 true (j73 x19 h68) (j73 u h68)) fun j69 =>
 wtS x60 true (kEqI false x64 (qi 2) fun x127 =>
 j69 x127 h65) (j69 u h65)) fun j66 =>
 wtS x60 true (kCall X 26 [x61] h62 fun x128 h129 =>
 j66 x128 h129) (j66 u h62)) fun j63 =>
 wtS x60 true (j63 x17 h58) (j63 u h58)) fun j59 =>
 wtS x50 true (kEqI false x54 (qi 0) fun x130 =>
 j59 x130 h55) (j59 u h55)) fun j56 =>
 wtS x50 true (kLen x51 fun x131 =>
 j56 x131 h52) (j56 u h52)) fun j53 =>
 wtS x50 true (j53 x31 h48) (j53 u h48)) fun j49 =>
 wtS x34 true (kEqI false x44 (qb 7) fun x132 =>
 j49 x132 h45) (j49 u h45)) fun j46 =>
 wtS x34 true (kL1 x41 h42 fun x133 =>
 j46 x133 h42) (j46 u h42)) fun j43 =>
 wtS x34 true (kFA 0 x38 fun x134 =>
 j43 x134 h39) (j43 u h39)) fun j40 =>
 wtS x34 true (kIS 131 x35 (qi 0) fun x135 =>
 j40 x135 h36) (j40 u h36)) fun j37 =>
 wtS x34 true (j37 x29 h32) (j37 u h32))) fun j27 =>
 wtS x21 false (kEq' false (.nilR .ptr) x22 .nilptr fun x136 =>
 j27 x136 h23) (j27 u h23)) fun j24 =>
 wtS x21 false (j24 x19 h20) (j24 u h20))))
theorem p8_ok (k : Nat) : p8 k = funcS k 0 lit8 := by kernel_rfl
def p22 (_ : Nat) : CtxK → List V → TH → R := fun X => ap 1 (fun x0 h1 =>
 kNew (V.cellsR x0) h1 fun x2 h3 =>
 kLA 49 x2 h3 fun x4 =>
 kCall X 50 [x4] h3 fun x5 h6 =>
 kNot x5 fun x7 =>
 brS x7 (some (.tup [(qw 0), (qw 0)], h6)) (kLA 49 x2 h6 fun x8 =>
 kCall X 51 [x8] h6 fun x9 h10 =>
 kNew zr2 h10 fun x11 h12 =>
 kSA 8 x11 x9 h12 fun _ h14 =>
 kFA 0 x11 fun x15 =>
 kL1 x15 h14 fun x18 =>
 kFA 1 x11 fun x19 =>
 kL1 x19 h14 fun x22 =>
 dokS [h14] [] (some (.tup [x18, x22], h14))))
theorem p22_ok (k : Nat) : p22 k = funcS k 1 lit22 := by kernel_rfl
def p25 (_ : Nat) : CtxK → List V → TH → R := fun X => ap 2 (fun x0 x1 h2 =>
 kNilc x0 fun x3 =>
 kFA 2 x3 fun x4 =>
 kL1 x4 h2 fun x5 =>
 kCall X 53 [x1, x5] h2 fun x6 h7 =>
 kEqI false x6 (qw 0) fun x8 =>
 jc (α := JT) (fun x9 h10 =>
 jc (α := JT) (fun x12 h13 =>
 jc (α := JT) (fun x15 h16 =>
 jc (α := JT) (fun x18 h19 =>
 jc (α := JT) (fun x21 h22 =>
 jc (α := JT) (fun x24 h25 =>
 kPick x8 qt x24 fun x27 =>
 brS x27 (some (.nils, h25)) (kNilc x0 fun x28 =>
 kFA 0 x28 fun x29 =>
 kL1 x29 h25 fun x32 =>
 kNilc x0 fun x33 =>
 kFA 2 x33 fun x34 =>
 kL1 x34 h25 fun x37 =>
 kNilc x0 fun x38 =>
 kFA 3 x38 fun x39 =>
 kLA 49 x39 h25 fun x42 =>
 kNilc x0 fun x43 =>
 kFA 2 x43 fun x44 =>
 kL1 x44 h25 fun x47 =>
 kCall X 12 [x1, x47] h25 fun x48 h49 =>
 kB zr8 [(0, 1, x32), (2, 1, x37), (3, 49, x42), (52, 1, x6), (53, 1, x48), (1, 1, (qi 1))] fun x50 =>
 kNilc x0 fun x51 =>
 kSA 352 x51 x50 h49 fun _ h53 =>
 dokS [h25, h49, h53] ((fun h40 => kLA 49 x39 h40 fun x41 =>
 some (x41, h40), x42, 0, 1) :: ((fun h35 => kL1 x34 h35 fun x36 =>
 some (x36, h35), x37, 0, 1) :: ((fun h30 => kL1 x29 h30 fun x31 =>
 some (x31, h30), x32, 0, 1) :: []))) (kNilc x0 fun x54 =>
 kFA 53 x54 fun x55 =>
 kL1 x55 h53 fun x58 =>
 kNilc x0 fun x59 =>
 kFA 0 x59 fun x60 =>
 kL1 x60 h53 fun x63 =>
 kCall X 54 [x58, x63] h53 fun x64 h65 =>
 kNot x64 fun x66 =>
 dokS [h53, h65] [] (jc (α := Cur 107) (fun _ _ _ _ _ _ _ _ _ _ _ _ _ _ _ _ _ _ _ _ _ _ _ _ _ _ _ _ _ _ _ _ _ _ _ _ _ _ _ _ _ _ _ _ _ _ _ _ _ _ _ _ _ _ _ _ _ _ _ _ _ _ _ _ _ _ _ _ _ _ _ _ _ _ _ _ _ _ _ _ _ _ _ _ _ _ _ _ _ _ _ _ _ _ _ _ _ _ _ _ _ _ _ _ _ _ _ h174 =>
 some (.nils, h174)) fun j175 =>
 brS x66 (kNilc x0 fun x176 =>
 kFA 1 x176 fun x177 =>
 kS1 x177 (qi 0) h65 fun _ h179 =>
 j175 u u u u u u u u u u u u u u u u u u u u u u u u u u u u u u u u u u u u u u u u u u u u u u u u u u u u u u u u u u u u u u u u u u u u u u u u u u u u u u u u u u u u u u u u u u u u u u u u u u u u u u u u u u u h179) (kNilc x0 fun x180 =>
 kFA 0 x180 fun x181 =>
 kL1 x181 h65 fun x184 =>
 kCall X 55 [x0] h65 fun x185 h186 =>
 kEqI false x185 x184 fun x187 =>
 jc (α := JT) (fun x188 h189 =>
 jc (α := JT) (fun x191 h192 =>
 jc (α := JT) (fun x194 h195 =>
 jc (α := V → TH → PD → R) (fun x199 h200 d201 =>
 jc (α := JT) (fun x203 h204 =>
 jc (α := JT) (fun x206 h207 =>
 kPick x187 x206 qf fun x209 =>
 dokS [h65, h207] d201 (brS x209 (kNilc x0 fun x210 =>
 kFA 1 x210 fun x211 =>
 kS1 x211 (qi 2) h207 fun _ h213 =>
 kNilc x0 fun x214 =>
 kFA 0 x214 fun x215 =>
 kL1 x215 h213 fun x218 =>
 kNilc x0 fun x219 =>
 kFA 0 x219 fun x220 =>
 kL1 x220 h213 fun x223 =>
 kNilc x0 fun x224 =>
 kFA 3 x224 fun x225 =>
 kLA 49 x225 h213 fun x228 =>
 kNilc x0 fun x229 =>
 kFA 54 x229 fun x230 =>
 kIA 5 1 x230 x218 fun x231 =>
 kNilc x0 fun x232 =>
 kFA 64 x232 fun x233 =>
 kS1 x231 qt h213 fun _ h235 =>
 kIA 5 49 x233 x223 fun x236 =>
 kSA 49 x236 x228 h235 fun _ h238 =>
 dokS [h213, h235, h238] [] (kCall X 43 [x1] h238 fun x239 h240 =>
 kCall X 41 [x0, x239, (.fn 44 [x0] [])] h240 fun x241 h242 =>
 kCall X 56 [x0, x1] h242 fun x243 h244 =>
 kAp 131 1400 x241 x243 h244 fun x245 h246 =>
 some (x245, h246))) (j175 u u u u u u u u u u u u u u u u u u u u u u u u u u u u u u u u u u u u u u u u u u u u u u u u u u u u u u u u u u u u u u u u u u u u u u u u u u u u u u u u u u u u u u u u u u u u u u u u u u u u u u u u u u u h207))) fun j208 =>
 wtS x187 true (kBin .geq x203 (qi 2) fun x247 =>
 j208 x247 h204) (j208 u h204)) fun j205 =>
 wtS x187 true (kLen x199 fun x248 =>
 j205 x248 h200) (j205 u h200)) fun j202 =>
 wtS x187 true (kL1 x194 h195 fun x249 =>
 j202 x249 h195 ((fun h182 => kL1 x181 h182 fun x183 =>
 some (x183, h182), x184, 0, 1) :: [])) (j202 u h195 ((fun h182 => kL1 x181 h182 fun x183 =>
 some (x183, h182), x184, 0, 1) :: []))) fun j196 =>
 wtS x187 true (kFA 53 x191 fun x250 =>
 j196 x250 h192) (j196 u h192)) fun j193 =>
 wtS x187 true (kNilc x188 fun x251 =>
 j193 x251 h189) (j193 u h189)) fun j190 =>
 wtS x187 true (j190 x0 h186) (j190 u h186)))))) fun j26 =>
 wtS x8 false (kEqI false x9 x21 fun x252 =>
 j26 x252 h22) (j26 u h22)) fun j23 =>
 wtS x8 false (kL1 x18 h19 fun x253 =>
 j23 x253 h19) (j23 u h19)) fun j20 =>
 wtS x8 false (kFA 52 x15 fun x254 =>
 j20 x254 h16) (j20 u h16)) fun j17 =>
 wtS x8 false (kNilc x12 fun x255 =>
 j17 x255 h13) (j17 u h13)) fun j14 =>
 wtS x8 false (j14 x0 h10) (j14 u h10)) fun j11 =>
 wtS x8 false (j11 x6 h7) (j11 u h7))
theorem p25_ok (k : Nat) : p25 k = funcS k 2 lit25 := by kernel_rfl
def p30 (_ : Nat) : CtxK → List V → TH → R := fun _ => ap 1 (fun x0 h1 =>
 kNilc x0 fun x2 =>
 kFA 52 x2 fun x3 =>
 kL1 x3 h1 fun x4 =>
 some (x4, h1))
theorem p30_ok (k : Nat) : p30 k = funcS k 1 lit30 := by kernel_rfl
def p31 (k : Nat) : CtxK → List V → TH → R := fun X => ap 1 (fun x0 h1 =>
 kNilc x0 fun x2 =>
 kFA 1 x2 fun x3 =>
 kL1 x3 h1 fun x4 =>
 kEqI false x4 (qi 2) fun x5 =>
 jc (α := Cur 78) (fun x6 _ _ x9 _ _ _ _ _ _ _ _ _ _ _ _ _ _ _ _ _ _ _ _ _ _ _ _ _ _ _ _ _ _ _ _ _ _ _ _ _ _ _ _ _ _ _ _ _ _ _ _ _ _ _ _ _ _ _ _ _ _ _ _ _ _ _ _ _ _ _ _ _ _ _ _ _ _ h84 =>
 kNilc x6 fun x86 =>
 kFA 309 x86 fun x87 =>
 kL1 x87 h84 fun x88 =>
 kLen x88 fun x89 =>
 lp (α := Cur 78) (zN 78) (fun n169 x90 _ _ x93 _ _ _ _ _ _ _ _ _ _ _ _ _ _ _ _ _ _ _ _ _ _ _ _ _ _ _ _ _ _ _ _ _ x127 x128 x129 _ _ _ _ _ _ _ _ _ _ _ _ _ _ _ _ _ _ _ _ _ _ _ _ _ _ _ _ _ _ _ _ _ _ _ _ _ _ h168 =>
 kBin .lss x129 x128 fun x170 =>
 brS x170 (kIS 15 x127 x129 fun x171 =>
 kLA 15 x171 h168 fun x172 =>
 kNew zr7 h168 fun x173 h174 =>
 kSA 15 x173 x172 h174 fun _ h176 =>
 kNilc x90 fun x177 =>
 kFA 53 x177 fun x178 =>
 kL1 x178 h176 fun x181 =>
 kFA 10 x173 fun x182 =>
 kLA 5 x182 h176 fun x185 =>
 kCall X 42 [x181, x185] h176 fun x186 h187 =>
 kAp 1 8 x93 x186 h187 fun x188 h189 =>
 dokS [h176, h187, h189] [] (kBin .add x129 (qi 1) fun x190 =>
 n169 x90 u u x188 u u u u u u u u u u u u u u u u u u u u u u u u u u u u u u u u u x127 x128 x190 u u u u u u u u u u u u u u u u u u u u u u u u u u u u u u u u u u u u u u h189)) (kNilc x90 fun x191 =>
 kFA 310 x191 fun x192 =>
 kLA 42 x192 h168 fun x193 =>
 lp (α := Cur 78) (zN 78) (fun n273 x194 _ _ x197 _ _ _ _ _ _ _ _ _ _ _ _ _ _ _ _ _ _ _ _ _ _ _ _ _ _ _ _ _ _ _ _ _ _ _ _ _ _ _ _ _ _ _ _ _ _ _ _ _ _ _ _ x250 x251 _ _ _ _ _ _ _ _ _ _ _ _ _ _ _ _ _ _ _ _ h272 =>
 kBin .lss x251 (qi 3) fun x274 =>
 brS x274 (kP (indexE (some (3, 14, true)) x250 x251) fun x275 =>
 kNew [(qb 0), (qw 0), (qb 0), (qb 0), (qb 0), qs, (qb 0), qs, (qw 0), qf, qf, qf, qf, qf] h272 fun x276 h277 =>
 kSA 14 x276 x275 h277 fun _ h279 =>
 kFA 0 x276 fun x280 =>
 kFA 1 x280 fun x281 =>
 kL1 x281 h279 fun x282 =>
 kBin .gtr x282 (qw 0) fun x283 =>
 jc (α := Cur 78) (fun x284 _ _ x287 _ _ _ _ _ _ _ _ _ _ _ _ _ _ _ _ _ _ _ _ _ _ _ _ _ _ _ _ _ _ _ _ _ _ _ _ _ _ _ _ _ _ _ _ _ _ _ _ _ _ _ _ x340 x341 _ _ _ _ _ _ _ _ _ _ _ _ _ _ _ _ _ _ _ _ h362 =>
 kBin .add x341 (qi 1) fun x364 =>
 n273 x284 u u x287 u u u u u u u u u u u u u u u u u u u u u u u u u u u u u u u u u u u u u u u u u u u u u u u u u u u u x340 x364 u u u u u u u u u u u u u u u u u u u u h362) fun j363 =>
 brS x283 (kNilc x194 fun x365 =>
 kFA 53 x365 fun x366 =>
 kL1 x366 h279 fun x369 =>
 kFA 9 x276 fun x370 =>
 kLA 5 x370 h279 fun x373 =>
 kCall X 42 [x369, x373] h279 fun x374 h375 =>
 kAp 1 8 x197 x374 h375 fun x376 h377 =>
 dokS [h279, h375, h377] [] (j363 x194 u u x376 u u u u u u u u u u u u u u u u u u u u u u u u u u u u u u u u u u u u u u u u u u u u u u u u u u u u x250 x251 u u u u u u u u u u u u u u u u u u u u h377)) (j363 x194 u u x197 u u u u u u u u u u u u u u u u u u u u u u u u u u u u u u u u u u u u u u u u u u u u u u u u u u u u x250 x251 u u u u u u u u u u u u u u u u u u u u h279)) (kCall X 61 [x197] h272 fun _ h379 =>
 kCall X 62 [x197] h379 fun x380 h381 =>
 some (x380, h381))) k x90 u u x93 u u u u u u u u u u u u u u u u u u u u u u u u u u u u u u u u u u u u u u u u u u u u u u u u u u u u x193 (qi 0) u u u u u u u u u u u u u u u u u u u u h168)) k x6 u u x9 u u u u u u u u u u u u u u u u u u u u u u u u u u u u u u u u u x88 x89 (qi 0) u u u u u u u u u u u u u u u u u u u u u u u u u u u u u u u u u u u u u u h84) fun j85 =>
 brS x5 (kNilc x0 fun x382 =>
 kFA 53 x382 fun x383 =>
 kL1 x383 h1 fun x386 =>
 kNilc x0 fun x387 =>
 kFA 54 x387 fun x388 =>
 kLA 5 x388 h1 fun x391 =>
 kCall X 42 [x386, x391] h1 fun x392 h393 =>
 dokS [h1, h393] [] (j85 x0 u u x392 u u u u u u u u u u u u u u u u u u u u u u u u u u u u u u u u u u u u u u u u u u u u u u u u u u u u u u u u u u u u u u u u u u u u u u u u u u h393)) (kEqI false x4 (qi 3) fun x394 =>
 jc (α := Cur 78) (fun x395 _ _ x398 _ _ _ _ _ _ _ _ _ _ _ _ _ _ _ _ _ _ _ _ _ _ _ _ _ _ _ _ _ _ _ _ _ _ _ _ _ _ _ _ _ _ _ _ _ _ _ _ _ _ _ _ _ _ _ _ _ _ _ _ _ _ _ _ _ _ _ _ _ _ _ _ _ _ h473 =>
 j85 x395 u u x398 u u u u u u u u u u u u u u u u u u u u u u u u u u u u u u u u u u u u u u u u u u u u u u u u u u u u u u u u u u u u u u u u u u u u u u u u u u h473) fun j474 =>
 brS x394 (kNilc x0 fun x475 =>
 kFA 53 x475 fun x476 =>
 kL1 x476 h1 fun x479 =>
 kNilc x0 fun x480 =>
 kFA 59 x480 fun x481 =>
 kLA 5 x481 h1 fun x484 =>
 kCall X 42 [x479, x484] h1 fun x485 h486 =>
 dokS [h1, h486] [] (j474 x0 u u x485 u u u u u u u u u u u u u u u u u u u u u u u u u u u u u u u u u u u u u u u u u u u u u u u u u u u u u u u u u u u u u u u u u u u u u u u u u u h486)) (j474 x0 u u .nils u u u u u u u u u u u u u u u u u u u u u u u u u u u u u u u u u u u u u u u u u u u u u u u u u u u u u u u u u u u u u u u u u u u u u u u u u u h1)))
theorem p31_ok (k : Nat) : p31 k = funcS k 1 lit31 := by kernel_rfl
def p32 (k : Nat) : CtxK → List V → TH → R := fun _ => ap 1 (fun x0 h1 =>
 kNilc x0 fun x2 =>
 kFA 309 x2 fun x3 =>
 kL1 x3 h1 fun x4 =>
 kLen x4 fun x5 =>
 kNilc x0 fun x6 =>
 kFA 310 x6 fun x7 =>
 kLA 42 x7 h1 fun x8 =>
 lp (α := Cur 26) (zN 26) (fun n36 _ _ _ x12 _ _ _ _ _ _ _ _ _ _ x23 x24 _ _ _ _ _ _ _ _ _ _ h35 =>
 kBin .lss x24 (qi 3) fun x37 =>
 brS x37 (kP (indexE (some (3, 14, true)) x23 x24) fun x38 =>
 kNew [(qb 0), (qw 0), (qb 0), (qb 0), (qb 0), qs, (qb 0), qs, (qw 0), qf, qf, qf, qf, qf] h35 fun x39 h40 =>
 kSA 14 x39 x38 h40 fun _ h42 =>
 kFA 0 x39 fun x43 =>
 kFA 1 x43 fun x44 =>
 kL1 x44 h42 fun x45 =>
 kBin .gtr x45 (qw 0) fun x46 =>
 jc (α := Cur 26) (fun _ _ _ x50 _ _ _ _ _ _ _ _ _ _ x61 x62 _ _ _ _ _ _ _ _ _ _ h73 =>
 kBin .add x62 (qi 1) fun x75 =>
 n36 u u u x50 u u u u u u u u u u x61 x75 u u u u u u u u u u h73) fun j74 =>
 brS x46 (kBin .add x12 (qi 1) fun x76 =>
 j74 u u u x76 u u u u u u u u u u x23 x24 u u u u u u u u u u h42) (j74 u u u x12 u u u u u u u u u u x23 x24 u u u u u u u u u u h42)) (some (x12, h35))) k u u u x5 u u u u u u u u u u x8 (qi 0) u u u u u u u u u u h1)
theorem p32_ok (k : Nat) : p32 k = funcS k 1 lit32 := by kernel_rfl
def p40 (k : Nat) : CtxK → List V → TH → R := fun _ => ap 2 (fun x0 x1 h2 =>
 kLen x0 fun x3 =>
 kLen x1 fun x4 =>
 kEqI true x3 x4 fun x5 =>
 brS x5 (some (qf, h2)) (kLen x0 fun x6 =>
 lp (α := Cur 26) (zN 26) (fun n34 x7 x8 _ _ _ _ _ _ _ _ _ _ x19 x20 _ _ _ _ _ _ _ _ _ _ _ _ h33 =>
 kBin .lss x20 x19 fun x35 =>
 brS x35 (kIS 8 x7 x20 fun x36 =>
 kLA 8 x36 h33 fun x39 =>
 kIS 8 x8 x20 fun x40 =>
 kLA 8 x40 h33 fun x43 =>
 kEq' true (.agg [.int, .int, .int, .int, .int, .int, .int, .str]) x39 x43 fun x44 =>
 dokS [h33] [] (brS x44 (some (qf, h33)) (kBin .add x20 (qi 1) fun x45 =>
 n34 x7 x8 u u u u u u u u u u x19 x45 u u u u u u u u u u u u h33))) (some (qt, h33))) k x0 x1 u u u u u u u u u u x6 (qi 0) u u u u u u u u u u u u h2))
theorem p40_ok (k : Nat) : p40 k = funcS k 2 lit40 := by kernel_rfl
def p45 (_ : Nat) : CtxK → List V → TH → R := fun X => ap 2 (fun x0 x1 h2 =>
 kNew zr1 h2 fun x3 h4 =>
 kCall X 89 [x0, (qb 9), x1] h4 fun x5 h6 =>
 kNew zr1 h6 fun x7 h8 =>
 kSA 131 x7 x5 h8 fun _ h10 =>
 kNilc x0 fun x11 =>
 kFA 64 x11 fun x12 =>
 kIA 5 49 x12 x1 fun x13 =>
 kLA 49 x13 h10 fun x16 =>
 kNilc x0 fun x17 =>
 kFA 3 x17 fun x18 =>
 kLA 49 x18 h10 fun x21 =>
 kCall X 90 [x16, x21] h10 fun x22 h23 =>
 kFA 62 x7 fun x24 =>
 kSA 52 x24 x22 h23 fun _ h26 =>
 dokS [h10, h23, h26] [] (kLA 131 x7 h26 fun x27 =>
 kSA 131 x3 x27 h26 fun _ h29 =>
 rsS [.cell 4 true 131] [x0, x1, u, u, x3, x7, x0, x1, x5, x0, x1, x11, x12, x13, x16, x0, x17, x18, x21, x22, x24, x27] h29))
theorem p45_ok (k : Nat) : p45 k = funcS k 2 lit45 := by kernel_rfl
def p53 (_ : Nat) : CtxK → List V → TH → R := fun X => ap 2 (fun x0 x1 h2 =>
 kCall X 35 [x0, x1] h2 fun x3 h4 =>
 kP (fieldE false 0 1 x3) fun x5 =>
 some (x5, h4))
theorem p53_ok (k : Nat) : p53 k = funcS k 2 lit53 := by kernel_rfl
def p66 (_ : Nat) : CtxK → List V → TH → R := fun X => ap 3 (fun x0 _ x2 h3 =>
 kNew (V.cellsR x2) h3 fun x4 h5 =>
 kLA 131 x4 h5 fun x8 =>
 kCall X 108 [x0, (qi 3), x8] h5 fun x9 h10 =>
 kNot x9 fun x11 =>
 jc (α := JT) (fun x12 h13 =>
 jc (α := V → TH → PD → R) (fun x17 h18 d19 =>
 jc (α := JT) (fun x21 h22 =>
 jc (α := JT) (fun x24 h25 =>
 jc (α := JT) (fun x27 h28 =>
 kPick x11 qt x27 fun x30 =>
 dokS [h5, h22, h28] d19 (brS x30 (some (.nils, h28)) (kLA 131 x4 h28 fun x33 =>
 kNilc x0 fun x34 =>
 kFA 59 x34 fun x35 =>
 kCall X 104 [x33] h28 fun x36 h37 =>
 kIA 5 1 x35 x36 fun x38 =>
 kS1 x38 qt h37 fun _ h40 =>
 dokS [h28, h37, h40] [] (kNilc x0 fun x41 =>
 kFA 59 x41 fun x42 =>
 kLA 5 x42 h40 fun x45 =>
 kNilc x0 fun x46 =>
 kFA 53 x46 fun x47 =>
 kL1 x47 h40 fun x50 =>
 kCall X 110 [x45, x50] h40 fun x51 h52 =>
 dokS [h40, h52] [] (jc (α := Cur 36) (fun _ _ _ _ _ _ _ _ _ _ _ _ _ _ _ _ _ _ _ _ _ _ _ _ _ _ _ _ _ _ _ _ _ _ _ _ h89 =>
 some (.nils, h89)) fun j90 =>
 brS x51 (kNilc x0 fun x91 =>
 kFA 1 x91 fun x92 =>
 kS1 x92 (qi 4) h52 fun _ h94 =>
 j90 u u u u u u u u u u u u u u u u u u u u u u u u u u u u u u u u u u u u h94) (j90 u u u u u u u u u u u u u u u u u u u u u u u u u u u u u u u u u u u u h52)))))) fun j29 =>
 wtS x11 false (kEqI true x17 x24 fun x95 =>
 j29 x95 h25) (j29 u h25)) fun j26 =>
 wtS x11 false (kCall X 109 [x21] h22 fun x96 h97 =>
 j26 x96 h97) (j26 u h22)) fun j23 =>
 wtS x11 false (j23 x0 h18) (j23 u h18)) fun j20 =>
 wtS x11 false (kL1 x12 h13 fun x98 =>
 j20 x98 h13 ((fun h15 => kL1 x12 h15 fun x16 =>
 some (x16, h15), x98, 1, 2) :: [])) (j20 u h13 [])) fun j14 =>
 wtS x11 false (kFA 122 x4 fun x99 =>
 j14 x99 h10) (j14 u h10))
theorem p66_ok (k : Nat) : p66 k = funcS k 3 lit66 := by kernel_rfl
def p75 (_ : Nat) : CtxK → List V → TH → R := fun _ => ap 1 (fun x0 h1 =>
 kNew (V.cellsR x0) h1 fun x2 h3 =>
 kFA 0 x2 fun x4 =>
 kL1 x4 h3 fun x5 =>
 kEqI false x5 (qb 1) fun x6 =>
 jc (α := Cur 22) (fun _ x8 _ x10 _ _ x13 _ _ _ _ _ _ _ _ _ _ _ _ _ _ _ h29 =>
 jc (α := Cur 22) (fun _ x32 _ x34 _ _ _ _ _ _ _ _ _ _ _ _ _ _ _ _ _ _ h53 =>
 kFA 3 x32 fun x55 =>
 kL1 x55 h53 fun x56 =>
 kBin .geq x56 x34 fun x57 =>
 jc (α := JT) (fun x58 h59 =>
 jc (α := JT) (fun x61 h62 =>
 jc (α := JT) (fun x64 h65 =>
 kPick x57 x64 qf fun x67 =>
 some (x67, h65)) fun j66 =>
 wtS x57 true (kBin .leq x61 (qw 60) fun x68 =>
 j66 x68 h62) (j66 u h62)) fun j63 =>
 wtS x57 true (kL1 x58 h59 fun x69 =>
 j63 x69 h59) (j63 u h59)) fun j60 =>
 wtS x57 true (kFA 3 x32 fun x70 =>
 j60 x70 h53) (j60 u h53)) fun j54 =>
 brS x13 (j54 u x8 u (qw 2) u u u u u u u u u u u u u u u u u u h29) (j54 u x8 u x10 u u u u u u u u u u u u u u u u u u h29)) fun j30 =>
 brS x6 (j30 u x2 u (qw 1) u u x6 u u u u u u u u u u u u u u u h3) (kEqI false x5 (qb 2) fun x71 =>
 jc (α := Cur 22) (fun _ x73 _ x75 _ _ x78 _ _ _ _ _ _ _ _ _ _ _ _ _ _ _ h94 =>
 j30 u x73 u x75 u u x78 u u u u u u u u u u u u u u u h94) fun j95 =>
 brS x71 (j95 u x2 u (qw 1) u u x71 u u u u u u u u u u u u u u u h3) (kEqI false x5 (qb 3) fun x96 =>
 jc (α := Cur 22) (fun _ x98 _ x100 _ _ x103 _ _ _ _ _ _ _ _ _ _ _ _ _ _ _ h119 =>
 j95 u x98 u x100 u u x103 u u u u u u u u u u u u u u u h119) fun j120 =>
 brS x96 (j120 u x2 u (qw 1) u u x96 u u u u u u u u u u u u u u u h3) (kEqI false x5 (qb 4) fun x121 =>
 jc (α := Cur 22) (fun _ x123 _ x125 _ _ x128 _ _ _ _ _ _ _ _ _ _ _ _ _ _ _ h144 =>
 j120 u x123 u x125 u u x128 u u u u u u u u u u u u u u u h144) fun j145 =>
 brS x121 (j145 u x2 u (qw 1) u u x121 u u u u u u u u u u u u u u u h3) (kEqI false x5 (qb 5) fun x146 =>
 jc (α := Cur 22) (fun _ x148 _ x150 _ _ x153 _ _ _ _ _ _ _ _ _ _ _ _ _ _ _ h169 =>
 j145 u x148 u x150 u u x153 u u u u u u u u u u u u u u u h169) fun j170 =>
 brS x146 (j170 u x2 u (qw 1) u u x146 u u u u u u u u u u u u u u u h3) (kEqI false x5 (qb 18) fun x171 =>
 j170 u x2 u (qw 1) u u x171 u u u u u u u u u u u u u u u h3))))))
theorem p75_ok (k : Nat) : p75 k = funcS k 1 lit75 := by kernel_rfl
def p80 (_ : Nat) : CtxK → List V → TH → R := fun _ => ap 1 (fun x0 h1 =>
 kNew (V.cellsR x0) h1 fun x2 h3 =>
 kFA 0 x2 fun x4 =>
 kL1 x4 h3 fun x5 =>
 kEqI true x5 (qb 17) fun x6 =>
 jc (α := JT) (fun x7 h8 =>
 jc (α := JT) (fun x10 h11 =>
 jc (α := JT) (fun x13 h14 =>
 kPick x6 qt x13 fun x16 =>
 some (x16, h14)) fun j15 =>
 wtS x6 false (kBin .lss x10 (qw 5) fun x17 =>
 j15 x17 h11) (j15 u h11)) fun j12 =>
 wtS x6 false (kL1 x7 h8 fun x18 =>
 j12 x18 h8) (j12 u h8)) fun j9 =>
 wtS x6 false (kFA 122 x2 fun x19 =>
 j9 x19 h3) (j9 u h3))
theorem p80_ok (k : Nat) : p80 k = funcS k 1 lit80 := by kernel_rfl
def p88 (_ : Nat) : CtxK → List V → TH → R := fun X => ap 1 (fun x0 h1 =>
 kNew (V.cellsR x0) h1 fun x2 h3 =>
 kLA 16 x2 h3 fun x4 =>
 kCall X 127 [x4, (.fn 128 [] [])] h3 fun x5 h6 =>
 some (x5, h6))
theorem p88_ok (k : Nat) : p88 k = funcS k 1 lit88 := by kernel_rfl
def p89 (_ : Nat) : CtxK → List V → TH → R := fun _ => ap 3 (fun x0 x1 x2 h3 =>
 kNew zr1 h3 fun x4 h5 =>
 kNilc x0 fun x6 =>
 kFA 0 x6 fun x7 =>
 kL1 x7 h5 fun x10 =>
 kConv .u8 x10 fun x11 =>
 kBin .add (qb 10) x11 fun x12 =>
 kConv .u8 x2 fun x13 =>
 kBin .add (qb 10) x13 fun x14 =>
 kNilc x0 fun x15 =>
 kFA 52 x15 fun x16 =>
 kL1 x16 h5 fun x19 =>
 kNilc x0 fun x20 =>
 kFA 2 x20 fun x21 =>
 kL1 x21 h5 fun x24 =>
 kB zr1 [(0, 1, x1), (1, 1, x12), (2, 1, x14), (3, 1, x19), (12, 1, x24)] fun x25 =>
 kSA 131 x4 x25 h5 fun _ h27 =>
 dokS [h5, h27] [] (rsS [.cell 6 true 131] [x0, x1, x2, u, u, u, x4, x1, x0, x6, x7, x10, x11, x12, x2, x13, x14, x0, x15, x16, x19, x0, x20, x21, x24, x25] h27))
theorem p89_ok (k : Nat) : p89 k = funcS k 3 lit89 := by kernel_rfl
def p95 (k : Nat) : CtxK → List V → TH → R := fun _ => ap 2 (fun x0 x1 h2 =>
 kLen x0 fun x3 =>
 lp (α := Cur 19) (zN 19) (fun n24 x4 x5 _ _ _ _ _ x11 x12 _ _ _ _ _ _ _ _ _ _ h23 =>
 kBin .lss x12 x11 fun x25 =>
 brS x25 (kIS 1 x4 x12 fun x26 =>
 kL1 x26 h23 fun x27 =>
 kEqI false x5 x27 fun x28 =>
 brS x28 (some (x12, h23)) (kBin .add x12 (qi 1) fun x29 =>
 n24 x4 x5 u u u u u x11 x29 u u u u u u u u u u h23)) (some ((.int .i64 (-1)), h23))) k x0 x1 u u u u u x3 (qi 0) u u u u u u u u u u h2)
theorem p95_ok (k : Nat) : p95 k = funcS k 2 lit95 := by kernel_rfl
def p96 (_ : Nat) : CtxK → List V → TH → R := fun X => ap 4 (fun x0 x1 x2 x3 h4 =>
 kNew (V.cellsR x2) h4 fun x5 h6 =>
 kL1 x5 h6 fun x7 =>
 kCall X 136 [x0, x1, x7, x3] h6 fun x8 h9 =>
 kLen x8 fun x10 =>
 kEqI false x10 (qi 0) fun x11 =>
 jc (α := JT) (fun x12 h13 =>
 jc (α := JT) (fun x15 h16 =>
 jc (α := JT) (fun x18 h19 =>
 jc (α := JT) (fun x21 h22 =>
 jc (α := JT) (fun x24 h25 =>
 jc (α := JT) (fun x27 h28 =>
 kPick x11 x27 qf fun x30 =>
 some (x30, h28)) fun j29 =>
 wtS x11 true (kNot x24 fun x31 =>
 j29 x31 h25) (j29 u h25)) fun j26 =>
 wtS x11 true (kCall X 137 [x18, x21] h22 fun x32 h33 =>
 j26 x32 h33) (j26 u h22)) fun j23 =>
 wtS x11 true (j23 (.fn 135 [] [x5]) h19) (j23 u h19)) fun j20 =>
 wtS x11 true (kCall X 12 [x12, x15] h16 fun x34 h35 =>
 j20 x34 h35) (j20 u h16)) fun j17 =>
 wtS x11 true (j17 x1 h13) (j17 u h13)) fun j14 =>
 wtS x11 true (j14 x0 h9) (j14 u h9))
theorem p96_ok (k : Nat) : p96 k = funcS k 4 lit96 := by kernel_rfl
def p97 (k : Nat) : CtxK → List V → TH → R := fun _ => ap 1 (fun x0 h1 =>
 kLen x0 fun x2 =>
 lp (α := Cur 18) (zN 18) (fun n22 _ _ _ x6 _ _ x9 x10 x11 _ _ _ _ _ _ _ _ _ h21 =>
 kBin .lss x11 x10 fun x23 =>
 brS x23 (kIS 49 x9 x11 fun x24 =>
 kLA 49 x24 h21 fun x25 =>
 kNew zr0 h21 fun x26 h27 =>
 kSA 49 x26 x25 h27 fun _ h29 =>
 kFA 0 x26 fun x30 =>
 kL1 x30 h29 fun x31 =>
 kP (minE true x6 x31) fun x32 =>
 kBin .add x11 (qi 1) fun x33 =>
 n22 u u u x32 u u x9 x10 x33 u u u u u u u u u h29) (some (x6, h21))) k u u u (qw 0) u u x0 x2 (qi 0) u u u u u u u u u h1)
theorem p97_ok (k : Nat) : p97 k = funcS k 1 lit97 := by kernel_rfl
def p99 (_ : Nat) : CtxK → List V → TH → R := fun X => ap 2 (fun x0 x1 h2 =>
 kNew (V.cellsR x0) h2 fun x3 h4 =>
 kNew (V.cellsR x1) h4 fun x5 h6 =>
 kNew zr4 h6 fun x7 h8 =>
 kLA 16 x3 h8 fun x9 =>
 kCall X 141 [x9] h8 fun x10 h11 =>
 kNot x10 fun x12 =>
 jc (α := JT) (fun x13 h14 =>
 jc (α := JT) (fun x16 h17 =>
 jc (α := JT) (fun x19 h20 =>
 kPick x12 qt x19 fun x22 =>
 jc (α := JT) (fun x23 h24 =>
 jc (α := JT) (fun x26 h27 =>
 jc (α := JT) (fun x29 h30 =>
 kPick x22 qt x29 fun x32 =>
 brS x32 (kB zr4 [] fun x33 =>
 kSA 16 x7 x33 h30 fun _ h35 =>
 rsS [.cell 4 true 16, .tmp 5] [x0, x1, x3, x5, x7, (qi 40), u, x9, x10, x12, x12, x13, x16, x19, x22, x22, x23, x26, x29, x32, x33, u, u, u, u, u, u, u, u, u, u, u, u, u, u, u, u, u, u, u, u, u, u, u, u, u, u, u, u] h35) (kFA 0 x3 fun x36 =>
 kL1 x36 h30 fun x37 =>
 kBin .add x37 (qw 1) fun x38 =>
 kFA 0 x3 fun x39 =>
 kS1 x39 x38 h30 fun _ h41 =>
 kFA 1 x5 fun x42 =>
 kL1 x42 h41 fun x43 =>
 kFA 1 x3 fun x44 =>
 kIA 5 3 x44 x43 fun x45 =>
 kFA 0 x5 fun x46 =>
 kL1 x46 h41 fun x47 =>
 kEqI false x47 (qb 1) fun x48 =>
 jc (α := Cur 49) (fun x49 x50 x51 x52 x53 _ x55 x56 x57 x58 x59 x60 x61 x62 x63 x64 x65 x66 x67 x68 x69 x70 x71 x72 x73 x74 x75 x76 x77 x78 x79 x80 x81 x82 x83 x84 x85 x86 x87 x88 x89 x90 x91 x92 x93 x94 x95 x96 _ h98 =>
 kLA 16 x51 h98 fun x100 =>
 kSA 16 x53 x100 h98 fun _ h102 =>
 rsS [.cell 4 true 16, .tmp 5] [x49, x50, x51, x52, x53, (qi 0), x55, x56, x57, x58, x59, x60, x61, x62, x63, x64, x65, x66, x67, x68, x69, x70, x71, x72, x73, x74, x75, x76, x77, x78, x79, x80, x81, x82, x83, x84, x85, x86, x87, x88, x89, x90, x91, x92, x93, x94, x95, x96, x100] h102) fun j99 =>
 brS x48 (kNilc x45 fun x103 =>
 kFA 0 x103 fun x104 =>
 kS1 x104 qt h41 fun _ h106 =>
 j99 u u x3 u x7 u u u u u u u u u u u u u u u u u u u u u u u u u u u u u u u u u u u u u u u u u u u u h106) (kEqI false x47 (qb 2) fun x107 =>
 jc (α := Cur 49) (fun _ _ x110 _ x112 _ _ _ _ _ _ _ _ _ _ _ _ _ _ _ _ _ _ _ _ _ _ _ _ _ _ _ _ _ _ _ _ _ _ _ _ _ _ _ _ _ _ _ _ h157 =>
 j99 u u x110 u x112 u u u u u u u u u u u u u u u u u u u u u u u u u u u u u u u u u u u u u u u u u u u u h157) fun j158 =>
 brS x107 (kNilc x45 fun x159 =>
 kFA 0 x159 fun x160 =>
 kS1 x160 qf h41 fun _ h162 =>
 j158 u u x3 u x7 u u u u u u u u u u u u u u u u u u u u u u u u u u u u u u u u u u u u u u u u u u u u h162) (kEqI false x47 (qb 3) fun x163 =>
 jc (α := Cur 49) (fun _ _ x166 _ x168 _ _ _ _ _ _ _ _ _ _ _ _ _ _ _ _ _ _ _ _ _ _ _ _ _ _ _ _ _ _ _ _ _ _ _ _ _ _ _ _ _ _ _ _ h213 =>
 j158 u u x166 u x168 u u u u u u u u u u u u u u u u u u u u u u u u u u u u u u u u u u u u u u u u u u u u h213) fun j214 =>
 brS x163 (kFA 2 x5 fun x215 =>
 kL1 x215 h41 fun x216 =>
 kNilc x45 fun x217 =>
 kFA 1 x217 fun x218 =>
 kS1 x218 x216 h41 fun _ h220 =>
 j214 u u x3 u x7 u u u u u u u u u u u u u u u u u u u u u u u u u u u u u u u u u u u u u u u u u u u u h220) (j214 u u x3 u x7 u u u u u u u u u u u u u u u u u u u u u u u u u u u u u u u u u u u u u u u u u u u u h41))))) fun j31 =>
 wtS x22 false (kEqI false x26 (qw 60) fun x221 =>
 j31 x221 h27) (j31 u h27)) fun j28 =>
 wtS x22 false (kL1 x23 h24 fun x222 =>
 j28 x222 h24) (j28 u h24)) fun j25 =>
 wtS x22 false (kFA 0 x3 fun x223 =>
 j25 x223 h20) (j25 u h20)) fun j21 =>
 wtS x12 false (kNot x16 fun x224 =>
 j21 x224 h17) (j21 u h17)) fun j18 =>
 wtS x12 false (kCall X 122 [x13] h14 fun x225 h226 =>
 j18 x225 h226) (j18 u h14)) fun j15 =>
 wtS x12 false (kLA 3 x5 h11 fun x227 =>
 j15 x227 h11) (j15 u h11))
theorem p99_ok (k : Nat) : p99 k = funcS k 2 lit99 := by kernel_rfl
def p102 (k : Nat) : CtxK → List V → TH → R := fun X => ap 4 (fun x0 x1 x2 x3 h4 =>
 lp (α := Cur 134) (zN 134) (fun n140 x5 x6 x7 x8 _ _ _ _ x13 x14 _ _ _ _ _ _ _ _ _ _ _ _ _ _ _ _ _ _ _ _ _ _ _ _ _ _ _ _ _ _ _ _ _ _ _ _ _ _ _ _ _ _ _ _ _ _ _ _ _ _ _ _ _ _ _ _ _ _ _ _ _ _ _ _ _ _ _ _ _ _ _ _ _ _ _ _ _ _ _ _ _ _ _ _ _ _ _ _ _ _ _ _ _ _ _ _ _ _ _ _ _ _ _ _ _ _ _ _ _ _ _ _ _ _ _ _ _ _ _ _ _ _ _ _ h139 =>
 jc (α := Cur 134) (fun x141 x142 x143 x144 _ _ _ _ x149 x150 _ _ _ _ _ _ _ _ _ _ _ _ _ _ _ _ _ _ _ _ _ _ _ _ _ _ _ _ _ _ _ _ _ _ _ _ _ _ _ _ _ _ _ _ _ _ _ _ _ _ _ _ _ _ _ _ _ _ _ _ _ _ _ _ _ _ _ _ _ _ _ _ _ _ _ _ _ _ _ _ _ _ _ _ _ _ _ _ _ _ _ _ _ _ _ _ _ _ _ _ _ _ _ _ _ _ _ _ _ _ _ _ _ _ _ _ _ _ _ _ _ _ _ _ h275 =>
 n140 x141 x142 x143 x144 u u u u x149 x150 u u u u u u u u u u u u u u u u u u u u u u u u u u u u u u u u u u u u u u u u u u u u u u u u u u u u u u u u u u u u u u u u u u u u u u u u u u u u u u u u u u u u u u u u u u u u u u u u u u u u u u u u u u u u u u u u u u u u u u u u u u u u h275) fun j276 =>
 kBin .sub x7 x6 fun x277 =>
 kBin .leq x277 (qi 12) fun x278 =>
 brS x278 (kCall X 144 [x5, x6, x7] h139 fun _ h280 =>
 some (.tup [], h280)) (kEqI false x8 (qi 0) fun x281 =>
 brS x281 (kCall X 145 [x5, x6, x7] h139 fun _ h283 =>
 some (.tup [], h283)) (kNot x13 fun x284 =>
 jc (α := Cur 134) (fun x285 x286 x287 x288 _ _ _ _ x293 x294 x295 _ _ _ _ _ _ _ _ _ _ _ _ _ _ _ _ _ _ _ _ _ _ _ _ _ _ _ _ _ _ _ _ _ _ _ _ _ _ _ _ _ _ _ _ _ _ _ _ _ _ _ _ _ _ _ _ _ _ _ _ _ _ _ _ _ _ _ _ _ _ _ _ _ _ _ _ _ _ _ _ _ _ _ _ _ _ _ _ _ _ _ _ _ _ _ _ _ _ _ _ _ _ _ _ _ _ _ _ _ _ _ _ _ _ _ _ _ _ _ _ _ _ _ h419 =>
 kCall X 147 [x285, x286, x287] h419 fun x421 h422 =>
 kExt x421 0 fun x423 =>
 kExt x421 1 fun x424 =>
 kEqI false x424 (qi 2) fun x425 =>
 jc (α := Cur 134) (fun x426 x427 x428 x429 _ _ _ _ x434 x435 x436 x437 x438 _ _ _ _ _ _ _ _ _ _ _ _ _ _ _ _ _ _ _ _ _ _ _ _ _ _ _ _ _ _ _ _ _ _ _ _ _ _ _ _ _ _ _ _ _ _ _ _ _ _ _ _ _ _ _ _ _ _ _ _ _ _ _ _ _ _ _ _ _ _ _ _ _ _ _ _ _ _ _ _ _ _ _ _ _ _ _ _ _ _ _ _ _ _ _ _ _ _ _ _ _ _ _ _ _ _ _ _ _ _ _ _ _ _ _ _ _ _ _ _ _ h560 =>
 jc (α := JT) (fun x562 h563 =>
 kPick x434 x562 qf fun x565 =>
 jc (α := JT) (fun x566 h567 =>
 jc (α := JT) (fun x569 h570 =>
 kPick x565 x569 qf fun x572 =>
 jc (α := Cur 134) (fun x573 x574 x575 x576 _ _ _ _ x581 x582 x583 x584 _ _ _ _ _ _ _ _ _ _ _ _ _ _ _ _ _ _ _ _ _ _ _ _ _ _ _ _ _ _ _ _ _ _ _ _ _ _ _ _ _ _ _ _ _ _ _ _ _ _ _ _ _ _ _ _ _ _ _ _ _ _ _ _ _ _ _ _ _ _ _ _ _ _ _ _ _ _ _ _ _ _ _ _ _ _ _ _ _ _ _ _ _ _ _ _ _ _ _ _ _ _ _ _ _ _ _ _ _ _ _ _ _ _ _ _ _ _ _ _ _ _ h707 =>
 kBin .gtr x574 (qi 0) fun x709 =>
 jc (α := JT) (fun x710 h711 =>
 jc (α := JT) (fun x713 h714 =>
 jc (α := JT) (fun x716 h717 =>
 jc (α := JT) (fun x719 h720 =>
 jc (α := V → TH → PD → R) (fun x724 h725 d726 =>
 jc (α := JT) (fun x728 h729 =>
 jc (α := JT) (fun x731 h732 =>
 jc (α := JT) (fun x734 h735 =>
 jc (α := V → TH → PD → R) (fun x739 h740 d741 =>
 jc (α := JT) (fun x743 h744 =>
 jc (α := JT) (fun x746 h747 =>
 kPick x709 x746 qf fun x749 =>
 dokS [h740, h747] d741 (brS x749 (kCall X 151 [x573, x574, x575, x584] h747 fun x750 h751 =>
 j276 x573 x750 x575 x576 u u u u x581 x582 u u u u u u u u u u u u u u u u u u u u u u u u u u u u u u u u u u u u u u u u u u u u u u u u u u u u u u u u u u u u u u u u u u u u u u u u u u u u u u u u u u u u u u u u u u u u u u u u u u u u u u u u u u u u u u u u u u u u u u u u u u u u h751) (kCall X 152 [x573, x574, x575, x584] h747 fun x752 h753 =>
 kExt x752 0 fun x754 =>
 kExt x752 1 fun x755 =>
 kBin .sub x754 x574 fun x756 =>
 kBin .sub x575 x754 fun x757 =>
 kBin .quo x583 (qi 8) fun x758 =>
 kBin .lss x756 x757 fun x759 =>
 jc (α := Cur 134) (fun x760 x761 x762 x763 _ _ _ _ x768 x769 _ _ _ _ _ _ _ _ _ _ _ _ _ _ _ _ _ _ _ _ _ _ _ _ _ _ _ _ _ _ _ _ _ _ _ _ _ _ _ _ _ _ _ _ _ _ _ _ _ _ _ _ _ _ _ _ _ _ _ _ _ _ _ _ _ _ _ _ _ _ _ _ _ _ _ _ _ _ _ _ _ _ _ _ _ _ _ _ _ _ _ _ _ _ _ _ _ _ _ _ _ _ _ _ _ _ _ _ _ _ _ _ _ _ _ _ _ _ _ _ _ _ _ _ h894 =>
 j276 x760 x761 x762 x763 u u u u x768 x769 u u u u u u u u u u u u u u u u u u u u u u u u u u u u u u u u u u u u u u u u u u u u u u u u u u u u u u u u u u u u u u u u u u u u u u u u u u u u u u u u u u u u u u u u u u u u u u u u u u u u u u u u u u u u u u u u u u u u u u u u u u u u h894) fun j895 =>
 brS x759 (kBin .geq x756 x758 fun x896 =>
 kCall X 102 [x573, x574, x754, x576] h753 fun _ h898 =>
 kBin .add x754 (qi 1) fun x899 =>
 j895 x573 x899 x575 x576 u u u u x896 x755 u u u u u u u u u u u u u u u u u u u u u u u u u u u u u u u u u u u u u u u u u u u u u u u u u u u u u u u u u u u u u u u u u u u u u u u u u u u u u u u u u u u u u u u u u u u u u u u u u u u u u u u u u u u u u u u u u u u u u u u u u u u u h898) (kBin .geq x757 x758 fun x900 =>
 kBin .add x754 (qi 1) fun x901 =>
 kCall X 102 [x573, x901, x575, x576] h753 fun _ h903 =>
 j895 x573 x574 x754 x576 u u u u x900 x755 u u u u u u u u u u u u u u u u u u u u u u u u u u u u u u u u u u u u u u u u u u u u u u u u u u u u u u u u u u u u u u u u u u u u u u u u u u u u u u u u u u u u u u u u u u u u u u u u u u u u u u u u u u u u u u u u u u u u u u u u u u u u h903)))) fun j748 =>
 wtS x709 true (kNot x743 fun x904 =>
 j748 x904 h744) (j748 u h744)) fun j745 =>
 wtS x709 true (kCall X 150 [x724, x739] h740 fun x905 h906 =>
 j745 x905 h906) (j745 u h740)) fun j742 =>
 wtS x709 true (kL1 x734 h735 fun x907 =>
 j742 x907 h735 d726) (j742 u h735 d726)) fun j736 =>
 wtS x709 true (kIS 1 x728 x731 fun x908 =>
 j736 x908 h732) (j736 u h732)) fun j733 =>
 wtS x709 true (j733 x584 h729) (j733 u h729)) fun j730 =>
 wtS x709 true (j730 x573 h725) (j730 u h725)) fun j727 =>
 wtS x709 true (kL1 x719 h720 fun x909 =>
 j727 x909 h720 []) (j727 u h720 [])) fun j721 =>
 wtS x709 true (kIS 1 x710 x716 fun x910 =>
 j721 x910 h717) (j721 u h717)) fun j718 =>
 wtS x709 true (kBin .sub x713 (qi 1) fun x911 =>
 j718 x911 h714) (j718 u h714)) fun j715 =>
 wtS x709 true (j715 x574 h711) (j715 u h711)) fun j712 =>
 wtS x709 true (j712 x573 h707) (j712 u h707)) fun j708 =>
 brS x572 (kCall X 149 [x426, x427, x428] h570 fun x912 h913 =>
 brS x912 (some (.tup [], h913)) (j708 x426 x427 x428 x429 u u u u x434 x435 x436 x437 u u u u u u u u u u u u u u u u u u u u u u u u u u u u u u u u u u u u u u u u u u u u u u u u u u u u u u u u u u u u u u u u u u u u u u u u u u u u u u u u u u u u u u u u u u u u u u u u u u u u u u u u u u u u u u u u u u u u u u u u u u h913)) (j708 x426 x427 x428 x429 u u u u x434 x435 x436 x437 u u u u u u u u u u u u u u u u u u u u u u u u u u u u u u u u u u u u u u u u u u u u u u u u u u u u u u u u u u u u u u u u u u u u u u u u u u u u u u u u u u u u u u u u u u u u u u u u u u u u u u u u u u u u u u u u u u u u u u u u u u h570)) fun j571 =>
 wtS x565 true (kEqI false x566 (qi 1) fun x914 =>
 j571 x914 h567) (j571 u h567)) fun j568 =>
 wtS x565 true (j568 x438 h563) (j568 u h563)) fun j564 =>
 wtS x434 true (j564 x435 h560) (j564 u h560)) fun j561 =>
 brS x425 (kCall X 148 [x285, x286, x287] h422 fun _ h916 =>
 kBin .sub x287 (qi 1) fun x917 =>
 kBin .sub x423 x286 fun x918 =>
 kBin .sub x917 x918 fun x919 =>
 j561 x285 x286 x287 x288 u u u u x293 x294 x295 x919 (qi 1) u u u u u u u u u u u u u u u u u u u u u u u u u u u u u u u u u u u u u u u u u u u u u u u u u u u u u u u u u u u u u u u u u u u u u u u u u u u u u u u u u u u u u u u u u u u u u u u u u u u u u u u u u u u u u u u u u u u u u u u u u h916) (j561 x285 x286 x287 x288 u u u u x293 x294 x295 x423 x424 u u u u u u u u u u u u u u u u u u u u u u u u u u u u u u u u u u u u u u u u u u u u u u u u u u u u u u u u u u u u u u u u u u u u u u u u u u u u u u u u u u u u u u u u u u u u u u u u u u u u u u u u u u u u u u u u u u u u u u u u u h422)) fun j420 =>
 brS x284 (kCall X 146 [x5, x6, x7] h139 fun _ h921 =>
 kBin .sub x8 (qi 1) fun x922 =>
 j420 x5 x6 x7 x922 u u u u x13 x14 x277 u u u u u u u u u u u u u u u u u u u u u u u u u u u u u u u u u u u u u u u u u u u u u u u u u u u u u u u u u u u u u u u u u u u u u u u u u u u u u u u u u u u u u u u u u u u u u u u u u u u u u u u u u u u u u u u u u u u u u u u u u u u h921) (j420 x5 x6 x7 x8 u u u u x13 x14 x277 u u u u u u u u u u u u u u u u u u u u u u u u u u u u u u u u u u u u u u u u u u u u u u u u u u u u u u u u u u u u u u u u u u u u u u u u u u u u u u u u u u u u u u u u u u u u u u u u u u u u u u u u u u u u u u u u u u u u u u u u u u u h139)))) k x0 x1 x2 x3 u u u u qt qt u u u u u u u u u u u u u u u u u u u u u u u u u u u u u u u u u u u u u u u u u u u u u u u u u u u u u u u u u u u u u u u u u u u u u u u u u u u u u u u u u u u u u u u u u u u u u u u u u u u u u u u u u u u u u u u u u u u u u u u u u u u u h4)
theorem p102_ok (k : Nat) : p102 k = funcS k 4 lit102 := by kernel_rfl
def p103 (_ : Nat) : CtxK → List V → TH → R := fun X => ap 1 (fun x0 h1 =>
 brS qf (kConv .u32 x0 fun x2 =>
 kCall X 153 [x2] h1 fun x3 h4 =>
 some (x3, h4)) (kCall X 154 [x0] h1 fun x5 h6 =>
 some (x5, h6)))
theorem p103_ok (k : Nat) : p103 k = funcS k 1 lit103 := by kernel_rfl
def p104 (_ : Nat) : CtxK → List V → TH → R := fun _ => ap 1 (fun x0 h1 =>
 kNew (V.cellsR x0) h1 fun x2 h3 =>
 kFA 1 x2 fun x4 =>
 kL1 x4 h3 fun x5 =>
 kConv .i64 x5 fun x6 =>
 kBin .sub x6 (qi 10) fun x7 =>
 some (x7, h3))
theorem p104_ok (k : Nat) : p104 k = funcS k 1 lit104 := by kernel_rfl
def p108 (_ : Nat) : CtxK → List V → TH → R := fun X => ap 3 (fun x0 x1 x2 h3 =>
 kNew (V.cellsR x2) h3 fun x4 h5 =>
 kNilc x0 fun x6 =>
 kFA 1 x6 fun x7 =>
 kL1 x7 h5 fun x10 =>
 kEqI false x10 x1 fun x11 =>
 jc (α := JT) (fun x12 h13 =>
 jc (α := JT) (fun x15 h16 =>
 jc (α := JT) (fun x18 h19 =>
 jc (α := V → TH → PD → R) (fun x23 h24 d25 =>
 jc (α := V → TH → PD → R) (fun x29 h30 d31 =>
 jc (α := JT) (fun x33 h34 =>
 jc (α := JT) (fun x36 h37 =>
 kPick x11 x36 qf fun x39 =>
 dokS [h30, h34, h37] d31 (some (x39, h37))) fun j38 =>
 wtS x11 true (kCall X 54 [x23, x33] h34 fun x40 h41 =>
 j38 x40 h41) (j38 u h34)) fun j35 =>
 wtS x11 true (kCall X 104 [x29] h30 fun x42 h43 =>
 j35 x42 h43) (j35 u h30)) fun j32 =>
 wtS x11 true (kLA 131 x4 h24 fun x44 =>
 j32 x44 h24 d25) (j32 u h24 d25)) fun j26 =>
 wtS x11 true (kL1 x18 h19 fun x45 =>
 j26 x45 h19 ((fun h21 => kL1 x18 h21 fun x22 =>
 some (x22, h21), x45, 0, 1) :: [])) (j26 u h19 [])) fun j20 =>
 wtS x11 true (kFA 53 x15 fun x46 =>
 j20 x46 h16) (j20 u h16)) fun j17 =>
 wtS x11 true (kNilc x12 fun x47 =>
 j17 x47 h13) (j17 u h13)) fun j14 =>
 wtS x11 true (j14 x0 h5) (j14 u h5))
theorem p108_ok (k : Nat) : p108 k = funcS k 3 lit108 := by kernel_rfl
def p111 (_ : Nat) : CtxK → List V → TH → R := fun X => ap 2 (fun x0 x1 h2 =>
 kNew (V.cellsR x1) h2 fun x3 h4 =>
 kFA 1 x3 fun x5 =>
 kL1 x5 h4 fun x8 =>
 kCall X 109 [x0] h4 fun x9 h10 =>
 kBin .geq x9 x8 fun x11 =>
 jc (α := JT) (fun x12 h13 =>
 jc (α := V → TH → PD → R) (fun x17 h18 d19 =>
 jc (α := JT) (fun x21 h22 =>
 jc (α := JT) (fun x24 h25 =>
 jc (α := JT) (fun x27 h28 =>
 jc (α := JT) (fun x30 h31 =>
 kPick x11 qt x30 fun x33 =>
 dokS [h4, h22, h31] d19 (brS x33 (some (.tup [], h31)) (kNilc x0 fun x34 =>
 kFA 3 x34 fun x35 =>
 kLA 49 x35 h31 fun x38 =>
 kLA 8 x3 h31 fun x41 =>
 kNew zr0 h31 fun x42 h43 =>
 kCall X 157 [x38, x41] h43 fun x44 h45 =>
 kExt x44 0 fun x46 =>
 kExt x44 1 fun x47 =>
 kSA 49 x42 x46 h45 fun _ h49 =>
 dokS [h43, h45, h49] [] (kEqI false x47 (qi 0) fun x50 =>
 jc (α := Cur 34) (fun _ _ _ _ _ _ _ _ _ _ _ _ _ _ _ _ _ _ _ _ _ _ _ _ _ _ _ _ _ _ _ _ _ _ h85 =>
 some (.tup [], h85)) fun j86 =>
 brS x50 (kLA 49 x42 h49 fun x87 =>
 kNilc x0 fun x88 =>
 kFA 3 x88 fun x89 =>
 kSA 49 x89 x87 h49 fun _ h91 =>
 j86 u u u u u u u u u u u u u u u u u u u u u u u u u u u u u u u u u u h91) (j86 u u u u u u u u u u u u u u u u u u u u u u u u u u u u u u u u u u h49))))) fun j32 =>
 wtS x11 false (kBin .gtr x27 (qw 1) fun x92 =>
 j32 x92 h28) (j32 u h28)) fun j29 =>
 wtS x11 false (kBin .sub x17 x24 fun x93 =>
 j29 x93 h25) (j29 u h25)) fun j26 =>
 wtS x11 false (kCall X 109 [x21] h22 fun x94 h95 =>
 j26 x94 h95) (j26 u h22)) fun j23 =>
 wtS x11 false (j23 x0 h18) (j23 u h18)) fun j20 =>
 wtS x11 false (kL1 x12 h13 fun x96 =>
 j20 x96 h13 ((fun h15 => kL1 x12 h15 fun x16 =>
 some (x16, h15), x96, 1, 2) :: ((fun h6 => kL1 x5 h6 fun x7 =>
 some (x7, h6), x8, 0, 1) :: []))) (j20 u h13 ((fun h6 => kL1 x5 h6 fun x7 =>
 some (x7, h6), x8, 0, 1) :: []))) fun j14 =>
 wtS x11 false (kFA 1 x3 fun x97 =>
 j14 x97 h10) (j14 u h10))
theorem p111_ok (k : Nat) : p111 k = funcS k 2 lit111 := by kernel_rfl
def p114 (_ : Nat) : CtxK → List V → TH → R := fun X => ap 2 (fun x0 x1 h2 =>
 kNew (V.cellsR x0) h2 fun x3 h4 =>
 kNew (V.cellsR x1) h4 fun x5 h6 =>
 kL1 x3 h6 fun x7 =>
 kNilc x7 fun x8 =>
 kFA 3 x8 fun x9 =>
 kLA 49 x9 h6 fun x10 =>
 kCall X 23 [x10] h6 fun x11 h12 =>
 kNew zr5 h12 fun x13 h14 =>
 kSA 39 x13 x11 h14 fun _ h16 =>
 kLA 39 x13 h16 fun x17 =>
 kLA 6 x5 h16 fun x18 =>
 kCall X 133 [x17, x18] h16 fun x19 h20 =>
 kExt x19 0 fun x21 =>
 kExt x19 1 fun x22 =>
 kNew [(qb 0), qs] h20 fun x23 h24 =>
 kSA 2 x23 x21 h24 fun _ h26 =>
 brS x22 (kL1 x3 h26 fun x27 =>
 kNilc x27 fun x28 =>
 kFA 309 x28 fun x29 =>
 kL1 x29 h26 fun x30 =>
 kCall X 158 [x30, (.fn 159 [] [x5])] h26 fun x31 h32 =>
 jc (α := JT) (fun x33 h34 =>
 jc (α := V → TH → PD → R) (fun x38 h39 d40 =>
 jc (α := JT) (fun x42 h43 =>
 jc (α := JT) (fun x45 h46 =>
 jc (α := JT) (fun x48 h49 =>
 jc (α := JT) (fun x51 h52 =>
 jc (α := V → TH → PD → R) (fun x56 h57 d58 =>
 jc (α := JT) (fun x60 h61 =>
 jc (α := V → TH → PD → R) (fun x65 h66 d67 =>
 jc (α := JT) (fun x69 h70 =>
 kPick x31 qt x69 fun x72 =>
 dokS [h70] d67 (brS x72 (some (.nils, h70)) (kL1 x3 h70 fun x73 =>
 kLA 6 x5 h70 fun x74 =>
 kLA 2 x23 h70 fun x75 =>
 kCall X 112 [x73, x74, x75] h70 fun x76 h77 =>
 kBS 131 zr1 1 [(0, 131, x76)] h77 fun x78 h79 =>
 some (x78, h79)))) fun j71 =>
 wtS x31 false (kBin .gtr x56 x65 fun x80 =>
 j71 x80 h66) (j71 u h66)) fun j68 =>
 wtS x31 false (kL1 x60 h61 fun x81 =>
 j68 x81 h61 d58) (j68 u h61 d58)) fun j62 =>
 wtS x31 false (kFA 1 x5 fun x82 =>
 j62 x82 h57) (j62 u h57)) fun j59 =>
 wtS x31 false (kL1 x51 h52 fun x83 =>
 j59 x83 h52 d40) (j59 u h52 d40)) fun j53 =>
 wtS x31 false (kFA 0 x48 fun x84 =>
 j53 x84 h49) (j53 u h49)) fun j50 =>
 wtS x31 false (kIA 3 3 x45 x42 fun x85 =>
 j50 x85 h46) (j50 u h46)) fun j47 =>
 wtS x31 false (kFA 30 x13 fun x86 =>
 j47 x86 h43) (j47 u h43)) fun j44 =>
 wtS x31 false (kBin .sub x38 (qb 1) fun x87 =>
 j44 x87 h39) (j44 u h39)) fun j41 =>
 wtS x31 false (kL1 x33 h34 fun x88 =>
 j41 x88 h34 []) (j41 u h34 [])) fun j35 =>
 wtS x31 false (kFA 0 x5 fun x89 =>
 j35 x89 h32) (j35 u h32)) (kL1 x3 h26 fun x90 =>
 kNilc x90 fun x91 =>
 kFA 309 x91 fun x92 =>
 kL1 x92 h26 fun x93 =>
 kLen x93 fun x94 =>
 kBin .geq x94 (qi 3) fun x95 =>
 brS x95 (some (.nils, h26)) (kL1 x3 h26 fun x98 =>
 kNilc x98 fun x99 =>
 kFA 52 x99 fun x100 =>
 kL1 x100 h26 fun x103 =>
 kL1 x3 h26 fun x106 =>
 kLA 6 x5 h26 fun x109 =>
 kNew zr2 h26 fun x110 h111 =>
 kCall X 109 [x106] h111 fun x112 h113 =>
 kBin .add x112 (qw 1) fun x114 =>
 kB zr2 [(0, 1, x103), (1, 1, x114), (2, 6, x109)] fun x115 =>
 kSA 8 x110 x115 h113 fun _ h117 =>
 dokS [h111, h113, h117] ((fun h107 => kLA 6 x5 h107 fun x108 =>
 some (x108, h107), x109, 0, 1) :: ((fun h101 => kL1 x100 h101 fun x102 =>
 some (x102, h101), x103, 0, 1) :: ((fun h96 => kL1 x3 h96 fun x97 =>
 some (x97, h96), x98, 0, 1) :: []))) (kL1 x3 h117 fun x120 =>
 kNilc x120 fun x121 =>
 kFA 3 x121 fun x122 =>
 kLA 49 x122 h117 fun x125 =>
 kLA 8 x110 h117 fun x128 =>
 kNew zr0 h117 fun x129 h130 =>
 kCall X 157 [x125, x128] h130 fun x131 h132 =>
 kExt x131 0 fun x133 =>
 kExt x131 1 fun x134 =>
 kSA 49 x129 x133 h132 fun _ h136 =>
 dokS [h130, h132, h136] [] (kEqI true x134 (qi 0) fun x137 =>
 brS x137 (some (.nils, h136)) (kL1 x3 h136 fun x138 =>
 kLA 49 x129 h136 fun x139 =>
 kNilc x138 fun x140 =>
 kFA 3 x140 fun x141 =>
 kSA 49 x141 x139 h136 fun _ h143 =>
 kLA 49 x129 h143 fun x146 =>
 kLA 6 x5 h143 fun x149 =>
 kNew [(qb 0), qs] h143 fun x150 h151 =>
 kCall X 23 [x146] h151 fun x152 h153 =>
 kCall X 133 [x152, x149] h153 fun x154 h155 =>
 kExt x154 0 fun x156 =>
 kExt x154 1 fun _ =>
 kSA 2 x150 x156 h155 fun _ h159 =>
 dokS [h151, h153, h155, h159] ((fun h147 => kLA 6 x5 h147 fun x148 =>
 some (x148, h147), x149, 0, 1) :: []) (kLA 8 x110 h159 fun x160 =>
 kLA 2 x150 h159 fun x161 =>
 kB zr7 [(0, 8, x160), (8, 2, x161)] fun x162 =>
 kNew zr7 h159 fun x163 h164 =>
 kSA 15 x163 x162 h164 fun _ h166 =>
 kL1 x3 h166 fun x167 =>
 kNilc x167 fun x168 =>
 kFA 0 x168 fun x169 =>
 kL1 x169 h166 fun x170 =>
 kFA 10 x163 fun x171 =>
 kIA 5 1 x171 x170 fun x172 =>
 kS1 x172 qt h166 fun _ h174 =>
 kL1 x3 h174 fun x177 =>
 kL1 x3 h174 fun x180 =>
 kNilc x180 fun x181 =>
 kFA 309 x181 fun x182 =>
 kL1 x182 h174 fun x185 =>
 kLA 15 x163 h174 fun x188 =>
 kBS 15 zr7 1 [(0, 15, x188)] h174 fun x189 h190 =>
 kAp 15 72 x185 x189 h190 fun x191 h192 =>
 kNilc x177 fun x193 =>
 kFA 309 x193 fun x194 =>
 kS1 x194 x191 h192 fun _ h196 =>
 dokS [h190, h192, h196] ((fun h175 => kL1 x3 h175 fun x176 =>
 some (x176, h175), x177, 0, 1) :: []) (kL1 x3 h196 fun x199 =>
 kL1 x3 h196 fun x202 =>
 kNilc x202 fun x203 =>
 kFA 53 x203 fun x204 =>
 kL1 x204 h196 fun x207 =>
 kCall X 41 [x199, x207, (.fn 160 [] [x3, x110])] h196 fun x208 h209 =>
 dokS [h196, h209] [] (some (x208, h209))))))))))
theorem p114_ok (k : Nat) : p114 k = funcS k 2 lit114 := by kernel_rfl
def p119 (_ : Nat) : CtxK → List V → TH → R := fun _ => ap 1 (fun x0 h1 =>
 kNew zr3 h1 fun x2 h3 =>
 kB zr3 [(0, 1, qt), (4, 1, qt)] fun x4 =>
 kNew zr3 h3 fun x5 h6 =>
 kSA 11 x5 x4 h6 fun _ h8 =>
 kEqI false x0 (qb 8) fun x9 =>
 jc (α := Cur 24) (fun x10 x11 x12 x13 x14 x15 x16 x17 x18 x19 x20 x21 x22 x23 x24 x25 x26 x27 x28 x29 x30 x31 x32 _ h34 =>
 kLA 11 x13 h34 fun x36 =>
 kSA 11 x12 x36 h34 fun _ h38 =>
 rsS [.cell 2 true 11] [x10, x11, x12, x13, x14, x15, x16, x17, x18, x19, x20, x21, x22, x23, x24, x25, x26, x27, x28, x29, x30, x31, x32, x36] h38) fun j35 =>
 brS x9 (kFA 5 x5 fun x39 =>
 kS1 x39 qt h8 fun _ h41 =>
 j35 u u x2 x5 u u u u u u u u u u u u u u u u u u u u h41) (kEqI false x0 (qb 9) fun x42 =>
 jc (α := Cur 24) (fun _ _ x45 x46 _ _ _ _ _ _ _ _ _ _ _ _ _ _ _ _ _ _ _ _ h67 =>
 j35 u u x45 x46 u u u u u u u u u u u u u u u u u u u u h67) fun j68 =>
 brS x42 (kFA 6 x5 fun x69 =>
 kS1 x69 qt h8 fun _ h71 =>
 j68 u u x2 x5 u u u u u u u u u u u u u u u u u u u u h71) (kEqI false x0 (qb 10) fun x72 =>
 jc (α := Cur 24) (fun _ _ x75 x76 _ x78 _ _ _ _ _ _ x85 _ _ _ _ _ _ _ _ _ _ _ h97 =>
 jc (α := Cur 24) (fun _ _ x101 x102 _ _ _ _ _ _ _ _ _ _ _ _ _ _ _ _ _ _ _ _ h123 =>
 j68 u u x101 x102 u u u u u u u u u u u u u u u u u u u u h123) fun j124 =>
 brS x85 (kFA 8 x76 fun x125 =>
 kS1 x125 qt h97 fun _ h127 =>
 j124 u u x75 x76 u u u u u u u u u u u u u u u u u u u u h127) (kEqI false x78 (qb 11) fun x128 =>
 jc (α := Cur 24) (fun _ _ x131 x132 _ _ _ _ _ _ _ _ _ _ _ _ _ _ _ _ _ _ _ _ h153 =>
 j124 u u x131 x132 u u u u u u u u u u u u u u u u u u u u h153) fun j154 =>
 brS x128 (kFA 7 x76 fun x155 =>
 kS1 x155 qt h97 fun _ h157 =>
 j154 u u x75 x76 u u u u u u u u u u u u u u u u u u u u h157) (kEqI false x78 (qb 13) fun x158 =>
 jc (α := Cur 24) (fun _ _ x161 x162 _ _ _ _ _ _ _ _ _ _ _ _ _ _ _ x178 _ _ _ _ h183 =>
 jc (α := Cur 24) (fun _ _ x187 x188 _ _ _ _ _ _ _ _ _ _ _ _ _ _ _ _ _ _ _ _ h209 =>
 j154 u u x187 x188 u u u u u u u u u u u u u u u u u u u u h209) fun j210 =>
 brS x178 (kFA 9 x162 fun x211 =>
 kS1 x211 qt h183 fun _ h213 =>
 j210 u u x161 x162 u u u u u u u u u u u u u u u u u u u u h213) (j210 u u x161 x162 u u u u u u u u u u u u u u u u u u u u h183)) fun j184 =>
 brS x158 (j184 u u x75 x76 u u u u u u u u u u u u u u u x158 u u u u h97) (kEqI false x78 (qb 14) fun x214 =>
 j184 u u x75 x76 u u u u u u u u u u u u u u u x214 u u u u h97)))) fun j98 =>
 brS x72 (j98 u u x2 x5 u x0 u u u u u u x72 u u u u u u u u u u u h8) (kEqI false x0 (qb 12) fun x215 =>
 j98 u u x2 x5 u x0 u u u u u u x215 u u u u u u u u u u u h8))))
theorem p119_ok (k : Nat) : p119 k = funcS k 1 lit119 := by kernel_rfl
def p124 (_ : Nat) : CtxK → List V → TH → R := fun X => ap 1 (fun x0 h1 =>
 kCall X 164 [.nils, x0] h1 fun x2 h3 =>
 some (x2, h3))
theorem p124_ok (k : Nat) : p124 k = funcS k 1 lit124 := by kernel_rfl
def p129 (_ : Nat) : CtxK → List V → TH → R := fun _ => ap 1 (fun x0 h1 =>
 kNew (V.cellsR x0) h1 fun x2 h3 =>
 kNew zr0 h3 fun x4 h5 =>
 kFA 0 x2 fun x6 =>
 kL1 x6 h5 fun x7 =>
 kFA 40 x2 fun x8 =>
 kLA 8 x8 h5 fun x9 =>
 kB zr0 [(0, 1, x7), (40, 8, x9)] fun x10 =>
 kSA 49 x4 x10 h5 fun _ h12 =>
 rsS [.cell 2 true 49] [x0, x2, x4, x6, x7, x8, x9, x10] h12)
theorem p129_ok (k : Nat) : p129 k = funcS k 1 lit129 := by kernel_rfl
def p137 (_ : Nat) : CtxK → List V → TH → R := fun X => ap 2 (fun x0 x1 h2 =>
 kCall X 126 [x0, x1] h2 fun x3 h4 =>
 kBin .geq x3 (qi 0) fun x5 =>
 some (x5, h4))
theorem p137_ok (k : Nat) : p137 k = funcS k 2 lit137 := by kernel_rfl
def p153 (_ : Nat) : CtxK → List V → TH → R := fun _ => ap 1 (fun x0 h1 =>
 kBin .geq x0 (qw 65536) fun x2 =>
 jc (α := Cur 19) (fun x3 _ x5 _ _ _ _ _ _ _ _ _ _ _ _ _ _ _ _ h22 =>
 kBin .geq x3 (qw 256) fun x24 =>
 jc (α := Cur 19) (fun x25 _ x27 _ _ _ _ _ _ _ _ _ _ _ _ _ _ _ _ h44 =>
 kConv .u8 x25 fun x46 =>
 kP (indexE none (.str (bs [0, 1, 2, 2, 3, 3, 3, 3, 4, 4, 4, 4, 4, 4, 4, 4, 5, 5, 5, 5, 5, 5, 5, 5, 5, 5, 5, 5, 5, 5, 5, 5, 6, 6, 6, 6, 6, 6, 6, 6, 6, 6, 6, 6, 6, 6, 6, 6, 6, 6, 6, 6, 6, 6, 6, 6, 6, 6, 6, 6, 6, 6, 6, 6, 7, 7, 7, 7, 7, 7, 7, 7, 7, 7, 7, 7, 7, 7, 7, 7, 7, 7, 7, 7, 7, 7, 7, 7, 7, 7, 7, 7, 7, 7, 7, 7, 7, 7, 7, 7, 7, 7, 7, 7, 7, 7, 7, 7, 7, 7, 7, 7, 7, 7, 7, 7, 7, 7, 7, 7, 7, 7, 7, 7, 7, 7, 7, 7, 8, 8, 8, 8, 8, 8, 8, 8, 8, 8, 8, 8, 8, 8, 8, 8, 8, 8, 8, 8, 8, 8, 8, 8, 8, 8, 8, 8, 8, 8, 8, 8, 8, 8, 8, 8, 8, 8, 8, 8, 8, 8, 8, 8, 8, 8, 8, 8, 8, 8, 8, 8, 8, 8, 8, 8, 8, 8, 8, 8, 8, 8, 8, 8, 8, 8, 8, 8, 8, 8, 8, 8, 8, 8, 8, 8, 8, 8, 8, 8, 8, 8, 8, 8, 8, 8, 8, 8, 8, 8, 8, 8, 8, 8, 8, 8, 8, 8, 8, 8, 8, 8, 8, 8, 8, 8, 8, 8, 8, 8, 8, 8, 8, 8, 8, 8, 8, 8, 8, 8, 8, 8, 8, 8, 8, 8, 8, 8])) x46) fun x47 =>
 kConv .i64 x47 fun x48 =>
 kBin .add x27 x48 fun x49 =>
 some (x49, h44)) fun j45 =>
 brS x24 (kBin .shr x3 (.int .u64 8) fun x50 =>
 kBin .add x5 (qi 8) fun x51 =>
 j45 x50 u x51 u u u u u u u u u u u u u u u u h22) (j45 x3 u x5 u u u u u u u u u u u u u u u u h22)) fun j23 =>
 brS x2 (kBin .shr x0 (.int .u64 16) fun x52 =>
 j23 x52 u (qi 16) u u u u u u u u u u u u u u u u h1) (j23 x0 u (qi 0) u u u u u u u u u u u u u u u u h1))
theorem p153_ok (k : Nat) : p153 k = funcS k 1 lit153 := by kernel_rfl
def p157 (_ : Nat) : CtxK → List V → TH → R := fun X => ap 2 (fun x0 x1 h2 =>
 kNew (V.cellsR x0) h2 fun x3 h4 =>
 kNew (V.cellsR x1) h4 fun x5 h6 =>
 kNew zr0 h6 fun x7 h8 =>
 kLA 49 x3 h8 fun x11 =>
 kCall X 50 [x11] h8 fun x12 h13 =>
 kNot x12 fun x14 =>
 jc (α := V → TH → PD → R) (fun x17 h18 d19 =>
 jc (α := V → TH → PD → R) (fun x23 h24 d25 =>
 jc (α := JT) (fun x27 h28 =>
 jc (α := JT) (fun x30 h31 =>
 jc (α := JT) (fun x33 h34 =>
 kPick x14 qt x33 fun x36 =>
 dokS [h8, h24, h28, h34] d25 (brS x36 (kB zr0 [] fun x37 =>
 kSA 49 x7 x37 h34 fun _ h39 =>
 rsS [.cell 4 true 49, .tmp 5] [x0, x1, x3, x5, x7, (qi 10), x11, x12, x14, x14, x17, x27, x23, x30, x33, x36, x37, u, u, u, u, u, u, u, u, u, u, u, u, u, u] h39) (kFA 48 x3 fun x40 =>
 kL1 x40 h34 fun x43 =>
 kLA 8 x5 h34 fun x46 =>
 kBS 8 zr2 1 [(0, 8, x46)] h34 fun x47 h48 =>
 kCall X 94 [x43] h48 fun x49 h50 =>
 kAp 8 40 x49 x47 h50 fun x51 h52 =>
 kFA 48 x3 fun x53 =>
 kS1 x53 x51 h52 fun _ h55 =>
 dokS [h48, h50, h52, h55] ((fun h44 => kLA 8 x5 h44 fun x45 =>
 some (x45, h44), x46, 0, 1) :: []) (kLA 49 x3 h55 fun x56 =>
 kFA 48 x3 fun x57 =>
 kL1 x57 h55 fun x58 =>
 kLen x58 fun x59 =>
 kBin .sub x59 (qi 6) fun x60 =>
 kP (minE true x60 (qi 0)) fun x61 =>
 kCall X 52 [x56, x61] h55 fun x62 h63 =>
 kSA 49 x7 x62 h63 fun _ h65 =>
 rsS [.cell 4 true 49, .tmp 5] [x0, x1, x3, x5, x7, (qi 0), x11, x12, x14, x14, x17, x27, x23, x30, x33, x36, u, x40, x43, x49, x46, x47, x51, x53, x56, x57, x58, x59, x60, x61, x62] h65)))) fun j35 =>
 wtS x14 false (kNot x30 fun x66 =>
 j35 x66 h31) (j35 u h31)) fun j32 =>
 wtS x14 false (kCall X 92 [x27, x23] h28 fun x67 h68 =>
 j32 x67 h68) (j32 u h28)) fun j29 =>
 wtS x14 false (kCall X 51 [x17] h24 fun x69 h70 =>
 j29 x69 h70) (j29 u h24)) fun j26 =>
 wtS x14 false (kLA 8 x5 h18 fun x71 =>
 j26 x71 h18 ((fun h21 => kLA 8 x5 h21 fun x22 =>
 some (x22, h21), x71, 1, 2) :: d19)) (j26 u h18 d19)) fun j20 =>
 wtS x14 false (kLA 49 x3 h13 fun x72 =>
 j20 x72 h13 []) (j20 u h13 []))
theorem p157_ok (k : Nat) : p157 k = funcS k 2 lit157 := by kernel_rfl
def p165 (_ : Nat) : CtxK → List V → TH → R := fun X => ap 2 (fun x0 x1 h2 =>
 kNew (V.cellsR x0) h2 fun x3 h4 =>
 kNew zr2 h4 fun x5 h6 =>
 kLA 49 x3 h6 fun x7 =>
 kCall X 50 [x7] h6 fun x8 h9 =>
 kNot x8 fun x10 =>
 jc (α := JT) (fun x11 h12 =>
 jc (α := JT) (fun x14 h15 =>
 jc (α := JT) (fun x17 h18 =>
 jc (α := JT) (fun x20 h21 =>
 jc (α := JT) (fun x23 h24 =>
 kPick x10 qt x23 fun x26 =>
 jc (α := JT) (fun x27 h28 =>
 jc (α := JT) (fun x30 h31 =>
 jc (α := JT) (fun x33 h34 =>
 jc (α := JT) (fun x36 h37 =>
 kPick x26 qt x36 fun x39 =>
 brS x39 (kB zr2 [] fun x40 =>
 kSA 8 x5 x40 h37 fun _ h42 =>
 rsS [.cell 4 true 8, .tmp 5] [x0, x1, x3, u, x5, qf, x7, x8, x10, x10, x11, x14, x17, x20, x23, x26, x26, x27, x30, x33, x36, x39, x40, u, u, u, u, u, u, u, u] h42) (kFA 48 x3 fun x43 =>
 kL1 x43 h37 fun x46 =>
 kLA 49 x3 h37 fun x49 =>
 kCall X 190 [x49, x1] h37 fun x50 h51 =>
 kBin .sub x50 (qi 1) fun x52 =>
 kIS 8 x46 x52 fun x53 =>
 kLA 8 x53 h51 fun x56 =>
 kSA 8 x5 x56 h51 fun _ h58 =>
 dokS [h37, h51, h58] ((fun h44 => kL1 x43 h44 fun x45 =>
 some (x45, h44), x46, 0, 1) :: []) (rsS [.cell 4 true 8, .tmp 5] [x0, x1, x3, u, x5, qt, x7, x8, x10, x10, x11, x14, x17, x20, x23, x26, x26, x27, x30, x33, x36, x39, u, x43, x46, x49, x1, x50, x52, x53, x56] h58))) fun j38 =>
 wtS x26 false (kBin .lss x33 (qi 1) fun x59 =>
 j38 x59 h34) (j38 u h34)) fun j35 =>
 wtS x26 false (kCall X 190 [x27, x30] h31 fun x60 h61 =>
 j35 x60 h61) (j35 u h31)) fun j32 =>
 wtS x26 false (j32 x1 h28) (j32 u h28)) fun j29 =>
 wtS x26 false (kLA 49 x3 h24 fun x62 =>
 j29 x62 h24) (j29 u h24)) fun j25 =>
 wtS x10 false (kBin .leq x11 x20 fun x63 =>
 j25 x63 h21) (j25 u h21)) fun j22 =>
 wtS x10 false (kL1 x17 h18 fun x64 =>
 j22 x64 h18) (j22 u h18)) fun j19 =>
 wtS x10 false (kFA 1 x14 fun x65 =>
 j19 x65 h15) (j19 u h15)) fun j16 =>
 wtS x10 false (kFA 40 x3 fun x66 =>
 j16 x66 h12) (j16 u h12)) fun j13 =>
 wtS x10 false (j13 x1 h9) (j13 u h9))
theorem p165_ok (k : Nat) : p165 k = funcS k 2 lit165 := by kernel_rfl
def p171 (k : Nat) : CtxK → List V → TH → R := fun X => ap 2 (fun x0 x1 h2 =>
 kBin .geq x1 (qb 4) fun x3 =>
 brS x3 (some (.nils, h2)) (kNilc x0 fun x4 =>
 kFA 3 x4 fun x5 =>
 kIA 4 1 x5 x1 fun x6 =>
 kL1 x6 h2 fun x7 =>
 kCall X 192 [x7] h2 fun x8 h9 =>
 kLen x8 fun x10 =>
 lp (α := Cur 33) (zN 33) (fun n45 _ _ _ _ _ x16 _ _ _ _ _ _ _ _ _ _ _ x28 x29 x30 _ _ _ _ _ _ _ _ _ _ _ _ _ h44 =>
 kBin .lss x30 x29 fun x46 =>
 brS x46 (kIS 2 x28 x30 fun x47 =>
 kLA 2 x47 h44 fun x48 =>
 kNew [(qw 0), .nils] h44 fun x49 h50 =>
 kSA 2 x49 x48 h50 fun _ h52 =>
 kFA 1 x49 fun x53 =>
 kL1 x53 h52 fun x54 =>
 kCall X 34 [x54] h52 fun x55 h56 =>
 kIS 2 x16 x30 fun x57 =>
 kFA 1 x57 fun x58 =>
 kS1 x58 x55 h56 fun _ h60 =>
 kBin .add x30 (qi 1) fun x61 =>
 n45 u u u u u x16 u u u u u u u u u u u x28 x29 x61 u u u u u u u u u u u u u h60) (some (x16, h44))) k u u u u u x8 u u u u u u u u u u u x8 x10 (qi 0) u u u u u u u u u u u u u h9))
theorem p171_ok (k : Nat) : p171 k = funcS k 2 lit171 := by kernel_rfl
def p175 (k : Nat) : CtxK → List V → TH → R := fun X => ap 2 (fun x0 x1 h2 =>
 kLen x0 fun x3 =>
 lp (α := Cur 19) (zN 19) (fun n24 x4 x5 _ _ _ _ _ x11 x12 _ _ _ _ _ _ _ _ _ _ h23 =>
 kBin .lss x12 x11 fun x25 =>
 brS x25 (kIS 49 x4 x12 fun x26 =>
 kLA 49 x26 h23 fun x27 =>
 kCv X x5 [x27] h23 fun x28 h29 =>
 brS x28 (some (x12, h29)) (kBin .add x12 (qi 1) fun x30 =>
 n24 x4 x5 u u u u u x11 x30 u u u u u u u u u u h29)) (some ((.int .i64 (-1)), h23))) k x0 x1 u u u u u x3 (qi 0) u u u u u u u u u u h2)
theorem p175_ok (k : Nat) : p175 k = funcS k 2 lit175 := by kernel_rfl
def p185 (_ : Nat) : CtxK → List V → TH → R := fun X => ap 2 (fun x0 x1 h2 =>
 kNew (V.cellsR x0) h2 fun x3 h4 =>
 kNew zr0 h4 fun x5 h6 =>
 kLA 49 x3 h6 fun x7 =>
 kCall X 50 [x7] h6 fun x8 h9 =>
 kNot x8 fun x10 =>
 brS x10 (kB zr0 [] fun x11 =>
 kSA 49 x5 x11 h9 fun _ h13 =>
 rsS [.cell 4 true 49, .tmp 5] [x0, x1, x3, u, x5, (qi 10), x10, x7, x8, x10, x11, u, u, u, u, u, u, u, u, u, u, u, u, u, u, u] h13) (kLA 49 x3 h9 fun x14 =>
 kCall X 190 [x14, x1] h9 fun x15 h16 =>
 kBin .lss x15 (qi 0) fun x17 =>
 brS x17 (kB zr0 [] fun x18 =>
 kSA 49 x5 x18 h16 fun _ h20 =>
 rsS [.cell 4 true 49, .tmp 5] [x0, x1, x3, u, x5, (qi 141), x10, x7, x8, x10, u, x17, x14, x1, x15, x17, x18, u, u, u, u, u, u, u, u, u] h20) (kFA 48 x3 fun x21 =>
 kL1 x21 h16 fun x24 =>
 kLA 49 x3 h16 fun x27 =>
 kCall X 190 [x27, x1] h16 fun x28 h29 =>
 kP (sliceE 8 x24 none (some x28)) fun x30 =>
 kCall X 94 [x30] h29 fun x31 h32 =>
 kFA 48 x3 fun x33 =>
 kS1 x33 x31 h32 fun _ h35 =>
 dokS [h16, h29, h32, h35] ((fun h22 => kL1 x21 h22 fun x23 =>
 some (x23, h22), x24, 0, 1) :: []) (kLA 49 x3 h35 fun x36 =>
 kSA 49 x5 x36 h35 fun _ h38 =>
 rsS [.cell 4 true 49, .tmp 5] [x0, x1, x3, u, x5, (qi 0), x10, x7, x8, x10, u, x17, x14, x1, x15, x17, u, x21, x24, x27, x1, x28, x30, x31, x33, x36] h38))))
theorem p185_ok (k : Nat) : p185 k = funcS k 2 lit185 := by kernel_rfl
def p191 (_ : Nat) : CtxK → List V → TH → R := fun X => ap 2 (fun x0 x1 h2 =>
 kP (lenV true x0) fun x3 =>
 kBin .sub x1 x3 fun x4 =>
 kP (minE true x4 (qi 0)) fun x5 =>
 kCall X 200 [(.str (bs [0])), x5] h2 fun x6 h7 =>
 kBin .add x0 x6 fun x8 =>
 some (x8, h7))
theorem p191_ok (k : Nat) : p191 k = funcS k 2 lit191 := by kernel_rfl
def p195 (_ : Nat) : CtxK → List V → TH → R := fun _ => ap 1 (fun x0 h1 =>
 kNew (V.cellsR x0) h1 fun x2 h3 =>
 kFA 1 x2 fun x4 =>
 kL1 x4 h3 fun x5 =>
 kBin .gtr x5 (qi 0) fun x6 =>
 some (x6, h3))
theorem p195_ok (k : Nat) : p195 k = funcS k 1 lit195 := by kernel_rfl
def p201 (_ : Nat) : CtxK → List V → TH → R := fun X => ap 4 (fun x0 x1 x2 x3 h4 =>
 kConv .u32 x0 fun x5 =>
 kConv .u32 x1 fun x6 =>
 kConv .u32 x2 fun x7 =>
 kCall X 212 [x5, x6, x7] h4 fun x8 h9 =>
 kCall X 211 [x8, x3] h9 fun x10 h11 =>
 some (x10, h11))
theorem p201_ok (k : Nat) : p201 k = funcS k 4 lit201 := by kernel_rfl
def p202 (k : Nat) : CtxK → List V → TH → R := fun _ => ap 1 (fun x0 h1 =>
 kLen x0 fun x2 =>
 lp (α := Cur 26) (zN 26) (fun n30 x3 _ _ x6 _ _ x9 x10 x11 _ _ _ _ _ _ _ _ _ _ _ _ _ _ _ _ _ h29 =>
 kBin .lss x11 x10 fun x31 =>
 brS x31 (kIS 1 x9 x11 fun x32 =>
 kL1 x32 h29 fun x33 =>
 kBin .lss x6 (qi 0) fun x34 =>
 jc (α := JT) (fun x35 h36 =>
 jc (α := JT) (fun x38 h39 =>
 jc (α := JT) (fun x41 h42 =>
 jc (α := JT) (fun x44 h45 =>
 jc (α := JT) (fun x47 h48 =>
 jc (α := JT) (fun x50 h51 =>
 kPick x34 qt x50 fun x53 =>
 jc (α := Cur 26) (fun x54 _ _ x57 _ _ x60 x61 x62 _ _ _ _ _ _ _ _ _ _ _ _ _ _ _ _ _ h80 =>
 kBin .add x62 (qi 1) fun x82 =>
 n30 x54 u u x57 u u x60 x61 x82 u u u u u u u u u u u u u u u u u h80) fun j81 =>
 brS x53 (j81 x3 u u x11 u u x9 x10 x11 u u u u u u u u u u u u u u u u u h51) (j81 x3 u u x6 u u x9 x10 x11 u u u u u u u u u u u u u u u u u h51)) fun j52 =>
 wtS x34 false (kBin .gtr x35 x47 fun x83 =>
 j52 x83 h48) (j52 u h48)) fun j49 =>
 wtS x34 false (kL1 x44 h45 fun x84 =>
 j49 x84 h45) (j49 u h45)) fun j46 =>
 wtS x34 false (kIS 1 x38 x41 fun x85 =>
 j46 x85 h42) (j46 u h42)) fun j43 =>
 wtS x34 false (j43 x6 h39) (j43 u h39)) fun j40 =>
 wtS x34 false (j40 x3 h36) (j40 u h36)) fun j37 =>
 wtS x34 false (j37 x33 h29) (j37 u h29)) (some (x6, h29))) k x0 u u (.int .i64 (-1)) u u x0 x2 (qi 0) u u u u u u u u u u u u u u u u u h1)
theorem p202_ok (k : Nat) : p202 k = funcS k 1 lit202 := by kernel_rfl
def p203 (_ : Nat) : CtxK → List V → TH → R := fun _ => ap 3 (fun x0 x1 x2 h3 =>
 kL1 x1 h3 fun x6 =>
 kEqI false x0 x6 fun x7 =>
 jc (α := V → TH → PD → R) (fun x10 h11 d12 =>
 jc (α := JT) (fun x14 h15 =>
 jc (α := JT) (fun x17 h18 =>
 jc (α := JT) (fun x20 h21 =>
 jc (α := JT) (fun x23 h24 =>
 jc (α := JT) (fun x26 h27 =>
 jc (α := JT) (fun x29 h30 =>
 jc (α := V → TH → PD → R) (fun x34 h35 d36 =>
 jc (α := V → TH → PD → R) (fun x40 h41 d42 =>
 jc (α := V → TH → PD → R) (fun x46 h47 d48 =>
 jc (α := JT) (fun x50 h51 =>
 jc (α := JT) (fun x53 h54 =>
 jc (α := JT) (fun x56 h57 =>
 jc (α := JT) (fun x59 h60 =>
 jc (α := JT) (fun x62 h63 =>
 jc (α := V → TH → PD → R) (fun x67 h68 d69 =>
 jc (α := JT) (fun x71 h72 =>
 kPick x7 qt x71 fun x74 =>
 dokS [h72] d69 (some (x74, h72))) fun j73 =>
 wtS x7 false (kEqI false x34 x67 fun x75 =>
 j73 x75 h68) (j73 u h68)) fun j70 =>
 wtS x7 false (kL1 x62 h63 fun x76 =>
 j70 x76 h63 d48) (j70 u h63 d48)) fun j64 =>
 wtS x7 false (kFA 2 x59 fun x77 =>
 j64 x77 h60) (j64 u h60)) fun j61 =>
 wtS x7 false (kIA 5 3 x56 x46 fun x78 =>
 j61 x78 h57) (j61 u h57)) fun j58 =>
 wtS x7 false (kFA 1 x53 fun x79 =>
 j58 x79 h54) (j58 u h54)) fun j55 =>
 wtS x7 false (kFA 0 x50 fun x80 =>
 j55 x80 h51) (j55 u h51)) fun j52 =>
 wtS x7 false (kNilc x40 fun x81 =>
 j52 x81 h47) (j52 u h47)) fun j49 =>
 wtS x7 false (kL1 x1 h41 fun x82 =>
 j49 x82 h41 d42) (j49 u h41 d42)) fun j43 =>
 wtS x7 false (kL1 x2 h35 fun x83 =>
 j43 x83 h35 d36) (j43 u h35 d36)) fun j37 =>
 wtS x7 false (kL1 x29 h30 fun x84 =>
 j37 x84 h30 d12) (j37 u h30 d12)) fun j31 =>
 wtS x7 false (kFA 2 x26 fun x85 =>
 j31 x85 h27) (j31 u h27)) fun j28 =>
 wtS x7 false (kIA 5 3 x23 x14 fun x86 =>
 j28 x86 h24) (j28 u h24)) fun j25 =>
 wtS x7 false (kFA 1 x20 fun x87 =>
 j25 x87 h21) (j25 u h21)) fun j22 =>
 wtS x7 false (kFA 0 x17 fun x88 =>
 j22 x88 h18) (j22 u h18)) fun j19 =>
 wtS x7 false (kNilc x10 fun x89 =>
 j19 x89 h15) (j19 u h15)) fun j16 =>
 wtS x7 false (j16 x0 h11) (j16 u h11)) fun j13 =>
 wtS x7 false (kL1 x2 h3 fun x90 =>
 j13 x90 h3 []) (j13 u h3 []))
theorem p203_ok (k : Nat) : p203 k = funcS k 3 lit203 := by kernel_rfl
def p211 (_ : Nat) : CtxK → List V → TH → R := fun X => ap 2 (fun x0 x1 h2 =>
 kP (minE true x1 (qi 1)) fun x3 =>
 kP (minE false x3 (qi 16)) fun x4 =>
 kBin .rem x0 (qw 65536) fun x5 =>
 kBin .add x5 (qw 1) fun x6 =>
 kCall X 222 [x6] h2 fun x7 h8 =>
 kBin .sub (qi 1048576) x7 fun x9 =>
 kBin .mul x9 (qi 4096) fun x10 =>
 kBin .quo x10 x4 fun x11 =>
 kP (unE .neg x11) fun x12 =>
 some (x12, h8))
theorem p211_ok (k : Nat) : p211 k = funcS k 2 lit211 := by kernel_rfl
def p212 (_ : Nat) : CtxK → List V → TH → R := fun X => ap 3 (fun x0 x1 x2 h3 =>
 kConv .u64 x0 fun x4 =>
 kCall X 82 [x4] h3 fun x5 h6 =>
 kConv .u64 x1 fun x7 =>
 kBin .add x5 x7 fun x8 =>
 kCall X 82 [x8] h6 fun x9 h10 =>
 kConv .u64 x2 fun x11 =>
 kBin .add x9 x11 fun x12 =>
 kCall X 82 [x12] h10 fun x13 h14 =>
 kConv .u32 x13 fun x15 =>
 some (x15, h14))
theorem p212_ok (k : Nat) : p212 k = funcS k 3 lit212 := by kernel_rfl
end
end Go.PE
