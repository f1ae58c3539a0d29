/- The same functions with names for their slots (part 4 of 4), printed by a program of our own: each is what the evaluator's law says of the literal. -/
import Derived.Test.YtcgjkbnijnefjaaGreatDoorSrL3
import Derived.KernelRfl
namespace Go.PE
set_option maxRecDepth 100000
noncomputable section
def p12 (_ : Nat) : CtxK → List V → TH → R := fun X => ap 2 (fun x0 x1 h2 =>
 kCall X 35 [x0, x1] h2 fun x3 h4 =>
 kP (fieldE false 1 1 x3) fun x5 =>
 kCall X 34 [x5] h4 fun x6 h7 =>
 some (x6, h7))
theorem p12_ok (k : Nat) : p12 k = funcS k 2 lit12 := by kernel_rfl
def p24 (_ : Nat) : CtxK → List V → TH → R := fun X => ap 3 (fun x0 x1 x2 h3 =>
 kNew (V.cellsR x2) h3 fun x4 h5 =>
 kLA 49 x4 h5 fun x6 =>
 kCall X 36 [x6] h5 fun x7 h8 =>
 kB zr6 [(0, 1, x0), (2, 1, x1), (3, 49, x7)] fun x9 =>
 kNew (V.cellsR x9) h8 fun x10 h11 =>
 some (x10, h11))
theorem p24_ok (k : Nat) : p24 k = funcS k 3 lit24 := by kernel_rfl
def p25 (_ : Nat) : CtxK → List V → TH → R := fun X => ap 2 (fun x0 x1 h2 =>
 kNilc x0 fun x3 =>
 kFA 2 x3 fun x4 =>
 kL1 x4 h2 fun x5 =>
 kCall X 53 [x1, x5] h2 fun x6 h7 =>
 kEqI false x6 (qw 0) fun x8 =>
 jc (α := JT) (fun x9 h10 =>
 jc (α := JT) (fun x12 h13 =>
 jc (α := JT) (fun x15 h16 =>
 jc (α := JT) (fun x18 h19 =>
 jc (α := JT) (fun x21 h22 =>
 jc (α := JT) (fun x24 h25 =>
 kPick x8 qt x24 fun x27 =>
 brS x27 (some (.nils, h25)) (kNilc x0 fun x28 =>
 kFA 0 x28 fun x29 =>
 kL1 x29 h25 fun x32 =>
 kNilc x0 fun x33 =>
 kFA 2 x33 fun x34 =>
 kL1 x34 h25 fun x37 =>
 kNilc x0 fun x38 =>
 kFA 3 x38 fun x39 =>
 kLA 49 x39 h25 fun x42 =>
 kNilc x0 fun x43 =>
 kFA 2 x43 fun x44 =>
 kL1 x44 h25 fun x47 =>
 kCall X 12 [x1, x47] h25 fun x48 h49 =>
 kB zr6 [(0, 1, x32), (2, 1, x37), (3, 49, x42), (52, 1, x6), (53, 1, x48), (1, 1, (qi 1))] fun x50 =>
 kNilc x0 fun x51 =>
 kSA 352 x51 x50 h49 fun _ h53 =>
 dokS [h25, h49, h53] ((fun h40 => kLA 49 x39 h40 fun x41 =>
 some (x41, h40), x42, 0, 1) :: ((fun h35 => kL1 x34 h35 fun x36 =>
 some (x36, h35), x37, 0, 1) :: ((fun h30 => kL1 x29 h30 fun x31 =>
 some (x31, h30), x32, 0, 1) :: []))) (kNilc x0 fun x54 =>
 kFA 53 x54 fun x55 =>
 kL1 x55 h53 fun x58 =>
 kNilc x0 fun x59 =>
 kFA 0 x59 fun x60 =>
 kL1 x60 h53 fun x63 =>
 kCall X 54 [x58, x63] h53 fun x64 h65 =>
 kNot x64 fun x66 =>
 dokS [h53, h65] [] (jc (α := Cur 107) (fun _ _ _ _ _ _ _ _ _ _ _ _ _ _ _ _ _ _ _ _ _ _ _ _ _ _ _ _ _ _ _ _ _ _ _ _ _ _ _ _ _ _ _ _ _ _ _ _ _ _ _ _ _ _ _ _ _ _ _ _ _ _ _ _ _ _ _ _ _ _ _ _ _ _ _ _ _ _ _ _ _ _ _ _ _ _ _ _ _ _ _ _ _ _ _ _ _ _ _ _ _ _ _ _ _ _ _ h174 =>
 some (.nils, h174)) fun j175 =>
 brS x66 (kNilc x0 fun x176 =>
 kFA 1 x176 fun x177 =>
 kS1 x177 (qi 0) h65 fun _ h179 =>
 j175 u u u u u u u u u u u u u u u u u u u u u u u u u u u u u u u u u u u u u u u u u u u u u u u u u u u u u u u u u u u u u u u u u u u u u u u u u u u u u u u u u u u u u u u u u u u u u u u u u u u u u u u u u u u h179) (kNilc x0 fun x180 =>
 kFA 0 x180 fun x181 =>
 kL1 x181 h65 fun x184 =>
 kCall X 55 [x0] h65 fun x185 h186 =>
 kEqI false x185 x184 fun x187 =>
 jc (α := JT) (fun x188 h189 =>
 jc (α := JT) (fun x191 h192 =>
 jc (α := JT) (fun x194 h195 =>
 jc (α := V → TH → PD → R) (fun x199 h200 d201 =>
 jc (α := JT) (fun x203 h204 =>
 jc (α := JT) (fun x206 h207 =>
 kPick x187 x206 qf fun x209 =>
 dokS [h65, h207] d201 (brS x209 (kNilc x0 fun x210 =>
 kFA 1 x210 fun x211 =>
 kS1 x211 (qi 2) h207 fun _ h213 =>
 kNilc x0 fun x214 =>
 kFA 0 x214 fun x215 =>
 kL1 x215 h213 fun x218 =>
 kNilc x0 fun x219 =>
 kFA 0 x219 fun x220 =>
 kL1 x220 h213 fun x223 =>
 kNilc x0 fun x224 =>
 kFA 3 x224 fun x225 =>
 kLA 49 x225 h213 fun x228 =>
 kNilc x0 fun x229 =>
 kFA 54 x229 fun x230 =>
 kIA 5 1 x230 x218 fun x231 =>
 kNilc x0 fun x232 =>
 kFA 64 x232 fun x233 =>
 kS1 x231 qt h213 fun _ h235 =>
 kIA 5 49 x233 x223 fun x236 =>
 kSA 49 x236 x228 h235 fun _ h238 =>
 dokS [h213, h235, h238] [] (kCall X 43 [x1] h238 fun x239 h240 =>
 kCall X 41 [x0, x239, (.fn 44 [x0] [])] h240 fun x241 h242 =>
 kCall X 56 [x0, x1] h242 fun x243 h244 =>
 kAp 131 1400 x241 x243 h244 fun x245 h246 =>
 some (x245, h246))) (j175 u u u u u u u u u u u u u u u u u u u u u u u u u u u u u u u u u u u u u u u u u u u u u u u u u u u u u u u u u u u u u u u u u u u u u u u u u u u u u u u u u u u u u u u u u u u u u u u u u u u u u u u u u u u h207))) fun j208 =>
 wtS x187 true (kBin .geq x203 (qi 2) fun x247 =>
 j208 x247 h204) (j208 u h204)) fun j205 =>
 wtS x187 true (kLen x199 fun x248 =>
 j205 x248 h200) (j205 u h200)) fun j202 =>
 wtS x187 true (kL1 x194 h195 fun x249 =>
 j202 x249 h195 ((fun h182 => kL1 x181 h182 fun x183 =>
 some (x183, h182), x184, 0, 1) :: [])) (j202 u h195 ((fun h182 => kL1 x181 h182 fun x183 =>
 some (x183, h182), x184, 0, 1) :: []))) fun j196 =>
 wtS x187 true (kFA 53 x191 fun x250 =>
 j196 x250 h192) (j196 u h192)) fun j193 =>
 wtS x187 true (kNilc x188 fun x251 =>
 j193 x251 h189) (j193 u h189)) fun j190 =>
 wtS x187 true (j190 x0 h186) (j190 u h186)))))) fun j26 =>
 wtS x8 false (kEqI false x9 x21 fun x252 =>
 j26 x252 h22) (j26 u h22)) fun j23 =>
 wtS x8 false (kL1 x18 h19 fun x253 =>
 j23 x253 h19) (j23 u h19)) fun j20 =>
 wtS x8 false (kFA 52 x15 fun x254 =>
 j20 x254 h16) (j20 u h16)) fun j17 =>
 wtS x8 false (kNilc x12 fun x255 =>
 j17 x255 h13) (j17 u h13)) fun j14 =>
 wtS x8 false (j14 x0 h10) (j14 u h10)) fun j11 =>
 wtS x8 false (j11 x6 h7) (j11 u h7))
theorem p25_ok (k : Nat) : p25 k = funcS k 2 lit25 := by kernel_rfl
def p29 (_ : Nat) : CtxK → List V → TH → R := fun X => ap 0 (fun  h0 =>
 kMM h0 fun x1 h2 =>
 kMM h2 fun x3 h4 =>
 kB [.nilmap, .nilmap, (qw 0), .nils, .nils, .nils, .nils] [(0, 1, x1), (1, 1, x3)] fun x5 =>
 kNew (V.cellsR x5) h4 fun x6 h7 =>
 kCall X 60 [] h7 fun x8 h9 =>
 kCall X 59 [x6, x8] h9 fun _ h11 =>
 some (x6, h11))
theorem p29_ok (k : Nat) : p29 k = funcS k 0 lit29 := by kernel_rfl
def p30 (_ : Nat) : CtxK → List V → TH → R := fun _ => ap 1 (fun x0 h1 =>
 kNilc x0 fun x2 =>
 kFA 52 x2 fun x3 =>
 kL1 x3 h1 fun x4 =>
 some (x4, h1))
theorem p30_ok (k : Nat) : p30 k = funcS k 1 lit30 := by kernel_rfl
def p31 (k : Nat) : CtxK → List V → TH → R := fun X => ap 1 (fun x0 h1 =>
 kNilc x0 fun x2 =>
 kFA 1 x2 fun x3 =>
 kL1 x3 h1 fun x4 =>
 kEqI false x4 (qi 2) fun x5 =>
 jc (α := Cur 78) (fun x6 _ _ x9 _ _ _ _ _ _ _ _ _ _ _ _ _ _ _ _ _ _ _ _ _ _ _ _ _ _ _ _ _ _ _ _ _ _ _ _ _ _ _ _ _ _ _ _ _ _ _ _ _ _ _ _ _ _ _ _ _ _ _ _ _ _ _ _ _ _ _ _ _ _ _ _ _ _ h84 =>
 kNilc x6 fun x86 =>
 kFA 309 x86 fun x87 =>
 kL1 x87 h84 fun x88 =>
 kLen x88 fun x89 =>
 lp (α := Cur 78) (zN 78) (fun n169 x90 _ _ x93 _ _ _ _ _ _ _ _ _ _ _ _ _ _ _ _ _ _ _ _ _ _ _ _ _ _ _ _ _ _ _ _ _ x127 x128 x129 _ _ _ _ _ _ _ _ _ _ _ _ _ _ _ _ _ _ _ _ _ _ _ _ _ _ _ _ _ _ _ _ _ _ _ _ _ _ h168 =>
 kBin .lss x129 x128 fun x170 =>
 brS x170 (kIS 15 x127 x129 fun x171 =>
 kLA 15 x171 h168 fun x172 =>
 kNew [(qw 0), (qw 0), (qb 0), (qw 0), (qb 0), (qb 0), (qb 0), qs, (qb 0), qs, qf, qf, qf, qf, qf] h168 fun x173 h174 =>
 kSA 15 x173 x172 h174 fun _ h176 =>
 kNilc x90 fun x177 =>
 kFA 53 x177 fun x178 =>
 kL1 x178 h176 fun x181 =>
 kFA 10 x173 fun x182 =>
 kLA 5 x182 h176 fun x185 =>
 kCall X 42 [x181, x185] h176 fun x186 h187 =>
 kAp 1 8 x93 x186 h187 fun x188 h189 =>
 dokS [h176, h187, h189] [] (kBin .add x129 (qi 1) fun x190 =>
 n169 x90 u u x188 u u u u u u u u u u u u u u u u u u u u u u u u u u u u u u u u u x127 x128 x190 u u u u u u u u u u u u u u u u u u u u u u u u u u u u u u u u u u u u u u h189)) (kNilc x90 fun x191 =>
 kFA 310 x191 fun x192 =>
 kLA 42 x192 h168 fun x193 =>
 lp (α := Cur 78) (zN 78) (fun n273 x194 _ _ x197 _ _ _ _ _ _ _ _ _ _ _ _ _ _ _ _ _ _ _ _ _ _ _ _ _ _ _ _ _ _ _ _ _ _ _ _ _ _ _ _ _ _ _ _ _ _ _ _ _ _ _ _ x250 x251 _ _ _ _ _ _ _ _ _ _ _ _ _ _ _ _ _ _ _ _ h272 =>
 kBin .lss x251 (qi 3) fun x274 =>
 brS x274 (kP (indexE (some (3, 14, true)) x250 x251) fun x275 =>
 kNew [(qb 0), (qw 0), (qb 0), (qb 0), (qb 0), qs, (qb 0), qs, (qw 0), qf, qf, qf, qf, qf] h272 fun x276 h277 =>
 kSA 14 x276 x275 h277 fun _ h279 =>
 kFA 0 x276 fun x280 =>
 kFA 1 x280 fun x281 =>
 kL1 x281 h279 fun x282 =>
 kBin .gtr x282 (qw 0) fun x283 =>
 jc (α := Cur 78) (fun x284 _ _ x287 _ _ _ _ _ _ _ _ _ _ _ _ _ _ _ _ _ _ _ _ _ _ _ _ _ _ _ _ _ _ _ _ _ _ _ _ _ _ _ _ _ _ _ _ _ _ _ _ _ _ _ _ x340 x341 _ _ _ _ _ _ _ _ _ _ _ _ _ _ _ _ _ _ _ _ h362 =>
 kBin .add x341 (qi 1) fun x364 =>
 n273 x284 u u x287 u u u u u u u u u u u u u u u u u u u u u u u u u u u u u u u u u u u u u u u u u u u u u u u u u u u u x340 x364 u u u u u u u u u u u u u u u u u u u u h362) fun j363 =>
 brS x283 (kNilc x194 fun x365 =>
 kFA 53 x365 fun x366 =>
 kL1 x366 h279 fun x369 =>
 kFA 9 x276 fun x370 =>
 kLA 5 x370 h279 fun x373 =>
 kCall X 42 [x369, x373] h279 fun x374 h375 =>
 kAp 1 8 x197 x374 h375 fun x376 h377 =>
 dokS [h279, h375, h377] [] (j363 x194 u u x376 u u u u u u u u u u u u u u u u u u u u u u u u u u u u u u u u u u u u u u u u u u u u u u u u u u u u x250 x251 u u u u u u u u u u u u u u u u u u u u h377)) (j363 x194 u u x197 u u u u u u u u u u u u u u u u u u u u u u u u u u u u u u u u u u u u u u u u u u u u u u u u u u u u x250 x251 u u u u u u u u u u u u u u u u u u u u h279)) (kCall X 61 [x197] h272 fun _ h379 =>
 kCall X 62 [x197] h379 fun x380 h381 =>
 some (x380, h381))) k x90 u u x93 u u u u u u u u u u u u u u u u u u u u u u u u u u u u u u u u u u u u u u u u u u u u u u u u u u u u x193 (qi 0) u u u u u u u u u u u u u u u u u u u u h168)) k x6 u u x9 u u u u u u u u u u u u u u u u u u u u u u u u u u u u u u u u u x88 x89 (qi 0) u u u u u u u u u u u u u u u u u u u u u u u u u u u u u u u u u u u u u u h84) fun j85 =>
 brS x5 (kNilc x0 fun x382 =>
 kFA 53 x382 fun x383 =>
 kL1 x383 h1 fun x386 =>
 kNilc x0 fun x387 =>
 kFA 54 x387 fun x388 =>
 kLA 5 x388 h1 fun x391 =>
 kCall X 42 [x386, x391] h1 fun x392 h393 =>
 dokS [h1, h393] [] (j85 x0 u u x392 u u u u u u u u u u u u u u u u u u u u u u u u u u u u u u u u u u u u u u u u u u u u u u u u u u u u u u u u u u u u u u u u u u u u u u u u u u h393)) (kEqI false x4 (qi 3) fun x394 =>
 jc (α := Cur 78) (fun x395 _ _ x398 _ _ _ _ _ _ _ _ _ _ _ _ _ _ _ _ _ _ _ _ _ _ _ _ _ _ _ _ _ _ _ _ _ _ _ _ _ _ _ _ _ _ _ _ _ _ _ _ _ _ _ _ _ _ _ _ _ _ _ _ _ _ _ _ _ _ _ _ _ _ _ _ _ _ h473 =>
 j85 x395 u u x398 u u u u u u u u u u u u u u u u u u u u u u u u u u u u u u u u u u u u u u u u u u u u u u u u u u u u u u u u u u u u u u u u u u u u u u u u u u h473) fun j474 =>
 brS x394 (kNilc x0 fun x475 =>
 kFA 53 x475 fun x476 =>
 kL1 x476 h1 fun x479 =>
 kNilc x0 fun x480 =>
 kFA 59 x480 fun x481 =>
 kLA 5 x481 h1 fun x484 =>
 kCall X 42 [x479, x484] h1 fun x485 h486 =>
 dokS [h1, h486] [] (j474 x0 u u x485 u u u u u u u u u u u u u u u u u u u u u u u u u u u u u u u u u u u u u u u u u u u u u u u u u u u u u u u u u u u u u u u u u u u u u u u u u u h486)) (j474 x0 u u .nils u u u u u u u u u u u u u u u u u u u u u u u u u u u u u u u u u u u u u u u u u u u u u u u u u u u u u u u u u u u u u u u u u u u u u u u u u u h1)))
theorem p31_ok (k : Nat) : p31 k = funcS k 1 lit31 := by kernel_rfl
def p32 (k : Nat) : CtxK → List V → TH → R := fun _ => ap 1 (fun x0 h1 =>
 kNilc x0 fun x2 =>
 kFA 309 x2 fun x3 =>
 kL1 x3 h1 fun x4 =>
 kLen x4 fun x5 =>
 kNilc x0 fun x6 =>
 kFA 310 x6 fun x7 =>
 kLA 42 x7 h1 fun x8 =>
 lp (α := Cur 26) (zN 26) (fun n36 _ _ _ x12 _ _ _ _ _ _ _ _ _ _ x23 x24 _ _ _ _ _ _ _ _ _ _ h35 =>
 kBin .lss x24 (qi 3) fun x37 =>
 brS x37 (kP (indexE (some (3, 14, true)) x23 x24) fun x38 =>
 kNew [(qb 0), (qw 0), (qb 0), (qb 0), (qb 0), qs, (qb 0), qs, (qw 0), qf, qf, qf, qf, qf] h35 fun x39 h40 =>
 kSA 14 x39 x38 h40 fun _ h42 =>
 kFA 0 x39 fun x43 =>
 kFA 1 x43 fun x44 =>
 kL1 x44 h42 fun x45 =>
 kBin .gtr x45 (qw 0) fun x46 =>
 jc (α := Cur 26) (fun _ _ _ x50 _ _ _ _ _ _ _ _ _ _ x61 x62 _ _ _ _ _ _ _ _ _ _ h73 =>
 kBin .add x62 (qi 1) fun x75 =>
 n36 u u u x50 u u u u u u u u u u x61 x75 u u u u u u u u u u h73) fun j74 =>
 brS x46 (kBin .add x12 (qi 1) fun x76 =>
 j74 u u u x76 u u u u u u u u u u x23 x24 u u u u u u u u u u h42) (j74 u u u x12 u u u u u u u u u u x23 x24 u u u u u u u u u u h42)) (some (x12, h35))) k u u u x5 u u u u u u u u u u x8 (qi 0) u u u u u u u u u u h1)
theorem p32_ok (k : Nat) : p32 k = funcS k 1 lit32 := by kernel_rfl
def p35 (_ : Nat) : CtxK → List V → TH → R := fun _ => ap 2 (fun x0 x1 h2 =>
 kNew [(qw 0), .nils] h2 fun x3 h4 =>
 kBin .geq x1 (qb 4) fun x5 =>
 brS x5 (kB [(qw 0), .nils] [] fun x6 =>
 kSA 2 x3 x6 h4 fun _ h8 =>
 rsS [.cell 4 true 2] [x0, x1, u, u, x3, u, x1, x5, x6, u, u, u, u, u, u, u, u, u, u, u, u] h8) (kNilc x0 fun x9 =>
 kFA 3 x9 fun x10 =>
 kIA 4 1 x10 x1 fun x11 =>
 kL1 x11 h4 fun x12 =>
 kLen x12 fun x13 =>
 kBin .sub x13 (qi 1) fun x14 =>
 kIS 2 x12 x14 fun x15 =>
 kLA 2 x15 h4 fun x16 =>
 kSA 2 x3 x16 h4 fun _ h18 =>
 rsS [.cell 4 true 2] [x0, x1, u, u, x3, x12, x1, x5, u, x0, x1, x9, x10, x11, x12, x12, x12, x13, x14, x15, x16] h18))
theorem p35_ok (k : Nat) : p35 k = funcS k 2 lit35 := by kernel_rfl
def p41 (k : Nat) : CtxK → List V → TH → R := fun X => ap 3 (fun x0 x1 x2 h3 =>
 kCall X 84 [x1] h3 fun x4 h5 =>
 kCall X 83 [x4] h5 fun x6 h7 =>
 kLen x6 fun x8 =>
 lp (α := Cur 32) (zN 32) (fun n42 x9 _ x11 _ _ _ _ x16 _ _ _ _ x21 x22 x23 _ _ _ _ _ _ _ _ _ _ _ _ _ _ _ _ _ h41 =>
 kBin .lss x23 x22 fun x43 =>
 brS x43 (kIS 1 x21 x23 fun x44 =>
 kL1 x44 h41 fun x45 =>
 kNilc x9 fun x46 =>
 kFA 0 x46 fun x47 =>
 kL1 x47 h41 fun x48 =>
 kEqI true x45 x48 fun x49 =>
 jc (α := Cur 32) (fun x50 _ x52 _ _ _ _ x57 _ _ _ _ x62 x63 x64 _ _ _ _ _ _ _ _ _ _ _ _ _ _ _ _ _ h82 =>
 kBin .add x64 (qi 1) fun x84 =>
 n42 x50 u x52 u u u u x57 u u u u x62 x63 x84 u u u u u u u u u u u u u u u u u h82) fun j83 =>
 brS x49 (kCv X x11 [x45] h41 fun x85 h86 =>
 kBS 131 zr1 1 [(0, 131, x85)] h86 fun x87 h88 =>
 kAp 131 1400 x16 x87 h88 fun x89 h90 =>
 j83 x9 u x11 u u u u x89 u u u u x21 x22 x23 u u u u u u u u u u u u u u u u u h90) (j83 x9 u x11 u u u u x16 u u u u x21 x22 x23 u u u u u u u u u u u u u u u u u h41)) (some (x16, h41))) k x0 u x2 u u u u .nils u u u u x6 x8 (qi 0) u u u u u u u u u u u u u u u u u h7)
theorem p41_ok (k : Nat) : p41 k = funcS k 3 lit41 := by kernel_rfl
def p56 (k : Nat) : CtxK → List V → TH → R := fun X => ap 2 (fun x0 x1 h2 =>
 kNilc x0 fun x3 =>
 kFA 54 x3 fun x4 =>
 kLA 5 x4 h2 fun x5 =>
 lp (α := Cur 79) (zN 79) (fun n86 x6 x7 _ _ _ x11 x12 _ _ _ _ _ x18 x19 _ _ _ _ _ _ _ _ _ _ _ _ _ _ _ _ _ _ _ _ _ _ _ _ _ _ _ _ _ _ _ _ _ _ _ _ _ _ _ _ _ _ _ _ _ _ _ _ _ _ _ _ _ _ _ _ _ _ _ _ _ _ _ _ _ h85 =>
 kBin .lss x19 (qi 5) fun x87 =>
 brS x87 (kIx 5 x18 x19 fun x88 =>
 jc (α := Cur 79) (fun x89 x90 _ _ _ x94 x95 _ _ _ _ _ x101 x102 _ _ _ _ _ _ _ _ _ _ _ _ _ _ _ _ _ _ _ _ _ _ _ _ _ _ _ _ _ _ _ _ _ _ _ _ _ _ _ _ _ _ _ _ _ _ _ _ _ _ _ _ _ _ _ _ _ _ _ _ _ _ _ _ _ h168 =>
 kBin .add x102 (qi 1) fun x170 =>
 n86 x89 x90 u u u x94 x95 u u u u u x101 x170 u u u u u u u u u u u u u u u u u u u u u u u u u u u u u u u u u u u u u u u u u u u u u u u u u u u u u u u u u u u u u u u u u h168) fun j169 =>
 brS x88 (kBS 1 [(qi 0)] 1 [(0, 1, x19)] h85 fun x171 h172 =>
 kNilc x6 fun x173 =>
 kFA 64 x173 fun x174 =>
 kIA 5 49 x174 x19 fun x175 =>
 kLA 49 x175 h172 fun x178 =>
 kBS 49 zr0 1 [(0, 49, x178)] h172 fun x179 h180 =>
 kAp 1 8 x11 x171 h180 fun x181 h182 =>
 kAp 49 600 x12 x179 h182 fun x183 h184 =>
 dokS [h180, h182, h184] ((fun h176 => kLA 49 x175 h176 fun x177 =>
 some (x177, h176), x178, 0, 1) :: []) (j169 x6 x7 u u u x181 x183 u u u u u x18 x19 u u u u u u u u u u u u u u u u u u u u u u u u u u u u u u u u u u u u u u u u u u u u u u u u u u u u u u u u u u u u u u u u u h184)) (j169 x6 x7 u u u x11 x12 u u u u u x18 x19 u u u u u u u u u u u u u u u u u u u u u u u u u u u u u u u u u u u u u u u u u u u u u u u u u u u u u u u u u u u u u u u u u h85)) (kNilc x6 fun x185 =>
 kFA 2 x185 fun x186 =>
 kL1 x186 h85 fun x189 =>
 kCall X 97 [x12] h85 fun x190 h191 =>
 kCall X 96 [x7, x189, x11, x190] h191 fun x192 h193 =>
 kNot x192 fun x194 =>
 dokS [h85, h191, h193] ((fun h187 => kL1 x186 h187 fun x188 =>
 some (x188, h187), x189, 0, 1) :: []) (brS x194 (some (.nils, h193)) (kCall X 98 [x11, x12] h193 fun x195 h196 =>
 kIS 49 x12 x195 fun x197 =>
 kLA 49 x197 h196 fun x198 =>
 kCall X 36 [x198] h196 fun x199 h200 =>
 kNilc x6 fun x201 =>
 kFA 3 x201 fun x202 =>
 kSA 49 x202 x199 h200 fun _ h204 =>
 kNilc x6 fun x205 =>
 kFA 52 x205 fun x206 =>
 kL1 x206 h204 fun x207 =>
 kNilc x6 fun x208 =>
 kFA 3 x208 fun x209 =>
 kFA 0 x209 fun x210 =>
 kS1 x210 x207 h204 fun _ h212 =>
 kNilc x6 fun x213 =>
 kFA 1 x213 fun x214 =>
 kS1 x214 (qi 3) h212 fun _ h216 =>
 kNilc x6 fun x217 =>
 kFA 0 x217 fun x218 =>
 kL1 x218 h216 fun x221 =>
 kNilc x6 fun x222 =>
 kFA 59 x222 fun x223 =>
 kIA 5 1 x223 x221 fun x224 =>
 kS1 x224 qt h216 fun _ h226 =>
 dokS [h216, h226] [] (kNilc x6 fun x227 =>
 kFA 53 x227 fun x228 =>
 kL1 x228 h226 fun x229 =>
 kCall X 41 [x6, x229, (.fn 45 [x6] [])] h226 fun x230 h231 =>
 some (x230, h231)))))) k x0 x1 u u u .nils .nils u u u u u x5 (qi 0) u u u u u u u u u u u u u u u u u u u u u u u u u u u u u u u u u u u u u u u u u u u u u u u u u u u u u u u u u u u u u u u u u h2)
theorem p56_ok (k : Nat) : p56 k = funcS k 2 lit56 := by kernel_rfl
def p64 (_ : Nat) : CtxK → List V → TH → R := fun X => ap 3 (fun x0 x1 x2 h3 =>
 kNew (V.cellsR x2) h3 fun x4 h5 =>
 kLA 131 x4 h5 fun x6 =>
 kCall X 104 [x6] h5 fun x7 h8 =>
 kNilc x0 fun x9 =>
 kFA 1 x9 fun x10 =>
 kL1 x10 h8 fun x11 =>
 kEqI true x11 (qi 2) fun x12 =>
 jc (α := JT) (fun x13 h14 =>
 jc (α := JT) (fun x16 h17 =>
 jc (α := JT) (fun x19 h20 =>
 jc (α := JT) (fun x22 h23 =>
 jc (α := JT) (fun x25 h26 =>
 jc (α := JT) (fun x28 h29 =>
 kPick x12 qt x28 fun x31 =>
 brS x31 (some (.nils, h29)) (kFA 13 x4 fun x32 =>
 kLA 49 x32 h29 fun x35 =>
 kNilc x0 fun x36 =>
 kFA 54 x36 fun x37 =>
 kIA 5 1 x37 x7 fun x38 =>
 kNilc x0 fun x39 =>
 kFA 64 x39 fun x40 =>
 kS1 x38 qt h29 fun _ h42 =>
 kIA 5 49 x40 x7 fun x43 =>
 kSA 49 x43 x35 h42 fun _ h45 =>
 dokS [h29, h42, h45] ((fun h33 => kLA 49 x32 h33 fun x34 =>
 some (x34, h33), x35, 0, 1) :: []) (kCall X 56 [x0, x1] h45 fun x46 h47 =>
 some (x46, h47)))) fun j30 =>
 wtS x12 false (kL1 x25 h26 fun x48 =>
 j30 x48 h26) (j30 u h26)) fun j27 =>
 wtS x12 false (kIA 5 1 x22 x16 fun x49 =>
 j27 x49 h23) (j27 u h23)) fun j24 =>
 wtS x12 false (kFA 54 x19 fun x50 =>
 j24 x50 h20) (j24 u h20)) fun j21 =>
 wtS x12 false (kNilc x13 fun x51 =>
 j21 x51 h17) (j21 u h17)) fun j18 =>
 wtS x12 false (j18 x7 h14) (j18 u h14)) fun j15 =>
 wtS x12 false (j15 x0 h8) (j15 u h8))
theorem p64_ok (k : Nat) : p64 k = funcS k 3 lit64 := by kernel_rfl
def p65 (_ : Nat) : CtxK → List V → TH → R := fun X => ap 3 (fun x0 _ x2 h3 =>
 kNew (V.cellsR x2) h3 fun x4 h5 =>
 kLA 131 x4 h5 fun x6 =>
 kCall X 105 [x0, x6] h5 fun x7 h8 =>
 kNot x7 fun x9 =>
 brS x9 (some (.nils, h8)) (kFA 62 x4 fun x10 =>
 kLA 52 x10 h8 fun x11 =>
 kCall X 106 [x0, x11] h8 fun _ h13 =>
 kLA 131 x4 h13 fun x14 =>
 kCall X 107 [x0, (qb 10), x14] h13 fun x15 h16 =>
 some (x15, h16)))
theorem p65_ok (k : Nat) : p65 k = funcS k 3 lit65 := by kernel_rfl
def p67 (_ : Nat) : CtxK → List V → TH → R := fun X => ap 3 (fun x0 _ x2 h3 =>
 kNew (V.cellsR x2) h3 fun x4 h5 =>
 kLA 131 x4 h5 fun x8 =>
 kCall X 105 [x0, x8] h5 fun x9 h10 =>
 kNot x9 fun x11 =>
 jc (α := JT) (fun x12 h13 =>
 jc (α := JT) (fun x15 h16 =>
 jc (α := JT) (fun x18 h19 =>
 jc (α := JT) (fun x21 h22 =>
 jc (α := V → TH → PD → R) (fun x26 h27 d28 =>
 jc (α := JT) (fun x30 h31 =>
 jc (α := JT) (fun x33 h34 =>
 jc (α := JT) (fun x36 h37 =>
 jc (α := V → TH → PD → R) (fun x41 h42 d43 =>
 jc (α := JT) (fun x45 h46 =>
 kPick x11 qt x45 fun x48 =>
 dokS [h5, h46] d43 (brS x48 (some (.nils, h46)) (kFA 114 x4 fun x49 =>
 kLA 8 x49 h46 fun x50 =>
 kCall X 111 [x0, x50] h46 fun _ h52 =>
 kFA 114 x4 fun x53 =>
 kFA 1 x53 fun x54 =>
 kL1 x54 h52 fun x57 =>
 kCall X 109 [x0] h52 fun x58 h59 =>
 kBin .lss x58 x57 fun x60 =>
 dokS [h52, h59] ((fun h55 => kL1 x54 h55 fun x56 =>
 some (x56, h55), x57, 0, 1) :: []) (brS x60 (some (.nils, h59)) (kLA 131 x4 h59 fun x61 =>
 kCall X 107 [x0, (qb 12), x61] h59 fun x62 h63 =>
 some (x62, h63)))))) fun j47 =>
 wtS x11 false (kEqI true x26 x41 fun x64 =>
 j47 x64 h42) (j47 u h42)) fun j44 =>
 wtS x11 false (kL1 x36 h37 fun x65 =>
 j44 x65 h37 d28) (j44 u h37 d28)) fun j38 =>
 wtS x11 false (kFA 52 x33 fun x66 =>
 j38 x66 h34) (j38 u h34)) fun j35 =>
 wtS x11 false (kNilc x30 fun x67 =>
 j35 x67 h31) (j35 u h31)) fun j32 =>
 wtS x11 false (j32 x0 h27) (j32 u h27)) fun j29 =>
 wtS x11 false (kL1 x21 h22 fun x68 =>
 j29 x68 h22 []) (j29 u h22 [])) fun j23 =>
 wtS x11 false (kFA 0 x18 fun x69 =>
 j23 x69 h19) (j23 u h19)) fun j20 =>
 wtS x11 false (kFA 3 x15 fun x70 =>
 j20 x70 h16) (j20 u h16)) fun j17 =>
 wtS x11 false (kNilc x12 fun x71 =>
 j17 x71 h13) (j17 u h13)) fun j14 =>
 wtS x11 false (j14 x0 h10) (j14 u h10))
theorem p67_ok (k : Nat) : p67 k = funcS k 3 lit67 := by kernel_rfl
def p75 (_ : Nat) : CtxK → List V → TH → R := fun _ => ap 1 (fun x0 h1 =>
 kNew (V.cellsR x0) h1 fun x2 h3 =>
 kFA 0 x2 fun x4 =>
 kL1 x4 h3 fun x5 =>
 kEqI false x5 (qb 1) fun x6 =>
 jc (α := Cur 22) (fun _ x8 _ x10 _ _ x13 _ _ _ _ _ _ _ _ _ _ _ _ _ _ _ h29 =>
 jc (α := Cur 22) (fun _ x32 _ x34 _ _ _ _ _ _ _ _ _ _ _ _ _ _ _ _ _ _ h53 =>
 kFA 3 x32 fun x55 =>
 kL1 x55 h53 fun x56 =>
 kBin .geq x56 x34 fun x57 =>
 jc (α := JT) (fun x58 h59 =>
 jc (α := JT) (fun x61 h62 =>
 jc (α := JT) (fun x64 h65 =>
 kPick x57 x64 qf fun x67 =>
 some (x67, h65)) fun j66 =>
 wtS x57 true (kBin .leq x61 (qw 60) fun x68 =>
 j66 x68 h62) (j66 u h62)) fun j63 =>
 wtS x57 true (kL1 x58 h59 fun x69 =>
 j63 x69 h59) (j63 u h59)) fun j60 =>
 wtS x57 true (kFA 3 x32 fun x70 =>
 j60 x70 h53) (j60 u h53)) fun j54 =>
 brS x13 (j54 u x8 u (qw 2) u u u u u u u u u u u u u u u u u u h29) (j54 u x8 u x10 u u u u u u u u u u u u u u u u u u h29)) fun j30 =>
 brS x6 (j30 u x2 u (qw 1) u u x6 u u u u u u u u u u u u u u u h3) (kEqI false x5 (qb 2) fun x71 =>
 jc (α := Cur 22) (fun _ x73 _ x75 _ _ x78 _ _ _ _ _ _ _ _ _ _ _ _ _ _ _ h94 =>
 j30 u x73 u x75 u u x78 u u u u u u u u u u u u u u u h94) fun j95 =>
 brS x71 (j95 u x2 u (qw 1) u u x71 u u u u u u u u u u u u u u u h3) (kEqI false x5 (qb 3) fun x96 =>
 jc (α := Cur 22) (fun _ x98 _ x100 _ _ x103 _ _ _ _ _ _ _ _ _ _ _ _ _ _ _ h119 =>
 j95 u x98 u x100 u u x103 u u u u u u u u u u u u u u u h119) fun j120 =>
 brS x96 (j120 u x2 u (qw 1) u u x96 u u u u u u u u u u u u u u u h3) (kEqI false x5 (qb 4) fun x121 =>
 jc (α := Cur 22) (fun _ x123 _ x125 _ _ x128 _ _ _ _ _ _ _ _ _ _ _ _ _ _ _ h144 =>
 j120 u x123 u x125 u u x128 u u u u u u u u u u u u u u u h144) fun j145 =>
 brS x121 (j145 u x2 u (qw 1) u u x121 u u u u u u u u u u u u u u u h3) (kEqI false x5 (qb 5) fun x146 =>
 jc (α := Cur 22) (fun _ x148 _ x150 _ _ x153 _ _ _ _ _ _ _ _ _ _ _ _ _ _ _ h169 =>
 j145 u x148 u x150 u u x153 u u u u u u u u u u u u u u u h169) fun j170 =>
 brS x146 (j170 u x2 u (qw 1) u u x146 u u u u u u u u u u u u u u u h3) (kEqI false x5 (qb 18) fun x171 =>
 j170 u x2 u (qw 1) u u x171 u u u u u u u u u u u u u u u h3))))))
theorem p75_ok (k : Nat) : p75 k = funcS k 1 lit75 := by kernel_rfl
def p86 (_ : Nat) : CtxK → List V → TH → R := fun _ => ap 2 (fun x0 x1 h2 =>
 kIA 5 1 x1 x0 fun x3 =>
 kL1 x3 h2 fun x4 =>
 some (x4, h2))
theorem p86_ok (k : Nat) : p86 k = funcS k 2 lit86 := by kernel_rfl
def p87 (_ : Nat) : CtxK → List V → TH → R := fun _ => ap 2 (fun x0 x1 h2 =>
 kNew zr4 h2 fun x3 h4 =>
 kNilc x0 fun x5 =>
 kFA 0 x5 fun x6 =>
 kL1 x6 h4 fun x7 =>
 kP (lookupG h4.get (.agg zr4) true x7 x1) fun x8 =>
 kExt x8 0 fun x9 =>
 kExt x8 1 fun x10 =>
 kNew zr4 h4 fun x11 h12 =>
 kSA 16 x11 x9 h12 fun _ h14 =>
 kLA 16 x11 h14 fun x15 =>
 kSA 16 x3 x15 h14 fun _ h17 =>
 rsS [.cell 4 true 16, .tmp 5] [x0, x1, u, u, x3, x10, x11, x10, x8, x0, x5, x6, x7, x1, x8, x9, x10, x15, x10] h17)
theorem p87_ok (k : Nat) : p87 k = funcS k 2 lit87 := by kernel_rfl
def p100 (_ : Nat) : CtxK → List V → TH → R := fun X => ap 2 (fun x0 x1 h2 =>
 kNew (V.cellsR x0) h2 fun x3 h4 =>
 kLA 16 x3 h4 fun x5 =>
 kCall X 142 [x5, x1] h4 fun x6 h7 =>
 kCall X 85 [x6, (.fn 143 [] [x3])] h7 fun x8 h9 =>
 some (x8, h9))
theorem p100_ok (k : Nat) : p100 k = funcS k 2 lit100 := by kernel_rfl
def p103 (_ : Nat) : CtxK → List V → TH → R := fun X => ap 1 (fun x0 h1 =>
 brS qf (kConv .u32 x0 fun x2 =>
 kCall X 153 [x2] h1 fun x3 h4 =>
 some (x3, h4)) (kCall X 154 [x0] h1 fun x5 h6 =>
 some (x5, h6)))
theorem p103_ok (k : Nat) : p103 k = funcS k 1 lit103 := by kernel_rfl
def p105 (_ : Nat) : CtxK → List V → TH → R := fun X => ap 2 (fun x0 x1 h2 =>
 kNew (V.cellsR x1) h2 fun x3 h4 =>
 kNilc x0 fun x5 =>
 kFA 1 x5 fun x6 =>
 kL1 x6 h4 fun x7 =>
 kEqI false x7 (qi 1) fun x8 =>
 jc (α := JT) (fun x9 h10 =>
 jc (α := JT) (fun x12 h13 =>
 jc (α := JT) (fun x15 h16 =>
 jc (α := JT) (fun x18 h19 =>
 jc (α := JT) (fun x21 h22 =>
 kPick x8 x21 qf fun x24 =>
 some (x24, h22)) fun j23 =>
 wtS x8 true (kEqI false x12 x18 fun x25 =>
 j23 x25 h19) (j23 u h19)) fun j20 =>
 wtS x8 true (kCall X 55 [x15] h16 fun x26 h27 =>
 j20 x26 h27) (j20 u h16)) fun j17 =>
 wtS x8 true (j17 x0 h13) (j17 u h13)) fun j14 =>
 wtS x8 true (kCall X 104 [x9] h10 fun x28 h29 =>
 j14 x28 h29) (j14 u h10)) fun j11 =>
 wtS x8 true (kLA 131 x3 h4 fun x30 =>
 j11 x30 h4) (j11 u h4))
theorem p105_ok (k : Nat) : p105 k = funcS k 2 lit105 := by kernel_rfl
def p106 (k : Nat) : CtxK → List V → TH → R := fun X => ap 2 (fun x0 x1 h2 =>
 kNew (V.cellsR x1) h2 fun x3 h4 =>
 kNilc x0 fun x5 =>
 kFA 3 x5 fun x6 =>
 kFA 0 x6 fun x7 =>
 kL1 x7 h4 fun x10 =>
 kNilc x0 fun x11 =>
 kFA 52 x11 fun x12 =>
 kL1 x12 h4 fun x15 =>
 kBin .gtr x10 x15 fun x16 =>
 dokS [h4] [] (jc (α := Cur 92) (fun _ _ _ _ _ _ _ _ _ _ _ _ _ _ _ _ _ _ _ _ _ _ _ _ _ _ _ _ _ _ _ _ _ _ _ _ _ _ _ _ _ _ _ _ _ _ _ _ _ _ _ _ _ _ _ _ _ _ _ _ _ _ _ _ _ _ _ _ _ _ _ _ _ _ _ _ _ _ _ _ _ _ _ _ _ _ _ _ _ _ _ _ h109 =>
 some (.tup [], h109)) fun j110 =>
 brS x16 (j110 u u u u u u u u u u u u u u u u u u u u u u u u u u u u u u u u u u u u u u u u u u u u u u u u u u u u u u u u u u u u u u u u u u u u u u u u u u u u u u u u u u u u u u u u u u u u h4) (kNilc x0 fun x111 =>
 kFA 3 x111 fun x112 =>
 kFA 0 x112 fun x113 =>
 kL1 x113 h4 fun x116 =>
 kNilc x0 fun x117 =>
 kFA 52 x117 fun x118 =>
 kL1 x118 h4 fun x121 =>
 kBin .lss x116 x121 fun x122 =>
 dokS [h4] [] (jc (α := Cur 92) (fun _ _ _ _ _ _ _ _ _ _ _ _ _ _ _ _ _ _ _ _ _ _ _ _ _ _ _ _ _ _ _ _ _ _ _ _ _ _ _ _ _ _ _ _ _ _ _ _ _ _ _ _ _ _ _ _ _ _ _ _ _ _ _ _ _ _ _ _ _ _ _ _ _ _ _ _ _ _ _ _ _ _ _ _ _ _ _ _ _ _ _ _ h215 =>
 j110 u u u u u u u u u u u u u u u u u u u u u u u u u u u u u u u u u u u u u u u u u u u u u u u u u u u u u u u u u u u u u u u u u u u u u u u u u u u u u u u u u u u u u u u u u u u u h215) fun j216 =>
 brS x122 (kNilc x0 fun x217 =>
 kFA 3 x217 fun x218 =>
 kLA 49 x218 h4 fun x221 =>
 kLA 52 x3 h4 fun x224 =>
 kNew zr0 h4 fun x225 h226 =>
 kCall X 155 [x221, x224] h226 fun x227 h228 =>
 kExt x227 0 fun x229 =>
 kExt x227 1 fun x230 =>
 kSA 49 x225 x229 h228 fun _ h232 =>
 dokS [h226, h228, h232] [] (kEqI false x230 (qi 0) fun x233 =>
 jc (α := Cur 92) (fun _ _ _ _ _ _ _ _ _ _ _ _ _ _ _ _ _ _ _ _ _ _ _ _ _ _ _ _ _ _ _ _ _ _ _ _ _ _ _ _ _ _ _ _ _ _ _ _ _ _ _ _ _ _ _ _ _ _ _ _ _ _ _ _ _ _ _ _ _ _ _ _ _ _ _ _ _ _ _ _ _ _ _ _ _ _ _ _ _ _ _ _ h326 =>
 j216 u u u u u u u u u u u u u u u u u u u u u u u u u u u u u u u u u u u u u u u u u u u u u u u u u u u u u u u u u u u u u u u u u u u u u u u u u u u u u u u u u u u u u u u u u u u u h326) fun j327 =>
 brS x233 (kLA 49 x225 h232 fun x328 =>
 kNilc x0 fun x329 =>
 kFA 3 x329 fun x330 =>
 kSA 49 x330 x328 h232 fun _ h332 =>
 j327 u u u u u u u u u u u u u u u u u u u u u u u u u u u u u u u u u u u u u u u u u u u u u u u u u u u u u u u u u u u u u u u u u u u u u u u u u u u u u u u u u u u u u u u u u u u u h332) (j327 u u u u u u u u u u u u u u u u u u u u u u u u u u u u u u u u u u u u u u u u u u u u u u u u u u u u u u u u u u u u u u u u u u u u u u u u u u u u u u u u u u u u u u u u u u u u h232))) (kFA 0 x3 fun x333 =>
 kL1 x333 h4 fun x334 =>
 kEqI false x334 (qi 1) fun x335 =>
 jc (α := Cur 92) (fun _ _ _ _ _ _ _ _ _ _ _ _ _ _ _ _ _ _ _ _ _ _ _ _ _ _ _ _ _ _ _ _ _ _ _ _ _ _ _ _ _ _ _ _ _ _ _ _ _ _ _ _ _ _ _ _ _ _ _ _ _ _ _ _ _ _ _ _ _ _ _ _ _ _ _ _ _ _ _ _ _ _ _ _ _ _ _ _ _ _ _ _ h428 =>
 j216 u u u u u u u u u u u u u u u u u u u u u u u u u u u u u u u u u u u u u u u u u u u u u u u u u u u u u u u u u u u u u u u u u u u u u u u u u u u u u u u u u u u u u u u u u u u u h428) fun j429 =>
 brS x335 (kFA 2 x3 fun x430 =>
 kL1 x430 h4 fun x431 =>
 kLen x431 fun x432 =>
 lp (α := Cur 92) (zN 92) (fun n526 x433 _ _ _ _ _ _ _ _ _ _ _ _ _ _ _ _ _ _ _ _ _ _ _ _ _ _ _ _ _ _ _ _ _ _ _ _ _ _ _ _ _ _ _ _ _ _ _ _ _ _ _ x485 x486 x487 _ _ _ _ _ _ _ _ _ _ _ _ _ _ _ _ _ _ _ _ _ _ _ _ _ _ _ _ _ _ _ _ _ _ _ _ _ h525 =>
 kBin .lss x487 x486 fun x527 =>
 brS x527 (kIS 8 x485 x487 fun x528 =>
 kLA 8 x528 h525 fun x529 =>
 kNew zr3 h525 fun x530 h531 =>
 kSA 8 x530 x529 h531 fun _ h533 =>
 kLA 8 x530 h533 fun x534 =>
 kCall X 111 [x433, x534] h533 fun _ h536 =>
 kBin .add x487 (qi 1) fun x537 =>
 n526 x433 u u u u u u u u u u u u u u u u u u u u u u u u u u u u u u u u u u u u u u u u u u u u u u u u u u u x485 x486 x537 u u u u u u u u u u u u u u u u u u u u u u u u u u u u u u u u u u u u u h536) (j429 u u u u u u u u u u u u u u u u u u u u u u u u u u u u u u u u u u u u u u u u u u u u u u u u u u u u u u u u u u u u u u u u u u u u u u u u u u u u u u u u u u u u u u u u u u u u h525)) k x0 u u u u u u u u u u u u u u u u u u u u u u u u u u u u u u u u u u u u u u u u u u u u u u u u u u u x431 x432 (qi 0) u u u u u u u u u u u u u u u u u u u u u u u u u u u u u u u u u u u u u h4) (kFA 0 x3 fun x538 =>
 kL1 x538 h4 fun x541 =>
 kEqI false x541 (qi 2) fun x542 =>
 jc (α := JT) (fun x543 h544 =>
 jc (α := JT) (fun x546 h547 =>
 jc (α := V → TH → PD → R) (fun x551 h552 d553 =>
 jc (α := JT) (fun x555 h556 =>
 jc (α := JT) (fun x558 h559 =>
 jc (α := JT) (fun x561 h562 =>
 jc (α := V → TH → PD → R) (fun x566 h567 d568 =>
 jc (α := JT) (fun x570 h571 =>
 kPick x542 x570 qf fun x573 =>
 dokS [h571] d568 (jc (α := Cur 92) (fun _ _ _ _ _ _ _ _ _ _ _ _ _ _ _ _ _ _ _ _ _ _ _ _ _ _ _ _ _ _ _ _ _ _ _ _ _ _ _ _ _ _ _ _ _ _ _ _ _ _ _ _ _ _ _ _ _ _ _ _ _ _ _ _ _ _ _ _ _ _ _ _ _ _ _ _ _ _ _ _ _ _ _ _ _ _ _ _ _ _ _ _ h666 =>
 j429 u u u u u u u u u u u u u u u u u u u u u u u u u u u u u u u u u u u u u u u u u u u u u u u u u u u u u u u u u u u u u u u u u u u u u u u u u u u u u u u u u u u u u u u u u u u u h666) fun j667 =>
 brS x573 (kFA 3 x3 fun x668 =>
 kLA 49 x668 h571 fun x669 =>
 kCall X 22 [x669] h571 fun x670 h671 =>
 kExt x670 0 fun _ =>
 kExt x670 1 fun x673 =>
 kCall X 109 [x0] h671 fun x674 h675 =>
 kBin .gtr x673 x674 fun x676 =>
 jc (α := Cur 92) (fun _ _ _ _ _ _ _ _ _ _ _ _ _ _ _ _ _ _ _ _ _ _ _ _ _ _ _ _ _ _ _ _ _ _ _ _ _ _ _ _ _ _ _ _ _ _ _ _ _ _ _ _ _ _ _ _ _ _ _ _ _ _ _ _ _ _ _ _ _ _ _ _ _ _ _ _ _ _ _ _ _ _ _ _ _ _ _ _ _ _ _ _ h769 =>
 j667 u u u u u u u u u u u u u u u u u u u u u u u u u u u u u u u u u u u u u u u u u u u u u u u u u u u u u u u u u u u u u u u u u u u u u u u u u u u u u u u u u u u u u u u u u u u u h769) fun j770 =>
 brS x676 (kFA 3 x3 fun x771 =>
 kLA 49 x771 h675 fun x772 =>
 kCall X 36 [x772] h675 fun x773 h774 =>
 kNilc x0 fun x775 =>
 kFA 3 x775 fun x776 =>
 kSA 49 x776 x773 h774 fun _ h778 =>
 j770 u u u u u u u u u u u u u u u u u u u u u u u u u u u u u u u u u u u u u u u u u u u u u u u u u u u u u u u u u u u u u u u u u u u u u u u u u u u u u u u u u u u u u u u u u u u u h778) (j770 u u u u u u u u u u u u u u u u u u u u u u u u u u u u u u u u u u u u u u u u u u u u u u u u u u u u u u u u u u u u u u u u u u u u u u u u u u u u u u u u u u u u u u u u u u u u h675)) (j667 u u u u u u u u u u u u u u u u u u u u u u u u u u u u u u u u u u u u u u u u u u u u u u u u u u u u u u u u u u u u u u u u u u u u u u u u u u u u u u u u u u u u u u u u u u u u h571))) fun j572 =>
 wtS x542 true (kEqI false x551 x566 fun x779 =>
 j572 x779 h567) (j572 u h567)) fun j569 =>
 wtS x542 true (kL1 x561 h562 fun x780 =>
 j569 x780 h562 d553) (j569 u h562 d553)) fun j563 =>
 wtS x542 true (kFA 52 x558 fun x781 =>
 j563 x781 h559) (j563 u h559)) fun j560 =>
 wtS x542 true (kNilc x555 fun x782 =>
 j560 x782 h556) (j560 u h556)) fun j557 =>
 wtS x542 true (j557 x0 h552) (j557 u h552)) fun j554 =>
 wtS x542 true (kL1 x546 h547 fun x783 =>
 j554 x783 h547 []) (j554 u h547 [])) fun j548 =>
 wtS x542 true (kFA 0 x543 fun x784 =>
 j548 x784 h544) (j548 u h544)) fun j545 =>
 wtS x542 true (kFA 3 x3 fun x785 =>
 j545 x785 h4) (j545 u h4)))))))
theorem p106_ok (k : Nat) : p106 k = funcS k 2 lit106 := by kernel_rfl
def p118 (_ : Nat) : CtxK → List V → TH → R := fun _ => ap 1 (fun x0 h1 =>
 kBin .geq x0 (qb 21) fun x2 =>
 jc (α := JT) (fun x3 h4 =>
 jc (α := JT) (fun x6 h7 =>
 kPick x2 x6 qf fun x9 =>
 some (x9, h7)) fun j8 =>
 wtS x2 true (kBin .lss x3 (qb 24) fun x10 =>
 j8 x10 h4) (j8 u h4)) fun j5 =>
 wtS x2 true (j5 x0 h1) (j5 u h1))
theorem p118_ok (k : Nat) : p118 k = funcS k 1 lit118 := by kernel_rfl
def p126 (k : Nat) : CtxK → List V → TH → R := fun X => ap 2 (fun x0 x1 h2 =>
 kLen x0 fun x3 =>
 lp (α := Cur 19) (zN 19) (fun n24 x4 x5 _ _ _ _ _ x11 x12 _ _ _ _ _ _ _ _ _ _ h23 =>
 kBin .lss x12 x11 fun x25 =>
 brS x25 (kIS 1 x4 x12 fun x26 =>
 kL1 x26 h23 fun x27 =>
 kCv X x5 [x27] h23 fun x28 h29 =>
 brS x28 (some (x12, h29)) (kBin .add x12 (qi 1) fun x30 =>
 n24 x4 x5 u u u u u x11 x30 u u u u u u u u u u h29)) (some ((.int .i64 (-1)), h23))) k x0 x1 u u u u u x3 (qi 0) u u u u u u u u u u h2)
theorem p126_ok (k : Nat) : p126 k = funcS k 2 lit126 := by kernel_rfl
def p128 (_ : Nat) : CtxK → List V → TH → R := fun _ => ap 1 (fun x0 h1 =>
 kNew (V.cellsR x0) h1 fun x2 h3 =>
 kFA 0 x2 fun x4 =>
 kL1 x4 h3 fun x5 =>
 some (x5, h3))
theorem p128_ok (k : Nat) : p128 k = funcS k 1 lit128 := by kernel_rfl
def p129 (_ : Nat) : CtxK → List V → TH → R := fun _ => ap 1 (fun x0 h1 =>
 kNew (V.cellsR x0) h1 fun x2 h3 =>
 kNew zr0 h3 fun x4 h5 =>
 kFA 0 x2 fun x6 =>
 kL1 x6 h5 fun x7 =>
 kFA 40 x2 fun x8 =>
 kLA 8 x8 h5 fun x9 =>
 kB zr0 [(0, 1, x7), (40, 8, x9)] fun x10 =>
 kSA 49 x4 x10 h5 fun _ h12 =>
 rsS [.cell 2 true 49] [x0, x2, x4, x6, x7, x8, x9, x10] h12)
theorem p129_ok (k : Nat) : p129 k = funcS k 1 lit129 := by kernel_rfl
def p135 (_ : Nat) : CtxK → List V → TH → R := fun X => ap 2 (fun x0 x1 h2 =>
 kL1 x1 h2 fun x3 =>
 kCall X 54 [x3, x0] h2 fun x4 h5 =>
 kNot x4 fun x6 =>
 some (x6, h5))
theorem p135_ok (k : Nat) : p135 k = funcS k 2 lit135 := by kernel_rfl
def p140 (_ : Nat) : CtxK → List V → TH → R := fun _ => ap 2 (fun x0 x1 h2 =>
 kNew (V.cellsR x0) h2 fun x3 h4 =>
 kNew (V.cellsR x1) h4 fun x5 h6 =>
 kFA 1 x3 fun x7 =>
 kL1 x7 h6 fun x8 =>
 kFA 1 x5 fun x9 =>
 kL1 x9 h6 fun x10 =>
 kEqI true x8 x10 fun x11 =>
 brS x11 (kFA 1 x3 fun x12 =>
 kL1 x12 h6 fun x13 =>
 kFA 1 x5 fun x14 =>
 kL1 x14 h6 fun x15 =>
 kBin .gtr x13 x15 fun x16 =>
 some (x16, h6)) (kFA 2 x3 fun x17 =>
 kL1 x17 h6 fun x18 =>
 kFA 2 x5 fun x19 =>
 kL1 x19 h6 fun x20 =>
 kEqI true x18 x20 fun x21 =>
 brS x21 (kFA 2 x3 fun x22 =>
 kL1 x22 h6 fun x23 =>
 kFA 2 x5 fun x24 =>
 kL1 x24 h6 fun x25 =>
 kBin .gtr x23 x25 fun x26 =>
 some (x26, h6)) (kFA 3 x3 fun x27 =>
 kL1 x27 h6 fun x28 =>
 kFA 3 x5 fun x29 =>
 kL1 x29 h6 fun x30 =>
 kEqI true x28 x30 fun x31 =>
 brS x31 (kFA 3 x3 fun x32 =>
 kL1 x32 h6 fun x33 =>
 kFA 3 x5 fun x34 =>
 kL1 x34 h6 fun x35 =>
 kBin .gtr x33 x35 fun x36 =>
 some (x36, h6)) (kFA 0 x3 fun x37 =>
 kL1 x37 h6 fun x38 =>
 kFA 0 x5 fun x39 =>
 kL1 x39 h6 fun x40 =>
 kBin .lss x38 x40 fun x41 =>
 some (x41, h6)))))
theorem p140_ok (k : Nat) : p140 k = funcS k 2 lit140 := by kernel_rfl
def p144 (k : Nat) : CtxK → List V → TH → R := fun X => ap 3 (fun x0 x1 x2 h3 =>
 kBin .add x1 (qi 1) fun x4 =>
 lp (α := Cur 49) (zN 49) (fun n55 x5 x6 x7 _ _ _ x11 _ _ _ _ _ _ _ _ _ _ _ _ _ _ _ _ _ _ _ _ _ _ _ _ _ _ _ _ _ _ _ _ _ _ _ _ _ _ _ _ _ _ h54 =>
 kBin .lss x11 x7 fun x56 =>
 brS x56 (lp (α := Cur 49) (zN 49) (fun n107 x57 x58 x59 _ _ _ x63 x64 _ _ _ _ _ _ _ _ _ _ _ _ _ _ _ _ _ _ _ _ _ _ _ _ _ _ _ _ _ _ _ _ _ _ _ _ _ _ _ _ _ h106 =>
 kBin .gtr x64 x58 fun x108 =>
 jc (α := JT) (fun x109 h110 =>
 jc (α := JT) (fun x112 h113 =>
 jc (α := JT) (fun x115 h116 =>
 jc (α := V → TH → PD → R) (fun x120 h121 d122 =>
 jc (α := JT) (fun x124 h125 =>
 jc (α := JT) (fun x127 h128 =>
 jc (α := JT) (fun x130 h131 =>
 jc (α := JT) (fun x133 h134 =>
 jc (α := V → TH → PD → R) (fun x138 h139 d140 =>
 jc (α := JT) (fun x142 h143 =>
 kPick x108 x142 qf fun x145 =>
 dokS [h139, h143] d140 (brS x145 (kBin .sub x64 (qi 1) fun x146 =>
 kBin .sub x64 (qi 1) fun x147 =>
 kIS 1 x57 x147 fun x148 =>
 kL1 x148 h143 fun x151 =>
 kIS 1 x57 x64 fun x152 =>
 kL1 x152 h143 fun x155 =>
 kIS 1 x57 x64 fun x156 =>
 kS1 x156 x151 h143 fun _ h158 =>
 kIS 1 x57 x146 fun x159 =>
 kS1 x159 x155 h158 fun _ h161 =>
 dokS [h143, h158, h161] [] (kBin .sub x64 (qi 1) fun x162 =>
 n107 x57 x58 x59 u u u x63 x162 u u u u u u u u u u u u u u u u u u u u u u u u u u u u u u u u u u u u u u u u u h161)) (kBin .add x63 (qi 1) fun x163 =>
 n55 x57 x58 x59 u u u x163 u u u u u u u u u u u u u u u u u u u u u u u u u u u u u u u u u u u u u u u u u u h143))) fun j144 =>
 wtS x108 true (kCall X 150 [x120, x138] h139 fun x164 h165 =>
 j144 x164 h165) (j144 u h139)) fun j141 =>
 wtS x108 true (kL1 x133 h134 fun x166 =>
 j141 x166 h134 d122) (j141 u h134 d122)) fun j135 =>
 wtS x108 true (kIS 1 x124 x130 fun x167 =>
 j135 x167 h131) (j135 u h131)) fun j132 =>
 wtS x108 true (kBin .sub x127 (qi 1) fun x168 =>
 j132 x168 h128) (j132 u h128)) fun j129 =>
 wtS x108 true (j129 x64 h125) (j129 u h125)) fun j126 =>
 wtS x108 true (j126 x57 h121) (j126 u h121)) fun j123 =>
 wtS x108 true (kL1 x115 h116 fun x169 =>
 j123 x169 h116 []) (j123 u h116 [])) fun j117 =>
 wtS x108 true (kIS 1 x109 x112 fun x170 =>
 j117 x170 h113) (j117 u h113)) fun j114 =>
 wtS x108 true (j114 x64 h110) (j114 u h110)) fun j111 =>
 wtS x108 true (j111 x57 h106) (j111 u h106)) k x5 x6 x7 u u u x11 x11 u u u u u u u u u u u u u u u u u u u u u u u u u u u u u u u u u u u u u u u u u h54) (some (.tup [], h54))) k x0 x1 x2 u u u x4 u u u u u u u u u u u u u u u u u u u u u u u u u u u u u u u u u u u u u u u u u u h3)
theorem p144_ok (k : Nat) : p144 k = funcS k 3 lit144 := by kernel_rfl
def p153 (_ : Nat) : CtxK → List V → TH → R := fun _ => ap 1 (fun x0 h1 =>
 kBin .geq x0 (qw 65536) fun x2 =>
 jc (α := Cur 19) (fun x3 _ x5 _ _ _ _ _ _ _ _ _ _ _ _ _ _ _ _ h22 =>
 kBin .geq x3 (qw 256) fun x24 =>
 jc (α := Cur 19) (fun x25 _ x27 _ _ _ _ _ _ _ _ _ _ _ _ _ _ _ _ h44 =>
 kConv .u8 x25 fun x46 =>
 kP (indexE none (.str (bs [0, 1, 2, 2, 3, 3, 3, 3, 4, 4, 4, 4, 4, 4, 4, 4, 5, 5, 5, 5, 5, 5, 5, 5, 5, 5, 5, 5, 5, 5, 5, 5, 6, 6, 6, 6, 6, 6, 6, 6, 6, 6, 6, 6, 6, 6, 6, 6, 6, 6, 6, 6, 6, 6, 6, 6, 6, 6, 6, 6, 6, 6, 6, 6, 7, 7, 7, 7, 7, 7, 7, 7, 7, 7, 7, 7, 7, 7, 7, 7, 7, 7, 7, 7, 7, 7, 7, 7, 7, 7, 7, 7, 7, 7, 7, 7, 7, 7, 7, 7, 7, 7, 7, 7, 7, 7, 7, 7, 7, 7, 7, 7, 7, 7, 7, 7, 7, 7, 7, 7, 7, 7, 7, 7, 7, 7, 7, 7, 8, 8, 8, 8, 8, 8, 8, 8, 8, 8, 8, 8, 8, 8, 8, 8, 8, 8, 8, 8, 8, 8, 8, 8, 8, 8, 8, 8, 8, 8, 8, 8, 8, 8, 8, 8, 8, 8, 8, 8, 8, 8, 8, 8, 8, 8, 8, 8, 8, 8, 8, 8, 8, 8, 8, 8, 8, 8, 8, 8, 8, 8, 8, 8, 8, 8, 8, 8, 8, 8, 8, 8, 8, 8, 8, 8, 8, 8, 8, 8, 8, 8, 8, 8, 8, 8, 8, 8, 8, 8, 8, 8, 8, 8, 8, 8, 8, 8, 8, 8, 8, 8, 8, 8, 8, 8, 8, 8, 8, 8, 8, 8, 8, 8, 8, 8, 8, 8, 8, 8, 8, 8, 8, 8, 8, 8, 8, 8])) x46) fun x47 =>
 kConv .i64 x47 fun x48 =>
 kBin .add x27 x48 fun x49 =>
 some (x49, h44)) fun j45 =>
 brS x24 (kBin .shr x3 (.int .u64 8) fun x50 =>
 kBin .add x5 (qi 8) fun x51 =>
 j45 x50 u x51 u u u u u u u u u u u u u u u u h22) (j45 x3 u x5 u u u u u u u u u u u u u u u u h22)) fun j23 =>
 brS x2 (kBin .shr x0 (.int .u64 16) fun x52 =>
 j23 x52 u (qi 16) u u u u u u u u u u u u u u u u h1) (j23 x0 u (qi 0) u u u u u u u u u u u u u u u u h1))
theorem p153_ok (k : Nat) : p153 k = funcS k 1 lit153 := by kernel_rfl
def p163 (k : Nat) : CtxK → List V → TH → R := fun _ => ap 2 (fun x0 x1 h2 =>
 kLen x0 fun x3 =>
 lp (α := Cur 19) (zN 19) (fun n24 x4 x5 _ _ _ _ _ x11 x12 _ _ _ _ _ _ _ _ _ _ h23 =>
 kBin .lss x12 x11 fun x25 =>
 brS x25 (kIS 1 x4 x12 fun x26 =>
 kL1 x26 h23 fun x27 =>
 kEq' false (.leaf .bool) x5 x27 fun x28 =>
 brS x28 (some (x12, h23)) (kBin .add x12 (qi 1) fun x29 =>
 n24 x4 x5 u u u u u x11 x29 u u u u u u u u u u h23)) (some ((.int .i64 (-1)), h23))) k x0 x1 u u u u u x3 (qi 0) u u u u u u u u u u h2)
theorem p163_ok (k : Nat) : p163 k = funcS k 2 lit163 := by kernel_rfl
def p187 (_ : Nat) : CtxK → List V → TH → R := fun X => ap 2 (fun x0 x1 h2 =>
 kNew (V.cellsR x0) h2 fun x3 h4 =>
 kNew zr0 h4 fun x5 h6 =>
 kLA 49 x3 h6 fun x7 =>
 kCall X 50 [x7] h6 fun x8 h9 =>
 kNot x8 fun x10 =>
 brS x10 (kB zr0 [] fun x11 =>
 kSA 49 x5 x11 h9 fun _ h13 =>
 rsS [.cell 4 true 49, .tmp 5] [x0, x1, x3, u, x5, (qi 10), x10, x7, x8, x10, x11, u, u, u, u, u, u, u, u, u, u, u, u, u, u, u, u, u, u] h13) (kFA 40 x3 fun x14 =>
 kFA 1 x14 fun x15 =>
 kL1 x15 h9 fun x16 =>
 kBin .lss x1 x16 fun x17 =>
 brS x17 (kB zr0 [] fun x18 =>
 kSA 49 x5 x18 h9 fun _ h20 =>
 rsS [.cell 4 true 49, .tmp 5] [x0, x1, x3, u, x5, (qi 80), x10, x7, x8, x10, u, x17, x1, x14, x15, x16, x17, x18, u, u, u, u, u, u, u, u, u, u, u] h20) (kLA 49 x3 h9 fun x21 =>
 kCall X 190 [x21, x1] h9 fun x22 h23 =>
 kBin .lss x22 (qi 0) fun x24 =>
 brS x24 (kB zr0 [] fun x25 =>
 kSA 49 x5 x25 h23 fun _ h27 =>
 rsS [.cell 4 true 49, .tmp 5] [x0, x1, x3, u, x5, (qi 141), x10, x7, x8, x10, u, x17, x1, x14, x15, x16, x17, u, x24, x21, x1, x22, x24, x25, u, u, u, u, u] h27) (kLA 49 x3 h23 fun x30 =>
 kLA 49 x3 h23 fun x33 =>
 kCall X 190 [x33, x1] h23 fun x34 h35 =>
 kCall X 52 [x30, x34] h35 fun x36 h37 =>
 kSA 49 x5 x36 h37 fun _ h39 =>
 dokS [h23, h35, h37, h39] ((fun h28 => kLA 49 x3 h28 fun x29 =>
 some (x29, h28), x30, 0, 1) :: []) (rsS [.cell 4 true 49, .tmp 5] [x0, x1, x3, u, x5, (qi 0), x10, x7, x8, x10, u, x17, x1, x14, x15, x16, x17, u, x24, x21, x1, x22, x24, u, x30, x33, x1, x34, x36] h39)))))
theorem p187_ok (k : Nat) : p187 k = funcS k 2 lit187 := by kernel_rfl
def p190 (_ : Nat) : CtxK → List V → TH → R := fun X => ap 2 (fun x0 x1 h2 =>
 kNew (V.cellsR x0) h2 fun x3 h4 =>
 kFA 40 x3 fun x5 =>
 kFA 1 x5 fun x6 =>
 kL1 x6 h4 fun x7 =>
 kBin .lss x1 x7 fun x8 =>
 jc (α := JT) (fun x9 h10 =>
 jc (α := JT) (fun x12 h13 =>
 jc (α := JT) (fun x15 h16 =>
 jc (α := JT) (fun x18 h19 =>
 jc (α := JT) (fun x21 h22 =>
 kPick x8 qt x21 fun x24 =>
 brS x24 (some ((.int .i64 (-1)), h22)) (kFA 40 x3 fun x25 =>
 kFA 1 x25 fun x26 =>
 kL1 x26 h22 fun x27 =>
 kBin .sub x1 x27 fun x28 =>
 kConv .i64 x28 fun x29 =>
 some (x29, h22))) fun j23 =>
 wtS x8 false (kBin .gtr x9 x18 fun x30 =>
 j23 x30 h19) (j23 u h19)) fun j20 =>
 wtS x8 false (kP (fieldE false 1 1 x15) fun x31 =>
 j20 x31 h16) (j20 u h16)) fun j17 =>
 wtS x8 false (kCall X 51 [x12] h13 fun x32 h33 =>
 j17 x32 h33) (j17 u h13)) fun j14 =>
 wtS x8 false (kLA 49 x3 h10 fun x34 =>
 j14 x34 h10) (j14 u h10)) fun j11 =>
 wtS x8 false (j11 x1 h4) (j11 u h4))
theorem p190_ok (k : Nat) : p190 k = funcS k 2 lit190 := by kernel_rfl
def p195 (_ : Nat) : CtxK → List V → TH → R := fun _ => ap 1 (fun x0 h1 =>
 kNew (V.cellsR x0) h1 fun x2 h3 =>
 kFA 1 x2 fun x4 =>
 kL1 x4 h3 fun x5 =>
 kBin .gtr x5 (qi 0) fun x6 =>
 some (x6, h3))
theorem p195_ok (k : Nat) : p195 k = funcS k 1 lit195 := by kernel_rfl
end
end Go.PE
