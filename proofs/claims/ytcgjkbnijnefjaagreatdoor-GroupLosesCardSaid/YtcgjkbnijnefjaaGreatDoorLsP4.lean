/- The same functions with names for their slots (part 4 of 4), printed by a program of our own: each is what the evaluator's law says of the literal. -/
import Derived.Test.YtcgjkbnijnefjaaGreatDoorLsL3
import Derived.KernelRfl
namespace Go.PE
set_option maxRecDepth 100000
noncomputable section
def p9 (_ : Nat) : CtxK → List V → TH → R := fun X => ap 1 (fun x0 h1 =>
 kNew (V.cellsR x0) h1 fun x2 h3 =>
 kLA 6 x2 h3 fun x4 =>
 kCall X 33 [x4] h3 fun x5 h6 =>
 jc (α := JT) (fun x7 h8 =>
 jc (α := JT) (fun x10 h11 =>
 jc (α := JT) (fun x13 h14 =>
 kPick x5 x13 qf fun x16 =>
 some (x16, h14)) fun j15 =>
 wtS x5 true (kEqI true x10 (qb 5) fun x17 =>
 j15 x17 h11) (j15 u h11)) fun j12 =>
 wtS x5 true (kL1 x7 h8 fun x18 =>
 j12 x18 h8) (j12 u h8)) fun j9 =>
 wtS x5 true (kFA 2 x2 fun x19 =>
 j9 x19 h6) (j9 u h6))
theorem p9_ok (k : Nat) : p9 k = funcS k 1 lit9 := by kernel_rfl
def p14 (_ : Nat) : CtxK → List V → TH → R := fun X => ap 3 (fun x0 x1 x2 h3 =>
 kNew (V.cellsR x2) h3 fun x4 h5 =>
 kFA 0 x4 fun x6 =>
 kL1 x6 h5 fun x7 =>
 kCall X 37 [x0, x7] h5 fun x8 h9 =>
 kEq' false (.nilR .fn) x8 .nilfn fun x10 =>
 jc (α := V → TH → PD → R) (fun x13 h14 d15 =>
 jc (α := JT) (fun x17 h18 =>
 jc (α := JT) (fun x20 h21 =>
 kPick x10 qt x20 fun x23 =>
 jc (α := JT) (fun x24 h25 =>
 jc (α := V → TH → PD → R) (fun x29 h30 d31 =>
 jc (α := JT) (fun x33 h34 =>
 jc (α := JT) (fun x36 h37 =>
 jc (α := JT) (fun x39 h40 =>
 jc (α := V → TH → PD → R) (fun x44 h45 d46 =>
 jc (α := JT) (fun x48 h49 =>
 jc (α := JT) (fun x51 h52 =>
 jc (α := JT) (fun x54 h55 =>
 kPick x23 qt x54 fun x57 =>
 dokS [h14, h55] d46 (brS x57 (some (.nils, h55)) (kFA 0 x4 fun x58 =>
 kL1 x58 h55 fun x59 =>
 kEqI false x59 (qb 15) fun x60 =>
 jc (α := Cur 62) (fun _ x62 _ _ _ x66 _ x68 _ _ _ _ _ _ _ _ _ _ _ _ _ _ _ _ _ _ _ _ _ _ _ _ _ _ _ _ _ _ _ _ _ _ _ _ _ _ _ _ _ _ _ _ _ _ _ _ _ _ _ _ _ _ h123 =>
 kLA 131 x66 h123 fun x125 =>
 kCv X x68 [x62, x125] h123 fun x126 h127 =>
 some (x126, h127)) fun j124 =>
 brS x60 (kFA 123 x4 fun x128 =>
 kFA 3 x128 fun x129 =>
 kL1 x129 h55 fun x132 =>
 kNilc x0 fun x133 =>
 kFA 2 x133 fun x134 =>
 kL1 x134 h55 fun x137 =>
 kCall X 39 [x132] h55 fun x138 h139 =>
 kEqI true x138 x137 fun x140 =>
 dokS [h55, h139] ((fun h135 => kL1 x134 h135 fun x136 =>
 some (x136, h135), x137, 0, 1) :: []) (brS x140 (some (.nils, h139)) (j124 u x1 u u u x4 u x8 u u u u u u u u u u u u u u u u u u u u u u u u u u u u u u u u u u u u u u u u u u u u u u u u u u u u u u h139))) (kFA 12 x4 fun x141 =>
 kL1 x141 h55 fun x144 =>
 kNilc x0 fun x145 =>
 kFA 2 x145 fun x146 =>
 kL1 x146 h55 fun x149 =>
 kEqI true x144 x149 fun x150 =>
 jc (α := JT) (fun x151 h152 =>
 jc (α := V → TH → PD → R) (fun x156 h157 d158 =>
 jc (α := JT) (fun x160 h161 =>
 jc (α := JT) (fun x163 h164 =>
 jc (α := JT) (fun x166 h167 =>
 jc (α := V → TH → PD → R) (fun x171 h172 d173 =>
 jc (α := JT) (fun x175 h176 =>
 kPick x150 qt x175 fun x178 =>
 dokS [h176] d173 (brS x178 (some (.nils, h176)) (j124 u x1 u u u x4 u x8 u u u u u u u u u u u u u u u u u u u u u u u u u u u u u u u u u u u u u u u u u u u u u u u u u u u u u u h176))) fun j177 =>
 wtS x150 false (kEqI true x156 x171 fun x179 =>
 j177 x179 h172) (j177 u h172)) fun j174 =>
 wtS x150 false (kL1 x166 h167 fun x180 =>
 j174 x180 h167 d158) (j174 u h167 d158)) fun j168 =>
 wtS x150 false (kFA 52 x163 fun x181 =>
 j168 x181 h164) (j168 u h164)) fun j165 =>
 wtS x150 false (kNilc x160 fun x182 =>
 j165 x182 h161) (j165 u h161)) fun j162 =>
 wtS x150 false (j162 x0 h157) (j162 u h157)) fun j159 =>
 wtS x150 false (kL1 x151 h152 fun x183 =>
 j159 x183 h152 []) (j159 u h152 [])) fun j153 =>
 wtS x150 false (kFA 3 x4 fun x184 =>
 j153 x184 h55) (j153 u h55))))) fun j56 =>
 wtS x23 false (kEqI true x29 x51 fun x185 =>
 j56 x185 h52) (j56 u h52)) fun j53 =>
 wtS x23 false (kBin .add (qb 10) x48 fun x186 =>
 j53 x186 h49) (j53 u h49)) fun j50 =>
 wtS x23 false (kConv .u8 x44 fun x187 =>
 j50 x187 h45) (j50 u h45)) fun j47 =>
 wtS x23 false (kL1 x39 h40 fun x188 =>
 j47 x188 h40 d31) (j47 u h40 d31)) fun j41 =>
 wtS x23 false (kFA 0 x36 fun x189 =>
 j41 x189 h37) (j41 u h37)) fun j38 =>
 wtS x23 false (kNilc x33 fun x190 =>
 j38 x190 h34) (j38 u h34)) fun j35 =>
 wtS x23 false (j35 x0 h30) (j35 u h30)) fun j32 =>
 wtS x23 false (kL1 x24 h25 fun x191 =>
 j32 x191 h25 d15) (j32 u h25 d15)) fun j26 =>
 wtS x23 false (kFA 2 x4 fun x192 =>
 j26 x192 h21) (j26 u h21)) fun j22 =>
 wtS x10 false (kNot x17 fun x193 =>
 j22 x193 h18) (j22 u h18)) fun j19 =>
 wtS x10 false (kCall X 38 [x13] h14 fun x194 h195 =>
 j19 x194 h195) (j19 u h14)) fun j16 =>
 wtS x10 false (kLA 131 x4 h9 fun x196 =>
 j16 x196 h9 []) (j16 u h9 []))
theorem p14_ok (k : Nat) : p14 k = funcS k 3 lit14 := by kernel_rfl
def p16 (k : Nat) : CtxK → List V → TH → R := fun X => ap 1 (fun x0 h1 =>
 lp (α := Cur 13) (zN 13) (fun n16 x2 _ _ x5 _ _ _ _ _ _ _ _ _ h15 =>
 kBin .lss x5 (qb 6) fun x17 =>
 brS x17 (kCall X 39 [x5] h15 fun x18 h19 =>
 kEqI false x18 x2 fun x20 =>
 brS x20 (some (x5, h19)) (kBin .add x5 (qb 1) fun x21 =>
 n16 x2 u u x21 u u u u u u u u u h19)) (some ((qb 6), h15))) k x0 u u (qb 0) u u u u u u u u u h1)
theorem p16_ok (k : Nat) : p16 k = funcS k 1 lit16 := by kernel_rfl
def p19 (k : Nat) : CtxK → List V → TH → R := fun X => ap 2 (fun x0 x1 h2 =>
 kNew (V.cellsR x0) h2 fun x3 h4 =>
 kL1 x3 h4 fun x5 =>
 kNilc x5 fun x6 =>
 kFA 1 x6 fun x7 =>
 kL1 x7 h4 fun x8 =>
 kEqI false x8 (qi 2) fun x9 =>
 brS x9 (kL1 x3 h4 fun x12 =>
 kL1 x3 h4 fun x15 =>
 kNilc x15 fun x16 =>
 kFA 54 x16 fun x17 =>
 kLA 5 x17 h4 fun x20 =>
 kL1 x3 h4 fun x23 =>
 kCall X 43 [x1] h4 fun x24 h25 =>
 kCall X 42 [x24, x20] h25 fun x26 h27 =>
 kCall X 41 [x12, x26, (.fn 44 [x23] [])] h27 fun x28 h29 =>
 dokS [h4, h25, h27, h29] ((fun h21 => kL1 x3 h21 fun x22 =>
 some (x22, h21), x23, 0, 2) :: ((fun h18 => kLA 5 x17 h18 fun x19 =>
 some (x19, h18), x20, 0, 1) :: ((fun h13 => kL1 x3 h13 fun x14 =>
 some (x14, h13), x15, 0, 1) :: ((fun h10 => kL1 x3 h10 fun x11 =>
 some (x11, h10), x12, 0, 2) :: [])))) (some (x28, h29))) (kEqI false x8 (qi 3) fun x30 =>
 brS x30 (kL1 x3 h4 fun x33 =>
 kL1 x3 h4 fun x36 =>
 kNilc x36 fun x37 =>
 kFA 53 x37 fun x38 =>
 kL1 x38 h4 fun x41 =>
 kL1 x3 h4 fun x44 =>
 kNilc x44 fun x45 =>
 kFA 59 x45 fun x46 =>
 kLA 5 x46 h4 fun x49 =>
 kL1 x3 h4 fun x52 =>
 kCall X 42 [x41, x49] h4 fun x53 h54 =>
 kCall X 41 [x33, x53, (.fn 45 [x52] [])] h54 fun x55 h56 =>
 dokS [h4, h54, h56] ((fun h50 => kL1 x3 h50 fun x51 =>
 some (x51, h50), x52, 0, 1) :: ((fun h31 => kL1 x3 h31 fun x32 =>
 some (x32, h31), x33, 0, 1) :: [])) (some (x55, h56))) (kL1 x3 h4 fun x57 =>
 kNilc x57 fun x58 =>
 kFA 309 x58 fun x59 =>
 kL1 x59 h4 fun x60 =>
 kLen x60 fun x61 =>
 lp (α := Cur 89) (zN 89) (fun n152 _ _ x64 _ _ x67 _ _ _ _ _ _ _ _ _ _ _ _ _ _ _ _ _ _ _ _ _ _ _ _ _ _ _ _ _ _ _ _ _ _ _ _ _ _ _ x107 x108 x109 _ _ _ _ _ _ _ _ _ _ _ _ _ _ _ _ _ _ _ _ _ _ _ _ _ _ _ _ _ _ _ _ _ _ _ _ _ _ _ _ _ h151 =>
 kBin .lss x109 x108 fun x153 =>
 brS x153 (kIS 15 x107 x109 fun x154 =>
 kLA 15 x154 h151 fun x155 =>
 kNew zr5 h151 fun x156 h157 =>
 kSA 15 x156 x155 h157 fun _ h159 =>
 kL1 x64 h159 fun x162 =>
 kL1 x64 h159 fun x165 =>
 kNilc x165 fun x166 =>
 kFA 53 x166 fun x167 =>
 kL1 x167 h159 fun x170 =>
 kFA 10 x156 fun x171 =>
 kLA 5 x171 h159 fun x174 =>
 kCall X 42 [x170, x174] h159 fun x175 h176 =>
 kCall X 41 [x162, x175, (.fn 46 [] [x64, x156])] h176 fun x177 h178 =>
 kAp 131 1400 x67 x177 h178 fun x179 h180 =>
 dokS [h159, h176, h178, h180] ((fun h160 => kL1 x64 h160 fun x161 =>
 some (x161, h160), x162, 0, 1) :: []) (kBin .add x109 (qi 1) fun x181 =>
 n152 u u x64 u u x179 u u u u u u u u u u u u u u u u u u u u u u u u u u u u u u u u u u u u u u u x107 x108 x181 u u u u u u u u u u u u u u u u u u u u u u u u u u u u u u u u u u u u u u u u u h180)) (kL1 x64 h151 fun x182 =>
 kNilc x182 fun x183 =>
 kFA 310 x183 fun x184 =>
 kLA 42 x184 h151 fun x185 =>
 lp (α := Cur 89) (zN 89) (fun n276 _ _ x188 _ _ x191 _ _ _ _ _ _ _ _ _ _ _ _ _ _ _ _ _ _ _ _ _ _ _ _ _ _ _ _ _ _ _ _ _ _ _ _ _ _ _ _ _ _ _ _ _ _ _ _ _ _ _ _ _ _ _ _ _ _ _ _ _ x253 x254 _ _ _ _ _ _ _ _ _ _ _ _ _ _ _ _ _ _ _ _ h275 =>
 kBin .lss x254 (qi 3) fun x277 =>
 brS x277 (kP (indexE (some (3, 14, true)) x253 x254) fun x278 =>
 kNew zr6 h275 fun x279 h280 =>
 kSA 14 x279 x278 h280 fun _ h282 =>
 kFA 0 x279 fun x283 =>
 kFA 1 x283 fun x284 =>
 kL1 x284 h282 fun x285 =>
 kBin .gtr x285 (qw 0) fun x286 =>
 jc (α := Cur 89) (fun _ _ x289 _ _ x292 _ _ _ _ _ _ _ _ _ _ _ _ _ _ _ _ _ _ _ _ _ _ _ _ _ _ _ _ _ _ _ _ _ _ _ _ _ _ _ _ _ _ _ _ _ _ _ _ _ _ _ _ _ _ _ _ _ _ _ _ _ x354 x355 _ _ _ _ _ _ _ _ _ _ _ _ _ _ _ _ _ _ _ _ h376 =>
 kBin .add x355 (qi 1) fun x378 =>
 n276 u u x289 u u x292 u u u u u u u u u u u u u u u u u u u u u u u u u u u u u u u u u u u u u u u u u u u u u u u u u u u u u u u u u u u u u x354 x378 u u u u u u u u u u u u u u u u u u u u h376) fun j377 =>
 brS x286 (kL1 x188 h282 fun x381 =>
 kL1 x188 h282 fun x384 =>
 kNilc x384 fun x385 =>
 kFA 53 x385 fun x386 =>
 kL1 x386 h282 fun x389 =>
 kFA 9 x279 fun x390 =>
 kLA 5 x390 h282 fun x393 =>
 kCall X 42 [x389, x393] h282 fun x394 h395 =>
 kCall X 41 [x381, x394, (.fn 48 [] [x188, x279])] h395 fun x396 h397 =>
 kAp 131 1400 x191 x396 h397 fun x398 h399 =>
 dokS [h282, h395, h397, h399] ((fun h379 => kL1 x188 h379 fun x380 =>
 some (x380, h379), x381, 0, 1) :: []) (j377 u u x188 u u x398 u u u u u u u u u u u u u u u u u u u u u u u u u u u u u u u u u u u u u u u u u u u u u u u u u u u u u u u u u u u u u x253 x254 u u u u u u u u u u u u u u u u u u u u h399)) (j377 u u x188 u u x191 u u u u u u u u u u u u u u u u u u u u u u u u u u u u u u u u u u u u u u u u u u u u u u u u u u u u u u u u u u u u u x253 x254 u u u u u u u u u u u u u u u u u u u u h282)) (some (x191, h275))) k u u x64 u u x67 u u u u u u u u u u u u u u u u u u u u u u u u u u u u u u u u u u u u u u u u u u u u u u u u u u u u u u u u u u u u u x185 (qi 0) u u u u u u u u u u u u u u u u u u u u h151)) k u u x3 u u .nils u u u u u u u u u u u u u u u u u u u u u u u u u u u u u u u u u u u u u u u x60 x61 (qi 0) u u u u u u u u u u u u u u u u u u u u u u u u u u u u u u u u u u u u u u u u u h4)))
theorem p19_ok (k : Nat) : p19 k = funcS k 2 lit19 := by kernel_rfl
def p20 (_ : Nat) : CtxK → List V → TH → R := fun X => ap 2 (fun x0 x1 h2 =>
 kNew (V.cellsR x1) h2 fun x3 h4 =>
 kNilc x0 fun x5 =>
 kFA 0 x5 fun x6 =>
 kL1 x6 h4 fun x9 =>
 kNilc x0 fun x10 =>
 kFA 1 x10 fun x11 =>
 kL1 x11 h4 fun x14 =>
 kCall X 12 [x9, x14] h4 fun x15 h16 =>
 kIS 1 x15 (qi 0) fun x17 =>
 kL1 x17 h16 fun x20 =>
 dokS [h4, h16] [] (kNilc x0 fun x21 =>
 kFA 7 x21 fun x22 =>
 kL1 x22 h16 fun x25 =>
 kNilc x0 fun x26 =>
 kFA 2 x26 fun x27 =>
 kIA 5 1 x27 x20 fun x28 =>
 kL1 x28 h16 fun x31 =>
 kNilc x0 fun x32 =>
 kFA 0 x32 fun x33 =>
 kL1 x33 h16 fun x36 =>
 kFA 0 x3 fun x37 =>
 kL1 x37 h16 fun x40 =>
 kBin .add (qb 20) x40 fun x41 =>
 kBin .add (qi 10) x20 fun x42 =>
 kConv .u8 x42 fun x43 =>
 kLA 6 x3 h16 fun x46 =>
 kB zr1 [(0, 1, (qb 15)), (1, 1, x41), (2, 1, x43), (123, 6, x46)] fun x47 =>
 kCall X 14 [x31, x36, x47] h16 fun x48 h49 =>
 kAp 131 1400 x25 x48 h49 fun x50 h51 =>
 kNilc x0 fun x52 =>
 kFA 7 x52 fun x53 =>
 kS1 x53 x50 h51 fun _ h55 =>
 dokS [h16, h49, h51, h55] ((fun h23 => kL1 x22 h23 fun x24 =>
 some (x24, h23), x25, 0, 1) :: []) (some (.tup [], h55))))
theorem p20_ok (k : Nat) : p20 k = funcS k 2 lit20 := by kernel_rfl
def p22 (_ : Nat) : CtxK → List V → TH → R := fun X => ap 1 (fun x0 h1 =>
 kNew (V.cellsR x0) h1 fun x2 h3 =>
 kLA 49 x2 h3 fun x4 =>
 kCall X 50 [x4] h3 fun x5 h6 =>
 kNot x5 fun x7 =>
 brS x7 (some (.tup [(qw 0), (qw 0)], h6)) (kLA 49 x2 h6 fun x8 =>
 kCall X 51 [x8] h6 fun x9 h10 =>
 kNew zr2 h10 fun x11 h12 =>
 kSA 8 x11 x9 h12 fun _ h14 =>
 kFA 0 x11 fun x15 =>
 kL1 x15 h14 fun x18 =>
 kFA 1 x11 fun x19 =>
 kL1 x19 h14 fun x22 =>
 dokS [h14] [] (some (.tup [x18, x22], h14))))
theorem p22_ok (k : Nat) : p22 k = funcS k 1 lit22 := by kernel_rfl
def p24 (_ : Nat) : CtxK → List V → TH → R := fun X => ap 3 (fun x0 x1 x2 h3 =>
 kNew (V.cellsR x2) h3 fun x4 h5 =>
 kLA 49 x4 h5 fun x6 =>
 kCall X 36 [x6] h5 fun x7 h8 =>
 kB zr9 [(0, 1, x0), (2, 1, x1), (3, 49, x7)] fun x9 =>
 kNew (V.cellsR x9) h8 fun x10 h11 =>
 some (x10, h11))
theorem p24_ok (k : Nat) : p24 k = funcS k 3 lit24 := by kernel_rfl
def p25 (_ : Nat) : CtxK → List V → TH → R := fun X => ap 2 (fun x0 x1 h2 =>
 kNilc x0 fun x3 =>
 kFA 2 x3 fun x4 =>
 kL1 x4 h2 fun x5 =>
 kCall X 53 [x1, x5] h2 fun x6 h7 =>
 kEqI false x6 (qw 0) fun x8 =>
 jc (α := JT) (fun x9 h10 =>
 jc (α := JT) (fun x12 h13 =>
 jc (α := JT) (fun x15 h16 =>
 jc (α := JT) (fun x18 h19 =>
 jc (α := JT) (fun x21 h22 =>
 jc (α := JT) (fun x24 h25 =>
 kPick x8 qt x24 fun x27 =>
 brS x27 (some (.nils, h25)) (kNilc x0 fun x28 =>
 kFA 0 x28 fun x29 =>
 kL1 x29 h25 fun x32 =>
 kNilc x0 fun x33 =>
 kFA 2 x33 fun x34 =>
 kL1 x34 h25 fun x37 =>
 kNilc x0 fun x38 =>
 kFA 3 x38 fun x39 =>
 kLA 49 x39 h25 fun x42 =>
 kNilc x0 fun x43 =>
 kFA 2 x43 fun x44 =>
 kL1 x44 h25 fun x47 =>
 kCall X 12 [x1, x47] h25 fun x48 h49 =>
 kB zr9 [(0, 1, x32), (2, 1, x37), (3, 49, x42), (52, 1, x6), (53, 1, x48), (1, 1, (qi 1))] fun x50 =>
 kNilc x0 fun x51 =>
 kSA 352 x51 x50 h49 fun _ h53 =>
 dokS [h25, h49, h53] ((fun h40 => kLA 49 x39 h40 fun x41 =>
 some (x41, h40), x42, 0, 1) :: ((fun h35 => kL1 x34 h35 fun x36 =>
 some (x36, h35), x37, 0, 1) :: ((fun h30 => kL1 x29 h30 fun x31 =>
 some (x31, h30), x32, 0, 1) :: []))) (kNilc x0 fun x54 =>
 kFA 53 x54 fun x55 =>
 kL1 x55 h53 fun x58 =>
 kNilc x0 fun x59 =>
 kFA 0 x59 fun x60 =>
 kL1 x60 h53 fun x63 =>
 kCall X 54 [x58, x63] h53 fun x64 h65 =>
 kNot x64 fun x66 =>
 dokS [h53, h65] [] (jc (α := Cur 107) (fun _ _ _ _ _ _ _ _ _ _ _ _ _ _ _ _ _ _ _ _ _ _ _ _ _ _ _ _ _ _ _ _ _ _ _ _ _ _ _ _ _ _ _ _ _ _ _ _ _ _ _ _ _ _ _ _ _ _ _ _ _ _ _ _ _ _ _ _ _ _ _ _ _ _ _ _ _ _ _ _ _ _ _ _ _ _ _ _ _ _ _ _ _ _ _ _ _ _ _ _ _ _ _ _ _ _ _ h174 =>
 some (.nils, h174)) fun j175 =>
 brS x66 (kNilc x0 fun x176 =>
 kFA 1 x176 fun x177 =>
 kS1 x177 (qi 0) h65 fun _ h179 =>
 j175 u u u u u u u u u u u u u u u u u u u u u u u u u u u u u u u u u u u u u u u u u u u u u u u u u u u u u u u u u u u u u u u u u u u u u u u u u u u u u u u u u u u u u u u u u u u u u u u u u u u u u u u u u u u h179) (kNilc x0 fun x180 =>
 kFA 0 x180 fun x181 =>
 kL1 x181 h65 fun x184 =>
 kCall X 55 [x0] h65 fun x185 h186 =>
 kEqI false x185 x184 fun x187 =>
 jc (α := JT) (fun x188 h189 =>
 jc (α := JT) (fun x191 h192 =>
 jc (α := JT) (fun x194 h195 =>
 jc (α := V → TH → PD → R) (fun x199 h200 d201 =>
 jc (α := JT) (fun x203 h204 =>
 jc (α := JT) (fun x206 h207 =>
 kPick x187 x206 qf fun x209 =>
 dokS [h65, h207] d201 (brS x209 (kNilc x0 fun x210 =>
 kFA 1 x210 fun x211 =>
 kS1 x211 (qi 2) h207 fun _ h213 =>
 kNilc x0 fun x214 =>
 kFA 0 x214 fun x215 =>
 kL1 x215 h213 fun x218 =>
 kNilc x0 fun x219 =>
 kFA 0 x219 fun x220 =>
 kL1 x220 h213 fun x223 =>
 kNilc x0 fun x224 =>
 kFA 3 x224 fun x225 =>
 kLA 49 x225 h213 fun x228 =>
 kNilc x0 fun x229 =>
 kFA 54 x229 fun x230 =>
 kIA 5 1 x230 x218 fun x231 =>
 kNilc x0 fun x232 =>
 kFA 64 x232 fun x233 =>
 kS1 x231 qt h213 fun _ h235 =>
 kIA 5 49 x233 x223 fun x236 =>
 kSA 49 x236 x228 h235 fun _ h238 =>
 dokS [h213, h235, h238] [] (kCall X 43 [x1] h238 fun x239 h240 =>
 kCall X 41 [x0, x239, (.fn 44 [x0] [])] h240 fun x241 h242 =>
 kCall X 56 [x0, x1] h242 fun x243 h244 =>
 kAp 131 1400 x241 x243 h244 fun x245 h246 =>
 some (x245, h246))) (j175 u u u u u u u u u u u u u u u u u u u u u u u u u u u u u u u u u u u u u u u u u u u u u u u u u u u u u u u u u u u u u u u u u u u u u u u u u u u u u u u u u u u u u u u u u u u u u u u u u u u u u u u u u u u h207))) fun j208 =>
 wtS x187 true (kBin .geq x203 (qi 2) fun x247 =>
 j208 x247 h204) (j208 u h204)) fun j205 =>
 wtS x187 true (kLen x199 fun x248 =>
 j205 x248 h200) (j205 u h200)) fun j202 =>
 wtS x187 true (kL1 x194 h195 fun x249 =>
 j202 x249 h195 ((fun h182 => kL1 x181 h182 fun x183 =>
 some (x183, h182), x184, 0, 1) :: [])) (j202 u h195 ((fun h182 => kL1 x181 h182 fun x183 =>
 some (x183, h182), x184, 0, 1) :: []))) fun j196 =>
 wtS x187 true (kFA 53 x191 fun x250 =>
 j196 x250 h192) (j196 u h192)) fun j193 =>
 wtS x187 true (kNilc x188 fun x251 =>
 j193 x251 h189) (j193 u h189)) fun j190 =>
 wtS x187 true (j190 x0 h186) (j190 u h186)))))) fun j26 =>
 wtS x8 false (kEqI false x9 x21 fun x252 =>
 j26 x252 h22) (j26 u h22)) fun j23 =>
 wtS x8 false (kL1 x18 h19 fun x253 =>
 j23 x253 h19) (j23 u h19)) fun j20 =>
 wtS x8 false (kFA 52 x15 fun x254 =>
 j20 x254 h16) (j20 u h16)) fun j17 =>
 wtS x8 false (kNilc x12 fun x255 =>
 j17 x255 h13) (j17 u h13)) fun j14 =>
 wtS x8 false (j14 x0 h10) (j14 u h10)) fun j11 =>
 wtS x8 false (j11 x6 h7) (j11 u h7))
theorem p25_ok (k : Nat) : p25 k = funcS k 2 lit25 := by kernel_rfl
def p30 (_ : Nat) : CtxK → List V → TH → R := fun _ => ap 1 (fun x0 h1 =>
 kNilc x0 fun x2 =>
 kFA 52 x2 fun x3 =>
 kL1 x3 h1 fun x4 =>
 some (x4, h1))
theorem p30_ok (k : Nat) : p30 k = funcS k 1 lit30 := by kernel_rfl
def p34 (_ : Nat) : CtxK → List V → TH → R := fun _ => ap 1 (fun x0 h1 =>
 kEq' false (.nilR .sl) x0 .nils fun x2 =>
 brS x2 (some (.nils, h1)) (kBS 1 [(qi 0)] 0 [] h1 fun x3 h4 =>
 kAp 1 8 x3 x0 h4 fun x5 h6 =>
 some (x5, h6)))
theorem p34_ok (k : Nat) : p34 k = funcS k 1 lit34 := by kernel_rfl
def p36 (_ : Nat) : CtxK → List V → TH → R := fun _ => ap 1 (fun x0 h1 =>
 kNew (V.cellsR x0) h1 fun x2 h3 =>
 kNew zr0 h3 fun x4 h5 =>
 kFA 48 x2 fun x6 =>
 kL1 x6 h5 fun x7 =>
 kLen x7 fun x8 =>
 kMS 8 40 zr2 x8 x8 h5 fun x9 h10 =>
 kFA 48 x2 fun x11 =>
 kL1 x11 h10 fun x12 =>
 kCo 8 x9 x12 h10 fun x13 h14 =>
 kFA 48 x2 fun x15 =>
 kS1 x15 x9 h14 fun _ h17 =>
 kLA 49 x2 h17 fun x18 =>
 kSA 49 x4 x18 h17 fun _ h20 =>
 rsS [.cell 2 true 49] [x0, x2, x4, x9, x6, x7, x8, x9, x9, x11, x12, x13, x9, x15, x18] h20)
theorem p36_ok (k : Nat) : p36 k = funcS k 1 lit36 := by kernel_rfl
def p41 (k : Nat) : CtxK → List V → TH → R := fun X => ap 3 (fun x0 x1 x2 h3 =>
 kCall X 84 [x1] h3 fun x4 h5 =>
 kCall X 83 [x4] h5 fun x6 h7 =>
 kLen x6 fun x8 =>
 lp (α := Cur 32) (zN 32) (fun n42 x9 _ x11 _ _ _ _ x16 _ _ _ _ x21 x22 x23 _ _ _ _ _ _ _ _ _ _ _ _ _ _ _ _ _ h41 =>
 kBin .lss x23 x22 fun x43 =>
 brS x43 (kIS 1 x21 x23 fun x44 =>
 kL1 x44 h41 fun x45 =>
 kNilc x9 fun x46 =>
 kFA 0 x46 fun x47 =>
 kL1 x47 h41 fun x48 =>
 kEqI true x45 x48 fun x49 =>
 jc (α := Cur 32) (fun x50 _ x52 _ _ _ _ x57 _ _ _ _ x62 x63 x64 _ _ _ _ _ _ _ _ _ _ _ _ _ _ _ _ _ h82 =>
 kBin .add x64 (qi 1) fun x84 =>
 n42 x50 u x52 u u u u x57 u u u u x62 x63 x84 u u u u u u u u u u u u u u u u u h82) fun j83 =>
 brS x49 (kCv X x11 [x45] h41 fun x85 h86 =>
 kBS 131 zr1 1 [(0, 131, x85)] h86 fun x87 h88 =>
 kAp 131 1400 x16 x87 h88 fun x89 h90 =>
 j83 x9 u x11 u u u u x89 u u u u x21 x22 x23 u u u u u u u u u u u u u u u u u h90) (j83 x9 u x11 u u u u x16 u u u u x21 x22 x23 u u u u u u u u u u u u u u u u u h41)) (some (x16, h41))) k x0 u x2 u u u u .nils u u u u x6 x8 (qi 0) u u u u u u u u u u u u u u u u u h7)
theorem p41_ok (k : Nat) : p41 k = funcS k 3 lit41 := by kernel_rfl
def p44 (_ : Nat) : CtxK → List V → TH → R := fun X => ap 2 (fun x0 x1 h2 =>
 kNew zr1 h2 fun x3 h4 =>
 kCall X 89 [x0, (qb 7), x1] h4 fun x5 h6 =>
 kSA 131 x3 x5 h6 fun _ h8 =>
 rsS [.cell 4 true 131] [x0, x1, u, u, x3, x0, x1, x5] h8)
theorem p44_ok (k : Nat) : p44 k = funcS k 2 lit44 := by kernel_rfl
def p53 (_ : Nat) : CtxK → List V → TH → R := fun X => ap 2 (fun x0 x1 h2 =>
 kCall X 35 [x0, x1] h2 fun x3 h4 =>
 kP (fieldE false 0 1 x3) fun x5 =>
 some (x5, h4))
theorem p53_ok (k : Nat) : p53 k = funcS k 2 lit53 := by kernel_rfl
def p63 (_ : Nat) : CtxK → List V → TH → R := fun X => ap 3 (fun x0 _ x2 h3 =>
 kNew (V.cellsR x2) h3 fun x4 h5 =>
 kLA 131 x4 h5 fun x6 =>
 kCall X 104 [x6] h5 fun x7 h8 =>
 kCall X 55 [x0] h8 fun x9 h10 =>
 kEqI true x7 x9 fun x11 =>
 brS x11 (some (.nils, h10)) (kLA 131 x4 h10 fun x12 =>
 kCall X 104 [x12] h10 fun x13 h14 =>
 kCall X 89 [x0, (qb 8), x13] h14 fun x15 h16 =>
 kNew zr1 h16 fun x17 h18 =>
 kSA 131 x17 x15 h18 fun _ h20 =>
 kNilc x0 fun x21 =>
 kFA 3 x21 fun x22 =>
 kLA 49 x22 h20 fun x23 =>
 kFA 13 x17 fun x24 =>
 kSA 49 x24 x23 h20 fun _ h26 =>
 kLA 131 x17 h26 fun x27 =>
 kBS 131 zr1 1 [(0, 131, x27)] h26 fun x28 h29 =>
 some (x28, h29)))
theorem p63_ok (k : Nat) : p63 k = funcS k 3 lit63 := by kernel_rfl
def p68 (k : Nat) : CtxK → List V → TH → R := fun X => ap 3 (fun x0 _ x2 h3 =>
 kNew (V.cellsR x2) h3 fun x4 h5 =>
 kLA 131 x4 h5 fun x6 =>
 kCall X 108 [x0, (qi 4), x6] h5 fun x7 h8 =>
 kNot x7 fun x9 =>
 brS x9 (some (.nils, h8)) (kNilc x0 fun x10 =>
 kFA 309 x10 fun x11 =>
 kL1 x11 h8 fun x12 =>
 kLen x12 fun x13 =>
 lp (α := Cur 96) (zN 96) (fun n111 x14 _ _ _ _ x19 _ _ _ _ _ _ _ _ _ _ _ x31 x32 _ _ _ _ _ _ _ _ _ _ _ _ _ _ _ _ _ _ _ _ _ _ _ _ _ _ _ _ _ _ _ _ _ _ _ _ _ _ _ _ _ _ _ _ _ _ _ _ _ _ _ _ _ _ _ _ _ _ _ _ _ _ _ _ _ _ _ _ _ _ _ _ _ _ _ _ _ h110 =>
 kBin .lss x32 x31 fun x112 =>
 brS x112 (kNilc x14 fun x113 =>
 kFA 309 x113 fun x114 =>
 kL1 x114 h110 fun x117 =>
 kIS 15 x117 x32 fun x118 =>
 kFA 0 x118 fun x119 =>
 kFA 1 x119 fun x120 =>
 kL1 x120 h110 fun x123 =>
 kFA 122 x19 fun x124 =>
 kL1 x124 h110 fun x127 =>
 kBin .leq x123 x127 fun x128 =>
 dokS [h110] [] (jc (α := Cur 96) (fun x129 _ _ _ _ x134 _ _ _ _ _ _ _ _ _ _ _ x146 x147 _ _ _ _ _ _ _ _ _ _ _ _ _ _ _ _ _ _ _ _ _ _ _ _ _ _ _ _ _ _ _ _ _ _ _ _ _ _ _ _ _ _ _ _ _ _ _ _ _ _ _ _ _ _ _ _ _ _ _ _ _ _ _ _ _ _ _ _ _ _ _ _ _ _ _ _ _ h225 =>
 kBin .add x147 (qi 1) fun x227 =>
 n111 x129 u u u u x134 u u u u u u u u u u u x146 x227 u u u u u u u u u u u u u u u u u u u u u u u u u u u u u u u u u u u u u u u u u u u u u u u u u u u u u u u u u u u u u u u u u u u u u u u u u u u u u h225) fun j226 =>
 brS x128 (kNilc x14 fun x228 =>
 kFA 309 x228 fun x229 =>
 kL1 x229 h110 fun x232 =>
 kLA 131 x19 h110 fun x235 =>
 kIS 15 x232 x32 fun x236 =>
 kFA 10 x236 fun x237 =>
 kCall X 104 [x235] h110 fun x238 h239 =>
 kIA 5 1 x237 x238 fun x240 =>
 kS1 x240 qt h239 fun _ h242 =>
 dokS [h110, h239, h242] ((fun h230 => kL1 x229 h230 fun x231 =>
 some (x231, h230), x232, 0, 1) :: []) (j226 x14 u u u u x19 u u u u u u u u u u u x31 x32 u u u u u u u u u u u u u u u u u u u u u u u u u u u u u u u u u u u u u u u u u u u u u u u u u u u u u u u u u u u u u u u u u u u u u u u u u u u u u h242)) (j226 x14 u u u u x19 u u u u u u u u u u u x31 x32 u u u u u u u u u u u u u u u u u u u u u u u u u u u u u u u u u u u u u u u u u u u u u u u u u u u u u u u u u u u u u u u u u u u u u u u u u u u u u h110))) (lp (α := Cur 96) (zN 96) (fun n340 x243 _ _ _ _ _ _ _ x251 _ _ _ _ _ _ _ _ _ _ _ _ _ _ _ _ _ _ _ _ _ _ _ _ _ _ _ _ _ _ _ _ _ _ _ _ _ _ _ _ _ _ _ _ _ _ _ _ _ _ _ _ _ _ _ _ _ _ _ _ _ _ _ _ _ _ _ _ _ _ _ _ _ _ _ _ _ _ _ _ _ _ _ _ _ _ _ h339 =>
 kNilc x243 fun x341 =>
 kFA 309 x341 fun x342 =>
 kL1 x342 h339 fun x345 =>
 kLen x345 fun x346 =>
 kBin .gtr x346 (qi 0) fun x347 =>
 jc (α := JT) (fun x348 h349 =>
 jc (α := JT) (fun x351 h352 =>
 jc (α := JT) (fun x354 h355 =>
 jc (α := V → TH → PD → R) (fun x359 h360 d361 =>
 jc (α := JT) (fun x363 h364 =>
 jc (α := JT) (fun x366 h367 =>
 jc (α := V → TH → PD → R) (fun x371 h372 d373 =>
 jc (α := JT) (fun x375 h376 =>
 jc (α := JT) (fun x378 h379 =>
 jc (α := JT) (fun x381 h382 =>
 jc (α := V → TH → PD → R) (fun x386 h387 d388 =>
 jc (α := JT) (fun x390 h391 =>
 kPick x347 x390 qf fun x393 =>
 dokS [h387, h391] d388 (brS x393 (kNilc x243 fun x394 =>
 kFA 309 x394 fun x395 =>
 kL1 x395 h391 fun x398 =>
 kIS 15 x398 (qi 0) fun x399 =>
 kFA 0 x399 fun x400 =>
 kFA 2 x400 fun x401 =>
 kLA 6 x401 h391 fun x404 =>
 kNilc x243 fun x405 =>
 kFA 309 x405 fun x406 =>
 kL1 x406 h391 fun x409 =>
 kIS 15 x409 (qi 0) fun x410 =>
 kFA 8 x410 fun x411 =>
 kLA 2 x411 h391 fun x414 =>
 kCall X 112 [x243, x404, x414] h391 fun x415 h416 =>
 kBS 131 zr1 1 [(0, 131, x415)] h416 fun x417 h418 =>
 kAp 131 1400 x251 x417 h418 fun x419 h420 =>
 dokS [h391, h418, h420] [] (kNilc x243 fun x421 =>
 kFA 309 x421 fun x422 =>
 kL1 x422 h420 fun x423 =>
 kP (sliceE 15 x423 (some (qi 1)) none) fun x424 =>
 kNilc x243 fun x425 =>
 kFA 309 x425 fun x426 =>
 kS1 x426 x424 h420 fun _ h428 =>
 n340 x243 u u u u u u u x419 u u u u u u u u u u u u u u u u u u u u u u u u u u u u u u u u u u u u u u u u u u u u u u u u u u u u u u u u u u u u u u u u u u u u u u u u u u u u u u u u u u u u u u u h428)) (kCall X 113 [x243] h391 fun x429 h430 =>
 kAp 131 1400 x251 x429 h430 fun x431 h432 =>
 some (x431, h432)))) fun j392 =>
 wtS x347 true (kCall X 110 [x371, x386] h387 fun x433 h434 =>
 j392 x433 h434) (j392 u h387)) fun j389 =>
 wtS x347 true (kL1 x381 h382 fun x435 =>
 j389 x435 h382 d373) (j389 u h382 d373)) fun j383 =>
 wtS x347 true (kFA 53 x378 fun x436 =>
 j383 x436 h379) (j383 u h379)) fun j380 =>
 wtS x347 true (kNilc x375 fun x437 =>
 j380 x437 h376) (j380 u h376)) fun j377 =>
 wtS x347 true (j377 x243 h372) (j377 u h372)) fun j374 =>
 wtS x347 true (kLA 5 x366 h367 fun x438 =>
 j374 x438 h367 d361) (j374 u h367 d361)) fun j368 =>
 wtS x347 true (kFA 10 x363 fun x439 =>
 j368 x439 h364) (j368 u h364)) fun j365 =>
 wtS x347 true (kIS 15 x359 (qi 0) fun x440 =>
 j365 x440 h360) (j365 u h360)) fun j362 =>
 wtS x347 true (kL1 x354 h355 fun x441 =>
 j362 x441 h355 []) (j362 u h355 [])) fun j356 =>
 wtS x347 true (kFA 309 x351 fun x442 =>
 j356 x442 h352) (j356 u h352)) fun j353 =>
 wtS x347 true (kNilc x348 fun x443 =>
 j353 x443 h349) (j353 u h349)) fun j350 =>
 wtS x347 true (j350 x243 h339) (j350 u h339)) k x14 u u u u u u u .nils u u u u u u u u u u u u u u u u u u u u u u u u u u u u u u u u u u u u u u u u u u u u u u u u u u u u u u u u u u u u u u u u u u u u u u u u u u u u u u u u u u u u u u u h110)) k x0 u u u u x4 u u u u u u u u u u u x13 (qi 0) u u u u u u u u u u u u u u u u u u u u u u u u u u u u u u u u u u u u u u u u u u u u u u u u u u u u u u u u u u u u u u u u u u u u u u u u u u u u u h8))
theorem p68_ok (k : Nat) : p68 k = funcS k 3 lit68 := by kernel_rfl
def p82 (_ : Nat) : CtxK → List V → TH → R := fun _ => ap 1 (fun x0 h1 =>
 kBin .shr x0 (.int .u64 33) fun x2 =>
 kBin .xor x0 x2 fun x3 =>
 kBin .mul x3 (.int .u64 18397679294719823053) fun x4 =>
 kBin .shr x4 (.int .u64 33) fun x5 =>
 kBin .xor x4 x5 fun x6 =>
 kBin .mul x6 (.int .u64 14181476777654086739) fun x7 =>
 kBin .shr x7 (.int .u64 33) fun x8 =>
 kBin .xor x7 x8 fun x9 =>
 some (x9, h1))
theorem p82_ok (k : Nat) : p82 k = funcS k 1 lit82 := by kernel_rfl
def p85 (k : Nat) : CtxK → List V → TH → R := fun X => ap 2 (fun x0 x1 h2 =>
 kCall X 126 [x0, x1] h2 fun x3 h4 =>
 kEqI false x3 (.int .i64 (-1)) fun x5 =>
 brS x5 (some (x0, h4)) (kBin .add x3 (qi 1) fun x6 =>
 lp (α := Cur 42) (zN 42) (fun n50 x7 x8 _ _ _ x12 x13 _ _ _ _ _ _ _ _ _ _ _ _ _ _ _ _ _ _ _ _ _ _ _ _ _ _ _ _ _ _ _ _ _ _ _ h49 =>
 kLen x7 fun x51 =>
 kBin .lss x13 x51 fun x52 =>
 brS x52 (kIS 1 x7 x13 fun x53 =>
 kL1 x53 h49 fun x54 =>
 kCv X x8 [x54] h49 fun x55 h56 =>
 kNot x55 fun x57 =>
 jc (α := Cur 42) (fun x58 x59 _ _ _ x63 x64 _ _ _ _ _ _ _ _ _ _ _ _ _ _ _ _ _ _ _ _ _ _ _ _ _ _ _ _ _ _ _ _ _ _ _ h100 =>
 kBin .add x64 (qi 1) fun x102 =>
 n50 x58 x59 u u u x63 x102 u u u u u u u u u u u u u u u u u u u u u u u u u u u u u u u u u u u h100) fun j101 =>
 brS x57 (kIS 1 x7 x12 fun x103 =>
 kS1 x103 x54 h56 fun _ h105 =>
 kBin .add x12 (qi 1) fun x106 =>
 j101 x7 x8 u u u x106 x13 u u u u u u u u u u u u u u u u u u u u u u u u u u u u u u u u u u u h105) (j101 x7 x8 u u u x12 x13 u u u u u u u u u u u u u u u u u u u u u u u u u u u u u u u u u u u h56)) (kP (sliceE 1 x7 (some x12) none) fun x107 =>
 kCl [(qi 0)] 1 x107 h49 fun _ h109 =>
 kP (sliceE 1 x7 none (some x12)) fun x110 =>
 some (x110, h109))) k x0 x1 u u u x3 x6 u u u u u u u u u u u u u u u u u u u u u u u u u u u u u u u u u u u h4))
theorem p85_ok (k : Nat) : p85 k = funcS k 2 lit85 := by kernel_rfl
def p88 (_ : Nat) : CtxK → List V → TH → R := fun X => ap 1 (fun x0 h1 =>
 kNew (V.cellsR x0) h1 fun x2 h3 =>
 kLA 16 x2 h3 fun x4 =>
 kCall X 127 [x4, (.fn 128 [] [])] h3 fun x5 h6 =>
 some (x5, h6))
theorem p88_ok (k : Nat) : p88 k = funcS k 1 lit88 := by kernel_rfl
def p94 (_ : Nat) : CtxK → List V → TH → R := fun _ => ap 1 (fun x0 h1 =>
 kEq' false (.nilR .sl) x0 .nils fun x2 =>
 brS x2 (some (.nils, h1)) (kBS 8 zr2 0 [] h1 fun x3 h4 =>
 kAp 8 40 x3 x0 h4 fun x5 h6 =>
 some (x5, h6)))
theorem p94_ok (k : Nat) : p94 k = funcS k 1 lit94 := by kernel_rfl
def p98 (k : Nat) : CtxK → List V → TH → R := fun X => ap 2 (fun x0 x1 h2 =>
 kLen x0 fun x3 =>
 kLen x1 fun x4 =>
 kEqI true x3 x4 fun x5 =>
 jc (α := JT) (fun x6 h7 =>
 jc (α := JT) (fun x9 h10 =>
 kPick x5 qt x9 fun x12 =>
 brS x12 (some ((.int .i64 (-1)), h10)) (kNew [(qi 0), (qw 0), (qw 0), (qw 0)] h10 fun x13 h14 =>
 kLen x1 fun x15 =>
 lp (α := Cur 53) (zN 53) (fun n70 x16 _ _ _ _ x21 x22 _ _ _ _ _ _ _ _ _ _ _ _ _ _ x37 x38 x39 _ _ _ _ _ _ _ _ _ _ _ _ _ _ _ _ _ _ _ _ _ _ _ _ _ _ _ _ _ h69 =>
 kBin .lss x39 x38 fun x71 =>
 brS x71 (kIS 49 x37 x39 fun x72 =>
 kLA 49 x72 h69 fun x73 =>
 kNew zr0 h69 fun x74 h75 =>
 kSA 49 x74 x73 h75 fun _ h77 =>
 kLA 49 x74 h77 fun x78 =>
 kCall X 22 [x78] h77 fun x79 h80 =>
 kExt x79 0 fun x81 =>
 kExt x79 1 fun x82 =>
 kIS 1 x16 x39 fun x83 =>
 kL1 x83 h80 fun x86 =>
 kFA 0 x74 fun x87 =>
 kL1 x87 h80 fun x90 =>
 kB [(qi 0), (qw 0), (qw 0), (qw 0)] [(0, 1, x86), (1, 1, x90), (2, 1, x81), (3, 1, x82)] fun x91 =>
 kNew [(qi 0), (qw 0), (qw 0), (qw 0)] h80 fun x92 h93 =>
 kSA 4 x92 x91 h93 fun _ h95 =>
 dokS [h93, h95] [] (kBin .lss x21 (qi 0) fun x96 =>
 jc (α := JT) (fun x97 h98 =>
 jc (α := JT) (fun x100 h101 =>
 jc (α := JT) (fun x103 h104 =>
 kPick x96 qt x103 fun x106 =>
 jc (α := Cur 53) (fun x107 _ _ _ _ x112 x113 _ _ _ _ _ _ _ _ _ _ _ _ _ _ x128 x129 x130 _ _ _ _ _ _ _ _ _ _ _ _ _ _ _ _ _ _ _ _ _ _ _ _ _ _ _ _ _ h160 =>
 kBin .add x130 (qi 1) fun x162 =>
 n70 x107 u u u u x112 x113 u u u u u u u u u u u u u u x128 x129 x162 u u u u u u u u u u u u u u u u u u u u u u u u u u u u u h160) fun j161 =>
 brS x106 (kLA 4 x92 h104 fun x165 =>
 kSA 4 x22 x165 h104 fun _ h167 =>
 dokS [h104, h167] [] (j161 x16 u u u u x39 x22 u u u u u u u u u u u u u u x37 x38 x39 u u u u u u u u u u u u u u u u u u u u u u u u u u u u u h167)) (j161 x16 u u u u x21 x22 u u u u u u u u u u u u u u x37 x38 x39 u u u u u u u u u u u u u u u u u u u u u u u u u u u u u h104)) fun j105 =>
 wtS x96 false (kCall X 140 [x97, x100] h101 fun x168 h169 =>
 j105 x168 h169) (j105 u h101)) fun j102 =>
 wtS x96 false (kLA 4 x22 h98 fun x170 =>
 j102 x170 h98) (j102 u h98)) fun j99 =>
 wtS x96 false (kLA 4 x92 h95 fun x171 =>
 j99 x171 h95) (j99 u h95))) (some (x21, h69))) k x0 u u u u (.int .i64 (-1)) x13 u u u u u u u u u u u u u u x1 x15 (qi 0) u u u u u u u u u u u u u u u u u u u u u u u u u u u u u h14)) fun j11 =>
 wtS x5 false (kCall X 138 [x6, (.fn 139 [] [])] h7 fun x172 h173 =>
 j11 x172 h173) (j11 u h7)) fun j8 =>
 wtS x5 false (j8 x1 h2) (j8 u h2))
theorem p98_ok (k : Nat) : p98 k = funcS k 2 lit98 := by kernel_rfl
def p103 (_ : Nat) : CtxK → List V → TH → R := fun X => ap 1 (fun x0 h1 =>
 brS qf (kConv .u32 x0 fun x2 =>
 kCall X 153 [x2] h1 fun x3 h4 =>
 some (x3, h4)) (kCall X 154 [x0] h1 fun x5 h6 =>
 some (x5, h6)))
theorem p103_ok (k : Nat) : p103 k = funcS k 1 lit103 := by kernel_rfl
def p106 (k : Nat) : CtxK → List V → TH → R := fun X => ap 2 (fun x0 x1 h2 =>
 kNew (V.cellsR x1) h2 fun x3 h4 =>
 kNilc x0 fun x5 =>
 kFA 3 x5 fun x6 =>
 kFA 0 x6 fun x7 =>
 kL1 x7 h4 fun x10 =>
 kNilc x0 fun x11 =>
 kFA 52 x11 fun x12 =>
 kL1 x12 h4 fun x15 =>
 kBin .gtr x10 x15 fun x16 =>
 dokS [h4] [] (jc (α := Cur 92) (fun _ _ _ _ _ _ _ _ _ _ _ _ _ _ _ _ _ _ _ _ _ _ _ _ _ _ _ _ _ _ _ _ _ _ _ _ _ _ _ _ _ _ _ _ _ _ _ _ _ _ _ _ _ _ _ _ _ _ _ _ _ _ _ _ _ _ _ _ _ _ _ _ _ _ _ _ _ _ _ _ _ _ _ _ _ _ _ _ _ _ _ _ h109 =>
 some (.tup [], h109)) fun j110 =>
 brS x16 (j110 u u u u u u u u u u u u u u u u u u u u u u u u u u u u u u u u u u u u u u u u u u u u u u u u u u u u u u u u u u u u u u u u u u u u u u u u u u u u u u u u u u u u u u u u u u u u h4) (kNilc x0 fun x111 =>
 kFA 3 x111 fun x112 =>
 kFA 0 x112 fun x113 =>
 kL1 x113 h4 fun x116 =>
 kNilc x0 fun x117 =>
 kFA 52 x117 fun x118 =>
 kL1 x118 h4 fun x121 =>
 kBin .lss x116 x121 fun x122 =>
 dokS [h4] [] (jc (α := Cur 92) (fun _ _ _ _ _ _ _ _ _ _ _ _ _ _ _ _ _ _ _ _ _ _ _ _ _ _ _ _ _ _ _ _ _ _ _ _ _ _ _ _ _ _ _ _ _ _ _ _ _ _ _ _ _ _ _ _ _ _ _ _ _ _ _ _ _ _ _ _ _ _ _ _ _ _ _ _ _ _ _ _ _ _ _ _ _ _ _ _ _ _ _ _ h215 =>
 j110 u u u u u u u u u u u u u u u u u u u u u u u u u u u u u u u u u u u u u u u u u u u u u u u u u u u u u u u u u u u u u u u u u u u u u u u u u u u u u u u u u u u u u u u u u u u u h215) fun j216 =>
 brS x122 (kNilc x0 fun x217 =>
 kFA 3 x217 fun x218 =>
 kLA 49 x218 h4 fun x221 =>
 kLA 52 x3 h4 fun x224 =>
 kNew zr0 h4 fun x225 h226 =>
 kCall X 155 [x221, x224] h226 fun x227 h228 =>
 kExt x227 0 fun x229 =>
 kExt x227 1 fun x230 =>
 kSA 49 x225 x229 h228 fun _ h232 =>
 dokS [h226, h228, h232] [] (kEqI false x230 (qi 0) fun x233 =>
 jc (α := Cur 92) (fun _ _ _ _ _ _ _ _ _ _ _ _ _ _ _ _ _ _ _ _ _ _ _ _ _ _ _ _ _ _ _ _ _ _ _ _ _ _ _ _ _ _ _ _ _ _ _ _ _ _ _ _ _ _ _ _ _ _ _ _ _ _ _ _ _ _ _ _ _ _ _ _ _ _ _ _ _ _ _ _ _ _ _ _ _ _ _ _ _ _ _ _ h326 =>
 j216 u u u u u u u u u u u u u u u u u u u u u u u u u u u u u u u u u u u u u u u u u u u u u u u u u u u u u u u u u u u u u u u u u u u u u u u u u u u u u u u u u u u u u u u u u u u u h326) fun j327 =>
 brS x233 (kLA 49 x225 h232 fun x328 =>
 kNilc x0 fun x329 =>
 kFA 3 x329 fun x330 =>
 kSA 49 x330 x328 h232 fun _ h332 =>
 j327 u u u u u u u u u u u u u u u u u u u u u u u u u u u u u u u u u u u u u u u u u u u u u u u u u u u u u u u u u u u u u u u u u u u u u u u u u u u u u u u u u u u u u u u u u u u u h332) (j327 u u u u u u u u u u u u u u u u u u u u u u u u u u u u u u u u u u u u u u u u u u u u u u u u u u u u u u u u u u u u u u u u u u u u u u u u u u u u u u u u u u u u u u u u u u u u h232))) (kFA 0 x3 fun x333 =>
 kL1 x333 h4 fun x334 =>
 kEqI false x334 (qi 1) fun x335 =>
 jc (α := Cur 92) (fun _ _ _ _ _ _ _ _ _ _ _ _ _ _ _ _ _ _ _ _ _ _ _ _ _ _ _ _ _ _ _ _ _ _ _ _ _ _ _ _ _ _ _ _ _ _ _ _ _ _ _ _ _ _ _ _ _ _ _ _ _ _ _ _ _ _ _ _ _ _ _ _ _ _ _ _ _ _ _ _ _ _ _ _ _ _ _ _ _ _ _ _ h428 =>
 j216 u u u u u u u u u u u u u u u u u u u u u u u u u u u u u u u u u u u u u u u u u u u u u u u u u u u u u u u u u u u u u u u u u u u u u u u u u u u u u u u u u u u u u u u u u u u u h428) fun j429 =>
 brS x335 (kFA 2 x3 fun x430 =>
 kL1 x430 h4 fun x431 =>
 kLen x431 fun x432 =>
 lp (α := Cur 92) (zN 92) (fun n526 x433 _ _ _ _ _ _ _ _ _ _ _ _ _ _ _ _ _ _ _ _ _ _ _ _ _ _ _ _ _ _ _ _ _ _ _ _ _ _ _ _ _ _ _ _ _ _ _ _ _ _ _ x485 x486 x487 _ _ _ _ _ _ _ _ _ _ _ _ _ _ _ _ _ _ _ _ _ _ _ _ _ _ _ _ _ _ _ _ _ _ _ _ _ h525 =>
 kBin .lss x487 x486 fun x527 =>
 brS x527 (kIS 8 x485 x487 fun x528 =>
 kLA 8 x528 h525 fun x529 =>
 kNew zr2 h525 fun x530 h531 =>
 kSA 8 x530 x529 h531 fun _ h533 =>
 kLA 8 x530 h533 fun x534 =>
 kCall X 111 [x433, x534] h533 fun _ h536 =>
 kBin .add x487 (qi 1) fun x537 =>
 n526 x433 u u u u u u u u u u u u u u u u u u u u u u u u u u u u u u u u u u u u u u u u u u u u u u u u u u u x485 x486 x537 u u u u u u u u u u u u u u u u u u u u u u u u u u u u u u u u u u u u u h536) (j429 u u u u u u u u u u u u u u u u u u u u u u u u u u u u u u u u u u u u u u u u u u u u u u u u u u u u u u u u u u u u u u u u u u u u u u u u u u u u u u u u u u u u u u u u u u u u h525)) k x0 u u u u u u u u u u u u u u u u u u u u u u u u u u u u u u u u u u u u u u u u u u u u u u u u u u u x431 x432 (qi 0) u u u u u u u u u u u u u u u u u u u u u u u u u u u u u u u u u u u u u h4) (kFA 0 x3 fun x538 =>
 kL1 x538 h4 fun x541 =>
 kEqI false x541 (qi 2) fun x542 =>
 jc (α := JT) (fun x543 h544 =>
 jc (α := JT) (fun x546 h547 =>
 jc (α := V → TH → PD → R) (fun x551 h552 d553 =>
 jc (α := JT) (fun x555 h556 =>
 jc (α := JT) (fun x558 h559 =>
 jc (α := JT) (fun x561 h562 =>
 jc (α := V → TH → PD → R) (fun x566 h567 d568 =>
 jc (α := JT) (fun x570 h571 =>
 kPick x542 x570 qf fun x573 =>
 dokS [h571] d568 (jc (α := Cur 92) (fun _ _ _ _ _ _ _ _ _ _ _ _ _ _ _ _ _ _ _ _ _ _ _ _ _ _ _ _ _ _ _ _ _ _ _ _ _ _ _ _ _ _ _ _ _ _ _ _ _ _ _ _ _ _ _ _ _ _ _ _ _ _ _ _ _ _ _ _ _ _ _ _ _ _ _ _ _ _ _ _ _ _ _ _ _ _ _ _ _ _ _ _ h666 =>
 j429 u u u u u u u u u u u u u u u u u u u u u u u u u u u u u u u u u u u u u u u u u u u u u u u u u u u u u u u u u u u u u u u u u u u u u u u u u u u u u u u u u u u u u u u u u u u u h666) fun j667 =>
 brS x573 (kFA 3 x3 fun x668 =>
 kLA 49 x668 h571 fun x669 =>
 kCall X 22 [x669] h571 fun x670 h671 =>
 kExt x670 0 fun _ =>
 kExt x670 1 fun x673 =>
 kCall X 109 [x0] h671 fun x674 h675 =>
 kBin .gtr x673 x674 fun x676 =>
 jc (α := Cur 92) (fun _ _ _ _ _ _ _ _ _ _ _ _ _ _ _ _ _ _ _ _ _ _ _ _ _ _ _ _ _ _ _ _ _ _ _ _ _ _ _ _ _ _ _ _ _ _ _ _ _ _ _ _ _ _ _ _ _ _ _ _ _ _ _ _ _ _ _ _ _ _ _ _ _ _ _ _ _ _ _ _ _ _ _ _ _ _ _ _ _ _ _ _ h769 =>
 j667 u u u u u u u u u u u u u u u u u u u u u u u u u u u u u u u u u u u u u u u u u u u u u u u u u u u u u u u u u u u u u u u u u u u u u u u u u u u u u u u u u u u u u u u u u u u u h769) fun j770 =>
 brS x676 (kFA 3 x3 fun x771 =>
 kLA 49 x771 h675 fun x772 =>
 kCall X 36 [x772] h675 fun x773 h774 =>
 kNilc x0 fun x775 =>
 kFA 3 x775 fun x776 =>
 kSA 49 x776 x773 h774 fun _ h778 =>
 j770 u u u u u u u u u u u u u u u u u u u u u u u u u u u u u u u u u u u u u u u u u u u u u u u u u u u u u u u u u u u u u u u u u u u u u u u u u u u u u u u u u u u u u u u u u u u u h778) (j770 u u u u u u u u u u u u u u u u u u u u u u u u u u u u u u u u u u u u u u u u u u u u u u u u u u u u u u u u u u u u u u u u u u u u u u u u u u u u u u u u u u u u u u u u u u u u h675)) (j667 u u u u u u u u u u u u u u u u u u u u u u u u u u u u u u u u u u u u u u u u u u u u u u u u u u u u u u u u u u u u u u u u u u u u u u u u u u u u u u u u u u u u u u u u u u u u h571))) fun j572 =>
 wtS x542 true (kEqI false x551 x566 fun x779 =>
 j572 x779 h567) (j572 u h567)) fun j569 =>
 wtS x542 true (kL1 x561 h562 fun x780 =>
 j569 x780 h562 d553) (j569 u h562 d553)) fun j563 =>
 wtS x542 true (kFA 52 x558 fun x781 =>
 j563 x781 h559) (j563 u h559)) fun j560 =>
 wtS x542 true (kNilc x555 fun x782 =>
 j560 x782 h556) (j560 u h556)) fun j557 =>
 wtS x542 true (j557 x0 h552) (j557 u h552)) fun j554 =>
 wtS x542 true (kL1 x546 h547 fun x783 =>
 j554 x783 h547 []) (j554 u h547 [])) fun j548 =>
 wtS x542 true (kFA 0 x543 fun x784 =>
 j548 x784 h544) (j548 u h544)) fun j545 =>
 wtS x542 true (kFA 3 x3 fun x785 =>
 j545 x785 h4) (j545 u h4)))))))
theorem p106_ok (k : Nat) : p106 k = funcS k 2 lit106 := by kernel_rfl
def p110 (_ : Nat) : CtxK → List V → TH → R := fun X => ap 2 (fun x0 x1 h2 =>
 kNew (V.cellsR x0) h2 fun x3 h4 =>
 kCall X 137 [x1, (.fn 156 [] [x3])] h4 fun x5 h6 =>
 kNot x5 fun x7 =>
 some (x7, h6))
theorem p110_ok (k : Nat) : p110 k = funcS k 2 lit110 := by kernel_rfl
def p111 (_ : Nat) : CtxK → List V → TH → R := fun X => ap 2 (fun x0 x1 h2 =>
 kNew (V.cellsR x1) h2 fun x3 h4 =>
 kFA 1 x3 fun x5 =>
 kL1 x5 h4 fun x8 =>
 kCall X 109 [x0] h4 fun x9 h10 =>
 kBin .geq x9 x8 fun x11 =>
 jc (α := JT) (fun x12 h13 =>
 jc (α := V → TH → PD → R) (fun x17 h18 d19 =>
 jc (α := JT) (fun x21 h22 =>
 jc (α := JT) (fun x24 h25 =>
 jc (α := JT) (fun x27 h28 =>
 jc (α := JT) (fun x30 h31 =>
 kPick x11 qt x30 fun x33 =>
 dokS [h4, h22, h31] d19 (brS x33 (some (.tup [], h31)) (kNilc x0 fun x34 =>
 kFA 3 x34 fun x35 =>
 kLA 49 x35 h31 fun x38 =>
 kLA 8 x3 h31 fun x41 =>
 kNew zr0 h31 fun x42 h43 =>
 kCall X 157 [x38, x41] h43 fun x44 h45 =>
 kExt x44 0 fun x46 =>
 kExt x44 1 fun x47 =>
 kSA 49 x42 x46 h45 fun _ h49 =>
 dokS [h43, h45, h49] [] (kEqI false x47 (qi 0) fun x50 =>
 jc (α := Cur 34) (fun _ _ _ _ _ _ _ _ _ _ _ _ _ _ _ _ _ _ _ _ _ _ _ _ _ _ _ _ _ _ _ _ _ _ h85 =>
 some (.tup [], h85)) fun j86 =>
 brS x50 (kLA 49 x42 h49 fun x87 =>
 kNilc x0 fun x88 =>
 kFA 3 x88 fun x89 =>
 kSA 49 x89 x87 h49 fun _ h91 =>
 j86 u u u u u u u u u u u u u u u u u u u u u u u u u u u u u u u u u u h91) (j86 u u u u u u u u u u u u u u u u u u u u u u u u u u u u u u u u u u h49))))) fun j32 =>
 wtS x11 false (kBin .gtr x27 (qw 1) fun x92 =>
 j32 x92 h28) (j32 u h28)) fun j29 =>
 wtS x11 false (kBin .sub x17 x24 fun x93 =>
 j29 x93 h25) (j29 u h25)) fun j26 =>
 wtS x11 false (kCall X 109 [x21] h22 fun x94 h95 =>
 j26 x94 h95) (j26 u h22)) fun j23 =>
 wtS x11 false (j23 x0 h18) (j23 u h18)) fun j20 =>
 wtS x11 false (kL1 x12 h13 fun x96 =>
 j20 x96 h13 ((fun h15 => kL1 x12 h15 fun x16 =>
 some (x16, h15), x96, 1, 2) :: ((fun h6 => kL1 x5 h6 fun x7 =>
 some (x7, h6), x8, 0, 1) :: []))) (j20 u h13 ((fun h6 => kL1 x5 h6 fun x7 =>
 some (x7, h6), x8, 0, 1) :: []))) fun j14 =>
 wtS x11 false (kFA 1 x3 fun x97 =>
 j14 x97 h10) (j14 u h10))
theorem p111_ok (k : Nat) : p111 k = funcS k 2 lit111 := by kernel_rfl
def p124 (_ : Nat) : CtxK → List V → TH → R := fun X => ap 1 (fun x0 h1 =>
 kCall X 164 [.nils, x0] h1 fun x2 h3 =>
 some (x2, h3))
theorem p124_ok (k : Nat) : p124 k = funcS k 1 lit124 := by kernel_rfl
def p126 (k : Nat) : CtxK → List V → TH → R := fun X => ap 2 (fun x0 x1 h2 =>
 kLen x0 fun x3 =>
 lp (α := Cur 19) (zN 19) (fun n24 x4 x5 _ _ _ _ _ x11 x12 _ _ _ _ _ _ _ _ _ _ h23 =>
 kBin .lss x12 x11 fun x25 =>
 brS x25 (kIS 1 x4 x12 fun x26 =>
 kL1 x26 h23 fun x27 =>
 kCv X x5 [x27] h23 fun x28 h29 =>
 brS x28 (some (x12, h29)) (kBin .add x12 (qi 1) fun x30 =>
 n24 x4 x5 u u u u u x11 x30 u u u u u u u u u u h29)) (some ((.int .i64 (-1)), h23))) k x0 x1 u u u u u x3 (qi 0) u u u u u u u u u u h2)
theorem p126_ok (k : Nat) : p126 k = funcS k 2 lit126 := by kernel_rfl
def p138 (_ : Nat) : CtxK → List V → TH → R := fun X => ap 2 (fun x0 x1 h2 =>
 kCall X 175 [x0, x1] h2 fun x3 h4 =>
 kBin .geq x3 (qi 0) fun x5 =>
 some (x5, h4))
theorem p138_ok (k : Nat) : p138 k = funcS k 2 lit138 := by kernel_rfl
def p141 (k : Nat) : CtxK → List V → TH → R := fun _ => ap 1 (fun x0 h1 =>
 kNew (V.cellsR x0) h1 fun x2 h3 =>
 kFA 1 x2 fun x4 =>
 kLA 15 x4 h3 fun x5 =>
 lp (α := Cur 32) (zN 32) (fun n39 _ x7 _ _ _ _ x12 x13 _ _ _ _ _ _ _ _ _ _ _ _ _ _ _ _ _ _ _ _ _ _ _ _ h38 =>
 kBin .lss x13 (qi 5) fun x40 =>
 brS x40 (kP (indexE (some (5, 3, true)) x12 x13) fun x41 =>
 kNew [qf, (qi 0), (qb 0)] h38 fun x42 h43 =>
 kSA 3 x42 x41 h43 fun _ h45 =>
 kFA 1 x42 fun x46 =>
 kL1 x46 h45 fun x47 =>
 kBin .lss x47 (qi 0) fun x48 =>
 jc (α := JT) (fun x49 h50 =>
 jc (α := JT) (fun x52 h53 =>
 jc (α := JT) (fun x55 h56 =>
 kPick x48 qt x55 fun x58 =>
 jc (α := JT) (fun x59 h60 =>
 jc (α := JT) (fun x62 h63 =>
 jc (α := JT) (fun x65 h66 =>
 kPick x58 qt x65 fun x68 =>
 brS x68 (some (qf, h66)) (kBin .add x13 (qi 1) fun x69 =>
 n39 u x7 u u u u x12 x69 u u u u u u u u u u u u u u u u u u u u u u u u h66)) fun j67 =>
 wtS x58 false (kBin .geq x62 (qb 8) fun x70 =>
 j67 x70 h63) (j67 u h63)) fun j64 =>
 wtS x58 false (kL1 x59 h60 fun x71 =>
 j64 x71 h60) (j64 u h60)) fun j61 =>
 wtS x58 false (kFA 2 x42 fun x72 =>
 j61 x72 h56) (j61 u h56)) fun j57 =>
 wtS x48 false (kBin .gtr x52 (qi 16) fun x73 =>
 j57 x73 h53) (j57 u h53)) fun j54 =>
 wtS x48 false (kL1 x49 h50 fun x74 =>
 j54 x74 h50) (j54 u h50)) fun j51 =>
 wtS x48 false (kFA 1 x42 fun x75 =>
 j51 x75 h45) (j51 u h45)) (kFA 0 x7 fun x76 =>
 kL1 x76 h38 fun x77 =>
 kBin .geq x77 (qw 1) fun x78 =>
 jc (α := JT) (fun x79 h80 =>
 jc (α := JT) (fun x82 h83 =>
 jc (α := JT) (fun x85 h86 =>
 kPick x78 x85 qf fun x88 =>
 some (x88, h86)) fun j87 =>
 wtS x78 true (kBin .leq x82 (qw 60) fun x89 =>
 j87 x89 h83) (j87 u h83)) fun j84 =>
 wtS x78 true (kL1 x79 h80 fun x90 =>
 j84 x90 h80) (j84 u h80)) fun j81 =>
 wtS x78 true (kFA 0 x7 fun x91 =>
 j81 x91 h38) (j81 u h38))) k u x2 u u u u x5 (qi 0) u u u u u u u u u u u u u u u u u u u u u u u u h3)
theorem p141_ok (k : Nat) : p141 k = funcS k 1 lit141 := by kernel_rfl
def p142 (k : Nat) : CtxK → List V → TH → R := fun X => ap 2 (fun x0 x1 h2 =>
 kNew (V.cellsR x0) h2 fun x3 h4 =>
 kLA 16 x3 h4 fun x5 =>
 kCall X 141 [x5] h4 fun x6 h7 =>
 kNot x6 fun x8 =>
 jc (α := JT) (fun x9 h10 =>
 jc (α := JT) (fun x12 h13 =>
 kPick x8 qt x12 fun x15 =>
 brS x15 (some (.nils, h13)) (kLA 16 x3 h13 fun x18 =>
 kLA 16 x3 h13 fun x21 =>
 kCall X 176 [x21] h13 fun x22 h23 =>
 kB [(qw 0), qf, (qi 0), (qb 0), qf, (qi 0), (qb 0), qf, (qi 0), (qb 0), qf, (qi 0), (qb 0), qf, (qi 0), (qb 0), (qb 0), .nils, .nils] [(0, 16, x18), (16, 1, x1), (17, 1, x22)] fun x24 =>
 kNew (V.cellsR x24) h23 fun x25 h26 =>
 dokS [h13, h26] ((fun h16 => kLA 16 x3 h16 fun x17 =>
 some (x17, h16), x18, 0, 1) :: []) (lp (α := Cur 39) (zN 39) (fun n67 _ _ _ _ _ x32 x33 _ _ _ _ _ _ _ _ _ _ _ _ _ _ _ _ _ _ _ _ _ _ _ _ _ _ _ _ _ _ _ _ h66 =>
 kBin .lss x33 (qi 3) fun x68 =>
 jc (α := JT) (fun x69 h70 =>
 jc (α := JT) (fun x72 h73 =>
 jc (α := JT) (fun x75 h76 =>
 jc (α := JT) (fun x78 h79 =>
 jc (α := JT) (fun x81 h82 =>
 jc (α := JT) (fun x84 h85 =>
 kPick x68 x84 qf fun x87 =>
 brS x87 (kCall X 177 [x32, x33] h85 fun _ h89 =>
 kBin .add x33 (qi 1) fun x90 =>
 n67 u u u u u x32 x90 u u u u u u u u u u u u u u u u u u u u u u u u u u u u u u u u h89) (kNilc x32 fun x91 =>
 kFA 18 x91 fun x92 =>
 kL1 x92 h85 fun x93 =>
 some (x93, h85))) fun j86 =>
 wtS x68 true (kBin .gtr x81 (qi 0) fun x94 =>
 j86 x94 h82) (j86 u h82)) fun j83 =>
 wtS x68 true (kLen x78 fun x95 =>
 j83 x95 h79) (j83 u h79)) fun j80 =>
 wtS x68 true (kL1 x75 h76 fun x96 =>
 j80 x96 h76) (j80 u h76)) fun j77 =>
 wtS x68 true (kFA 17 x72 fun x97 =>
 j77 x97 h73) (j77 u h73)) fun j74 =>
 wtS x68 true (kNilc x69 fun x98 =>
 j74 x98 h70) (j74 u h70)) fun j71 =>
 wtS x68 true (j71 x32 h66) (j71 u h66)) k u u u u u x25 (qi 0) u u u u u u u u u u u u u u u u u u u u u u u u u u u u u u u u h26))) fun j14 =>
 wtS x8 false (kBin .geq x9 (qb 4) fun x99 =>
 j14 x99 h10) (j14 u h10)) fun j11 =>
 wtS x8 false (j11 x1 h7) (j11 u h7))
theorem p142_ok (k : Nat) : p142 k = funcS k 2 lit142 := by kernel_rfl
def p159 (_ : Nat) : CtxK → List V → TH → R := fun _ => ap 2 (fun x0 x1 h2 =>
 kNew (V.cellsR x0) h2 fun x3 h4 =>
 kFA 0 x3 fun x5 =>
 kFA 2 x5 fun x6 =>
 kFA 0 x6 fun x7 =>
 kL1 x7 h4 fun x8 =>
 kFA 0 x1 fun x9 =>
 kL1 x9 h4 fun x10 =>
 kEqI false x8 x10 fun x11 =>
 jc (α := JT) (fun x12 h13 =>
 jc (α := JT) (fun x15 h16 =>
 jc (α := JT) (fun x18 h19 =>
 jc (α := JT) (fun x21 h22 =>
 jc (α := JT) (fun x24 h25 =>
 jc (α := JT) (fun x27 h28 =>
 jc (α := JT) (fun x30 h31 =>
 kPick x11 x30 qf fun x33 =>
 some (x33, h31)) fun j32 =>
 wtS x11 true (kEqI false x21 x27 fun x34 =>
 j32 x34 h28) (j32 u h28)) fun j29 =>
 wtS x11 true (kL1 x24 h25 fun x35 =>
 j29 x35 h25) (j29 u h25)) fun j26 =>
 wtS x11 true (kFA 1 x1 fun x36 =>
 j26 x36 h22) (j26 u h22)) fun j23 =>
 wtS x11 true (kL1 x18 h19 fun x37 =>
 j23 x37 h19) (j23 u h19)) fun j20 =>
 wtS x11 true (kFA 1 x15 fun x38 =>
 j20 x38 h16) (j20 u h16)) fun j17 =>
 wtS x11 true (kFA 2 x12 fun x39 =>
 j17 x39 h13) (j17 u h13)) fun j14 =>
 wtS x11 true (kFA 0 x3 fun x40 =>
 j14 x40 h4) (j14 u h4))
theorem p159_ok (k : Nat) : p159 k = funcS k 2 lit159 := by kernel_rfl
def p173 (k : Nat) : CtxK → List V → TH → R := fun X => ap 2 (fun x0 x1 h2 =>
 kCall X 194 [x0, x1] h2 fun x3 h4 =>
 kEqI false x3 (.int .i64 (-1)) fun x5 =>
 brS x5 (some (x0, h4)) (kBin .add x3 (qi 1) fun x6 =>
 lp (α := Cur 42) (zN 42) (fun n50 x7 x8 _ _ _ x12 x13 _ _ _ _ _ _ _ _ _ _ _ _ _ _ _ _ _ _ _ _ _ _ _ _ _ _ _ _ _ _ _ _ _ _ _ h49 =>
 kLen x7 fun x51 =>
 kBin .lss x13 x51 fun x52 =>
 brS x52 (kIS 2 x7 x13 fun x53 =>
 kLA 2 x53 h49 fun x54 =>
 kNew [(qw 0), .nils] h49 fun x55 h56 =>
 kSA 2 x55 x54 h56 fun _ h58 =>
 kLA 2 x55 h58 fun x59 =>
 kCv X x8 [x59] h58 fun x60 h61 =>
 kNot x60 fun x62 =>
 jc (α := Cur 42) (fun x63 x64 _ _ _ x68 x69 _ _ _ _ _ _ _ _ _ _ _ _ _ _ _ _ _ _ _ _ _ _ _ _ _ _ _ _ _ _ _ _ _ _ _ h105 =>
 kBin .add x69 (qi 1) fun x107 =>
 n50 x63 x64 u u u x68 x107 u u u u u u u u u u u u u u u u u u u u u u u u u u u u u u u u u u u h105) fun j106 =>
 brS x62 (kLA 2 x55 h61 fun x108 =>
 kIS 2 x7 x12 fun x109 =>
 kSA 2 x109 x108 h61 fun _ h111 =>
 kBin .add x12 (qi 1) fun x112 =>
 j106 x7 x8 u u u x112 x13 u u u u u u u u u u u u u u u u u u u u u u u u u u u u u u u u u u u h111) (j106 x7 x8 u u u x12 x13 u u u u u u u u u u u u u u u u u u u u u u u u u u u u u u u u u u u h61)) (kP (sliceE 2 x7 (some x12) none) fun x113 =>
 kCl [(qw 0), .nils] 2 x113 h49 fun _ h115 =>
 kP (sliceE 2 x7 none (some x12)) fun x116 =>
 some (x116, h115))) k x0 x1 u u u x3 x6 u u u u u u u u u u u u u u u u u u u u u u u u u u u u u u u u u u u h4))
theorem p173_ok (k : Nat) : p173 k = funcS k 2 lit173 := by kernel_rfl
def p175 (k : Nat) : CtxK → List V → TH → R := fun X => ap 2 (fun x0 x1 h2 =>
 kLen x0 fun x3 =>
 lp (α := Cur 19) (zN 19) (fun n24 x4 x5 _ _ _ _ _ x11 x12 _ _ _ _ _ _ _ _ _ _ h23 =>
 kBin .lss x12 x11 fun x25 =>
 brS x25 (kIS 49 x4 x12 fun x26 =>
 kLA 49 x26 h23 fun x27 =>
 kCv X x5 [x27] h23 fun x28 h29 =>
 brS x28 (some (x12, h29)) (kBin .add x12 (qi 1) fun x30 =>
 n24 x4 x5 u u u u u x11 x30 u u u u u u u u u u h29)) (some ((.int .i64 (-1)), h23))) k x0 x1 u u u u u x3 (qi 0) u u u u u u u u u u h2)
theorem p175_ok (k : Nat) : p175 k = funcS k 2 lit175 := by kernel_rfl
def p177 (k : Nat) : CtxK → List V → TH → R := fun X => ap 2 (fun x0 x1 h2 =>
 lp (α := Cur 31) (zN 31) (fun n35 x3 x4 _ _ x7 _ _ x10 _ _ _ _ _ _ _ _ _ _ _ _ _ _ _ _ _ _ _ _ _ _ _ h34 =>
 kBin .lss x10 (qi 20) fun x36 =>
 brS x36 (kBin .mul x10 (qi 3) fun x37 =>
 kBin .add x4 x37 fun x38 =>
 kCv X x7 [x3, x38] h34 fun x39 h40 =>
 kCall X 197 [x3, x39] h40 fun x41 h42 =>
 brS x41 (kNilc x3 fun x43 =>
 kFA 18 x43 fun x44 =>
 kL1 x44 h42 fun x45 =>
 kBS 1 [(qi 0)] 1 [(0, 1, x39)] h42 fun x46 h47 =>
 kAp 1 8 x45 x46 h47 fun x48 h49 =>
 kNilc x3 fun x50 =>
 kFA 18 x50 fun x51 =>
 kS1 x51 x48 h49 fun _ h53 =>
 some (.tup [], h53)) (kBin .add x10 (qi 1) fun x54 =>
 n35 x3 x4 u u x7 u u x54 u u u u u u u u u u u u u u u u u u u u u u u h42)) (some (.tup [], h34))) k x0 x1 u u (.fn 196 [] []) u u (qi 0) u u u u u u u u u u u u u u u u u u u u u u u h2)
theorem p177_ok (k : Nat) : p177 k = funcS k 2 lit177 := by kernel_rfl
def p183 (_ : Nat) : CtxK → List V → TH → R := fun _ => ap 1 (fun x0 h1 =>
 kEqI true x0 x0 fun x2 =>
 some (x2, h1))
theorem p183_ok (k : Nat) : p183 k = funcS k 1 lit183 := by kernel_rfl
def p190 (_ : Nat) : CtxK → List V → TH → R := fun X => ap 2 (fun x0 x1 h2 =>
 kNew (V.cellsR x0) h2 fun x3 h4 =>
 kFA 40 x3 fun x5 =>
 kFA 1 x5 fun x6 =>
 kL1 x6 h4 fun x7 =>
 kBin .lss x1 x7 fun x8 =>
 jc (α := JT) (fun x9 h10 =>
 jc (α := JT) (fun x12 h13 =>
 jc (α := JT) (fun x15 h16 =>
 jc (α := JT) (fun x18 h19 =>
 jc (α := JT) (fun x21 h22 =>
 kPick x8 qt x21 fun x24 =>
 brS x24 (some ((.int .i64 (-1)), h22)) (kFA 40 x3 fun x25 =>
 kFA 1 x25 fun x26 =>
 kL1 x26 h22 fun x27 =>
 kBin .sub x1 x27 fun x28 =>
 kConv .i64 x28 fun x29 =>
 some (x29, h22))) fun j23 =>
 wtS x8 false (kBin .gtr x9 x18 fun x30 =>
 j23 x30 h19) (j23 u h19)) fun j20 =>
 wtS x8 false (kP (fieldE false 1 1 x15) fun x31 =>
 j20 x31 h16) (j20 u h16)) fun j17 =>
 wtS x8 false (kCall X 51 [x12] h13 fun x32 h33 =>
 j17 x32 h33) (j17 u h13)) fun j14 =>
 wtS x8 false (kLA 49 x3 h10 fun x34 =>
 j14 x34 h10) (j14 u h10)) fun j11 =>
 wtS x8 false (j11 x1 h4) (j11 u h4))
theorem p190_ok (k : Nat) : p190 k = funcS k 2 lit190 := by kernel_rfl
def p196 (k : Nat) : CtxK → List V → TH → R := fun X => ap 2 (fun x0 x1 h2 =>
 kNilc x0 fun x3 =>
 kFA 17 x3 fun x4 =>
 kL1 x4 h2 fun x5 =>
 kLen x5 fun x6 =>
 lp (α := Cur 44) (zN 44) (fun n52 x7 x8 _ _ _ x12 _ _ _ _ _ x18 x19 x20 _ _ _ _ _ _ _ _ _ _ _ _ _ _ _ _ _ _ _ _ _ _ _ _ _ _ _ _ _ _ h51 =>
 kBin .lss x20 x19 fun x53 =>
 brS x53 (kIS 1 x18 x20 fun x54 =>
 kL1 x54 h51 fun x55 =>
 kNilc x7 fun x56 =>
 kFA 16 x56 fun x57 =>
 kL1 x57 h51 fun x60 =>
 kNilc x7 fun x61 =>
 kFA 0 x61 fun x62 =>
 kFA 1 x62 fun x63 =>
 kIA 5 3 x63 x55 fun x64 =>
 kFA 1 x64 fun x65 =>
 kL1 x65 h51 fun x68 =>
 kCall X 201 [x60, x55, x8, x68] h51 fun x69 h70 =>
 kBS 1 [(qi 0)] 1 [(0, 1, x69)] h70 fun x71 h72 =>
 kAp 1 8 x12 x71 h72 fun x73 h74 =>
 dokS [h51, h72, h74] [] (kBin .add x20 (qi 1) fun x75 =>
 n52 x7 x8 u u u x73 u u u u u x18 x19 x75 u u u u u u u u u u u u u u u u u u u u u u u u u u u u u u h74)) (kNilc x7 fun x76 =>
 kFA 17 x76 fun x77 =>
 kL1 x77 h51 fun x80 =>
 kCall X 202 [x12] h51 fun x81 h82 =>
 kIS 1 x80 x81 fun x83 =>
 kL1 x83 h82 fun x86 =>
 dokS [h51, h82] ((fun h78 => kL1 x77 h78 fun x79 =>
 some (x79, h78), x80, 0, 1) :: []) (some (x86, h82)))) k x0 x1 u u u .nils u u u u u x5 x6 (qi 0) u u u u u u u u u u u u u u u u u u u u u u u u u u u u u u h2)
theorem p196_ok (k : Nat) : p196 k = funcS k 2 lit196 := by kernel_rfl
def p201 (_ : Nat) : CtxK → List V → TH → R := fun X => ap 4 (fun x0 x1 x2 x3 h4 =>
 kConv .u32 x0 fun x5 =>
 kConv .u32 x1 fun x6 =>
 kConv .u32 x2 fun x7 =>
 kCall X 212 [x5, x6, x7] h4 fun x8 h9 =>
 kCall X 211 [x8, x3] h9 fun x10 h11 =>
 some (x10, h11))
theorem p201_ok (k : Nat) : p201 k = funcS k 4 lit201 := by kernel_rfl
def p222 (k : Nat) : CtxK → List V → TH → R := fun X => ap 1 (fun x0 h1 =>
 kP (minE true x0 (qw 1)) fun x2 =>
 kP (minE false x2 (qw 65536)) fun x3 =>
 kCall X 153 [x3] h1 fun x4 h5 =>
 kBin .sub x4 (qi 1) fun x6 =>
 kConv .u64 x3 fun x7 =>
 kBin .sub (qi 31) x6 fun x8 =>
 kBin .shl x7 x8 fun x9 =>
 kB [(.int .u64 0), (qi 0)] [(0, 1, x9)] fun x10 =>
 kNew (V.cellsR x10) h5 fun x11 h12 =>
 lp (α := Cur 33) (zN 33) (fun n47 _ _ _ x16 x17 x18 _ _ _ _ _ _ _ _ _ _ _ _ _ _ _ x34 _ _ _ _ _ _ _ _ _ _ _ h46 =>
 kBin .lss x34 (qi 16) fun x48 =>
 brS x48 (kCv X x18 [] h46 fun _ h50 =>
 kBin .add x34 (qi 1) fun x51 =>
 n47 u u u x16 x17 x18 u u u u u u u u u u u u u u u x51 u u u u u u u u u u u h50) (kBin .shl x16 (.int .u64 16) fun x52 =>
 kNilc x17 fun x53 =>
 kFA 1 x53 fun x54 =>
 kL1 x54 h46 fun x55 =>
 kBin .add x52 x55 fun x56 =>
 some (x56, h46))) k u u u x6 x11 (.fn 229 [x11] []) u u u u u u u u u u u u u u u (qi 0) u u u u u u u u u u u h12)
theorem p222_ok (k : Nat) : p222 k = funcS k 1 lit222 := by kernel_rfl
end
end Go.PE
