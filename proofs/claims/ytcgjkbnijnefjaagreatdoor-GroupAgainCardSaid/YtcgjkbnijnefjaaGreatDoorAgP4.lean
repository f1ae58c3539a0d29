/- The same functions with names for their slots (part 4 of 4), printed by a program of our own: each is what the evaluator's law says of the literal. -/
import Derived.Test.YtcgjkbnijnefjaaGreatDoorAgL3
import Derived.KernelRfl
namespace Go.PE
set_option maxRecDepth 100000
noncomputable section
def p9 (_ : Nat) : CtxK → List V → TH → R := fun X => ap 1 (fun x0 h1 =>
 kNew (V.cellsR x0) h1 fun x2 h3 =>
 kLA 6 x2 h3 fun x4 =>
 kCall X 33 [x4] h3 fun x5 h6 =>
 jc (α := JT) (fun x7 h8 =>
 jc (α := JT) (fun x10 h11 =>
 jc (α := JT) (fun x13 h14 =>
 kPick x5 x13 qf fun x16 =>
 some (x16, h14)) fun j15 =>
 wtS x5 true (kEqI true x10 (qb 5) fun x17 =>
 j15 x17 h11) (j15 u h11)) fun j12 =>
 wtS x5 true (kL1 x7 h8 fun x18 =>
 j12 x18 h8) (j12 u h8)) fun j9 =>
 wtS x5 true (kFA 2 x2 fun x19 =>
 j9 x19 h6) (j9 u h6))
theorem p9_ok (k : Nat) : p9 k = funcS k 1 lit9 := by kernel_rfl
def p10 (k : Nat) : CtxK → List V → TH → R := fun X => ap 2 (fun x0 x1 h2 =>
 kNew (V.cellsR x1) h2 fun x3 h4 =>
 kCall X 29 [] h4 fun x5 h6 =>
 kBin .rem x0 (qb 4) fun x7 =>
 kB [.nilptr, (qb 0), .nilptr, .nilptr, .nilptr, .nilptr, .nilptr, .nils, .nils] [(0, 1, x5), (1, 1, x7)] fun x8 =>
 kNew (V.cellsR x8) h6 fun x9 h10 =>
 lp (α := Cur 50) (zN 50) (fun n62 _ _ _ x14 _ x16 x17 _ _ _ _ _ _ _ _ _ _ _ _ _ _ _ _ _ _ _ _ _ _ _ _ _ _ _ _ _ _ _ _ _ _ _ _ _ _ _ _ _ _ _ h61 =>
 kBin .lss x17 (qi 5) fun x63 =>
 brS x63 (kNilc x16 fun x64 =>
 kFA 1 x64 fun x65 =>
 kL1 x65 h61 fun x68 =>
 kIA 5 49 x14 x17 fun x69 =>
 kLA 49 x69 h61 fun x72 =>
 kNilc x16 fun x73 =>
 kFA 2 x73 fun x74 =>
 kCall X 24 [x17, x68, x72] h61 fun x75 h76 =>
 kIA 5 1 x74 x17 fun x77 =>
 kS1 x77 x75 h76 fun _ h79 =>
 dokS [h61, h76, h79] [] (kNilc x16 fun x80 =>
 kFA 7 x80 fun x81 =>
 kL1 x81 h79 fun x84 =>
 kNilc x16 fun x85 =>
 kFA 2 x85 fun x86 =>
 kIA 5 1 x86 x17 fun x87 =>
 kL1 x87 h79 fun x90 =>
 kNilc x16 fun x91 =>
 kFA 0 x91 fun x92 =>
 kL1 x92 h79 fun x95 =>
 kCall X 25 [x90, x95] h79 fun x96 h97 =>
 kAp 131 1400 x84 x96 h97 fun x98 h99 =>
 kNilc x16 fun x100 =>
 kFA 7 x100 fun x101 =>
 kS1 x101 x98 h99 fun _ h103 =>
 dokS [h79, h97, h99, h103] ((fun h82 => kL1 x81 h82 fun x83 =>
 some (x83, h82), x84, 0, 1) :: []) (kBin .add x17 (qi 1) fun x104 =>
 n62 u u u x14 u x16 x104 u u u u u u u u u u u u u u u u u u u u u u u u u u u u u u u u u u u u u u u u u u u h103))) (some (x16, h61))) k u u u x3 u x9 (qi 0) u u u u u u u u u u u u u u u u u u u u u u u u u u u u u u u u u u u u u u u u u u u h10)
theorem p10_ok (k : Nat) : p10 k = funcS k 2 lit10 := by kernel_rfl
def p14 (_ : Nat) : CtxK → List V → TH → R := fun X => ap 3 (fun x0 x1 x2 h3 =>
 kNew (V.cellsR x2) h3 fun x4 h5 =>
 kFA 0 x4 fun x6 =>
 kL1 x6 h5 fun x7 =>
 kCall X 37 [x0, x7] h5 fun x8 h9 =>
 kEq' false (.nilR .fn) x8 .nilfn fun x10 =>
 jc (α := V → TH → PD → R) (fun x13 h14 d15 =>
 jc (α := JT) (fun x17 h18 =>
 jc (α := JT) (fun x20 h21 =>
 kPick x10 qt x20 fun x23 =>
 jc (α := JT) (fun x24 h25 =>
 jc (α := V → TH → PD → R) (fun x29 h30 d31 =>
 jc (α := JT) (fun x33 h34 =>
 jc (α := JT) (fun x36 h37 =>
 jc (α := JT) (fun x39 h40 =>
 jc (α := V → TH → PD → R) (fun x44 h45 d46 =>
 jc (α := JT) (fun x48 h49 =>
 jc (α := JT) (fun x51 h52 =>
 jc (α := JT) (fun x54 h55 =>
 kPick x23 qt x54 fun x57 =>
 dokS [h14, h55] d46 (brS x57 (some (.nils, h55)) (kFA 0 x4 fun x58 =>
 kL1 x58 h55 fun x59 =>
 kEqI false x59 (qb 15) fun x60 =>
 jc (α := Cur 62) (fun _ x62 _ _ _ x66 _ x68 _ _ _ _ _ _ _ _ _ _ _ _ _ _ _ _ _ _ _ _ _ _ _ _ _ _ _ _ _ _ _ _ _ _ _ _ _ _ _ _ _ _ _ _ _ _ _ _ _ _ _ _ _ _ h123 =>
 kLA 131 x66 h123 fun x125 =>
 kCv X x68 [x62, x125] h123 fun x126 h127 =>
 some (x126, h127)) fun j124 =>
 brS x60 (kFA 123 x4 fun x128 =>
 kFA 3 x128 fun x129 =>
 kL1 x129 h55 fun x132 =>
 kNilc x0 fun x133 =>
 kFA 2 x133 fun x134 =>
 kL1 x134 h55 fun x137 =>
 kCall X 39 [x132] h55 fun x138 h139 =>
 kEqI true x138 x137 fun x140 =>
 dokS [h55, h139] ((fun h135 => kL1 x134 h135 fun x136 =>
 some (x136, h135), x137, 0, 1) :: []) (brS x140 (some (.nils, h139)) (j124 u x1 u u u x4 u x8 u u u u u u u u u u u u u u u u u u u u u u u u u u u u u u u u u u u u u u u u u u u u u u u u u u u u u u h139))) (kFA 12 x4 fun x141 =>
 kL1 x141 h55 fun x144 =>
 kNilc x0 fun x145 =>
 kFA 2 x145 fun x146 =>
 kL1 x146 h55 fun x149 =>
 kEqI true x144 x149 fun x150 =>
 jc (α := JT) (fun x151 h152 =>
 jc (α := V → TH → PD → R) (fun x156 h157 d158 =>
 jc (α := JT) (fun x160 h161 =>
 jc (α := JT) (fun x163 h164 =>
 jc (α := JT) (fun x166 h167 =>
 jc (α := V → TH → PD → R) (fun x171 h172 d173 =>
 jc (α := JT) (fun x175 h176 =>
 kPick x150 qt x175 fun x178 =>
 dokS [h176] d173 (brS x178 (some (.nils, h176)) (j124 u x1 u u u x4 u x8 u u u u u u u u u u u u u u u u u u u u u u u u u u u u u u u u u u u u u u u u u u u u u u u u u u u u u u h176))) fun j177 =>
 wtS x150 false (kEqI true x156 x171 fun x179 =>
 j177 x179 h172) (j177 u h172)) fun j174 =>
 wtS x150 false (kL1 x166 h167 fun x180 =>
 j174 x180 h167 d158) (j174 u h167 d158)) fun j168 =>
 wtS x150 false (kFA 52 x163 fun x181 =>
 j168 x181 h164) (j168 u h164)) fun j165 =>
 wtS x150 false (kNilc x160 fun x182 =>
 j165 x182 h161) (j165 u h161)) fun j162 =>
 wtS x150 false (j162 x0 h157) (j162 u h157)) fun j159 =>
 wtS x150 false (kL1 x151 h152 fun x183 =>
 j159 x183 h152 []) (j159 u h152 [])) fun j153 =>
 wtS x150 false (kFA 3 x4 fun x184 =>
 j153 x184 h55) (j153 u h55))))) fun j56 =>
 wtS x23 false (kEqI true x29 x51 fun x185 =>
 j56 x185 h52) (j56 u h52)) fun j53 =>
 wtS x23 false (kBin .add (qb 10) x48 fun x186 =>
 j53 x186 h49) (j53 u h49)) fun j50 =>
 wtS x23 false (kConv .u8 x44 fun x187 =>
 j50 x187 h45) (j50 u h45)) fun j47 =>
 wtS x23 false (kL1 x39 h40 fun x188 =>
 j47 x188 h40 d31) (j47 u h40 d31)) fun j41 =>
 wtS x23 false (kFA 0 x36 fun x189 =>
 j41 x189 h37) (j41 u h37)) fun j38 =>
 wtS x23 false (kNilc x33 fun x190 =>
 j38 x190 h34) (j38 u h34)) fun j35 =>
 wtS x23 false (j35 x0 h30) (j35 u h30)) fun j32 =>
 wtS x23 false (kL1 x24 h25 fun x191 =>
 j32 x191 h25 d15) (j32 u h25 d15)) fun j26 =>
 wtS x23 false (kFA 2 x4 fun x192 =>
 j26 x192 h21) (j26 u h21)) fun j22 =>
 wtS x10 false (kNot x17 fun x193 =>
 j22 x193 h18) (j22 u h18)) fun j19 =>
 wtS x10 false (kCall X 38 [x13] h14 fun x194 h195 =>
 j19 x194 h195) (j19 u h14)) fun j16 =>
 wtS x10 false (kLA 131 x4 h9 fun x196 =>
 j16 x196 h9 []) (j16 u h9 []))
theorem p14_ok (k : Nat) : p14 k = funcS k 3 lit14 := by kernel_rfl
def p19 (k : Nat) : CtxK → List V → TH → R := fun X => ap 2 (fun x0 x1 h2 =>
 kNew (V.cellsR x0) h2 fun x3 h4 =>
 kL1 x3 h4 fun x5 =>
 kNilc x5 fun x6 =>
 kFA 1 x6 fun x7 =>
 kL1 x7 h4 fun x8 =>
 kEqI false x8 (qi 2) fun x9 =>
 brS x9 (kL1 x3 h4 fun x12 =>
 kL1 x3 h4 fun x15 =>
 kNilc x15 fun x16 =>
 kFA 54 x16 fun x17 =>
 kLA 5 x17 h4 fun x20 =>
 kL1 x3 h4 fun x23 =>
 kCall X 43 [x1] h4 fun x24 h25 =>
 kCall X 42 [x24, x20] h25 fun x26 h27 =>
 kCall X 41 [x12, x26, (.fn 44 [x23] [])] h27 fun x28 h29 =>
 dokS [h4, h25, h27, h29] ((fun h21 => kL1 x3 h21 fun x22 =>
 some (x22, h21), x23, 0, 2) :: ((fun h18 => kLA 5 x17 h18 fun x19 =>
 some (x19, h18), x20, 0, 1) :: ((fun h13 => kL1 x3 h13 fun x14 =>
 some (x14, h13), x15, 0, 1) :: ((fun h10 => kL1 x3 h10 fun x11 =>
 some (x11, h10), x12, 0, 2) :: [])))) (some (x28, h29))) (kEqI false x8 (qi 3) fun x30 =>
 brS x30 (kL1 x3 h4 fun x33 =>
 kL1 x3 h4 fun x36 =>
 kNilc x36 fun x37 =>
 kFA 53 x37 fun x38 =>
 kL1 x38 h4 fun x41 =>
 kL1 x3 h4 fun x44 =>
 kNilc x44 fun x45 =>
 kFA 59 x45 fun x46 =>
 kLA 5 x46 h4 fun x49 =>
 kL1 x3 h4 fun x52 =>
 kCall X 42 [x41, x49] h4 fun x53 h54 =>
 kCall X 41 [x33, x53, (.fn 45 [x52] [])] h54 fun x55 h56 =>
 dokS [h4, h54, h56] ((fun h50 => kL1 x3 h50 fun x51 =>
 some (x51, h50), x52, 0, 1) :: ((fun h31 => kL1 x3 h31 fun x32 =>
 some (x32, h31), x33, 0, 1) :: [])) (some (x55, h56))) (kL1 x3 h4 fun x57 =>
 kNilc x57 fun x58 =>
 kFA 309 x58 fun x59 =>
 kL1 x59 h4 fun x60 =>
 kLen x60 fun x61 =>
 lp (α := Cur 89) (zN 89) (fun n152 _ _ x64 _ _ x67 _ _ _ _ _ _ _ _ _ _ _ _ _ _ _ _ _ _ _ _ _ _ _ _ _ _ _ _ _ _ _ _ _ _ _ _ _ _ _ x107 x108 x109 _ _ _ _ _ _ _ _ _ _ _ _ _ _ _ _ _ _ _ _ _ _ _ _ _ _ _ _ _ _ _ _ _ _ _ _ _ _ _ _ _ h151 =>
 kBin .lss x109 x108 fun x153 =>
 brS x153 (kIS 15 x107 x109 fun x154 =>
 kLA 15 x154 h151 fun x155 =>
 kNew zr6 h151 fun x156 h157 =>
 kSA 15 x156 x155 h157 fun _ h159 =>
 kL1 x64 h159 fun x162 =>
 kL1 x64 h159 fun x165 =>
 kNilc x165 fun x166 =>
 kFA 53 x166 fun x167 =>
 kL1 x167 h159 fun x170 =>
 kFA 10 x156 fun x171 =>
 kLA 5 x171 h159 fun x174 =>
 kCall X 42 [x170, x174] h159 fun x175 h176 =>
 kCall X 41 [x162, x175, (.fn 46 [] [x64, x156])] h176 fun x177 h178 =>
 kAp 131 1400 x67 x177 h178 fun x179 h180 =>
 dokS [h159, h176, h178, h180] ((fun h160 => kL1 x64 h160 fun x161 =>
 some (x161, h160), x162, 0, 1) :: []) (kBin .add x109 (qi 1) fun x181 =>
 n152 u u x64 u u x179 u u u u u u u u u u u u u u u u u u u u u u u u u u u u u u u u u u u u u u u x107 x108 x181 u u u u u u u u u u u u u u u u u u u u u u u u u u u u u u u u u u u u u u u u u h180)) (kL1 x64 h151 fun x182 =>
 kNilc x182 fun x183 =>
 kFA 310 x183 fun x184 =>
 kLA 42 x184 h151 fun x185 =>
 lp (α := Cur 89) (zN 89) (fun n276 _ _ x188 _ _ x191 _ _ _ _ _ _ _ _ _ _ _ _ _ _ _ _ _ _ _ _ _ _ _ _ _ _ _ _ _ _ _ _ _ _ _ _ _ _ _ _ _ _ _ _ _ _ _ _ _ _ _ _ _ _ _ _ _ _ _ _ _ x253 x254 _ _ _ _ _ _ _ _ _ _ _ _ _ _ _ _ _ _ _ _ h275 =>
 kBin .lss x254 (qi 3) fun x277 =>
 brS x277 (kP (indexE (some (3, 14, true)) x253 x254) fun x278 =>
 kNew zr7 h275 fun x279 h280 =>
 kSA 14 x279 x278 h280 fun _ h282 =>
 kFA 0 x279 fun x283 =>
 kFA 1 x283 fun x284 =>
 kL1 x284 h282 fun x285 =>
 kBin .gtr x285 (qw 0) fun x286 =>
 jc (α := Cur 89) (fun _ _ x289 _ _ x292 _ _ _ _ _ _ _ _ _ _ _ _ _ _ _ _ _ _ _ _ _ _ _ _ _ _ _ _ _ _ _ _ _ _ _ _ _ _ _ _ _ _ _ _ _ _ _ _ _ _ _ _ _ _ _ _ _ _ _ _ _ x354 x355 _ _ _ _ _ _ _ _ _ _ _ _ _ _ _ _ _ _ _ _ h376 =>
 kBin .add x355 (qi 1) fun x378 =>
 n276 u u x289 u u x292 u u u u u u u u u u u u u u u u u u u u u u u u u u u u u u u u u u u u u u u u u u u u u u u u u u u u u u u u u u u u u x354 x378 u u u u u u u u u u u u u u u u u u u u h376) fun j377 =>
 brS x286 (kL1 x188 h282 fun x381 =>
 kL1 x188 h282 fun x384 =>
 kNilc x384 fun x385 =>
 kFA 53 x385 fun x386 =>
 kL1 x386 h282 fun x389 =>
 kFA 9 x279 fun x390 =>
 kLA 5 x390 h282 fun x393 =>
 kCall X 42 [x389, x393] h282 fun x394 h395 =>
 kCall X 41 [x381, x394, (.fn 48 [] [x188, x279])] h395 fun x396 h397 =>
 kAp 131 1400 x191 x396 h397 fun x398 h399 =>
 dokS [h282, h395, h397, h399] ((fun h379 => kL1 x188 h379 fun x380 =>
 some (x380, h379), x381, 0, 1) :: []) (j377 u u x188 u u x398 u u u u u u u u u u u u u u u u u u u u u u u u u u u u u u u u u u u u u u u u u u u u u u u u u u u u u u u u u u u u u x253 x254 u u u u u u u u u u u u u u u u u u u u h399)) (j377 u u x188 u u x191 u u u u u u u u u u u u u u u u u u u u u u u u u u u u u u u u u u u u u u u u u u u u u u u u u u u u u u u u u u u u u x253 x254 u u u u u u u u u u u u u u u u u u u u h282)) (some (x191, h275))) k u u x64 u u x67 u u u u u u u u u u u u u u u u u u u u u u u u u u u u u u u u u u u u u u u u u u u u u u u u u u u u u u u u u u u u u x185 (qi 0) u u u u u u u u u u u u u u u u u u u u h151)) k u u x3 u u .nils u u u u u u u u u u u u u u u u u u u u u u u u u u u u u u u u u u u u u u u x60 x61 (qi 0) u u u u u u u u u u u u u u u u u u u u u u u u u u u u u u u u u u u u u u u u u h4)))
theorem p19_ok (k : Nat) : p19 k = funcS k 2 lit19 := by kernel_rfl
def p24 (_ : Nat) : CtxK → List V → TH → R := fun X => ap 3 (fun x0 x1 x2 h3 =>
 kNew (V.cellsR x2) h3 fun x4 h5 =>
 kLA 49 x4 h5 fun x6 =>
 kCall X 36 [x6] h5 fun x7 h8 =>
 kB zr9 [(0, 1, x0), (2, 1, x1), (3, 49, x7)] fun x9 =>
 kNew (V.cellsR x9) h8 fun x10 h11 =>
 some (x10, h11))
theorem p24_ok (k : Nat) : p24 k = funcS k 3 lit24 := by kernel_rfl
def p25 (_ : Nat) : CtxK → List V → TH → R := fun X => ap 2 (fun x0 x1 h2 =>
 kNilc x0 fun x3 =>
 kFA 2 x3 fun x4 =>
 kL1 x4 h2 fun x5 =>
 kCall X 53 [x1, x5] h2 fun x6 h7 =>
 kEqI false x6 (qw 0) fun x8 =>
 jc (α := JT) (fun x9 h10 =>
 jc (α := JT) (fun x12 h13 =>
 jc (α := JT) (fun x15 h16 =>
 jc (α := JT) (fun x18 h19 =>
 jc (α := JT) (fun x21 h22 =>
 jc (α := JT) (fun x24 h25 =>
 kPick x8 qt x24 fun x27 =>
 brS x27 (some (.nils, h25)) (kNilc x0 fun x28 =>
 kFA 0 x28 fun x29 =>
 kL1 x29 h25 fun x32 =>
 kNilc x0 fun x33 =>
 kFA 2 x33 fun x34 =>
 kL1 x34 h25 fun x37 =>
 kNilc x0 fun x38 =>
 kFA 3 x38 fun x39 =>
 kLA 49 x39 h25 fun x42 =>
 kNilc x0 fun x43 =>
 kFA 2 x43 fun x44 =>
 kL1 x44 h25 fun x47 =>
 kCall X 12 [x1, x47] h25 fun x48 h49 =>
 kB zr9 [(0, 1, x32), (2, 1, x37), (3, 49, x42), (52, 1, x6), (53, 1, x48), (1, 1, (qi 1))] fun x50 =>
 kNilc x0 fun x51 =>
 kSA 352 x51 x50 h49 fun _ h53 =>
 dokS [h25, h49, h53] ((fun h40 => kLA 49 x39 h40 fun x41 =>
 some (x41, h40), x42, 0, 1) :: ((fun h35 => kL1 x34 h35 fun x36 =>
 some (x36, h35), x37, 0, 1) :: ((fun h30 => kL1 x29 h30 fun x31 =>
 some (x31, h30), x32, 0, 1) :: []))) (kNilc x0 fun x54 =>
 kFA 53 x54 fun x55 =>
 kL1 x55 h53 fun x58 =>
 kNilc x0 fun x59 =>
 kFA 0 x59 fun x60 =>
 kL1 x60 h53 fun x63 =>
 kCall X 54 [x58, x63] h53 fun x64 h65 =>
 kNot x64 fun x66 =>
 dokS [h53, h65] [] (jc (α := Cur 107) (fun _ _ _ _ _ _ _ _ _ _ _ _ _ _ _ _ _ _ _ _ _ _ _ _ _ _ _ _ _ _ _ _ _ _ _ _ _ _ _ _ _ _ _ _ _ _ _ _ _ _ _ _ _ _ _ _ _ _ _ _ _ _ _ _ _ _ _ _ _ _ _ _ _ _ _ _ _ _ _ _ _ _ _ _ _ _ _ _ _ _ _ _ _ _ _ _ _ _ _ _ _ _ _ _ _ _ _ h174 =>
 some (.nils, h174)) fun j175 =>
 brS x66 (kNilc x0 fun x176 =>
 kFA 1 x176 fun x177 =>
 kS1 x177 (qi 0) h65 fun _ h179 =>
 j175 u u u u u u u u u u u u u u u u u u u u u u u u u u u u u u u u u u u u u u u u u u u u u u u u u u u u u u u u u u u u u u u u u u u u u u u u u u u u u u u u u u u u u u u u u u u u u u u u u u u u u u u u u u u h179) (kNilc x0 fun x180 =>
 kFA 0 x180 fun x181 =>
 kL1 x181 h65 fun x184 =>
 kCall X 55 [x0] h65 fun x185 h186 =>
 kEqI false x185 x184 fun x187 =>
 jc (α := JT) (fun x188 h189 =>
 jc (α := JT) (fun x191 h192 =>
 jc (α := JT) (fun x194 h195 =>
 jc (α := V → TH → PD → R) (fun x199 h200 d201 =>
 jc (α := JT) (fun x203 h204 =>
 jc (α := JT) (fun x206 h207 =>
 kPick x187 x206 qf fun x209 =>
 dokS [h65, h207] d201 (brS x209 (kNilc x0 fun x210 =>
 kFA 1 x210 fun x211 =>
 kS1 x211 (qi 2) h207 fun _ h213 =>
 kNilc x0 fun x214 =>
 kFA 0 x214 fun x215 =>
 kL1 x215 h213 fun x218 =>
 kNilc x0 fun x219 =>
 kFA 0 x219 fun x220 =>
 kL1 x220 h213 fun x223 =>
 kNilc x0 fun x224 =>
 kFA 3 x224 fun x225 =>
 kLA 49 x225 h213 fun x228 =>
 kNilc x0 fun x229 =>
 kFA 54 x229 fun x230 =>
 kIA 5 1 x230 x218 fun x231 =>
 kNilc x0 fun x232 =>
 kFA 64 x232 fun x233 =>
 kS1 x231 qt h213 fun _ h235 =>
 kIA 5 49 x233 x223 fun x236 =>
 kSA 49 x236 x228 h235 fun _ h238 =>
 dokS [h213, h235, h238] [] (kCall X 43 [x1] h238 fun x239 h240 =>
 kCall X 41 [x0, x239, (.fn 44 [x0] [])] h240 fun x241 h242 =>
 kCall X 56 [x0, x1] h242 fun x243 h244 =>
 kAp 131 1400 x241 x243 h244 fun x245 h246 =>
 some (x245, h246))) (j175 u u u u u u u u u u u u u u u u u u u u u u u u u u u u u u u u u u u u u u u u u u u u u u u u u u u u u u u u u u u u u u u u u u u u u u u u u u u u u u u u u u u u u u u u u u u u u u u u u u u u u u u u u u u h207))) fun j208 =>
 wtS x187 true (kBin .geq x203 (qi 2) fun x247 =>
 j208 x247 h204) (j208 u h204)) fun j205 =>
 wtS x187 true (kLen x199 fun x248 =>
 j205 x248 h200) (j205 u h200)) fun j202 =>
 wtS x187 true (kL1 x194 h195 fun x249 =>
 j202 x249 h195 ((fun h182 => kL1 x181 h182 fun x183 =>
 some (x183, h182), x184, 0, 1) :: [])) (j202 u h195 ((fun h182 => kL1 x181 h182 fun x183 =>
 some (x183, h182), x184, 0, 1) :: []))) fun j196 =>
 wtS x187 true (kFA 53 x191 fun x250 =>
 j196 x250 h192) (j196 u h192)) fun j193 =>
 wtS x187 true (kNilc x188 fun x251 =>
 j193 x251 h189) (j193 u h189)) fun j190 =>
 wtS x187 true (j190 x0 h186) (j190 u h186)))))) fun j26 =>
 wtS x8 false (kEqI false x9 x21 fun x252 =>
 j26 x252 h22) (j26 u h22)) fun j23 =>
 wtS x8 false (kL1 x18 h19 fun x253 =>
 j23 x253 h19) (j23 u h19)) fun j20 =>
 wtS x8 false (kFA 52 x15 fun x254 =>
 j20 x254 h16) (j20 u h16)) fun j17 =>
 wtS x8 false (kNilc x12 fun x255 =>
 j17 x255 h13) (j17 u h13)) fun j14 =>
 wtS x8 false (j14 x0 h10) (j14 u h10)) fun j11 =>
 wtS x8 false (j11 x6 h7) (j11 u h7))
theorem p25_ok (k : Nat) : p25 k = funcS k 2 lit25 := by kernel_rfl
def p40 (k : Nat) : CtxK → List V → TH → R := fun _ => ap 2 (fun x0 x1 h2 =>
 kLen x0 fun x3 =>
 kLen x1 fun x4 =>
 kEqI true x3 x4 fun x5 =>
 brS x5 (some (qf, h2)) (kLen x0 fun x6 =>
 lp (α := Cur 26) (zN 26) (fun n34 x7 x8 _ _ _ _ _ _ _ _ _ _ x19 x20 _ _ _ _ _ _ _ _ _ _ _ _ h33 =>
 kBin .lss x20 x19 fun x35 =>
 brS x35 (kIS 8 x7 x20 fun x36 =>
 kLA 8 x36 h33 fun x39 =>
 kIS 8 x8 x20 fun x40 =>
 kLA 8 x40 h33 fun x43 =>
 kEq' true (.agg [.int, .int, .int, .int, .int, .int, .int, .str]) x39 x43 fun x44 =>
 dokS [h33] [] (brS x44 (some (qf, h33)) (kBin .add x20 (qi 1) fun x45 =>
 n34 x7 x8 u u u u u u u u u u x19 x45 u u u u u u u u u u u u h33))) (some (qt, h33))) k x0 x1 u u u u u u u u u u x6 (qi 0) u u u u u u u u u u u u h2))
theorem p40_ok (k : Nat) : p40 k = funcS k 2 lit40 := by kernel_rfl
def p43 (_ : Nat) : CtxK → List V → TH → R := fun X => ap 1 (fun x0 h1 =>
 kCall X 58 [x0] h1 fun x2 h3 =>
 kCall X 87 [x0, x2] h3 fun x4 h5 =>
 kExt x4 0 fun x6 =>
 kExt x4 1 fun _ =>
 kNew zr5 h5 fun x8 h9 =>
 kSA 16 x8 x6 h9 fun _ h11 =>
 kLA 16 x8 h11 fun x12 =>
 kCall X 88 [x12] h11 fun x13 h14 =>
 some (x13, h14))
theorem p43_ok (k : Nat) : p43 k = funcS k 1 lit43 := by kernel_rfl
def p54 (_ : Nat) : CtxK → List V → TH → R := fun X => ap 2 (fun x0 x1 h2 =>
 kCall X 95 [x0, x1] h2 fun x3 h4 =>
 kBin .geq x3 (qi 0) fun x5 =>
 some (x5, h4))
theorem p54_ok (k : Nat) : p54 k = funcS k 2 lit54 := by kernel_rfl
def p55 (_ : Nat) : CtxK → List V → TH → R := fun _ => ap 1 (fun x0 h1 =>
 kNilc x0 fun x2 =>
 kFA 53 x2 fun x3 =>
 kL1 x3 h1 fun x4 =>
 kLen x4 fun x5 =>
 kEqI false x5 (qi 0) fun x6 =>
 brS x6 (some ((.int .i64 (-1)), h1)) (kNilc x0 fun x7 =>
 kFA 53 x7 fun x8 =>
 kL1 x8 h1 fun x9 =>
 kIS 1 x9 (qi 0) fun x10 =>
 kL1 x10 h1 fun x11 =>
 some (x11, h1)))
theorem p55_ok (k : Nat) : p55 k = funcS k 1 lit55 := by kernel_rfl
def p62 (k : Nat) : CtxK → List V → TH → R := fun _ => ap 1 (fun x0 h1 =>
 kLen x0 fun x2 =>
 kBin .lss x2 (qi 2) fun x3 =>
 brS x3 (some (x0, h1)) (lp (α := Cur 61) (zN 61) (fun n66 x4 _ _ x7 _ _ _ _ _ _ _ _ _ _ _ _ _ _ _ _ _ _ _ _ _ _ _ _ _ _ _ _ _ _ _ _ _ _ _ _ _ _ _ _ _ _ _ _ _ _ _ _ _ _ _ _ _ _ _ _ _ h65 =>
 kLen x4 fun x67 =>
 kBin .lss x7 x67 fun x68 =>
 brS x68 (kIS 1 x4 x7 fun x69 =>
 kL1 x69 h65 fun x72 =>
 kBin .sub x7 (qi 1) fun x73 =>
 kIS 1 x4 x73 fun x74 =>
 kL1 x74 h65 fun x77 =>
 kEqI false x72 x77 fun x78 =>
 dokS [h65] [] (brS x78 (kP (sliceE 1 x4 (some x7) none) fun x79 =>
 lp (α := Cur 61) (zN 61) (fun n142 x80 _ _ x83 x84 x85 _ _ _ _ _ _ _ _ _ _ _ _ _ _ _ _ _ _ _ _ _ _ _ _ _ _ _ _ _ _ _ _ _ _ _ _ _ _ _ _ _ _ _ _ _ _ _ _ _ _ _ _ _ _ _ h141 =>
 kLen x84 fun x143 =>
 kBin .lss x85 x143 fun x144 =>
 brS x144 (kIS 1 x84 x85 fun x145 =>
 kL1 x145 h141 fun x148 =>
 kBin .sub x85 (qi 1) fun x149 =>
 kIS 1 x84 x149 fun x150 =>
 kL1 x150 h141 fun x153 =>
 kEqI true x148 x153 fun x154 =>
 dokS [h141] [] (jc (α := Cur 61) (fun x155 _ _ x158 x159 x160 _ _ _ _ _ _ _ _ _ _ _ _ _ _ _ _ _ _ _ _ _ _ _ _ _ _ _ _ _ _ _ _ _ _ _ _ _ _ _ _ _ _ _ _ _ _ _ _ _ _ _ _ _ _ _ h216 =>
 kBin .add x160 (qi 1) fun x218 =>
 n142 x155 u u x158 x159 x218 u u u u u u u u u u u u u u u u u u u u u u u u u u u u u u u u u u u u u u u u u u u u u u u u u u u u u u u h216) fun j217 =>
 brS x154 (kIS 1 x84 x85 fun x219 =>
 kL1 x219 h141 fun x220 =>
 kIS 1 x80 x83 fun x221 =>
 kS1 x221 x220 h141 fun _ h223 =>
 kBin .add x83 (qi 1) fun x224 =>
 j217 x80 u u x224 x84 x85 u u u u u u u u u u u u u u u u u u u u u u u u u u u u u u u u u u u u u u u u u u u u u u u u u u u u u u u h223) (j217 x80 u u x83 x84 x85 u u u u u u u u u u u u u u u u u u u u u u u u u u u u u u u u u u u u u u u u u u u u u u u u u u u u u u u h141))) (kP (sliceE 1 x80 (some x83) none) fun x225 =>
 kCl [(qi 0)] 1 x225 h141 fun _ h227 =>
 kP (sliceE 1 x80 none (some x83)) fun x228 =>
 some (x228, h227))) k x4 u u x7 x79 (qi 1) u u u u u u u u u u u u u u u u u u u u u u u u u u u u u u u u u u u u u u u u u u u u u u u u u u u u u u u h65) (kBin .add x7 (qi 1) fun x229 =>
 n66 x4 u u x229 u u u u u u u u u u u u u u u u u u u u u u u u u u u u u u u u u u u u u u u u u u u u u u u u u u u u u u u u u h65))) (some (x4, h65))) k x0 u u (qi 1) u u u u u u u u u u u u u u u u u u u u u u u u u u u u u u u u u u u u u u u u u u u u u u u u u u u u u u u u u h1))
theorem p62_ok (k : Nat) : p62 k = funcS k 1 lit62 := by kernel_rfl
def p63 (_ : Nat) : CtxK → List V → TH → R := fun X => ap 3 (fun x0 _ x2 h3 =>
 kNew (V.cellsR x2) h3 fun x4 h5 =>
 kLA 131 x4 h5 fun x6 =>
 kCall X 104 [x6] h5 fun x7 h8 =>
 kCall X 55 [x0] h8 fun x9 h10 =>
 kEqI true x7 x9 fun x11 =>
 brS x11 (some (.nils, h10)) (kLA 131 x4 h10 fun x12 =>
 kCall X 104 [x12] h10 fun x13 h14 =>
 kCall X 89 [x0, (qb 8), x13] h14 fun x15 h16 =>
 kNew zr1 h16 fun x17 h18 =>
 kSA 131 x17 x15 h18 fun _ h20 =>
 kNilc x0 fun x21 =>
 kFA 3 x21 fun x22 =>
 kLA 49 x22 h20 fun x23 =>
 kFA 13 x17 fun x24 =>
 kSA 49 x24 x23 h20 fun _ h26 =>
 kLA 131 x17 h26 fun x27 =>
 kBS 131 zr1 1 [(0, 131, x27)] h26 fun x28 h29 =>
 some (x28, h29)))
theorem p63_ok (k : Nat) : p63 k = funcS k 3 lit63 := by kernel_rfl
def p64 (_ : Nat) : CtxK → List V → TH → R := fun X => ap 3 (fun x0 x1 x2 h3 =>
 kNew (V.cellsR x2) h3 fun x4 h5 =>
 kLA 131 x4 h5 fun x6 =>
 kCall X 104 [x6] h5 fun x7 h8 =>
 kNilc x0 fun x9 =>
 kFA 1 x9 fun x10 =>
 kL1 x10 h8 fun x11 =>
 kEqI true x11 (qi 2) fun x12 =>
 jc (α := JT) (fun x13 h14 =>
 jc (α := JT) (fun x16 h17 =>
 jc (α := JT) (fun x19 h20 =>
 jc (α := JT) (fun x22 h23 =>
 jc (α := JT) (fun x25 h26 =>
 jc (α := JT) (fun x28 h29 =>
 kPick x12 qt x28 fun x31 =>
 brS x31 (some (.nils, h29)) (kFA 13 x4 fun x32 =>
 kLA 49 x32 h29 fun x35 =>
 kNilc x0 fun x36 =>
 kFA 54 x36 fun x37 =>
 kIA 5 1 x37 x7 fun x38 =>
 kNilc x0 fun x39 =>
 kFA 64 x39 fun x40 =>
 kS1 x38 qt h29 fun _ h42 =>
 kIA 5 49 x40 x7 fun x43 =>
 kSA 49 x43 x35 h42 fun _ h45 =>
 dokS [h29, h42, h45] ((fun h33 => kLA 49 x32 h33 fun x34 =>
 some (x34, h33), x35, 0, 1) :: []) (kCall X 56 [x0, x1] h45 fun x46 h47 =>
 some (x46, h47)))) fun j30 =>
 wtS x12 false (kL1 x25 h26 fun x48 =>
 j30 x48 h26) (j30 u h26)) fun j27 =>
 wtS x12 false (kIA 5 1 x22 x16 fun x49 =>
 j27 x49 h23) (j27 u h23)) fun j24 =>
 wtS x12 false (kFA 54 x19 fun x50 =>
 j24 x50 h20) (j24 u h20)) fun j21 =>
 wtS x12 false (kNilc x13 fun x51 =>
 j21 x51 h17) (j21 u h17)) fun j18 =>
 wtS x12 false (j18 x7 h14) (j18 u h14)) fun j15 =>
 wtS x12 false (j15 x0 h8) (j15 u h8))
theorem p64_ok (k : Nat) : p64 k = funcS k 3 lit64 := by kernel_rfl
def p66 (_ : Nat) : CtxK → List V → TH → R := fun X => ap 3 (fun x0 _ x2 h3 =>
 kNew (V.cellsR x2) h3 fun x4 h5 =>
 kLA 131 x4 h5 fun x8 =>
 kCall X 108 [x0, (qi 3), x8] h5 fun x9 h10 =>
 kNot x9 fun x11 =>
 jc (α := JT) (fun x12 h13 =>
 jc (α := V → TH → PD → R) (fun x17 h18 d19 =>
 jc (α := JT) (fun x21 h22 =>
 jc (α := JT) (fun x24 h25 =>
 jc (α := JT) (fun x27 h28 =>
 kPick x11 qt x27 fun x30 =>
 dokS [h5, h22, h28] d19 (brS x30 (some (.nils, h28)) (kLA 131 x4 h28 fun x33 =>
 kNilc x0 fun x34 =>
 kFA 59 x34 fun x35 =>
 kCall X 104 [x33] h28 fun x36 h37 =>
 kIA 5 1 x35 x36 fun x38 =>
 kS1 x38 qt h37 fun _ h40 =>
 dokS [h28, h37, h40] [] (kNilc x0 fun x41 =>
 kFA 59 x41 fun x42 =>
 kLA 5 x42 h40 fun x45 =>
 kNilc x0 fun x46 =>
 kFA 53 x46 fun x47 =>
 kL1 x47 h40 fun x50 =>
 kCall X 110 [x45, x50] h40 fun x51 h52 =>
 dokS [h40, h52] [] (jc (α := Cur 36) (fun _ _ _ _ _ _ _ _ _ _ _ _ _ _ _ _ _ _ _ _ _ _ _ _ _ _ _ _ _ _ _ _ _ _ _ _ h89 =>
 some (.nils, h89)) fun j90 =>
 brS x51 (kNilc x0 fun x91 =>
 kFA 1 x91 fun x92 =>
 kS1 x92 (qi 4) h52 fun _ h94 =>
 j90 u u u u u u u u u u u u u u u u u u u u u u u u u u u u u u u u u u u u h94) (j90 u u u u u u u u u u u u u u u u u u u u u u u u u u u u u u u u u u u u h52)))))) fun j29 =>
 wtS x11 false (kEqI true x17 x24 fun x95 =>
 j29 x95 h25) (j29 u h25)) fun j26 =>
 wtS x11 false (kCall X 109 [x21] h22 fun x96 h97 =>
 j26 x96 h97) (j26 u h22)) fun j23 =>
 wtS x11 false (j23 x0 h18) (j23 u h18)) fun j20 =>
 wtS x11 false (kL1 x12 h13 fun x98 =>
 j20 x98 h13 ((fun h15 => kL1 x12 h15 fun x16 =>
 some (x16, h15), x98, 1, 2) :: [])) (j20 u h13 [])) fun j14 =>
 wtS x11 false (kFA 122 x4 fun x99 =>
 j14 x99 h10) (j14 u h10))
theorem p66_ok (k : Nat) : p66 k = funcS k 3 lit66 := by kernel_rfl
def p68 (k : Nat) : CtxK → List V → TH → R := fun X => ap 3 (fun x0 _ x2 h3 =>
 kNew (V.cellsR x2) h3 fun x4 h5 =>
 kLA 131 x4 h5 fun x6 =>
 kCall X 108 [x0, (qi 4), x6] h5 fun x7 h8 =>
 kNot x7 fun x9 =>
 brS x9 (some (.nils, h8)) (kNilc x0 fun x10 =>
 kFA 309 x10 fun x11 =>
 kL1 x11 h8 fun x12 =>
 kLen x12 fun x13 =>
 lp (α := Cur 96) (zN 96) (fun n111 x14 _ _ _ _ x19 _ _ _ _ _ _ _ _ _ _ _ x31 x32 _ _ _ _ _ _ _ _ _ _ _ _ _ _ _ _ _ _ _ _ _ _ _ _ _ _ _ _ _ _ _ _ _ _ _ _ _ _ _ _ _ _ _ _ _ _ _ _ _ _ _ _ _ _ _ _ _ _ _ _ _ _ _ _ _ _ _ _ _ _ _ _ _ _ _ _ _ h110 =>
 kBin .lss x32 x31 fun x112 =>
 brS x112 (kNilc x14 fun x113 =>
 kFA 309 x113 fun x114 =>
 kL1 x114 h110 fun x117 =>
 kIS 15 x117 x32 fun x118 =>
 kFA 0 x118 fun x119 =>
 kFA 1 x119 fun x120 =>
 kL1 x120 h110 fun x123 =>
 kFA 122 x19 fun x124 =>
 kL1 x124 h110 fun x127 =>
 kBin .leq x123 x127 fun x128 =>
 dokS [h110] [] (jc (α := Cur 96) (fun x129 _ _ _ _ x134 _ _ _ _ _ _ _ _ _ _ _ x146 x147 _ _ _ _ _ _ _ _ _ _ _ _ _ _ _ _ _ _ _ _ _ _ _ _ _ _ _ _ _ _ _ _ _ _ _ _ _ _ _ _ _ _ _ _ _ _ _ _ _ _ _ _ _ _ _ _ _ _ _ _ _ _ _ _ _ _ _ _ _ _ _ _ _ _ _ _ _ h225 =>
 kBin .add x147 (qi 1) fun x227 =>
 n111 x129 u u u u x134 u u u u u u u u u u u x146 x227 u u u u u u u u u u u u u u u u u u u u u u u u u u u u u u u u u u u u u u u u u u u u u u u u u u u u u u u u u u u u u u u u u u u u u u u u u u u u u h225) fun j226 =>
 brS x128 (kNilc x14 fun x228 =>
 kFA 309 x228 fun x229 =>
 kL1 x229 h110 fun x232 =>
 kLA 131 x19 h110 fun x235 =>
 kIS 15 x232 x32 fun x236 =>
 kFA 10 x236 fun x237 =>
 kCall X 104 [x235] h110 fun x238 h239 =>
 kIA 5 1 x237 x238 fun x240 =>
 kS1 x240 qt h239 fun _ h242 =>
 dokS [h110, h239, h242] ((fun h230 => kL1 x229 h230 fun x231 =>
 some (x231, h230), x232, 0, 1) :: []) (j226 x14 u u u u x19 u u u u u u u u u u u x31 x32 u u u u u u u u u u u u u u u u u u u u u u u u u u u u u u u u u u u u u u u u u u u u u u u u u u u u u u u u u u u u u u u u u u u u u u u u u u u u u h242)) (j226 x14 u u u u x19 u u u u u u u u u u u x31 x32 u u u u u u u u u u u u u u u u u u u u u u u u u u u u u u u u u u u u u u u u u u u u u u u u u u u u u u u u u u u u u u u u u u u u u u u u u u u u u h110))) (lp (α := Cur 96) (zN 96) (fun n340 x243 _ _ _ _ _ _ _ x251 _ _ _ _ _ _ _ _ _ _ _ _ _ _ _ _ _ _ _ _ _ _ _ _ _ _ _ _ _ _ _ _ _ _ _ _ _ _ _ _ _ _ _ _ _ _ _ _ _ _ _ _ _ _ _ _ _ _ _ _ _ _ _ _ _ _ _ _ _ _ _ _ _ _ _ _ _ _ _ _ _ _ _ _ _ _ _ h339 =>
 kNilc x243 fun x341 =>
 kFA 309 x341 fun x342 =>
 kL1 x342 h339 fun x345 =>
 kLen x345 fun x346 =>
 kBin .gtr x346 (qi 0) fun x347 =>
 jc (α := JT) (fun x348 h349 =>
 jc (α := JT) (fun x351 h352 =>
 jc (α := JT) (fun x354 h355 =>
 jc (α := V → TH → PD → R) (fun x359 h360 d361 =>
 jc (α := JT) (fun x363 h364 =>
 jc (α := JT) (fun x366 h367 =>
 jc (α := V → TH → PD → R) (fun x371 h372 d373 =>
 jc (α := JT) (fun x375 h376 =>
 jc (α := JT) (fun x378 h379 =>
 jc (α := JT) (fun x381 h382 =>
 jc (α := V → TH → PD → R) (fun x386 h387 d388 =>
 jc (α := JT) (fun x390 h391 =>
 kPick x347 x390 qf fun x393 =>
 dokS [h387, h391] d388 (brS x393 (kNilc x243 fun x394 =>
 kFA 309 x394 fun x395 =>
 kL1 x395 h391 fun x398 =>
 kIS 15 x398 (qi 0) fun x399 =>
 kFA 0 x399 fun x400 =>
 kFA 2 x400 fun x401 =>
 kLA 6 x401 h391 fun x404 =>
 kNilc x243 fun x405 =>
 kFA 309 x405 fun x406 =>
 kL1 x406 h391 fun x409 =>
 kIS 15 x409 (qi 0) fun x410 =>
 kFA 8 x410 fun x411 =>
 kLA 2 x411 h391 fun x414 =>
 kCall X 112 [x243, x404, x414] h391 fun x415 h416 =>
 kBS 131 zr1 1 [(0, 131, x415)] h416 fun x417 h418 =>
 kAp 131 1400 x251 x417 h418 fun x419 h420 =>
 dokS [h391, h418, h420] [] (kNilc x243 fun x421 =>
 kFA 309 x421 fun x422 =>
 kL1 x422 h420 fun x423 =>
 kP (sliceE 15 x423 (some (qi 1)) none) fun x424 =>
 kNilc x243 fun x425 =>
 kFA 309 x425 fun x426 =>
 kS1 x426 x424 h420 fun _ h428 =>
 n340 x243 u u u u u u u x419 u u u u u u u u u u u u u u u u u u u u u u u u u u u u u u u u u u u u u u u u u u u u u u u u u u u u u u u u u u u u u u u u u u u u u u u u u u u u u u u u u u u u u u u h428)) (kCall X 113 [x243] h391 fun x429 h430 =>
 kAp 131 1400 x251 x429 h430 fun x431 h432 =>
 some (x431, h432)))) fun j392 =>
 wtS x347 true (kCall X 110 [x371, x386] h387 fun x433 h434 =>
 j392 x433 h434) (j392 u h387)) fun j389 =>
 wtS x347 true (kL1 x381 h382 fun x435 =>
 j389 x435 h382 d373) (j389 u h382 d373)) fun j383 =>
 wtS x347 true (kFA 53 x378 fun x436 =>
 j383 x436 h379) (j383 u h379)) fun j380 =>
 wtS x347 true (kNilc x375 fun x437 =>
 j380 x437 h376) (j380 u h376)) fun j377 =>
 wtS x347 true (j377 x243 h372) (j377 u h372)) fun j374 =>
 wtS x347 true (kLA 5 x366 h367 fun x438 =>
 j374 x438 h367 d361) (j374 u h367 d361)) fun j368 =>
 wtS x347 true (kFA 10 x363 fun x439 =>
 j368 x439 h364) (j368 u h364)) fun j365 =>
 wtS x347 true (kIS 15 x359 (qi 0) fun x440 =>
 j365 x440 h360) (j365 u h360)) fun j362 =>
 wtS x347 true (kL1 x354 h355 fun x441 =>
 j362 x441 h355 []) (j362 u h355 [])) fun j356 =>
 wtS x347 true (kFA 309 x351 fun x442 =>
 j356 x442 h352) (j356 u h352)) fun j353 =>
 wtS x347 true (kNilc x348 fun x443 =>
 j353 x443 h349) (j353 u h349)) fun j350 =>
 wtS x347 true (j350 x243 h339) (j350 u h339)) k x14 u u u u u u u .nils u u u u u u u u u u u u u u u u u u u u u u u u u u u u u u u u u u u u u u u u u u u u u u u u u u u u u u u u u u u u u u u u u u u u u u u u u u u u u u u u u u u u u u u h110)) k x0 u u u u x4 u u u u u u u u u u u x13 (qi 0) u u u u u u u u u u u u u u u u u u u u u u u u u u u u u u u u u u u u u u u u u u u u u u u u u u u u u u u u u u u u u u u u u u u u u u u u u u u u u h8))
theorem p68_ok (k : Nat) : p68 k = funcS k 3 lit68 := by kernel_rfl
def p71 (_ : Nat) : CtxK → List V → TH → R := fun X => ap 3 (fun x0 _ x2 h3 =>
 kNew (V.cellsR x2) h3 fun x4 h5 =>
 kNilc x0 fun x6 =>
 kFA 1 x6 fun x7 =>
 kL1 x7 h5 fun x8 =>
 kEqI true x8 (qi 4) fun x9 =>
 brS x9 (some (.nils, h5)) (kFA 123 x4 fun x10 =>
 kLA 6 x10 h5 fun x11 =>
 kCall X 9 [x11] h5 fun x12 h13 =>
 brS x12 (kFA 123 x4 fun x14 =>
 kLA 6 x14 h13 fun x15 =>
 kCall X 114 [x0, x15] h13 fun x16 h17 =>
 some (x16, h17)) (kFA 123 x4 fun x18 =>
 kLA 6 x18 h13 fun x19 =>
 kCall X 115 [x0, x19] h13 fun x20 h21 =>
 some (x20, h21))))
theorem p71_ok (k : Nat) : p71 k = funcS k 3 lit71 := by kernel_rfl
def p79 (_ : Nat) : CtxK → List V → TH → R := fun X => ap 1 (fun x0 h1 =>
 kNew (V.cellsR x0) h1 fun x2 h3 =>
 kFA 2 x2 fun x4 =>
 kLA 6 x4 h3 fun x5 =>
 kCall X 9 [x5] h3 fun x6 h7 =>
 jc (α := JT) (fun x8 h9 =>
 jc (α := JT) (fun x11 h12 =>
 jc (α := JT) (fun x14 h15 =>
 kPick x6 x14 qf fun x17 =>
 jc (α := JT) (fun x18 h19 =>
 jc (α := JT) (fun x21 h22 =>
 jc (α := JT) (fun x24 h25 =>
 kPick x17 x24 qf fun x27 =>
 jc (α := JT) (fun x28 h29 =>
 jc (α := JT) (fun x31 h32 =>
 jc (α := JT) (fun x34 h35 =>
 kPick x27 x34 qf fun x37 =>
 some (x37, h35)) fun j36 =>
 wtS x27 true (kBin .leq x31 (qw 60) fun x38 =>
 j36 x38 h32) (j36 u h32)) fun j33 =>
 wtS x27 true (kL1 x28 h29 fun x39 =>
 j33 x39 h29) (j33 u h29)) fun j30 =>
 wtS x27 true (kFA 0 x2 fun x40 =>
 j30 x40 h25) (j30 u h25)) fun j26 =>
 wtS x17 true (kBin .geq x21 (qw 1) fun x41 =>
 j26 x41 h22) (j26 u h22)) fun j23 =>
 wtS x17 true (kL1 x18 h19 fun x42 =>
 j23 x42 h19) (j23 u h19)) fun j20 =>
 wtS x17 true (kFA 0 x2 fun x43 =>
 j20 x43 h15) (j20 u h15)) fun j16 =>
 wtS x6 true (kBin .gtr x11 (qw 0) fun x44 =>
 j16 x44 h12) (j16 u h12)) fun j13 =>
 wtS x6 true (kL1 x8 h9 fun x45 =>
 j13 x45 h9) (j13 u h9)) fun j10 =>
 wtS x6 true (kFA 1 x2 fun x46 =>
 j10 x46 h7) (j10 u h7))
theorem p79_ok (k : Nat) : p79 k = funcS k 1 lit79 := by kernel_rfl
def p84 (_ : Nat) : CtxK → List V → TH → R := fun _ => ap 1 (fun x0 h1 =>
 kNew (V.cellsR x0) h1 fun x2 h3 =>
 some ((.fn 125 [] [x2]), h3))
theorem p84_ok (k : Nat) : p84 k = funcS k 1 lit84 := by kernel_rfl
def p88 (_ : Nat) : CtxK → List V → TH → R := fun X => ap 1 (fun x0 h1 =>
 kNew (V.cellsR x0) h1 fun x2 h3 =>
 kLA 16 x2 h3 fun x4 =>
 kCall X 127 [x4, (.fn 128 [] [])] h3 fun x5 h6 =>
 some (x5, h6))
theorem p88_ok (k : Nat) : p88 k = funcS k 1 lit88 := by kernel_rfl
def p96 (_ : Nat) : CtxK → List V → TH → R := fun X => ap 4 (fun x0 x1 x2 x3 h4 =>
 kNew (V.cellsR x2) h4 fun x5 h6 =>
 kL1 x5 h6 fun x7 =>
 kCall X 136 [x0, x1, x7, x3] h6 fun x8 h9 =>
 kLen x8 fun x10 =>
 kEqI false x10 (qi 0) fun x11 =>
 jc (α := JT) (fun x12 h13 =>
 jc (α := JT) (fun x15 h16 =>
 jc (α := JT) (fun x18 h19 =>
 jc (α := JT) (fun x21 h22 =>
 jc (α := JT) (fun x24 h25 =>
 jc (α := JT) (fun x27 h28 =>
 kPick x11 x27 qf fun x30 =>
 some (x30, h28)) fun j29 =>
 wtS x11 true (kNot x24 fun x31 =>
 j29 x31 h25) (j29 u h25)) fun j26 =>
 wtS x11 true (kCall X 137 [x18, x21] h22 fun x32 h33 =>
 j26 x32 h33) (j26 u h22)) fun j23 =>
 wtS x11 true (j23 (.fn 135 [] [x5]) h19) (j23 u h19)) fun j20 =>
 wtS x11 true (kCall X 12 [x12, x15] h16 fun x34 h35 =>
 j20 x34 h35) (j20 u h16)) fun j17 =>
 wtS x11 true (j17 x1 h13) (j17 u h13)) fun j14 =>
 wtS x11 true (j14 x0 h9) (j14 u h9))
theorem p96_ok (k : Nat) : p96 k = funcS k 4 lit96 := by kernel_rfl
def p106 (k : Nat) : CtxK → List V → TH → R := fun X => ap 2 (fun x0 x1 h2 =>
 kNew (V.cellsR x1) h2 fun x3 h4 =>
 kNilc x0 fun x5 =>
 kFA 3 x5 fun x6 =>
 kFA 0 x6 fun x7 =>
 kL1 x7 h4 fun x10 =>
 kNilc x0 fun x11 =>
 kFA 52 x11 fun x12 =>
 kL1 x12 h4 fun x15 =>
 kBin .gtr x10 x15 fun x16 =>
 dokS [h4] [] (jc (α := Cur 92) (fun _ _ _ _ _ _ _ _ _ _ _ _ _ _ _ _ _ _ _ _ _ _ _ _ _ _ _ _ _ _ _ _ _ _ _ _ _ _ _ _ _ _ _ _ _ _ _ _ _ _ _ _ _ _ _ _ _ _ _ _ _ _ _ _ _ _ _ _ _ _ _ _ _ _ _ _ _ _ _ _ _ _ _ _ _ _ _ _ _ _ _ _ h109 =>
 some (.tup [], h109)) fun j110 =>
 brS x16 (j110 u u u u u u u u u u u u u u u u u u u u u u u u u u u u u u u u u u u u u u u u u u u u u u u u u u u u u u u u u u u u u u u u u u u u u u u u u u u u u u u u u u u u u u u u u u u u h4) (kNilc x0 fun x111 =>
 kFA 3 x111 fun x112 =>
 kFA 0 x112 fun x113 =>
 kL1 x113 h4 fun x116 =>
 kNilc x0 fun x117 =>
 kFA 52 x117 fun x118 =>
 kL1 x118 h4 fun x121 =>
 kBin .lss x116 x121 fun x122 =>
 dokS [h4] [] (jc (α := Cur 92) (fun _ _ _ _ _ _ _ _ _ _ _ _ _ _ _ _ _ _ _ _ _ _ _ _ _ _ _ _ _ _ _ _ _ _ _ _ _ _ _ _ _ _ _ _ _ _ _ _ _ _ _ _ _ _ _ _ _ _ _ _ _ _ _ _ _ _ _ _ _ _ _ _ _ _ _ _ _ _ _ _ _ _ _ _ _ _ _ _ _ _ _ _ h215 =>
 j110 u u u u u u u u u u u u u u u u u u u u u u u u u u u u u u u u u u u u u u u u u u u u u u u u u u u u u u u u u u u u u u u u u u u u u u u u u u u u u u u u u u u u u u u u u u u u h215) fun j216 =>
 brS x122 (kNilc x0 fun x217 =>
 kFA 3 x217 fun x218 =>
 kLA 49 x218 h4 fun x221 =>
 kLA 52 x3 h4 fun x224 =>
 kNew zr0 h4 fun x225 h226 =>
 kCall X 155 [x221, x224] h226 fun x227 h228 =>
 kExt x227 0 fun x229 =>
 kExt x227 1 fun x230 =>
 kSA 49 x225 x229 h228 fun _ h232 =>
 dokS [h226, h228, h232] [] (kEqI false x230 (qi 0) fun x233 =>
 jc (α := Cur 92) (fun _ _ _ _ _ _ _ _ _ _ _ _ _ _ _ _ _ _ _ _ _ _ _ _ _ _ _ _ _ _ _ _ _ _ _ _ _ _ _ _ _ _ _ _ _ _ _ _ _ _ _ _ _ _ _ _ _ _ _ _ _ _ _ _ _ _ _ _ _ _ _ _ _ _ _ _ _ _ _ _ _ _ _ _ _ _ _ _ _ _ _ _ h326 =>
 j216 u u u u u u u u u u u u u u u u u u u u u u u u u u u u u u u u u u u u u u u u u u u u u u u u u u u u u u u u u u u u u u u u u u u u u u u u u u u u u u u u u u u u u u u u u u u u h326) fun j327 =>
 brS x233 (kLA 49 x225 h232 fun x328 =>
 kNilc x0 fun x329 =>
 kFA 3 x329 fun x330 =>
 kSA 49 x330 x328 h232 fun _ h332 =>
 j327 u u u u u u u u u u u u u u u u u u u u u u u u u u u u u u u u u u u u u u u u u u u u u u u u u u u u u u u u u u u u u u u u u u u u u u u u u u u u u u u u u u u u u u u u u u u u h332) (j327 u u u u u u u u u u u u u u u u u u u u u u u u u u u u u u u u u u u u u u u u u u u u u u u u u u u u u u u u u u u u u u u u u u u u u u u u u u u u u u u u u u u u u u u u u u u u h232))) (kFA 0 x3 fun x333 =>
 kL1 x333 h4 fun x334 =>
 kEqI false x334 (qi 1) fun x335 =>
 jc (α := Cur 92) (fun _ _ _ _ _ _ _ _ _ _ _ _ _ _ _ _ _ _ _ _ _ _ _ _ _ _ _ _ _ _ _ _ _ _ _ _ _ _ _ _ _ _ _ _ _ _ _ _ _ _ _ _ _ _ _ _ _ _ _ _ _ _ _ _ _ _ _ _ _ _ _ _ _ _ _ _ _ _ _ _ _ _ _ _ _ _ _ _ _ _ _ _ h428 =>
 j216 u u u u u u u u u u u u u u u u u u u u u u u u u u u u u u u u u u u u u u u u u u u u u u u u u u u u u u u u u u u u u u u u u u u u u u u u u u u u u u u u u u u u u u u u u u u u h428) fun j429 =>
 brS x335 (kFA 2 x3 fun x430 =>
 kL1 x430 h4 fun x431 =>
 kLen x431 fun x432 =>
 lp (α := Cur 92) (zN 92) (fun n526 x433 _ _ _ _ _ _ _ _ _ _ _ _ _ _ _ _ _ _ _ _ _ _ _ _ _ _ _ _ _ _ _ _ _ _ _ _ _ _ _ _ _ _ _ _ _ _ _ _ _ _ _ x485 x486 x487 _ _ _ _ _ _ _ _ _ _ _ _ _ _ _ _ _ _ _ _ _ _ _ _ _ _ _ _ _ _ _ _ _ _ _ _ _ h525 =>
 kBin .lss x487 x486 fun x527 =>
 brS x527 (kIS 8 x485 x487 fun x528 =>
 kLA 8 x528 h525 fun x529 =>
 kNew zr2 h525 fun x530 h531 =>
 kSA 8 x530 x529 h531 fun _ h533 =>
 kLA 8 x530 h533 fun x534 =>
 kCall X 111 [x433, x534] h533 fun _ h536 =>
 kBin .add x487 (qi 1) fun x537 =>
 n526 x433 u u u u u u u u u u u u u u u u u u u u u u u u u u u u u u u u u u u u u u u u u u u u u u u u u u u x485 x486 x537 u u u u u u u u u u u u u u u u u u u u u u u u u u u u u u u u u u u u u h536) (j429 u u u u u u u u u u u u u u u u u u u u u u u u u u u u u u u u u u u u u u u u u u u u u u u u u u u u u u u u u u u u u u u u u u u u u u u u u u u u u u u u u u u u u u u u u u u u h525)) k x0 u u u u u u u u u u u u u u u u u u u u u u u u u u u u u u u u u u u u u u u u u u u u u u u u u u u x431 x432 (qi 0) u u u u u u u u u u u u u u u u u u u u u u u u u u u u u u u u u u u u u h4) (kFA 0 x3 fun x538 =>
 kL1 x538 h4 fun x541 =>
 kEqI false x541 (qi 2) fun x542 =>
 jc (α := JT) (fun x543 h544 =>
 jc (α := JT) (fun x546 h547 =>
 jc (α := V → TH → PD → R) (fun x551 h552 d553 =>
 jc (α := JT) (fun x555 h556 =>
 jc (α := JT) (fun x558 h559 =>
 jc (α := JT) (fun x561 h562 =>
 jc (α := V → TH → PD → R) (fun x566 h567 d568 =>
 jc (α := JT) (fun x570 h571 =>
 kPick x542 x570 qf fun x573 =>
 dokS [h571] d568 (jc (α := Cur 92) (fun _ _ _ _ _ _ _ _ _ _ _ _ _ _ _ _ _ _ _ _ _ _ _ _ _ _ _ _ _ _ _ _ _ _ _ _ _ _ _ _ _ _ _ _ _ _ _ _ _ _ _ _ _ _ _ _ _ _ _ _ _ _ _ _ _ _ _ _ _ _ _ _ _ _ _ _ _ _ _ _ _ _ _ _ _ _ _ _ _ _ _ _ h666 =>
 j429 u u u u u u u u u u u u u u u u u u u u u u u u u u u u u u u u u u u u u u u u u u u u u u u u u u u u u u u u u u u u u u u u u u u u u u u u u u u u u u u u u u u u u u u u u u u u h666) fun j667 =>
 brS x573 (kFA 3 x3 fun x668 =>
 kLA 49 x668 h571 fun x669 =>
 kCall X 22 [x669] h571 fun x670 h671 =>
 kExt x670 0 fun _ =>
 kExt x670 1 fun x673 =>
 kCall X 109 [x0] h671 fun x674 h675 =>
 kBin .gtr x673 x674 fun x676 =>
 jc (α := Cur 92) (fun _ _ _ _ _ _ _ _ _ _ _ _ _ _ _ _ _ _ _ _ _ _ _ _ _ _ _ _ _ _ _ _ _ _ _ _ _ _ _ _ _ _ _ _ _ _ _ _ _ _ _ _ _ _ _ _ _ _ _ _ _ _ _ _ _ _ _ _ _ _ _ _ _ _ _ _ _ _ _ _ _ _ _ _ _ _ _ _ _ _ _ _ h769 =>
 j667 u u u u u u u u u u u u u u u u u u u u u u u u u u u u u u u u u u u u u u u u u u u u u u u u u u u u u u u u u u u u u u u u u u u u u u u u u u u u u u u u u u u u u u u u u u u u h769) fun j770 =>
 brS x676 (kFA 3 x3 fun x771 =>
 kLA 49 x771 h675 fun x772 =>
 kCall X 36 [x772] h675 fun x773 h774 =>
 kNilc x0 fun x775 =>
 kFA 3 x775 fun x776 =>
 kSA 49 x776 x773 h774 fun _ h778 =>
 j770 u u u u u u u u u u u u u u u u u u u u u u u u u u u u u u u u u u u u u u u u u u u u u u u u u u u u u u u u u u u u u u u u u u u u u u u u u u u u u u u u u u u u u u u u u u u u h778) (j770 u u u u u u u u u u u u u u u u u u u u u u u u u u u u u u u u u u u u u u u u u u u u u u u u u u u u u u u u u u u u u u u u u u u u u u u u u u u u u u u u u u u u u u u u u u u u h675)) (j667 u u u u u u u u u u u u u u u u u u u u u u u u u u u u u u u u u u u u u u u u u u u u u u u u u u u u u u u u u u u u u u u u u u u u u u u u u u u u u u u u u u u u u u u u u u u u h571))) fun j572 =>
 wtS x542 true (kEqI false x551 x566 fun x779 =>
 j572 x779 h567) (j572 u h567)) fun j569 =>
 wtS x542 true (kL1 x561 h562 fun x780 =>
 j569 x780 h562 d553) (j569 u h562 d553)) fun j563 =>
 wtS x542 true (kFA 52 x558 fun x781 =>
 j563 x781 h559) (j563 u h559)) fun j560 =>
 wtS x542 true (kNilc x555 fun x782 =>
 j560 x782 h556) (j560 u h556)) fun j557 =>
 wtS x542 true (j557 x0 h552) (j557 u h552)) fun j554 =>
 wtS x542 true (kL1 x546 h547 fun x783 =>
 j554 x783 h547 []) (j554 u h547 [])) fun j548 =>
 wtS x542 true (kFA 0 x543 fun x784 =>
 j548 x784 h544) (j548 u h544)) fun j545 =>
 wtS x542 true (kFA 3 x3 fun x785 =>
 j545 x785 h4) (j545 u h4)))))))
theorem p106_ok (k : Nat) : p106 k = funcS k 2 lit106 := by kernel_rfl
def p109 (_ : Nat) : CtxK → List V → TH → R := fun X => ap 1 (fun x0 h1 =>
 kNilc x0 fun x2 =>
 kFA 3 x2 fun x3 =>
 kLA 49 x3 h1 fun x4 =>
 kCall X 22 [x4] h1 fun x5 h6 =>
 kExt x5 0 fun _ =>
 kExt x5 1 fun x8 =>
 some (x8, h6))
theorem p109_ok (k : Nat) : p109 k = funcS k 1 lit109 := by kernel_rfl
def p110 (_ : Nat) : CtxK → List V → TH → R := fun X => ap 2 (fun x0 x1 h2 =>
 kNew (V.cellsR x0) h2 fun x3 h4 =>
 kCall X 137 [x1, (.fn 156 [] [x3])] h4 fun x5 h6 =>
 kNot x5 fun x7 =>
 some (x7, h6))
theorem p110_ok (k : Nat) : p110 k = funcS k 2 lit110 := by kernel_rfl
def p111 (_ : Nat) : CtxK → List V → TH → R := fun X => ap 2 (fun x0 x1 h2 =>
 kNew (V.cellsR x1) h2 fun x3 h4 =>
 kFA 1 x3 fun x5 =>
 kL1 x5 h4 fun x8 =>
 kCall X 109 [x0] h4 fun x9 h10 =>
 kBin .geq x9 x8 fun x11 =>
 jc (α := JT) (fun x12 h13 =>
 jc (α := V → TH → PD → R) (fun x17 h18 d19 =>
 jc (α := JT) (fun x21 h22 =>
 jc (α := JT) (fun x24 h25 =>
 jc (α := JT) (fun x27 h28 =>
 jc (α := JT) (fun x30 h31 =>
 kPick x11 qt x30 fun x33 =>
 dokS [h4, h22, h31] d19 (brS x33 (some (.tup [], h31)) (kNilc x0 fun x34 =>
 kFA 3 x34 fun x35 =>
 kLA 49 x35 h31 fun x38 =>
 kLA 8 x3 h31 fun x41 =>
 kNew zr0 h31 fun x42 h43 =>
 kCall X 157 [x38, x41] h43 fun x44 h45 =>
 kExt x44 0 fun x46 =>
 kExt x44 1 fun x47 =>
 kSA 49 x42 x46 h45 fun _ h49 =>
 dokS [h43, h45, h49] [] (kEqI false x47 (qi 0) fun x50 =>
 jc (α := Cur 34) (fun _ _ _ _ _ _ _ _ _ _ _ _ _ _ _ _ _ _ _ _ _ _ _ _ _ _ _ _ _ _ _ _ _ _ h85 =>
 some (.tup [], h85)) fun j86 =>
 brS x50 (kLA 49 x42 h49 fun x87 =>
 kNilc x0 fun x88 =>
 kFA 3 x88 fun x89 =>
 kSA 49 x89 x87 h49 fun _ h91 =>
 j86 u u u u u u u u u u u u u u u u u u u u u u u u u u u u u u u u u u h91) (j86 u u u u u u u u u u u u u u u u u u u u u u u u u u u u u u u u u u h49))))) fun j32 =>
 wtS x11 false (kBin .gtr x27 (qw 1) fun x92 =>
 j32 x92 h28) (j32 u h28)) fun j29 =>
 wtS x11 false (kBin .sub x17 x24 fun x93 =>
 j29 x93 h25) (j29 u h25)) fun j26 =>
 wtS x11 false (kCall X 109 [x21] h22 fun x94 h95 =>
 j26 x94 h95) (j26 u h22)) fun j23 =>
 wtS x11 false (j23 x0 h18) (j23 u h18)) fun j20 =>
 wtS x11 false (kL1 x12 h13 fun x96 =>
 j20 x96 h13 ((fun h15 => kL1 x12 h15 fun x16 =>
 some (x16, h15), x96, 1, 2) :: ((fun h6 => kL1 x5 h6 fun x7 =>
 some (x7, h6), x8, 0, 1) :: []))) (j20 u h13 ((fun h6 => kL1 x5 h6 fun x7 =>
 some (x7, h6), x8, 0, 1) :: []))) fun j14 =>
 wtS x11 false (kFA 1 x3 fun x97 =>
 j14 x97 h10) (j14 u h10))
theorem p111_ok (k : Nat) : p111 k = funcS k 2 lit111 := by kernel_rfl
def p117 (_ : Nat) : CtxK → List V → TH → R := fun _ => ap 1 (fun x0 h1 =>
 kBin .geq x0 (qb 10) fun x2 =>
 jc (α := JT) (fun x3 h4 =>
 jc (α := JT) (fun x6 h7 =>
 kPick x2 x6 qf fun x9 =>
 some (x9, h7)) fun j8 =>
 wtS x2 true (kBin .lss x3 (qb 15) fun x10 =>
 j8 x10 h4) (j8 u h4)) fun j5 =>
 wtS x2 true (j5 x0 h1) (j5 u h1))
theorem p117_ok (k : Nat) : p117 k = funcS k 1 lit117 := by kernel_rfl
def p119 (_ : Nat) : CtxK → List V → TH → R := fun _ => ap 1 (fun x0 h1 =>
 kNew zr3 h1 fun x2 h3 =>
 kB zr3 [(0, 1, qt), (4, 1, qt)] fun x4 =>
 kNew zr3 h3 fun x5 h6 =>
 kSA 11 x5 x4 h6 fun _ h8 =>
 kEqI false x0 (qb 8) fun x9 =>
 jc (α := Cur 24) (fun x10 x11 x12 x13 x14 x15 x16 x17 x18 x19 x20 x21 x22 x23 x24 x25 x26 x27 x28 x29 x30 x31 x32 _ h34 =>
 kLA 11 x13 h34 fun x36 =>
 kSA 11 x12 x36 h34 fun _ h38 =>
 rsS [.cell 2 true 11] [x10, x11, x12, x13, x14, x15, x16, x17, x18, x19, x20, x21, x22, x23, x24, x25, x26, x27, x28, x29, x30, x31, x32, x36] h38) fun j35 =>
 brS x9 (kFA 5 x5 fun x39 =>
 kS1 x39 qt h8 fun _ h41 =>
 j35 u u x2 x5 u u u u u u u u u u u u u u u u u u u u h41) (kEqI false x0 (qb 9) fun x42 =>
 jc (α := Cur 24) (fun _ _ x45 x46 _ _ _ _ _ _ _ _ _ _ _ _ _ _ _ _ _ _ _ _ h67 =>
 j35 u u x45 x46 u u u u u u u u u u u u u u u u u u u u h67) fun j68 =>
 brS x42 (kFA 6 x5 fun x69 =>
 kS1 x69 qt h8 fun _ h71 =>
 j68 u u x2 x5 u u u u u u u u u u u u u u u u u u u u h71) (kEqI false x0 (qb 10) fun x72 =>
 jc (α := Cur 24) (fun _ _ x75 x76 _ x78 _ _ _ _ _ _ x85 _ _ _ _ _ _ _ _ _ _ _ h97 =>
 jc (α := Cur 24) (fun _ _ x101 x102 _ _ _ _ _ _ _ _ _ _ _ _ _ _ _ _ _ _ _ _ h123 =>
 j68 u u x101 x102 u u u u u u u u u u u u u u u u u u u u h123) fun j124 =>
 brS x85 (kFA 8 x76 fun x125 =>
 kS1 x125 qt h97 fun _ h127 =>
 j124 u u x75 x76 u u u u u u u u u u u u u u u u u u u u h127) (kEqI false x78 (qb 11) fun x128 =>
 jc (α := Cur 24) (fun _ _ x131 x132 _ _ _ _ _ _ _ _ _ _ _ _ _ _ _ _ _ _ _ _ h153 =>
 j124 u u x131 x132 u u u u u u u u u u u u u u u u u u u u h153) fun j154 =>
 brS x128 (kFA 7 x76 fun x155 =>
 kS1 x155 qt h97 fun _ h157 =>
 j154 u u x75 x76 u u u u u u u u u u u u u u u u u u u u h157) (kEqI false x78 (qb 13) fun x158 =>
 jc (α := Cur 24) (fun _ _ x161 x162 _ _ _ _ _ _ _ _ _ _ _ _ _ _ _ x178 _ _ _ _ h183 =>
 jc (α := Cur 24) (fun _ _ x187 x188 _ _ _ _ _ _ _ _ _ _ _ _ _ _ _ _ _ _ _ _ h209 =>
 j154 u u x187 x188 u u u u u u u u u u u u u u u u u u u u h209) fun j210 =>
 brS x178 (kFA 9 x162 fun x211 =>
 kS1 x211 qt h183 fun _ h213 =>
 j210 u u x161 x162 u u u u u u u u u u u u u u u u u u u u h213) (j210 u u x161 x162 u u u u u u u u u u u u u u u u u u u u h183)) fun j184 =>
 brS x158 (j184 u u x75 x76 u u u u u u u u u u u u u u u x158 u u u u h97) (kEqI false x78 (qb 14) fun x214 =>
 j184 u u x75 x76 u u u u u u u u u u u u u u u x214 u u u u h97)))) fun j98 =>
 brS x72 (j98 u u x2 x5 u x0 u u u u u u x72 u u u u u u u u u u u h8) (kEqI false x0 (qb 12) fun x215 =>
 j98 u u x2 x5 u x0 u u u u u u x215 u u u u u u u u u u u h8))))
theorem p119_ok (k : Nat) : p119 k = funcS k 1 lit119 := by kernel_rfl
def p124 (_ : Nat) : CtxK → List V → TH → R := fun X => ap 1 (fun x0 h1 =>
 kCall X 164 [.nils, x0] h1 fun x2 h3 =>
 some (x2, h3))
theorem p124_ok (k : Nat) : p124 k = funcS k 1 lit124 := by kernel_rfl
def p127 (k : Nat) : CtxK → List V → TH → R := fun X => ap 2 (fun x0 x1 h2 =>
 kNew (V.cellsR x0) h2 fun x3 h4 =>
 kFA 1 x3 fun x5 =>
 kLA 15 x5 h4 fun x6 =>
 lp (α := Cur 23) (zN 23) (fun n31 _ x8 _ _ _ x12 _ _ _ x16 x17 _ _ _ _ _ _ _ _ _ _ _ _ h30 =>
 kBin .lss x17 (qi 5) fun x32 =>
 brS x32 (kP (indexE (some (5, 3, true)) x16 x17) fun x33 =>
 kNew [qf, (qi 0), (qb 0)] h30 fun x34 h35 =>
 kSA 3 x34 x33 h35 fun _ h37 =>
 kLA 3 x34 h37 fun x38 =>
 kCv X x8 [x38] h37 fun x39 h40 =>
 jc (α := Cur 23) (fun _ x42 _ _ _ x46 _ _ _ x50 x51 _ _ _ _ _ _ _ _ _ _ _ _ h64 =>
 kBin .add x51 (qi 1) fun x66 =>
 n31 u x42 u u u x46 u u u x50 x66 u u u u u u u u u u u u h64) fun j65 =>
 brS x39 (kBS 1 [(qi 0)] 1 [(0, 1, x17)] h40 fun x67 h68 =>
 kAp 1 8 x12 x67 h68 fun x69 h70 =>
 j65 u x8 u u u x69 u u u x16 x17 u u u u u u u u u u u u h70) (j65 u x8 u u u x12 u u u x16 x17 u u u u u u u u u u u u h40)) (some (x12, h30))) k u x1 u u u .nils u u u x6 (qi 0) u u u u u u u u u u u u h4)
theorem p127_ok (k : Nat) : p127 k = funcS k 2 lit127 := by kernel_rfl
def p135 (_ : Nat) : CtxK → List V → TH → R := fun X => ap 2 (fun x0 x1 h2 =>
 kL1 x1 h2 fun x3 =>
 kCall X 54 [x3, x0] h2 fun x4 h5 =>
 kNot x4 fun x6 =>
 some (x6, h5))
theorem p135_ok (k : Nat) : p135 k = funcS k 2 lit135 := by kernel_rfl
def p136 (_ : Nat) : CtxK → List V → TH → R := fun X => ap 4 (fun x0 x1 x2 x3 h4 =>
 kCall X 171 [x0, x1] h4 fun x5 h6 =>
 kLen x5 fun x7 =>
 kEqI false x7 (qi 0) fun x8 =>
 brS x8 (some (.nils, h6)) (kB [.nils, (qw 0)] [(0, 1, x2), (1, 1, x3)] fun x9 =>
 kNew [.nilfn] h6 fun x10 h11 =>
 kS1 x10 (.fn 172 [x9] []) h11 fun _ h13 =>
 kLen x5 fun x14 =>
 kBin .sub x14 (qi 1) fun x15 =>
 kP (sliceE 2 x5 none (some x15)) fun x16 =>
 kCall X 173 [x16, (.fn 174 [] [x10])] h13 fun x17 h18 =>
 some (x17, h18)))
theorem p136_ok (k : Nat) : p136 k = funcS k 4 lit136 := by kernel_rfl
def p154 (_ : Nat) : CtxK → List V → TH → R := fun _ => ap 1 (fun x0 h1 =>
 kBin .geq x0 (.int .u64 4294967296) fun x2 =>
 jc (α := Cur 25) (fun x3 _ x5 _ _ _ _ _ _ _ _ _ _ _ _ _ _ _ _ _ _ _ _ _ _ h28 =>
 kBin .geq x3 (.int .u64 65536) fun x30 =>
 jc (α := Cur 25) (fun x31 _ x33 _ _ _ _ _ _ _ _ _ _ _ _ _ _ _ _ _ _ _ _ _ _ h56 =>
 kBin .geq x31 (.int .u64 256) fun x58 =>
 jc (α := Cur 25) (fun x59 _ x61 _ _ _ _ _ _ _ _ _ _ _ _ _ _ _ _ _ _ _ _ _ _ h84 =>
 kConv .u8 x59 fun x86 =>
 kP (indexE none (.str (bs [0, 1, 2, 2, 3, 3, 3, 3, 4, 4, 4, 4, 4, 4, 4, 4, 5, 5, 5, 5, 5, 5, 5, 5, 5, 5, 5, 5, 5, 5, 5, 5, 6, 6, 6, 6, 6, 6, 6, 6, 6, 6, 6, 6, 6, 6, 6, 6, 6, 6, 6, 6, 6, 6, 6, 6, 6, 6, 6, 6, 6, 6, 6, 6, 7, 7, 7, 7, 7, 7, 7, 7, 7, 7, 7, 7, 7, 7, 7, 7, 7, 7, 7, 7, 7, 7, 7, 7, 7, 7, 7, 7, 7, 7, 7, 7, 7, 7, 7, 7, 7, 7, 7, 7, 7, 7, 7, 7, 7, 7, 7, 7, 7, 7, 7, 7, 7, 7, 7, 7, 7, 7, 7, 7, 7, 7, 7, 7, 8, 8, 8, 8, 8, 8, 8, 8, 8, 8, 8, 8, 8, 8, 8, 8, 8, 8, 8, 8, 8, 8, 8, 8, 8, 8, 8, 8, 8, 8, 8, 8, 8, 8, 8, 8, 8, 8, 8, 8, 8, 8, 8, 8, 8, 8, 8, 8, 8, 8, 8, 8, 8, 8, 8, 8, 8, 8, 8, 8, 8, 8, 8, 8, 8, 8, 8, 8, 8, 8, 8, 8, 8, 8, 8, 8, 8, 8, 8, 8, 8, 8, 8, 8, 8, 8, 8, 8, 8, 8, 8, 8, 8, 8, 8, 8, 8, 8, 8, 8, 8, 8, 8, 8, 8, 8, 8, 8, 8, 8, 8, 8, 8, 8, 8, 8, 8, 8, 8, 8, 8, 8, 8, 8, 8, 8, 8, 8])) x86) fun x87 =>
 kConv .i64 x87 fun x88 =>
 kBin .add x61 x88 fun x89 =>
 some (x89, h84)) fun j85 =>
 brS x58 (kBin .shr x31 (.int .u64 8) fun x90 =>
 kBin .add x33 (qi 8) fun x91 =>
 j85 x90 u x91 u u u u u u u u u u u u u u u u u u u u u u h56) (j85 x31 u x33 u u u u u u u u u u u u u u u u u u u u u u h56)) fun j57 =>
 brS x30 (kBin .shr x3 (.int .u64 16) fun x92 =>
 kBin .add x5 (qi 16) fun x93 =>
 j57 x92 u x93 u u u u u u u u u u u u u u u u u u u u u u h28) (j57 x3 u x5 u u u u u u u u u u u u u u u u u u u u u u h28)) fun j29 =>
 brS x2 (kBin .shr x0 (.int .u64 32) fun x94 =>
 j29 x94 u (qi 32) u u u u u u u u u u u u u u u u u u u u u u h1) (j29 x0 u (qi 0) u u u u u u u u u u u u u u u u u u u u u u h1))
theorem p154_ok (k : Nat) : p154 k = funcS k 1 lit154 := by kernel_rfl
def p156 (_ : Nat) : CtxK → List V → TH → R := fun _ => ap 2 (fun x0 x1 h2 =>
 kIA 5 1 x1 x0 fun x3 =>
 kL1 x3 h2 fun x4 =>
 kNot x4 fun x5 =>
 some (x5, h2))
theorem p156_ok (k : Nat) : p156 k = funcS k 2 lit156 := by kernel_rfl
def p157 (_ : Nat) : CtxK → List V → TH → R := fun X => ap 2 (fun x0 x1 h2 =>
 kNew (V.cellsR x0) h2 fun x3 h4 =>
 kNew (V.cellsR x1) h4 fun x5 h6 =>
 kNew zr0 h6 fun x7 h8 =>
 kLA 49 x3 h8 fun x11 =>
 kCall X 50 [x11] h8 fun x12 h13 =>
 kNot x12 fun x14 =>
 jc (α := V → TH → PD → R) (fun x17 h18 d19 =>
 jc (α := V → TH → PD → R) (fun x23 h24 d25 =>
 jc (α := JT) (fun x27 h28 =>
 jc (α := JT) (fun x30 h31 =>
 jc (α := JT) (fun x33 h34 =>
 kPick x14 qt x33 fun x36 =>
 dokS [h8, h24, h28, h34] d25 (brS x36 (kB zr0 [] fun x37 =>
 kSA 49 x7 x37 h34 fun _ h39 =>
 rsS [.cell 4 true 49, .tmp 5] [x0, x1, x3, x5, x7, (qi 10), x11, x12, x14, x14, x17, x27, x23, x30, x33, x36, x37, u, u, u, u, u, u, u, u, u, u, u, u, u, u] h39) (kFA 48 x3 fun x40 =>
 kL1 x40 h34 fun x43 =>
 kLA 8 x5 h34 fun x46 =>
 kBS 8 zr2 1 [(0, 8, x46)] h34 fun x47 h48 =>
 kCall X 94 [x43] h48 fun x49 h50 =>
 kAp 8 40 x49 x47 h50 fun x51 h52 =>
 kFA 48 x3 fun x53 =>
 kS1 x53 x51 h52 fun _ h55 =>
 dokS [h48, h50, h52, h55] ((fun h44 => kLA 8 x5 h44 fun x45 =>
 some (x45, h44), x46, 0, 1) :: []) (kLA 49 x3 h55 fun x56 =>
 kFA 48 x3 fun x57 =>
 kL1 x57 h55 fun x58 =>
 kLen x58 fun x59 =>
 kBin .sub x59 (qi 6) fun x60 =>
 kP (minE true x60 (qi 0)) fun x61 =>
 kCall X 52 [x56, x61] h55 fun x62 h63 =>
 kSA 49 x7 x62 h63 fun _ h65 =>
 rsS [.cell 4 true 49, .tmp 5] [x0, x1, x3, x5, x7, (qi 0), x11, x12, x14, x14, x17, x27, x23, x30, x33, x36, u, x40, x43, x49, x46, x47, x51, x53, x56, x57, x58, x59, x60, x61, x62] h65)))) fun j35 =>
 wtS x14 false (kNot x30 fun x66 =>
 j35 x66 h31) (j35 u h31)) fun j32 =>
 wtS x14 false (kCall X 92 [x27, x23] h28 fun x67 h68 =>
 j32 x67 h68) (j32 u h28)) fun j29 =>
 wtS x14 false (kCall X 51 [x17] h24 fun x69 h70 =>
 j29 x69 h70) (j29 u h24)) fun j26 =>
 wtS x14 false (kLA 8 x5 h18 fun x71 =>
 j26 x71 h18 ((fun h21 => kLA 8 x5 h21 fun x22 =>
 some (x22, h21), x71, 1, 2) :: d19)) (j26 u h18 d19)) fun j20 =>
 wtS x14 false (kLA 49 x3 h13 fun x72 =>
 j20 x72 h13 []) (j20 u h13 []))
theorem p157_ok (k : Nat) : p157 k = funcS k 2 lit157 := by kernel_rfl
def p160 (_ : Nat) : CtxK → List V → TH → R := fun X => ap 3 (fun x0 x1 x2 h3 =>
 kNew zr1 h3 fun x4 h5 =>
 kL1 x1 h5 fun x6 =>
 kLA 8 x2 h5 fun x7 =>
 kCall X 47 [x6, x0, x7] h5 fun x8 h9 =>
 kSA 131 x4 x8 h9 fun _ h11 =>
 rsS [.cell 4 true 131] [x0, x1, x2, u, x4, x6, x0, x7, x8] h11)
theorem p160_ok (k : Nat) : p160 k = funcS k 3 lit160 := by kernel_rfl
def p166 (_ : Nat) : CtxK → List V → TH → R := fun X => ap 2 (fun x0 x1 h2 =>
 kNew (V.cellsR x0) h2 fun x3 h4 =>
 kNew zr4 h4 fun x5 h6 =>
 kLA 49 x3 h6 fun x7 =>
 kCall X 50 [x7] h6 fun x8 h9 =>
 kNot x8 fun x10 =>
 jc (α := JT) (fun x11 h12 =>
 jc (α := JT) (fun x14 h15 =>
 jc (α := JT) (fun x17 h18 =>
 jc (α := JT) (fun x20 h21 =>
 kPick x10 qt x20 fun x23 =>
 brS x23 (kB zr4 [] fun x24 =>
 kSA 39 x5 x24 h21 fun _ h26 =>
 rsS [.cell 4 true 39, .tmp 5] [x0, x1, x3, u, x5, qf, x7, x8, x10, x10, x11, x14, x17, x20, x23, x24, u, u, u, u, u, u] h26) (kLA 49 x3 h21 fun x29 =>
 kLA 49 x3 h21 fun x32 =>
 kCall X 190 [x32, x1] h21 fun x33 h34 =>
 kCall X 52 [x29, x33] h34 fun x35 h36 =>
 kP (fieldE true 1 39 x35) fun x37 =>
 kSA 39 x5 x37 h36 fun _ h39 =>
 dokS [h21, h34, h36, h39] ((fun h27 => kLA 49 x3 h27 fun x28 =>
 some (x28, h27), x29, 0, 1) :: []) (rsS [.cell 4 true 39, .tmp 5] [x0, x1, x3, u, x5, qt, x7, x8, x10, x10, x11, x14, x17, x20, x23, u, x29, x32, x1, x33, x35, x37] h39))) fun j22 =>
 wtS x10 false (kBin .lss x17 (qi 0) fun x40 =>
 j22 x40 h18) (j22 u h18)) fun j19 =>
 wtS x10 false (kCall X 190 [x11, x14] h15 fun x41 h42 =>
 j19 x41 h42) (j19 u h15)) fun j16 =>
 wtS x10 false (j16 x1 h12) (j16 u h12)) fun j13 =>
 wtS x10 false (kLA 49 x3 h9 fun x43 =>
 j13 x43 h9) (j13 u h9))
theorem p166_ok (k : Nat) : p166 k = funcS k 2 lit166 := by kernel_rfl
def p190 (_ : Nat) : CtxK → List V → TH → R := fun X => ap 2 (fun x0 x1 h2 =>
 kNew (V.cellsR x0) h2 fun x3 h4 =>
 kFA 40 x3 fun x5 =>
 kFA 1 x5 fun x6 =>
 kL1 x6 h4 fun x7 =>
 kBin .lss x1 x7 fun x8 =>
 jc (α := JT) (fun x9 h10 =>
 jc (α := JT) (fun x12 h13 =>
 jc (α := JT) (fun x15 h16 =>
 jc (α := JT) (fun x18 h19 =>
 jc (α := JT) (fun x21 h22 =>
 kPick x8 qt x21 fun x24 =>
 brS x24 (some ((.int .i64 (-1)), h22)) (kFA 40 x3 fun x25 =>
 kFA 1 x25 fun x26 =>
 kL1 x26 h22 fun x27 =>
 kBin .sub x1 x27 fun x28 =>
 kConv .i64 x28 fun x29 =>
 some (x29, h22))) fun j23 =>
 wtS x8 false (kBin .gtr x9 x18 fun x30 =>
 j23 x30 h19) (j23 u h19)) fun j20 =>
 wtS x8 false (kP (fieldE false 1 1 x15) fun x31 =>
 j20 x31 h16) (j20 u h16)) fun j17 =>
 wtS x8 false (kCall X 51 [x12] h13 fun x32 h33 =>
 j17 x32 h33) (j17 u h13)) fun j14 =>
 wtS x8 false (kLA 49 x3 h10 fun x34 =>
 j14 x34 h10) (j14 u h10)) fun j11 =>
 wtS x8 false (j11 x1 h4) (j11 u h4))
theorem p190_ok (k : Nat) : p190 k = funcS k 2 lit190 := by kernel_rfl
def p192 (_ : Nat) : CtxK → List V → TH → R := fun _ => ap 1 (fun x0 h1 =>
 kEq' false (.nilR .sl) x0 .nils fun x2 =>
 brS x2 (some (.nils, h1)) (kBS 2 [(qw 0), .nils] 0 [] h1 fun x3 h4 =>
 kAp 2 32 x3 x0 h4 fun x5 h6 =>
 some (x5, h6)))
theorem p192_ok (k : Nat) : p192 k = funcS k 1 lit192 := by kernel_rfl
def p197 (_ : Nat) : CtxK → List V → TH → R := fun X => ap 2 (fun x0 x1 h2 =>
 kNew (V.cellsR x0) h2 fun x3 h4 =>
 kNew (V.cellsR x1) h4 fun x5 h6 =>
 kL1 x3 h6 fun x7 =>
 kNilc x7 fun x8 =>
 kFA 18 x8 fun x9 =>
 kL1 x9 h6 fun x10 =>
 kCall X 137 [x10, (.fn 203 [] [x5, x3])] h6 fun x11 h12 =>
 kNot x11 fun x13 =>
 some (x13, h12))
theorem p197_ok (k : Nat) : p197 k = funcS k 2 lit197 := by kernel_rfl
def p229 (_ : Nat) : CtxK → List V → TH → R := fun _ => ap 1 (fun x0 h1 =>
 kNilc x0 fun x2 =>
 kFA 0 x2 fun x3 =>
 kL1 x3 h1 fun x6 =>
 kNilc x0 fun x7 =>
 kFA 0 x7 fun x8 =>
 kL1 x8 h1 fun x11 =>
 kBin .mul x6 x11 fun x12 =>
 kBin .shr x12 (.int .u64 31) fun x13 =>
 kNilc x0 fun x14 =>
 kFA 0 x14 fun x15 =>
 kS1 x15 x13 h1 fun _ h17 =>
 dokS [h1, h17] [] (kNilc x0 fun x18 =>
 kFA 1 x18 fun x19 =>
 kL1 x19 h17 fun x20 =>
 kBin .shl x20 (.int .u64 1) fun x21 =>
 kNilc x0 fun x22 =>
 kFA 1 x22 fun x23 =>
 kS1 x23 x21 h17 fun _ h25 =>
 kNilc x0 fun x26 =>
 kFA 0 x26 fun x27 =>
 kL1 x27 h25 fun x28 =>
 kBin .geq x28 (.int .u64 4294967296) fun x29 =>
 jc (α := Cur 41) (fun _ _ _ _ _ _ _ _ _ _ _ _ _ _ _ _ _ _ _ _ _ _ _ _ _ _ _ _ _ _ _ _ _ _ _ _ _ _ _ _ _ h71 =>
 some (.tup [], h71)) fun j72 =>
 brS x29 (kNilc x0 fun x73 =>
 kFA 0 x73 fun x74 =>
 kL1 x74 h25 fun x75 =>
 kBin .shr x75 (.int .u64 1) fun x76 =>
 kNilc x0 fun x77 =>
 kFA 0 x77 fun x78 =>
 kS1 x78 x76 h25 fun _ h80 =>
 kNilc x0 fun x81 =>
 kFA 1 x81 fun x82 =>
 kL1 x82 h80 fun x83 =>
 kBin .or x83 (qi 1) fun x84 =>
 kNilc x0 fun x85 =>
 kFA 1 x85 fun x86 =>
 kS1 x86 x84 h80 fun _ h88 =>
 j72 u u u u u u u u u u u u u u u u u u u u u u u u u u u u u u u u u u u u u u u u u h88) (j72 u u u u u u u u u u u u u u u u u u u u u u u u u u u u u u u u u u u u u u u u u h25)))
theorem p229_ok (k : Nat) : p229 k = funcS k 1 lit229 := by kernel_rfl
end
end Go.PE
