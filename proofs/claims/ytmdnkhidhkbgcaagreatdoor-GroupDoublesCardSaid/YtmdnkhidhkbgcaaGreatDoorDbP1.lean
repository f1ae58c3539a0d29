/- The same functions with names for their slots (part 1 of 4), printed by a program of our own: each is what the evaluator's law says of the literal. -/
import Derived.Test.YtmdnkhidhkbgcaaGreatDoorDbL3
import Derived.KernelRfl
namespace Go.PE
set_option maxRecDepth 100000
noncomputable section
def p8 (_ : Nat) : CtxK → List V → TH → R := fun X => ap 3 (fun x0 x1 x2 h3 =>
 kNew (V.cellsR x2) h3 fun x4 h5 =>
 kLA 49 x4 h5 fun x6 =>
 kCall X 34 [x6] h5 fun x7 h8 =>
 kB zr8 [(0, 1, x0), (2, 1, x1), (3, 49, x7)] fun x9 =>
 kNew (V.cellsR x9) h8 fun x10 h11 =>
 some (x10, h11))
theorem p8_ok (k : Nat) : p8 k = funcS k 3 lit8 := by kernel_rfl
def p13 (_ : Nat) : CtxK → List V → TH → R := fun X => ap 3 (fun x0 x1 x2 h3 =>
 kNew (V.cellsR x2) h3 fun x4 h5 =>
 kFA 0 x4 fun x6 =>
 kL1 x6 h5 fun x7 =>
 kCall X 45 [x0, x7] h5 fun x8 h9 =>
 kEq' false (.nilR .fn) x8 .nilfn fun x10 =>
 jc (α := V → TH → PD → R) (fun x13 h14 d15 =>
 jc (α := JT) (fun x17 h18 =>
 jc (α := JT) (fun x20 h21 =>
 kPick x10 qt x20 fun x23 =>
 jc (α := JT) (fun x24 h25 =>
 jc (α := V → TH → PD → R) (fun x29 h30 d31 =>
 jc (α := JT) (fun x33 h34 =>
 jc (α := JT) (fun x36 h37 =>
 jc (α := JT) (fun x39 h40 =>
 jc (α := V → TH → PD → R) (fun x44 h45 d46 =>
 jc (α := JT) (fun x48 h49 =>
 jc (α := JT) (fun x51 h52 =>
 jc (α := JT) (fun x54 h55 =>
 kPick x23 qt x54 fun x57 =>
 dokS [h14, h55] d46 (brS x57 (some (.nils, h55)) (kFA 0 x4 fun x58 =>
 kL1 x58 h55 fun x59 =>
 kEqI false x59 (qb 15) fun x60 =>
 jc (α := Cur 62) (fun _ x62 _ _ _ x66 _ x68 _ _ _ _ _ _ _ _ _ _ _ _ _ _ _ _ _ _ _ _ _ _ _ _ _ _ _ _ _ _ _ _ _ _ _ _ _ _ _ _ _ _ _ _ _ _ _ _ _ _ _ _ _ _ h123 =>
 kLA 131 x66 h123 fun x125 =>
 kCv X x68 [x62, x125] h123 fun x126 h127 =>
 some (x126, h127)) fun j124 =>
 brS x60 (kFA 123 x4 fun x128 =>
 kFA 3 x128 fun x129 =>
 kL1 x129 h55 fun x132 =>
 kNilc x0 fun x133 =>
 kFA 2 x133 fun x134 =>
 kL1 x134 h55 fun x137 =>
 kCall X 42 [x132] h55 fun x138 h139 =>
 kEqI true x138 x137 fun x140 =>
 dokS [h55, h139] ((fun h135 => kL1 x134 h135 fun x136 =>
 some (x136, h135), x137, 0, 1) :: []) (brS x140 (some (.nils, h139)) (j124 u x1 u u u x4 u x8 u u u u u u u u u u u u u u u u u u u u u u u u u u u u u u u u u u u u u u u u u u u u u u u u u u u u u u h139))) (kFA 12 x4 fun x141 =>
 kL1 x141 h55 fun x144 =>
 kNilc x0 fun x145 =>
 kFA 2 x145 fun x146 =>
 kL1 x146 h55 fun x149 =>
 kEqI true x144 x149 fun x150 =>
 jc (α := JT) (fun x151 h152 =>
 jc (α := V → TH → PD → R) (fun x156 h157 d158 =>
 jc (α := JT) (fun x160 h161 =>
 jc (α := JT) (fun x163 h164 =>
 jc (α := JT) (fun x166 h167 =>
 jc (α := V → TH → PD → R) (fun x171 h172 d173 =>
 jc (α := JT) (fun x175 h176 =>
 kPick x150 qt x175 fun x178 =>
 dokS [h176] d173 (brS x178 (some (.nils, h176)) (j124 u x1 u u u x4 u x8 u u u u u u u u u u u u u u u u u u u u u u u u u u u u u u u u u u u u u u u u u u u u u u u u u u u u u u h176))) fun j177 =>
 wtS x150 false (kEqI true x156 x171 fun x179 =>
 j177 x179 h172) (j177 u h172)) fun j174 =>
 wtS x150 false (kL1 x166 h167 fun x180 =>
 j174 x180 h167 d158) (j174 u h167 d158)) fun j168 =>
 wtS x150 false (kFA 52 x163 fun x181 =>
 j168 x181 h164) (j168 u h164)) fun j165 =>
 wtS x150 false (kNilc x160 fun x182 =>
 j165 x182 h161) (j165 u h161)) fun j162 =>
 wtS x150 false (j162 x0 h157) (j162 u h157)) fun j159 =>
 wtS x150 false (kL1 x151 h152 fun x183 =>
 j159 x183 h152 []) (j159 u h152 [])) fun j153 =>
 wtS x150 false (kFA 3 x4 fun x184 =>
 j153 x184 h55) (j153 u h55))))) fun j56 =>
 wtS x23 false (kEqI true x29 x51 fun x185 =>
 j56 x185 h52) (j56 u h52)) fun j53 =>
 wtS x23 false (kBin .add (qb 10) x48 fun x186 =>
 j53 x186 h49) (j53 u h49)) fun j50 =>
 wtS x23 false (kConv .u8 x44 fun x187 =>
 j50 x187 h45) (j50 u h45)) fun j47 =>
 wtS x23 false (kL1 x39 h40 fun x188 =>
 j47 x188 h40 d31) (j47 u h40 d31)) fun j41 =>
 wtS x23 false (kFA 0 x36 fun x189 =>
 j41 x189 h37) (j41 u h37)) fun j38 =>
 wtS x23 false (kNilc x33 fun x190 =>
 j38 x190 h34) (j38 u h34)) fun j35 =>
 wtS x23 false (j35 x0 h30) (j35 u h30)) fun j32 =>
 wtS x23 false (kL1 x24 h25 fun x191 =>
 j32 x191 h25 d15) (j32 u h25 d15)) fun j26 =>
 wtS x23 false (kFA 2 x4 fun x192 =>
 j26 x192 h21) (j26 u h21)) fun j22 =>
 wtS x10 false (kNot x17 fun x193 =>
 j22 x193 h18) (j22 u h18)) fun j19 =>
 wtS x10 false (kCall X 46 [x13] h14 fun x194 h195 =>
 j19 x194 h195) (j19 u h14)) fun j16 =>
 wtS x10 false (kLA 131 x4 h9 fun x196 =>
 j16 x196 h9 []) (j16 u h9 []))
theorem p13_ok (k : Nat) : p13 k = funcS k 3 lit13 := by kernel_rfl
def p20 (_ : Nat) : CtxK → List V → TH → R := fun X => ap 2 (fun x0 x1 h2 =>
 kNew (V.cellsR x0) h2 fun x3 h4 =>
 kNew zr0 h4 fun x5 h6 =>
 kLA 49 x3 h6 fun x7 =>
 kCall X 47 [x7] h6 fun x8 h9 =>
 kNot x8 fun x10 =>
 brS x10 (kB zr0 [] fun x11 =>
 kSA 49 x5 x11 h9 fun _ h13 =>
 rsS [.cell 4 true 49, .tmp 5] [x0, x1, x3, u, x5, (qi 10), x10, x7, x8, x10, x11, u, u, u, u, u, u, u, u, u, u, u, u, u, u, u, u, u, u] h13) (kFA 40 x3 fun x14 =>
 kFA 1 x14 fun x15 =>
 kL1 x15 h9 fun x16 =>
 kBin .lss x1 x16 fun x17 =>
 brS x17 (kB zr0 [] fun x18 =>
 kSA 49 x5 x18 h9 fun _ h20 =>
 rsS [.cell 4 true 49, .tmp 5] [x0, x1, x3, u, x5, (qi 80), x10, x7, x8, x10, u, x17, x1, x14, x15, x16, x17, x18, u, u, u, u, u, u, u, u, u, u, u] h20) (kLA 49 x3 h9 fun x21 =>
 kCall X 52 [x21, x1] h9 fun x22 h23 =>
 kBin .lss x22 (qi 0) fun x24 =>
 brS x24 (kB zr0 [] fun x25 =>
 kSA 49 x5 x25 h23 fun _ h27 =>
 rsS [.cell 4 true 49, .tmp 5] [x0, x1, x3, u, x5, (qi 141), x10, x7, x8, x10, u, x17, x1, x14, x15, x16, x17, u, x24, x21, x1, x22, x24, x25, u, u, u, u, u] h27) (kLA 49 x3 h23 fun x30 =>
 kLA 49 x3 h23 fun x33 =>
 kCall X 52 [x33, x1] h23 fun x34 h35 =>
 kCall X 51 [x30, x34] h35 fun x36 h37 =>
 kSA 49 x5 x36 h37 fun _ h39 =>
 dokS [h23, h35, h37, h39] ((fun h28 => kLA 49 x3 h28 fun x29 =>
 some (x29, h28), x30, 0, 1) :: []) (rsS [.cell 4 true 49, .tmp 5] [x0, x1, x3, u, x5, (qi 0), x10, x7, x8, x10, u, x17, x1, x14, x15, x16, x17, u, x24, x21, x1, x22, x24, u, x30, x33, x1, x34, x36] h39)))))
theorem p20_ok (k : Nat) : p20 k = funcS k 2 lit20 := by kernel_rfl
def p21 (k : Nat) : CtxK → List V → TH → R := fun X => ap 2 (fun x0 x1 h2 =>
 kNew (V.cellsR x1) h2 fun x3 h4 =>
 kCall X 7 [] h4 fun x5 h6 =>
 kBin .rem x0 (qb 4) fun x7 =>
 kB [.nilptr, (qb 0), .nilptr, .nilptr, .nilptr, .nilptr, .nilptr, .nils, .nils] [(0, 1, x5), (1, 1, x7)] fun x8 =>
 kNew (V.cellsR x8) h6 fun x9 h10 =>
 lp (α := Cur 50) (zN 50) (fun n62 _ _ _ x14 _ x16 x17 _ _ _ _ _ _ _ _ _ _ _ _ _ _ _ _ _ _ _ _ _ _ _ _ _ _ _ _ _ _ _ _ _ _ _ _ _ _ _ _ _ _ _ h61 =>
 kBin .lss x17 (qi 5) fun x63 =>
 brS x63 (kNilc x16 fun x64 =>
 kFA 1 x64 fun x65 =>
 kL1 x65 h61 fun x68 =>
 kIA 5 49 x14 x17 fun x69 =>
 kLA 49 x69 h61 fun x72 =>
 kNilc x16 fun x73 =>
 kFA 2 x73 fun x74 =>
 kCall X 8 [x17, x68, x72] h61 fun x75 h76 =>
 kIA 5 1 x74 x17 fun x77 =>
 kS1 x77 x75 h76 fun _ h79 =>
 dokS [h61, h76, h79] [] (kNilc x16 fun x80 =>
 kFA 7 x80 fun x81 =>
 kL1 x81 h79 fun x84 =>
 kNilc x16 fun x85 =>
 kFA 2 x85 fun x86 =>
 kIA 5 1 x86 x17 fun x87 =>
 kL1 x87 h79 fun x90 =>
 kNilc x16 fun x91 =>
 kFA 0 x91 fun x92 =>
 kL1 x92 h79 fun x95 =>
 kCall X 9 [x90, x95] h79 fun x96 h97 =>
 kAp 131 1400 x84 x96 h97 fun x98 h99 =>
 kNilc x16 fun x100 =>
 kFA 7 x100 fun x101 =>
 kS1 x101 x98 h99 fun _ h103 =>
 dokS [h79, h97, h99, h103] ((fun h82 => kL1 x81 h82 fun x83 =>
 some (x83, h82), x84, 0, 1) :: []) (kBin .add x17 (qi 1) fun x104 =>
 n62 u u u x14 u x16 x104 u u u u u u u u u u u u u u u u u u u u u u u u u u u u u u u u u u u u u u u u u u u h103))) (some (x16, h61))) k u u u x3 u x9 (qi 0) u u u u u u u u u u u u u u u u u u u u u u u u u u u u u u u u u u u u u u u u u u u h10)
theorem p21_ok (k : Nat) : p21 k = funcS k 2 lit21 := by kernel_rfl
def p24 (_ : Nat) : CtxK → List V → TH → R := fun X => ap 2 (fun x0 x1 h2 =>
 kNew (V.cellsR x0) h2 fun x3 h4 =>
 kNew (V.cellsR x1) h4 fun x5 h6 =>
 kFA 0 x3 fun x7 =>
 kL1 x7 h6 fun x8 =>
 kFA 0 x5 fun x9 =>
 kL1 x9 h6 fun x10 =>
 kEqI false x8 x10 fun x11 =>
 jc (α := JT) (fun x12 h13 =>
 jc (α := JT) (fun x15 h16 =>
 jc (α := JT) (fun x18 h19 =>
 jc (α := JT) (fun x21 h22 =>
 jc (α := JT) (fun x24 h25 =>
 kPick x11 x24 qf fun x27 =>
 jc (α := JT) (fun x28 h29 =>
 jc (α := JT) (fun x31 h32 =>
 jc (α := JT) (fun x34 h35 =>
 jc (α := JT) (fun x37 h38 =>
 jc (α := JT) (fun x40 h41 =>
 kPick x27 x40 qf fun x43 =>
 jc (α := JT) (fun x44 h45 =>
 jc (α := JT) (fun x47 h48 =>
 jc (α := JT) (fun x50 h51 =>
 jc (α := JT) (fun x53 h54 =>
 jc (α := JT) (fun x56 h57 =>
 kPick x43 x56 qf fun x59 =>
 some (x59, h57)) fun j58 =>
 wtS x43 true (kCall X 53 [x47, x53] h54 fun x60 h61 =>
 j58 x60 h61) (j58 u h54)) fun j55 =>
 wtS x43 true (kL1 x50 h51 fun x62 =>
 j55 x62 h51) (j55 u h51)) fun j52 =>
 wtS x43 true (kFA 48 x5 fun x63 =>
 j52 x63 h48) (j52 u h48)) fun j49 =>
 wtS x43 true (kL1 x44 h45 fun x64 =>
 j49 x64 h45) (j49 u h45)) fun j46 =>
 wtS x43 true (kFA 48 x3 fun x65 =>
 j46 x65 h41) (j46 u h41)) fun j42 =>
 wtS x27 true (kEq' false (.agg [.int, .int, .int, .int, .int, .int, .int, .str]) x31 x37 fun x66 =>
 j42 x66 h38) (j42 u h38)) fun j39 =>
 wtS x27 true (kLA 8 x34 h35 fun x67 =>
 j39 x67 h35) (j39 u h35)) fun j36 =>
 wtS x27 true (kFA 40 x5 fun x68 =>
 j36 x68 h32) (j36 u h32)) fun j33 =>
 wtS x27 true (kLA 8 x28 h29 fun x69 =>
 j33 x69 h29) (j33 u h29)) fun j30 =>
 wtS x27 true (kFA 40 x3 fun x70 =>
 j30 x70 h25) (j30 u h25)) fun j26 =>
 wtS x11 true (kEq' false (.agg [.bool, .str, .str, .str, .str, .bool, .str, .str, .str, .str, .bool, .str, .str, .str, .str, .bool, .str, .str, .str, .str, .bool, .str, .str, .str, .str, .bool, .str, .str, .str, .str, .int, .int, .str, .int, .int, .str, .int, .int, .str]) x15 x21 fun x71 =>
 j26 x71 h22) (j26 u h22)) fun j23 =>
 wtS x11 true (kLA 39 x18 h19 fun x72 =>
 j23 x72 h19) (j23 u h19)) fun j20 =>
 wtS x11 true (kFA 1 x5 fun x73 =>
 j20 x73 h16) (j20 u h16)) fun j17 =>
 wtS x11 true (kLA 39 x12 h13 fun x74 =>
 j17 x74 h13) (j17 u h13)) fun j14 =>
 wtS x11 true (kFA 1 x3 fun x75 =>
 j14 x75 h6) (j14 u h6))
theorem p24_ok (k : Nat) : p24 k = funcS k 2 lit24 := by kernel_rfl
def p27 (_ : Nat) : CtxK → List V → TH → R := fun X => ap 3 (fun x0 x1 x2 h3 =>
 kNew [(qb 0), (qw 0), (qb 0), (qb 0), (qb 0), qs] h3 fun x4 h5 =>
 kCall X 25 [x0] h5 fun x6 h7 =>
 kB [(qb 0), (qw 0), (qb 0), (qb 0), (qb 0), qs] [(0, 1, (qb 1)), (1, 1, x1), (2, 1, (qb 1)), (3, 1, x6), (5, 1, x2)] fun x8 =>
 kSA 6 x4 x8 h7 fun _ h10 =>
 rsS [.cell 6 true 6] [x0, x1, x2, u, u, u, x4, x1, x0, x6, x2, x8] h10)
theorem p27_ok (k : Nat) : p27 k = funcS k 3 lit27 := by kernel_rfl
def p29 (_ : Nat) : CtxK → List V → TH → R := fun X => ap 1 (fun x0 h1 =>
 kNew (V.cellsR x0) h1 fun x2 h3 =>
 kNew zr6 h3 fun x4 h5 =>
 kLA 49 x2 h5 fun x6 =>
 kCall X 47 [x6] h5 fun x7 h8 =>
 kNot x7 fun x9 =>
 brS x9 (kB zr6 [] fun x10 =>
 kSA 39 x4 x10 h8 fun _ h12 =>
 rsS [.cell 2 true 39] [x0, x2, x4, x6, x7, x9, x10, u, u, u, u, u, u] h12) (kLA 49 x2 h8 fun x13 =>
 kFA 48 x2 fun x14 =>
 kL1 x14 h8 fun x15 =>
 kLen x15 fun x16 =>
 kCall X 51 [x13, x16] h8 fun x17 h18 =>
 kP (fieldE true 1 39 x17) fun x19 =>
 kSA 39 x4 x19 h18 fun _ h21 =>
 rsS [.cell 2 true 39] [x0, x2, x4, x6, x7, x9, u, x13, x14, x15, x16, x17, x19] h21))
theorem p29_ok (k : Nat) : p29 k = funcS k 1 lit29 := by kernel_rfl
def p31 (k : Nat) : CtxK → List V → TH → R := fun X => ap 1 (fun x0 h1 =>
 kNilc x0 fun x2 =>
 kFA 1 x2 fun x3 =>
 kL1 x3 h1 fun x4 =>
 kEqI false x4 (qi 2) fun x5 =>
 jc (α := Cur 78) (fun x6 _ _ x9 _ _ _ _ _ _ _ _ _ _ _ _ _ _ _ _ _ _ _ _ _ _ _ _ _ _ _ _ _ _ _ _ _ _ _ _ _ _ _ _ _ _ _ _ _ _ _ _ _ _ _ _ _ _ _ _ _ _ _ _ _ _ _ _ _ _ _ _ _ _ _ _ _ _ h84 =>
 kNilc x6 fun x86 =>
 kFA 309 x86 fun x87 =>
 kL1 x87 h84 fun x88 =>
 kLen x88 fun x89 =>
 lp (α := Cur 78) (zN 78) (fun n169 x90 _ _ x93 _ _ _ _ _ _ _ _ _ _ _ _ _ _ _ _ _ _ _ _ _ _ _ _ _ _ _ _ _ _ _ _ _ x127 x128 x129 _ _ _ _ _ _ _ _ _ _ _ _ _ _ _ _ _ _ _ _ _ _ _ _ _ _ _ _ _ _ _ _ _ _ _ _ _ _ h168 =>
 kBin .lss x129 x128 fun x170 =>
 brS x170 (kIS 15 x127 x129 fun x171 =>
 kLA 15 x171 h168 fun x172 =>
 kNew zr7 h168 fun x173 h174 =>
 kSA 15 x173 x172 h174 fun _ h176 =>
 kNilc x90 fun x177 =>
 kFA 53 x177 fun x178 =>
 kL1 x178 h176 fun x181 =>
 kFA 10 x173 fun x182 =>
 kLA 5 x182 h176 fun x185 =>
 kCall X 54 [x181, x185] h176 fun x186 h187 =>
 kAp 1 8 x93 x186 h187 fun x188 h189 =>
 dokS [h176, h187, h189] [] (kBin .add x129 (qi 1) fun x190 =>
 n169 x90 u u x188 u u u u u u u u u u u u u u u u u u u u u u u u u u u u u u u u u x127 x128 x190 u u u u u u u u u u u u u u u u u u u u u u u u u u u u u u u u u u u u u u h189)) (kNilc x90 fun x191 =>
 kFA 310 x191 fun x192 =>
 kLA 42 x192 h168 fun x193 =>
 lp (α := Cur 78) (zN 78) (fun n273 x194 _ _ x197 _ _ _ _ _ _ _ _ _ _ _ _ _ _ _ _ _ _ _ _ _ _ _ _ _ _ _ _ _ _ _ _ _ _ _ _ _ _ _ _ _ _ _ _ _ _ _ _ _ _ _ _ x250 x251 _ _ _ _ _ _ _ _ _ _ _ _ _ _ _ _ _ _ _ _ h272 =>
 kBin .lss x251 (qi 3) fun x274 =>
 brS x274 (kP (indexE (some (3, 14, true)) x250 x251) fun x275 =>
 kNew [(qb 0), (qw 0), (qb 0), (qb 0), (qb 0), qs, (qb 0), qs, (qw 0), qf, qf, qf, qf, qf] h272 fun x276 h277 =>
 kSA 14 x276 x275 h277 fun _ h279 =>
 kFA 0 x276 fun x280 =>
 kFA 1 x280 fun x281 =>
 kL1 x281 h279 fun x282 =>
 kBin .gtr x282 (qw 0) fun x283 =>
 jc (α := Cur 78) (fun x284 _ _ x287 _ _ _ _ _ _ _ _ _ _ _ _ _ _ _ _ _ _ _ _ _ _ _ _ _ _ _ _ _ _ _ _ _ _ _ _ _ _ _ _ _ _ _ _ _ _ _ _ _ _ _ _ x340 x341 _ _ _ _ _ _ _ _ _ _ _ _ _ _ _ _ _ _ _ _ h362 =>
 kBin .add x341 (qi 1) fun x364 =>
 n273 x284 u u x287 u u u u u u u u u u u u u u u u u u u u u u u u u u u u u u u u u u u u u u u u u u u u u u u u u u u u x340 x364 u u u u u u u u u u u u u u u u u u u u h362) fun j363 =>
 brS x283 (kNilc x194 fun x365 =>
 kFA 53 x365 fun x366 =>
 kL1 x366 h279 fun x369 =>
 kFA 9 x276 fun x370 =>
 kLA 5 x370 h279 fun x373 =>
 kCall X 54 [x369, x373] h279 fun x374 h375 =>
 kAp 1 8 x197 x374 h375 fun x376 h377 =>
 dokS [h279, h375, h377] [] (j363 x194 u u x376 u u u u u u u u u u u u u u u u u u u u u u u u u u u u u u u u u u u u u u u u u u u u u u u u u u u u x250 x251 u u u u u u u u u u u u u u u u u u u u h377)) (j363 x194 u u x197 u u u u u u u u u u u u u u u u u u u u u u u u u u u u u u u u u u u u u u u u u u u u u u u u u u u u x250 x251 u u u u u u u u u u u u u u u u u u u u h279)) (kCall X 55 [x197] h272 fun _ h379 =>
 kCall X 56 [x197] h379 fun x380 h381 =>
 some (x380, h381))) k x90 u u x93 u u u u u u u u u u u u u u u u u u u u u u u u u u u u u u u u u u u u u u u u u u u u u u u u u u u u x193 (qi 0) u u u u u u u u u u u u u u u u u u u u h168)) k x6 u u x9 u u u u u u u u u u u u u u u u u u u u u u u u u u u u u u u u u x88 x89 (qi 0) u u u u u u u u u u u u u u u u u u u u u u u u u u u u u u u u u u u u u u h84) fun j85 =>
 brS x5 (kNilc x0 fun x382 =>
 kFA 53 x382 fun x383 =>
 kL1 x383 h1 fun x386 =>
 kNilc x0 fun x387 =>
 kFA 54 x387 fun x388 =>
 kLA 5 x388 h1 fun x391 =>
 kCall X 54 [x386, x391] h1 fun x392 h393 =>
 dokS [h1, h393] [] (j85 x0 u u x392 u u u u u u u u u u u u u u u u u u u u u u u u u u u u u u u u u u u u u u u u u u u u u u u u u u u u u u u u u u u u u u u u u u u u u u u u u u h393)) (kEqI false x4 (qi 3) fun x394 =>
 jc (α := Cur 78) (fun x395 _ _ x398 _ _ _ _ _ _ _ _ _ _ _ _ _ _ _ _ _ _ _ _ _ _ _ _ _ _ _ _ _ _ _ _ _ _ _ _ _ _ _ _ _ _ _ _ _ _ _ _ _ _ _ _ _ _ _ _ _ _ _ _ _ _ _ _ _ _ _ _ _ _ _ _ _ _ h473 =>
 j85 x395 u u x398 u u u u u u u u u u u u u u u u u u u u u u u u u u u u u u u u u u u u u u u u u u u u u u u u u u u u u u u u u u u u u u u u u u u u u u u u u u h473) fun j474 =>
 brS x394 (kNilc x0 fun x475 =>
 kFA 53 x475 fun x476 =>
 kL1 x476 h1 fun x479 =>
 kNilc x0 fun x480 =>
 kFA 59 x480 fun x481 =>
 kLA 5 x481 h1 fun x484 =>
 kCall X 54 [x479, x484] h1 fun x485 h486 =>
 dokS [h1, h486] [] (j474 x0 u u x485 u u u u u u u u u u u u u u u u u u u u u u u u u u u u u u u u u u u u u u u u u u u u u u u u u u u u u u u u u u u u u u u u u u u u u u u u u u h486)) (j474 x0 u u .nils u u u u u u u u u u u u u u u u u u u u u u u u u u u u u u u u u u u u u u u u u u u u u u u u u u u u u u u u u u u u u u u u u u u u u u u u u u h1)))
theorem p31_ok (k : Nat) : p31 k = funcS k 1 lit31 := by kernel_rfl
def p36 (_ : Nat) : CtxK → List V → TH → R := fun X => ap 2 (fun x0 x1 h2 =>
 kCall X 59 [x0, x1] h2 fun x3 h4 =>
 kBin .geq x3 (qi 0) fun x5 =>
 some (x5, h4))
theorem p36_ok (k : Nat) : p36 k = funcS k 2 lit36 := by kernel_rfl
def p39 (_ : Nat) : CtxK → List V → TH → R := fun X => ap 1 (fun x0 h1 =>
 kCall X 63 [x0] h1 fun x2 h3 =>
 kCall X 62 [x0, x2] h3 fun x4 h5 =>
 kExt x4 0 fun x6 =>
 kExt x4 1 fun _ =>
 kNew zr4 h5 fun x8 h9 =>
 kSA 16 x8 x6 h9 fun _ h11 =>
 kLA 16 x8 h11 fun x12 =>
 kCall X 64 [x12] h11 fun x13 h14 =>
 some (x13, h14))
theorem p39_ok (k : Nat) : p39 k = funcS k 1 lit39 := by kernel_rfl
def p45 (_ : Nat) : CtxK → List V → TH → R := fun _ => ap 2 (fun x0 x1 h2 =>
 kEqI false x1 (qb 7) fun x3 =>
 brS x3 (some ((.fn 71 [x0] []), h2)) (kEqI false x1 (qb 8) fun x4 =>
 brS x4 (some ((.fn 72 [x0] []), h2)) (kEqI false x1 (qb 9) fun x5 =>
 brS x5 (some ((.fn 73 [x0] []), h2)) (kEqI false x1 (qb 10) fun x6 =>
 brS x6 (some ((.fn 74 [x0] []), h2)) (kEqI false x1 (qb 11) fun x7 =>
 brS x7 (some ((.fn 75 [x0] []), h2)) (kEqI false x1 (qb 12) fun x8 =>
 brS x8 (some ((.fn 76 [x0] []), h2)) (kEqI false x1 (qb 13) fun x9 =>
 brS x9 (some ((.fn 77 [x0] []), h2)) (kEqI false x1 (qb 14) fun x10 =>
 brS x10 (some ((.fn 78 [x0] []), h2)) (kEqI false x1 (qb 15) fun x11 =>
 brS x11 (some ((.fn 79 [x0] []), h2)) (some (.nilfn, h2)))))))))))
theorem p45_ok (k : Nat) : p45 k = funcS k 2 lit45 := by kernel_rfl
def p54 (_ : Nat) : CtxK → List V → TH → R := fun X => ap 2 (fun x0 x1 h2 =>
 kNew (V.cellsR x1) h2 fun x3 h4 =>
 kCall X 43 [x0] h4 fun x5 h6 =>
 kCall X 93 [x5, (.fn 94 [] [x3])] h6 fun x7 h8 =>
 some (x7, h8))
theorem p54_ok (k : Nat) : p54 k = funcS k 2 lit54 := by kernel_rfl
def p57 (_ : Nat) : CtxK → List V → TH → R := fun X => ap 2 (fun x0 x1 h2 =>
 kNew (V.cellsR x0) h2 fun x3 h4 =>
 kLA 16 x3 h4 fun x5 =>
 kCall X 97 [x5, x1] h4 fun x6 h7 =>
 kCall X 93 [x6, (.fn 98 [] [x3])] h7 fun x8 h9 =>
 some (x8, h9))
theorem p57_ok (k : Nat) : p57 k = funcS k 2 lit57 := by kernel_rfl
def p60 (_ : Nat) : CtxK → List V → TH → R := fun X => ap 1 (fun x0 h1 =>
 kCall X 99 [x0] h1 fun x2 h3 =>
 kCall X 55 [x2] h3 fun _ h5 =>
 some (x2, h5))
theorem p60_ok (k : Nat) : p60 k = funcS k 1 lit60 := by kernel_rfl
def p67 (k : Nat) : CtxK → List V → TH → R := fun _ => ap 1 (fun x0 h1 =>
 kLen x0 fun x2 =>
 lp (α := Cur 18) (zN 18) (fun n22 _ _ _ x6 _ _ x9 x10 x11 _ _ _ _ _ _ _ _ _ h21 =>
 kBin .lss x11 x10 fun x23 =>
 brS x23 (kIS 49 x9 x11 fun x24 =>
 kLA 49 x24 h21 fun x25 =>
 kNew zr0 h21 fun x26 h27 =>
 kSA 49 x26 x25 h27 fun _ h29 =>
 kFA 0 x26 fun x30 =>
 kL1 x30 h29 fun x31 =>
 kP (minE true x6 x31) fun x32 =>
 kBin .add x11 (qi 1) fun x33 =>
 n22 u u u x32 u u x9 x10 x33 u u u u u u u u u h29) (some (x6, h21))) k u u u (qw 0) u u x0 x2 (qi 0) u u u u u u u u u h1)
theorem p67_ok (k : Nat) : p67 k = funcS k 1 lit67 := by kernel_rfl
def p68 (k : Nat) : CtxK → List V → TH → R := fun X => ap 2 (fun x0 x1 h2 =>
 kLen x0 fun x3 =>
 kLen x1 fun x4 =>
 kEqI true x3 x4 fun x5 =>
 jc (α := JT) (fun x6 h7 =>
 jc (α := JT) (fun x9 h10 =>
 kPick x5 qt x9 fun x12 =>
 brS x12 (some ((.int .i64 (-1)), h10)) (kNew [(qi 0), (qw 0), (qw 0), (qw 0)] h10 fun x13 h14 =>
 kLen x1 fun x15 =>
 lp (α := Cur 53) (zN 53) (fun n70 x16 _ _ _ _ x21 x22 _ _ _ _ _ _ _ _ _ _ _ _ _ _ x37 x38 x39 _ _ _ _ _ _ _ _ _ _ _ _ _ _ _ _ _ _ _ _ _ _ _ _ _ _ _ _ _ h69 =>
 kBin .lss x39 x38 fun x71 =>
 brS x71 (kIS 49 x37 x39 fun x72 =>
 kLA 49 x72 h69 fun x73 =>
 kNew zr0 h69 fun x74 h75 =>
 kSA 49 x74 x73 h75 fun _ h77 =>
 kLA 49 x74 h77 fun x78 =>
 kCall X 18 [x78] h77 fun x79 h80 =>
 kExt x79 0 fun x81 =>
 kExt x79 1 fun x82 =>
 kIS 1 x16 x39 fun x83 =>
 kL1 x83 h80 fun x86 =>
 kFA 0 x74 fun x87 =>
 kL1 x87 h80 fun x90 =>
 kB [(qi 0), (qw 0), (qw 0), (qw 0)] [(0, 1, x86), (1, 1, x90), (2, 1, x81), (3, 1, x82)] fun x91 =>
 kNew [(qi 0), (qw 0), (qw 0), (qw 0)] h80 fun x92 h93 =>
 kSA 4 x92 x91 h93 fun _ h95 =>
 dokS [h93, h95] [] (kBin .lss x21 (qi 0) fun x96 =>
 jc (α := JT) (fun x97 h98 =>
 jc (α := JT) (fun x100 h101 =>
 jc (α := JT) (fun x103 h104 =>
 kPick x96 qt x103 fun x106 =>
 jc (α := Cur 53) (fun x107 _ _ _ _ x112 x113 _ _ _ _ _ _ _ _ _ _ _ _ _ _ x128 x129 x130 _ _ _ _ _ _ _ _ _ _ _ _ _ _ _ _ _ _ _ _ _ _ _ _ _ _ _ _ _ h160 =>
 kBin .add x130 (qi 1) fun x162 =>
 n70 x107 u u u u x112 x113 u u u u u u u u u u u u u u x128 x129 x162 u u u u u u u u u u u u u u u u u u u u u u u u u u u u u h160) fun j161 =>
 brS x106 (kLA 4 x92 h104 fun x165 =>
 kSA 4 x22 x165 h104 fun _ h167 =>
 dokS [h104, h167] [] (j161 x16 u u u u x39 x22 u u u u u u u u u u u u u u x37 x38 x39 u u u u u u u u u u u u u u u u u u u u u u u u u u u u u h167)) (j161 x16 u u u u x21 x22 u u u u u u u u u u u u u u x37 x38 x39 u u u u u u u u u u u u u u u u u u u u u u u u u u u u u h104)) fun j105 =>
 wtS x96 false (kCall X 108 [x97, x100] h101 fun x168 h169 =>
 j105 x168 h169) (j105 u h101)) fun j102 =>
 wtS x96 false (kLA 4 x22 h98 fun x170 =>
 j102 x170 h98) (j102 u h98)) fun j99 =>
 wtS x96 false (kLA 4 x92 h95 fun x171 =>
 j99 x171 h95) (j99 u h95))) (some (x21, h69))) k x0 u u u u (.int .i64 (-1)) x13 u u u u u u u u u u u u u u x1 x15 (qi 0) u u u u u u u u u u u u u u u u u u u u u u u u u u u u u h14)) fun j11 =>
 wtS x5 false (kCall X 106 [x6, (.fn 107 [] [])] h7 fun x172 h173 =>
 j11 x172 h173) (j11 u h7)) fun j8 =>
 wtS x5 false (j8 x1 h2) (j8 u h2))
theorem p68_ok (k : Nat) : p68 k = funcS k 2 lit68 := by kernel_rfl
def p70 (_ : Nat) : CtxK → List V → TH → R := fun _ => ap 1 (fun x0 h1 =>
 kBin .shr x0 (.int .u64 33) fun x2 =>
 kBin .xor x0 x2 fun x3 =>
 kBin .mul x3 (.int .u64 18397679294719823053) fun x4 =>
 kBin .shr x4 (.int .u64 33) fun x5 =>
 kBin .xor x4 x5 fun x6 =>
 kBin .mul x6 (.int .u64 14181476777654086739) fun x7 =>
 kBin .shr x7 (.int .u64 33) fun x8 =>
 kBin .xor x7 x8 fun x9 =>
 some (x9, h1))
theorem p70_ok (k : Nat) : p70 k = funcS k 1 lit70 := by kernel_rfl
def p83 (_ : Nat) : CtxK → List V → TH → R := fun _ => ap 1 (fun x0 h1 =>
 kNew (V.cellsR x0) h1 fun x2 h3 =>
 kFA 0 x2 fun x4 =>
 kL1 x4 h3 fun x5 =>
 kEqI false x5 (qb 1) fun x6 =>
 jc (α := Cur 22) (fun _ x8 _ x10 _ _ x13 _ _ _ _ _ _ _ _ _ _ _ _ _ _ _ h29 =>
 jc (α := Cur 22) (fun _ x32 _ x34 _ _ _ _ _ _ _ _ _ _ _ _ _ _ _ _ _ _ h53 =>
 kFA 3 x32 fun x55 =>
 kL1 x55 h53 fun x56 =>
 kBin .geq x56 x34 fun x57 =>
 jc (α := JT) (fun x58 h59 =>
 jc (α := JT) (fun x61 h62 =>
 jc (α := JT) (fun x64 h65 =>
 kPick x57 x64 qf fun x67 =>
 some (x67, h65)) fun j66 =>
 wtS x57 true (kBin .leq x61 (qw 60) fun x68 =>
 j66 x68 h62) (j66 u h62)) fun j63 =>
 wtS x57 true (kL1 x58 h59 fun x69 =>
 j63 x69 h59) (j63 u h59)) fun j60 =>
 wtS x57 true (kFA 3 x32 fun x70 =>
 j60 x70 h53) (j60 u h53)) fun j54 =>
 brS x13 (j54 u x8 u (qw 2) u u u u u u u u u u u u u u u u u u h29) (j54 u x8 u x10 u u u u u u u u u u u u u u u u u u h29)) fun j30 =>
 brS x6 (j30 u x2 u (qw 1) u u x6 u u u u u u u u u u u u u u u h3) (kEqI false x5 (qb 2) fun x71 =>
 jc (α := Cur 22) (fun _ x73 _ x75 _ _ x78 _ _ _ _ _ _ _ _ _ _ _ _ _ _ _ h94 =>
 j30 u x73 u x75 u u x78 u u u u u u u u u u u u u u u h94) fun j95 =>
 brS x71 (j95 u x2 u (qw 1) u u x71 u u u u u u u u u u u u u u u h3) (kEqI false x5 (qb 3) fun x96 =>
 jc (α := Cur 22) (fun _ x98 _ x100 _ _ x103 _ _ _ _ _ _ _ _ _ _ _ _ _ _ _ h119 =>
 j95 u x98 u x100 u u x103 u u u u u u u u u u u u u u u h119) fun j120 =>
 brS x96 (j120 u x2 u (qw 1) u u x96 u u u u u u u u u u u u u u u h3) (kEqI false x5 (qb 4) fun x121 =>
 jc (α := Cur 22) (fun _ x123 _ x125 _ _ x128 _ _ _ _ _ _ _ _ _ _ _ _ _ _ _ h144 =>
 j120 u x123 u x125 u u x128 u u u u u u u u u u u u u u u h144) fun j145 =>
 brS x121 (j145 u x2 u (qw 1) u u x121 u u u u u u u u u u u u u u u h3) (kEqI false x5 (qb 5) fun x146 =>
 jc (α := Cur 22) (fun _ x148 _ x150 _ _ x153 _ _ _ _ _ _ _ _ _ _ _ _ _ _ _ h169 =>
 j145 u x148 u x150 u u x153 u u u u u u u u u u u u u u u h169) fun j170 =>
 brS x146 (j170 u x2 u (qw 1) u u x146 u u u u u u u u u u u u u u u h3) (kEqI false x5 (qb 18) fun x171 =>
 j170 u x2 u (qw 1) u u x171 u u u u u u u u u u u u u u u h3))))))
theorem p83_ok (k : Nat) : p83 k = funcS k 1 lit83 := by kernel_rfl
def p94 (_ : Nat) : CtxK → List V → TH → R := fun _ => ap 2 (fun x0 x1 h2 =>
 kIA 5 1 x1 x0 fun x3 =>
 kL1 x3 h2 fun x4 =>
 some (x4, h2))
theorem p94_ok (k : Nat) : p94 k = funcS k 2 lit94 := by kernel_rfl
def p98 (_ : Nat) : CtxK → List V → TH → R := fun _ => ap 2 (fun x0 x1 h2 =>
 kFA 1 x1 fun x3 =>
 kIA 5 3 x3 x0 fun x4 =>
 kFA 0 x4 fun x5 =>
 kL1 x5 h2 fun x6 =>
 kNot x6 fun x7 =>
 some (x7, h2))
theorem p98_ok (k : Nat) : p98 k = funcS k 2 lit98 := by kernel_rfl
def p108 (_ : Nat) : CtxK → List V → TH → R := fun _ => ap 2 (fun x0 x1 h2 =>
 kNew (V.cellsR x0) h2 fun x3 h4 =>
 kNew (V.cellsR x1) h4 fun x5 h6 =>
 kFA 1 x3 fun x7 =>
 kL1 x7 h6 fun x8 =>
 kFA 1 x5 fun x9 =>
 kL1 x9 h6 fun x10 =>
 kEqI true x8 x10 fun x11 =>
 brS x11 (kFA 1 x3 fun x12 =>
 kL1 x12 h6 fun x13 =>
 kFA 1 x5 fun x14 =>
 kL1 x14 h6 fun x15 =>
 kBin .gtr x13 x15 fun x16 =>
 some (x16, h6)) (kFA 2 x3 fun x17 =>
 kL1 x17 h6 fun x18 =>
 kFA 2 x5 fun x19 =>
 kL1 x19 h6 fun x20 =>
 kEqI true x18 x20 fun x21 =>
 brS x21 (kFA 2 x3 fun x22 =>
 kL1 x22 h6 fun x23 =>
 kFA 2 x5 fun x24 =>
 kL1 x24 h6 fun x25 =>
 kBin .gtr x23 x25 fun x26 =>
 some (x26, h6)) (kFA 3 x3 fun x27 =>
 kL1 x27 h6 fun x28 =>
 kFA 3 x5 fun x29 =>
 kL1 x29 h6 fun x30 =>
 kEqI true x28 x30 fun x31 =>
 brS x31 (kFA 3 x3 fun x32 =>
 kL1 x32 h6 fun x33 =>
 kFA 3 x5 fun x34 =>
 kL1 x34 h6 fun x35 =>
 kBin .gtr x33 x35 fun x36 =>
 some (x36, h6)) (kFA 0 x3 fun x37 =>
 kL1 x37 h6 fun x38 =>
 kFA 0 x5 fun x39 =>
 kL1 x39 h6 fun x40 =>
 kBin .lss x38 x40 fun x41 =>
 some (x41, h6)))))
theorem p108_ok (k : Nat) : p108 k = funcS k 2 lit108 := by kernel_rfl
def p110 (_ : Nat) : CtxK → List V → TH → R := fun _ => ap 1 (fun x0 h1 =>
 kNew (V.cellsR x0) h1 fun x2 h3 =>
 kFA 1 x2 fun x4 =>
 kL1 x4 h3 fun x5 =>
 kConv .i64 x5 fun x6 =>
 kBin .sub x6 (qi 10) fun x7 =>
 some (x7, h3))
theorem p110_ok (k : Nat) : p110 k = funcS k 1 lit110 := by kernel_rfl
def p111 (_ : Nat) : CtxK → List V → TH → R := fun X => ap 2 (fun x0 x1 h2 =>
 kNew (V.cellsR x1) h2 fun x3 h4 =>
 kNilc x0 fun x5 =>
 kFA 1 x5 fun x6 =>
 kL1 x6 h4 fun x7 =>
 kEqI false x7 (qi 1) fun x8 =>
 jc (α := JT) (fun x9 h10 =>
 jc (α := JT) (fun x12 h13 =>
 jc (α := JT) (fun x15 h16 =>
 jc (α := JT) (fun x18 h19 =>
 jc (α := JT) (fun x21 h22 =>
 kPick x8 x21 qf fun x24 =>
 some (x24, h22)) fun j23 =>
 wtS x8 true (kEqI false x12 x18 fun x25 =>
 j23 x25 h19) (j23 u h19)) fun j20 =>
 wtS x8 true (kCall X 37 [x15] h16 fun x26 h27 =>
 j20 x26 h27) (j20 u h16)) fun j17 =>
 wtS x8 true (j17 x0 h13) (j17 u h13)) fun j14 =>
 wtS x8 true (kCall X 110 [x9] h10 fun x28 h29 =>
 j14 x28 h29) (j14 u h10)) fun j11 =>
 wtS x8 true (kLA 131 x3 h4 fun x30 =>
 j11 x30 h4) (j11 u h4))
theorem p111_ok (k : Nat) : p111 k = funcS k 2 lit111 := by kernel_rfl
def p114 (_ : Nat) : CtxK → List V → TH → R := fun X => ap 3 (fun x0 x1 x2 h3 =>
 kNew (V.cellsR x2) h3 fun x4 h5 =>
 kNilc x0 fun x6 =>
 kFA 1 x6 fun x7 =>
 kL1 x7 h5 fun x10 =>
 kEqI false x10 x1 fun x11 =>
 jc (α := JT) (fun x12 h13 =>
 jc (α := JT) (fun x15 h16 =>
 jc (α := JT) (fun x18 h19 =>
 jc (α := V → TH → PD → R) (fun x23 h24 d25 =>
 jc (α := V → TH → PD → R) (fun x29 h30 d31 =>
 jc (α := JT) (fun x33 h34 =>
 jc (α := JT) (fun x36 h37 =>
 kPick x11 x36 qf fun x39 =>
 dokS [h30, h34, h37] d31 (some (x39, h37))) fun j38 =>
 wtS x11 true (kCall X 36 [x23, x33] h34 fun x40 h41 =>
 j38 x40 h41) (j38 u h34)) fun j35 =>
 wtS x11 true (kCall X 110 [x29] h30 fun x42 h43 =>
 j35 x42 h43) (j35 u h30)) fun j32 =>
 wtS x11 true (kLA 131 x4 h24 fun x44 =>
 j32 x44 h24 d25) (j32 u h24 d25)) fun j26 =>
 wtS x11 true (kL1 x18 h19 fun x45 =>
 j26 x45 h19 ((fun h21 => kL1 x18 h21 fun x22 =>
 some (x22, h21), x45, 0, 1) :: [])) (j26 u h19 [])) fun j20 =>
 wtS x11 true (kFA 53 x15 fun x46 =>
 j20 x46 h16) (j20 u h16)) fun j17 =>
 wtS x11 true (kNilc x12 fun x47 =>
 j17 x47 h13) (j17 u h13)) fun j14 =>
 wtS x11 true (j14 x0 h5) (j14 u h5))
theorem p114_ok (k : Nat) : p114 k = funcS k 3 lit114 := by kernel_rfl
def p116 (_ : Nat) : CtxK → List V → TH → R := fun X => ap 2 (fun x0 x1 h2 =>
 kNew (V.cellsR x0) h2 fun x3 h4 =>
 kCall X 105 [x1, (.fn 159 [] [x3])] h4 fun x5 h6 =>
 kNot x5 fun x7 =>
 some (x7, h6))
theorem p116_ok (k : Nat) : p116 k = funcS k 2 lit116 := by kernel_rfl
def p117 (_ : Nat) : CtxK → List V → TH → R := fun X => ap 2 (fun x0 x1 h2 =>
 kNew (V.cellsR x1) h2 fun x3 h4 =>
 kFA 1 x3 fun x5 =>
 kL1 x5 h4 fun x8 =>
 kCall X 115 [x0] h4 fun x9 h10 =>
 kBin .geq x9 x8 fun x11 =>
 jc (α := JT) (fun x12 h13 =>
 jc (α := V → TH → PD → R) (fun x17 h18 d19 =>
 jc (α := JT) (fun x21 h22 =>
 jc (α := JT) (fun x24 h25 =>
 jc (α := JT) (fun x27 h28 =>
 jc (α := JT) (fun x30 h31 =>
 kPick x11 qt x30 fun x33 =>
 dokS [h4, h22, h31] d19 (brS x33 (some (.tup [], h31)) (kNilc x0 fun x34 =>
 kFA 3 x34 fun x35 =>
 kLA 49 x35 h31 fun x38 =>
 kLA 8 x3 h31 fun x41 =>
 kNew zr0 h31 fun x42 h43 =>
 kCall X 19 [x38, x41] h43 fun x44 h45 =>
 kExt x44 0 fun x46 =>
 kExt x44 1 fun x47 =>
 kSA 49 x42 x46 h45 fun _ h49 =>
 dokS [h43, h45, h49] [] (kEqI false x47 (qi 0) fun x50 =>
 jc (α := Cur 34) (fun _ _ _ _ _ _ _ _ _ _ _ _ _ _ _ _ _ _ _ _ _ _ _ _ _ _ _ _ _ _ _ _ _ _ h85 =>
 some (.tup [], h85)) fun j86 =>
 brS x50 (kLA 49 x42 h49 fun x87 =>
 kNilc x0 fun x88 =>
 kFA 3 x88 fun x89 =>
 kSA 49 x89 x87 h49 fun _ h91 =>
 j86 u u u u u u u u u u u u u u u u u u u u u u u u u u u u u u u u u u h91) (j86 u u u u u u u u u u u u u u u u u u u u u u u u u u u u u u u u u u h49))))) fun j32 =>
 wtS x11 false (kBin .gtr x27 (qw 1) fun x92 =>
 j32 x92 h28) (j32 u h28)) fun j29 =>
 wtS x11 false (kBin .sub x17 x24 fun x93 =>
 j29 x93 h25) (j29 u h25)) fun j26 =>
 wtS x11 false (kCall X 115 [x21] h22 fun x94 h95 =>
 j26 x94 h95) (j26 u h22)) fun j23 =>
 wtS x11 false (j23 x0 h18) (j23 u h18)) fun j20 =>
 wtS x11 false (kL1 x12 h13 fun x96 =>
 j20 x96 h13 ((fun h15 => kL1 x12 h15 fun x16 =>
 some (x16, h15), x96, 1, 2) :: ((fun h6 => kL1 x5 h6 fun x7 =>
 some (x7, h6), x8, 0, 1) :: []))) (j20 u h13 ((fun h6 => kL1 x5 h6 fun x7 =>
 some (x7, h6), x8, 0, 1) :: []))) fun j14 =>
 wtS x11 false (kFA 1 x3 fun x97 =>
 j14 x97 h10) (j14 u h10))
theorem p117_ok (k : Nat) : p117 k = funcS k 2 lit117 := by kernel_rfl
def p118 (_ : Nat) : CtxK → List V → TH → R := fun _ => ap 3 (fun x0 x1 x2 h3 =>
 kNew (V.cellsR x1) h3 fun x4 h5 =>
 kNew (V.cellsR x2) h5 fun x6 h7 =>
 kNew zr1 h7 fun x8 h9 =>
 kNilc x0 fun x10 =>
 kFA 0 x10 fun x11 =>
 kL1 x11 h9 fun x14 =>
 kConv .u8 x14 fun x15 =>
 kBin .add (qb 10) x15 fun x16 =>
 kFA 0 x4 fun x17 =>
 kL1 x17 h9 fun x20 =>
 kBin .add (qb 20) x20 fun x21 =>
 kLA 6 x4 h9 fun x24 =>
 kLA 2 x6 h9 fun x27 =>
 kB zr1 [(0, 1, (qb 16)), (1, 1, x16), (2, 1, x21), (123, 6, x24), (129, 2, x27)] fun x28 =>
 kSA 131 x8 x28 h9 fun _ h30 =>
 dokS [h9, h30] [] (rsS [.cell 6 true 131] [x0, x1, x2, u, x4, x6, x8, x0, x10, x11, x14, x15, x16, x17, x20, x21, x24, x27, x28] h30))
theorem p118_ok (k : Nat) : p118 k = funcS k 3 lit118 := by kernel_rfl
def p120 (_ : Nat) : CtxK → List V → TH → R := fun X => ap 2 (fun x0 x1 h2 =>
 kNew (V.cellsR x0) h2 fun x3 h4 =>
 kNew (V.cellsR x1) h4 fun x5 h6 =>
 kL1 x3 h6 fun x7 =>
 kNilc x7 fun x8 =>
 kFA 3 x8 fun x9 =>
 kLA 49 x9 h6 fun x10 =>
 kCall X 29 [x10] h6 fun x11 h12 =>
 kNew zr6 h12 fun x13 h14 =>
 kSA 39 x13 x11 h14 fun _ h16 =>
 kLA 39 x13 h16 fun x17 =>
 kLA 6 x5 h16 fun x18 =>
 kCall X 132 [x17, x18] h16 fun x19 h20 =>
 kExt x19 0 fun x21 =>
 kExt x19 1 fun x22 =>
 kNew [(qb 0), qs] h20 fun x23 h24 =>
 kSA 2 x23 x21 h24 fun _ h26 =>
 brS x22 (kL1 x3 h26 fun x27 =>
 kNilc x27 fun x28 =>
 kFA 309 x28 fun x29 =>
 kL1 x29 h26 fun x30 =>
 kCall X 160 [x30, (.fn 161 [] [x5])] h26 fun x31 h32 =>
 jc (α := JT) (fun x33 h34 =>
 jc (α := V → TH → PD → R) (fun x38 h39 d40 =>
 jc (α := JT) (fun x42 h43 =>
 jc (α := JT) (fun x45 h46 =>
 jc (α := JT) (fun x48 h49 =>
 jc (α := JT) (fun x51 h52 =>
 jc (α := V → TH → PD → R) (fun x56 h57 d58 =>
 jc (α := JT) (fun x60 h61 =>
 jc (α := V → TH → PD → R) (fun x65 h66 d67 =>
 jc (α := JT) (fun x69 h70 =>
 kPick x31 qt x69 fun x72 =>
 dokS [h70] d67 (brS x72 (some (.nils, h70)) (kL1 x3 h70 fun x73 =>
 kLA 6 x5 h70 fun x74 =>
 kLA 2 x23 h70 fun x75 =>
 kCall X 118 [x73, x74, x75] h70 fun x76 h77 =>
 kBS 131 zr1 1 [(0, 131, x76)] h77 fun x78 h79 =>
 some (x78, h79)))) fun j71 =>
 wtS x31 false (kBin .gtr x56 x65 fun x80 =>
 j71 x80 h66) (j71 u h66)) fun j68 =>
 wtS x31 false (kL1 x60 h61 fun x81 =>
 j68 x81 h61 d58) (j68 u h61 d58)) fun j62 =>
 wtS x31 false (kFA 1 x5 fun x82 =>
 j62 x82 h57) (j62 u h57)) fun j59 =>
 wtS x31 false (kL1 x51 h52 fun x83 =>
 j59 x83 h52 d40) (j59 u h52 d40)) fun j53 =>
 wtS x31 false (kFA 0 x48 fun x84 =>
 j53 x84 h49) (j53 u h49)) fun j50 =>
 wtS x31 false (kIA 3 3 x45 x42 fun x85 =>
 j50 x85 h46) (j50 u h46)) fun j47 =>
 wtS x31 false (kFA 30 x13 fun x86 =>
 j47 x86 h43) (j47 u h43)) fun j44 =>
 wtS x31 false (kBin .sub x38 (qb 1) fun x87 =>
 j44 x87 h39) (j44 u h39)) fun j41 =>
 wtS x31 false (kL1 x33 h34 fun x88 =>
 j41 x88 h34 []) (j41 u h34 [])) fun j35 =>
 wtS x31 false (kFA 0 x5 fun x89 =>
 j35 x89 h32) (j35 u h32)) (kL1 x3 h26 fun x90 =>
 kNilc x90 fun x91 =>
 kFA 309 x91 fun x92 =>
 kL1 x92 h26 fun x93 =>
 kLen x93 fun x94 =>
 kBin .geq x94 (qi 3) fun x95 =>
 brS x95 (some (.nils, h26)) (kL1 x3 h26 fun x98 =>
 kNilc x98 fun x99 =>
 kFA 52 x99 fun x100 =>
 kL1 x100 h26 fun x103 =>
 kL1 x3 h26 fun x106 =>
 kLA 6 x5 h26 fun x109 =>
 kNew zr2 h26 fun x110 h111 =>
 kCall X 115 [x106] h111 fun x112 h113 =>
 kBin .add x112 (qw 1) fun x114 =>
 kB zr2 [(0, 1, x103), (1, 1, x114), (2, 6, x109)] fun x115 =>
 kSA 8 x110 x115 h113 fun _ h117 =>
 dokS [h111, h113, h117] ((fun h107 => kLA 6 x5 h107 fun x108 =>
 some (x108, h107), x109, 0, 1) :: ((fun h101 => kL1 x100 h101 fun x102 =>
 some (x102, h101), x103, 0, 1) :: ((fun h96 => kL1 x3 h96 fun x97 =>
 some (x97, h96), x98, 0, 1) :: []))) (kL1 x3 h117 fun x120 =>
 kNilc x120 fun x121 =>
 kFA 3 x121 fun x122 =>
 kLA 49 x122 h117 fun x125 =>
 kLA 8 x110 h117 fun x128 =>
 kNew zr0 h117 fun x129 h130 =>
 kCall X 19 [x125, x128] h130 fun x131 h132 =>
 kExt x131 0 fun x133 =>
 kExt x131 1 fun x134 =>
 kSA 49 x129 x133 h132 fun _ h136 =>
 dokS [h130, h132, h136] [] (kEqI true x134 (qi 0) fun x137 =>
 brS x137 (some (.nils, h136)) (kL1 x3 h136 fun x138 =>
 kLA 49 x129 h136 fun x139 =>
 kNilc x138 fun x140 =>
 kFA 3 x140 fun x141 =>
 kSA 49 x141 x139 h136 fun _ h143 =>
 kLA 49 x129 h143 fun x146 =>
 kLA 6 x5 h143 fun x149 =>
 kNew [(qb 0), qs] h143 fun x150 h151 =>
 kCall X 29 [x146] h151 fun x152 h153 =>
 kCall X 132 [x152, x149] h153 fun x154 h155 =>
 kExt x154 0 fun x156 =>
 kExt x154 1 fun _ =>
 kSA 2 x150 x156 h155 fun _ h159 =>
 dokS [h151, h153, h155, h159] ((fun h147 => kLA 6 x5 h147 fun x148 =>
 some (x148, h147), x149, 0, 1) :: []) (kLA 8 x110 h159 fun x160 =>
 kLA 2 x150 h159 fun x161 =>
 kB zr7 [(0, 8, x160), (8, 2, x161)] fun x162 =>
 kNew zr7 h159 fun x163 h164 =>
 kSA 15 x163 x162 h164 fun _ h166 =>
 kL1 x3 h166 fun x167 =>
 kNilc x167 fun x168 =>
 kFA 0 x168 fun x169 =>
 kL1 x169 h166 fun x170 =>
 kFA 10 x163 fun x171 =>
 kIA 5 1 x171 x170 fun x172 =>
 kS1 x172 qt h166 fun _ h174 =>
 kL1 x3 h174 fun x177 =>
 kL1 x3 h174 fun x180 =>
 kNilc x180 fun x181 =>
 kFA 309 x181 fun x182 =>
 kL1 x182 h174 fun x185 =>
 kLA 15 x163 h174 fun x188 =>
 kBS 15 zr7 1 [(0, 15, x188)] h174 fun x189 h190 =>
 kAp 15 72 x185 x189 h190 fun x191 h192 =>
 kNilc x177 fun x193 =>
 kFA 309 x193 fun x194 =>
 kS1 x194 x191 h192 fun _ h196 =>
 dokS [h190, h192, h196] ((fun h175 => kL1 x3 h175 fun x176 =>
 some (x176, h175), x177, 0, 1) :: []) (kL1 x3 h196 fun x199 =>
 kL1 x3 h196 fun x202 =>
 kNilc x202 fun x203 =>
 kFA 53 x203 fun x204 =>
 kL1 x204 h196 fun x207 =>
 kCall X 38 [x199, x207, (.fn 162 [] [x3, x110])] h196 fun x208 h209 =>
 dokS [h196, h209] [] (some (x208, h209))))))))))
theorem p120_ok (k : Nat) : p120 k = funcS k 2 lit120 := by kernel_rfl
def p125 (_ : Nat) : CtxK → List V → TH → R := fun _ => ap 1 (fun x0 h1 =>
 kNew zr3 h1 fun x2 h3 =>
 kB zr3 [(0, 1, qt), (4, 1, qt)] fun x4 =>
 kNew zr3 h3 fun x5 h6 =>
 kSA 11 x5 x4 h6 fun _ h8 =>
 kEqI false x0 (qb 8) fun x9 =>
 jc (α := Cur 24) (fun x10 x11 x12 x13 x14 x15 x16 x17 x18 x19 x20 x21 x22 x23 x24 x25 x26 x27 x28 x29 x30 x31 x32 _ h34 =>
 kLA 11 x13 h34 fun x36 =>
 kSA 11 x12 x36 h34 fun _ h38 =>
 rsS [.cell 2 true 11] [x10, x11, x12, x13, x14, x15, x16, x17, x18, x19, x20, x21, x22, x23, x24, x25, x26, x27, x28, x29, x30, x31, x32, x36] h38) fun j35 =>
 brS x9 (kFA 5 x5 fun x39 =>
 kS1 x39 qt h8 fun _ h41 =>
 j35 u u x2 x5 u u u u u u u u u u u u u u u u u u u u h41) (kEqI false x0 (qb 9) fun x42 =>
 jc (α := Cur 24) (fun _ _ x45 x46 _ _ _ _ _ _ _ _ _ _ _ _ _ _ _ _ _ _ _ _ h67 =>
 j35 u u x45 x46 u u u u u u u u u u u u u u u u u u u u h67) fun j68 =>
 brS x42 (kFA 6 x5 fun x69 =>
 kS1 x69 qt h8 fun _ h71 =>
 j68 u u x2 x5 u u u u u u u u u u u u u u u u u u u u h71) (kEqI false x0 (qb 10) fun x72 =>
 jc (α := Cur 24) (fun _ _ x75 x76 _ x78 _ _ _ _ _ _ x85 _ _ _ _ _ _ _ _ _ _ _ h97 =>
 jc (α := Cur 24) (fun _ _ x101 x102 _ _ _ _ _ _ _ _ _ _ _ _ _ _ _ _ _ _ _ _ h123 =>
 j68 u u x101 x102 u u u u u u u u u u u u u u u u u u u u h123) fun j124 =>
 brS x85 (kFA 8 x76 fun x125 =>
 kS1 x125 qt h97 fun _ h127 =>
 j124 u u x75 x76 u u u u u u u u u u u u u u u u u u u u h127) (kEqI false x78 (qb 11) fun x128 =>
 jc (α := Cur 24) (fun _ _ x131 x132 _ _ _ _ _ _ _ _ _ _ _ _ _ _ _ _ _ _ _ _ h153 =>
 j124 u u x131 x132 u u u u u u u u u u u u u u u u u u u u h153) fun j154 =>
 brS x128 (kFA 7 x76 fun x155 =>
 kS1 x155 qt h97 fun _ h157 =>
 j154 u u x75 x76 u u u u u u u u u u u u u u u u u u u u h157) (kEqI false x78 (qb 13) fun x158 =>
 jc (α := Cur 24) (fun _ _ x161 x162 _ _ _ _ _ _ _ _ _ _ _ _ _ _ _ x178 _ _ _ _ h183 =>
 jc (α := Cur 24) (fun _ _ x187 x188 _ _ _ _ _ _ _ _ _ _ _ _ _ _ _ _ _ _ _ _ h209 =>
 j154 u u x187 x188 u u u u u u u u u u u u u u u u u u u u h209) fun j210 =>
 brS x178 (kFA 9 x162 fun x211 =>
 kS1 x211 qt h183 fun _ h213 =>
 j210 u u x161 x162 u u u u u u u u u u u u u u u u u u u u h213) (j210 u u x161 x162 u u u u u u u u u u u u u u u u u u u u h183)) fun j184 =>
 brS x158 (j184 u u x75 x76 u u u u u u u u u u u u u u u x158 u u u u h97) (kEqI false x78 (qb 14) fun x214 =>
 j184 u u x75 x76 u u u u u u u u u u u u u u u x214 u u u u h97)))) fun j98 =>
 brS x72 (j98 u u x2 x5 u x0 u u u u u u x72 u u u u u u u u u u u h8) (kEqI false x0 (qb 12) fun x215 =>
 j98 u u x2 x5 u x0 u u u u u u x215 u u u u u u u u u u u h8))))
theorem p125_ok (k : Nat) : p125 k = funcS k 1 lit125 := by kernel_rfl
def p150 (k : Nat) : CtxK → List V → TH → R := fun X => ap 2 (fun x0 x1 h2 =>
 kBin .geq x1 (qb 4) fun x3 =>
 brS x3 (some (.nils, h2)) (kNilc x0 fun x4 =>
 kFA 3 x4 fun x5 =>
 kIA 4 1 x5 x1 fun x6 =>
 kL1 x6 h2 fun x7 =>
 kCall X 181 [x7] h2 fun x8 h9 =>
 kLen x8 fun x10 =>
 lp (α := Cur 33) (zN 33) (fun n45 _ _ _ _ _ x16 _ _ _ _ _ _ _ _ _ _ _ x28 x29 x30 _ _ _ _ _ _ _ _ _ _ _ _ _ h44 =>
 kBin .lss x30 x29 fun x46 =>
 brS x46 (kIS 2 x28 x30 fun x47 =>
 kLA 2 x47 h44 fun x48 =>
 kNew [(qw 0), .nils] h44 fun x49 h50 =>
 kSA 2 x49 x48 h50 fun _ h52 =>
 kFA 1 x49 fun x53 =>
 kL1 x53 h52 fun x54 =>
 kCall X 43 [x54] h52 fun x55 h56 =>
 kIS 2 x16 x30 fun x57 =>
 kFA 1 x57 fun x58 =>
 kS1 x58 x55 h56 fun _ h60 =>
 kBin .add x30 (qi 1) fun x61 =>
 n45 u u u u u x16 u u u u u u u u u u u x28 x29 x61 u u u u u u u u u u u u u h60) (some (x16, h44))) k u u u u u x8 u u u u u u u u u u u x8 x10 (qi 0) u u u u u u u u u u u u u h9))
theorem p150_ok (k : Nat) : p150 k = funcS k 2 lit150 := by kernel_rfl
def p155 (_ : Nat) : CtxK → List V → TH → R := fun _ => ap 1 (fun x0 h1 =>
 kNew (V.cellsR x0) h1 fun x2 h3 =>
 kNew zr0 h3 fun x4 h5 =>
 kFA 0 x2 fun x6 =>
 kL1 x6 h5 fun x7 =>
 kFA 40 x2 fun x8 =>
 kLA 8 x8 h5 fun x9 =>
 kB zr0 [(0, 1, x7), (40, 8, x9)] fun x10 =>
 kSA 49 x4 x10 h5 fun _ h12 =>
 rsS [.cell 2 true 49] [x0, x2, x4, x6, x7, x8, x9, x10] h12)
theorem p155_ok (k : Nat) : p155 k = funcS k 1 lit155 := by kernel_rfl
def p158 (_ : Nat) : CtxK → List V → TH → R := fun X => ap 2 (fun x0 x1 h2 =>
 kNew (V.cellsR x0) h2 fun x3 h4 =>
 kNew (V.cellsR x1) h4 fun x5 h6 =>
 kNew zr0 h6 fun x7 h8 =>
 kLA 49 x3 h8 fun x9 =>
 kCall X 47 [x9] h8 fun x10 h11 =>
 kNot x10 fun x12 =>
 jc (α := JT) (fun x13 h14 =>
 jc (α := JT) (fun x16 h17 =>
 jc (α := JT) (fun x19 h20 =>
 kPick x12 qt x19 fun x22 =>
 jc (α := JT) (fun x23 h24 =>
 jc (α := JT) (fun x26 h27 =>
 jc (α := JT) (fun x29 h30 =>
 kPick x22 qt x29 fun x32 =>
 jc (α := JT) (fun x33 h34 =>
 jc (α := JT) (fun x36 h37 =>
 jc (α := JT) (fun x39 h40 =>
 jc (α := JT) (fun x42 h43 =>
 jc (α := JT) (fun x45 h46 =>
 jc (α := JT) (fun x48 h49 =>
 jc (α := JT) (fun x51 h52 =>
 jc (α := JT) (fun x54 h55 =>
 jc (α := JT) (fun x57 h58 =>
 jc (α := JT) (fun x60 h61 =>
 jc (α := JT) (fun x63 h64 =>
 jc (α := JT) (fun x66 h67 =>
 jc (α := JT) (fun x69 h70 =>
 jc (α := JT) (fun x72 h73 =>
 kPick x32 qt x72 fun x75 =>
 brS x75 (kCv X (.fn 186 [] []) [] h73 fun x76 h77 =>
 kExt x76 0 fun x78 =>
 kExt x76 1 fun x79 =>
 kSA 49 x7 x78 h77 fun _ h81 =>
 rsS [.cell 4 true 49, .tmp 5] [x0, x1, x3, x5, x7, x79, (.fn 186 [] []), u, u, u, u, x9, x10, x12, x12, x13, x16, x19, x22, x22, x23, x26, x29, x32, x32, x33, x36, x39, x42, x45, x48, x51, x54, x57, x60, x63, x66, x69, x72, x75, (.fn 186 [] []), x76, x78, x79, u, u, u, u, u, u, u, u, u, u, u, u, u, u, u, u, u, u, u, u, u, u, u, u, u, u, u, u, u, u, u, u, u, u, u, u, u, u, u, u, u, u, u, u, u, u, u, u, u, u, u, u, u, u, u, u, u, u, u, u, u, u, u, u, u, u, u, u, u, u, u, u, u, u, u, u, u, u, u] h81) (kFA 0 x5 fun x82 =>
 kL1 x82 h73 fun x83 =>
 kEqI false x83 (qi 2) fun x84 =>
 brS x84 (kFA 3 x5 fun x85 =>
 kLA 49 x85 h73 fun x86 =>
 kCall X 47 [x86] h73 fun x87 h88 =>
 kNot x87 fun x89 =>
 brS x89 (kCv X (.fn 186 [] []) [] h88 fun x90 h91 =>
 kExt x90 0 fun x92 =>
 kExt x90 1 fun x93 =>
 kSA 49 x7 x92 h91 fun _ h95 =>
 rsS [.cell 4 true 49, .tmp 5] [x0, x1, x3, x5, x7, x93, (.fn 186 [] []), u, u, u, u, x9, x10, x12, x12, x13, x16, x19, x22, x22, x23, x26, x29, x32, x32, x33, x36, x39, x42, x45, x48, x51, x54, x57, x60, x63, x66, x69, x72, x75, u, u, u, u, x82, x83, x84, x85, x86, x87, x89, (.fn 186 [] []), x90, x92, x93, u, u, u, u, u, u, u, u, u, u, u, u, u, u, u, u, u, u, u, u, u, u, u, u, u, u, u, u, u, u, u, u, u, u, u, u, u, u, u, u, u, u, u, u, u, u, u, u, u, u, u, u, u, u, u, u, u, u, u, u, u, u, u, u, u, u, u, u] h95) (kFA 3 x5 fun x96 =>
 kLA 49 x96 h88 fun x97 =>
 kCall X 34 [x97] h88 fun x98 h99 =>
 kSA 49 x7 x98 h99 fun _ h101 =>
 rsS [.cell 4 true 49, .tmp 5] [x0, x1, x3, x5, x7, (qi 0), (.fn 186 [] []), u, u, u, u, x9, x10, x12, x12, x13, x16, x19, x22, x22, x23, x26, x29, x32, x32, x33, x36, x39, x42, x45, x48, x51, x54, x57, x60, x63, x66, x69, x72, x75, u, u, u, u, x82, x83, x84, x85, x86, x87, x89, u, u, u, u, x96, x97, x98, u, u, u, u, u, u, u, u, u, u, u, u, u, u, u, u, u, u, u, u, u, u, u, u, u, u, u, u, u, u, u, u, u, u, u, u, u, u, u, u, u, u, u, u, u, u, u, u, u, u, u, u, u, u, u, u, u, u, u, u, u, u, u, u, u] h101)) (kLA 49 x3 h73 fun x102 =>
 kNew zr0 h73 fun x103 h104 =>
 kSA 49 x103 x102 h104 fun _ h106 =>
 kFA 0 x5 fun x107 =>
 kL1 x107 h106 fun x108 =>
 kEqI false x108 (qi 1) fun x109 =>
 jc (α := Cur 123) (fun x110 x111 x112 x113 x114 _ x116 x117 x118 x119 _ x121 x122 x123 x124 x125 x126 x127 x128 x129 x130 x131 x132 x133 x134 x135 x136 x137 x138 x139 x140 x141 x142 x143 x144 x145 x146 x147 x148 x149 x150 x151 x152 x153 x154 x155 x156 x157 x158 x159 x160 x161 x162 x163 x164 x165 x166 x167 x168 x169 x170 x171 x172 x173 x174 x175 x176 x177 x178 x179 x180 x181 x182 x183 x184 x185 x186 x187 x188 x189 x190 x191 x192 x193 x194 x195 x196 x197 _ _ _ _ _ _ _ _ _ _ _ _ _ _ _ _ _ _ _ _ _ _ _ _ _ _ _ _ _ _ x228 x229 x230 x231 x232 h233 =>
 kLA 49 x117 h233 fun x235 =>
 kFA 3 x113 fun x236 =>
 kFA 40 x236 fun x237 =>
 kFA 1 x237 fun x238 =>
 kL1 x238 h233 fun x239 =>
 kCall X 20 [x235, x239] h233 fun x240 h241 =>
 kExt x240 0 fun x242 =>
 kExt x240 1 fun x243 =>
 kSA 49 x117 x242 h241 fun _ h245 =>
 kFA 3 x113 fun x246 =>
 kFA 0 x246 fun x247 =>
 kL1 x247 h245 fun x248 =>
 kFA 0 x117 fun x249 =>
 kS1 x249 x248 h245 fun _ h251 =>
 kEqI true x243 (qi 0) fun x252 =>
 jc (α := JT) (fun x253 h254 =>
 jc (α := JT) (fun x256 h257 =>
 jc (α := JT) (fun x259 h260 =>
 jc (α := JT) (fun x262 h263 =>
 jc (α := JT) (fun x265 h266 =>
 jc (α := JT) (fun x268 h269 =>
 jc (α := JT) (fun x271 h272 =>
 jc (α := JT) (fun x274 h275 =>
 kPick x252 qt x274 fun x277 =>
 jc (α := JT) (fun x278 h279 =>
 jc (α := JT) (fun x281 h282 =>
 jc (α := JT) (fun x284 h285 =>
 kPick x277 qt x284 fun x287 =>
 brS x287 (kCv X x116 [] h285 fun x288 h289 =>
 kExt x288 0 fun x290 =>
 kExt x288 1 fun x291 =>
 kSA 49 x114 x290 h289 fun _ h293 =>
 rsS [.cell 4 true 49, .tmp 5] [x110, x111, x112, x113, x114, x291, x116, x117, x118, x119, x243, x121, x122, x123, x124, x125, x126, x127, x128, x129, x130, x131, x132, x133, x134, x135, x136, x137, x138, x139, x140, x141, x142, x143, x144, x145, x146, x147, x148, x149, x150, x151, x152, x153, x154, x155, x156, x157, x158, x159, x160, x161, x162, x163, x164, x165, x166, x167, x168, x169, x170, x171, x172, x173, x174, x175, x176, x177, x178, x179, x180, x181, x182, x183, x184, x185, x186, x187, x188, x189, x190, x191, x192, x193, x194, x195, x196, x197, x240, x235, x236, x237, x238, x239, x240, x242, x243, x246, x247, x248, x249, x243, x252, x252, x253, x256, x259, x262, x265, x268, x271, x274, x277, x277, x278, x281, x284, x287, x116, x288, x290, x291, x232] h293) (kLA 49 x117 h285 fun x294 =>
 kSA 49 x114 x294 h285 fun _ h296 =>
 rsS [.cell 4 true 49, .tmp 5] [x110, x111, x112, x113, x114, (qi 0), x116, x117, x118, x119, x243, x121, x122, x123, x124, x125, x126, x127, x128, x129, x130, x131, x132, x133, x134, x135, x136, x137, x138, x139, x140, x141, x142, x143, x144, x145, x146, x147, x148, x149, x150, x151, x152, x153, x154, x155, x156, x157, x158, x159, x160, x161, x162, x163, x164, x165, x166, x167, x168, x169, x170, x171, x172, x173, x174, x175, x176, x177, x178, x179, x180, x181, x182, x183, x184, x185, x186, x187, x188, x189, x190, x191, x192, x193, x194, x195, x196, x197, x240, x235, x236, x237, x238, x239, x240, x242, x243, x246, x247, x248, x249, x243, x252, x252, x253, x256, x259, x262, x265, x268, x271, x274, x277, x277, x278, x281, x284, x287, x228, x229, x230, x231, x294] h296)) fun j286 =>
 wtS x277 false (kNot x281 fun x297 =>
 j286 x297 h282) (j286 u h282)) fun j283 =>
 wtS x277 false (kCall X 47 [x278] h279 fun x298 h299 =>
 j283 x298 h299) (j283 u h279)) fun j280 =>
 wtS x277 false (kLA 49 x117 h275 fun x300 =>
 j280 x300 h275) (j280 u h275)) fun j276 =>
 wtS x252 false (kEqI true x259 x271 fun x301 =>
 j276 x301 h272) (j276 u h272)) fun j273 =>
 wtS x252 false (kL1 x268 h269 fun x302 =>
 j273 x302 h269) (j273 u h269)) fun j270 =>
 wtS x252 false (kFA 0 x265 fun x303 =>
 j270 x303 h266) (j270 u h266)) fun j267 =>
 wtS x252 false (kFA 40 x262 fun x304 =>
 j267 x304 h263) (j267 u h263)) fun j264 =>
 wtS x252 false (kFA 3 x113 fun x305 =>
 j264 x305 h260) (j264 u h260)) fun j261 =>
 wtS x252 false (kL1 x256 h257 fun x306 =>
 j261 x306 h257) (j261 u h257)) fun j258 =>
 wtS x252 false (kFA 0 x253 fun x307 =>
 j258 x307 h254) (j258 u h254)) fun j255 =>
 wtS x252 false (kFA 40 x117 fun x308 =>
 j255 x308 h251) (j255 u h251)) fun j234 =>
 brS x109 (kLA 49 x3 h106 fun x309 =>
 kFA 1 x5 fun x310 =>
 kL1 x310 h106 fun x311 =>
 kCall X 187 [x309, x311] h106 fun x312 h313 =>
 kExt x312 0 fun x314 =>
 kExt x312 1 fun x315 =>
 kNew zr0 h313 fun x316 h317 =>
 kSA 49 x316 x314 h317 fun _ h319 =>
 kEqI true x315 (qi 0) fun x320 =>
 brS x320 (kCv X (.fn 186 [] []) [] h319 fun x321 h322 =>
 kExt x321 0 fun x323 =>
 kExt x321 1 fun x324 =>
 kSA 49 x7 x323 h322 fun _ h326 =>
 rsS [.cell 4 true 49, .tmp 5] [x0, x1, x3, x5, x7, x324, (.fn 186 [] []), x103, x316, x315, u, x9, x10, x12, x12, x13, x16, x19, x22, x22, x23, x26, x29, x32, x32, x33, x36, x39, x42, x45, x48, x51, x54, x57, x60, x63, x66, x69, x72, x75, u, u, u, u, x82, x83, x84, u, u, u, u, u, u, u, u, u, u, u, x102, x107, x108, x109, x312, x309, x310, x311, x312, x314, x315, x315, x320, (.fn 186 [] []), x321, x323, x324, u, u, u, u, u, u, u, u, u, u, u, u, u, u, u, u, u, u, u, u, u, u, u, u, u, u, u, u, u, u, u, u, u, u, u, u, u, u, u, u, u, u, u, u, u, u, u, u] h326) (kLA 49 x316 h319 fun x327 =>
 kFA 2 x5 fun x328 =>
 kL1 x328 h319 fun x329 =>
 kCall X 188 [x327, x329] h319 fun x330 h331 =>
 kExt x330 0 fun x332 =>
 kExt x330 1 fun x333 =>
 kSA 49 x103 x332 h331 fun _ h335 =>
 kEqI true x333 (qi 0) fun x336 =>
 brS x336 (kCv X (.fn 186 [] []) [] h335 fun x337 h338 =>
 kExt x337 0 fun x339 =>
 kExt x337 1 fun x340 =>
 kSA 49 x7 x339 h338 fun _ h342 =>
 rsS [.cell 4 true 49, .tmp 5] [x0, x1, x3, x5, x7, x340, (.fn 186 [] []), x103, x316, x333, u, x9, x10, x12, x12, x13, x16, x19, x22, x22, x23, x26, x29, x32, x32, x33, x36, x39, x42, x45, x48, x51, x54, x57, x60, x63, x66, x69, x72, x75, u, u, u, u, x82, x83, x84, u, u, u, u, u, u, u, u, u, u, u, x102, x107, x108, x109, x312, x309, x310, x311, x312, x314, x315, x315, x320, u, u, u, u, x330, x327, x328, x329, x330, x332, x333, x333, x336, (.fn 186 [] []), x337, x339, x340, u, u, u, u, u, u, u, u, u, u, u, u, u, u, u, u, u, u, u, u, u, u, u, u, u, u, u, u, u, u, u, u, u, u, u] h342) (j234 u u u x5 x7 u (.fn 186 [] []) x103 u u u u u u u u u u u u u u u u u u u u u u u u u u u u u u u u u u u u u u u u u u u u u u u u u u u u u u u u u u u u u u u u u u u u u u u u u u u u u u u u u u u u u u u u u u u u u u u u u u u u u u u u u u u u u u u u u u u h335))) (j234 u u u x5 x7 u (.fn 186 [] []) x103 u u u u u u u u u u u u u u u u u u u u u u u u u u u u u u u u u u u u u u u u u u u u u u u u u u u u u u u u u u u u u u u u u u u u u u u u u u u u u u u u u u u u u u u u u u u u u u u u u u u u u u u u u u u u u u u u u u u h106)))) fun j74 =>
 wtS x32 false (kPick x42 x69 qf fun x343 =>
 j74 x343 h70) (j74 u h70)) fun j71 =>
 wtS x42 true (kPick x57 qt x66 fun x344 =>
 j71 x344 h67) (j71 u h67)) fun j68 =>
 wtS x57 false (kEqI true x63 (qw 0) fun x345 =>
 j68 x345 h64) (j68 u h64)) fun j65 =>
 wtS x57 false (kL1 x60 h61 fun x346 =>
 j65 x346 h61) (j65 u h61)) fun j62 =>
 wtS x57 false (kFA 1 x5 fun x347 =>
 j62 x347 h58) (j62 u h58)) fun j59 =>
 wtS x42 true (j59 x54 h55) (j59 u h55)) fun j56 =>
 wtS x42 true (kBin .gtr x51 (qi 0) fun x348 =>
 j56 x348 h52) (j56 u h52)) fun j53 =>
 wtS x42 true (kLen x48 fun x349 =>
 j53 x349 h49) (j53 u h49)) fun j50 =>
 wtS x42 true (kL1 x45 h46 fun x350 =>
 j50 x350 h46) (j50 u h46)) fun j47 =>
 wtS x42 true (kFA 2 x5 fun x351 =>
 j47 x351 h43) (j47 u h43)) fun j44 =>
 wtS x32 false (j44 x39 h40) (j44 u h40)) fun j41 =>
 wtS x32 false (kEqI true x36 (qi 1) fun x352 =>
 j41 x352 h37) (j41 u h37)) fun j38 =>
 wtS x32 false (kL1 x33 h34 fun x353 =>
 j38 x353 h34) (j38 u h34)) fun j35 =>
 wtS x32 false (kFA 0 x5 fun x354 =>
 j35 x354 h30) (j35 u h30)) fun j31 =>
 wtS x22 false (kBin .gtr x26 (qi 2) fun x355 =>
 j31 x355 h27) (j31 u h27)) fun j28 =>
 wtS x22 false (kL1 x23 h24 fun x356 =>
 j28 x356 h24) (j28 u h24)) fun j25 =>
 wtS x22 false (kFA 0 x5 fun x357 =>
 j25 x357 h20) (j25 u h20)) fun j21 =>
 wtS x12 false (kBin .lss x16 (qi 0) fun x358 =>
 j21 x358 h17) (j21 u h17)) fun j18 =>
 wtS x12 false (kL1 x13 h14 fun x359 =>
 j18 x359 h14) (j18 u h14)) fun j15 =>
 wtS x12 false (kFA 0 x5 fun x360 =>
 j15 x360 h11) (j15 u h11))
theorem p158_ok (k : Nat) : p158 k = funcS k 2 lit158 := by kernel_rfl
def p180 (_ : Nat) : CtxK → List V → TH → R := fun X => ap 2 (fun x0 x1 h2 =>
 kNew (V.cellsR x0) h2 fun x3 h4 =>
 kNew (V.cellsR x1) h4 fun x5 h6 =>
 kL1 x3 h6 fun x7 =>
 kNilc x7 fun x8 =>
 kFA 18 x8 fun x9 =>
 kL1 x9 h6 fun x10 =>
 kCall X 105 [x10, (.fn 195 [] [x5, x3])] h6 fun x11 h12 =>
 kNot x11 fun x13 =>
 some (x13, h12))
theorem p180_ok (k : Nat) : p180 k = funcS k 2 lit180 := by kernel_rfl
def p183 (k : Nat) : CtxK → List V → TH → R := fun X => ap 2 (fun x0 x1 h2 =>
 kLen x0 fun x3 =>
 lp (α := Cur 19) (zN 19) (fun n24 x4 x5 _ _ _ _ _ x11 x12 _ _ _ _ _ _ _ _ _ _ h23 =>
 kBin .lss x12 x11 fun x25 =>
 brS x25 (kIS 2 x4 x12 fun x26 =>
 kLA 2 x26 h23 fun x27 =>
 kCv X x5 [x27] h23 fun x28 h29 =>
 brS x28 (some (x12, h29)) (kBin .add x12 (qi 1) fun x30 =>
 n24 x4 x5 u u u u u x11 x30 u u u u u u u u u u h29)) (some ((.int .i64 (-1)), h23))) k x0 x1 u u u u u x3 (qi 0) u u u u u u u u u u h2)
theorem p183_ok (k : Nat) : p183 k = funcS k 2 lit183 := by kernel_rfl
def p194 (k : Nat) : CtxK → List V → TH → R := fun _ => ap 1 (fun x0 h1 =>
 kLen x0 fun x2 =>
 lp (α := Cur 26) (zN 26) (fun n30 x3 _ _ x6 _ _ x9 x10 x11 _ _ _ _ _ _ _ _ _ _ _ _ _ _ _ _ _ h29 =>
 kBin .lss x11 x10 fun x31 =>
 brS x31 (kIS 1 x9 x11 fun x32 =>
 kL1 x32 h29 fun x33 =>
 kBin .lss x6 (qi 0) fun x34 =>
 jc (α := JT) (fun x35 h36 =>
 jc (α := JT) (fun x38 h39 =>
 jc (α := JT) (fun x41 h42 =>
 jc (α := JT) (fun x44 h45 =>
 jc (α := JT) (fun x47 h48 =>
 jc (α := JT) (fun x50 h51 =>
 kPick x34 qt x50 fun x53 =>
 jc (α := Cur 26) (fun x54 _ _ x57 _ _ x60 x61 x62 _ _ _ _ _ _ _ _ _ _ _ _ _ _ _ _ _ h80 =>
 kBin .add x62 (qi 1) fun x82 =>
 n30 x54 u u x57 u u x60 x61 x82 u u u u u u u u u u u u u u u u u h80) fun j81 =>
 brS x53 (j81 x3 u u x11 u u x9 x10 x11 u u u u u u u u u u u u u u u u u h51) (j81 x3 u u x6 u u x9 x10 x11 u u u u u u u u u u u u u u u u u h51)) fun j52 =>
 wtS x34 false (kBin .gtr x35 x47 fun x83 =>
 j52 x83 h48) (j52 u h48)) fun j49 =>
 wtS x34 false (kL1 x44 h45 fun x84 =>
 j49 x84 h45) (j49 u h45)) fun j46 =>
 wtS x34 false (kIS 1 x38 x41 fun x85 =>
 j46 x85 h42) (j46 u h42)) fun j43 =>
 wtS x34 false (j43 x6 h39) (j43 u h39)) fun j40 =>
 wtS x34 false (j40 x3 h36) (j40 u h36)) fun j37 =>
 wtS x34 false (j37 x33 h29) (j37 u h29)) (some (x6, h29))) k x0 u u (.int .i64 (-1)) u u x0 x2 (qi 0) u u u u u u u u u u u u u u u u u h1)
theorem p194_ok (k : Nat) : p194 k = funcS k 1 lit194 := by kernel_rfl
def p199 (_ : Nat) : CtxK → List V → TH → R := fun X => ap 3 (fun x0 x1 x2 h3 =>
 kConv .u64 x0 fun x4 =>
 kCall X 70 [x4] h3 fun x5 h6 =>
 kConv .u64 x1 fun x7 =>
 kBin .add x5 x7 fun x8 =>
 kCall X 70 [x8] h6 fun x9 h10 =>
 kConv .u64 x2 fun x11 =>
 kBin .add x9 x11 fun x12 =>
 kCall X 70 [x12] h10 fun x13 h14 =>
 kConv .u32 x13 fun x15 =>
 some (x15, h14))
theorem p199_ok (k : Nat) : p199 k = funcS k 3 lit199 := by kernel_rfl
end
end Go.PE
