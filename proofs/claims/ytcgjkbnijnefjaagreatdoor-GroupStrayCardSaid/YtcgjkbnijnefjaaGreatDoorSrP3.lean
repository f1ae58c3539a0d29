/- The same functions with names for their slots (part 3 of 4), printed by a program of our own: each is what the evaluator's law says of the literal. -/
import Derived.Test.YtcgjkbnijnefjaaGreatDoorSrL3
import Derived.KernelRfl
namespace Go.PE
set_option maxRecDepth 100000
noncomputable section
def p9 (_ : Nat) : CtxK → List V → TH → R := fun X => ap 1 (fun x0 h1 =>
 kNew (V.cellsR x0) h1 fun x2 h3 =>
 kLA 6 x2 h3 fun x4 =>
 kCall X 33 [x4] h3 fun x5 h6 =>
 jc (α := JT) (fun x7 h8 =>
 jc (α := JT) (fun x10 h11 =>
 jc (α := JT) (fun x13 h14 =>
 kPick x5 x13 qf fun x16 =>
 some (x16, h14)) fun j15 =>
 wtS x5 true (kEqI true x10 (qb 5) fun x17 =>
 j15 x17 h11) (j15 u h11)) fun j12 =>
 wtS x5 true (kL1 x7 h8 fun x18 =>
 j12 x18 h8) (j12 u h8)) fun j9 =>
 wtS x5 true (kFA 2 x2 fun x19 =>
 j9 x19 h6) (j9 u h6))
theorem p9_ok (k : Nat) : p9 k = funcS k 1 lit9 := by kernel_rfl
def p18 (_ : Nat) : CtxK → List V → TH → R := fun X => ap 2 (fun x0 x1 h2 =>
 kNilc x0 fun x3 =>
 kFA 7 x3 fun x4 =>
 kL1 x4 h2 fun x5 =>
 kIS 131 x5 x1 fun x6 =>
 kLA 131 x6 h2 fun x7 =>
 kNew zr1 h2 fun x8 h9 =>
 kSA 131 x8 x7 h9 fun _ h11 =>
 kNilc x0 fun x12 =>
 kFA 7 x12 fun x13 =>
 kL1 x13 h11 fun x16 =>
 kP (sliceE 131 x16 none (some x1)) fun x17 =>
 kNilc x0 fun x18 =>
 kFA 7 x18 fun x19 =>
 kL1 x19 h11 fun x22 =>
 kBin .add x1 (qi 1) fun x23 =>
 kP (sliceE 131 x22 (some x23) none) fun x24 =>
 kAp 131 1400 .nils x17 h11 fun x25 h26 =>
 kAp 131 1400 x25 x24 h26 fun x27 h28 =>
 kNilc x0 fun x29 =>
 kFA 7 x29 fun x30 =>
 kS1 x30 x27 h28 fun _ h32 =>
 dokS [h11, h26, h28, h32] ((fun h20 => kL1 x19 h20 fun x21 =>
 some (x21, h20), x22, 0, 1) :: []) (kFA 2 x8 fun x33 =>
 kL1 x33 h32 fun x34 =>
 kBin .geq x34 (qb 20) fun x35 =>
 brS x35 (kNilc x0 fun x36 =>
 kFA 8 x36 fun x37 =>
 kL1 x37 h32 fun x40 =>
 kLA 131 x8 h32 fun x43 =>
 kBS 131 zr1 1 [(0, 131, x43)] h32 fun x44 h45 =>
 kAp 131 1400 x40 x44 h45 fun x46 h47 =>
 kNilc x0 fun x48 =>
 kFA 8 x48 fun x49 =>
 kS1 x49 x46 h47 fun _ h51 =>
 dokS [h45, h47, h51] [] (some (.tup [], h51))) (kNilc x0 fun x52 =>
 kFA 7 x52 fun x53 =>
 kL1 x53 h32 fun x56 =>
 kFA 2 x8 fun x57 =>
 kL1 x57 h32 fun x60 =>
 kBin .sub x60 (qb 10) fun x61 =>
 kNilc x0 fun x62 =>
 kFA 2 x62 fun x63 =>
 kIA 5 1 x63 x61 fun x64 =>
 kL1 x64 h32 fun x67 =>
 kNilc x0 fun x68 =>
 kFA 0 x68 fun x69 =>
 kL1 x69 h32 fun x72 =>
 kLA 131 x8 h32 fun x75 =>
 kCall X 14 [x67, x72, x75] h32 fun x76 h77 =>
 kAp 131 1400 x56 x76 h77 fun x78 h79 =>
 kNilc x0 fun x80 =>
 kFA 7 x80 fun x81 =>
 kS1 x81 x78 h79 fun _ h83 =>
 dokS [h32, h77, h79, h83] ((fun h54 => kL1 x53 h54 fun x55 =>
 some (x55, h54), x56, 0, 1) :: []) (some (.tup [], h83)))))
theorem p18_ok (k : Nat) : p18 k = funcS k 2 lit18 := by kernel_rfl
def p22 (_ : Nat) : CtxK → List V → TH → R := fun X => ap 1 (fun x0 h1 =>
 kNew (V.cellsR x0) h1 fun x2 h3 =>
 kLA 49 x2 h3 fun x4 =>
 kCall X 50 [x4] h3 fun x5 h6 =>
 kNot x5 fun x7 =>
 brS x7 (some (.tup [(qw 0), (qw 0)], h6)) (kLA 49 x2 h6 fun x8 =>
 kCall X 51 [x8] h6 fun x9 h10 =>
 kNew zr3 h10 fun x11 h12 =>
 kSA 8 x11 x9 h12 fun _ h14 =>
 kFA 0 x11 fun x15 =>
 kL1 x15 h14 fun x18 =>
 kFA 1 x11 fun x19 =>
 kL1 x19 h14 fun x22 =>
 dokS [h14] [] (some (.tup [x18, x22], h14))))
theorem p22_ok (k : Nat) : p22 k = funcS k 1 lit22 := by kernel_rfl
def p40 (k : Nat) : CtxK → List V → TH → R := fun _ => ap 2 (fun x0 x1 h2 =>
 kLen x0 fun x3 =>
 kLen x1 fun x4 =>
 kEqI true x3 x4 fun x5 =>
 brS x5 (some (qf, h2)) (kLen x0 fun x6 =>
 lp (α := Cur 26) (zN 26) (fun n34 x7 x8 _ _ _ _ _ _ _ _ _ _ x19 x20 _ _ _ _ _ _ _ _ _ _ _ _ h33 =>
 kBin .lss x20 x19 fun x35 =>
 brS x35 (kIS 8 x7 x20 fun x36 =>
 kLA 8 x36 h33 fun x39 =>
 kIS 8 x8 x20 fun x40 =>
 kLA 8 x40 h33 fun x43 =>
 kEq' true (.agg [.int, .int, .int, .int, .int, .int, .int, .str]) x39 x43 fun x44 =>
 dokS [h33] [] (brS x44 (some (qf, h33)) (kBin .add x20 (qi 1) fun x45 =>
 n34 x7 x8 u u u u u u u u u u x19 x45 u u u u u u u u u u u u h33))) (some (qt, h33))) k x0 x1 u u u u u u u u u u x6 (qi 0) u u u u u u u u u u u u h2))
theorem p40_ok (k : Nat) : p40 k = funcS k 2 lit40 := by kernel_rfl
def p42 (_ : Nat) : CtxK → List V → TH → R := fun X => ap 2 (fun x0 x1 h2 =>
 kNew (V.cellsR x1) h2 fun x3 h4 =>
 kCall X 34 [x0] h4 fun x5 h6 =>
 kCall X 85 [x5, (.fn 86 [] [x3])] h6 fun x7 h8 =>
 some (x7, h8))
theorem p42_ok (k : Nat) : p42 k = funcS k 2 lit42 := by kernel_rfl
def p45 (_ : Nat) : CtxK → List V → TH → R := fun X => ap 2 (fun x0 x1 h2 =>
 kNew zr1 h2 fun x3 h4 =>
 kCall X 89 [x0, (qb 9), x1] h4 fun x5 h6 =>
 kNew zr1 h6 fun x7 h8 =>
 kSA 131 x7 x5 h8 fun _ h10 =>
 kNilc x0 fun x11 =>
 kFA 64 x11 fun x12 =>
 kIA 5 49 x12 x1 fun x13 =>
 kLA 49 x13 h10 fun x16 =>
 kNilc x0 fun x17 =>
 kFA 3 x17 fun x18 =>
 kLA 49 x18 h10 fun x21 =>
 kCall X 90 [x16, x21] h10 fun x22 h23 =>
 kFA 62 x7 fun x24 =>
 kSA 52 x24 x22 h23 fun _ h26 =>
 dokS [h10, h23, h26] [] (kLA 131 x7 h26 fun x27 =>
 kSA 131 x3 x27 h26 fun _ h29 =>
 rsS [.cell 4 true 131] [x0, x1, u, u, x3, x7, x0, x1, x5, x0, x1, x11, x12, x13, x16, x0, x17, x18, x21, x22, x24, x27] h29))
theorem p45_ok (k : Nat) : p45 k = funcS k 2 lit45 := by kernel_rfl
def p55 (_ : Nat) : CtxK → List V → TH → R := fun _ => ap 1 (fun x0 h1 =>
 kNilc x0 fun x2 =>
 kFA 53 x2 fun x3 =>
 kL1 x3 h1 fun x4 =>
 kLen x4 fun x5 =>
 kEqI false x5 (qi 0) fun x6 =>
 brS x6 (some ((.int .i64 (-1)), h1)) (kNilc x0 fun x7 =>
 kFA 53 x7 fun x8 =>
 kL1 x8 h1 fun x9 =>
 kIS 1 x9 (qi 0) fun x10 =>
 kL1 x10 h1 fun x11 =>
 some (x11, h1)))
theorem p55_ok (k : Nat) : p55 k = funcS k 1 lit55 := by kernel_rfl
def p58 (_ : Nat) : CtxK → List V → TH → R := fun _ => ap 1 (fun x0 h1 =>
 kNilc x0 fun x2 =>
 kFA 2 x2 fun x3 =>
 kL1 x3 h1 fun x4 =>
 some (x4, h1))
theorem p58_ok (k : Nat) : p58 k = funcS k 1 lit58 := by kernel_rfl
def p62 (k : Nat) : CtxK → List V → TH → R := fun _ => ap 1 (fun x0 h1 =>
 kLen x0 fun x2 =>
 kBin .lss x2 (qi 2) fun x3 =>
 brS x3 (some (x0, h1)) (lp (α := Cur 61) (zN 61) (fun n66 x4 _ _ x7 _ _ _ _ _ _ _ _ _ _ _ _ _ _ _ _ _ _ _ _ _ _ _ _ _ _ _ _ _ _ _ _ _ _ _ _ _ _ _ _ _ _ _ _ _ _ _ _ _ _ _ _ _ _ _ _ _ h65 =>
 kLen x4 fun x67 =>
 kBin .lss x7 x67 fun x68 =>
 brS x68 (kIS 1 x4 x7 fun x69 =>
 kL1 x69 h65 fun x72 =>
 kBin .sub x7 (qi 1) fun x73 =>
 kIS 1 x4 x73 fun x74 =>
 kL1 x74 h65 fun x77 =>
 kEqI false x72 x77 fun x78 =>
 dokS [h65] [] (brS x78 (kP (sliceE 1 x4 (some x7) none) fun x79 =>
 lp (α := Cur 61) (zN 61) (fun n142 x80 _ _ x83 x84 x85 _ _ _ _ _ _ _ _ _ _ _ _ _ _ _ _ _ _ _ _ _ _ _ _ _ _ _ _ _ _ _ _ _ _ _ _ _ _ _ _ _ _ _ _ _ _ _ _ _ _ _ _ _ _ _ h141 =>
 kLen x84 fun x143 =>
 kBin .lss x85 x143 fun x144 =>
 brS x144 (kIS 1 x84 x85 fun x145 =>
 kL1 x145 h141 fun x148 =>
 kBin .sub x85 (qi 1) fun x149 =>
 kIS 1 x84 x149 fun x150 =>
 kL1 x150 h141 fun x153 =>
 kEqI true x148 x153 fun x154 =>
 dokS [h141] [] (jc (α := Cur 61) (fun x155 _ _ x158 x159 x160 _ _ _ _ _ _ _ _ _ _ _ _ _ _ _ _ _ _ _ _ _ _ _ _ _ _ _ _ _ _ _ _ _ _ _ _ _ _ _ _ _ _ _ _ _ _ _ _ _ _ _ _ _ _ _ h216 =>
 kBin .add x160 (qi 1) fun x218 =>
 n142 x155 u u x158 x159 x218 u u u u u u u u u u u u u u u u u u u u u u u u u u u u u u u u u u u u u u u u u u u u u u u u u u u u u u u h216) fun j217 =>
 brS x154 (kIS 1 x84 x85 fun x219 =>
 kL1 x219 h141 fun x220 =>
 kIS 1 x80 x83 fun x221 =>
 kS1 x221 x220 h141 fun _ h223 =>
 kBin .add x83 (qi 1) fun x224 =>
 j217 x80 u u x224 x84 x85 u u u u u u u u u u u u u u u u u u u u u u u u u u u u u u u u u u u u u u u u u u u u u u u u u u u u u u u h223) (j217 x80 u u x83 x84 x85 u u u u u u u u u u u u u u u u u u u u u u u u u u u u u u u u u u u u u u u u u u u u u u u u u u u u u u u h141))) (kP (sliceE 1 x80 (some x83) none) fun x225 =>
 kCl [(qi 0)] 1 x225 h141 fun _ h227 =>
 kP (sliceE 1 x80 none (some x83)) fun x228 =>
 some (x228, h227))) k x4 u u x7 x79 (qi 1) u u u u u u u u u u u u u u u u u u u u u u u u u u u u u u u u u u u u u u u u u u u u u u u u u u u u u u u h65) (kBin .add x7 (qi 1) fun x229 =>
 n66 x4 u u x229 u u u u u u u u u u u u u u u u u u u u u u u u u u u u u u u u u u u u u u u u u u u u u u u u u u u u u u u u u h65))) (some (x4, h65))) k x0 u u (qi 1) u u u u u u u u u u u u u u u u u u u u u u u u u u u u u u u u u u u u u u u u u u u u u u u u u u u u u u u u u h1))
theorem p62_ok (k : Nat) : p62 k = funcS k 1 lit62 := by kernel_rfl
def p66 (_ : Nat) : CtxK → List V → TH → R := fun X => ap 3 (fun x0 _ x2 h3 =>
 kNew (V.cellsR x2) h3 fun x4 h5 =>
 kLA 131 x4 h5 fun x8 =>
 kCall X 108 [x0, (qi 3), x8] h5 fun x9 h10 =>
 kNot x9 fun x11 =>
 jc (α := JT) (fun x12 h13 =>
 jc (α := V → TH → PD → R) (fun x17 h18 d19 =>
 jc (α := JT) (fun x21 h22 =>
 jc (α := JT) (fun x24 h25 =>
 jc (α := JT) (fun x27 h28 =>
 kPick x11 qt x27 fun x30 =>
 dokS [h5, h22, h28] d19 (brS x30 (some (.nils, h28)) (kLA 131 x4 h28 fun x33 =>
 kNilc x0 fun x34 =>
 kFA 59 x34 fun x35 =>
 kCall X 104 [x33] h28 fun x36 h37 =>
 kIA 5 1 x35 x36 fun x38 =>
 kS1 x38 qt h37 fun _ h40 =>
 dokS [h28, h37, h40] [] (kNilc x0 fun x41 =>
 kFA 59 x41 fun x42 =>
 kLA 5 x42 h40 fun x45 =>
 kNilc x0 fun x46 =>
 kFA 53 x46 fun x47 =>
 kL1 x47 h40 fun x50 =>
 kCall X 110 [x45, x50] h40 fun x51 h52 =>
 dokS [h40, h52] [] (jc (α := Cur 36) (fun _ _ _ _ _ _ _ _ _ _ _ _ _ _ _ _ _ _ _ _ _ _ _ _ _ _ _ _ _ _ _ _ _ _ _ _ h89 =>
 some (.nils, h89)) fun j90 =>
 brS x51 (kNilc x0 fun x91 =>
 kFA 1 x91 fun x92 =>
 kS1 x92 (qi 4) h52 fun _ h94 =>
 j90 u u u u u u u u u u u u u u u u u u u u u u u u u u u u u u u u u u u u h94) (j90 u u u u u u u u u u u u u u u u u u u u u u u u u u u u u u u u u u u u h52)))))) fun j29 =>
 wtS x11 false (kEqI true x17 x24 fun x95 =>
 j29 x95 h25) (j29 u h25)) fun j26 =>
 wtS x11 false (kCall X 109 [x21] h22 fun x96 h97 =>
 j26 x96 h97) (j26 u h22)) fun j23 =>
 wtS x11 false (j23 x0 h18) (j23 u h18)) fun j20 =>
 wtS x11 false (kL1 x12 h13 fun x98 =>
 j20 x98 h13 ((fun h15 => kL1 x12 h15 fun x16 =>
 some (x16, h15), x98, 1, 2) :: [])) (j20 u h13 [])) fun j14 =>
 wtS x11 false (kFA 122 x4 fun x99 =>
 j14 x99 h10) (j14 u h10))
theorem p66_ok (k : Nat) : p66 k = funcS k 3 lit66 := by kernel_rfl
def p71 (_ : Nat) : CtxK → List V → TH → R := fun X => ap 3 (fun x0 _ x2 h3 =>
 kNew (V.cellsR x2) h3 fun x4 h5 =>
 kNilc x0 fun x6 =>
 kFA 1 x6 fun x7 =>
 kL1 x7 h5 fun x8 =>
 kEqI true x8 (qi 4) fun x9 =>
 brS x9 (some (.nils, h5)) (kFA 123 x4 fun x10 =>
 kLA 6 x10 h5 fun x11 =>
 kCall X 9 [x11] h5 fun x12 h13 =>
 brS x12 (kFA 123 x4 fun x14 =>
 kLA 6 x14 h13 fun x15 =>
 kCall X 114 [x0, x15] h13 fun x16 h17 =>
 some (x16, h17)) (kFA 123 x4 fun x18 =>
 kLA 6 x18 h13 fun x19 =>
 kCall X 115 [x0, x19] h13 fun x20 h21 =>
 some (x20, h21))))
theorem p71_ok (k : Nat) : p71 k = funcS k 3 lit71 := by kernel_rfl
def p72 (_ : Nat) : CtxK → List V → TH → R := fun X => ap 1 (fun x0 h1 =>
 kNew (V.cellsR x0) h1 fun x2 h3 =>
 kFA 1 x2 fun x4 =>
 kL1 x4 h3 fun x7 =>
 kFA 1 x2 fun x8 =>
 kL1 x8 h3 fun x11 =>
 kCall X 116 [x7] h3 fun x12 h13 =>
 jc (α := JT) (fun x14 h15 =>
 jc (α := V → TH → PD → R) (fun x19 h20 d21 =>
 jc (α := JT) (fun x23 h24 =>
 kPick x12 x23 qf fun x26 =>
 kCall X 117 [x11] h24 fun x27 h28 =>
 jc (α := JT) (fun x29 h30 =>
 jc (α := V → TH → PD → R) (fun x34 h35 d36 =>
 jc (α := JT) (fun x38 h39 =>
 kPick x27 x38 qf fun x41 =>
 dokS [h3, h20, h24, h35, h39] d36 (kFA 0 x2 fun x42 =>
 kL1 x42 h39 fun x43 =>
 kEqI false x43 (qb 1) fun x44 =>
 jc (α := Cur 97) (fun _ x46 _ x48 x49 _ _ _ _ _ _ _ _ _ _ _ _ _ _ _ _ _ x67 x68 _ _ _ _ _ _ _ _ _ _ _ _ _ _ _ _ _ _ _ _ _ _ _ _ _ _ _ _ _ _ _ _ _ _ _ _ _ _ _ _ _ _ _ _ _ _ _ _ _ _ _ _ _ _ _ _ _ _ _ _ _ _ _ _ _ _ _ _ _ _ _ _ _ h142 =>
 brS x68 (some (x48, h142)) (kEqI false x67 (qb 5) fun x144 =>
 brS x144 (jc (α := JT) (fun x145 h146 =>
 jc (α := JT) (fun x148 h149 =>
 jc (α := JT) (fun x151 h152 =>
 jc (α := JT) (fun x154 h155 =>
 jc (α := JT) (fun x157 h158 =>
 jc (α := JT) (fun x160 h161 =>
 jc (α := JT) (fun x163 h164 =>
 jc (α := JT) (fun x166 h167 =>
 kPick x48 qt x166 fun x169 =>
 some (x169, h167)) fun j168 =>
 wtS x48 false (kPick x154 x163 qf fun x170 =>
 j168 x170 h164) (j168 u h164)) fun j165 =>
 wtS x154 true (kCall X 117 [x160] h161 fun x171 h172 =>
 j165 x171 h172) (j165 u h161)) fun j162 =>
 wtS x154 true (kL1 x157 h158 fun x173 =>
 j162 x173 h158) (j162 u h158)) fun j159 =>
 wtS x154 true (kFA 2 x46 fun x174 =>
 j159 x174 h155) (j159 u h155)) fun j156 =>
 wtS x48 false (j156 x151 h152) (j156 u h152)) fun j153 =>
 wtS x48 false (kCall X 116 [x148] h149 fun x175 h176 =>
 j153 x175 h176) (j153 u h149)) fun j150 =>
 wtS x48 false (kL1 x145 h146 fun x177 =>
 j150 x177 h146) (j150 u h146)) fun j147 =>
 wtS x48 false (kFA 1 x46 fun x178 =>
 j147 x178 h142) (j147 u h142)) (kEqI false x67 (qb 6) fun x179 =>
 brS x179 (jc (α := JT) (fun x180 h181 =>
 jc (α := JT) (fun x183 h184 =>
 jc (α := JT) (fun x186 h187 =>
 jc (α := JT) (fun x189 h190 =>
 jc (α := JT) (fun x192 h193 =>
 jc (α := JT) (fun x195 h196 =>
 jc (α := JT) (fun x198 h199 =>
 jc (α := JT) (fun x201 h202 =>
 kPick x48 qt x201 fun x204 =>
 some (x204, h202)) fun j203 =>
 wtS x48 false (kPick x189 x198 qf fun x205 =>
 j203 x205 h199) (j203 u h199)) fun j200 =>
 wtS x189 true (kCall X 116 [x195] h196 fun x206 h207 =>
 j200 x206 h207) (j200 u h196)) fun j197 =>
 wtS x189 true (kL1 x192 h193 fun x208 =>
 j197 x208 h193) (j197 u h193)) fun j194 =>
 wtS x189 true (kFA 2 x46 fun x209 =>
 j194 x209 h190) (j194 u h190)) fun j191 =>
 wtS x48 false (j191 x186 h187) (j191 u h187)) fun j188 =>
 wtS x48 false (kCall X 117 [x183] h184 fun x210 h211 =>
 j188 x210 h211) (j188 u h184)) fun j185 =>
 wtS x48 false (kL1 x180 h181 fun x212 =>
 j185 x212 h181) (j185 u h181)) fun j182 =>
 wtS x48 false (kFA 1 x46 fun x213 =>
 j182 x213 h142) (j182 u h142)) (kEqI false x67 (qb 17) fun x214 =>
 brS x214 (kFA 1 x46 fun x215 =>
 kL1 x215 h142 fun x216 =>
 kCall X 117 [x216] h142 fun x217 h218 =>
 jc (α := JT) (fun x219 h220 =>
 jc (α := JT) (fun x222 h223 =>
 jc (α := JT) (fun x225 h226 =>
 kPick x217 x225 qf fun x228 =>
 some (x228, h226)) fun j227 =>
 wtS x217 true (kCall X 116 [x222] h223 fun x229 h230 =>
 j227 x229 h230) (j227 u h223)) fun j224 =>
 wtS x217 true (kL1 x219 h220 fun x231 =>
 j224 x231 h220) (j224 u h220)) fun j221 =>
 wtS x217 true (kFA 2 x46 fun x232 =>
 j221 x232 h218) (j221 u h218)) (kEqI false x67 (qb 15) fun x233 =>
 brS x233 (kFA 1 x46 fun x234 =>
 kL1 x234 h142 fun x235 =>
 kCall X 118 [x235] h142 fun x236 h237 =>
 jc (α := JT) (fun x238 h239 =>
 jc (α := JT) (fun x241 h242 =>
 jc (α := JT) (fun x244 h245 =>
 kPick x236 x244 qf fun x247 =>
 some (x247, h245)) fun j246 =>
 wtS x236 true (kCall X 117 [x241] h242 fun x248 h249 =>
 j246 x248 h249) (j246 u h242)) fun j243 =>
 wtS x236 true (kL1 x238 h239 fun x250 =>
 j243 x250 h239) (j243 u h239)) fun j240 =>
 wtS x236 true (kFA 2 x46 fun x251 =>
 j240 x251 h237) (j240 u h237)) (kEqI false x67 (qb 16) fun x252 =>
 brS x252 (kFA 1 x46 fun x253 =>
 kL1 x253 h142 fun x254 =>
 kCall X 117 [x254] h142 fun x255 h256 =>
 jc (α := JT) (fun x257 h258 =>
 jc (α := JT) (fun x260 h261 =>
 jc (α := JT) (fun x263 h264 =>
 kPick x255 x263 qf fun x266 =>
 some (x266, h264)) fun j265 =>
 wtS x255 true (kCall X 118 [x260] h261 fun x267 h268 =>
 j265 x267 h268) (j265 u h261)) fun j262 =>
 wtS x255 true (kL1 x257 h258 fun x269 =>
 j262 x269 h258) (j262 u h258)) fun j259 =>
 wtS x255 true (kFA 2 x46 fun x270 =>
 j259 x270 h256) (j259 u h256)) (kFA 0 x46 fun x271 =>
 kL1 x271 h142 fun x272 =>
 kBin .geq x272 (qb 7) fun x273 =>
 jc (α := JT) (fun x274 h275 =>
 jc (α := JT) (fun x277 h278 =>
 jc (α := JT) (fun x280 h281 =>
 kPick x273 x280 qf fun x283 =>
 jc (α := JT) (fun x284 h285 =>
 kPick x283 x284 qf fun x287 =>
 some (x287, h285)) fun j286 =>
 wtS x283 true (j286 x49 h281) (j286 u h281)) fun j282 =>
 wtS x273 true (kBin .leq x277 (qb 14) fun x288 =>
 j282 x288 h278) (j282 u h278)) fun j279 =>
 wtS x273 true (kL1 x274 h275 fun x289 =>
 j279 x289 h275) (j279 u h275)) fun j276 =>
 wtS x273 true (kFA 0 x46 fun x290 =>
 j276 x290 h142) (j276 u h142)))))))) fun j143 =>
 brS x44 (j143 u x2 u x26 x41 u u u u u u u u u u u u u u u u u x43 x44 u u u u u u u u u u u u u u u u u u u u u u u u u u u u u u u u u u u u u u u u u u u u u u u u u u u u u u u u u u u u u u u u u u u u u u u u u h39) (kEqI false x43 (qb 2) fun x291 =>
 jc (α := Cur 97) (fun _ x293 _ x295 x296 _ _ _ _ _ _ _ _ _ _ _ _ _ _ _ _ _ x314 x315 _ _ _ _ _ _ _ _ _ _ _ _ _ _ _ _ _ _ _ _ _ _ _ _ _ _ _ _ _ _ _ _ _ _ _ _ _ _ _ _ _ _ _ _ _ _ _ _ _ _ _ _ _ _ _ _ _ _ _ _ _ _ _ _ _ _ _ _ _ _ _ _ _ h389 =>
 j143 u x293 u x295 x296 u u u u u u u u u u u u u u u u u x314 x315 u u u u u u u u u u u u u u u u u u u u u u u u u u u u u u u u u u u u u u u u u u u u u u u u u u u u u u u u u u u u u u u u u u u u u u u u u h389) fun j390 =>
 brS x291 (j390 u x2 u x26 x41 u u u u u u u u u u u u u u u u u x43 x291 u u u u u u u u u u u u u u u u u u u u u u u u u u u u u u u u u u u u u u u u u u u u u u u u u u u u u u u u u u u u u u u u u u u u u u u u u h39) (kEqI false x43 (qb 3) fun x391 =>
 jc (α := Cur 97) (fun _ x393 _ x395 x396 _ _ _ _ _ _ _ _ _ _ _ _ _ _ _ _ _ x414 x415 _ _ _ _ _ _ _ _ _ _ _ _ _ _ _ _ _ _ _ _ _ _ _ _ _ _ _ _ _ _ _ _ _ _ _ _ _ _ _ _ _ _ _ _ _ _ _ _ _ _ _ _ _ _ _ _ _ _ _ _ _ _ _ _ _ _ _ _ _ _ _ _ _ h489 =>
 j390 u x393 u x395 x396 u u u u u u u u u u u u u u u u u x414 x415 u u u u u u u u u u u u u u u u u u u u u u u u u u u u u u u u u u u u u u u u u u u u u u u u u u u u u u u u u u u u u u u u u u u u u u u u u h489) fun j490 =>
 brS x391 (j490 u x2 u x26 x41 u u u u u u u u u u u u u u u u u x43 x391 u u u u u u u u u u u u u u u u u u u u u u u u u u u u u u u u u u u u u u u u u u u u u u u u u u u u u u u u u u u u u u u u u u u u u u u u u h39) (kEqI false x43 (qb 4) fun x491 =>
 jc (α := Cur 97) (fun _ x493 _ x495 x496 _ _ _ _ _ _ _ _ _ _ _ _ _ _ _ _ _ x514 x515 _ _ _ _ _ _ _ _ _ _ _ _ _ _ _ _ _ _ _ _ _ _ _ _ _ _ _ _ _ _ _ _ _ _ _ _ _ _ _ _ _ _ _ _ _ _ _ _ _ _ _ _ _ _ _ _ _ _ _ _ _ _ _ _ _ _ _ _ _ _ _ _ _ h589 =>
 j490 u x493 u x495 x496 u u u u u u u u u u u u u u u u u x514 x515 u u u u u u u u u u u u u u u u u u u u u u u u u u u u u u u u u u u u u u u u u u u u u u u u u u u u u u u u u u u u u u u u u u u u u u u u u h589) fun j590 =>
 brS x491 (j590 u x2 u x26 x41 u u u u u u u u u u u u u u u u u x43 x491 u u u u u u u u u u u u u u u u u u u u u u u u u u u u u u u u u u u u u u u u u u u u u u u u u u u u u u u u u u u u u u u u u u u u u u u u u h39) (kEqI false x43 (qb 18) fun x591 =>
 j590 u x2 u x26 x41 u u u u u u u u u u u u u u u u u x43 x591 u u u u u u u u u u u u u u u u u u u u u u u u u u u u u u u u u u u u u u u u u u u u u u u u u u u u u u u u u u u u u u u u u u u u u u u u u h39)))))) fun j40 =>
 wtS x27 true (kCall X 117 [x34] h35 fun x592 h593 =>
 j40 x592 h593) (j40 u h35)) fun j37 =>
 wtS x27 true (kL1 x29 h30 fun x594 =>
 j37 x594 h30 d21) (j37 u h30 d21)) fun j31 =>
 wtS x27 true (kFA 2 x2 fun x595 =>
 j31 x595 h28) (j31 u h28)) fun j25 =>
 wtS x12 true (kCall X 116 [x19] h20 fun x596 h597 =>
 j25 x596 h597) (j25 u h20)) fun j22 =>
 wtS x12 true (kL1 x14 h15 fun x598 =>
 j22 x598 h15 ((fun h9 => kL1 x8 h9 fun x10 =>
 some (x10, h9), x11, 0, 2) :: [])) (j22 u h15 ((fun h9 => kL1 x8 h9 fun x10 =>
 some (x10, h9), x11, 0, 2) :: []))) fun j16 =>
 wtS x12 true (kFA 2 x2 fun x599 =>
 j16 x599 h13) (j16 u h13))
theorem p72_ok (k : Nat) : p72 k = funcS k 1 lit72 := by kernel_rfl
def p73 (_ : Nat) : CtxK → List V → TH → R := fun X => ap 1 (fun x0 h1 =>
 kNew zr2 h1 fun x2 h3 =>
 kEqI false x0 (qb 1) fun x4 =>
 jc (α := Cur 32) (fun x5 x6 x7 x8 x9 x10 x11 x12 x13 x14 x15 x16 x17 x18 x19 x20 x21 x22 x23 x24 x25 x26 x27 x28 x29 x30 x31 x32 x33 x34 x35 x36 h37 =>
 brS x9 (kB zr2 [(0, 1, qt), (1, 1, qt)] fun x39 =>
 kSA 11 x7 x39 h37 fun _ h41 =>
 rsS [.cell 2 true 11] [x5, x6, x7, x8, x9, x10, x11, x12, x39, x14, x15, x16, x17, x18, x19, x20, x21, x22, x23, x24, x25, x26, x27, x28, x29, x30, x31, x32, x33, x34, x35, x36] h41) (kEqI false x8 (qb 2) fun x42 =>
 brS x42 (kB zr2 [(0, 1, qt), (1, 1, qt), (2, 1, qt), (3, 1, qt)] fun x43 =>
 kSA 11 x7 x43 h37 fun _ h45 =>
 rsS [.cell 2 true 11] [x5, x6, x7, x8, x9, x10, x11, x12, x13, x42, x42, x43, x17, x18, x19, x20, x21, x22, x23, x24, x25, x26, x27, x28, x29, x30, x31, x32, x33, x34, x35, x36] h45) (kEqI false x8 (qb 3) fun x46 =>
 brS x46 (kB zr2 [(0, 1, qt), (1, 1, qt), (3, 1, qt)] fun x47 =>
 kSA 11 x7 x47 h37 fun _ h49 =>
 rsS [.cell 2 true 11] [x5, x6, x7, x8, x9, x10, x11, x12, x13, x42, x42, x16, x46, x46, x47, x20, x21, x22, x23, x24, x25, x26, x27, x28, x29, x30, x31, x32, x33, x34, x35, x36] h49) (kEqI false x8 (qb 5) fun x50 =>
 brS x50 (kB zr2 [(0, 1, qt), (3, 1, qt)] fun x51 =>
 kSA 11 x7 x51 h37 fun _ h53 =>
 rsS [.cell 2 true 11] [x5, x6, x7, x8, x9, x10, x11, x12, x13, x42, x42, x16, x46, x46, x19, x50, x50, x51, x23, x24, x25, x26, x27, x28, x29, x30, x31, x32, x33, x34, x35, x36] h53) (kEqI false x8 (qb 6) fun x54 =>
 brS x54 (kB zr2 [(0, 1, qt)] fun x55 =>
 kSA 11 x7 x55 h37 fun _ h57 =>
 rsS [.cell 2 true 11] [x5, x6, x7, x8, x9, x10, x11, x12, x13, x42, x42, x16, x46, x46, x19, x50, x50, x22, x54, x54, x55, x26, x27, x28, x29, x30, x31, x32, x33, x34, x35, x36] h57) (kEqI false x8 (qb 17) fun x58 =>
 brS x58 (kB zr2 [(8, 1, qt)] fun x59 =>
 kSA 11 x7 x59 h37 fun _ h61 =>
 rsS [.cell 2 true 11] [x5, x6, x7, x8, x9, x10, x11, x12, x13, x42, x42, x16, x46, x46, x19, x50, x50, x22, x54, x54, x25, x58, x58, x59, x29, x30, x31, x32, x33, x34, x35, x36] h61) (kEqI false x8 (qb 15) fun x62 =>
 brS x62 (kB zr2 [(9, 1, qt)] fun x63 =>
 kSA 11 x7 x63 h37 fun _ h65 =>
 rsS [.cell 2 true 11] [x5, x6, x7, x8, x9, x10, x11, x12, x13, x42, x42, x16, x46, x46, x19, x50, x50, x22, x54, x54, x25, x58, x58, x28, x62, x62, x63, x32, x33, x34, x35, x36] h65) (kEqI false x8 (qb 16) fun x66 =>
 brS x66 (kB zr2 [(9, 1, qt), (10, 1, qt)] fun x67 =>
 kSA 11 x7 x67 h37 fun _ h69 =>
 rsS [.cell 2 true 11] [x5, x6, x7, x8, x9, x10, x11, x12, x13, x42, x42, x16, x46, x46, x19, x50, x50, x22, x54, x54, x25, x58, x58, x28, x62, x62, x31, x66, x66, x67, x35, x36] h69) (kCall X 119 [x5] h37 fun x70 h71 =>
 kSA 11 x7 x70 h71 fun _ h73 =>
 rsS [.cell 2 true 11] [x5, x6, x7, x8, x9, x10, x11, x12, x13, x42, x42, x16, x46, x46, x19, x50, x50, x22, x54, x54, x25, x58, x58, x28, x62, x62, x31, x66, x66, x34, x5, x70] h73))))))))) fun j38 =>
 brS x4 (j38 x0 u x2 x0 x4 u u u u u u u u u u u u u u u u u u u u u u u u u u u h3) (kEqI false x0 (qb 4) fun x74 =>
 jc (α := Cur 32) (fun x75 _ x77 x78 x79 _ _ _ _ _ _ _ _ _ _ _ _ _ _ _ _ _ _ _ _ _ _ _ _ _ _ _ h107 =>
 j38 x75 u x77 x78 x79 u u u u u u u u u u u u u u u u u u u u u u u u u u u h107) fun j108 =>
 brS x74 (j108 x0 u x2 x0 x74 u u u u u u u u u u u u u u u u u u u u u u u u u u u h3) (kEqI false x0 (qb 18) fun x109 =>
 j108 x0 u x2 x0 x109 u u u u u u u u u u u u u u u u u u u u u u u u u u u h3)))
theorem p73_ok (k : Nat) : p73 k = funcS k 1 lit73 := by kernel_rfl
def p85 (k : Nat) : CtxK → List V → TH → R := fun X => ap 2 (fun x0 x1 h2 =>
 kCall X 126 [x0, x1] h2 fun x3 h4 =>
 kEqI false x3 (.int .i64 (-1)) fun x5 =>
 brS x5 (some (x0, h4)) (kBin .add x3 (qi 1) fun x6 =>
 lp (α := Cur 42) (zN 42) (fun n50 x7 x8 _ _ _ x12 x13 _ _ _ _ _ _ _ _ _ _ _ _ _ _ _ _ _ _ _ _ _ _ _ _ _ _ _ _ _ _ _ _ _ _ _ h49 =>
 kLen x7 fun x51 =>
 kBin .lss x13 x51 fun x52 =>
 brS x52 (kIS 1 x7 x13 fun x53 =>
 kL1 x53 h49 fun x54 =>
 kCv X x8 [x54] h49 fun x55 h56 =>
 kNot x55 fun x57 =>
 jc (α := Cur 42) (fun x58 x59 _ _ _ x63 x64 _ _ _ _ _ _ _ _ _ _ _ _ _ _ _ _ _ _ _ _ _ _ _ _ _ _ _ _ _ _ _ _ _ _ _ h100 =>
 kBin .add x64 (qi 1) fun x102 =>
 n50 x58 x59 u u u x63 x102 u u u u u u u u u u u u u u u u u u u u u u u u u u u u u u u u u u u h100) fun j101 =>
 brS x57 (kIS 1 x7 x12 fun x103 =>
 kS1 x103 x54 h56 fun _ h105 =>
 kBin .add x12 (qi 1) fun x106 =>
 j101 x7 x8 u u u x106 x13 u u u u u u u u u u u u u u u u u u u u u u u u u u u u u u u u u u u h105) (j101 x7 x8 u u u x12 x13 u u u u u u u u u u u u u u u u u u u u u u u u u u u u u u u u u u u h56)) (kP (sliceE 1 x7 (some x12) none) fun x107 =>
 kCl [(qi 0)] 1 x107 h49 fun _ h109 =>
 kP (sliceE 1 x7 none (some x12)) fun x110 =>
 some (x110, h109))) k x0 x1 u u u x3 x6 u u u u u u u u u u u u u u u u u u u u u u u u u u u u u u u u u u u h4))
theorem p85_ok (k : Nat) : p85 k = funcS k 2 lit85 := by kernel_rfl
def p91 (k : Nat) : CtxK → List V → TH → R := fun X => ap 1 (fun x0 h1 =>
 kNew (V.cellsR x0) h1 fun x2 h3 =>
 kFA 0 x2 fun x4 =>
 kLA 30 x4 h3 fun x5 =>
 lp (α := Cur 42) (zN 42) (fun n49 _ x7 _ _ _ _ _ _ x14 x15 _ _ _ _ _ _ _ _ _ _ _ _ _ _ _ _ _ _ _ _ _ _ _ _ _ _ _ _ _ _ _ _ h48 =>
 kBin .lss x15 (qi 6) fun x50 =>
 brS x50 (kP (indexE (some (6, 5, true)) x14 x15) fun x51 =>
 kNew [qf, qs, qs, qs, qs] h48 fun x52 h53 =>
 kSA 5 x52 x51 h53 fun _ h55 =>
 kLA 5 x52 h55 fun x56 =>
 kCall X 132 [x56] h55 fun x57 h58 =>
 kNot x57 fun x59 =>
 brS x59 (some (qf, h58)) (kBin .add x15 (qi 1) fun x60 =>
 n49 u x7 u u u u u u x14 x60 u u u u u u u u u u u u u u u u u u u u u u u u u u u u u u u u h58)) (kFA 30 x7 fun x61 =>
 kLA 9 x61 h48 fun x62 =>
 lp (α := Cur 42) (zN 42) (fun n106 _ _ _ _ _ _ _ _ _ _ _ _ _ _ _ _ _ x80 x81 _ _ _ _ _ _ _ _ _ _ _ _ _ _ _ _ _ _ _ _ _ _ _ h105 =>
 kBin .lss x81 (qi 3) fun x107 =>
 brS x107 (kP (indexE (some (3, 3, true)) x80 x81) fun x108 =>
 kNew [(qw 0), (qb 0), qs] h105 fun x109 h110 =>
 kSA 3 x109 x108 h110 fun _ h112 =>
 kFA 1 x109 fun x113 =>
 kFA 1 x113 fun x114 =>
 kL1 x114 h112 fun x115 =>
 kEq' true (.leaf .str) x115 qs fun x116 =>
 jc (α := JT) (fun x117 h118 =>
 jc (α := JT) (fun x120 h121 =>
 jc (α := JT) (fun x123 h124 =>
 jc (α := JT) (fun x126 h127 =>
 kPick x116 qt x126 fun x129 =>
 jc (α := JT) (fun x130 h131 =>
 jc (α := JT) (fun x133 h134 =>
 jc (α := JT) (fun x136 h137 =>
 jc (α := JT) (fun x139 h140 =>
 jc (α := JT) (fun x142 h143 =>
 jc (α := JT) (fun x145 h146 =>
 jc (α := JT) (fun x148 h149 =>
 jc (α := JT) (fun x151 h152 =>
 kPick x129 qt x151 fun x154 =>
 brS x154 (some (qf, h152)) (kBin .add x81 (qi 1) fun x155 =>
 n106 u u u u u u u u u u u u u u u u u x80 x155 u u u u u u u u u u u u u u u u u u u u u u u h152)) fun j153 =>
 wtS x129 false (kPick x139 x148 qf fun x156 =>
 j153 x156 h149) (j153 u h149)) fun j150 =>
 wtS x139 true (kEq' true (.agg [.int, .int, .str]) x142 x145 fun x157 =>
 j150 x157 h146) (j150 u h146)) fun j147 =>
 wtS x139 true (kB [(qw 0), (qb 0), qs] [] fun x158 =>
 j147 x158 h143) (j147 u h143)) fun j144 =>
 wtS x139 true (kLA 3 x109 h140 fun x159 =>
 j144 x159 h140) (j144 u h140)) fun j141 =>
 wtS x129 false (j141 x136 h137) (j141 u h137)) fun j138 =>
 wtS x129 false (kEqI false x133 (qw 0) fun x160 =>
 j138 x160 h134) (j138 u h134)) fun j135 =>
 wtS x129 false (kL1 x130 h131 fun x161 =>
 j135 x161 h131) (j135 u h131)) fun j132 =>
 wtS x129 false (kFA 0 x109 fun x162 =>
 j132 x162 h127) (j132 u h127)) fun j128 =>
 wtS x116 false (kBin .gtr x123 (qb 3) fun x163 =>
 j128 x163 h124) (j128 u h124)) fun j125 =>
 wtS x116 false (kL1 x120 h121 fun x164 =>
 j125 x164 h121) (j125 u h121)) fun j122 =>
 wtS x116 false (kFA 0 x117 fun x165 =>
 j122 x165 h118) (j122 u h118)) fun j119 =>
 wtS x116 false (kFA 1 x109 fun x166 =>
 j119 x166 h112) (j119 u h112)) (some (qt, h105))) k u u u u u u u u u u u u u u u u u x62 (qi 0) u u u u u u u u u u u u u u u u u u u u u u u h48)) k u x2 u u u u u u x5 (qi 0) u u u u u u u u u u u u u u u u u u u u u u u u u u u u u u u u h3)
theorem p91_ok (k : Nat) : p91 k = funcS k 1 lit91 := by kernel_rfl
def p98 (k : Nat) : CtxK → List V → TH → R := fun X => ap 2 (fun x0 x1 h2 =>
 kLen x0 fun x3 =>
 kLen x1 fun x4 =>
 kEqI true x3 x4 fun x5 =>
 jc (α := JT) (fun x6 h7 =>
 jc (α := JT) (fun x9 h10 =>
 kPick x5 qt x9 fun x12 =>
 brS x12 (some ((.int .i64 (-1)), h10)) (kNew [(qi 0), (qw 0), (qw 0), (qw 0)] h10 fun x13 h14 =>
 kLen x1 fun x15 =>
 lp (α := Cur 53) (zN 53) (fun n70 x16 _ _ _ _ x21 x22 _ _ _ _ _ _ _ _ _ _ _ _ _ _ x37 x38 x39 _ _ _ _ _ _ _ _ _ _ _ _ _ _ _ _ _ _ _ _ _ _ _ _ _ _ _ _ _ h69 =>
 kBin .lss x39 x38 fun x71 =>
 brS x71 (kIS 49 x37 x39 fun x72 =>
 kLA 49 x72 h69 fun x73 =>
 kNew zr0 h69 fun x74 h75 =>
 kSA 49 x74 x73 h75 fun _ h77 =>
 kLA 49 x74 h77 fun x78 =>
 kCall X 22 [x78] h77 fun x79 h80 =>
 kExt x79 0 fun x81 =>
 kExt x79 1 fun x82 =>
 kIS 1 x16 x39 fun x83 =>
 kL1 x83 h80 fun x86 =>
 kFA 0 x74 fun x87 =>
 kL1 x87 h80 fun x90 =>
 kB [(qi 0), (qw 0), (qw 0), (qw 0)] [(0, 1, x86), (1, 1, x90), (2, 1, x81), (3, 1, x82)] fun x91 =>
 kNew [(qi 0), (qw 0), (qw 0), (qw 0)] h80 fun x92 h93 =>
 kSA 4 x92 x91 h93 fun _ h95 =>
 dokS [h93, h95] [] (kBin .lss x21 (qi 0) fun x96 =>
 jc (α := JT) (fun x97 h98 =>
 jc (α := JT) (fun x100 h101 =>
 jc (α := JT) (fun x103 h104 =>
 kPick x96 qt x103 fun x106 =>
 jc (α := Cur 53) (fun x107 _ _ _ _ x112 x113 _ _ _ _ _ _ _ _ _ _ _ _ _ _ x128 x129 x130 _ _ _ _ _ _ _ _ _ _ _ _ _ _ _ _ _ _ _ _ _ _ _ _ _ _ _ _ _ h160 =>
 kBin .add x130 (qi 1) fun x162 =>
 n70 x107 u u u u x112 x113 u u u u u u u u u u u u u u x128 x129 x162 u u u u u u u u u u u u u u u u u u u u u u u u u u u u u h160) fun j161 =>
 brS x106 (kLA 4 x92 h104 fun x165 =>
 kSA 4 x22 x165 h104 fun _ h167 =>
 dokS [h104, h167] [] (j161 x16 u u u u x39 x22 u u u u u u u u u u u u u u x37 x38 x39 u u u u u u u u u u u u u u u u u u u u u u u u u u u u u h167)) (j161 x16 u u u u x21 x22 u u u u u u u u u u u u u u x37 x38 x39 u u u u u u u u u u u u u u u u u u u u u u u u u u u u u h104)) fun j105 =>
 wtS x96 false (kCall X 140 [x97, x100] h101 fun x168 h169 =>
 j105 x168 h169) (j105 u h101)) fun j102 =>
 wtS x96 false (kLA 4 x22 h98 fun x170 =>
 j102 x170 h98) (j102 u h98)) fun j99 =>
 wtS x96 false (kLA 4 x92 h95 fun x171 =>
 j99 x171 h95) (j99 u h95))) (some (x21, h69))) k x0 u u u u (.int .i64 (-1)) x13 u u u u u u u u u u u u u u x1 x15 (qi 0) u u u u u u u u u u u u u u u u u u u u u u u u u u u u u h14)) fun j11 =>
 wtS x5 false (kCall X 138 [x6, (.fn 139 [] [])] h7 fun x172 h173 =>
 j11 x172 h173) (j11 u h7)) fun j8 =>
 wtS x5 false (j8 x1 h2) (j8 u h2))
theorem p98_ok (k : Nat) : p98 k = funcS k 2 lit98 := by kernel_rfl
def p102 (k : Nat) : CtxK → List V → TH → R := fun X => ap 4 (fun x0 x1 x2 x3 h4 =>
 lp (α := Cur 134) (zN 134) (fun n140 x5 x6 x7 x8 _ _ _ _ x13 x14 _ _ _ _ _ _ _ _ _ _ _ _ _ _ _ _ _ _ _ _ _ _ _ _ _ _ _ _ _ _ _ _ _ _ _ _ _ _ _ _ _ _ _ _ _ _ _ _ _ _ _ _ _ _ _ _ _ _ _ _ _ _ _ _ _ _ _ _ _ _ _ _ _ _ _ _ _ _ _ _ _ _ _ _ _ _ _ _ _ _ _ _ _ _ _ _ _ _ _ _ _ _ _ _ _ _ _ _ _ _ _ _ _ _ _ _ _ _ _ _ _ _ _ _ h139 =>
 jc (α := Cur 134) (fun x141 x142 x143 x144 _ _ _ _ x149 x150 _ _ _ _ _ _ _ _ _ _ _ _ _ _ _ _ _ _ _ _ _ _ _ _ _ _ _ _ _ _ _ _ _ _ _ _ _ _ _ _ _ _ _ _ _ _ _ _ _ _ _ _ _ _ _ _ _ _ _ _ _ _ _ _ _ _ _ _ _ _ _ _ _ _ _ _ _ _ _ _ _ _ _ _ _ _ _ _ _ _ _ _ _ _ _ _ _ _ _ _ _ _ _ _ _ _ _ _ _ _ _ _ _ _ _ _ _ _ _ _ _ _ _ _ h275 =>
 n140 x141 x142 x143 x144 u u u u x149 x150 u u u u u u u u u u u u u u u u u u u u u u u u u u u u u u u u u u u u u u u u u u u u u u u u u u u u u u u u u u u u u u u u u u u u u u u u u u u u u u u u u u u u u u u u u u u u u u u u u u u u u u u u u u u u u u u u u u u u u u u u u u u u h275) fun j276 =>
 kBin .sub x7 x6 fun x277 =>
 kBin .leq x277 (qi 12) fun x278 =>
 brS x278 (kCall X 144 [x5, x6, x7] h139 fun _ h280 =>
 some (.tup [], h280)) (kEqI false x8 (qi 0) fun x281 =>
 brS x281 (kCall X 145 [x5, x6, x7] h139 fun _ h283 =>
 some (.tup [], h283)) (kNot x13 fun x284 =>
 jc (α := Cur 134) (fun x285 x286 x287 x288 _ _ _ _ x293 x294 x295 _ _ _ _ _ _ _ _ _ _ _ _ _ _ _ _ _ _ _ _ _ _ _ _ _ _ _ _ _ _ _ _ _ _ _ _ _ _ _ _ _ _ _ _ _ _ _ _ _ _ _ _ _ _ _ _ _ _ _ _ _ _ _ _ _ _ _ _ _ _ _ _ _ _ _ _ _ _ _ _ _ _ _ _ _ _ _ _ _ _ _ _ _ _ _ _ _ _ _ _ _ _ _ _ _ _ _ _ _ _ _ _ _ _ _ _ _ _ _ _ _ _ _ h419 =>
 kCall X 147 [x285, x286, x287] h419 fun x421 h422 =>
 kExt x421 0 fun x423 =>
 kExt x421 1 fun x424 =>
 kEqI false x424 (qi 2) fun x425 =>
 jc (α := Cur 134) (fun x426 x427 x428 x429 _ _ _ _ x434 x435 x436 x437 x438 _ _ _ _ _ _ _ _ _ _ _ _ _ _ _ _ _ _ _ _ _ _ _ _ _ _ _ _ _ _ _ _ _ _ _ _ _ _ _ _ _ _ _ _ _ _ _ _ _ _ _ _ _ _ _ _ _ _ _ _ _ _ _ _ _ _ _ _ _ _ _ _ _ _ _ _ _ _ _ _ _ _ _ _ _ _ _ _ _ _ _ _ _ _ _ _ _ _ _ _ _ _ _ _ _ _ _ _ _ _ _ _ _ _ _ _ _ _ _ _ _ h560 =>
 jc (α := JT) (fun x562 h563 =>
 kPick x434 x562 qf fun x565 =>
 jc (α := JT) (fun x566 h567 =>
 jc (α := JT) (fun x569 h570 =>
 kPick x565 x569 qf fun x572 =>
 jc (α := Cur 134) (fun x573 x574 x575 x576 _ _ _ _ x581 x582 x583 x584 _ _ _ _ _ _ _ _ _ _ _ _ _ _ _ _ _ _ _ _ _ _ _ _ _ _ _ _ _ _ _ _ _ _ _ _ _ _ _ _ _ _ _ _ _ _ _ _ _ _ _ _ _ _ _ _ _ _ _ _ _ _ _ _ _ _ _ _ _ _ _ _ _ _ _ _ _ _ _ _ _ _ _ _ _ _ _ _ _ _ _ _ _ _ _ _ _ _ _ _ _ _ _ _ _ _ _ _ _ _ _ _ _ _ _ _ _ _ _ _ _ _ h707 =>
 kBin .gtr x574 (qi 0) fun x709 =>
 jc (α := JT) (fun x710 h711 =>
 jc (α := JT) (fun x713 h714 =>
 jc (α := JT) (fun x716 h717 =>
 jc (α := JT) (fun x719 h720 =>
 jc (α := V → TH → PD → R) (fun x724 h725 d726 =>
 jc (α := JT) (fun x728 h729 =>
 jc (α := JT) (fun x731 h732 =>
 jc (α := JT) (fun x734 h735 =>
 jc (α := V → TH → PD → R) (fun x739 h740 d741 =>
 jc (α := JT) (fun x743 h744 =>
 jc (α := JT) (fun x746 h747 =>
 kPick x709 x746 qf fun x749 =>
 dokS [h740, h747] d741 (brS x749 (kCall X 151 [x573, x574, x575, x584] h747 fun x750 h751 =>
 j276 x573 x750 x575 x576 u u u u x581 x582 u u u u u u u u u u u u u u u u u u u u u u u u u u u u u u u u u u u u u u u u u u u u u u u u u u u u u u u u u u u u u u u u u u u u u u u u u u u u u u u u u u u u u u u u u u u u u u u u u u u u u u u u u u u u u u u u u u u u u u u u u u u u h751) (kCall X 152 [x573, x574, x575, x584] h747 fun x752 h753 =>
 kExt x752 0 fun x754 =>
 kExt x752 1 fun x755 =>
 kBin .sub x754 x574 fun x756 =>
 kBin .sub x575 x754 fun x757 =>
 kBin .quo x583 (qi 8) fun x758 =>
 kBin .lss x756 x757 fun x759 =>
 jc (α := Cur 134) (fun x760 x761 x762 x763 _ _ _ _ x768 x769 _ _ _ _ _ _ _ _ _ _ _ _ _ _ _ _ _ _ _ _ _ _ _ _ _ _ _ _ _ _ _ _ _ _ _ _ _ _ _ _ _ _ _ _ _ _ _ _ _ _ _ _ _ _ _ _ _ _ _ _ _ _ _ _ _ _ _ _ _ _ _ _ _ _ _ _ _ _ _ _ _ _ _ _ _ _ _ _ _ _ _ _ _ _ _ _ _ _ _ _ _ _ _ _ _ _ _ _ _ _ _ _ _ _ _ _ _ _ _ _ _ _ _ _ h894 =>
 j276 x760 x761 x762 x763 u u u u x768 x769 u u u u u u u u u u u u u u u u u u u u u u u u u u u u u u u u u u u u u u u u u u u u u u u u u u u u u u u u u u u u u u u u u u u u u u u u u u u u u u u u u u u u u u u u u u u u u u u u u u u u u u u u u u u u u u u u u u u u u u u u u u u u h894) fun j895 =>
 brS x759 (kBin .geq x756 x758 fun x896 =>
 kCall X 102 [x573, x574, x754, x576] h753 fun _ h898 =>
 kBin .add x754 (qi 1) fun x899 =>
 j895 x573 x899 x575 x576 u u u u x896 x755 u u u u u u u u u u u u u u u u u u u u u u u u u u u u u u u u u u u u u u u u u u u u u u u u u u u u u u u u u u u u u u u u u u u u u u u u u u u u u u u u u u u u u u u u u u u u u u u u u u u u u u u u u u u u u u u u u u u u u u u u u u u u h898) (kBin .geq x757 x758 fun x900 =>
 kBin .add x754 (qi 1) fun x901 =>
 kCall X 102 [x573, x901, x575, x576] h753 fun _ h903 =>
 j895 x573 x574 x754 x576 u u u u x900 x755 u u u u u u u u u u u u u u u u u u u u u u u u u u u u u u u u u u u u u u u u u u u u u u u u u u u u u u u u u u u u u u u u u u u u u u u u u u u u u u u u u u u u u u u u u u u u u u u u u u u u u u u u u u u u u u u u u u u u u u u u u u u u h903)))) fun j748 =>
 wtS x709 true (kNot x743 fun x904 =>
 j748 x904 h744) (j748 u h744)) fun j745 =>
 wtS x709 true (kCall X 150 [x724, x739] h740 fun x905 h906 =>
 j745 x905 h906) (j745 u h740)) fun j742 =>
 wtS x709 true (kL1 x734 h735 fun x907 =>
 j742 x907 h735 d726) (j742 u h735 d726)) fun j736 =>
 wtS x709 true (kIS 1 x728 x731 fun x908 =>
 j736 x908 h732) (j736 u h732)) fun j733 =>
 wtS x709 true (j733 x584 h729) (j733 u h729)) fun j730 =>
 wtS x709 true (j730 x573 h725) (j730 u h725)) fun j727 =>
 wtS x709 true (kL1 x719 h720 fun x909 =>
 j727 x909 h720 []) (j727 u h720 [])) fun j721 =>
 wtS x709 true (kIS 1 x710 x716 fun x910 =>
 j721 x910 h717) (j721 u h717)) fun j718 =>
 wtS x709 true (kBin .sub x713 (qi 1) fun x911 =>
 j718 x911 h714) (j718 u h714)) fun j715 =>
 wtS x709 true (j715 x574 h711) (j715 u h711)) fun j712 =>
 wtS x709 true (j712 x573 h707) (j712 u h707)) fun j708 =>
 brS x572 (kCall X 149 [x426, x427, x428] h570 fun x912 h913 =>
 brS x912 (some (.tup [], h913)) (j708 x426 x427 x428 x429 u u u u x434 x435 x436 x437 u u u u u u u u u u u u u u u u u u u u u u u u u u u u u u u u u u u u u u u u u u u u u u u u u u u u u u u u u u u u u u u u u u u u u u u u u u u u u u u u u u u u u u u u u u u u u u u u u u u u u u u u u u u u u u u u u u u u u u u u u u h913)) (j708 x426 x427 x428 x429 u u u u x434 x435 x436 x437 u u u u u u u u u u u u u u u u u u u u u u u u u u u u u u u u u u u u u u u u u u u u u u u u u u u u u u u u u u u u u u u u u u u u u u u u u u u u u u u u u u u u u u u u u u u u u u u u u u u u u u u u u u u u u u u u u u u u u u u u u u h570)) fun j571 =>
 wtS x565 true (kEqI false x566 (qi 1) fun x914 =>
 j571 x914 h567) (j571 u h567)) fun j568 =>
 wtS x565 true (j568 x438 h563) (j568 u h563)) fun j564 =>
 wtS x434 true (j564 x435 h560) (j564 u h560)) fun j561 =>
 brS x425 (kCall X 148 [x285, x286, x287] h422 fun _ h916 =>
 kBin .sub x287 (qi 1) fun x917 =>
 kBin .sub x423 x286 fun x918 =>
 kBin .sub x917 x918 fun x919 =>
 j561 x285 x286 x287 x288 u u u u x293 x294 x295 x919 (qi 1) u u u u u u u u u u u u u u u u u u u u u u u u u u u u u u u u u u u u u u u u u u u u u u u u u u u u u u u u u u u u u u u u u u u u u u u u u u u u u u u u u u u u u u u u u u u u u u u u u u u u u u u u u u u u u u u u u u u u u u u u u h916) (j561 x285 x286 x287 x288 u u u u x293 x294 x295 x423 x424 u u u u u u u u u u u u u u u u u u u u u u u u u u u u u u u u u u u u u u u u u u u u u u u u u u u u u u u u u u u u u u u u u u u u u u u u u u u u u u u u u u u u u u u u u u u u u u u u u u u u u u u u u u u u u u u u u u u u u u u u u h422)) fun j420 =>
 brS x284 (kCall X 146 [x5, x6, x7] h139 fun _ h921 =>
 kBin .sub x8 (qi 1) fun x922 =>
 j420 x5 x6 x7 x922 u u u u x13 x14 x277 u u u u u u u u u u u u u u u u u u u u u u u u u u u u u u u u u u u u u u u u u u u u u u u u u u u u u u u u u u u u u u u u u u u u u u u u u u u u u u u u u u u u u u u u u u u u u u u u u u u u u u u u u u u u u u u u u u u u u u u u u u u h921) (j420 x5 x6 x7 x8 u u u u x13 x14 x277 u u u u u u u u u u u u u u u u u u u u u u u u u u u u u u u u u u u u u u u u u u u u u u u u u u u u u u u u u u u u u u u u u u u u u u u u u u u u u u u u u u u u u u u u u u u u u u u u u u u u u u u u u u u u u u u u u u u u u u u u u u u h139)))) k x0 x1 x2 x3 u u u u qt qt u u u u u u u u u u u u u u u u u u u u u u u u u u u u u u u u u u u u u u u u u u u u u u u u u u u u u u u u u u u u u u u u u u u u u u u u u u u u u u u u u u u u u u u u u u u u u u u u u u u u u u u u u u u u u u u u u u u u u u u u u u u u h4)
theorem p102_ok (k : Nat) : p102 k = funcS k 4 lit102 := by kernel_rfl
def p104 (_ : Nat) : CtxK → List V → TH → R := fun _ => ap 1 (fun x0 h1 =>
 kNew (V.cellsR x0) h1 fun x2 h3 =>
 kFA 1 x2 fun x4 =>
 kL1 x4 h3 fun x5 =>
 kConv .i64 x5 fun x6 =>
 kBin .sub x6 (qi 10) fun x7 =>
 some (x7, h3))
theorem p104_ok (k : Nat) : p104 k = funcS k 1 lit104 := by kernel_rfl
def p116 (_ : Nat) : CtxK → List V → TH → R := fun _ => ap 1 (fun x0 h1 =>
 kBin .lss x0 (qb 3) fun x2 =>
 some (x2, h1))
theorem p116_ok (k : Nat) : p116 k = funcS k 1 lit116 := by kernel_rfl
def p127 (k : Nat) : CtxK → List V → TH → R := fun X => ap 2 (fun x0 x1 h2 =>
 kNew (V.cellsR x0) h2 fun x3 h4 =>
 kFA 1 x3 fun x5 =>
 kLA 15 x5 h4 fun x6 =>
 lp (α := Cur 23) (zN 23) (fun n31 _ x8 _ _ _ x12 _ _ _ x16 x17 _ _ _ _ _ _ _ _ _ _ _ _ h30 =>
 kBin .lss x17 (qi 5) fun x32 =>
 brS x32 (kP (indexE (some (5, 3, true)) x16 x17) fun x33 =>
 kNew [qf, (qi 0), (qb 0)] h30 fun x34 h35 =>
 kSA 3 x34 x33 h35 fun _ h37 =>
 kLA 3 x34 h37 fun x38 =>
 kCv X x8 [x38] h37 fun x39 h40 =>
 jc (α := Cur 23) (fun _ x42 _ _ _ x46 _ _ _ x50 x51 _ _ _ _ _ _ _ _ _ _ _ _ h64 =>
 kBin .add x51 (qi 1) fun x66 =>
 n31 u x42 u u u x46 u u u x50 x66 u u u u u u u u u u u u h64) fun j65 =>
 brS x39 (kBS 1 [(qi 0)] 1 [(0, 1, x17)] h40 fun x67 h68 =>
 kAp 1 8 x12 x67 h68 fun x69 h70 =>
 j65 u x8 u u u x69 u u u x16 x17 u u u u u u u u u u u u h70) (j65 u x8 u u u x12 u u u x16 x17 u u u u u u u u u u u u h40)) (some (x12, h30))) k u x1 u u u .nils u u u x6 (qi 0) u u u u u u u u u u u u h4)
theorem p127_ok (k : Nat) : p127 k = funcS k 2 lit127 := by kernel_rfl
def p136 (_ : Nat) : CtxK → List V → TH → R := fun X => ap 4 (fun x0 x1 x2 x3 h4 =>
 kCall X 171 [x0, x1] h4 fun x5 h6 =>
 kLen x5 fun x7 =>
 kEqI false x7 (qi 0) fun x8 =>
 brS x8 (some (.nils, h6)) (kB [.nils, (qw 0)] [(0, 1, x2), (1, 1, x3)] fun x9 =>
 kNew [.nilfn] h6 fun x10 h11 =>
 kS1 x10 (.fn 172 [x9] []) h11 fun _ h13 =>
 kLen x5 fun x14 =>
 kBin .sub x14 (qi 1) fun x15 =>
 kP (sliceE 2 x5 none (some x15)) fun x16 =>
 kCall X 173 [x16, (.fn 174 [] [x10])] h13 fun x17 h18 =>
 some (x17, h18)))
theorem p136_ok (k : Nat) : p136 k = funcS k 4 lit136 := by kernel_rfl
def p138 (_ : Nat) : CtxK → List V → TH → R := fun X => ap 2 (fun x0 x1 h2 =>
 kCall X 175 [x0, x1] h2 fun x3 h4 =>
 kBin .geq x3 (qi 0) fun x5 =>
 some (x5, h4))
theorem p138_ok (k : Nat) : p138 k = funcS k 2 lit138 := by kernel_rfl
def p139 (_ : Nat) : CtxK → List V → TH → R := fun X => ap 1 (fun x0 h1 =>
 kNew (V.cellsR x0) h1 fun x2 h3 =>
 kLA 49 x2 h3 fun x4 =>
 kCall X 50 [x4] h3 fun x5 h6 =>
 kNot x5 fun x7 =>
 some (x7, h6))
theorem p139_ok (k : Nat) : p139 k = funcS k 1 lit139 := by kernel_rfl
def p142 (k : Nat) : CtxK → List V → TH → R := fun X => ap 2 (fun x0 x1 h2 =>
 kNew (V.cellsR x0) h2 fun x3 h4 =>
 kLA 16 x3 h4 fun x5 =>
 kCall X 141 [x5] h4 fun x6 h7 =>
 kNot x6 fun x8 =>
 jc (α := JT) (fun x9 h10 =>
 jc (α := JT) (fun x12 h13 =>
 kPick x8 qt x12 fun x15 =>
 brS x15 (some (.nils, h13)) (kLA 16 x3 h13 fun x18 =>
 kLA 16 x3 h13 fun x21 =>
 kCall X 176 [x21] h13 fun x22 h23 =>
 kB [(qw 0), qf, (qi 0), (qb 0), qf, (qi 0), (qb 0), qf, (qi 0), (qb 0), qf, (qi 0), (qb 0), qf, (qi 0), (qb 0), (qb 0), .nils, .nils] [(0, 16, x18), (16, 1, x1), (17, 1, x22)] fun x24 =>
 kNew (V.cellsR x24) h23 fun x25 h26 =>
 dokS [h13, h26] ((fun h16 => kLA 16 x3 h16 fun x17 =>
 some (x17, h16), x18, 0, 1) :: []) (lp (α := Cur 39) (zN 39) (fun n67 _ _ _ _ _ x32 x33 _ _ _ _ _ _ _ _ _ _ _ _ _ _ _ _ _ _ _ _ _ _ _ _ _ _ _ _ _ _ _ _ h66 =>
 kBin .lss x33 (qi 3) fun x68 =>
 jc (α := JT) (fun x69 h70 =>
 jc (α := JT) (fun x72 h73 =>
 jc (α := JT) (fun x75 h76 =>
 jc (α := JT) (fun x78 h79 =>
 jc (α := JT) (fun x81 h82 =>
 jc (α := JT) (fun x84 h85 =>
 kPick x68 x84 qf fun x87 =>
 brS x87 (kCall X 177 [x32, x33] h85 fun _ h89 =>
 kBin .add x33 (qi 1) fun x90 =>
 n67 u u u u u x32 x90 u u u u u u u u u u u u u u u u u u u u u u u u u u u u u u u u h89) (kNilc x32 fun x91 =>
 kFA 18 x91 fun x92 =>
 kL1 x92 h85 fun x93 =>
 some (x93, h85))) fun j86 =>
 wtS x68 true (kBin .gtr x81 (qi 0) fun x94 =>
 j86 x94 h82) (j86 u h82)) fun j83 =>
 wtS x68 true (kLen x78 fun x95 =>
 j83 x95 h79) (j83 u h79)) fun j80 =>
 wtS x68 true (kL1 x75 h76 fun x96 =>
 j80 x96 h76) (j80 u h76)) fun j77 =>
 wtS x68 true (kFA 17 x72 fun x97 =>
 j77 x97 h73) (j77 u h73)) fun j74 =>
 wtS x68 true (kNilc x69 fun x98 =>
 j74 x98 h70) (j74 u h70)) fun j71 =>
 wtS x68 true (j71 x32 h66) (j71 u h66)) k u u u u u x25 (qi 0) u u u u u u u u u u u u u u u u u u u u u u u u u u u u u u u u h26))) fun j14 =>
 wtS x8 false (kBin .geq x9 (qb 4) fun x99 =>
 j14 x99 h10) (j14 u h10)) fun j11 =>
 wtS x8 false (j11 x1 h7) (j11 u h7))
theorem p142_ok (k : Nat) : p142 k = funcS k 2 lit142 := by kernel_rfl
def p143 (_ : Nat) : CtxK → List V → TH → R := fun _ => ap 2 (fun x0 x1 h2 =>
 kFA 1 x1 fun x3 =>
 kIA 5 3 x3 x0 fun x4 =>
 kFA 0 x4 fun x5 =>
 kL1 x5 h2 fun x6 =>
 kNot x6 fun x7 =>
 some (x7, h2))
theorem p143_ok (k : Nat) : p143 k = funcS k 2 lit143 := by kernel_rfl
def p154 (_ : Nat) : CtxK → List V → TH → R := fun _ => ap 1 (fun x0 h1 =>
 kBin .geq x0 (.int .u64 4294967296) fun x2 =>
 jc (α := Cur 25) (fun x3 _ x5 _ _ _ _ _ _ _ _ _ _ _ _ _ _ _ _ _ _ _ _ _ _ h28 =>
 kBin .geq x3 (.int .u64 65536) fun x30 =>
 jc (α := Cur 25) (fun x31 _ x33 _ _ _ _ _ _ _ _ _ _ _ _ _ _ _ _ _ _ _ _ _ _ h56 =>
 kBin .geq x31 (.int .u64 256) fun x58 =>
 jc (α := Cur 25) (fun x59 _ x61 _ _ _ _ _ _ _ _ _ _ _ _ _ _ _ _ _ _ _ _ _ _ h84 =>
 kConv .u8 x59 fun x86 =>
 kP (indexE none (.str (bs [0, 1, 2, 2, 3, 3, 3, 3, 4, 4, 4, 4, 4, 4, 4, 4, 5, 5, 5, 5, 5, 5, 5, 5, 5, 5, 5, 5, 5, 5, 5, 5, 6, 6, 6, 6, 6, 6, 6, 6, 6, 6, 6, 6, 6, 6, 6, 6, 6, 6, 6, 6, 6, 6, 6, 6, 6, 6, 6, 6, 6, 6, 6, 6, 7, 7, 7, 7, 7, 7, 7, 7, 7, 7, 7, 7, 7, 7, 7, 7, 7, 7, 7, 7, 7, 7, 7, 7, 7, 7, 7, 7, 7, 7, 7, 7, 7, 7, 7, 7, 7, 7, 7, 7, 7, 7, 7, 7, 7, 7, 7, 7, 7, 7, 7, 7, 7, 7, 7, 7, 7, 7, 7, 7, 7, 7, 7, 7, 8, 8, 8, 8, 8, 8, 8, 8, 8, 8, 8, 8, 8, 8, 8, 8, 8, 8, 8, 8, 8, 8, 8, 8, 8, 8, 8, 8, 8, 8, 8, 8, 8, 8, 8, 8, 8, 8, 8, 8, 8, 8, 8, 8, 8, 8, 8, 8, 8, 8, 8, 8, 8, 8, 8, 8, 8, 8, 8, 8, 8, 8, 8, 8, 8, 8, 8, 8, 8, 8, 8, 8, 8, 8, 8, 8, 8, 8, 8, 8, 8, 8, 8, 8, 8, 8, 8, 8, 8, 8, 8, 8, 8, 8, 8, 8, 8, 8, 8, 8, 8, 8, 8, 8, 8, 8, 8, 8, 8, 8, 8, 8, 8, 8, 8, 8, 8, 8, 8, 8, 8, 8, 8, 8, 8, 8, 8, 8])) x86) fun x87 =>
 kConv .i64 x87 fun x88 =>
 kBin .add x61 x88 fun x89 =>
 some (x89, h84)) fun j85 =>
 brS x58 (kBin .shr x31 (.int .u64 8) fun x90 =>
 kBin .add x33 (qi 8) fun x91 =>
 j85 x90 u x91 u u u u u u u u u u u u u u u u u u u u u u h56) (j85 x31 u x33 u u u u u u u u u u u u u u u u u u u u u u h56)) fun j57 =>
 brS x30 (kBin .shr x3 (.int .u64 16) fun x92 =>
 kBin .add x5 (qi 16) fun x93 =>
 j57 x92 u x93 u u u u u u u u u u u u u u u u u u u u u u h28) (j57 x3 u x5 u u u u u u u u u u u u u u u u u u u u u u h28)) fun j29 =>
 brS x2 (kBin .shr x0 (.int .u64 32) fun x94 =>
 j29 x94 u (qi 32) u u u u u u u u u u u u u u u u u u u u u u h1) (j29 x0 u (qi 0) u u u u u u u u u u u u u u u u u u u u u u h1))
theorem p154_ok (k : Nat) : p154 k = funcS k 1 lit154 := by kernel_rfl
def p156 (_ : Nat) : CtxK → List V → TH → R := fun _ => ap 2 (fun x0 x1 h2 =>
 kIA 5 1 x1 x0 fun x3 =>
 kL1 x3 h2 fun x4 =>
 kNot x4 fun x5 =>
 some (x5, h2))
theorem p156_ok (k : Nat) : p156 k = funcS k 2 lit156 := by kernel_rfl
def p171 (k : Nat) : CtxK → List V → TH → R := fun X => ap 2 (fun x0 x1 h2 =>
 kBin .geq x1 (qb 4) fun x3 =>
 brS x3 (some (.nils, h2)) (kNilc x0 fun x4 =>
 kFA 3 x4 fun x5 =>
 kIA 4 1 x5 x1 fun x6 =>
 kL1 x6 h2 fun x7 =>
 kCall X 192 [x7] h2 fun x8 h9 =>
 kLen x8 fun x10 =>
 lp (α := Cur 33) (zN 33) (fun n45 _ _ _ _ _ x16 _ _ _ _ _ _ _ _ _ _ _ x28 x29 x30 _ _ _ _ _ _ _ _ _ _ _ _ _ h44 =>
 kBin .lss x30 x29 fun x46 =>
 brS x46 (kIS 2 x28 x30 fun x47 =>
 kLA 2 x47 h44 fun x48 =>
 kNew [(qw 0), .nils] h44 fun x49 h50 =>
 kSA 2 x49 x48 h50 fun _ h52 =>
 kFA 1 x49 fun x53 =>
 kL1 x53 h52 fun x54 =>
 kCall X 34 [x54] h52 fun x55 h56 =>
 kIS 2 x16 x30 fun x57 =>
 kFA 1 x57 fun x58 =>
 kS1 x58 x55 h56 fun _ h60 =>
 kBin .add x30 (qi 1) fun x61 =>
 n45 u u u u u x16 u u u u u u u u u u u x28 x29 x61 u u u u u u u u u u u u u h60) (some (x16, h44))) k u u u u u x8 u u u u u u u u u u u x8 x10 (qi 0) u u u u u u u u u u u u u h9))
theorem p171_ok (k : Nat) : p171 k = funcS k 2 lit171 := by kernel_rfl
def p196 (k : Nat) : CtxK → List V → TH → R := fun X => ap 2 (fun x0 x1 h2 =>
 kNilc x0 fun x3 =>
 kFA 17 x3 fun x4 =>
 kL1 x4 h2 fun x5 =>
 kLen x5 fun x6 =>
 lp (α := Cur 44) (zN 44) (fun n52 x7 x8 _ _ _ x12 _ _ _ _ _ x18 x19 x20 _ _ _ _ _ _ _ _ _ _ _ _ _ _ _ _ _ _ _ _ _ _ _ _ _ _ _ _ _ _ h51 =>
 kBin .lss x20 x19 fun x53 =>
 brS x53 (kIS 1 x18 x20 fun x54 =>
 kL1 x54 h51 fun x55 =>
 kNilc x7 fun x56 =>
 kFA 16 x56 fun x57 =>
 kL1 x57 h51 fun x60 =>
 kNilc x7 fun x61 =>
 kFA 0 x61 fun x62 =>
 kFA 1 x62 fun x63 =>
 kIA 5 3 x63 x55 fun x64 =>
 kFA 1 x64 fun x65 =>
 kL1 x65 h51 fun x68 =>
 kCall X 201 [x60, x55, x8, x68] h51 fun x69 h70 =>
 kBS 1 [(qi 0)] 1 [(0, 1, x69)] h70 fun x71 h72 =>
 kAp 1 8 x12 x71 h72 fun x73 h74 =>
 dokS [h51, h72, h74] [] (kBin .add x20 (qi 1) fun x75 =>
 n52 x7 x8 u u u x73 u u u u u x18 x19 x75 u u u u u u u u u u u u u u u u u u u u u u u u u u u u u u h74)) (kNilc x7 fun x76 =>
 kFA 17 x76 fun x77 =>
 kL1 x77 h51 fun x80 =>
 kCall X 202 [x12] h51 fun x81 h82 =>
 kIS 1 x80 x81 fun x83 =>
 kL1 x83 h82 fun x86 =>
 dokS [h51, h82] ((fun h78 => kL1 x77 h78 fun x79 =>
 some (x79, h78), x80, 0, 1) :: []) (some (x86, h82)))) k x0 x1 u u u .nils u u u u u x5 x6 (qi 0) u u u u u u u u u u u u u u u u u u u u u u u u u u u u u u h2)
theorem p196_ok (k : Nat) : p196 k = funcS k 2 lit196 := by kernel_rfl
def p197 (_ : Nat) : CtxK → List V → TH → R := fun X => ap 2 (fun x0 x1 h2 =>
 kNew (V.cellsR x0) h2 fun x3 h4 =>
 kNew (V.cellsR x1) h4 fun x5 h6 =>
 kL1 x3 h6 fun x7 =>
 kNilc x7 fun x8 =>
 kFA 18 x8 fun x9 =>
 kL1 x9 h6 fun x10 =>
 kCall X 137 [x10, (.fn 203 [] [x5, x3])] h6 fun x11 h12 =>
 kNot x11 fun x13 =>
 some (x13, h12))
theorem p197_ok (k : Nat) : p197 k = funcS k 2 lit197 := by kernel_rfl
def p202 (k : Nat) : CtxK → List V → TH → R := fun _ => ap 1 (fun x0 h1 =>
 kLen x0 fun x2 =>
 lp (α := Cur 26) (zN 26) (fun n30 x3 _ _ x6 _ _ x9 x10 x11 _ _ _ _ _ _ _ _ _ _ _ _ _ _ _ _ _ h29 =>
 kBin .lss x11 x10 fun x31 =>
 brS x31 (kIS 1 x9 x11 fun x32 =>
 kL1 x32 h29 fun x33 =>
 kBin .lss x6 (qi 0) fun x34 =>
 jc (α := JT) (fun x35 h36 =>
 jc (α := JT) (fun x38 h39 =>
 jc (α := JT) (fun x41 h42 =>
 jc (α := JT) (fun x44 h45 =>
 jc (α := JT) (fun x47 h48 =>
 jc (α := JT) (fun x50 h51 =>
 kPick x34 qt x50 fun x53 =>
 jc (α := Cur 26) (fun x54 _ _ x57 _ _ x60 x61 x62 _ _ _ _ _ _ _ _ _ _ _ _ _ _ _ _ _ h80 =>
 kBin .add x62 (qi 1) fun x82 =>
 n30 x54 u u x57 u u x60 x61 x82 u u u u u u u u u u u u u u u u u h80) fun j81 =>
 brS x53 (j81 x3 u u x11 u u x9 x10 x11 u u u u u u u u u u u u u u u u u h51) (j81 x3 u u x6 u u x9 x10 x11 u u u u u u u u u u u u u u u u u h51)) fun j52 =>
 wtS x34 false (kBin .gtr x35 x47 fun x83 =>
 j52 x83 h48) (j52 u h48)) fun j49 =>
 wtS x34 false (kL1 x44 h45 fun x84 =>
 j49 x84 h45) (j49 u h45)) fun j46 =>
 wtS x34 false (kIS 1 x38 x41 fun x85 =>
 j46 x85 h42) (j46 u h42)) fun j43 =>
 wtS x34 false (j43 x6 h39) (j43 u h39)) fun j40 =>
 wtS x34 false (j40 x3 h36) (j40 u h36)) fun j37 =>
 wtS x34 false (j37 x33 h29) (j37 u h29)) (some (x6, h29))) k x0 u u (.int .i64 (-1)) u u x0 x2 (qi 0) u u u u u u u u u u u u u u u u u h1)
theorem p202_ok (k : Nat) : p202 k = funcS k 1 lit202 := by kernel_rfl
def p222 (k : Nat) : CtxK → List V → TH → R := fun X => ap 1 (fun x0 h1 =>
 kP (minE true x0 (qw 1)) fun x2 =>
 kP (minE false x2 (qw 65536)) fun x3 =>
 kCall X 153 [x3] h1 fun x4 h5 =>
 kBin .sub x4 (qi 1) fun x6 =>
 kConv .u64 x3 fun x7 =>
 kBin .sub (qi 31) x6 fun x8 =>
 kBin .shl x7 x8 fun x9 =>
 kB [(.int .u64 0), (qi 0)] [(0, 1, x9)] fun x10 =>
 kNew (V.cellsR x10) h5 fun x11 h12 =>
 lp (α := Cur 33) (zN 33) (fun n47 _ _ _ x16 x17 x18 _ _ _ _ _ _ _ _ _ _ _ _ _ _ _ x34 _ _ _ _ _ _ _ _ _ _ _ h46 =>
 kBin .lss x34 (qi 16) fun x48 =>
 brS x48 (kCv X x18 [] h46 fun _ h50 =>
 kBin .add x34 (qi 1) fun x51 =>
 n47 u u u x16 x17 x18 u u u u u u u u u u u u u u u x51 u u u u u u u u u u u h50) (kBin .shl x16 (.int .u64 16) fun x52 =>
 kNilc x17 fun x53 =>
 kFA 1 x53 fun x54 =>
 kL1 x54 h46 fun x55 =>
 kBin .add x52 x55 fun x56 =>
 some (x56, h46))) k u u u x6 x11 (.fn 229 [x11] []) u u u u u u u u u u u u u u u (qi 0) u u u u u u u u u u u h12)
theorem p222_ok (k : Nat) : p222 k = funcS k 1 lit222 := by kernel_rfl
end
end Go.PE
