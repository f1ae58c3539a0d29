/- The same functions with names for their slots (part 4 of 4), printed by a program of our own: each is what the evaluator's law says of the literal. -/
import Derived.Test.YtmdnkhidhkbgcaaGreatDoorDbL3
import Derived.KernelRfl
namespace Go.PE
set_option maxRecDepth 100000
noncomputable section
def p9 (_ : Nat) : CtxK → List V → TH → R := fun X => ap 2 (fun x0 x1 h2 =>
 kNilc x0 fun x3 =>
 kFA 2 x3 fun x4 =>
 kL1 x4 h2 fun x5 =>
 kCall X 35 [x1, x5] h2 fun x6 h7 =>
 kEqI false x6 (qw 0) fun x8 =>
 jc (α := JT) (fun x9 h10 =>
 jc (α := JT) (fun x12 h13 =>
 jc (α := JT) (fun x15 h16 =>
 jc (α := JT) (fun x18 h19 =>
 jc (α := JT) (fun x21 h22 =>
 jc (α := JT) (fun x24 h25 =>
 kPick x8 qt x24 fun x27 =>
 brS x27 (some (.nils, h25)) (kNilc x0 fun x28 =>
 kFA 0 x28 fun x29 =>
 kL1 x29 h25 fun x32 =>
 kNilc x0 fun x33 =>
 kFA 2 x33 fun x34 =>
 kL1 x34 h25 fun x37 =>
 kNilc x0 fun x38 =>
 kFA 3 x38 fun x39 =>
 kLA 49 x39 h25 fun x42 =>
 kNilc x0 fun x43 =>
 kFA 2 x43 fun x44 =>
 kL1 x44 h25 fun x47 =>
 kCall X 12 [x1, x47] h25 fun x48 h49 =>
 kB zr8 [(0, 1, x32), (2, 1, x37), (3, 49, x42), (52, 1, x6), (53, 1, x48), (1, 1, (qi 1))] fun x50 =>
 kNilc x0 fun x51 =>
 kSA 352 x51 x50 h49 fun _ h53 =>
 dokS [h25, h49, h53] ((fun h40 => kLA 49 x39 h40 fun x41 =>
 some (x41, h40), x42, 0, 1) :: ((fun h35 => kL1 x34 h35 fun x36 =>
 some (x36, h35), x37, 0, 1) :: ((fun h30 => kL1 x29 h30 fun x31 =>
 some (x31, h30), x32, 0, 1) :: []))) (kNilc x0 fun x54 =>
 kFA 53 x54 fun x55 =>
 kL1 x55 h53 fun x58 =>
 kNilc x0 fun x59 =>
 kFA 0 x59 fun x60 =>
 kL1 x60 h53 fun x63 =>
 kCall X 36 [x58, x63] h53 fun x64 h65 =>
 kNot x64 fun x66 =>
 dokS [h53, h65] [] (jc (α := Cur 107) (fun _ _ _ _ _ _ _ _ _ _ _ _ _ _ _ _ _ _ _ _ _ _ _ _ _ _ _ _ _ _ _ _ _ _ _ _ _ _ _ _ _ _ _ _ _ _ _ _ _ _ _ _ _ _ _ _ _ _ _ _ _ _ _ _ _ _ _ _ _ _ _ _ _ _ _ _ _ _ _ _ _ _ _ _ _ _ _ _ _ _ _ _ _ _ _ _ _ _ _ _ _ _ _ _ _ _ _ h174 =>
 some (.nils, h174)) fun j175 =>
 brS x66 (kNilc x0 fun x176 =>
 kFA 1 x176 fun x177 =>
 kS1 x177 (qi 0) h65 fun _ h179 =>
 j175 u u u u u u u u u u u u u u u u u u u u u u u u u u u u u u u u u u u u u u u u u u u u u u u u u u u u u u u u u u u u u u u u u u u u u u u u u u u u u u u u u u u u u u u u u u u u u u u u u u u u u u u u u u u h179) (kNilc x0 fun x180 =>
 kFA 0 x180 fun x181 =>
 kL1 x181 h65 fun x184 =>
 kCall X 37 [x0] h65 fun x185 h186 =>
 kEqI false x185 x184 fun x187 =>
 jc (α := JT) (fun x188 h189 =>
 jc (α := JT) (fun x191 h192 =>
 jc (α := JT) (fun x194 h195 =>
 jc (α := V → TH → PD → R) (fun x199 h200 d201 =>
 jc (α := JT) (fun x203 h204 =>
 jc (α := JT) (fun x206 h207 =>
 kPick x187 x206 qf fun x209 =>
 dokS [h65, h207] d201 (brS x209 (kNilc x0 fun x210 =>
 kFA 1 x210 fun x211 =>
 kS1 x211 (qi 2) h207 fun _ h213 =>
 kNilc x0 fun x214 =>
 kFA 0 x214 fun x215 =>
 kL1 x215 h213 fun x218 =>
 kNilc x0 fun x219 =>
 kFA 0 x219 fun x220 =>
 kL1 x220 h213 fun x223 =>
 kNilc x0 fun x224 =>
 kFA 3 x224 fun x225 =>
 kLA 49 x225 h213 fun x228 =>
 kNilc x0 fun x229 =>
 kFA 54 x229 fun x230 =>
 kIA 5 1 x230 x218 fun x231 =>
 kNilc x0 fun x232 =>
 kFA 64 x232 fun x233 =>
 kS1 x231 qt h213 fun _ h235 =>
 kIA 5 49 x233 x223 fun x236 =>
 kSA 49 x236 x228 h235 fun _ h238 =>
 dokS [h213, h235, h238] [] (kCall X 39 [x1] h238 fun x239 h240 =>
 kCall X 38 [x0, x239, (.fn 40 [x0] [])] h240 fun x241 h242 =>
 kCall X 41 [x0, x1] h242 fun x243 h244 =>
 kAp 131 1400 x241 x243 h244 fun x245 h246 =>
 some (x245, h246))) (j175 u u u u u u u u u u u u u u u u u u u u u u u u u u u u u u u u u u u u u u u u u u u u u u u u u u u u u u u u u u u u u u u u u u u u u u u u u u u u u u u u u u u u u u u u u u u u u u u u u u u u u u u u u u u h207))) fun j208 =>
 wtS x187 true (kBin .geq x203 (qi 2) fun x247 =>
 j208 x247 h204) (j208 u h204)) fun j205 =>
 wtS x187 true (kLen x199 fun x248 =>
 j205 x248 h200) (j205 u h200)) fun j202 =>
 wtS x187 true (kL1 x194 h195 fun x249 =>
 j202 x249 h195 ((fun h182 => kL1 x181 h182 fun x183 =>
 some (x183, h182), x184, 0, 1) :: [])) (j202 u h195 ((fun h182 => kL1 x181 h182 fun x183 =>
 some (x183, h182), x184, 0, 1) :: []))) fun j196 =>
 wtS x187 true (kFA 53 x191 fun x250 =>
 j196 x250 h192) (j196 u h192)) fun j193 =>
 wtS x187 true (kNilc x188 fun x251 =>
 j193 x251 h189) (j193 u h189)) fun j190 =>
 wtS x187 true (j190 x0 h186) (j190 u h186)))))) fun j26 =>
 wtS x8 false (kEqI false x9 x21 fun x252 =>
 j26 x252 h22) (j26 u h22)) fun j23 =>
 wtS x8 false (kL1 x18 h19 fun x253 =>
 j23 x253 h19) (j23 u h19)) fun j20 =>
 wtS x8 false (kFA 52 x15 fun x254 =>
 j20 x254 h16) (j20 u h16)) fun j17 =>
 wtS x8 false (kNilc x12 fun x255 =>
 j17 x255 h13) (j17 u h13)) fun j14 =>
 wtS x8 false (j14 x0 h10) (j14 u h10)) fun j11 =>
 wtS x8 false (j11 x6 h7) (j11 u h7))
theorem p9_ok (k : Nat) : p9 k = funcS k 2 lit9 := by kernel_rfl
def p12 (_ : Nat) : CtxK → List V → TH → R := fun X => ap 2 (fun x0 x1 h2 =>
 kCall X 44 [x0, x1] h2 fun x3 h4 =>
 kP (fieldE false 1 1 x3) fun x5 =>
 kCall X 43 [x5] h4 fun x6 h7 =>
 some (x6, h7))
theorem p12_ok (k : Nat) : p12 k = funcS k 2 lit12 := by kernel_rfl
def p17 (k : Nat) : CtxK → List V → TH → R := fun _ => ap 1 (fun x0 h1 =>
 kNilc x0 fun x2 =>
 kFA 309 x2 fun x3 =>
 kL1 x3 h1 fun x4 =>
 kLen x4 fun x5 =>
 kNilc x0 fun x6 =>
 kFA 310 x6 fun x7 =>
 kLA 42 x7 h1 fun x8 =>
 lp (α := Cur 26) (zN 26) (fun n36 _ _ _ x12 _ _ _ _ _ _ _ _ _ _ x23 x24 _ _ _ _ _ _ _ _ _ _ h35 =>
 kBin .lss x24 (qi 3) fun x37 =>
 brS x37 (kP (indexE (some (3, 14, true)) x23 x24) fun x38 =>
 kNew [(qb 0), (qw 0), (qb 0), (qb 0), (qb 0), qs, (qb 0), qs, (qw 0), qf, qf, qf, qf, qf] h35 fun x39 h40 =>
 kSA 14 x39 x38 h40 fun _ h42 =>
 kFA 0 x39 fun x43 =>
 kFA 1 x43 fun x44 =>
 kL1 x44 h42 fun x45 =>
 kBin .gtr x45 (qw 0) fun x46 =>
 jc (α := Cur 26) (fun _ _ _ x50 _ _ _ _ _ _ _ _ _ _ x61 x62 _ _ _ _ _ _ _ _ _ _ h73 =>
 kBin .add x62 (qi 1) fun x75 =>
 n36 u u u x50 u u u u u u u u u u x61 x75 u u u u u u u u u u h73) fun j74 =>
 brS x46 (kBin .add x12 (qi 1) fun x76 =>
 j74 u u u x76 u u u u u u u u u u x23 x24 u u u u u u u u u u h42) (j74 u u u x12 u u u u u u u u u u x23 x24 u u u u u u u u u u h42)) (some (x12, h35))) k u u u x5 u u u u u u u u u u x8 (qi 0) u u u u u u u u u u h1)
theorem p17_ok (k : Nat) : p17 k = funcS k 1 lit17 := by kernel_rfl
def p19 (_ : Nat) : CtxK → List V → TH → R := fun X => ap 2 (fun x0 x1 h2 =>
 kNew (V.cellsR x0) h2 fun x3 h4 =>
 kNew (V.cellsR x1) h4 fun x5 h6 =>
 kNew zr0 h6 fun x7 h8 =>
 kLA 49 x3 h8 fun x11 =>
 kCall X 47 [x11] h8 fun x12 h13 =>
 kNot x12 fun x14 =>
 jc (α := V → TH → PD → R) (fun x17 h18 d19 =>
 jc (α := V → TH → PD → R) (fun x23 h24 d25 =>
 jc (α := JT) (fun x27 h28 =>
 jc (α := JT) (fun x30 h31 =>
 jc (α := JT) (fun x33 h34 =>
 kPick x14 qt x33 fun x36 =>
 dokS [h8, h24, h28, h34] d25 (brS x36 (kB zr0 [] fun x37 =>
 kSA 49 x7 x37 h34 fun _ h39 =>
 rsS [.cell 4 true 49, .tmp 5] [x0, x1, x3, x5, x7, (qi 10), x11, x12, x14, x14, x17, x27, x23, x30, x33, x36, x37, u, u, u, u, u, u, u, u, u, u, u, u, u, u] h39) (kFA 48 x3 fun x40 =>
 kL1 x40 h34 fun x43 =>
 kLA 8 x5 h34 fun x46 =>
 kBS 8 zr2 1 [(0, 8, x46)] h34 fun x47 h48 =>
 kCall X 50 [x43] h48 fun x49 h50 =>
 kAp 8 40 x49 x47 h50 fun x51 h52 =>
 kFA 48 x3 fun x53 =>
 kS1 x53 x51 h52 fun _ h55 =>
 dokS [h48, h50, h52, h55] ((fun h44 => kLA 8 x5 h44 fun x45 =>
 some (x45, h44), x46, 0, 1) :: []) (kLA 49 x3 h55 fun x56 =>
 kFA 48 x3 fun x57 =>
 kL1 x57 h55 fun x58 =>
 kLen x58 fun x59 =>
 kBin .sub x59 (qi 6) fun x60 =>
 kP (minE true x60 (qi 0)) fun x61 =>
 kCall X 51 [x56, x61] h55 fun x62 h63 =>
 kSA 49 x7 x62 h63 fun _ h65 =>
 rsS [.cell 4 true 49, .tmp 5] [x0, x1, x3, x5, x7, (qi 0), x11, x12, x14, x14, x17, x27, x23, x30, x33, x36, u, x40, x43, x49, x46, x47, x51, x53, x56, x57, x58, x59, x60, x61, x62] h65)))) fun j35 =>
 wtS x14 false (kNot x30 fun x66 =>
 j35 x66 h31) (j35 u h31)) fun j32 =>
 wtS x14 false (kCall X 49 [x27, x23] h28 fun x67 h68 =>
 j32 x67 h68) (j32 u h28)) fun j29 =>
 wtS x14 false (kCall X 48 [x17] h24 fun x69 h70 =>
 j29 x69 h70) (j29 u h24)) fun j26 =>
 wtS x14 false (kLA 8 x5 h18 fun x71 =>
 j26 x71 h18 ((fun h21 => kLA 8 x5 h21 fun x22 =>
 some (x22, h21), x71, 1, 2) :: d19)) (j26 u h18 d19)) fun j20 =>
 wtS x14 false (kLA 49 x3 h13 fun x72 =>
 j20 x72 h13 []) (j20 u h13 []))
theorem p19_ok (k : Nat) : p19 k = funcS k 2 lit19 := by kernel_rfl
def p25 (k : Nat) : CtxK → List V → TH → R := fun X => ap 1 (fun x0 h1 =>
 lp (α := Cur 13) (zN 13) (fun n16 x2 _ _ x5 _ _ _ _ _ _ _ _ _ h15 =>
 kBin .lss x5 (qb 6) fun x17 =>
 brS x17 (kCall X 42 [x5] h15 fun x18 h19 =>
 kEqI false x18 x2 fun x20 =>
 brS x20 (some (x5, h19)) (kBin .add x5 (qb 1) fun x21 =>
 n16 x2 u u x21 u u u u u u u u u h19)) (some ((qb 6), h15))) k x0 u u (qb 0) u u u u u u u u u h1)
theorem p25_ok (k : Nat) : p25 k = funcS k 1 lit25 := by kernel_rfl
def p28 (_ : Nat) : CtxK → List V → TH → R := fun X => ap 2 (fun x0 x1 h2 =>
 kNilc x0 fun x3 =>
 kFA 7 x3 fun x4 =>
 kL1 x4 h2 fun x5 =>
 kIS 131 x5 x1 fun x6 =>
 kLA 131 x6 h2 fun x7 =>
 kNew zr1 h2 fun x8 h9 =>
 kSA 131 x8 x7 h9 fun _ h11 =>
 kNilc x0 fun x12 =>
 kFA 7 x12 fun x13 =>
 kL1 x13 h11 fun x16 =>
 kP (sliceE 131 x16 none (some x1)) fun x17 =>
 kNilc x0 fun x18 =>
 kFA 7 x18 fun x19 =>
 kL1 x19 h11 fun x22 =>
 kBin .add x1 (qi 1) fun x23 =>
 kP (sliceE 131 x22 (some x23) none) fun x24 =>
 kAp 131 1400 .nils x17 h11 fun x25 h26 =>
 kAp 131 1400 x25 x24 h26 fun x27 h28 =>
 kNilc x0 fun x29 =>
 kFA 7 x29 fun x30 =>
 kS1 x30 x27 h28 fun _ h32 =>
 dokS [h11, h26, h28, h32] ((fun h20 => kL1 x19 h20 fun x21 =>
 some (x21, h20), x22, 0, 1) :: []) (kFA 2 x8 fun x33 =>
 kL1 x33 h32 fun x34 =>
 kBin .geq x34 (qb 20) fun x35 =>
 brS x35 (kNilc x0 fun x36 =>
 kFA 8 x36 fun x37 =>
 kL1 x37 h32 fun x40 =>
 kLA 131 x8 h32 fun x43 =>
 kBS 131 zr1 1 [(0, 131, x43)] h32 fun x44 h45 =>
 kAp 131 1400 x40 x44 h45 fun x46 h47 =>
 kNilc x0 fun x48 =>
 kFA 8 x48 fun x49 =>
 kS1 x49 x46 h47 fun _ h51 =>
 dokS [h45, h47, h51] [] (some (.tup [], h51))) (kNilc x0 fun x52 =>
 kFA 7 x52 fun x53 =>
 kL1 x53 h32 fun x56 =>
 kFA 2 x8 fun x57 =>
 kL1 x57 h32 fun x60 =>
 kBin .sub x60 (qb 10) fun x61 =>
 kNilc x0 fun x62 =>
 kFA 2 x62 fun x63 =>
 kIA 5 1 x63 x61 fun x64 =>
 kL1 x64 h32 fun x67 =>
 kNilc x0 fun x68 =>
 kFA 0 x68 fun x69 =>
 kL1 x69 h32 fun x72 =>
 kLA 131 x8 h32 fun x75 =>
 kCall X 13 [x67, x72, x75] h32 fun x76 h77 =>
 kAp 131 1400 x56 x76 h77 fun x78 h79 =>
 kNilc x0 fun x80 =>
 kFA 7 x80 fun x81 =>
 kS1 x81 x78 h79 fun _ h83 =>
 dokS [h32, h77, h79, h83] ((fun h54 => kL1 x53 h54 fun x55 =>
 some (x55, h54), x56, 0, 1) :: []) (some (.tup [], h83)))))
theorem p28_ok (k : Nat) : p28 k = funcS k 2 lit28 := by kernel_rfl
def p30 (_ : Nat) : CtxK → List V → TH → R := fun _ => ap 1 (fun x0 h1 =>
 kNilc x0 fun x2 =>
 kFA 52 x2 fun x3 =>
 kL1 x3 h1 fun x4 =>
 some (x4, h1))
theorem p30_ok (k : Nat) : p30 k = funcS k 1 lit30 := by kernel_rfl
def p37 (_ : Nat) : CtxK → List V → TH → R := fun _ => ap 1 (fun x0 h1 =>
 kNilc x0 fun x2 =>
 kFA 53 x2 fun x3 =>
 kL1 x3 h1 fun x4 =>
 kLen x4 fun x5 =>
 kEqI false x5 (qi 0) fun x6 =>
 brS x6 (some ((.int .i64 (-1)), h1)) (kNilc x0 fun x7 =>
 kFA 53 x7 fun x8 =>
 kL1 x8 h1 fun x9 =>
 kIS 1 x9 (qi 0) fun x10 =>
 kL1 x10 h1 fun x11 =>
 some (x11, h1)))
theorem p37_ok (k : Nat) : p37 k = funcS k 1 lit37 := by kernel_rfl
def p38 (k : Nat) : CtxK → List V → TH → R := fun X => ap 3 (fun x0 x1 x2 h3 =>
 kCall X 61 [x1] h3 fun x4 h5 =>
 kCall X 60 [x4] h5 fun x6 h7 =>
 kLen x6 fun x8 =>
 lp (α := Cur 32) (zN 32) (fun n42 x9 _ x11 _ _ _ _ x16 _ _ _ _ x21 x22 x23 _ _ _ _ _ _ _ _ _ _ _ _ _ _ _ _ _ h41 =>
 kBin .lss x23 x22 fun x43 =>
 brS x43 (kIS 1 x21 x23 fun x44 =>
 kL1 x44 h41 fun x45 =>
 kNilc x9 fun x46 =>
 kFA 0 x46 fun x47 =>
 kL1 x47 h41 fun x48 =>
 kEqI true x45 x48 fun x49 =>
 jc (α := Cur 32) (fun x50 _ x52 _ _ _ _ x57 _ _ _ _ x62 x63 x64 _ _ _ _ _ _ _ _ _ _ _ _ _ _ _ _ _ h82 =>
 kBin .add x64 (qi 1) fun x84 =>
 n42 x50 u x52 u u u u x57 u u u u x62 x63 x84 u u u u u u u u u u u u u u u u u h82) fun j83 =>
 brS x49 (kCv X x11 [x45] h41 fun x85 h86 =>
 kBS 131 zr1 1 [(0, 131, x85)] h86 fun x87 h88 =>
 kAp 131 1400 x16 x87 h88 fun x89 h90 =>
 j83 x9 u x11 u u u u x89 u u u u x21 x22 x23 u u u u u u u u u u u u u u u u u h90) (j83 x9 u x11 u u u u x16 u u u u x21 x22 x23 u u u u u u u u u u u u u u u u u h41)) (some (x16, h41))) k x0 u x2 u u u u .nils u u u u x6 x8 (qi 0) u u u u u u u u u u u u u u u u u h7)
theorem p38_ok (k : Nat) : p38 k = funcS k 3 lit38 := by kernel_rfl
def p41 (k : Nat) : CtxK → List V → TH → R := fun X => ap 2 (fun x0 x1 h2 =>
 kNilc x0 fun x3 =>
 kFA 54 x3 fun x4 =>
 kLA 5 x4 h2 fun x5 =>
 lp (α := Cur 79) (zN 79) (fun n86 x6 x7 _ _ _ x11 x12 _ _ _ _ _ x18 x19 _ _ _ _ _ _ _ _ _ _ _ _ _ _ _ _ _ _ _ _ _ _ _ _ _ _ _ _ _ _ _ _ _ _ _ _ _ _ _ _ _ _ _ _ _ _ _ _ _ _ _ _ _ _ _ _ _ _ _ _ _ _ _ _ _ h85 =>
 kBin .lss x19 (qi 5) fun x87 =>
 brS x87 (kIx 5 x18 x19 fun x88 =>
 jc (α := Cur 79) (fun x89 x90 _ _ _ x94 x95 _ _ _ _ _ x101 x102 _ _ _ _ _ _ _ _ _ _ _ _ _ _ _ _ _ _ _ _ _ _ _ _ _ _ _ _ _ _ _ _ _ _ _ _ _ _ _ _ _ _ _ _ _ _ _ _ _ _ _ _ _ _ _ _ _ _ _ _ _ _ _ _ _ h168 =>
 kBin .add x102 (qi 1) fun x170 =>
 n86 x89 x90 u u u x94 x95 u u u u u x101 x170 u u u u u u u u u u u u u u u u u u u u u u u u u u u u u u u u u u u u u u u u u u u u u u u u u u u u u u u u u u u u u u u u u h168) fun j169 =>
 brS x88 (kBS 1 [(qi 0)] 1 [(0, 1, x19)] h85 fun x171 h172 =>
 kNilc x6 fun x173 =>
 kFA 64 x173 fun x174 =>
 kIA 5 49 x174 x19 fun x175 =>
 kLA 49 x175 h172 fun x178 =>
 kBS 49 zr0 1 [(0, 49, x178)] h172 fun x179 h180 =>
 kAp 1 8 x11 x171 h180 fun x181 h182 =>
 kAp 49 600 x12 x179 h182 fun x183 h184 =>
 dokS [h180, h182, h184] ((fun h176 => kLA 49 x175 h176 fun x177 =>
 some (x177, h176), x178, 0, 1) :: []) (j169 x6 x7 u u u x181 x183 u u u u u x18 x19 u u u u u u u u u u u u u u u u u u u u u u u u u u u u u u u u u u u u u u u u u u u u u u u u u u u u u u u u u u u u u u u u u h184)) (j169 x6 x7 u u u x11 x12 u u u u u x18 x19 u u u u u u u u u u u u u u u u u u u u u u u u u u u u u u u u u u u u u u u u u u u u u u u u u u u u u u u u u u u u u u u u u h85)) (kNilc x6 fun x185 =>
 kFA 2 x185 fun x186 =>
 kL1 x186 h85 fun x189 =>
 kCall X 67 [x12] h85 fun x190 h191 =>
 kCall X 66 [x7, x189, x11, x190] h191 fun x192 h193 =>
 kNot x192 fun x194 =>
 dokS [h85, h191, h193] ((fun h187 => kL1 x186 h187 fun x188 =>
 some (x188, h187), x189, 0, 1) :: []) (brS x194 (some (.nils, h193)) (kCall X 68 [x11, x12] h193 fun x195 h196 =>
 kIS 49 x12 x195 fun x197 =>
 kLA 49 x197 h196 fun x198 =>
 kCall X 34 [x198] h196 fun x199 h200 =>
 kNilc x6 fun x201 =>
 kFA 3 x201 fun x202 =>
 kSA 49 x202 x199 h200 fun _ h204 =>
 kNilc x6 fun x205 =>
 kFA 52 x205 fun x206 =>
 kL1 x206 h204 fun x207 =>
 kNilc x6 fun x208 =>
 kFA 3 x208 fun x209 =>
 kFA 0 x209 fun x210 =>
 kS1 x210 x207 h204 fun _ h212 =>
 kNilc x6 fun x213 =>
 kFA 1 x213 fun x214 =>
 kS1 x214 (qi 3) h212 fun _ h216 =>
 kNilc x6 fun x217 =>
 kFA 0 x217 fun x218 =>
 kL1 x218 h216 fun x221 =>
 kNilc x6 fun x222 =>
 kFA 59 x222 fun x223 =>
 kIA 5 1 x223 x221 fun x224 =>
 kS1 x224 qt h216 fun _ h226 =>
 dokS [h216, h226] [] (kNilc x6 fun x227 =>
 kFA 53 x227 fun x228 =>
 kL1 x228 h226 fun x229 =>
 kCall X 38 [x6, x229, (.fn 69 [x6] [])] h226 fun x230 h231 =>
 some (x230, h231)))))) k x0 x1 u u u .nils .nils u u u u u x5 (qi 0) u u u u u u u u u u u u u u u u u u u u u u u u u u u u u u u u u u u u u u u u u u u u u u u u u u u u u u u u u u u u u u u u u h2)
theorem p41_ok (k : Nat) : p41 k = funcS k 2 lit41 := by kernel_rfl
def p42 (_ : Nat) : CtxK → List V → TH → R := fun X => ap 1 (fun x0 h1 =>
 kConv .u64 x0 fun x2 =>
 kCall X 70 [x2] h1 fun x3 h4 =>
 kBin .rem x3 (.int .u64 4) fun x5 =>
 kConv .u8 x5 fun x6 =>
 some (x6, h4))
theorem p42_ok (k : Nat) : p42 k = funcS k 1 lit42 := by kernel_rfl
def p43 (_ : Nat) : CtxK → List V → TH → R := fun _ => ap 1 (fun x0 h1 =>
 kEq' false (.nilR .sl) x0 .nils fun x2 =>
 brS x2 (some (.nils, h1)) (kBS 1 [(qi 0)] 0 [] h1 fun x3 h4 =>
 kAp 1 8 x3 x0 h4 fun x5 h6 =>
 some (x5, h6)))
theorem p43_ok (k : Nat) : p43 k = funcS k 1 lit43 := by kernel_rfl
def p48 (_ : Nat) : CtxK → List V → TH → R := fun _ => ap 1 (fun x0 h1 =>
 kNew (V.cellsR x0) h1 fun x2 h3 =>
 kNew zr2 h3 fun x4 h5 =>
 kFA 48 x2 fun x6 =>
 kL1 x6 h5 fun x7 =>
 kLen x7 fun x8 =>
 kEqI false x8 (qi 0) fun x9 =>
 brS x9 (kFA 40 x2 fun x10 =>
 kLA 8 x10 h5 fun x11 =>
 kSA 8 x4 x11 h5 fun _ h13 =>
 rsS [.cell 2 true 8] [x0, x2, x4, x6, x7, x8, x9, x10, x11, u, u, u, u, u, u, u, u] h13) (kFA 48 x2 fun x14 =>
 kL1 x14 h5 fun x15 =>
 kFA 48 x2 fun x16 =>
 kL1 x16 h5 fun x17 =>
 kLen x17 fun x18 =>
 kBin .sub x18 (qi 1) fun x19 =>
 kIS 8 x15 x19 fun x20 =>
 kLA 8 x20 h5 fun x21 =>
 kSA 8 x4 x21 h5 fun _ h23 =>
 rsS [.cell 2 true 8] [x0, x2, x4, x6, x7, x8, x9, u, u, x14, x15, x16, x17, x18, x19, x20, x21] h23))
theorem p48_ok (k : Nat) : p48 k = funcS k 1 lit48 := by kernel_rfl
def p51 (k : Nat) : CtxK → List V → TH → R := fun X => ap 2 (fun x0 x1 h2 =>
 kNew (V.cellsR x0) h2 fun x3 h4 =>
 kNew zr0 h4 fun x5 h6 =>
 kFA 48 x3 fun x7 =>
 kL1 x7 h6 fun x8 =>
 kP (sliceE 8 x8 none (some x1)) fun x9 =>
 kLen x9 fun x10 =>
 lp (α := Cur 39) (zN 39) (fun n51 x11 x12 x13 x14 x15 x16 x17 x18 x19 x20 x21 x22 x23 _ x25 x26 x27 x28 x29 x30 x31 x32 x33 x34 x35 x36 x37 x38 x39 x40 x41 x42 _ _ _ _ _ _ _ h50 =>
 kBin .lss x23 x22 fun x52 =>
 brS x52 (kIS 8 x21 x23 fun x53 =>
 kLA 8 x53 h50 fun x54 =>
 kNew zr2 h50 fun x55 h56 =>
 kSA 8 x55 x54 h56 fun _ h58 =>
 kFA 1 x13 fun x59 =>
 kLA 39 x59 h58 fun x60 =>
 kFA 2 x55 fun x61 =>
 kLA 6 x61 h58 fun x62 =>
 kCall X 92 [x60, x62] h58 fun x63 h64 =>
 kExt x63 0 fun x65 =>
 kExt x63 1 fun _ =>
 kFA 1 x13 fun x67 =>
 kSA 39 x67 x65 h64 fun _ h69 =>
 kFA 0 x55 fun x70 =>
 kL1 x70 h69 fun x71 =>
 kFA 1 x55 fun x72 =>
 kL1 x72 h69 fun x73 =>
 kB zr2 [(0, 1, x71), (1, 1, x73)] fun x74 =>
 kFA 40 x13 fun x75 =>
 kSA 8 x75 x74 h69 fun _ h77 =>
 kBin .add x23 (qi 1) fun x78 =>
 n51 u x12 x13 u x15 u u u u u x21 x22 x78 u u u u u u u u u u u u u u u u u u u u u u u u u u h77) (kFA 48 x13 fun x79 =>
 kL1 x79 h50 fun x80 =>
 kP (sliceE 8 x80 (some x12) none) fun x81 =>
 kCall X 50 [x81] h50 fun x82 h83 =>
 kFA 48 x13 fun x84 =>
 kS1 x84 x82 h83 fun _ h86 =>
 kLA 49 x13 h86 fun x87 =>
 kSA 49 x15 x87 h86 fun _ h89 =>
 rsS [.cell 4 true 49] [x11, x12, x13, x14, x15, x16, x17, x18, x19, x20, x21, x22, x23, x52, x25, x26, x27, x28, x29, x30, x31, x32, x33, x34, x35, x36, x37, x38, x39, x40, x41, x42, x79, x80, x12, x81, x82, x84, x87] h89)) k u x1 x3 u x5 u u u u u x9 x10 (qi 0) u u u u u u u u u u u u u u u u u u u u u u u u u u h6)
theorem p51_ok (k : Nat) : p51 k = funcS k 2 lit51 := by kernel_rfl
def p52 (_ : Nat) : CtxK → List V → TH → R := fun X => ap 2 (fun x0 x1 h2 =>
 kNew (V.cellsR x0) h2 fun x3 h4 =>
 kFA 40 x3 fun x5 =>
 kFA 1 x5 fun x6 =>
 kL1 x6 h4 fun x7 =>
 kBin .lss x1 x7 fun x8 =>
 jc (α := JT) (fun x9 h10 =>
 jc (α := JT) (fun x12 h13 =>
 jc (α := JT) (fun x15 h16 =>
 jc (α := JT) (fun x18 h19 =>
 jc (α := JT) (fun x21 h22 =>
 kPick x8 qt x21 fun x24 =>
 brS x24 (some ((.int .i64 (-1)), h22)) (kFA 40 x3 fun x25 =>
 kFA 1 x25 fun x26 =>
 kL1 x26 h22 fun x27 =>
 kBin .sub x1 x27 fun x28 =>
 kConv .i64 x28 fun x29 =>
 some (x29, h22))) fun j23 =>
 wtS x8 false (kBin .gtr x9 x18 fun x30 =>
 j23 x30 h19) (j23 u h19)) fun j20 =>
 wtS x8 false (kP (fieldE false 1 1 x15) fun x31 =>
 j20 x31 h16) (j20 u h16)) fun j17 =>
 wtS x8 false (kCall X 48 [x12] h13 fun x32 h33 =>
 j17 x32 h33) (j17 u h13)) fun j14 =>
 wtS x8 false (kLA 49 x3 h10 fun x34 =>
 j14 x34 h10) (j14 u h10)) fun j11 =>
 wtS x8 false (j11 x1 h4) (j11 u h4))
theorem p52_ok (k : Nat) : p52 k = funcS k 2 lit52 := by kernel_rfl
def p56 (k : Nat) : CtxK → List V → TH → R := fun _ => ap 1 (fun x0 h1 =>
 kLen x0 fun x2 =>
 kBin .lss x2 (qi 2) fun x3 =>
 brS x3 (some (x0, h1)) (lp (α := Cur 61) (zN 61) (fun n66 x4 _ _ x7 _ _ _ _ _ _ _ _ _ _ _ _ _ _ _ _ _ _ _ _ _ _ _ _ _ _ _ _ _ _ _ _ _ _ _ _ _ _ _ _ _ _ _ _ _ _ _ _ _ _ _ _ _ _ _ _ _ h65 =>
 kLen x4 fun x67 =>
 kBin .lss x7 x67 fun x68 =>
 brS x68 (kIS 1 x4 x7 fun x69 =>
 kL1 x69 h65 fun x72 =>
 kBin .sub x7 (qi 1) fun x73 =>
 kIS 1 x4 x73 fun x74 =>
 kL1 x74 h65 fun x77 =>
 kEqI false x72 x77 fun x78 =>
 dokS [h65] [] (brS x78 (kP (sliceE 1 x4 (some x7) none) fun x79 =>
 lp (α := Cur 61) (zN 61) (fun n142 x80 _ _ x83 x84 x85 _ _ _ _ _ _ _ _ _ _ _ _ _ _ _ _ _ _ _ _ _ _ _ _ _ _ _ _ _ _ _ _ _ _ _ _ _ _ _ _ _ _ _ _ _ _ _ _ _ _ _ _ _ _ _ h141 =>
 kLen x84 fun x143 =>
 kBin .lss x85 x143 fun x144 =>
 brS x144 (kIS 1 x84 x85 fun x145 =>
 kL1 x145 h141 fun x148 =>
 kBin .sub x85 (qi 1) fun x149 =>
 kIS 1 x84 x149 fun x150 =>
 kL1 x150 h141 fun x153 =>
 kEqI true x148 x153 fun x154 =>
 dokS [h141] [] (jc (α := Cur 61) (fun x155 _ _ x158 x159 x160 _ _ _ _ _ _ _ _ _ _ _ _ _ _ _ _ _ _ _ _ _ _ _ _ _ _ _ _ _ _ _ _ _ _ _ _ _ _ _ _ _ _ _ _ _ _ _ _ _ _ _ _ _ _ _ h216 =>
 kBin .add x160 (qi 1) fun x218 =>
 n142 x155 u u x158 x159 x218 u u u u u u u u u u u u u u u u u u u u u u u u u u u u u u u u u u u u u u u u u u u u u u u u u u u u u u u h216) fun j217 =>
 brS x154 (kIS 1 x84 x85 fun x219 =>
 kL1 x219 h141 fun x220 =>
 kIS 1 x80 x83 fun x221 =>
 kS1 x221 x220 h141 fun _ h223 =>
 kBin .add x83 (qi 1) fun x224 =>
 j217 x80 u u x224 x84 x85 u u u u u u u u u u u u u u u u u u u u u u u u u u u u u u u u u u u u u u u u u u u u u u u u u u u u u u u h223) (j217 x80 u u x83 x84 x85 u u u u u u u u u u u u u u u u u u u u u u u u u u u u u u u u u u u u u u u u u u u u u u u u u u u u u u u h141))) (kP (sliceE 1 x80 (some x83) none) fun x225 =>
 kCl [(qi 0)] 1 x225 h141 fun _ h227 =>
 kP (sliceE 1 x80 none (some x83)) fun x228 =>
 some (x228, h227))) k x4 u u x7 x79 (qi 1) u u u u u u u u u u u u u u u u u u u u u u u u u u u u u u u u u u u u u u u u u u u u u u u u u u u u u u u h65) (kBin .add x7 (qi 1) fun x229 =>
 n66 x4 u u x229 u u u u u u u u u u u u u u u u u u u u u u u u u u u u u u u u u u u u u u u u u u u u u u u u u u u u u u u u u h65))) (some (x4, h65))) k x0 u u (qi 1) u u u u u u u u u u u u u u u u u u u u u u u u u u u u u u u u u u u u u u u u u u u u u u u u u u u u u u u u u h1))
theorem p56_ok (k : Nat) : p56 k = funcS k 1 lit56 := by kernel_rfl
def p61 (_ : Nat) : CtxK → List V → TH → R := fun _ => ap 1 (fun x0 h1 =>
 kNew (V.cellsR x0) h1 fun x2 h3 =>
 some ((.fn 100 [] [x2]), h3))
theorem p61_ok (k : Nat) : p61 k = funcS k 1 lit61 := by kernel_rfl
def p62 (_ : Nat) : CtxK → List V → TH → R := fun _ => ap 2 (fun x0 x1 h2 =>
 kNew zr4 h2 fun x3 h4 =>
 kNilc x0 fun x5 =>
 kFA 0 x5 fun x6 =>
 kL1 x6 h4 fun x7 =>
 kP (lookupG h4.get (.agg zr4) true x7 x1) fun x8 =>
 kExt x8 0 fun x9 =>
 kExt x8 1 fun x10 =>
 kNew zr4 h4 fun x11 h12 =>
 kSA 16 x11 x9 h12 fun _ h14 =>
 kLA 16 x11 h14 fun x15 =>
 kSA 16 x3 x15 h14 fun _ h17 =>
 rsS [.cell 4 true 16, .tmp 5] [x0, x1, u, u, x3, x10, x11, x10, x8, x0, x5, x6, x7, x1, x8, x9, x10, x15, x10] h17)
theorem p62_ok (k : Nat) : p62 k = funcS k 2 lit62 := by kernel_rfl
def p69 (_ : Nat) : CtxK → List V → TH → R := fun X => ap 2 (fun x0 x1 h2 =>
 kNew zr1 h2 fun x3 h4 =>
 kCall X 65 [x0, (qb 9), x1] h4 fun x5 h6 =>
 kNew zr1 h6 fun x7 h8 =>
 kSA 131 x7 x5 h8 fun _ h10 =>
 kNilc x0 fun x11 =>
 kFA 64 x11 fun x12 =>
 kIA 5 49 x12 x1 fun x13 =>
 kLA 49 x13 h10 fun x16 =>
 kNilc x0 fun x17 =>
 kFA 3 x17 fun x18 =>
 kLA 49 x18 h10 fun x21 =>
 kCall X 109 [x16, x21] h10 fun x22 h23 =>
 kFA 62 x7 fun x24 =>
 kSA 52 x24 x22 h23 fun _ h26 =>
 dokS [h10, h23, h26] [] (kLA 131 x7 h26 fun x27 =>
 kSA 131 x3 x27 h26 fun _ h29 =>
 rsS [.cell 4 true 131] [x0, x1, u, u, x3, x7, x0, x1, x5, x0, x1, x11, x12, x13, x16, x0, x17, x18, x21, x22, x24, x27] h29))
theorem p69_ok (k : Nat) : p69 k = funcS k 2 lit69 := by kernel_rfl
def p76 (k : Nat) : CtxK → List V → TH → R := fun X => ap 3 (fun x0 _ x2 h3 =>
 kNew (V.cellsR x2) h3 fun x4 h5 =>
 kLA 131 x4 h5 fun x6 =>
 kCall X 114 [x0, (qi 4), x6] h5 fun x7 h8 =>
 kNot x7 fun x9 =>
 brS x9 (some (.nils, h8)) (kNilc x0 fun x10 =>
 kFA 309 x10 fun x11 =>
 kL1 x11 h8 fun x12 =>
 kLen x12 fun x13 =>
 lp (α := Cur 96) (zN 96) (fun n111 x14 _ _ _ _ x19 _ _ _ _ _ _ _ _ _ _ _ x31 x32 _ _ _ _ _ _ _ _ _ _ _ _ _ _ _ _ _ _ _ _ _ _ _ _ _ _ _ _ _ _ _ _ _ _ _ _ _ _ _ _ _ _ _ _ _ _ _ _ _ _ _ _ _ _ _ _ _ _ _ _ _ _ _ _ _ _ _ _ _ _ _ _ _ _ _ _ _ h110 =>
 kBin .lss x32 x31 fun x112 =>
 brS x112 (kNilc x14 fun x113 =>
 kFA 309 x113 fun x114 =>
 kL1 x114 h110 fun x117 =>
 kIS 15 x117 x32 fun x118 =>
 kFA 0 x118 fun x119 =>
 kFA 1 x119 fun x120 =>
 kL1 x120 h110 fun x123 =>
 kFA 122 x19 fun x124 =>
 kL1 x124 h110 fun x127 =>
 kBin .leq x123 x127 fun x128 =>
 dokS [h110] [] (jc (α := Cur 96) (fun x129 _ _ _ _ x134 _ _ _ _ _ _ _ _ _ _ _ x146 x147 _ _ _ _ _ _ _ _ _ _ _ _ _ _ _ _ _ _ _ _ _ _ _ _ _ _ _ _ _ _ _ _ _ _ _ _ _ _ _ _ _ _ _ _ _ _ _ _ _ _ _ _ _ _ _ _ _ _ _ _ _ _ _ _ _ _ _ _ _ _ _ _ _ _ _ _ _ h225 =>
 kBin .add x147 (qi 1) fun x227 =>
 n111 x129 u u u u x134 u u u u u u u u u u u x146 x227 u u u u u u u u u u u u u u u u u u u u u u u u u u u u u u u u u u u u u u u u u u u u u u u u u u u u u u u u u u u u u u u u u u u u u u u u u u u u u h225) fun j226 =>
 brS x128 (kNilc x14 fun x228 =>
 kFA 309 x228 fun x229 =>
 kL1 x229 h110 fun x232 =>
 kLA 131 x19 h110 fun x235 =>
 kIS 15 x232 x32 fun x236 =>
 kFA 10 x236 fun x237 =>
 kCall X 110 [x235] h110 fun x238 h239 =>
 kIA 5 1 x237 x238 fun x240 =>
 kS1 x240 qt h239 fun _ h242 =>
 dokS [h110, h239, h242] ((fun h230 => kL1 x229 h230 fun x231 =>
 some (x231, h230), x232, 0, 1) :: []) (j226 x14 u u u u x19 u u u u u u u u u u u x31 x32 u u u u u u u u u u u u u u u u u u u u u u u u u u u u u u u u u u u u u u u u u u u u u u u u u u u u u u u u u u u u u u u u u u u u u u u u u u u u u h242)) (j226 x14 u u u u x19 u u u u u u u u u u u x31 x32 u u u u u u u u u u u u u u u u u u u u u u u u u u u u u u u u u u u u u u u u u u u u u u u u u u u u u u u u u u u u u u u u u u u u u u u u u u u u u h110))) (lp (α := Cur 96) (zN 96) (fun n340 x243 _ _ _ _ _ _ _ x251 _ _ _ _ _ _ _ _ _ _ _ _ _ _ _ _ _ _ _ _ _ _ _ _ _ _ _ _ _ _ _ _ _ _ _ _ _ _ _ _ _ _ _ _ _ _ _ _ _ _ _ _ _ _ _ _ _ _ _ _ _ _ _ _ _ _ _ _ _ _ _ _ _ _ _ _ _ _ _ _ _ _ _ _ _ _ _ h339 =>
 kNilc x243 fun x341 =>
 kFA 309 x341 fun x342 =>
 kL1 x342 h339 fun x345 =>
 kLen x345 fun x346 =>
 kBin .gtr x346 (qi 0) fun x347 =>
 jc (α := JT) (fun x348 h349 =>
 jc (α := JT) (fun x351 h352 =>
 jc (α := JT) (fun x354 h355 =>
 jc (α := V → TH → PD → R) (fun x359 h360 d361 =>
 jc (α := JT) (fun x363 h364 =>
 jc (α := JT) (fun x366 h367 =>
 jc (α := V → TH → PD → R) (fun x371 h372 d373 =>
 jc (α := JT) (fun x375 h376 =>
 jc (α := JT) (fun x378 h379 =>
 jc (α := JT) (fun x381 h382 =>
 jc (α := V → TH → PD → R) (fun x386 h387 d388 =>
 jc (α := JT) (fun x390 h391 =>
 kPick x347 x390 qf fun x393 =>
 dokS [h387, h391] d388 (brS x393 (kNilc x243 fun x394 =>
 kFA 309 x394 fun x395 =>
 kL1 x395 h391 fun x398 =>
 kIS 15 x398 (qi 0) fun x399 =>
 kFA 0 x399 fun x400 =>
 kFA 2 x400 fun x401 =>
 kLA 6 x401 h391 fun x404 =>
 kNilc x243 fun x405 =>
 kFA 309 x405 fun x406 =>
 kL1 x406 h391 fun x409 =>
 kIS 15 x409 (qi 0) fun x410 =>
 kFA 8 x410 fun x411 =>
 kLA 2 x411 h391 fun x414 =>
 kCall X 118 [x243, x404, x414] h391 fun x415 h416 =>
 kBS 131 zr1 1 [(0, 131, x415)] h416 fun x417 h418 =>
 kAp 131 1400 x251 x417 h418 fun x419 h420 =>
 dokS [h391, h418, h420] [] (kNilc x243 fun x421 =>
 kFA 309 x421 fun x422 =>
 kL1 x422 h420 fun x423 =>
 kP (sliceE 15 x423 (some (qi 1)) none) fun x424 =>
 kNilc x243 fun x425 =>
 kFA 309 x425 fun x426 =>
 kS1 x426 x424 h420 fun _ h428 =>
 n340 x243 u u u u u u u x419 u u u u u u u u u u u u u u u u u u u u u u u u u u u u u u u u u u u u u u u u u u u u u u u u u u u u u u u u u u u u u u u u u u u u u u u u u u u u u u u u u u u u u u u h428)) (kCall X 119 [x243] h391 fun x429 h430 =>
 kAp 131 1400 x251 x429 h430 fun x431 h432 =>
 some (x431, h432)))) fun j392 =>
 wtS x347 true (kCall X 116 [x371, x386] h387 fun x433 h434 =>
 j392 x433 h434) (j392 u h387)) fun j389 =>
 wtS x347 true (kL1 x381 h382 fun x435 =>
 j389 x435 h382 d373) (j389 u h382 d373)) fun j383 =>
 wtS x347 true (kFA 53 x378 fun x436 =>
 j383 x436 h379) (j383 u h379)) fun j380 =>
 wtS x347 true (kNilc x375 fun x437 =>
 j380 x437 h376) (j380 u h376)) fun j377 =>
 wtS x347 true (j377 x243 h372) (j377 u h372)) fun j374 =>
 wtS x347 true (kLA 5 x366 h367 fun x438 =>
 j374 x438 h367 d361) (j374 u h367 d361)) fun j368 =>
 wtS x347 true (kFA 10 x363 fun x439 =>
 j368 x439 h364) (j368 u h364)) fun j365 =>
 wtS x347 true (kIS 15 x359 (qi 0) fun x440 =>
 j365 x440 h360) (j365 u h360)) fun j362 =>
 wtS x347 true (kL1 x354 h355 fun x441 =>
 j362 x441 h355 []) (j362 u h355 [])) fun j356 =>
 wtS x347 true (kFA 309 x351 fun x442 =>
 j356 x442 h352) (j356 u h352)) fun j353 =>
 wtS x347 true (kNilc x348 fun x443 =>
 j353 x443 h349) (j353 u h349)) fun j350 =>
 wtS x347 true (j350 x243 h339) (j350 u h339)) k x14 u u u u u u u .nils u u u u u u u u u u u u u u u u u u u u u u u u u u u u u u u u u u u u u u u u u u u u u u u u u u u u u u u u u u u u u u u u u u u u u u u u u u u u u u u u u u u u u u u h110)) k x0 u u u u x4 u u u u u u u u u u u x13 (qi 0) u u u u u u u u u u u u u u u u u u u u u u u u u u u u u u u u u u u u u u u u u u u u u u u u u u u u u u u u u u u u u u u u u u u u u u u u u u u u u h8))
theorem p76_ok (k : Nat) : p76 k = funcS k 3 lit76 := by kernel_rfl
def p81 (_ : Nat) : CtxK → List V → TH → R := fun X => ap 1 (fun x0 h1 =>
 kNew zr3 h1 fun x2 h3 =>
 kEqI false x0 (qb 1) fun x4 =>
 jc (α := Cur 32) (fun x5 x6 x7 x8 x9 x10 x11 x12 x13 x14 x15 x16 x17 x18 x19 x20 x21 x22 x23 x24 x25 x26 x27 x28 x29 x30 x31 x32 x33 x34 x35 x36 h37 =>
 brS x9 (kB zr3 [(0, 1, qt), (1, 1, qt)] fun x39 =>
 kSA 11 x7 x39 h37 fun _ h41 =>
 rsS [.cell 2 true 11] [x5, x6, x7, x8, x9, x10, x11, x12, x39, x14, x15, x16, x17, x18, x19, x20, x21, x22, x23, x24, x25, x26, x27, x28, x29, x30, x31, x32, x33, x34, x35, x36] h41) (kEqI false x8 (qb 2) fun x42 =>
 brS x42 (kB zr3 [(0, 1, qt), (1, 1, qt), (2, 1, qt), (3, 1, qt)] fun x43 =>
 kSA 11 x7 x43 h37 fun _ h45 =>
 rsS [.cell 2 true 11] [x5, x6, x7, x8, x9, x10, x11, x12, x13, x42, x42, x43, x17, x18, x19, x20, x21, x22, x23, x24, x25, x26, x27, x28, x29, x30, x31, x32, x33, x34, x35, x36] h45) (kEqI false x8 (qb 3) fun x46 =>
 brS x46 (kB zr3 [(0, 1, qt), (1, 1, qt), (3, 1, qt)] fun x47 =>
 kSA 11 x7 x47 h37 fun _ h49 =>
 rsS [.cell 2 true 11] [x5, x6, x7, x8, x9, x10, x11, x12, x13, x42, x42, x16, x46, x46, x47, x20, x21, x22, x23, x24, x25, x26, x27, x28, x29, x30, x31, x32, x33, x34, x35, x36] h49) (kEqI false x8 (qb 5) fun x50 =>
 brS x50 (kB zr3 [(0, 1, qt), (3, 1, qt)] fun x51 =>
 kSA 11 x7 x51 h37 fun _ h53 =>
 rsS [.cell 2 true 11] [x5, x6, x7, x8, x9, x10, x11, x12, x13, x42, x42, x16, x46, x46, x19, x50, x50, x51, x23, x24, x25, x26, x27, x28, x29, x30, x31, x32, x33, x34, x35, x36] h53) (kEqI false x8 (qb 6) fun x54 =>
 brS x54 (kB zr3 [(0, 1, qt)] fun x55 =>
 kSA 11 x7 x55 h37 fun _ h57 =>
 rsS [.cell 2 true 11] [x5, x6, x7, x8, x9, x10, x11, x12, x13, x42, x42, x16, x46, x46, x19, x50, x50, x22, x54, x54, x55, x26, x27, x28, x29, x30, x31, x32, x33, x34, x35, x36] h57) (kEqI false x8 (qb 17) fun x58 =>
 brS x58 (kB zr3 [(8, 1, qt)] fun x59 =>
 kSA 11 x7 x59 h37 fun _ h61 =>
 rsS [.cell 2 true 11] [x5, x6, x7, x8, x9, x10, x11, x12, x13, x42, x42, x16, x46, x46, x19, x50, x50, x22, x54, x54, x25, x58, x58, x59, x29, x30, x31, x32, x33, x34, x35, x36] h61) (kEqI false x8 (qb 15) fun x62 =>
 brS x62 (kB zr3 [(9, 1, qt)] fun x63 =>
 kSA 11 x7 x63 h37 fun _ h65 =>
 rsS [.cell 2 true 11] [x5, x6, x7, x8, x9, x10, x11, x12, x13, x42, x42, x16, x46, x46, x19, x50, x50, x22, x54, x54, x25, x58, x58, x28, x62, x62, x63, x32, x33, x34, x35, x36] h65) (kEqI false x8 (qb 16) fun x66 =>
 brS x66 (kB zr3 [(9, 1, qt), (10, 1, qt)] fun x67 =>
 kSA 11 x7 x67 h37 fun _ h69 =>
 rsS [.cell 2 true 11] [x5, x6, x7, x8, x9, x10, x11, x12, x13, x42, x42, x16, x46, x46, x19, x50, x50, x22, x54, x54, x25, x58, x58, x28, x62, x62, x31, x66, x66, x67, x35, x36] h69) (kCall X 125 [x5] h37 fun x70 h71 =>
 kSA 11 x7 x70 h71 fun _ h73 =>
 rsS [.cell 2 true 11] [x5, x6, x7, x8, x9, x10, x11, x12, x13, x42, x42, x16, x46, x46, x19, x50, x50, x22, x54, x54, x25, x58, x58, x28, x62, x62, x31, x66, x66, x34, x5, x70] h73))))))))) fun j38 =>
 brS x4 (j38 x0 u x2 x0 x4 u u u u u u u u u u u u u u u u u u u u u u u u u u u h3) (kEqI false x0 (qb 4) fun x74 =>
 jc (α := Cur 32) (fun x75 _ x77 x78 x79 _ _ _ _ _ _ _ _ _ _ _ _ _ _ _ _ _ _ _ _ _ _ _ _ _ _ _ h107 =>
 j38 x75 u x77 x78 x79 u u u u u u u u u u u u u u u u u u u u u u u u u u u h107) fun j108 =>
 brS x74 (j108 x0 u x2 x0 x74 u u u u u u u u u u u u u u u u u u u u u u u u u u u h3) (kEqI false x0 (qb 18) fun x109 =>
 j108 x0 u x2 x0 x109 u u u u u u u u u u u u u u u u u u u u u u u u u u u h3)))
theorem p81_ok (k : Nat) : p81 k = funcS k 1 lit81 := by kernel_rfl
def p102 (_ : Nat) : CtxK → List V → TH → R := fun _ => ap 1 (fun x0 h1 =>
 kNew (V.cellsR x0) h1 fun x2 h3 =>
 kFA 0 x2 fun x4 =>
 kL1 x4 h3 fun x5 =>
 some (x5, h3))
theorem p102_ok (k : Nat) : p102 k = funcS k 1 lit102 := by kernel_rfl
def p107 (_ : Nat) : CtxK → List V → TH → R := fun X => ap 1 (fun x0 h1 =>
 kNew (V.cellsR x0) h1 fun x2 h3 =>
 kLA 49 x2 h3 fun x4 =>
 kCall X 47 [x4] h3 fun x5 h6 =>
 kNot x5 fun x7 =>
 some (x7, h6))
theorem p107_ok (k : Nat) : p107 k = funcS k 1 lit107 := by kernel_rfl
def p112 (k : Nat) : CtxK → List V → TH → R := fun X => ap 2 (fun x0 x1 h2 =>
 kNew (V.cellsR x1) h2 fun x3 h4 =>
 kNilc x0 fun x5 =>
 kFA 3 x5 fun x6 =>
 kFA 0 x6 fun x7 =>
 kL1 x7 h4 fun x10 =>
 kNilc x0 fun x11 =>
 kFA 52 x11 fun x12 =>
 kL1 x12 h4 fun x15 =>
 kBin .gtr x10 x15 fun x16 =>
 dokS [h4] [] (jc (α := Cur 92) (fun _ _ _ _ _ _ _ _ _ _ _ _ _ _ _ _ _ _ _ _ _ _ _ _ _ _ _ _ _ _ _ _ _ _ _ _ _ _ _ _ _ _ _ _ _ _ _ _ _ _ _ _ _ _ _ _ _ _ _ _ _ _ _ _ _ _ _ _ _ _ _ _ _ _ _ _ _ _ _ _ _ _ _ _ _ _ _ _ _ _ _ _ h109 =>
 some (.tup [], h109)) fun j110 =>
 brS x16 (j110 u u u u u u u u u u u u u u u u u u u u u u u u u u u u u u u u u u u u u u u u u u u u u u u u u u u u u u u u u u u u u u u u u u u u u u u u u u u u u u u u u u u u u u u u u u u u h4) (kNilc x0 fun x111 =>
 kFA 3 x111 fun x112 =>
 kFA 0 x112 fun x113 =>
 kL1 x113 h4 fun x116 =>
 kNilc x0 fun x117 =>
 kFA 52 x117 fun x118 =>
 kL1 x118 h4 fun x121 =>
 kBin .lss x116 x121 fun x122 =>
 dokS [h4] [] (jc (α := Cur 92) (fun _ _ _ _ _ _ _ _ _ _ _ _ _ _ _ _ _ _ _ _ _ _ _ _ _ _ _ _ _ _ _ _ _ _ _ _ _ _ _ _ _ _ _ _ _ _ _ _ _ _ _ _ _ _ _ _ _ _ _ _ _ _ _ _ _ _ _ _ _ _ _ _ _ _ _ _ _ _ _ _ _ _ _ _ _ _ _ _ _ _ _ _ h215 =>
 j110 u u u u u u u u u u u u u u u u u u u u u u u u u u u u u u u u u u u u u u u u u u u u u u u u u u u u u u u u u u u u u u u u u u u u u u u u u u u u u u u u u u u u u u u u u u u u h215) fun j216 =>
 brS x122 (kNilc x0 fun x217 =>
 kFA 3 x217 fun x218 =>
 kLA 49 x218 h4 fun x221 =>
 kLA 52 x3 h4 fun x224 =>
 kNew zr0 h4 fun x225 h226 =>
 kCall X 158 [x221, x224] h226 fun x227 h228 =>
 kExt x227 0 fun x229 =>
 kExt x227 1 fun x230 =>
 kSA 49 x225 x229 h228 fun _ h232 =>
 dokS [h226, h228, h232] [] (kEqI false x230 (qi 0) fun x233 =>
 jc (α := Cur 92) (fun _ _ _ _ _ _ _ _ _ _ _ _ _ _ _ _ _ _ _ _ _ _ _ _ _ _ _ _ _ _ _ _ _ _ _ _ _ _ _ _ _ _ _ _ _ _ _ _ _ _ _ _ _ _ _ _ _ _ _ _ _ _ _ _ _ _ _ _ _ _ _ _ _ _ _ _ _ _ _ _ _ _ _ _ _ _ _ _ _ _ _ _ h326 =>
 j216 u u u u u u u u u u u u u u u u u u u u u u u u u u u u u u u u u u u u u u u u u u u u u u u u u u u u u u u u u u u u u u u u u u u u u u u u u u u u u u u u u u u u u u u u u u u u h326) fun j327 =>
 brS x233 (kLA 49 x225 h232 fun x328 =>
 kNilc x0 fun x329 =>
 kFA 3 x329 fun x330 =>
 kSA 49 x330 x328 h232 fun _ h332 =>
 j327 u u u u u u u u u u u u u u u u u u u u u u u u u u u u u u u u u u u u u u u u u u u u u u u u u u u u u u u u u u u u u u u u u u u u u u u u u u u u u u u u u u u u u u u u u u u u h332) (j327 u u u u u u u u u u u u u u u u u u u u u u u u u u u u u u u u u u u u u u u u u u u u u u u u u u u u u u u u u u u u u u u u u u u u u u u u u u u u u u u u u u u u u u u u u u u u h232))) (kFA 0 x3 fun x333 =>
 kL1 x333 h4 fun x334 =>
 kEqI false x334 (qi 1) fun x335 =>
 jc (α := Cur 92) (fun _ _ _ _ _ _ _ _ _ _ _ _ _ _ _ _ _ _ _ _ _ _ _ _ _ _ _ _ _ _ _ _ _ _ _ _ _ _ _ _ _ _ _ _ _ _ _ _ _ _ _ _ _ _ _ _ _ _ _ _ _ _ _ _ _ _ _ _ _ _ _ _ _ _ _ _ _ _ _ _ _ _ _ _ _ _ _ _ _ _ _ _ h428 =>
 j216 u u u u u u u u u u u u u u u u u u u u u u u u u u u u u u u u u u u u u u u u u u u u u u u u u u u u u u u u u u u u u u u u u u u u u u u u u u u u u u u u u u u u u u u u u u u u h428) fun j429 =>
 brS x335 (kFA 2 x3 fun x430 =>
 kL1 x430 h4 fun x431 =>
 kLen x431 fun x432 =>
 lp (α := Cur 92) (zN 92) (fun n526 x433 _ _ _ _ _ _ _ _ _ _ _ _ _ _ _ _ _ _ _ _ _ _ _ _ _ _ _ _ _ _ _ _ _ _ _ _ _ _ _ _ _ _ _ _ _ _ _ _ _ _ _ x485 x486 x487 _ _ _ _ _ _ _ _ _ _ _ _ _ _ _ _ _ _ _ _ _ _ _ _ _ _ _ _ _ _ _ _ _ _ _ _ _ h525 =>
 kBin .lss x487 x486 fun x527 =>
 brS x527 (kIS 8 x485 x487 fun x528 =>
 kLA 8 x528 h525 fun x529 =>
 kNew zr2 h525 fun x530 h531 =>
 kSA 8 x530 x529 h531 fun _ h533 =>
 kLA 8 x530 h533 fun x534 =>
 kCall X 117 [x433, x534] h533 fun _ h536 =>
 kBin .add x487 (qi 1) fun x537 =>
 n526 x433 u u u u u u u u u u u u u u u u u u u u u u u u u u u u u u u u u u u u u u u u u u u u u u u u u u u x485 x486 x537 u u u u u u u u u u u u u u u u u u u u u u u u u u u u u u u u u u u u u h536) (j429 u u u u u u u u u u u u u u u u u u u u u u u u u u u u u u u u u u u u u u u u u u u u u u u u u u u u u u u u u u u u u u u u u u u u u u u u u u u u u u u u u u u u u u u u u u u u h525)) k x0 u u u u u u u u u u u u u u u u u u u u u u u u u u u u u u u u u u u u u u u u u u u u u u u u u u u x431 x432 (qi 0) u u u u u u u u u u u u u u u u u u u u u u u u u u u u u u u u u u u u u h4) (kFA 0 x3 fun x538 =>
 kL1 x538 h4 fun x541 =>
 kEqI false x541 (qi 2) fun x542 =>
 jc (α := JT) (fun x543 h544 =>
 jc (α := JT) (fun x546 h547 =>
 jc (α := V → TH → PD → R) (fun x551 h552 d553 =>
 jc (α := JT) (fun x555 h556 =>
 jc (α := JT) (fun x558 h559 =>
 jc (α := JT) (fun x561 h562 =>
 jc (α := V → TH → PD → R) (fun x566 h567 d568 =>
 jc (α := JT) (fun x570 h571 =>
 kPick x542 x570 qf fun x573 =>
 dokS [h571] d568 (jc (α := Cur 92) (fun _ _ _ _ _ _ _ _ _ _ _ _ _ _ _ _ _ _ _ _ _ _ _ _ _ _ _ _ _ _ _ _ _ _ _ _ _ _ _ _ _ _ _ _ _ _ _ _ _ _ _ _ _ _ _ _ _ _ _ _ _ _ _ _ _ _ _ _ _ _ _ _ _ _ _ _ _ _ _ _ _ _ _ _ _ _ _ _ _ _ _ _ h666 =>
 j429 u u u u u u u u u u u u u u u u u u u u u u u u u u u u u u u u u u u u u u u u u u u u u u u u u u u u u u u u u u u u u u u u u u u u u u u u u u u u u u u u u u u u u u u u u u u u h666) fun j667 =>
 brS x573 (kFA 3 x3 fun x668 =>
 kLA 49 x668 h571 fun x669 =>
 kCall X 18 [x669] h571 fun x670 h671 =>
 kExt x670 0 fun _ =>
 kExt x670 1 fun x673 =>
 kCall X 115 [x0] h671 fun x674 h675 =>
 kBin .gtr x673 x674 fun x676 =>
 jc (α := Cur 92) (fun _ _ _ _ _ _ _ _ _ _ _ _ _ _ _ _ _ _ _ _ _ _ _ _ _ _ _ _ _ _ _ _ _ _ _ _ _ _ _ _ _ _ _ _ _ _ _ _ _ _ _ _ _ _ _ _ _ _ _ _ _ _ _ _ _ _ _ _ _ _ _ _ _ _ _ _ _ _ _ _ _ _ _ _ _ _ _ _ _ _ _ _ h769 =>
 j667 u u u u u u u u u u u u u u u u u u u u u u u u u u u u u u u u u u u u u u u u u u u u u u u u u u u u u u u u u u u u u u u u u u u u u u u u u u u u u u u u u u u u u u u u u u u u h769) fun j770 =>
 brS x676 (kFA 3 x3 fun x771 =>
 kLA 49 x771 h675 fun x772 =>
 kCall X 34 [x772] h675 fun x773 h774 =>
 kNilc x0 fun x775 =>
 kFA 3 x775 fun x776 =>
 kSA 49 x776 x773 h774 fun _ h778 =>
 j770 u u u u u u u u u u u u u u u u u u u u u u u u u u u u u u u u u u u u u u u u u u u u u u u u u u u u u u u u u u u u u u u u u u u u u u u u u u u u u u u u u u u u u u u u u u u u h778) (j770 u u u u u u u u u u u u u u u u u u u u u u u u u u u u u u u u u u u u u u u u u u u u u u u u u u u u u u u u u u u u u u u u u u u u u u u u u u u u u u u u u u u u u u u u u u u u h675)) (j667 u u u u u u u u u u u u u u u u u u u u u u u u u u u u u u u u u u u u u u u u u u u u u u u u u u u u u u u u u u u u u u u u u u u u u u u u u u u u u u u u u u u u u u u u u u u u h571))) fun j572 =>
 wtS x542 true (kEqI false x551 x566 fun x779 =>
 j572 x779 h567) (j572 u h567)) fun j569 =>
 wtS x542 true (kL1 x561 h562 fun x780 =>
 j569 x780 h562 d553) (j569 u h562 d553)) fun j563 =>
 wtS x542 true (kFA 52 x558 fun x781 =>
 j563 x781 h559) (j563 u h559)) fun j560 =>
 wtS x542 true (kNilc x555 fun x782 =>
 j560 x782 h556) (j560 u h556)) fun j557 =>
 wtS x542 true (j557 x0 h552) (j557 u h552)) fun j554 =>
 wtS x542 true (kL1 x546 h547 fun x783 =>
 j554 x783 h547 []) (j554 u h547 [])) fun j548 =>
 wtS x542 true (kFA 0 x543 fun x784 =>
 j548 x784 h544) (j548 u h544)) fun j545 =>
 wtS x542 true (kFA 3 x3 fun x785 =>
 j545 x785 h4) (j545 u h4)))))))
theorem p112_ok (k : Nat) : p112 k = funcS k 2 lit112 := by kernel_rfl
def p129 (_ : Nat) : CtxK → List V → TH → R := fun X => ap 1 (fun x0 h1 =>
 kNew (V.cellsR x0) h1 fun x2 h3 =>
 kLA 49 x2 h3 fun x4 =>
 kCall X 47 [x4] h3 fun x5 h6 =>
 jc (α := JT) (fun x7 h8 =>
 jc (α := JT) (fun x10 h11 =>
 jc (α := JT) (fun x13 h14 =>
 jc (α := JT) (fun x16 h17 =>
 jc (α := JT) (fun x19 h20 =>
 jc (α := JT) (fun x22 h23 =>
 jc (α := JT) (fun x25 h26 =>
 kPick x5 x25 qf fun x28 =>
 some (x28, h26)) fun j27 =>
 wtS x5 true (kCall X 24 [x7, x22] h23 fun x29 h30 =>
 j27 x29 h30) (j27 u h23)) fun j24 =>
 wtS x5 true (kB zr0 [(0, 1, x13), (40, 8, x19)] fun x31 =>
 j24 x31 h20) (j24 u h20)) fun j21 =>
 wtS x5 true (kLA 8 x16 h17 fun x32 =>
 j21 x32 h17) (j21 u h17)) fun j18 =>
 wtS x5 true (kFA 40 x2 fun x33 =>
 j18 x33 h14) (j18 u h14)) fun j15 =>
 wtS x5 true (kL1 x10 h11 fun x34 =>
 j15 x34 h11) (j15 u h11)) fun j12 =>
 wtS x5 true (kFA 0 x2 fun x35 =>
 j12 x35 h8) (j12 u h8)) fun j9 =>
 wtS x5 true (kLA 49 x2 h6 fun x36 =>
 j9 x36 h6) (j9 u h6))
theorem p129_ok (k : Nat) : p129 k = funcS k 1 lit129 := by kernel_rfl
def p131 (k : Nat) : CtxK → List V → TH → R := fun _ => ap 1 (fun x0 h1 =>
 kNew (V.cellsR x0) h1 fun x2 h3 =>
 kFA 0 x2 fun x4 =>
 kL1 x4 h3 fun x5 =>
 kNot x5 fun x6 =>
 brS x6 (kLA 5 x2 h3 fun x7 =>
 kB [qf, qs, qs, qs, qs] [] fun x8 =>
 kEq' false (.agg [.bool, .str, .str, .str, .str]) x7 x8 fun x9 =>
 some (x9, h3)) (kFA 2 x2 fun x10 =>
 kLA 3 x10 h3 fun x11 =>
 lp (α := Cur 24) (zN 24) (fun n37 _ x13 _ _ _ _ _ _ _ _ _ _ x24 x25 _ _ _ _ _ _ _ _ _ _ h36 =>
 kBin .lss x25 (qi 3) fun x38 =>
 brS x38 (kIx 3 x24 x25 fun x39 =>
 kP (lenV true x39) fun x40 =>
 kBin .gtr x40 (qi 16) fun x41 =>
 brS x41 (some (qf, h36)) (kBin .add x25 (qi 1) fun x42 =>
 n37 u x13 u u u u u u u u u u x24 x42 u u u u u u u u u u h36)) (kFA 1 x13 fun x43 =>
 kL1 x43 h36 fun x44 =>
 kP (lenV true x44) fun x45 =>
 kBin .leq x45 (qi 16) fun x46 =>
 some (x46, h36))) k u x2 u u u u u u u u u u x11 (qi 0) u u u u u u u u u u h3))
theorem p131_ok (k : Nat) : p131 k = funcS k 1 lit131 := by kernel_rfl
def p133 (_ : Nat) : CtxK → List V → TH → R := fun _ => ap 1 (fun x0 h1 =>
 kEqI false x0 (qb 1) fun x2 =>
 brS x2 (some ((.fn 168 [] []), h1)) (kEqI false x0 (qb 2) fun x3 =>
 brS x3 (some ((.fn 169 [] []), h1)) (kEqI false x0 (qb 3) fun x4 =>
 brS x4 (some ((.fn 170 [] []), h1)) (some ((.fn 171 [] []), h1)))))
theorem p133_ok (k : Nat) : p133 k = funcS k 1 lit133 := by kernel_rfl
def p134 (k : Nat) : CtxK → List V → TH → R := fun X => ap 2 (fun x0 x1 h2 =>
 kLen x0 fun x3 =>
 lp (α := Cur 19) (zN 19) (fun n24 x4 x5 _ _ _ _ _ x11 x12 _ _ _ _ _ _ _ _ _ _ h23 =>
 kBin .lss x12 x11 fun x25 =>
 brS x25 (kIS 1 x4 x12 fun x26 =>
 kL1 x26 h23 fun x27 =>
 kCv X x5 [x27] h23 fun x28 h29 =>
 brS x28 (some (x12, h29)) (kBin .add x12 (qi 1) fun x30 =>
 n24 x4 x5 u u u u u x11 x30 u u u u u u u u u u h29)) (some ((.int .i64 (-1)), h23))) k x0 x1 u u u u u x3 (qi 0) u u u u u u u u u u h2)
theorem p134_ok (k : Nat) : p134 k = funcS k 2 lit134 := by kernel_rfl
def p141 (_ : Nat) : CtxK → List V → TH → R := fun X => ap 2 (fun x0 x1 h2 =>
 kCall X 177 [x0] h2 fun x3 h4 =>
 jc (α := JT) (fun x5 h6 =>
 jc (α := JT) (fun x8 h9 =>
 jc (α := JT) (fun x11 h12 =>
 kPick x3 x11 qf fun x14 =>
 jc (α := JT) (fun x15 h16 =>
 jc (α := JT) (fun x18 h19 =>
 jc (α := JT) (fun x21 h22 =>
 kPick x14 qt x21 fun x24 =>
 some (x24, h22)) fun j23 =>
 wtS x14 false (kBin .lss x15 x18 fun x25 =>
 j23 x25 h19) (j23 u h19)) fun j20 =>
 wtS x14 false (j20 x1 h16) (j20 u h16)) fun j17 =>
 wtS x14 false (j17 x0 h12) (j17 u h12)) fun j13 =>
 wtS x3 true (kNot x8 fun x26 =>
 j13 x26 h9) (j13 u h9)) fun j10 =>
 wtS x3 true (kCall X 177 [x5] h6 fun x27 h28 =>
 j10 x27 h28) (j10 u h6)) fun j7 =>
 wtS x3 true (j7 x1 h4) (j7 u h4))
theorem p141_ok (k : Nat) : p141 k = funcS k 2 lit141 := by kernel_rfl
def p152 (k : Nat) : CtxK → List V → TH → R := fun X => ap 2 (fun x0 x1 h2 =>
 kCall X 183 [x0, x1] h2 fun x3 h4 =>
 kEqI false x3 (.int .i64 (-1)) fun x5 =>
 brS x5 (some (x0, h4)) (kBin .add x3 (qi 1) fun x6 =>
 lp (α := Cur 42) (zN 42) (fun n50 x7 x8 _ _ _ x12 x13 _ _ _ _ _ _ _ _ _ _ _ _ _ _ _ _ _ _ _ _ _ _ _ _ _ _ _ _ _ _ _ _ _ _ _ h49 =>
 kLen x7 fun x51 =>
 kBin .lss x13 x51 fun x52 =>
 brS x52 (kIS 2 x7 x13 fun x53 =>
 kLA 2 x53 h49 fun x54 =>
 kNew [(qw 0), .nils] h49 fun x55 h56 =>
 kSA 2 x55 x54 h56 fun _ h58 =>
 kLA 2 x55 h58 fun x59 =>
 kCv X x8 [x59] h58 fun x60 h61 =>
 kNot x60 fun x62 =>
 jc (α := Cur 42) (fun x63 x64 _ _ _ x68 x69 _ _ _ _ _ _ _ _ _ _ _ _ _ _ _ _ _ _ _ _ _ _ _ _ _ _ _ _ _ _ _ _ _ _ _ h105 =>
 kBin .add x69 (qi 1) fun x107 =>
 n50 x63 x64 u u u x68 x107 u u u u u u u u u u u u u u u u u u u u u u u u u u u u u u u u u u u h105) fun j106 =>
 brS x62 (kLA 2 x55 h61 fun x108 =>
 kIS 2 x7 x12 fun x109 =>
 kSA 2 x109 x108 h61 fun _ h111 =>
 kBin .add x12 (qi 1) fun x112 =>
 j106 x7 x8 u u u x112 x13 u u u u u u u u u u u u u u u u u u u u u u u u u u u u u u u u u u u h111) (j106 x7 x8 u u u x12 x13 u u u u u u u u u u u u u u u u u u u u u u u u u u u u u u u u u u u h61)) (kP (sliceE 2 x7 (some x12) none) fun x113 =>
 kCl [(qw 0), .nils] 2 x113 h49 fun _ h115 =>
 kP (sliceE 2 x7 none (some x12)) fun x116 =>
 some (x116, h115))) k x0 x1 u u u x3 x6 u u u u u u u u u u u u u u u u u u u u u u u u u u u u u u u u u u u h4))
theorem p152_ok (k : Nat) : p152 k = funcS k 2 lit152 := by kernel_rfl
def p162 (_ : Nat) : CtxK → List V → TH → R := fun X => ap 3 (fun x0 x1 x2 h3 =>
 kNew zr1 h3 fun x4 h5 =>
 kL1 x1 h5 fun x6 =>
 kLA 8 x2 h5 fun x7 =>
 kCall X 163 [x6, x0, x7] h5 fun x8 h9 =>
 kSA 131 x4 x8 h9 fun _ h11 =>
 rsS [.cell 4 true 131] [x0, x1, x2, u, x4, x6, x0, x7, x8] h11)
theorem p162_ok (k : Nat) : p162 k = funcS k 3 lit162 := by kernel_rfl
def p167 (k : Nat) : CtxK → List V → TH → R := fun _ => ap 2 (fun x0 x1 h2 =>
 kLen x0 fun x3 =>
 lp (α := Cur 19) (zN 19) (fun n24 x4 x5 _ _ _ _ _ x11 x12 _ _ _ _ _ _ _ _ _ _ h23 =>
 kBin .lss x12 x11 fun x25 =>
 brS x25 (kIS 1 x4 x12 fun x26 =>
 kL1 x26 h23 fun x27 =>
 kEq' false (.leaf .bool) x5 x27 fun x28 =>
 brS x28 (some (x12, h23)) (kBin .add x12 (qi 1) fun x29 =>
 n24 x4 x5 u u u u u x11 x29 u u u u u u u u u u h23)) (some ((.int .i64 (-1)), h23))) k x0 x1 u u u u u x3 (qi 0) u u u u u u u u u u h2)
theorem p167_ok (k : Nat) : p167 k = funcS k 2 lit167 := by kernel_rfl
def p177 (_ : Nat) : CtxK → List V → TH → R := fun _ => ap 1 (fun x0 h1 =>
 kEqI true x0 x0 fun x2 =>
 some (x2, h1))
theorem p177_ok (k : Nat) : p177 k = funcS k 1 lit177 := by kernel_rfl
def p181 (_ : Nat) : CtxK → List V → TH → R := fun _ => ap 1 (fun x0 h1 =>
 kEq' false (.nilR .sl) x0 .nils fun x2 =>
 brS x2 (some (.nils, h1)) (kBS 2 [(qw 0), .nils] 0 [] h1 fun x3 h4 =>
 kAp 2 32 x3 x0 h4 fun x5 h6 =>
 some (x5, h6)))
theorem p181_ok (k : Nat) : p181 k = funcS k 1 lit181 := by kernel_rfl
def p195 (_ : Nat) : CtxK → List V → TH → R := fun _ => ap 3 (fun x0 x1 x2 h3 =>
 kL1 x1 h3 fun x6 =>
 kEqI false x0 x6 fun x7 =>
 jc (α := V → TH → PD → R) (fun x10 h11 d12 =>
 jc (α := JT) (fun x14 h15 =>
 jc (α := JT) (fun x17 h18 =>
 jc (α := JT) (fun x20 h21 =>
 jc (α := JT) (fun x23 h24 =>
 jc (α := JT) (fun x26 h27 =>
 jc (α := JT) (fun x29 h30 =>
 jc (α := V → TH → PD → R) (fun x34 h35 d36 =>
 jc (α := V → TH → PD → R) (fun x40 h41 d42 =>
 jc (α := V → TH → PD → R) (fun x46 h47 d48 =>
 jc (α := JT) (fun x50 h51 =>
 jc (α := JT) (fun x53 h54 =>
 jc (α := JT) (fun x56 h57 =>
 jc (α := JT) (fun x59 h60 =>
 jc (α := JT) (fun x62 h63 =>
 jc (α := V → TH → PD → R) (fun x67 h68 d69 =>
 jc (α := JT) (fun x71 h72 =>
 kPick x7 qt x71 fun x74 =>
 dokS [h72] d69 (some (x74, h72))) fun j73 =>
 wtS x7 false (kEqI false x34 x67 fun x75 =>
 j73 x75 h68) (j73 u h68)) fun j70 =>
 wtS x7 false (kL1 x62 h63 fun x76 =>
 j70 x76 h63 d48) (j70 u h63 d48)) fun j64 =>
 wtS x7 false (kFA 2 x59 fun x77 =>
 j64 x77 h60) (j64 u h60)) fun j61 =>
 wtS x7 false (kIA 5 3 x56 x46 fun x78 =>
 j61 x78 h57) (j61 u h57)) fun j58 =>
 wtS x7 false (kFA 1 x53 fun x79 =>
 j58 x79 h54) (j58 u h54)) fun j55 =>
 wtS x7 false (kFA 0 x50 fun x80 =>
 j55 x80 h51) (j55 u h51)) fun j52 =>
 wtS x7 false (kNilc x40 fun x81 =>
 j52 x81 h47) (j52 u h47)) fun j49 =>
 wtS x7 false (kL1 x1 h41 fun x82 =>
 j49 x82 h41 d42) (j49 u h41 d42)) fun j43 =>
 wtS x7 false (kL1 x2 h35 fun x83 =>
 j43 x83 h35 d36) (j43 u h35 d36)) fun j37 =>
 wtS x7 false (kL1 x29 h30 fun x84 =>
 j37 x84 h30 d12) (j37 u h30 d12)) fun j31 =>
 wtS x7 false (kFA 2 x26 fun x85 =>
 j31 x85 h27) (j31 u h27)) fun j28 =>
 wtS x7 false (kIA 5 3 x23 x14 fun x86 =>
 j28 x86 h24) (j28 u h24)) fun j25 =>
 wtS x7 false (kFA 1 x20 fun x87 =>
 j25 x87 h21) (j25 u h21)) fun j22 =>
 wtS x7 false (kFA 0 x17 fun x88 =>
 j22 x88 h18) (j22 u h18)) fun j19 =>
 wtS x7 false (kNilc x10 fun x89 =>
 j19 x89 h15) (j19 u h15)) fun j16 =>
 wtS x7 false (j16 x0 h11) (j16 u h11)) fun j13 =>
 wtS x7 false (kL1 x2 h3 fun x90 =>
 j13 x90 h3 []) (j13 u h3 []))
theorem p195_ok (k : Nat) : p195 k = funcS k 3 lit195 := by kernel_rfl
def p198 (_ : Nat) : CtxK → List V → TH → R := fun X => ap 2 (fun x0 x1 h2 =>
 kP (minE true x1 (qi 1)) fun x3 =>
 kP (minE false x3 (qi 16)) fun x4 =>
 kBin .rem x0 (qw 65536) fun x5 =>
 kBin .add x5 (qw 1) fun x6 =>
 kCall X 207 [x6] h2 fun x7 h8 =>
 kBin .sub (qi 1048576) x7 fun x9 =>
 kBin .mul x9 (qi 4096) fun x10 =>
 kBin .quo x10 x4 fun x11 =>
 kP (unE .neg x11) fun x12 =>
 some (x12, h8))
theorem p198_ok (k : Nat) : p198 k = funcS k 2 lit198 := by kernel_rfl
def p217 (_ : Nat) : CtxK → List V → TH → R := fun _ => ap 1 (fun x0 h1 =>
 kNilc x0 fun x2 =>
 kFA 0 x2 fun x3 =>
 kL1 x3 h1 fun x6 =>
 kNilc x0 fun x7 =>
 kFA 0 x7 fun x8 =>
 kL1 x8 h1 fun x11 =>
 kBin .mul x6 x11 fun x12 =>
 kBin .shr x12 (.int .u64 31) fun x13 =>
 kNilc x0 fun x14 =>
 kFA 0 x14 fun x15 =>
 kS1 x15 x13 h1 fun _ h17 =>
 dokS [h1, h17] [] (kNilc x0 fun x18 =>
 kFA 1 x18 fun x19 =>
 kL1 x19 h17 fun x20 =>
 kBin .shl x20 (.int .u64 1) fun x21 =>
 kNilc x0 fun x22 =>
 kFA 1 x22 fun x23 =>
 kS1 x23 x21 h17 fun _ h25 =>
 kNilc x0 fun x26 =>
 kFA 0 x26 fun x27 =>
 kL1 x27 h25 fun x28 =>
 kBin .geq x28 (.int .u64 4294967296) fun x29 =>
 jc (α := Cur 41) (fun _ _ _ _ _ _ _ _ _ _ _ _ _ _ _ _ _ _ _ _ _ _ _ _ _ _ _ _ _ _ _ _ _ _ _ _ _ _ _ _ _ h71 =>
 some (.tup [], h71)) fun j72 =>
 brS x29 (kNilc x0 fun x73 =>
 kFA 0 x73 fun x74 =>
 kL1 x74 h25 fun x75 =>
 kBin .shr x75 (.int .u64 1) fun x76 =>
 kNilc x0 fun x77 =>
 kFA 0 x77 fun x78 =>
 kS1 x78 x76 h25 fun _ h80 =>
 kNilc x0 fun x81 =>
 kFA 1 x81 fun x82 =>
 kL1 x82 h80 fun x83 =>
 kBin .or x83 (qi 1) fun x84 =>
 kNilc x0 fun x85 =>
 kFA 1 x85 fun x86 =>
 kS1 x86 x84 h80 fun _ h88 =>
 j72 u u u u u u u u u u u u u u u u u u u u u u u u u u u u u u u u u u u u u u u u u h88) (j72 u u u u u u u u u u u u u u u u u u u u u u u u u u u u u u u u u u u u u u u u u h25)))
theorem p217_ok (k : Nat) : p217 k = funcS k 1 lit217 := by kernel_rfl
end
end Go.PE
