/- The same functions with names for their slots (part 1 of 4), printed by a program of our own: each is what the evaluator's law says of the literal. -/
import Derived.Test.YtcgjkbnijnefjaaGreatDoorMvL3
import Derived.KernelRfl
namespace Go.PE
set_option maxRecDepth 100000
noncomputable section
def p14 (_ : Nat) : CtxK → List V → TH → R := fun X => ap 3 (fun x0 x1 x2 h3 =>
 kNew (V.cellsR x2) h3 fun x4 h5 =>
 kFA 0 x4 fun x6 =>
 kL1 x6 h5 fun x7 =>
 kCall X 37 [x0, x7] h5 fun x8 h9 =>
 kEq' false (.nilR .fn) x8 .nilfn fun x10 =>
 jc (α := V → TH → PD → R) (fun x13 h14 d15 =>
 jc (α := JT) (fun x17 h18 =>
 jc (α := JT) (fun x20 h21 =>
 kPick x10 qt x20 fun x23 =>
 jc (α := JT) (fun x24 h25 =>
 jc (α := V → TH → PD → R) (fun x29 h30 d31 =>
 jc (α := JT) (fun x33 h34 =>
 jc (α := JT) (fun x36 h37 =>
 jc (α := JT) (fun x39 h40 =>
 jc (α := V → TH → PD → R) (fun x44 h45 d46 =>
 jc (α := JT) (fun x48 h49 =>
 jc (α := JT) (fun x51 h52 =>
 jc (α := JT) (fun x54 h55 =>
 kPick x23 qt x54 fun x57 =>
 dokS [h14, h55] d46 (brS x57 (some (.nils, h55)) (kFA 0 x4 fun x58 =>
 kL1 x58 h55 fun x59 =>
 kEqI false x59 (qb 15) fun x60 =>
 jc (α := Cur 62) (fun _ x62 _ _ _ x66 _ x68 _ _ _ _ _ _ _ _ _ _ _ _ _ _ _ _ _ _ _ _ _ _ _ _ _ _ _ _ _ _ _ _ _ _ _ _ _ _ _ _ _ _ _ _ _ _ _ _ _ _ _ _ _ _ h123 =>
 kLA 131 x66 h123 fun x125 =>
 kCv X x68 [x62, x125] h123 fun x126 h127 =>
 some (x126, h127)) fun j124 =>
 brS x60 (kFA 123 x4 fun x128 =>
 kFA 3 x128 fun x129 =>
 kL1 x129 h55 fun x132 =>
 kNilc x0 fun x133 =>
 kFA 2 x133 fun x134 =>
 kL1 x134 h55 fun x137 =>
 kCall X 39 [x132] h55 fun x138 h139 =>
 kEqI true x138 x137 fun x140 =>
 dokS [h55, h139] ((fun h135 => kL1 x134 h135 fun x136 =>
 some (x136, h135), x137, 0, 1) :: []) (brS x140 (some (.nils, h139)) (j124 u x1 u u u x4 u x8 u u u u u u u u u u u u u u u u u u u u u u u u u u u u u u u u u u u u u u u u u u u u u u u u u u u u u u h139))) (kFA 12 x4 fun x141 =>
 kL1 x141 h55 fun x144 =>
 kNilc x0 fun x145 =>
 kFA 2 x145 fun x146 =>
 kL1 x146 h55 fun x149 =>
 kEqI true x144 x149 fun x150 =>
 jc (α := JT) (fun x151 h152 =>
 jc (α := V → TH → PD → R) (fun x156 h157 d158 =>
 jc (α := JT) (fun x160 h161 =>
 jc (α := JT) (fun x163 h164 =>
 jc (α := JT) (fun x166 h167 =>
 jc (α := V → TH → PD → R) (fun x171 h172 d173 =>
 jc (α := JT) (fun x175 h176 =>
 kPick x150 qt x175 fun x178 =>
 dokS [h176] d173 (brS x178 (some (.nils, h176)) (j124 u x1 u u u x4 u x8 u u u u u u u u u u u u u u u u u u u u u u u u u u u u u u u u u u u u u u u u u u u u u u u u u u u u u u h176))) fun j177 =>
 wtS x150 false (kEqI true x156 x171 fun x179 =>
 j177 x179 h172) (j177 u h172)) fun j174 =>
 wtS x150 false (kL1 x166 h167 fun x180 =>
 j174 x180 h167 d158) (j174 u h167 d158)) fun j168 =>
 wtS x150 false (kFA 52 x163 fun x181 =>
 j168 x181 h164) (j168 u h164)) fun j165 =>
 wtS x150 false (kNilc x160 fun x182 =>
 j165 x182 h161) (j165 u h161)) fun j162 =>
 wtS x150 false (j162 x0 h157) (j162 u h157)) fun j159 =>
 wtS x150 false (kL1 x151 h152 fun x183 =>
 j159 x183 h152 []) (j159 u h152 [])) fun j153 =>
 wtS x150 false (kFA 3 x4 fun x184 =>
 j153 x184 h55) (j153 u h55))))) fun j56 =>
 wtS x23 false (kEqI true x29 x51 fun x185 =>
 j56 x185 h52) (j56 u h52)) fun j53 =>
 wtS x23 false (kBin .add (qb 10) x48 fun x186 =>
 j53 x186 h49) (j53 u h49)) fun j50 =>
 wtS x23 false (kConv .u8 x44 fun x187 =>
 j50 x187 h45) (j50 u h45)) fun j47 =>
 wtS x23 false (kL1 x39 h40 fun x188 =>
 j47 x188 h40 d31) (j47 u h40 d31)) fun j41 =>
 wtS x23 false (kFA 0 x36 fun x189 =>
 j41 x189 h37) (j41 u h37)) fun j38 =>
 wtS x23 false (kNilc x33 fun x190 =>
 j38 x190 h34) (j38 u h34)) fun j35 =>
 wtS x23 false (j35 x0 h30) (j35 u h30)) fun j32 =>
 wtS x23 false (kL1 x24 h25 fun x191 =>
 j32 x191 h25 d15) (j32 u h25 d15)) fun j26 =>
 wtS x23 false (kFA 2 x4 fun x192 =>
 j26 x192 h21) (j26 u h21)) fun j22 =>
 wtS x10 false (kNot x17 fun x193 =>
 j22 x193 h18) (j22 u h18)) fun j19 =>
 wtS x10 false (kCall X 38 [x13] h14 fun x194 h195 =>
 j19 x194 h195) (j19 u h14)) fun j16 =>
 wtS x10 false (kLA 131 x4 h9 fun x196 =>
 j16 x196 h9 []) (j16 u h9 []))
theorem p14_ok (k : Nat) : p14 k = funcS k 3 lit14 := by kernel_rfl
def p16 (k : Nat) : CtxK → List V → TH → R := fun X => ap 1 (fun x0 h1 =>
 lp (α := Cur 13) (zN 13) (fun n16 x2 _ _ x5 _ _ _ _ _ _ _ _ _ h15 =>
 kBin .lss x5 (qb 6) fun x17 =>
 brS x17 (kCall X 39 [x5] h15 fun x18 h19 =>
 kEqI false x18 x2 fun x20 =>
 brS x20 (some (x5, h19)) (kBin .add x5 (qb 1) fun x21 =>
 n16 x2 u u x21 u u u u u u u u u h19)) (some ((qb 6), h15))) k x0 u u (qb 0) u u u u u u u u u h1)
theorem p16_ok (k : Nat) : p16 k = funcS k 1 lit16 := by kernel_rfl
def p20 (_ : Nat) : CtxK → List V → TH → R := fun X => ap 2 (fun x0 x1 h2 =>
 kNew (V.cellsR x1) h2 fun x3 h4 =>
 kNilc x0 fun x5 =>
 kFA 0 x5 fun x6 =>
 kL1 x6 h4 fun x9 =>
 kNilc x0 fun x10 =>
 kFA 1 x10 fun x11 =>
 kL1 x11 h4 fun x14 =>
 kCall X 12 [x9, x14] h4 fun x15 h16 =>
 kIS 1 x15 (qi 0) fun x17 =>
 kL1 x17 h16 fun x20 =>
 dokS [h4, h16] [] (kNilc x0 fun x21 =>
 kFA 7 x21 fun x22 =>
 kL1 x22 h16 fun x25 =>
 kNilc x0 fun x26 =>
 kFA 2 x26 fun x27 =>
 kIA 5 1 x27 x20 fun x28 =>
 kL1 x28 h16 fun x31 =>
 kNilc x0 fun x32 =>
 kFA 0 x32 fun x33 =>
 kL1 x33 h16 fun x36 =>
 kFA 0 x3 fun x37 =>
 kL1 x37 h16 fun x40 =>
 kBin .add (qb 20) x40 fun x41 =>
 kBin .add (qi 10) x20 fun x42 =>
 kConv .u8 x42 fun x43 =>
 kLA 6 x3 h16 fun x46 =>
 kB zr1 [(0, 1, (qb 15)), (1, 1, x41), (2, 1, x43), (123, 6, x46)] fun x47 =>
 kCall X 14 [x31, x36, x47] h16 fun x48 h49 =>
 kAp 131 1400 x25 x48 h49 fun x50 h51 =>
 kNilc x0 fun x52 =>
 kFA 7 x52 fun x53 =>
 kS1 x53 x50 h51 fun _ h55 =>
 dokS [h16, h49, h51, h55] ((fun h23 => kL1 x22 h23 fun x24 =>
 some (x24, h23), x25, 0, 1) :: []) (some (.tup [], h55))))
theorem p20_ok (k : Nat) : p20 k = funcS k 2 lit20 := by kernel_rfl
def p24 (_ : Nat) : CtxK → List V → TH → R := fun X => ap 3 (fun x0 x1 x2 h3 =>
 kNew (V.cellsR x2) h3 fun x4 h5 =>
 kLA 49 x4 h5 fun x6 =>
 kCall X 36 [x6] h5 fun x7 h8 =>
 kB zr8 [(0, 1, x0), (2, 1, x1), (3, 49, x7)] fun x9 =>
 kNew (V.cellsR x9) h8 fun x10 h11 =>
 some (x10, h11))
theorem p24_ok (k : Nat) : p24 k = funcS k 3 lit24 := by kernel_rfl
def p36 (_ : Nat) : CtxK → List V → TH → R := fun _ => ap 1 (fun x0 h1 =>
 kNew (V.cellsR x0) h1 fun x2 h3 =>
 kNew zr0 h3 fun x4 h5 =>
 kFA 48 x2 fun x6 =>
 kL1 x6 h5 fun x7 =>
 kLen x7 fun x8 =>
 kMS 8 40 zr2 x8 x8 h5 fun x9 h10 =>
 kFA 48 x2 fun x11 =>
 kL1 x11 h10 fun x12 =>
 kCo 8 x9 x12 h10 fun x13 h14 =>
 kFA 48 x2 fun x15 =>
 kS1 x15 x9 h14 fun _ h17 =>
 kLA 49 x2 h17 fun x18 =>
 kSA 49 x4 x18 h17 fun _ h20 =>
 rsS [.cell 2 true 49] [x0, x2, x4, x9, x6, x7, x8, x9, x9, x11, x12, x13, x9, x15, x18] h20)
theorem p36_ok (k : Nat) : p36 k = funcS k 1 lit36 := by kernel_rfl
def p37 (_ : Nat) : CtxK → List V → TH → R := fun _ => ap 2 (fun x0 x1 h2 =>
 kEqI false x1 (qb 7) fun x3 =>
 brS x3 (some ((.fn 63 [x0] []), h2)) (kEqI false x1 (qb 8) fun x4 =>
 brS x4 (some ((.fn 64 [x0] []), h2)) (kEqI false x1 (qb 9) fun x5 =>
 brS x5 (some ((.fn 65 [x0] []), h2)) (kEqI false x1 (qb 10) fun x6 =>
 brS x6 (some ((.fn 66 [x0] []), h2)) (kEqI false x1 (qb 11) fun x7 =>
 brS x7 (some ((.fn 67 [x0] []), h2)) (kEqI false x1 (qb 12) fun x8 =>
 brS x8 (some ((.fn 68 [x0] []), h2)) (kEqI false x1 (qb 13) fun x9 =>
 brS x9 (some ((.fn 69 [x0] []), h2)) (kEqI false x1 (qb 14) fun x10 =>
 brS x10 (some ((.fn 70 [x0] []), h2)) (kEqI false x1 (qb 15) fun x11 =>
 brS x11 (some ((.fn 71 [x0] []), h2)) (some (.nilfn, h2)))))))))))
theorem p37_ok (k : Nat) : p37 k = funcS k 2 lit37 := by kernel_rfl
def p38 (_ : Nat) : CtxK → List V → TH → R := fun X => ap 1 (fun x0 h1 =>
 kNew (V.cellsR x0) h1 fun x2 h3 =>
 kLA 131 x2 h3 fun x4 =>
 kCall X 72 [x4] h3 fun x5 h6 =>
 kNot x5 fun x7 =>
 jc (α := JT) (fun x8 h9 =>
 jc (α := JT) (fun x11 h12 =>
 jc (α := JT) (fun x14 h15 =>
 jc (α := JT) (fun x17 h18 =>
 jc (α := JT) (fun x20 h21 =>
 kPick x7 qt x20 fun x23 =>
 brS x23 (some (qf, h21)) (kFA 0 x2 fun x24 =>
 kL1 x24 h21 fun x25 =>
 kCall X 73 [x25] h21 fun x26 h27 =>
 kNew zr3 h27 fun x28 h29 =>
 kSA 11 x28 x26 h29 fun _ h31 =>
 kLA 131 x2 h31 fun x32 =>
 kLA 11 x28 h31 fun x33 =>
 kCall X 74 [x32, x33] h31 fun x34 h35 =>
 jc (α := JT) (fun x36 h37 =>
 jc (α := JT) (fun x39 h40 =>
 jc (α := JT) (fun x42 h43 =>
 jc (α := JT) (fun x45 h46 =>
 jc (α := JT) (fun x48 h49 =>
 jc (α := JT) (fun x51 h52 =>
 jc (α := JT) (fun x54 h55 =>
 kPick x34 x54 qf fun x57 =>
 jc (α := JT) (fun x58 h59 =>
 jc (α := JT) (fun x61 h62 =>
 jc (α := JT) (fun x64 h65 =>
 jc (α := JT) (fun x67 h68 =>
 jc (α := JT) (fun x70 h71 =>
 jc (α := JT) (fun x73 h74 =>
 jc (α := JT) (fun x76 h77 =>
 kPick x57 x76 qf fun x79 =>
 jc (α := JT) (fun x80 h81 =>
 jc (α := JT) (fun x83 h84 =>
 jc (α := JT) (fun x86 h87 =>
 jc (α := JT) (fun x89 h90 =>
 jc (α := JT) (fun x92 h93 =>
 jc (α := JT) (fun x95 h96 =>
 jc (α := JT) (fun x98 h99 =>
 kPick x79 x98 qf fun x101 =>
 jc (α := JT) (fun x102 h103 =>
 jc (α := JT) (fun x105 h106 =>
 jc (α := JT) (fun x108 h109 =>
 kPick x101 x108 qf fun x111 =>
 jc (α := JT) (fun x112 h113 =>
 jc (α := JT) (fun x115 h116 =>
 jc (α := JT) (fun x118 h119 =>
 jc (α := JT) (fun x121 h122 =>
 jc (α := JT) (fun x124 h125 =>
 jc (α := JT) (fun x127 h128 =>
 jc (α := JT) (fun x130 h131 =>
 jc (α := JT) (fun x133 h134 =>
 kPick x111 x133 qf fun x136 =>
 jc (α := JT) (fun x137 h138 =>
 jc (α := JT) (fun x140 h141 =>
 jc (α := JT) (fun x143 h144 =>
 jc (α := JT) (fun x146 h147 =>
 jc (α := JT) (fun x149 h150 =>
 jc (α := JT) (fun x152 h153 =>
 jc (α := JT) (fun x155 h156 =>
 jc (α := JT) (fun x158 h159 =>
 kPick x136 x158 qf fun x161 =>
 jc (α := JT) (fun x162 h163 =>
 jc (α := JT) (fun x165 h166 =>
 jc (α := JT) (fun x168 h169 =>
 jc (α := JT) (fun x171 h172 =>
 jc (α := JT) (fun x174 h175 =>
 jc (α := JT) (fun x177 h178 =>
 jc (α := JT) (fun x180 h181 =>
 jc (α := JT) (fun x183 h184 =>
 kPick x161 x183 qf fun x186 =>
 jc (α := JT) (fun x187 h188 =>
 jc (α := JT) (fun x190 h191 =>
 kPick x186 x190 qf fun x193 =>
 jc (α := JT) (fun x194 h195 =>
 jc (α := JT) (fun x197 h198 =>
 jc (α := JT) (fun x200 h201 =>
 jc (α := JT) (fun x203 h204 =>
 jc (α := JT) (fun x206 h207 =>
 jc (α := JT) (fun x209 h210 =>
 jc (α := JT) (fun x212 h213 =>
 kPick x193 x212 qf fun x215 =>
 jc (α := JT) (fun x216 h217 =>
 jc (α := JT) (fun x219 h220 =>
 jc (α := JT) (fun x222 h223 =>
 jc (α := JT) (fun x225 h226 =>
 kPick x215 x225 qf fun x228 =>
 jc (α := JT) (fun x229 h230 =>
 jc (α := JT) (fun x232 h233 =>
 jc (α := JT) (fun x235 h236 =>
 jc (α := JT) (fun x238 h239 =>
 jc (α := JT) (fun x241 h242 =>
 kPick x228 x241 qf fun x244 =>
 some (x244, h242)) fun j243 =>
 wtS x228 true (kBin .leq x238 (qi 80) fun x245 =>
 j243 x245 h239) (j243 u h239)) fun j240 =>
 wtS x228 true (kP (lenV true x235) fun x246 =>
 j240 x246 h236) (j240 u h236)) fun j237 =>
 wtS x228 true (kL1 x232 h233 fun x247 =>
 j237 x247 h233) (j237 u h233)) fun j234 =>
 wtS x228 true (kFA 1 x229 fun x248 =>
 j234 x248 h230) (j234 u h230)) fun j231 =>
 wtS x228 true (kFA 129 x2 fun x249 =>
 j231 x249 h226) (j231 u h226)) fun j227 =>
 wtS x215 true (kBin .leq x222 (qb 3) fun x250 =>
 j227 x250 h223) (j227 u h223)) fun j224 =>
 wtS x215 true (kL1 x219 h220 fun x251 =>
 j224 x251 h220) (j224 u h220)) fun j221 =>
 wtS x215 true (kFA 0 x216 fun x252 =>
 j221 x252 h217) (j221 u h217)) fun j218 =>
 wtS x215 true (kFA 129 x2 fun x253 =>
 j218 x253 h213) (j218 u h213)) fun j214 =>
 wtS x193 true (kPick x203 qt x209 fun x254 =>
 j214 x254 h210) (j214 u h210)) fun j211 =>
 wtS x203 false (kCall X 81 [x206] h207 fun x255 h256 =>
 j211 x255 h256) (j211 u h207)) fun j208 =>
 wtS x203 false (kLA 131 x2 h204 fun x257 =>
 j208 x257 h204) (j208 u h204)) fun j205 =>
 wtS x193 true (j205 x200 h201) (j205 u h201)) fun j202 =>
 wtS x193 true (kNot x197 fun x258 =>
 j202 x258 h198) (j202 u h198)) fun j199 =>
 wtS x193 true (kL1 x194 h195 fun x259 =>
 j199 x259 h195) (j199 u h195)) fun j196 =>
 wtS x193 true (kFA 9 x28 fun x260 =>
 j196 x260 h191) (j196 u h191)) fun j192 =>
 wtS x186 true (kCall X 80 [x187] h188 fun x261 h262 =>
 j192 x261 h262) (j192 u h188)) fun j189 =>
 wtS x186 true (kLA 131 x2 h184 fun x263 =>
 j189 x263 h184) (j189 u h184)) fun j185 =>
 wtS x161 true (kPick x171 qt x180 fun x264 =>
 j185 x264 h181) (j185 u h181)) fun j182 =>
 wtS x171 false (kCall X 79 [x177] h178 fun x265 h266 =>
 j182 x265 h266) (j182 u h178)) fun j179 =>
 wtS x171 false (kLA 8 x174 h175 fun x267 =>
 j179 x267 h175) (j179 u h175)) fun j176 =>
 wtS x171 false (kFA 114 x2 fun x268 =>
 j176 x268 h172) (j176 u h172)) fun j173 =>
 wtS x161 true (j173 x168 h169) (j173 u h169)) fun j170 =>
 wtS x161 true (kNot x165 fun x269 =>
 j170 x269 h166) (j170 u h166)) fun j167 =>
 wtS x161 true (kL1 x162 h163 fun x270 =>
 j167 x270 h163) (j167 u h163)) fun j164 =>
 wtS x161 true (kFA 7 x28 fun x271 =>
 j164 x271 h159) (j164 u h159)) fun j160 =>
 wtS x136 true (kPick x146 qt x155 fun x272 =>
 j160 x272 h156) (j160 u h156)) fun j157 =>
 wtS x146 false (kCall X 78 [x152] h153 fun x273 h274 =>
 j157 x273 h274) (j157 u h153)) fun j154 =>
 wtS x146 false (kLA 52 x149 h150 fun x275 =>
 j154 x275 h150) (j154 u h150)) fun j151 =>
 wtS x146 false (kFA 62 x2 fun x276 =>
 j151 x276 h147) (j151 u h147)) fun j148 =>
 wtS x136 true (j148 x143 h144) (j148 u h144)) fun j145 =>
 wtS x136 true (kNot x140 fun x277 =>
 j145 x277 h141) (j145 u h141)) fun j142 =>
 wtS x136 true (kL1 x137 h138 fun x278 =>
 j142 x278 h138) (j142 u h138)) fun j139 =>
 wtS x136 true (kFA 6 x28 fun x279 =>
 j139 x279 h134) (j139 u h134)) fun j135 =>
 wtS x111 true (kPick x121 qt x130 fun x280 =>
 j135 x280 h131) (j135 u h131)) fun j132 =>
 wtS x121 false (kCall X 50 [x127] h128 fun x281 h282 =>
 j132 x281 h282) (j132 u h128)) fun j129 =>
 wtS x121 false (kLA 49 x124 h125 fun x283 =>
 j129 x283 h125) (j129 u h125)) fun j126 =>
 wtS x121 false (kFA 13 x2 fun x284 =>
 j126 x284 h122) (j126 u h122)) fun j123 =>
 wtS x111 true (j123 x118 h119) (j123 u h119)) fun j120 =>
 wtS x111 true (kNot x115 fun x285 =>
 j120 x285 h116) (j120 u h116)) fun j117 =>
 wtS x111 true (kL1 x112 h113 fun x286 =>
 j117 x286 h113) (j117 u h113)) fun j114 =>
 wtS x111 true (kFA 5 x28 fun x287 =>
 j114 x287 h109) (j114 u h109)) fun j110 =>
 wtS x101 true (kBin .lss x105 (qb 4) fun x288 =>
 j110 x288 h106) (j110 u h106)) fun j107 =>
 wtS x101 true (kL1 x102 h103 fun x289 =>
 j107 x289 h103) (j107 u h103)) fun j104 =>
 wtS x101 true (kFA 12 x2 fun x290 =>
 j104 x290 h99) (j104 u h99)) fun j100 =>
 wtS x79 true (kPick x89 qt x95 fun x291 =>
 j100 x291 h96) (j100 u h96)) fun j97 =>
 wtS x89 false (kCall X 77 [x92] h93 fun x292 h293 =>
 j97 x292 h293) (j97 u h93)) fun j94 =>
 wtS x89 false (kLA 131 x2 h90 fun x294 =>
 j94 x294 h90) (j94 u h90)) fun j91 =>
 wtS x79 true (j91 x86 h87) (j91 u h87)) fun j88 =>
 wtS x79 true (kNot x83 fun x295 =>
 j88 x295 h84) (j88 u h84)) fun j85 =>
 wtS x79 true (kL1 x80 h81 fun x296 =>
 j85 x296 h81) (j85 u h81)) fun j82 =>
 wtS x79 true (kFA 3 x28 fun x297 =>
 j82 x297 h77) (j82 u h77)) fun j78 =>
 wtS x57 true (kPick x67 qt x73 fun x298 =>
 j78 x298 h74) (j78 u h74)) fun j75 =>
 wtS x67 false (kCall X 76 [x70] h71 fun x299 h300 =>
 j75 x299 h300) (j75 u h71)) fun j72 =>
 wtS x67 false (kLA 131 x2 h68 fun x301 =>
 j72 x301 h68) (j72 u h68)) fun j69 =>
 wtS x57 true (j69 x64 h65) (j69 u h65)) fun j66 =>
 wtS x57 true (kNot x61 fun x302 =>
 j66 x302 h62) (j66 u h62)) fun j63 =>
 wtS x57 true (kL1 x58 h59 fun x303 =>
 j63 x303 h59) (j63 u h59)) fun j60 =>
 wtS x57 true (kFA 1 x28 fun x304 =>
 j60 x304 h55) (j60 u h55)) fun j56 =>
 wtS x34 true (kPick x45 qt x51 fun x305 =>
 j56 x305 h52) (j56 u h52)) fun j53 =>
 wtS x45 false (kCall X 75 [x48] h49 fun x306 h307 =>
 j53 x306 h307) (j53 u h49)) fun j50 =>
 wtS x45 false (kLA 131 x2 h46 fun x308 =>
 j50 x308 h46) (j50 u h46)) fun j47 =>
 wtS x34 true (j47 x42 h43) (j47 u h43)) fun j44 =>
 wtS x34 true (kNot x39 fun x309 =>
 j44 x309 h40) (j44 u h40)) fun j41 =>
 wtS x34 true (kL1 x36 h37 fun x310 =>
 j41 x310 h37) (j41 u h37)) fun j38 =>
 wtS x34 true (kFA 0 x28 fun x311 =>
 j38 x311 h35) (j38 u h35))) fun j22 =>
 wtS x7 false (kEqI false x11 x17 fun x312 =>
 j22 x312 h18) (j22 u h18)) fun j19 =>
 wtS x7 false (kL1 x14 h15 fun x313 =>
 j19 x313 h15) (j19 u h15)) fun j16 =>
 wtS x7 false (kFA 2 x2 fun x314 =>
 j16 x314 h12) (j16 u h12)) fun j13 =>
 wtS x7 false (kL1 x8 h9 fun x315 =>
 j13 x315 h9) (j13 u h9)) fun j10 =>
 wtS x7 false (kFA 1 x2 fun x316 =>
 j10 x316 h6) (j10 u h6))
theorem p38_ok (k : Nat) : p38 k = funcS k 1 lit38 := by kernel_rfl
def p52 (k : Nat) : CtxK → List V → TH → R := fun X => ap 2 (fun x0 x1 h2 =>
 kNew (V.cellsR x0) h2 fun x3 h4 =>
 kNew zr0 h4 fun x5 h6 =>
 kFA 48 x3 fun x7 =>
 kL1 x7 h6 fun x8 =>
 kP (sliceE 8 x8 none (some x1)) fun x9 =>
 kLen x9 fun x10 =>
 lp (α := Cur 39) (zN 39) (fun n51 x11 x12 x13 x14 x15 x16 x17 x18 x19 x20 x21 x22 x23 _ x25 x26 x27 x28 x29 x30 x31 x32 x33 x34 x35 x36 x37 x38 x39 x40 x41 x42 _ _ _ _ _ _ _ h50 =>
 kBin .lss x23 x22 fun x52 =>
 brS x52 (kIS 8 x21 x23 fun x53 =>
 kLA 8 x53 h50 fun x54 =>
 kNew zr2 h50 fun x55 h56 =>
 kSA 8 x55 x54 h56 fun _ h58 =>
 kFA 1 x13 fun x59 =>
 kLA 39 x59 h58 fun x60 =>
 kFA 2 x55 fun x61 =>
 kLA 6 x61 h58 fun x62 =>
 kCall X 93 [x60, x62] h58 fun x63 h64 =>
 kExt x63 0 fun x65 =>
 kExt x63 1 fun _ =>
 kFA 1 x13 fun x67 =>
 kSA 39 x67 x65 h64 fun _ h69 =>
 kFA 0 x55 fun x70 =>
 kL1 x70 h69 fun x71 =>
 kFA 1 x55 fun x72 =>
 kL1 x72 h69 fun x73 =>
 kB zr2 [(0, 1, x71), (1, 1, x73)] fun x74 =>
 kFA 40 x13 fun x75 =>
 kSA 8 x75 x74 h69 fun _ h77 =>
 kBin .add x23 (qi 1) fun x78 =>
 n51 u x12 x13 u x15 u u u u u x21 x22 x78 u u u u u u u u u u u u u u u u u u u u u u u u u u h77) (kFA 48 x13 fun x79 =>
 kL1 x79 h50 fun x80 =>
 kP (sliceE 8 x80 (some x12) none) fun x81 =>
 kCall X 94 [x81] h50 fun x82 h83 =>
 kFA 48 x13 fun x84 =>
 kS1 x84 x82 h83 fun _ h86 =>
 kLA 49 x13 h86 fun x87 =>
 kSA 49 x15 x87 h86 fun _ h89 =>
 rsS [.cell 4 true 49] [x11, x12, x13, x14, x15, x16, x17, x18, x19, x20, x21, x22, x23, x52, x25, x26, x27, x28, x29, x30, x31, x32, x33, x34, x35, x36, x37, x38, x39, x40, x41, x42, x79, x80, x12, x81, x82, x84, x87] h89)) k u x1 x3 u x5 u u u u u x9 x10 (qi 0) u u u u u u u u u u u u u u u u u u u u u u u u u u h6)
theorem p52_ok (k : Nat) : p52 k = funcS k 2 lit52 := by kernel_rfl
def p57 (_ : Nat) : CtxK → List V → TH → R := fun X => ap 3 (fun x0 x1 x2 h3 =>
 kNew (V.cellsR x2) h3 fun x4 h5 =>
 kNilc x0 fun x6 =>
 kFA 2 x6 fun x7 =>
 kL1 x7 h5 fun x8 =>
 kBin .leq x1 x8 fun x9 =>
 brS x9 (some ((qi 51), h5)) (kNilc x0 fun x10 =>
 kFA 2 x10 fun x11 =>
 kL1 x11 h5 fun x12 =>
 kBin .sub x1 x12 fun x13 =>
 kBin .gtr x13 (qw 1) fun x14 =>
 brS x14 (some ((qi 50), h5)) (kNilc x0 fun x15 =>
 kFA 0 x15 fun x16 =>
 kL1 x16 h5 fun x19 =>
 kNilc x0 fun x20 =>
 kFA 2 x20 fun x21 =>
 kL1 x21 h5 fun x24 =>
 kP (lookupG h5.get (.agg zr4) false x19 x24) fun x27 =>
 kLA 3 x4 h5 fun x30 =>
 kNew zr4 h5 fun x31 h32 =>
 kCall X 99 [x27, x30] h32 fun x33 h34 =>
 kExt x33 0 fun x35 =>
 kExt x33 1 fun x36 =>
 kSA 16 x31 x35 h34 fun _ h38 =>
 dokS [h32, h34, h38] [] (kEqI true x36 (qi 0) fun x39 =>
 brS x39 (some (x36, h38)) (kNilc x0 fun x40 =>
 kFA 1 x40 fun x41 =>
 kL1 x41 h38 fun x44 =>
 kLA 3 x4 h38 fun x47 =>
 kMU x44 x1 x47 h38 fun _ h49 =>
 dokS [h38, h49] [] (kLA 16 x31 h49 fun x50 =>
 kCall X 59 [x0, x50] h49 fun _ h52 =>
 some ((qi 0), h52)))))))
theorem p57_ok (k : Nat) : p57 k = funcS k 3 lit57 := by kernel_rfl
def p58 (_ : Nat) : CtxK → List V → TH → R := fun _ => ap 1 (fun x0 h1 =>
 kNilc x0 fun x2 =>
 kFA 2 x2 fun x3 =>
 kL1 x3 h1 fun x4 =>
 some (x4, h1))
theorem p58_ok (k : Nat) : p58 k = funcS k 1 lit58 := by kernel_rfl
def p60 (k : Nat) : CtxK → List V → TH → R := fun _ => ap 0 (fun  h0 =>
 kNew zr4 h0 fun x1 h2 =>
 kB zr4 [(0, 1, (qw 1))] fun x3 =>
 kNew zr4 h2 fun x4 h5 =>
 kSA 16 x4 x3 h5 fun _ h7 =>
 lp (α := Cur 16) (zN 16) (fun n25 x8 x9 x10 x11 x12 _ x14 x15 x16 x17 x18 x19 x20 x21 x22 _ h24 =>
 kBin .lss x12 (qi 5) fun x26 =>
 brS x26 (kBin .rem x12 (qi 4) fun x27 =>
 kConv .u8 x27 fun x28 =>
 kB [qf, (qi 0), (qb 0)] [(0, 1, qt), (1, 1, (qi 8)), (2, 1, x28)] fun x29 =>
 kFA 1 x9 fun x30 =>
 kIA 5 3 x30 x12 fun x31 =>
 kSA 3 x31 x29 h24 fun _ h33 =>
 kBin .add x12 (qi 1) fun x34 =>
 n25 x8 x9 u u x34 u u u u u u u u u u u h33) (kLA 16 x9 h24 fun x35 =>
 kSA 16 x8 x35 h24 fun _ h37 =>
 rsS [.cell 0 true 16] [x8, x9, x10, x11, x12, x26, x14, x15, x16, x17, x18, x19, x20, x21, x22, x35] h37)) k x1 x4 u u (qi 0) u u u u u u u u u u u h7)
theorem p60_ok (k : Nat) : p60 k = funcS k 0 lit60 := by kernel_rfl
def p63 (_ : Nat) : CtxK → List V → TH → R := fun X => ap 3 (fun x0 _ x2 h3 =>
 kNew (V.cellsR x2) h3 fun x4 h5 =>
 kLA 131 x4 h5 fun x6 =>
 kCall X 104 [x6] h5 fun x7 h8 =>
 kCall X 55 [x0] h8 fun x9 h10 =>
 kEqI true x7 x9 fun x11 =>
 brS x11 (some (.nils, h10)) (kLA 131 x4 h10 fun x12 =>
 kCall X 104 [x12] h10 fun x13 h14 =>
 kCall X 89 [x0, (qb 8), x13] h14 fun x15 h16 =>
 kNew zr1 h16 fun x17 h18 =>
 kSA 131 x17 x15 h18 fun _ h20 =>
 kNilc x0 fun x21 =>
 kFA 3 x21 fun x22 =>
 kLA 49 x22 h20 fun x23 =>
 kFA 13 x17 fun x24 =>
 kSA 49 x24 x23 h20 fun _ h26 =>
 kLA 131 x17 h26 fun x27 =>
 kBS 131 zr1 1 [(0, 131, x27)] h26 fun x28 h29 =>
 some (x28, h29)))
theorem p63_ok (k : Nat) : p63 k = funcS k 3 lit63 := by kernel_rfl
def p67 (_ : Nat) : CtxK → List V → TH → R := fun X => ap 3 (fun x0 _ x2 h3 =>
 kNew (V.cellsR x2) h3 fun x4 h5 =>
 kLA 131 x4 h5 fun x8 =>
 kCall X 105 [x0, x8] h5 fun x9 h10 =>
 kNot x9 fun x11 =>
 jc (α := JT) (fun x12 h13 =>
 jc (α := JT) (fun x15 h16 =>
 jc (α := JT) (fun x18 h19 =>
 jc (α := JT) (fun x21 h22 =>
 jc (α := V → TH → PD → R) (fun x26 h27 d28 =>
 jc (α := JT) (fun x30 h31 =>
 jc (α := JT) (fun x33 h34 =>
 jc (α := JT) (fun x36 h37 =>
 jc (α := V → TH → PD → R) (fun x41 h42 d43 =>
 jc (α := JT) (fun x45 h46 =>
 kPick x11 qt x45 fun x48 =>
 dokS [h5, h46] d43 (brS x48 (some (.nils, h46)) (kFA 114 x4 fun x49 =>
 kLA 8 x49 h46 fun x50 =>
 kCall X 111 [x0, x50] h46 fun _ h52 =>
 kFA 114 x4 fun x53 =>
 kFA 1 x53 fun x54 =>
 kL1 x54 h52 fun x57 =>
 kCall X 109 [x0] h52 fun x58 h59 =>
 kBin .lss x58 x57 fun x60 =>
 dokS [h52, h59] ((fun h55 => kL1 x54 h55 fun x56 =>
 some (x56, h55), x57, 0, 1) :: []) (brS x60 (some (.nils, h59)) (kLA 131 x4 h59 fun x61 =>
 kCall X 107 [x0, (qb 12), x61] h59 fun x62 h63 =>
 some (x62, h63)))))) fun j47 =>
 wtS x11 false (kEqI true x26 x41 fun x64 =>
 j47 x64 h42) (j47 u h42)) fun j44 =>
 wtS x11 false (kL1 x36 h37 fun x65 =>
 j44 x65 h37 d28) (j44 u h37 d28)) fun j38 =>
 wtS x11 false (kFA 52 x33 fun x66 =>
 j38 x66 h34) (j38 u h34)) fun j35 =>
 wtS x11 false (kNilc x30 fun x67 =>
 j35 x67 h31) (j35 u h31)) fun j32 =>
 wtS x11 false (j32 x0 h27) (j32 u h27)) fun j29 =>
 wtS x11 false (kL1 x21 h22 fun x68 =>
 j29 x68 h22 []) (j29 u h22 [])) fun j23 =>
 wtS x11 false (kFA 0 x18 fun x69 =>
 j23 x69 h19) (j23 u h19)) fun j20 =>
 wtS x11 false (kFA 3 x15 fun x70 =>
 j20 x70 h16) (j20 u h16)) fun j17 =>
 wtS x11 false (kNilc x12 fun x71 =>
 j17 x71 h13) (j17 u h13)) fun j14 =>
 wtS x11 false (j14 x0 h10) (j14 u h10))
theorem p67_ok (k : Nat) : p67 k = funcS k 3 lit67 := by kernel_rfl
def p79 (_ : Nat) : CtxK → List V → TH → R := fun X => ap 1 (fun x0 h1 =>
 kNew (V.cellsR x0) h1 fun x2 h3 =>
 kFA 2 x2 fun x4 =>
 kLA 6 x4 h3 fun x5 =>
 kCall X 9 [x5] h3 fun x6 h7 =>
 jc (α := JT) (fun x8 h9 =>
 jc (α := JT) (fun x11 h12 =>
 jc (α := JT) (fun x14 h15 =>
 kPick x6 x14 qf fun x17 =>
 jc (α := JT) (fun x18 h19 =>
 jc (α := JT) (fun x21 h22 =>
 jc (α := JT) (fun x24 h25 =>
 kPick x17 x24 qf fun x27 =>
 jc (α := JT) (fun x28 h29 =>
 jc (α := JT) (fun x31 h32 =>
 jc (α := JT) (fun x34 h35 =>
 kPick x27 x34 qf fun x37 =>
 some (x37, h35)) fun j36 =>
 wtS x27 true (kBin .leq x31 (qw 60) fun x38 =>
 j36 x38 h32) (j36 u h32)) fun j33 =>
 wtS x27 true (kL1 x28 h29 fun x39 =>
 j33 x39 h29) (j33 u h29)) fun j30 =>
 wtS x27 true (kFA 0 x2 fun x40 =>
 j30 x40 h25) (j30 u h25)) fun j26 =>
 wtS x17 true (kBin .geq x21 (qw 1) fun x41 =>
 j26 x41 h22) (j26 u h22)) fun j23 =>
 wtS x17 true (kL1 x18 h19 fun x42 =>
 j23 x42 h19) (j23 u h19)) fun j20 =>
 wtS x17 true (kFA 0 x2 fun x43 =>
 j20 x43 h15) (j20 u h15)) fun j16 =>
 wtS x6 true (kBin .gtr x11 (qw 0) fun x44 =>
 j16 x44 h12) (j16 u h12)) fun j13 =>
 wtS x6 true (kL1 x8 h9 fun x45 =>
 j13 x45 h9) (j13 u h9)) fun j10 =>
 wtS x6 true (kFA 1 x2 fun x46 =>
 j10 x46 h7) (j10 u h7))
theorem p79_ok (k : Nat) : p79 k = funcS k 1 lit79 := by kernel_rfl
def p82 (_ : Nat) : CtxK → List V → TH → R := fun _ => ap 1 (fun x0 h1 =>
 kBin .shr x0 (.int .u64 33) fun x2 =>
 kBin .xor x0 x2 fun x3 =>
 kBin .mul x3 (.int .u64 18397679294719823053) fun x4 =>
 kBin .shr x4 (.int .u64 33) fun x5 =>
 kBin .xor x4 x5 fun x6 =>
 kBin .mul x6 (.int .u64 14181476777654086739) fun x7 =>
 kBin .shr x7 (.int .u64 33) fun x8 =>
 kBin .xor x7 x8 fun x9 =>
 some (x9, h1))
theorem p82_ok (k : Nat) : p82 k = funcS k 1 lit82 := by kernel_rfl
def p83 (_ : Nat) : CtxK → List V → TH → R := fun X => ap 1 (fun x0 h1 =>
 kCall X 124 [x0] h1 fun x2 h3 =>
 kCall X 61 [x2] h3 fun _ h5 =>
 some (x2, h5))
theorem p83_ok (k : Nat) : p83 k = funcS k 1 lit83 := by kernel_rfl
def p90 (_ : Nat) : CtxK → List V → TH → R := fun X => ap 2 (fun x0 x1 h2 =>
 kNew (V.cellsR x0) h2 fun x3 h4 =>
 kNew (V.cellsR x1) h4 fun x5 h6 =>
 kNew zr6 h6 fun x7 h8 =>
 kLA 49 x3 h8 fun x9 =>
 kCall X 50 [x9] h8 fun x10 h11 =>
 kNot x10 fun x12 =>
 jc (α := JT) (fun x13 h14 =>
 jc (α := JT) (fun x16 h17 =>
 jc (α := JT) (fun x19 h20 =>
 kPick x12 qt x19 fun x22 =>
 brS x22 (kB zr6 [] fun x23 =>
 kSA 52 x7 x23 h20 fun _ h25 =>
 rsS [.cell 4 true 52] [x0, x1, x3, x5, x7, u, u, x9, x10, x12, x12, x13, x16, x19, x22, x23, u, u, u, u, u, u, u, u, u, u, u, u, u, u, u, u, u, u, u, u, u, u, u, u, u, u, u, u, u, u, u, u, u, u, u] h25) (kLA 49 x3 h20 fun x26 =>
 kNew zr0 h20 fun x27 h28 =>
 kSA 49 x27 x26 h28 fun _ h30 =>
 kFA 0 x5 fun x31 =>
 kL1 x31 h30 fun x32 =>
 kFA 0 x27 fun x33 =>
 kS1 x33 x32 h30 fun _ h35 =>
 kLA 49 x27 h35 fun x36 =>
 kLA 49 x5 h35 fun x37 =>
 kCall X 15 [x36, x37] h35 fun x38 h39 =>
 brS x38 (kLA 49 x5 h39 fun x40 =>
 kCall X 129 [x40] h39 fun x41 h42 =>
 kB zr6 [(0, 1, (qi 0)), (3, 49, x41)] fun x43 =>
 kSA 52 x7 x43 h42 fun _ h45 =>
 rsS [.cell 4 true 52] [x0, x1, x3, x5, x7, x27, u, x9, x10, x12, x12, x13, x16, x19, x22, u, x26, x31, x32, x33, x38, x36, x37, x38, x40, x41, x43, u, u, u, u, u, u, u, u, u, u, u, u, u, u, u, u, u, u, u, u, u, u, u, u] h45) (kLA 49 x3 h39 fun x46 =>
 kLA 49 x5 h39 fun x47 =>
 kCall X 130 [x46, x47] h39 fun x48 h49 =>
 kNot x48 fun x50 =>
 brS x50 (kLA 49 x5 h49 fun x51 =>
 kCall X 36 [x51] h49 fun x52 h53 =>
 kB zr6 [(0, 1, (qi 2)), (3, 49, x52)] fun x54 =>
 kSA 52 x7 x54 h53 fun _ h56 =>
 rsS [.cell 4 true 52] [x0, x1, x3, x5, x7, x27, u, x9, x10, x12, x12, x13, x16, x19, x22, u, x26, x31, x32, x33, x38, x36, x37, x38, u, u, u, x50, x46, x47, x48, x50, x51, x52, x54, u, u, u, u, u, u, u, u, u, u, u, u, u, u, u, u] h56) (kLA 49 x3 h49 fun x57 =>
 kLA 49 x5 h49 fun x58 =>
 kCall X 131 [x57, x58] h49 fun x59 h60 =>
 kFA 48 x5 fun x61 =>
 kL1 x61 h60 fun x64 =>
 kFA 40 x5 fun x65 =>
 kFA 1 x65 fun x66 =>
 kL1 x66 h60 fun x69 =>
 kBin .sub x59 x69 fun x70 =>
 kP (sliceE 8 x64 (some x70) none) fun x71 =>
 kLA 49 x5 h60 fun x74 =>
 kCall X 94 [x71] h60 fun x75 h76 =>
 kCall X 129 [x74] h76 fun x77 h78 =>
 kB zr6 [(0, 1, (qi 1)), (1, 1, x59), (2, 1, x75), (3, 49, x77)] fun x79 =>
 kSA 52 x7 x79 h78 fun _ h81 =>
 dokS [h60, h76, h78, h81] ((fun h72 => kLA 49 x5 h72 fun x73 =>
 some (x73, h72), x74, 0, 1) :: []) (rsS [.cell 4 true 52] [x0, x1, x3, x5, x7, x27, x59, x9, x10, x12, x12, x13, x16, x19, x22, u, x26, x31, x32, x33, x38, x36, x37, x38, u, u, u, x50, x46, x47, x48, x50, u, u, u, x57, x58, x59, x59, x61, x64, x59, x65, x66, x69, x70, x71, x75, x74, x77, x79] h81))))) fun j21 =>
 wtS x12 false (kNot x16 fun x82 =>
 j21 x82 h17) (j21 u h17)) fun j18 =>
 wtS x12 false (kCall X 50 [x13] h14 fun x83 h84 =>
 j18 x83 h84) (j18 u h14)) fun j15 =>
 wtS x12 false (kLA 49 x5 h11 fun x85 =>
 j15 x85 h11) (j15 u h11))
theorem p90_ok (k : Nat) : p90 k = funcS k 2 lit90 := by kernel_rfl
def p93 (_ : Nat) : CtxK → List V → TH → R := fun X => ap 2 (fun x0 x1 h2 =>
 kNew (V.cellsR x0) h2 fun x3 h4 =>
 kNew (V.cellsR x1) h4 fun x5 h6 =>
 kNew zr5 h6 fun x7 h8 =>
 kNew [(qb 0), qs] h8 fun x9 h10 =>
 kLA 6 x5 h10 fun x11 =>
 kCall X 9 [x11] h10 fun x12 h13 =>
 kNot x12 fun x14 =>
 brS x14 (kLA 39 x3 h13 fun x15 =>
 kB [(qb 0), qs] [(0, 1, (qb 3))] fun x16 =>
 kSA 39 x7 x15 h13 fun _ h18 =>
 kSA 2 x9 x16 h18 fun _ h20 =>
 rsS [.cell 4 true 39, .cell 5 true 2] [x0, x1, x3, x5, x7, x9, u, u, u, u, x11, x12, x14, x15, x16, u, u, u, u, u, u, u, u, u, u, u, u, u, u, u, u, u, u, u, u, u, u, u, u, u, u, u, u, u, u, u, u, u, u, u, u, u, u, u, u, u, u] h20) (kLA 39 x3 h13 fun x21 =>
 kLA 6 x5 h13 fun x22 =>
 kCall X 133 [x21, x22] h13 fun x23 h24 =>
 kExt x23 0 fun x25 =>
 kExt x23 1 fun x26 =>
 kNew [(qb 0), qs] h24 fun x27 h28 =>
 kSA 2 x27 x25 h28 fun _ h30 =>
 brS x26 (kLA 39 x3 h30 fun x33 =>
 kLA 2 x27 h30 fun x36 =>
 kSA 39 x7 x33 h30 fun _ h38 =>
 kSA 2 x9 x36 h38 fun _ h40 =>
 dokS [h30, h38, h40] ((fun h34 => kLA 2 x27 h34 fun x35 =>
 some (x35, h34), x36, 0, 1) :: []) (rsS [.cell 4 true 39, .cell 5 true 2] [x0, x1, x3, x5, x7, x9, x27, x26, u, u, x11, x12, x14, u, u, x23, x21, x22, x23, x25, x26, x26, x33, x36, u, u, u, u, u, u, u, u, u, u, u, u, u, u, u, u, u, u, u, u, u, u, u, u, u, u, u, u, u, u, u, u, u] h40)) (kFA 3 x5 fun x41 =>
 kL1 x41 h30 fun x42 =>
 kFA 0 x3 fun x43 =>
 kIA 6 5 x43 x42 fun x44 =>
 kLA 5 x44 h30 fun x45 =>
 kB [qf, qs, qs, qs, qs] [(0, 5, x45)] fun x46 =>
 kNew (V.cellsR x46) h30 fun x47 h48 =>
 kFA 2 x5 fun x49 =>
 kL1 x49 h48 fun x52 =>
 kLA 6 x5 h48 fun x55 =>
 kNew [(qb 0), qs] h48 fun x56 h57 =>
 kCall X 134 [x52] h57 fun x58 h59 =>
 kCv X x58 [x47, x55] h59 fun x60 h61 =>
 kB [(qb 0), qs] [(0, 1, x60)] fun x62 =>
 kSA 2 x56 x62 h61 fun _ h64 =>
 dokS [h57, h59, h61, h64] ((fun h53 => kLA 6 x5 h53 fun x54 =>
 some (x54, h53), x55, 0, 1) :: []) (kFA 3 x5 fun x65 =>
 kL1 x65 h64 fun x68 =>
 kNilc x47 fun x69 =>
 kFA 0 x69 fun x70 =>
 kLA 5 x70 h64 fun x73 =>
 kFA 0 x3 fun x74 =>
 kIA 6 5 x74 x68 fun x75 =>
 kSA 5 x75 x73 h64 fun _ h77 =>
 dokS [h64, h77] [] (kFA 0 x5 fun x78 =>
 kL1 x78 h77 fun x79 =>
 kBin .sub x79 (qb 1) fun x80 =>
 kFA 1 x5 fun x81 =>
 kL1 x81 h77 fun x82 =>
 kLA 2 x56 h77 fun x83 =>
 kB [(qw 0), (qb 0), qs] [(0, 1, x82), (1, 2, x83)] fun x84 =>
 kFA 30 x3 fun x85 =>
 kIA 3 3 x85 x80 fun x86 =>
 kSA 3 x86 x84 h77 fun _ h88 =>
 kLA 39 x3 h88 fun x91 =>
 kLA 2 x56 h88 fun x94 =>
 kSA 39 x7 x91 h88 fun _ h96 =>
 kSA 2 x9 x94 h96 fun _ h98 =>
 dokS [h88, h96, h98] ((fun h92 => kLA 2 x56 h92 fun x93 =>
 some (x93, h92), x94, 0, 1) :: []) (rsS [.cell 4 true 39, .cell 5 true 2] [x0, x1, x3, x5, x7, x9, x27, x26, x47, x56, x11, x12, x14, u, u, x23, x21, x22, x23, x25, x26, x26, u, u, x41, x42, x43, x44, x45, x46, x47, x49, x52, x58, x47, x55, x60, x62, x65, x68, x47, x69, x70, x73, x74, x75, x78, x79, x80, x81, x82, x83, x84, x85, x86, x91, x94] h98))))))
theorem p93_ok (k : Nat) : p93 k = funcS k 2 lit93 := by kernel_rfl
def p98 (k : Nat) : CtxK → List V → TH → R := fun X => ap 2 (fun x0 x1 h2 =>
 kLen x0 fun x3 =>
 kLen x1 fun x4 =>
 kEqI true x3 x4 fun x5 =>
 jc (α := JT) (fun x6 h7 =>
 jc (α := JT) (fun x9 h10 =>
 kPick x5 qt x9 fun x12 =>
 brS x12 (some ((.int .i64 (-1)), h10)) (kNew [(qi 0), (qw 0), (qw 0), (qw 0)] h10 fun x13 h14 =>
 kLen x1 fun x15 =>
 lp (α := Cur 53) (zN 53) (fun n70 x16 _ _ _ _ x21 x22 _ _ _ _ _ _ _ _ _ _ _ _ _ _ x37 x38 x39 _ _ _ _ _ _ _ _ _ _ _ _ _ _ _ _ _ _ _ _ _ _ _ _ _ _ _ _ _ h69 =>
 kBin .lss x39 x38 fun x71 =>
 brS x71 (kIS 49 x37 x39 fun x72 =>
 kLA 49 x72 h69 fun x73 =>
 kNew zr0 h69 fun x74 h75 =>
 kSA 49 x74 x73 h75 fun _ h77 =>
 kLA 49 x74 h77 fun x78 =>
 kCall X 22 [x78] h77 fun x79 h80 =>
 kExt x79 0 fun x81 =>
 kExt x79 1 fun x82 =>
 kIS 1 x16 x39 fun x83 =>
 kL1 x83 h80 fun x86 =>
 kFA 0 x74 fun x87 =>
 kL1 x87 h80 fun x90 =>
 kB [(qi 0), (qw 0), (qw 0), (qw 0)] [(0, 1, x86), (1, 1, x90), (2, 1, x81), (3, 1, x82)] fun x91 =>
 kNew [(qi 0), (qw 0), (qw 0), (qw 0)] h80 fun x92 h93 =>
 kSA 4 x92 x91 h93 fun _ h95 =>
 dokS [h93, h95] [] (kBin .lss x21 (qi 0) fun x96 =>
 jc (α := JT) (fun x97 h98 =>
 jc (α := JT) (fun x100 h101 =>
 jc (α := JT) (fun x103 h104 =>
 kPick x96 qt x103 fun x106 =>
 jc (α := Cur 53) (fun x107 _ _ _ _ x112 x113 _ _ _ _ _ _ _ _ _ _ _ _ _ _ x128 x129 x130 _ _ _ _ _ _ _ _ _ _ _ _ _ _ _ _ _ _ _ _ _ _ _ _ _ _ _ _ _ h160 =>
 kBin .add x130 (qi 1) fun x162 =>
 n70 x107 u u u u x112 x113 u u u u u u u u u u u u u u x128 x129 x162 u u u u u u u u u u u u u u u u u u u u u u u u u u u u u h160) fun j161 =>
 brS x106 (kLA 4 x92 h104 fun x165 =>
 kSA 4 x22 x165 h104 fun _ h167 =>
 dokS [h104, h167] [] (j161 x16 u u u u x39 x22 u u u u u u u u u u u u u u x37 x38 x39 u u u u u u u u u u u u u u u u u u u u u u u u u u u u u h167)) (j161 x16 u u u u x21 x22 u u u u u u u u u u u u u u x37 x38 x39 u u u u u u u u u u u u u u u u u u u u u u u u u u u u u h104)) fun j105 =>
 wtS x96 false (kCall X 140 [x97, x100] h101 fun x168 h169 =>
 j105 x168 h169) (j105 u h101)) fun j102 =>
 wtS x96 false (kLA 4 x22 h98 fun x170 =>
 j102 x170 h98) (j102 u h98)) fun j99 =>
 wtS x96 false (kLA 4 x92 h95 fun x171 =>
 j99 x171 h95) (j99 u h95))) (some (x21, h69))) k x0 u u u u (.int .i64 (-1)) x13 u u u u u u u u u u u u u u x1 x15 (qi 0) u u u u u u u u u u u u u u u u u u u u u u u u u u u u u h14)) fun j11 =>
 wtS x5 false (kCall X 138 [x6, (.fn 139 [] [])] h7 fun x172 h173 =>
 j11 x172 h173) (j11 u h7)) fun j8 =>
 wtS x5 false (j8 x1 h2) (j8 u h2))
theorem p98_ok (k : Nat) : p98 k = funcS k 2 lit98 := by kernel_rfl
def p105 (_ : Nat) : CtxK → List V → TH → R := fun X => ap 2 (fun x0 x1 h2 =>
 kNew (V.cellsR x1) h2 fun x3 h4 =>
 kNilc x0 fun x5 =>
 kFA 1 x5 fun x6 =>
 kL1 x6 h4 fun x7 =>
 kEqI false x7 (qi 1) fun x8 =>
 jc (α := JT) (fun x9 h10 =>
 jc (α := JT) (fun x12 h13 =>
 jc (α := JT) (fun x15 h16 =>
 jc (α := JT) (fun x18 h19 =>
 jc (α := JT) (fun x21 h22 =>
 kPick x8 x21 qf fun x24 =>
 some (x24, h22)) fun j23 =>
 wtS x8 true (kEqI false x12 x18 fun x25 =>
 j23 x25 h19) (j23 u h19)) fun j20 =>
 wtS x8 true (kCall X 55 [x15] h16 fun x26 h27 =>
 j20 x26 h27) (j20 u h16)) fun j17 =>
 wtS x8 true (j17 x0 h13) (j17 u h13)) fun j14 =>
 wtS x8 true (kCall X 104 [x9] h10 fun x28 h29 =>
 j14 x28 h29) (j14 u h10)) fun j11 =>
 wtS x8 true (kLA 131 x3 h4 fun x30 =>
 j11 x30 h4) (j11 u h4))
theorem p105_ok (k : Nat) : p105 k = funcS k 2 lit105 := by kernel_rfl
def p109 (_ : Nat) : CtxK → List V → TH → R := fun X => ap 1 (fun x0 h1 =>
 kNilc x0 fun x2 =>
 kFA 3 x2 fun x3 =>
 kLA 49 x3 h1 fun x4 =>
 kCall X 22 [x4] h1 fun x5 h6 =>
 kExt x5 0 fun _ =>
 kExt x5 1 fun x8 =>
 some (x8, h6))
theorem p109_ok (k : Nat) : p109 k = funcS k 1 lit109 := by kernel_rfl
def p112 (_ : Nat) : CtxK → List V → TH → R := fun _ => ap 3 (fun x0 x1 x2 h3 =>
 kNew (V.cellsR x1) h3 fun x4 h5 =>
 kNew (V.cellsR x2) h5 fun x6 h7 =>
 kNew zr1 h7 fun x8 h9 =>
 kNilc x0 fun x10 =>
 kFA 0 x10 fun x11 =>
 kL1 x11 h9 fun x14 =>
 kConv .u8 x14 fun x15 =>
 kBin .add (qb 10) x15 fun x16 =>
 kFA 0 x4 fun x17 =>
 kL1 x17 h9 fun x20 =>
 kBin .add (qb 20) x20 fun x21 =>
 kLA 6 x4 h9 fun x24 =>
 kLA 2 x6 h9 fun x27 =>
 kB zr1 [(0, 1, (qb 16)), (1, 1, x16), (2, 1, x21), (123, 6, x24), (129, 2, x27)] fun x28 =>
 kSA 131 x8 x28 h9 fun _ h30 =>
 dokS [h9, h30] [] (rsS [.cell 6 true 131] [x0, x1, x2, u, x4, x6, x8, x0, x10, x11, x14, x15, x16, x17, x20, x21, x24, x27, x28] h30))
theorem p112_ok (k : Nat) : p112 k = funcS k 3 lit112 := by kernel_rfl
def p118 (_ : Nat) : CtxK → List V → TH → R := fun _ => ap 1 (fun x0 h1 =>
 kBin .geq x0 (qb 21) fun x2 =>
 jc (α := JT) (fun x3 h4 =>
 jc (α := JT) (fun x6 h7 =>
 kPick x2 x6 qf fun x9 =>
 some (x9, h7)) fun j8 =>
 wtS x2 true (kBin .lss x3 (qb 24) fun x10 =>
 j8 x10 h4) (j8 u h4)) fun j5 =>
 wtS x2 true (j5 x0 h1) (j5 u h1))
theorem p118_ok (k : Nat) : p118 k = funcS k 1 lit118 := by kernel_rfl
def p126 (k : Nat) : CtxK → List V → TH → R := fun X => ap 2 (fun x0 x1 h2 =>
 kLen x0 fun x3 =>
 lp (α := Cur 19) (zN 19) (fun n24 x4 x5 _ _ _ _ _ x11 x12 _ _ _ _ _ _ _ _ _ _ h23 =>
 kBin .lss x12 x11 fun x25 =>
 brS x25 (kIS 1 x4 x12 fun x26 =>
 kL1 x26 h23 fun x27 =>
 kCv X x5 [x27] h23 fun x28 h29 =>
 brS x28 (some (x12, h29)) (kBin .add x12 (qi 1) fun x30 =>
 n24 x4 x5 u u u u u x11 x30 u u u u u u u u u u h29)) (some ((.int .i64 (-1)), h23))) k x0 x1 u u u u u x3 (qi 0) u u u u u u u u u u h2)
theorem p126_ok (k : Nat) : p126 k = funcS k 2 lit126 := by kernel_rfl
def p131 (k : Nat) : CtxK → List V → TH → R := fun X => ap 2 (fun x0 x1 h2 =>
 kNew (V.cellsR x0) h2 fun x3 h4 =>
 kNew (V.cellsR x1) h4 fun x5 h6 =>
 kFA 40 x5 fun x7 =>
 kFA 1 x7 fun x8 =>
 kL1 x8 h6 fun x9 =>
 kFA 48 x5 fun x10 =>
 kL1 x10 h6 fun x11 =>
 kLen x11 fun x12 =>
 lp (α := Cur 39) (zN 39) (fun n53 _ _ x15 _ _ x18 _ _ _ _ _ _ _ _ x27 x28 x29 _ _ _ _ _ _ _ _ _ _ _ _ _ _ _ _ _ _ _ _ _ _ h52 =>
 kBin .lss x29 x28 fun x54 =>
 brS x54 (kIS 8 x27 x29 fun x55 =>
 kLA 8 x55 h52 fun x56 =>
 kNew zr2 h52 fun x57 h58 =>
 kSA 8 x57 x56 h58 fun _ h60 =>
 kLA 49 x15 h60 fun x61 =>
 kFA 1 x57 fun x62 =>
 kL1 x62 h60 fun x63 =>
 kCall X 165 [x61, x63] h60 fun x64 h65 =>
 kExt x64 0 fun x66 =>
 kExt x64 1 fun x67 =>
 kNew zr2 h65 fun x68 h69 =>
 kSA 8 x68 x66 h69 fun _ h71 =>
 kNot x67 fun x72 =>
 jc (α := JT) (fun x73 h74 =>
 jc (α := JT) (fun x76 h77 =>
 jc (α := JT) (fun x79 h80 =>
 kPick x72 qt x79 fun x82 =>
 brS x82 (some (x18, h80)) (kFA 1 x57 fun x83 =>
 kL1 x83 h80 fun x84 =>
 kBin .add x29 (qi 1) fun x85 =>
 n53 u u x15 u u x84 u u u u u u u u x27 x28 x85 u u u u u u u u u u u u u u u u u u u u u u h80)) fun j81 =>
 wtS x72 false (kEq' true (.agg [.int, .int, .int, .int, .int, .int, .int, .str]) x73 x76 fun x86 =>
 j81 x86 h77) (j81 u h77)) fun j78 =>
 wtS x72 false (kLA 8 x57 h74 fun x87 =>
 j78 x87 h74) (j78 u h74)) fun j75 =>
 wtS x72 false (kLA 8 x68 h71 fun x88 =>
 j75 x88 h71) (j75 u h71)) (some (x18, h52))) k u u x3 u u x9 u u u u u u u u x11 x12 (qi 0) u u u u u u u u u u u u u u u u u u u u u u h6)
theorem p131_ok (k : Nat) : p131 k = funcS k 2 lit131 := by kernel_rfl
def p132 (k : Nat) : CtxK → List V → TH → R := fun _ => ap 1 (fun x0 h1 =>
 kNew (V.cellsR x0) h1 fun x2 h3 =>
 kFA 0 x2 fun x4 =>
 kL1 x4 h3 fun x5 =>
 kNot x5 fun x6 =>
 brS x6 (kLA 5 x2 h3 fun x7 =>
 kB [qf, qs, qs, qs, qs] [] fun x8 =>
 kEq' false (.agg [.bool, .str, .str, .str, .str]) x7 x8 fun x9 =>
 some (x9, h3)) (kFA 2 x2 fun x10 =>
 kLA 3 x10 h3 fun x11 =>
 lp (α := Cur 24) (zN 24) (fun n37 _ x13 _ _ _ _ _ _ _ _ _ _ x24 x25 _ _ _ _ _ _ _ _ _ _ h36 =>
 kBin .lss x25 (qi 3) fun x38 =>
 brS x38 (kIx 3 x24 x25 fun x39 =>
 kP (lenV true x39) fun x40 =>
 kBin .gtr x40 (qi 16) fun x41 =>
 brS x41 (some (qf, h36)) (kBin .add x25 (qi 1) fun x42 =>
 n37 u x13 u u u u u u u u u u x24 x42 u u u u u u u u u u h36)) (kFA 1 x13 fun x43 =>
 kL1 x43 h36 fun x44 =>
 kP (lenV true x44) fun x45 =>
 kBin .leq x45 (qi 16) fun x46 =>
 some (x46, h36))) k u x2 u u u u u u u u u u x11 (qi 0) u u u u u u u u u u h3))
theorem p132_ok (k : Nat) : p132 k = funcS k 1 lit132 := by kernel_rfl
def p133 (_ : Nat) : CtxK → List V → TH → R := fun X => ap 2 (fun x0 x1 h2 =>
 kNew (V.cellsR x0) h2 fun x3 h4 =>
 kNew (V.cellsR x1) h4 fun x5 h6 =>
 kNew [(qb 0), qs] h6 fun x7 h8 =>
 kLA 6 x5 h8 fun x11 =>
 kCall X 9 [x11] h8 fun x12 h13 =>
 kNot x12 fun x14 =>
 jc (α := JT) (fun x15 h16 =>
 jc (α := V → TH → PD → R) (fun x20 h21 d22 =>
 jc (α := JT) (fun x24 h25 =>
 jc (α := JT) (fun x27 h28 =>
 jc (α := JT) (fun x30 h31 =>
 jc (α := JT) (fun x33 h34 =>
 jc (α := V → TH → PD → R) (fun x38 h39 d40 =>
 jc (α := JT) (fun x42 h43 =>
 jc (α := V → TH → PD → R) (fun x47 h48 d49 =>
 jc (α := JT) (fun x51 h52 =>
 kPick x14 qt x51 fun x54 =>
 dokS [h8, h52] d49 (brS x54 (kB [(qb 0), qs] [] fun x55 =>
 kSA 2 x7 x55 h52 fun _ h57 =>
 rsS [.cell 4 true 2, .tmp 5] [x0, x1, x3, x5, x7, qf, u, x11, x12, x14, x14, x15, x20, x24, x27, x30, x33, x38, x42, x47, x51, x54, x55, u, u, u, u, u, u, u, u, u, u, u, u, u, u] h57) (kFA 0 x5 fun x58 =>
 kL1 x58 h52 fun x59 =>
 kBin .sub x59 (qb 1) fun x60 =>
 kFA 30 x3 fun x61 =>
 kIA 3 3 x61 x60 fun x62 =>
 kLA 3 x62 h52 fun x63 =>
 kNew [(qw 0), (qb 0), qs] h52 fun x64 h65 =>
 kSA 3 x64 x63 h65 fun _ h67 =>
 kFA 0 x64 fun x68 =>
 kL1 x68 h67 fun x69 =>
 kFA 1 x5 fun x70 =>
 kL1 x70 h67 fun x71 =>
 kEqI false x69 x71 fun x72 =>
 brS x72 (kFA 1 x64 fun x73 =>
 kLA 2 x73 h67 fun x74 =>
 kSA 2 x7 x74 h67 fun _ h76 =>
 rsS [.cell 4 true 2, .tmp 5] [x0, x1, x3, x5, x7, qt, x64, x11, x12, x14, x14, x15, x20, x24, x27, x30, x33, x38, x42, x47, x51, x54, u, x58, x59, x60, x61, x62, x63, x68, x69, x70, x71, x72, x73, x74, u] h76) (kB [(qb 0), qs] [(0, 1, (qb 3))] fun x77 =>
 kSA 2 x7 x77 h67 fun _ h79 =>
 rsS [.cell 4 true 2, .tmp 5] [x0, x1, x3, x5, x7, qt, x64, x11, x12, x14, x14, x15, x20, x24, x27, x30, x33, x38, x42, x47, x51, x54, u, x58, x59, x60, x61, x62, x63, x68, x69, x70, x71, x72, u, u, x77] h79)))) fun j53 =>
 wtS x14 false (kBin .lss x38 x47 fun x80 =>
 j53 x80 h48) (j53 u h48)) fun j50 =>
 wtS x14 false (kL1 x42 h43 fun x81 =>
 j50 x81 h43 d40) (j50 u h43 d40)) fun j44 =>
 wtS x14 false (kFA 1 x5 fun x82 =>
 j44 x82 h39) (j44 u h39)) fun j41 =>
 wtS x14 false (kL1 x33 h34 fun x83 =>
 j41 x83 h34 d22) (j41 u h34 d22)) fun j35 =>
 wtS x14 false (kFA 0 x30 fun x84 =>
 j35 x84 h31) (j35 u h31)) fun j32 =>
 wtS x14 false (kIA 3 3 x27 x24 fun x85 =>
 j32 x85 h28) (j32 u h28)) fun j29 =>
 wtS x14 false (kFA 30 x3 fun x86 =>
 j29 x86 h25) (j29 u h25)) fun j26 =>
 wtS x14 false (kBin .sub x20 (qb 1) fun x87 =>
 j26 x87 h21) (j26 u h21)) fun j23 =>
 wtS x14 false (kL1 x15 h16 fun x88 =>
 j23 x88 h16 []) (j23 u h16 [])) fun j17 =>
 wtS x14 false (kFA 0 x5 fun x89 =>
 j17 x89 h13) (j17 u h13))
theorem p133_ok (k : Nat) : p133 k = funcS k 2 lit133 := by kernel_rfl
def p138 (_ : Nat) : CtxK → List V → TH → R := fun X => ap 2 (fun x0 x1 h2 =>
 kCall X 175 [x0, x1] h2 fun x3 h4 =>
 kBin .geq x3 (qi 0) fun x5 =>
 some (x5, h4))
theorem p138_ok (k : Nat) : p138 k = funcS k 2 lit138 := by kernel_rfl
def p139 (_ : Nat) : CtxK → List V → TH → R := fun X => ap 1 (fun x0 h1 =>
 kNew (V.cellsR x0) h1 fun x2 h3 =>
 kLA 49 x2 h3 fun x4 =>
 kCall X 50 [x4] h3 fun x5 h6 =>
 kNot x5 fun x7 =>
 some (x7, h6))
theorem p139_ok (k : Nat) : p139 k = funcS k 1 lit139 := by kernel_rfl
def p142 (k : Nat) : CtxK → List V → TH → R := fun X => ap 2 (fun x0 x1 h2 =>
 kNew (V.cellsR x0) h2 fun x3 h4 =>
 kLA 16 x3 h4 fun x5 =>
 kCall X 141 [x5] h4 fun x6 h7 =>
 kNot x6 fun x8 =>
 jc (α := JT) (fun x9 h10 =>
 jc (α := JT) (fun x12 h13 =>
 kPick x8 qt x12 fun x15 =>
 brS x15 (some (.nils, h13)) (kLA 16 x3 h13 fun x18 =>
 kLA 16 x3 h13 fun x21 =>
 kCall X 176 [x21] h13 fun x22 h23 =>
 kB [(qw 0), qf, (qi 0), (qb 0), qf, (qi 0), (qb 0), qf, (qi 0), (qb 0), qf, (qi 0), (qb 0), qf, (qi 0), (qb 0), (qb 0), .nils, .nils] [(0, 16, x18), (16, 1, x1), (17, 1, x22)] fun x24 =>
 kNew (V.cellsR x24) h23 fun x25 h26 =>
 dokS [h13, h26] ((fun h16 => kLA 16 x3 h16 fun x17 =>
 some (x17, h16), x18, 0, 1) :: []) (lp (α := Cur 39) (zN 39) (fun n67 _ _ _ _ _ x32 x33 _ _ _ _ _ _ _ _ _ _ _ _ _ _ _ _ _ _ _ _ _ _ _ _ _ _ _ _ _ _ _ _ h66 =>
 kBin .lss x33 (qi 3) fun x68 =>
 jc (α := JT) (fun x69 h70 =>
 jc (α := JT) (fun x72 h73 =>
 jc (α := JT) (fun x75 h76 =>
 jc (α := JT) (fun x78 h79 =>
 jc (α := JT) (fun x81 h82 =>
 jc (α := JT) (fun x84 h85 =>
 kPick x68 x84 qf fun x87 =>
 brS x87 (kCall X 177 [x32, x33] h85 fun _ h89 =>
 kBin .add x33 (qi 1) fun x90 =>
 n67 u u u u u x32 x90 u u u u u u u u u u u u u u u u u u u u u u u u u u u u u u u u h89) (kNilc x32 fun x91 =>
 kFA 18 x91 fun x92 =>
 kL1 x92 h85 fun x93 =>
 some (x93, h85))) fun j86 =>
 wtS x68 true (kBin .gtr x81 (qi 0) fun x94 =>
 j86 x94 h82) (j86 u h82)) fun j83 =>
 wtS x68 true (kLen x78 fun x95 =>
 j83 x95 h79) (j83 u h79)) fun j80 =>
 wtS x68 true (kL1 x75 h76 fun x96 =>
 j80 x96 h76) (j80 u h76)) fun j77 =>
 wtS x68 true (kFA 17 x72 fun x97 =>
 j77 x97 h73) (j77 u h73)) fun j74 =>
 wtS x68 true (kNilc x69 fun x98 =>
 j74 x98 h70) (j74 u h70)) fun j71 =>
 wtS x68 true (j71 x32 h66) (j71 u h66)) k u u u u u x25 (qi 0) u u u u u u u u u u u u u u u u u u u u u u u u u u u u u u u u h26))) fun j14 =>
 wtS x8 false (kBin .geq x9 (qb 4) fun x99 =>
 j14 x99 h10) (j14 u h10)) fun j11 =>
 wtS x8 false (j11 x1 h7) (j11 u h7))
theorem p142_ok (k : Nat) : p142 k = funcS k 2 lit142 := by kernel_rfl
def p143 (_ : Nat) : CtxK → List V → TH → R := fun _ => ap 2 (fun x0 x1 h2 =>
 kFA 1 x1 fun x3 =>
 kIA 5 3 x3 x0 fun x4 =>
 kFA 0 x4 fun x5 =>
 kL1 x5 h2 fun x6 =>
 kNot x6 fun x7 =>
 some (x7, h2))
theorem p143_ok (k : Nat) : p143 k = funcS k 2 lit143 := by kernel_rfl
def p160 (_ : Nat) : CtxK → List V → TH → R := fun X => ap 3 (fun x0 x1 x2 h3 =>
 kNew zr1 h3 fun x4 h5 =>
 kL1 x1 h5 fun x6 =>
 kLA 8 x2 h5 fun x7 =>
 kCall X 47 [x6, x0, x7] h5 fun x8 h9 =>
 kSA 131 x4 x8 h9 fun _ h11 =>
 rsS [.cell 4 true 131] [x0, x1, x2, u, x4, x6, x0, x7, x8] h11)
theorem p160_ok (k : Nat) : p160 k = funcS k 3 lit160 := by kernel_rfl
def p163 (k : Nat) : CtxK → List V → TH → R := fun _ => ap 2 (fun x0 x1 h2 =>
 kLen x0 fun x3 =>
 lp (α := Cur 19) (zN 19) (fun n24 x4 x5 _ _ _ _ _ x11 x12 _ _ _ _ _ _ _ _ _ _ h23 =>
 kBin .lss x12 x11 fun x25 =>
 brS x25 (kIS 1 x4 x12 fun x26 =>
 kL1 x26 h23 fun x27 =>
 kEq' false (.leaf .bool) x5 x27 fun x28 =>
 brS x28 (some (x12, h23)) (kBin .add x12 (qi 1) fun x29 =>
 n24 x4 x5 u u u u u x11 x29 u u u u u u u u u u h23)) (some ((.int .i64 (-1)), h23))) k x0 x1 u u u u u x3 (qi 0) u u u u u u u u u u h2)
theorem p163_ok (k : Nat) : p163 k = funcS k 2 lit163 := by kernel_rfl
def p183 (_ : Nat) : CtxK → List V → TH → R := fun _ => ap 1 (fun x0 h1 =>
 kEqI true x0 x0 fun x2 =>
 some (x2, h1))
theorem p183_ok (k : Nat) : p183 k = funcS k 1 lit183 := by kernel_rfl
def p190 (_ : Nat) : CtxK → List V → TH → R := fun X => ap 2 (fun x0 x1 h2 =>
 kNew (V.cellsR x0) h2 fun x3 h4 =>
 kFA 40 x3 fun x5 =>
 kFA 1 x5 fun x6 =>
 kL1 x6 h4 fun x7 =>
 kBin .lss x1 x7 fun x8 =>
 jc (α := JT) (fun x9 h10 =>
 jc (α := JT) (fun x12 h13 =>
 jc (α := JT) (fun x15 h16 =>
 jc (α := JT) (fun x18 h19 =>
 jc (α := JT) (fun x21 h22 =>
 kPick x8 qt x21 fun x24 =>
 brS x24 (some ((.int .i64 (-1)), h22)) (kFA 40 x3 fun x25 =>
 kFA 1 x25 fun x26 =>
 kL1 x26 h22 fun x27 =>
 kBin .sub x1 x27 fun x28 =>
 kConv .i64 x28 fun x29 =>
 some (x29, h22))) fun j23 =>
 wtS x8 false (kBin .gtr x9 x18 fun x30 =>
 j23 x30 h19) (j23 u h19)) fun j20 =>
 wtS x8 false (kP (fieldE false 1 1 x15) fun x31 =>
 j20 x31 h16) (j20 u h16)) fun j17 =>
 wtS x8 false (kCall X 51 [x12] h13 fun x32 h33 =>
 j17 x32 h33) (j17 u h13)) fun j14 =>
 wtS x8 false (kLA 49 x3 h10 fun x34 =>
 j14 x34 h10) (j14 u h10)) fun j11 =>
 wtS x8 false (j11 x1 h4) (j11 u h4))
theorem p190_ok (k : Nat) : p190 k = funcS k 2 lit190 := by kernel_rfl
def p192 (_ : Nat) : CtxK → List V → TH → R := fun _ => ap 1 (fun x0 h1 =>
 kEq' false (.nilR .sl) x0 .nils fun x2 =>
 brS x2 (some (.nils, h1)) (kBS 2 [(qw 0), .nils] 0 [] h1 fun x3 h4 =>
 kAp 2 32 x3 x0 h4 fun x5 h6 =>
 some (x5, h6)))
theorem p192_ok (k : Nat) : p192 k = funcS k 1 lit192 := by kernel_rfl
def p193 (_ : Nat) : CtxK → List V → TH → R := fun X => ap 2 (fun x0 x1 h2 =>
 kNew (V.cellsR x0) h2 fun x3 h4 =>
 kFA 0 x3 fun x5 =>
 kL1 x5 h4 fun x6 =>
 kCall X 54 [x6, x1] h4 fun x7 h8 =>
 some (x7, h8))
theorem p193_ok (k : Nat) : p193 k = funcS k 2 lit193 := by kernel_rfl
def p197 (_ : Nat) : CtxK → List V → TH → R := fun X => ap 2 (fun x0 x1 h2 =>
 kNew (V.cellsR x0) h2 fun x3 h4 =>
 kNew (V.cellsR x1) h4 fun x5 h6 =>
 kL1 x3 h6 fun x7 =>
 kNilc x7 fun x8 =>
 kFA 18 x8 fun x9 =>
 kL1 x9 h6 fun x10 =>
 kCall X 137 [x10, (.fn 203 [] [x5, x3])] h6 fun x11 h12 =>
 kNot x11 fun x13 =>
 some (x13, h12))
theorem p197_ok (k : Nat) : p197 k = funcS k 2 lit197 := by kernel_rfl
def p200 (k : Nat) : CtxK → List V → TH → R := fun X => ap 2 (fun x0 x1 h2 =>
 kEqI false x1 (qi 0) fun x3 =>
 brS x3 (some (qs, h2)) (kEqI false x1 (qi 1) fun x4 =>
 brS x4 (some (x0, h2)) (kBin .lss x1 (qi 0) fun x5 =>
 jc (α := Cur 125) (fun x6 x7 _ _ _ _ _ _ _ _ _ _ _ _ _ _ _ _ _ _ _ _ _ _ _ _ _ _ _ _ _ _ _ _ _ _ _ _ _ _ _ _ _ _ _ _ _ _ _ _ _ _ _ _ _ _ _ _ _ _ _ _ _ _ _ _ _ _ _ _ _ _ _ _ _ _ _ _ _ _ _ _ _ _ _ _ _ _ _ _ _ _ _ _ _ _ _ _ _ _ _ _ _ _ _ _ _ _ _ _ _ _ _ _ _ _ _ _ _ _ _ _ _ _ _ h131 =>
 kP (lenV true x6) fun x133 =>
 kConv .u64 x133 fun x134 =>
 kConv .u64 x7 fun x135 =>
 kCall X 205 [x134, x135] h131 fun x136 h137 =>
 kExt x136 0 fun x138 =>
 kExt x136 1 fun x139 =>
 kBin .gtr x138 (.int .u64 0) fun x140 =>
 jc (α := JT) (fun x141 h142 =>
 jc (α := JT) (fun x144 h145 =>
 kPick x140 qt x144 fun x147 =>
 jc (α := Cur 125) (fun x148 _ _ _ _ _ x154 _ _ _ _ _ _ _ _ _ _ _ _ _ _ _ _ _ _ _ _ _ _ _ _ _ _ _ _ _ _ _ _ _ _ _ _ _ _ _ _ _ _ _ _ _ _ _ _ _ _ _ _ _ _ _ _ _ _ _ _ _ _ _ _ _ _ _ _ _ _ _ _ _ _ _ _ _ _ _ _ _ _ _ _ _ _ _ _ _ _ _ _ _ _ _ _ _ _ _ _ _ _ _ _ _ _ _ _ _ _ _ _ _ _ _ _ _ _ h273 =>
 kConv .i64 x154 fun x275 =>
 kP (lenV true x148) fun x276 =>
 kEqI false x276 (qi 0) fun x277 =>
 brS x277 (some (qs, h273)) (kP (indexE none x148 (qi 0)) fun x278 =>
 kEqI false x278 (qb 32) fun x279 =>
 jc (α := Cur 125) (fun x280 _ _ _ _ _ _ x287 _ _ _ _ _ _ _ _ _ _ _ _ _ _ _ _ _ _ _ _ _ _ _ _ _ _ _ _ _ _ _ _ _ _ _ x323 _ _ _ _ _ _ _ _ _ _ _ _ _ _ _ _ _ _ _ _ _ _ _ _ _ _ _ _ _ _ _ _ _ _ _ _ _ _ _ _ _ _ _ _ _ _ _ _ _ _ _ _ _ _ _ _ _ _ _ _ _ _ _ _ _ _ _ _ _ _ _ _ _ _ _ _ _ _ _ _ _ h405 =>
 jc (α := Cur 125) (fun x407 _ _ _ _ _ _ x414 _ _ _ _ _ _ _ _ _ _ _ _ _ _ _ _ _ _ _ _ _ _ _ _ _ _ _ _ _ _ _ _ _ _ _ _ _ _ _ _ _ _ _ _ _ _ _ _ _ _ _ _ _ _ _ _ _ _ _ _ _ _ _ _ _ _ _ _ _ _ _ _ _ _ _ _ _ _ _ _ _ _ _ _ _ _ _ _ _ _ _ _ _ _ _ _ _ _ _ _ _ _ _ _ _ _ _ _ _ _ _ _ _ _ _ _ _ h532 =>
 kBin .gtr x414 (qi 8192) fun x534 =>
 jc (α := Cur 125) (fun x535 _ _ _ _ _ _ x542 x543 _ _ _ _ _ _ _ _ _ _ _ _ _ _ _ _ _ _ _ _ _ _ _ _ _ _ _ _ _ _ _ _ _ _ _ _ _ _ _ _ _ _ _ _ _ _ _ _ _ _ _ _ _ _ _ _ _ _ _ _ _ _ _ _ _ _ _ _ _ _ _ _ _ _ _ _ _ _ _ _ _ _ _ _ _ _ _ _ _ _ _ _ _ _ _ _ _ _ _ _ _ _ _ _ _ _ _ _ _ _ _ _ _ _ _ _ h660 =>
 kNew [.nilptr, .nils] h660 fun x662 h663 =>
 kCall X 207 [x662, x542] h663 fun _ h665 =>
 kCall X 208 [x662, x535] h665 fun _ h667 =>
 lp (α := Cur 125) (zN 125) (fun _ _ _ _ _ _ _ _ x675 _ x677 _ _ _ _ _ _ _ _ _ _ _ _ _ _ _ _ _ _ _ _ _ _ _ _ _ _ _ _ _ _ _ _ _ _ _ _ _ _ _ _ _ _ _ _ _ _ _ _ _ _ _ _ _ _ _ _ _ _ _ _ _ _ _ _ _ _ _ _ _ _ _ _ _ _ _ _ _ _ _ _ _ _ _ _ _ _ _ _ _ _ _ _ _ _ _ _ _ _ _ _ _ _ _ _ _ _ _ _ _ _ _ _ _ _ _ h793 =>
 kCall X 209 [x677] h793 fun x795 h796 =>
 kBin .lss x795 x675 fun x797 =>
 brS x797 (kCall X 209 [x677] h796 fun x798 h799 =>
 kBin .sub x675 x798 fun _ =>
 kCall X 209 [x677] h799 fun _ _ =>
 none) (kCall X 210 [x677] h796 fun x803 h804 =>
 some (x803, h804))) k u u u u u u u x542 x543 x662 u u u u u u u u u u u u u u u u u u u u u u u u u u u u u u u u u u u u u u u u u u u u u u u u u u u u u u u u u u u u u u u u u u u u u u u u u u u u u u u u u u u u u u u u u u u u u u u u u u u u u u u u u u u u u u u u u u u h667) fun j661 =>
 brS x534 (kP (lenV true x407) fun x805 =>
 kBin .quo (qi 8192) x805 fun x806 =>
 kP (lenV true x407) fun x807 =>
 kBin .mul x806 x807 fun x808 =>
 kEqI false x808 (qi 0) fun x809 =>
 jc (α := Cur 125) (fun x810 _ _ _ _ _ _ x817 x818 _ _ _ _ _ _ _ _ _ _ _ _ _ _ _ _ _ _ _ _ _ _ _ _ _ _ _ _ _ _ _ _ _ _ _ _ _ _ _ _ _ _ _ _ _ _ _ _ _ _ _ _ _ _ _ _ _ _ _ _ _ _ _ _ _ _ _ _ _ _ _ _ _ _ _ _ _ _ _ _ _ _ _ _ _ _ _ _ _ _ _ _ _ _ _ _ _ _ _ _ _ _ _ _ _ _ _ _ _ _ _ _ _ _ _ _ h935 =>
 j661 x810 u u u u u u x817 x818 u u u u u u u u u u u u u u u u u u u u u u u u u u u u u u u u u u u u u u u u u u u u u u u u u u u u u u u u u u u u u u u u u u u u u u u u u u u u u u u u u u u u u u u u u u u u u u u u u u u u u u u u u u u u u u u u u u u u h935) fun j936 =>
 brS x809 (kP (lenV true x407) fun x937 =>
 j936 x407 u u u u u u x414 x937 u u u u u u u u u u u u u u u u u u u u u u u u u u u u u u u u u u u u u u u u u u u u u u u u u u u u u u u u u u u u u u u u u u u u u u u u u u u u u u u u u u u u u u u u u u u u u u u u u u u u u u u u u u u u u u u u u u u u h532) (j936 x407 u u u u u u x414 x808 u u u u u u u u u u u u u u u u u u u u u u u u u u u u u u u u u u u u u u u u u u u u u u u u u u u u u u u u u u u u u u u u u u u u u u u u u u u u u u u u u u u u u u u u u u u u u u u u u u u u u u u u u u u u u u u u u u u u h532)) (j661 x407 u u u u u u x414 x414 u u u u u u u u u u u u u u u u u u u u u u u u u u u u u u u u u u u u u u u u u u u u u u u u u u u u u u u u u u u u u u u u u u u u u u u u u u u u u u u u u u u u u u u u u u u u u u u u u u u u u u u u u u u u u u u u u u u u h532)) fun j533 =>
 brS x323 (kBin .leq x287 (qi 128) fun x938 =>
 jc (α := JT) (fun x939 h940 =>
 jc (α := JT) (fun x942 h943 =>
 kPick x938 x942 qf fun x945 =>
 brS x945 (kP (subsE (.str (bs [32, 32, 32, 32, 32, 32, 32, 32, 32, 32, 32, 32, 32, 32, 32, 32, 32, 32, 32, 32, 32, 32, 32, 32, 32, 32, 32, 32, 32, 32, 32, 32, 32, 32, 32, 32, 32, 32, 32, 32, 32, 32, 32, 32, 32, 32, 32, 32, 32, 32, 32, 32, 32, 32, 32, 32, 32, 32, 32, 32, 32, 32, 32, 32, 32, 32, 32, 32, 32, 32, 32, 32, 32, 32, 32, 32, 32, 32, 32, 32, 32, 32, 32, 32, 32, 32, 32, 32, 32, 32, 32, 32, 32, 32, 32, 32, 32, 32, 32, 32, 32, 32, 32, 32, 32, 32, 32, 32, 32, 32, 32, 32, 32, 32, 32, 32, 32, 32, 32, 32, 32, 32, 32, 32, 32, 32, 32, 32])) none (some x287)) fun x946 =>
 some (x946, h943)) (kBin .leq x287 (qi 128) fun x947 =>
 jc (α := JT) (fun x948 h949 =>
 jc (α := JT) (fun x951 h952 =>
 kPick x947 x951 qf fun x954 =>
 brS x954 (kP (subsE (.str (bs [45, 45, 45, 45, 45, 45, 45, 45, 45, 45, 45, 45, 45, 45, 45, 45, 45, 45, 45, 45, 45, 45, 45, 45, 45, 45, 45, 45, 45, 45, 45, 45, 45, 45, 45, 45, 45, 45, 45, 45, 45, 45, 45, 45, 45, 45, 45, 45, 45, 45, 45, 45, 45, 45, 45, 45, 45, 45, 45, 45, 45, 45, 45, 45, 45, 45, 45, 45, 45, 45, 45, 45, 45, 45, 45, 45, 45, 45, 45, 45, 45, 45, 45, 45, 45, 45, 45, 45, 45, 45, 45, 45, 45, 45, 45, 45, 45, 45, 45, 45, 45, 45, 45, 45, 45, 45, 45, 45, 45, 45, 45, 45, 45, 45, 45, 45, 45, 45, 45, 45, 45, 45, 45, 45, 45, 45, 45, 45])) none (some x287)) fun x955 =>
 some (x955, h952)) (kBin .leq x287 (qi 64) fun x956 =>
 jc (α := JT) (fun x957 h958 =>
 jc (α := JT) (fun x960 h961 =>
 kPick x956 x960 qf fun x963 =>
 brS x963 (kP (subsE (.str (bs [48, 48, 48, 48, 48, 48, 48, 48, 48, 48, 48, 48, 48, 48, 48, 48, 48, 48, 48, 48, 48, 48, 48, 48, 48, 48, 48, 48, 48, 48, 48, 48, 48, 48, 48, 48, 48, 48, 48, 48, 48, 48, 48, 48, 48, 48, 48, 48, 48, 48, 48, 48, 48, 48, 48, 48, 48, 48, 48, 48, 48, 48, 48, 48])) none (some x287)) fun x964 =>
 some (x964, h961)) (kBin .leq x287 (qi 128) fun x965 =>
 jc (α := JT) (fun x966 h967 =>
 jc (α := JT) (fun x969 h970 =>
 kPick x965 x969 qf fun x972 =>
 brS x972 (kP (subsE (.str (bs [61, 61, 61, 61, 61, 61, 61, 61, 61, 61, 61, 61, 61, 61, 61, 61, 61, 61, 61, 61, 61, 61, 61, 61, 61, 61, 61, 61, 61, 61, 61, 61, 61, 61, 61, 61, 61, 61, 61, 61, 61, 61, 61, 61, 61, 61, 61, 61, 61, 61, 61, 61, 61, 61, 61, 61, 61, 61, 61, 61, 61, 61, 61, 61, 61, 61, 61, 61, 61, 61, 61, 61, 61, 61, 61, 61, 61, 61, 61, 61, 61, 61, 61, 61, 61, 61, 61, 61, 61, 61, 61, 61, 61, 61, 61, 61, 61, 61, 61, 61, 61, 61, 61, 61, 61, 61, 61, 61, 61, 61, 61, 61, 61, 61, 61, 61, 61, 61, 61, 61, 61, 61, 61, 61, 61, 61, 61, 61])) none (some x287)) fun x973 =>
 some (x973, h970)) (kBin .leq x287 (qi 64) fun x974 =>
 jc (α := JT) (fun x975 h976 =>
 jc (α := JT) (fun x978 h979 =>
 kPick x974 x978 qf fun x981 =>
 brS x981 (kP (subsE (.str (bs [9, 9, 9, 9, 9, 9, 9, 9, 9, 9, 9, 9, 9, 9, 9, 9, 9, 9, 9, 9, 9, 9, 9, 9, 9, 9, 9, 9, 9, 9, 9, 9, 9, 9, 9, 9, 9, 9, 9, 9, 9, 9, 9, 9, 9, 9, 9, 9, 9, 9, 9, 9, 9, 9, 9, 9, 9, 9, 9, 9, 9, 9, 9, 9])) none (some x287)) fun x982 =>
 some (x982, h979)) (j533 x280 u u u u u u x287 u u u u u u u u u u u u u u u u u u u u u u u u u u u u u u u u u u u u u u u u u u u u u u u u u u u u u u u u u u u u u u u u u u u u u u u u u u u u u u u u u u u u u u u u u u u u u u u u u u u u u u u u u u u u u u u u u u u u u h979)) fun j980 =>
 wtS x974 true (kCall X 206 [(.str (bs [9, 9, 9, 9, 9, 9, 9, 9, 9, 9, 9, 9, 9, 9, 9, 9, 9, 9, 9, 9, 9, 9, 9, 9, 9, 9, 9, 9, 9, 9, 9, 9, 9, 9, 9, 9, 9, 9, 9, 9, 9, 9, 9, 9, 9, 9, 9, 9, 9, 9, 9, 9, 9, 9, 9, 9, 9, 9, 9, 9, 9, 9, 9, 9])), x975] h976 fun x983 h984 =>
 j980 x983 h984) (j980 u h976)) fun j977 =>
 wtS x974 true (j977 x280 h970) (j977 u h970))) fun j971 =>
 wtS x965 true (kCall X 206 [(.str (bs [61, 61, 61, 61, 61, 61, 61, 61, 61, 61, 61, 61, 61, 61, 61, 61, 61, 61, 61, 61, 61, 61, 61, 61, 61, 61, 61, 61, 61, 61, 61, 61, 61, 61, 61, 61, 61, 61, 61, 61, 61, 61, 61, 61, 61, 61, 61, 61, 61, 61, 61, 61, 61, 61, 61, 61, 61, 61, 61, 61, 61, 61, 61, 61, 61, 61, 61, 61, 61, 61, 61, 61, 61, 61, 61, 61, 61, 61, 61, 61, 61, 61, 61, 61, 61, 61, 61, 61, 61, 61, 61, 61, 61, 61, 61, 61, 61, 61, 61, 61, 61, 61, 61, 61, 61, 61, 61, 61, 61, 61, 61, 61, 61, 61, 61, 61, 61, 61, 61, 61, 61, 61, 61, 61, 61, 61, 61, 61])), x966] h967 fun x985 h986 =>
 j971 x985 h986) (j971 u h967)) fun j968 =>
 wtS x965 true (j968 x280 h961) (j968 u h961))) fun j962 =>
 wtS x956 true (kCall X 206 [(.str (bs [48, 48, 48, 48, 48, 48, 48, 48, 48, 48, 48, 48, 48, 48, 48, 48, 48, 48, 48, 48, 48, 48, 48, 48, 48, 48, 48, 48, 48, 48, 48, 48, 48, 48, 48, 48, 48, 48, 48, 48, 48, 48, 48, 48, 48, 48, 48, 48, 48, 48, 48, 48, 48, 48, 48, 48, 48, 48, 48, 48, 48, 48, 48, 48])), x957] h958 fun x987 h988 =>
 j962 x987 h988) (j962 u h958)) fun j959 =>
 wtS x956 true (j959 x280 h952) (j959 u h952))) fun j953 =>
 wtS x947 true (kCall X 206 [(.str (bs [45, 45, 45, 45, 45, 45, 45, 45, 45, 45, 45, 45, 45, 45, 45, 45, 45, 45, 45, 45, 45, 45, 45, 45, 45, 45, 45, 45, 45, 45, 45, 45, 45, 45, 45, 45, 45, 45, 45, 45, 45, 45, 45, 45, 45, 45, 45, 45, 45, 45, 45, 45, 45, 45, 45, 45, 45, 45, 45, 45, 45, 45, 45, 45, 45, 45, 45, 45, 45, 45, 45, 45, 45, 45, 45, 45, 45, 45, 45, 45, 45, 45, 45, 45, 45, 45, 45, 45, 45, 45, 45, 45, 45, 45, 45, 45, 45, 45, 45, 45, 45, 45, 45, 45, 45, 45, 45, 45, 45, 45, 45, 45, 45, 45, 45, 45, 45, 45, 45, 45, 45, 45, 45, 45, 45, 45, 45, 45])), x948] h949 fun x989 h990 =>
 j953 x989 h990) (j953 u h949)) fun j950 =>
 wtS x947 true (j950 x280 h943) (j950 u h943))) fun j944 =>
 wtS x938 true (kCall X 206 [(.str (bs [32, 32, 32, 32, 32, 32, 32, 32, 32, 32, 32, 32, 32, 32, 32, 32, 32, 32, 32, 32, 32, 32, 32, 32, 32, 32, 32, 32, 32, 32, 32, 32, 32, 32, 32, 32, 32, 32, 32, 32, 32, 32, 32, 32, 32, 32, 32, 32, 32, 32, 32, 32, 32, 32, 32, 32, 32, 32, 32, 32, 32, 32, 32, 32, 32, 32, 32, 32, 32, 32, 32, 32, 32, 32, 32, 32, 32, 32, 32, 32, 32, 32, 32, 32, 32, 32, 32, 32, 32, 32, 32, 32, 32, 32, 32, 32, 32, 32, 32, 32, 32, 32, 32, 32, 32, 32, 32, 32, 32, 32, 32, 32, 32, 32, 32, 32, 32, 32, 32, 32, 32, 32, 32, 32, 32, 32, 32, 32])), x939] h940 fun x991 h992 =>
 j944 x991 h992) (j944 u h940)) fun j941 =>
 wtS x938 true (j941 x280 h405) (j941 u h405)) (j533 x280 u u u u u u x287 u u u u u u u u u u u u u u u u u u u u u u u u u u u u u u u u u u u u u u u u u u u u u u u u u u u u u u u u u u u u u u u u u u u u u u u u u u u u u u u u u u u u u u u u u u u u u u u u u u u u u u u u u u u u u u u u u u u u u h405)) fun j406 =>
 brS x279 (j406 x148 u u u u u u x275 u u u u u u u u u u u u u u u u u u u u u u u u u u u u u u u u u u u x279 u u u u u u u u u u u u u u u u u u u u u u u u u u u u u u u u u u u u u u u u u u u u u u u u u u u u u u u u u u u u u u u u u u u u u u u u u u u u u u u u u h273) (kEqI false x278 (qb 45) fun x993 =>
 jc (α := Cur 125) (fun x994 _ _ _ _ _ _ x1001 _ _ _ _ _ _ _ _ _ _ _ _ _ _ _ _ _ _ _ _ _ _ _ _ _ _ _ _ _ _ _ _ _ _ _ x1037 _ _ _ _ _ _ _ _ _ _ _ _ _ _ _ _ _ _ _ _ _ _ _ _ _ _ _ _ _ _ _ _ _ _ _ _ _ _ _ _ _ _ _ _ _ _ _ _ _ _ _ _ _ _ _ _ _ _ _ _ _ _ _ _ _ _ _ _ _ _ _ _ _ _ _ _ _ _ _ _ _ h1119 =>
 j406 x994 u u u u u u x1001 u u u u u u u u u u u u u u u u u u u u u u u u u u u u u u u u u u u x1037 u u u u u u u u u u u u u u u u u u u u u u u u u u u u u u u u u u u u u u u u u u u u u u u u u u u u u u u u u u u u u u u u u u u u u u u u u u u u u u u u u h1119) fun j1120 =>
 brS x993 (j1120 x148 u u u u u u x275 u u u u u u u u u u u u u u u u u u u u u u u u u u u u u u u u u u u x993 u u u u u u u u u u u u u u u u u u u u u u u u u u u u u u u u u u u u u u u u u u u u u u u u u u u u u u u u u u u u u u u u u u u u u u u u u u u u u u u u u h273) (kEqI false x278 (qb 48) fun x1121 =>
 jc (α := Cur 125) (fun x1122 _ _ _ _ _ _ x1129 _ _ _ _ _ _ _ _ _ _ _ _ _ _ _ _ _ _ _ _ _ _ _ _ _ _ _ _ _ _ _ _ _ _ _ x1165 _ _ _ _ _ _ _ _ _ _ _ _ _ _ _ _ _ _ _ _ _ _ _ _ _ _ _ _ _ _ _ _ _ _ _ _ _ _ _ _ _ _ _ _ _ _ _ _ _ _ _ _ _ _ _ _ _ _ _ _ _ _ _ _ _ _ _ _ _ _ _ _ _ _ _ _ _ _ _ _ _ h1247 =>
 j1120 x1122 u u u u u u x1129 u u u u u u u u u u u u u u u u u u u u u u u u u u u u u u u u u u u x1165 u u u u u u u u u u u u u u u u u u u u u u u u u u u u u u u u u u u u u u u u u u u u u u u u u u u u u u u u u u u u u u u u u u u u u u u u u u u u u u u u u h1247) fun j1248 =>
 brS x1121 (j1248 x148 u u u u u u x275 u u u u u u u u u u u u u u u u u u u u u u u u u u u u u u u u u u u x1121 u u u u u u u u u u u u u u u u u u u u u u u u u u u u u u u u u u u u u u u u u u u u u u u u u u u u u u u u u u u u u u u u u u u u u u u u u u u u u u u u u h273) (kEqI false x278 (qb 61) fun x1249 =>
 jc (α := Cur 125) (fun x1250 _ _ _ _ _ _ x1257 _ _ _ _ _ _ _ _ _ _ _ _ _ _ _ _ _ _ _ _ _ _ _ _ _ _ _ _ _ _ _ _ _ _ _ x1293 _ _ _ _ _ _ _ _ _ _ _ _ _ _ _ _ _ _ _ _ _ _ _ _ _ _ _ _ _ _ _ _ _ _ _ _ _ _ _ _ _ _ _ _ _ _ _ _ _ _ _ _ _ _ _ _ _ _ _ _ _ _ _ _ _ _ _ _ _ _ _ _ _ _ _ _ _ _ _ _ _ h1375 =>
 j1248 x1250 u u u u u u x1257 u u u u u u u u u u u u u u u u u u u u u u u u u u u u u u u u u u u x1293 u u u u u u u u u u u u u u u u u u u u u u u u u u u u u u u u u u u u u u u u u u u u u u u u u u u u u u u u u u u u u u u u u u u u u u u u u u u u u u u u u h1375) fun j1376 =>
 brS x1249 (j1376 x148 u u u u u u x275 u u u u u u u u u u u u u u u u u u u u u u u u u u u u u u u u u u u x1249 u u u u u u u u u u u u u u u u u u u u u u u u u u u u u u u u u u u u u u u u u u u u u u u u u u u u u u u u u u u u u u u u u u u u u u u u u u u u u u u u u h273) (kEqI false x278 (qb 9) fun x1377 =>
 j1376 x148 u u u u u u x275 u u u u u u u u u u u u u u u u u u u u u u u u u u u u u u u u u u u x1377 u u u u u u u u u u u u u u u u u u u u u u u u u u u u u u u u u u u u u u u u u u u u u u u u u u u u u u u u u u u u u u u u u u u u u u u u u u u u u u u u u h273)))))) fun j274 =>
 brS x147 (none) (j274 x6 u u u u u x139 u u u u u u u u u u u u u u u u u u u u u u u u u u u u u u u u u u u u u u u u u u u u u u u u u u u u u u u u u u u u u u u u u u u u u u u u u u u u u u u u u u u u u u u u u u u u u u u u u u u u u u u u u u u u u u u u u u u u u u h145)) fun j146 =>
 wtS x140 false (kBin .gtr x141 (.int .u64 9223372036854775807) fun x1378 =>
 j146 x1378 h142) (j146 u h142)) fun j143 =>
 wtS x140 false (j143 x139 h137) (j143 u h137)) fun j132 =>
 brS x5 (none) (j132 x0 x1 u u u u u u u u u u u u u u u u u u u u u u u u u u u u u u u u u u u u u u u u u u u u u u u u u u u u u u u u u u u u u u u u u u u u u u u u u u u u u u u u u u u u u u u u u u u u u u u u u u u u u u u u u u u u u u u u u u u u u u u u u u u h2))))
theorem p200_ok (k : Nat) : p200 k = funcS k 2 lit200 := by kernel_rfl
def p222 (k : Nat) : CtxK → List V → TH → R := fun X => ap 1 (fun x0 h1 =>
 kP (minE true x0 (qw 1)) fun x2 =>
 kP (minE false x2 (qw 65536)) fun x3 =>
 kCall X 153 [x3] h1 fun x4 h5 =>
 kBin .sub x4 (qi 1) fun x6 =>
 kConv .u64 x3 fun x7 =>
 kBin .sub (qi 31) x6 fun x8 =>
 kBin .shl x7 x8 fun x9 =>
 kB [(.int .u64 0), (qi 0)] [(0, 1, x9)] fun x10 =>
 kNew (V.cellsR x10) h5 fun x11 h12 =>
 lp (α := Cur 33) (zN 33) (fun n47 _ _ _ x16 x17 x18 _ _ _ _ _ _ _ _ _ _ _ _ _ _ _ x34 _ _ _ _ _ _ _ _ _ _ _ h46 =>
 kBin .lss x34 (qi 16) fun x48 =>
 brS x48 (kCv X x18 [] h46 fun _ h50 =>
 kBin .add x34 (qi 1) fun x51 =>
 n47 u u u x16 x17 x18 u u u u u u u u u u u u u u u x51 u u u u u u u u u u u h50) (kBin .shl x16 (.int .u64 16) fun x52 =>
 kNilc x17 fun x53 =>
 kFA 1 x53 fun x54 =>
 kL1 x54 h46 fun x55 =>
 kBin .add x52 x55 fun x56 =>
 some (x56, h46))) k u u u x6 x11 (.fn 229 [x11] []) u u u u u u u u u u u u u u u (qi 0) u u u u u u u u u u u h12)
theorem p222_ok (k : Nat) : p222 k = funcS k 1 lit222 := by kernel_rfl
end
end Go.PE
